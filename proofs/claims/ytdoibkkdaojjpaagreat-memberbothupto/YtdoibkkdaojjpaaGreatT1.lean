/-
 The tables of this seat, and the law's own awakening.
-/
import Derived.Test.YtdoibkkdaojjpaaGreatProg
import Derived.KernelRfl
import Derived.Test.YtdoibkkdaojjpaaGreatV2
set_option linter.all false
namespace Go.Proofs.YtdoibkkdaojjpaaGreat
open Go.VE Go.Proofs
instance:aS:=⟨λ_=>none,λ_ _ h=>nomatch h⟩
noncomputable def EA:Env:=Bg Tryz.prog [0,1,163,110] [140,114,21,146,166,163,124,149] [140,114,21,146] [(95,2),(146,8)] (λf=>Nat.beq f 163) λf az=>(if Nat.beq f 110 then sJ 8 az else none)
noncomputable def E:Env:=Bg Tryz.prog [0,1,163,110,8] [140,114,21,146,166,163,124,149] [140,114,21,146] [(95,2),(146,8)] (λf=>Nat.beq f 163) λf az=>if Nat.beq f 8 then(if az.isEmpty then some (.bool true)else none)else(if Nat.beq f 110 then sJ 8 az else none)
theorem TL:yS Tryz.prog=true:=by kernel_rfl
theorem Ur:q_ Tryz.prog 95 2:=q_.two (i:=3) Tryz.underlying95 rfl rfl rfl rfl (by decide) (by decide) (by kernel_rfl) Tryz.underlying3 (by kernel_rfl) (by kernel_rfl)
theorem SE:q_ Tryz.prog 146 8:=q_.arr (i:=3) Tryz.underlying146 (by kernel_rfl) Tryz.underlying3 (by kernel_rfl)
theorem P5:∀p∈[(95,2),(146,8)],q_ Tryz.prog p.1 p.2:=λp h=>match p,h with|_,.head _=>Ur|_,.tail _ (.head _)=>SE
theorem QF:dx Tryz.prog EA:=En TL P5
theorem SU:dx Tryz.prog E:=En TL P5
theorem mixed:Tryz.prog.follows .mixedOrders=true:=by kernel_rfl
open Go.Shelf
def Tryz.w8:Go.Shelf.Ren:=⟨λ|6=>163|15=>182|14=>181|28=>199|29=>200|20=>191|21=>192|22=>193|23=>194|24=>195|25=>196|26=>197|27=>198|46=>201|47=>202|48=>203|49=>204|50=>205|57=>206|n=>n,λ|22=>35|24=>28|25=>199|3=>3|39=>201|0=>0|53=>229|55=>231|4=>4|46=>223|45=>222|50=>149|5=>5|9=>9|66=>232|70=>236|76=>238|77=>239|n=>n,λ|n=>n⟩
theorem Tryz.ML:Go.Proofs.SlLaysF.n6 Tryz.prog Tryz.w8:={
 mixed:=by kernel_rfl
 f6:=⟨Tryz.f163.name,by decide,Tryz.func163.trans (congrArg some (by kernel_rfl))⟩
 f14:=⟨Tryz.f181.name,by decide,Tryz.func181.trans (congrArg some (by kernel_rfl))⟩
 f15:=Tryz.func182.trans (congrArg some (by kernel_rfl))
 f20:=⟨Tryz.f191.name,by decide,Tryz.func191.trans (congrArg some (by kernel_rfl))⟩
 f21:=⟨Tryz.f192.name,by decide,Tryz.func192.trans (congrArg some (by kernel_rfl))⟩
 f22:=⟨Tryz.f193.name,by decide,Tryz.func193.trans (congrArg some (by kernel_rfl))⟩
 f23:=⟨Tryz.f194.name,by decide,Tryz.func194.trans (congrArg some (by kernel_rfl))⟩
 f24:=⟨Tryz.f195.name,by decide,Tryz.func195.trans (congrArg some (by kernel_rfl))⟩
 f25:=⟨Tryz.f196.name,by decide,Tryz.func196.trans (congrArg some (by kernel_rfl))⟩
 f26:=⟨Tryz.f197.name,by decide,Tryz.func197.trans (congrArg some (by kernel_rfl))⟩
 f27:=⟨Tryz.f198.name,by decide,Tryz.func198.trans (congrArg some (by kernel_rfl))⟩
 f28:=Tryz.func199.trans (congrArg some (by kernel_rfl))
 f29:=Tryz.func200.trans (congrArg some (by kernel_rfl))
 f46:=⟨Tryz.f201.name,by decide,Tryz.func201.trans (congrArg some (by kernel_rfl))⟩
 f47:=Tryz.func202.trans (congrArg some (by kernel_rfl))
 f48:=Tryz.func203.trans (congrArg some (by kernel_rfl))
 f49:=⟨Tryz.f204.name,by decide,Tryz.func204.trans (congrArg some (by kernel_rfl))⟩
 f50:=⟨Tryz.f205.name,by decide,Tryz.func205.trans (congrArg some (by kernel_rfl))⟩
 f57:=⟨Tryz.f206.name,by decide,Tryz.func206.trans (congrArg some (by kernel_rfl))⟩
 t0:=Tryz.underlying0
 a0:=Tryz.isAgg0
 z0:=Tryz.sizeOf0
 v0:=Tryz.zeroValue0
 t3:=Tryz.underlying3
 a3:=Tryz.isAgg3
 z3:=Tryz.sizeOf3
 v3:=Tryz.zeroValue3
 t4:=Tryz.underlying4
 a4:=Tryz.isAgg4
 z4:=Tryz.sizeOf4
 v4:=Tryz.zeroValue4
 t5:=Tryz.underlying5
 a5:=Tryz.isAgg5
 z5:=Tryz.sizeOf5
 v5:=Tryz.zeroValue5
 t9:=Tryz.underlying9
 a9:=Tryz.isAgg9
 z9:=Tryz.sizeOf9
 v9:=Tryz.zeroValue9
 t22:=Tryz.underlying35
 a22:=Tryz.isAgg35
 z22:=Tryz.sizeOf35
 v22:=Tryz.zeroValue35
 a24:=Tryz.isAgg28
 z24:=Tryz.sizeOf28
 t25:=Tryz.underlying199
 a25:=Tryz.isAgg199
 z25:=Tryz.sizeOf199
 v25:=Tryz.zeroValue199
 t39:=Tryz.underlying201
 a39:=Tryz.isAgg201
 z39:=Tryz.sizeOf201
 v39:=Tryz.zeroValue201
 t45:=Tryz.underlying222
 a45:=Tryz.isAgg222
 z45:=Tryz.sizeOf222
 v45:=Tryz.zeroValue222
 t46:=Tryz.underlying223
 a46:=Tryz.isAgg223
 z46:=Tryz.sizeOf223
 v46:=Tryz.zeroValue223
 t50:=Tryz.underlying149
 a50:=Tryz.isAgg149
 z50:=Tryz.sizeOf149
 v50:=Tryz.zeroValue149
 t53:=Tryz.underlying229
 a53:=Tryz.isAgg229
 z53:=Tryz.sizeOf229
 v53:=Tryz.zeroValue229
 t55:=Tryz.underlying231
 a55:=Tryz.isAgg231
 z55:=Tryz.sizeOf231
 v55:=Tryz.zeroValue231
 t66:=Tryz.underlying232
 a66:=Tryz.isAgg232
 z66:=Tryz.sizeOf232
 v66:=Tryz.zeroValue232
 t70:=Tryz.underlying236
 a70:=Tryz.isAgg236
 z70:=Tryz.sizeOf236
 v70:=Tryz.zeroValue236
 t76:=Tryz.underlying238
 a76:=Tryz.isAgg238
 z76:=Tryz.sizeOf238
 v76:=Tryz.zeroValue238
 t77:=Tryz.underlying239
 a77:=Tryz.isAgg239
 z77:=Tryz.sizeOf239
 v77:=Tryz.zeroValue239 }
theorem NP:yJ Tryz.prog 163 where
 ok:=⟨Tryz.f163,Tryz.func163,by kernel_rfl,by kernel_rfl⟩
 zero:=λp cap fv w=>AnyF.slices_SortFunc_none (ρ:=Tryz.w8) { Tryz.ML with } p cap fv w
 all:=λenc h1 cf hO g cb blk off cap d w eg hc hH hb hs=>Any.slices_SortFunc_eq (ρ:=Tryz.w8) Tryz.ML enc h1 cf hO g cb blk off cap d w eg hc hH hb hs
theorem MQ:∀f,EA.sort f=true->yJ Tryz.prog f:=λf h=>by
 have:f=163:=Nat.eq_of_beq_eq_true h;subst this;exact NP
theorem uD:∀az y,sJ 8 az=some y->tJ Tryz.prog 110 az y:=
 NU (f:=110) (A:=146) (S:=28) (e:=3) (n:=8) (bytes:=64) Tryz.func110 rfl rfl rfl (by kernel_rfl) Tryz.underlying146 Tryz.underlying28 (by kernel_rfl) (by kernel_rfl)
theorem Kg:∀f az y,EA.known f az=some y->tJ Tryz.prog f az y:=λf az y h=>by
 change (if Nat.beq f 110 then sJ 8 az else none)=some y at h;split at h
 .rename_i hf;have:f=110:=Nat.eq_of_beq_eq_true hf;subst this;exact uD az y h
 .cases h
theorem Qj (n:Nat):jt Tryz.prog (run EA n):=CQ QF mixed ⟨MQ,Kg⟩ n
end Go.Proofs.YtdoibkkdaojjpaaGreat
namespace Go.Proofs.YtdoibkkdaojjpaaGreat
open Go.VE Go.Proofs
def a0:V:=.agg [.fsl 3 [[.str (ByteArray.mk #[97]),.aF,.fsl 5 [[.int .i64 1,.int .i64 0,.int .i64 0,.int .i64 0,.aF]]],[.str (ByteArray.mk #[98]),.aF,.fsl 5 [[.int .i64 1,.int .i64 0,.int .i64 0,.int .i64 0,.aF]]]]]
def a1:V:=.clo 172 [] [.fptr [.str (ByteArray.mk #[97]),.aF,.fsl 5 [[.int .i64 1,.int .i64 0,.int .i64 0,.int .i64 0,.aF]]]]
def a2:V:=.fsl 3 [[.str (ByteArray.mk #[97]),.aF,.fsl 5 [[.int .i64 1,.int .i64 0,.int .i64 0,.int .i64 0,.aF]]]]
def a3:V:=.clo 172 [] [.fptr [.str (ByteArray.mk #[98]),.aF,.fsl 5 [[.int .i64 1,.int .i64 0,.int .i64 0,.int .i64 0,.aF]]]]
def a4:V:=.agg [.int .i64 1,.int .i64 0,.int .i64 0,.int .i64 0,.aF]
def a5:V:=.agg [.int .i64 0,.int .i64 1]
def a6:V:=.agg [.int .i64 1,.int .i64 1]
def a7:V:=.fptr [.int .i64 0,.int .i64 0,.int .i64 0,.int .i64 0,.int .i64 0,.int .i64 0,.int .i64 0,.int .i64 0,.int .i64 0,.int .i64 0,.int .i64 0,.int .i64 0,.int .i64 0,.int .i64 0,.int .i64 0,.int .i64 0,.int .i64 0,.int .i64 0,.int .i64 0,.int .i64 0,.int .i64 0,.int .i64 0,.int .i64 0,.int .i64 0,.int .i64 0,.int .i64 0,.int .i64 0,.int .i64 0,.int .i64 0,.int .i64 0,.int .i64 0,.int .i64 0,.int .i64 0,.int .i64 0,.int .i64 0,.int .i64 0,.int .i64 0,.int .i64 0,.int .i64 0,.int .i64 0,.int .i64 0,.int .i64 0,.int .i64 0,.int .i64 0,.int .i64 0,.int .i64 0,.int .i64 0,.int .i64 0,.int .i64 0,.int .i64 0,.int .i64 0,.int .i64 0,.int .i64 0,.int .i64 0,.int .i64 0,.int .i64 0,.int .i64 0,.int .i64 0,.int .i64 0,.int .i64 0,.int .i64 0,.int .i64 0,.int .i64 0,.int .i64 0,.int .i64 0,.int .i64 0,.int .i64 0,.int .i64 0,.int .i64 0,.int .i64 0,.int .i64 0,.int .i64 0,.int .i64 0,.int .i64 0,.int .i64 0,.int .i64 0,.int .i64 0,.int .i64 0,.int .i64 0,.int .i64 0,.int .i64 0,.int .i64 0,.int .i64 0,.int .i64 0,.int .i64 0,.int .i64 0,.int .i64 0,.int .i64 0,.int .i64 0,.int .i64 0,.int .i64 0,.int .i64 0,.int .i64 0,.int .i64 0,.int .i64 0,.int .i64 0,.int .i64 0,.int .i64 0,.int .i64 0,.int .i64 0,.int .i64 0,.int .i64 0,.int .i64 0,.int .i64 0,.int .i64 0,.int .i64 0,.int .i64 0,.int .i64 0,.int .i64 0,.int .i64 0,.int .i64 0,.int .i64 0,.int .i64 0,.int .i64 0,.int .i64 0,.int .i64 0,.int .i64 0,.int .i64 0,.int .i64 0,.int .i64 0,.int .i64 0,.int .i64 0,.int .i64 0,.int .i64 0,.int .i64 0,.int .i64 0,.int .i64 0,.int .i64 0,.int .i64 0,.int .i64 0,.int .i64 0,.int .i64 0,.int .i64 0,.int .i64 0,.int .i64 0,.int .i64 0,.int .i64 0,.int .i64 0,.int .i64 0,.int .i64 0,.int .i64 0,.int .i64 0,.int .i64 0,.int .i64 0,.int .i64 0,.int .i64 0,.int .i64 0,.int .i64 0,.int .i64 0,.int .i64 0,.int .i64 0,.int .i64 0,.int .i64 0,.int .i64 0,.int .i64 0,.int .i64 0,.int .i64 0,.int .i64 0,.int .i64 0,.int .i64 0,.int .i64 0,.int .i64 0,.int .i64 0,.int .i64 0,.int .i64 0,.int .i64 0,.int .i64 0,.int .i64 0,.int .i64 0,.int .i64 0,.int .i64 0,.int .i64 0,.int .i64 0,.int .i64 0,.int .i64 0,.int .i64 0,.int .i64 0,.int .i64 0,.int .i64 0,.int .i64 0,.int .i64 0,.int .i64 0,.int .i64 0,.int .i64 0,.int .i64 0,.int .i64 0,.int .i64 0,.int .i64 0,.int .i64 0,.int .i64 0,.int .i64 0,.int .i64 0,.int .i64 0,.int .i64 0,.int .i64 0,.int .i64 0,.int .i64 0,.int .i64 0,.int .i64 0,.int .i64 0,.int .i64 0,.int .i64 0,.int .i64 0,.int .i64 0,.int .i64 0,.int .i64 0,.int .i64 0,.int .i64 0,.int .i64 0,.int .i64 0,.int .i64 0,.int .i64 0,.int .i64 0,.int .i64 0,.int .i64 0,.int .i64 0,.int .i64 0,.int .i64 0,.int .i64 0,.int .i64 0,.int .i64 0,.int .i64 0,.int .i64 0,.int .i64 0,.int .i64 0,.int .i64 0,.int .i64 0,.int .i64 0,.int .i64 0,.int .i64 0,.int .i64 0,.int .i64 0,.int .i64 0,.int .i64 0,.int .i64 0,.int .i64 0,.int .i64 0,.int .i64 0,.int .i64 0,.int .i64 0,.int .i64 0,.int .i64 0,.int .i64 0,.int .i64 0,.int .i64 0,.int .i64 0,.int .i64 0,.int .i64 0,.int .i64 0,.int .i64 0,.int .i64 0,.int .i64 0,.int .i64 0,.int .i64 0,.int .i64 0,.int .i64 0,.int .i64 0,.int .i64 0,.int .i64 0,.int .i64 0,.int .i64 0,.int .i64 0,.int .i64 0,.int .i64 0,.int .i64 0,.int .i64 0,.int .i64 0,.int .i64 0,.int .i64 0,.int .i64 0,.int .i64 0,.int .i64 0,.int .i64 0,.int .i64 0,.int .i64 0,.int .i64 0,.int .i64 0,.int .i64 0,.int .i64 0,.int .i64 0,.int .i64 0,.int .i64 0,.int .i64 0,.int .i64 0,.int .i64 0,.int .i64 0,.int .i64 0,.int .i64 0,.int .i64 0,.int .i64 0,.int .i64 0,.int .i64 0,.int .i64 0,.int .i64 0,.int .i64 0,.int .i64 0,.int .i64 0,.int .i64 0,.int .i64 0,.int .i64 0,.int .i64 0,.int .i64 0,.int .i64 0,.int .i64 0,.int .i64 0,.int .i64 0,.int .i64 0,.int .i64 0,.int .i64 0,.int .i64 0,.int .i64 0,.int .i64 0,.int .i64 0,.int .i64 0,.int .i64 0,.int .i64 0,.int .i64 0,.int .i64 0,.int .i64 0,.int .i64 0,.int .i64 0,.int .i64 0,.int .i64 0,.int .i64 0,.int .i64 0,.int .i64 0,.int .i64 0,.int .i64 0,.int .i64 0,.int .i64 0,.int .i64 0,.int .i64 0,.int .i64 0,.int .i64 0,.int .i64 0,.int .i64 0,.int .i64 0,.int .i64 0,.int .i64 0,.int .i64 0,.int .i64 0,.int .i64 0,.int .i64 0,.int .i64 0,.int .i64 0,.int .i64 0,.int .i64 0,.int .i64 0,.int .i64 0,.int .i64 0,.int .i64 0,.int .i64 0,.int .i64 0,.int .i64 0,.int .i64 0,.int .i64 0,.int .i64 0,.int .i64 0,.int .i64 0,.int .i64 0,.int .i64 0,.int .i64 0,.int .i64 0,.int .i64 0,.int .i64 0,.int .i64 0,.int .i64 0,.int .i64 0,.int .i64 0,.int .i64 0,.int .i64 0,.int .i64 0,.int .i64 0,.int .i64 0,.int .i64 0,.int .i64 0,.int .i64 0,.int .i64 0,.int .i64 0,.int .i64 0,.int .i64 0,.int .i64 0,.int .i64 0,.int .i64 0,.int .i64 0,.int .i64 0,.int .i64 0,.int .i64 0,.int .i64 0,.int .i64 0,.int .i64 0,.int .i64 0,.int .i64 0,.int .i64 0,.int .i64 0,.int .i64 0,.int .i64 0,.int .i64 0,.int .i64 0,.int .i64 0,.int .i64 0,.int .i64 0,.int .i64 0,.int .i64 0,.int .i64 0,.int .i64 0,.int .i64 0,.int .i64 0,.int .i64 0,.int .i64 0,.int .i64 0,.int .i64 0,.int .i64 0,.int .i64 0,.int .i64 0,.int .i64 0,.int .i64 0,.int .i64 0,.int .i64 0,.int .i64 0,.int .i64 0,.int .i64 0,.int .i64 0,.int .i64 0,.int .i64 0,.int .i64 0,.int .i64 0,.int .i64 0,.int .i64 0,.int .i64 0,.int .i64 0,.int .i64 0,.int .i64 0,.int .i64 0,.int .i64 0,.int .i64 0,.int .i64 0,.int .i64 0,.int .i64 0,.int .i64 0,.int .i64 0,.int .i64 0,.int .i64 0,.int .i64 0,.int .i64 0,.int .i64 0,.int .i64 0,.int .i64 0,.int .i64 0,.int .i64 0,.int .i64 0,.int .i64 0,.int .i64 0,.int .i64 0,.int .i64 0,.int .i64 0,.int .i64 0,.int .i64 0,.int .i64 0,.int .i64 0,.int .i64 0,.int .i64 0,.int .i64 0,.int .i64 0,.int .i64 0,.int .i64 0,.int .i64 0,.int .i64 0,.int .i64 0,.int .i64 0,.int .i64 0,.int .i64 0,.int .i64 0,.int .i64 0,.int .i64 0,.int .i64 0,.int .i64 0,.int .i64 0,.int .i64 0,.int .i64 0,.int .i64 0,.int .i64 0,.int .i64 0,.int .i64 0,.int .i64 0,.int .i64 0,.int .i64 0,.int .i64 0,.int .i64 0,.int .i64 0,.int .i64 0,.int .i64 0,.int .i64 0,.int .i64 0,.int .i64 0,.int .i64 0,.int .i64 0,.int .i64 0,.int .i64 0,.int .i64 0,.int .i64 0,.int .i64 0,.int .i64 0,.int .i64 0,.int .i64 0,.int .i64 0,.int .i64 0,.int .i64 0,.int .i64 0,.int .i64 0,.int .i64 0,.int .i64 0,.int .i64 0,.int .i64 0,.int .i64 0,.int .i64 0,.int .i64 0,.int .i64 0,.int .i64 0,.int .i64 0,.int .i64 0,.int .i64 0,.int .i64 0,.int .i64 0,.int .i64 0,.int .i64 0,.int .i64 0,.int .i64 0,.int .i64 0,.int .i64 0,.int .i64 0,.int .i64 0,.int .i64 0,.int .i64 0,.int .i64 0,.int .i64 0,.int .i64 0,.int .i64 0,.int .i64 0,.int .i64 0,.int .i64 0,.int .i64 0,.int .i64 0,.int .i64 0,.int .i64 0,.int .i64 0,.int .i64 0,.int .i64 0,.int .i64 0,.int .i64 0,.int .i64 0,.int .i64 0,.int .i64 0,.int .i64 0,.int .i64 0,.int .i64 0,.int .i64 0,.int .i64 0,.int .i64 0,.int .i64 0,.int .i64 0,.int .i64 0,.int .i64 0,.int .i64 0,.int .i64 0,.int .i64 0,.int .i64 0,.int .i64 0,.int .i64 0,.int .i64 0,.int .i64 0,.int .i64 0,.int .i64 0,.int .i64 0,.int .i64 0,.int .i64 0,.int .i64 0,.int .i64 0,.int .i64 0,.int .i64 0,.int .i64 0,.int .i64 0,.int .i64 0,.int .i64 0,.int .i64 0,.int .i64 0,.int .i64 0,.int .i64 0,.int .i64 0,.int .i64 0,.int .i64 0,.int .i64 0,.int .i64 0,.int .i64 0,.int .i64 0,.int .i64 0,.int .i64 0,.int .i64 0,.int .i64 0,.int .i64 0,.int .i64 0,.int .i64 0,.int .i64 0,.int .i64 0,.int .i64 0,.int .i64 0,.int .i64 0,.int .i64 0,.int .i64 0,.int .i64 0,.int .i64 0,.int .i64 0,.int .i64 0,.int .i64 0,.int .i64 0,.int .i64 0,.int .i64 0,.int .i64 0,.int .i64 0,.int .i64 0,.int .i64 0,.int .i64 0,.int .i64 0,.int .i64 0,.int .i64 0,.int .i64 0,.int .i64 0,.int .i64 0,.int .i64 0,.int .i64 0,.int .i64 0,.int .i64 0,.int .i64 0,.int .i64 0,.int .i64 0,.int .i64 0,.int .i64 0,.int .i64 0,.int .i64 0,.int .i64 0,.int .i64 0,.int .i64 0,.int .i64 0,.int .i64 0,.int .i64 0,.int .i64 0,.int .i64 0,.int .i64 0,.int .i64 0,.int .i64 0,.int .i64 0,.int .i64 0,.int .i64 0,.int .i64 0,.int .i64 0,.int .i64 0,.int .i64 0,.int .i64 0,.int .i64 0,.int .i64 0,.int .i64 0,.int .i64 0,.int .i64 0,.int .i64 0,.int .i64 0,.int .i64 0,.int .i64 0,.int .i64 0,.int .i64 0,.int .i64 0,.int .i64 0,.int .i64 0,.int .i64 0,.int .i64 0,.int .i64 0,.int .i64 0,.int .i64 0,.int .i64 0,.int .i64 0,.int .i64 0,.int .i64 0,.int .i64 0,.int .i64 0,.int .i64 0,.int .i64 0,.int .i64 0,.int .i64 0,.int .i64 0,.int .i64 0,.int .i64 0,.int .i64 0,.int .i64 0,.int .i64 0,.int .i64 0,.int .i64 0,.int .i64 0,.int .i64 0,.int .i64 0,.int .i64 0,.int .i64 0,.int .i64 0,.int .i64 0,.int .i64 0,.int .i64 0,.int .i64 0,.int .i64 0,.int .i64 0,.int .i64 0,.int .i64 0,.int .i64 0,.int .i64 0,.int .i64 0,.int .i64 0,.int .i64 0,.int .i64 0,.int .i64 0,.int .i64 0,.int .i64 0,.int .i64 0,.int .i64 0,.int .i64 0,.int .i64 0,.int .i64 0,.int .i64 0,.int .i64 0,.int .i64 0,.int .i64 0,.int .i64 0,.int .i64 0,.int .i64 0,.int .i64 0,.int .i64 0,.int .i64 0,.int .i64 0,.int .i64 0,.int .i64 0,.int .i64 0,.int .i64 0,.int .i64 0,.int .i64 0,.int .i64 0,.int .i64 0,.int .i64 0,.int .i64 0,.int .i64 0,.int .i64 0,.int .i64 0,.int .i64 0,.int .i64 0,.int .i64 0,.int .i64 0,.int .i64 0,.int .i64 0,.int .i64 0,.int .i64 0,.int .i64 0,.int .i64 0,.int .i64 0,.int .i64 0,.int .i64 0,.int .i64 0,.int .i64 0,.int .i64 0,.int .i64 0,.int .i64 0,.int .i64 0,.int .i64 0,.int .i64 0,.int .i64 0,.int .i64 0,.int .i64 0,.int .i64 0,.int .i64 0,.int .i64 0,.int .i64 0,.int .i64 0,.int .i64 0,.int .i64 0,.int .i64 0,.int .i64 0,.int .i64 0,.int .i64 0,.int .i64 0,.int .i64 0,.int .i64 0,.int .i64 0,.int .i64 0,.int .i64 0,.int .i64 0,.int .i64 0,.int .i64 0,.int .i64 0,.int .i64 0,.int .i64 0,.int .i64 0,.int .i64 0,.int .i64 0,.int .i64 0,.int .i64 0,.int .i64 0]
def a8:V:=.agg [.fsl 1 [[.int .i64 1],[.int .i64 1]],.fsl 1 [[.fsl 2 [[.int .i64 0,.int .i64 0]]],[.fsl 2 [[.int .i64 0,.int .i64 0]]]]]
def a9:V:=.fsl 1 [[.int .i64 0],[.int .i64 0]]
def sS:V:=.fsl 1 [[.int .i64 1],[.int .i64 0]]
def sU:V:=.fsl 1 [[.int .i64 0],[.int .i64 1]]
def a12:V:=.fsl 1 [[.fsl 1 [[.int .i64 0],[.int .i64 1]]],[.fsl 1 [[.int .i64 1],[.int .i64 0]]]]
def yZ:V:=.fsl 1 [[.int .i64 1],[.int .i64 1]]
def TS:V:=.fsl 1 [[.fsl 1 [[.int .i64 1],[.int .i64 1]]]]
def Tw:V:=.tup [.fsl 1 [[.fsl 1 [[.int .i64 0],[.int .i64 0]]],[.fsl 1 [[.int .i64 0],[.int .i64 1]]],[.fsl 1 [[.int .i64 1],[.int .i64 0]]],[.fsl 1 [[.int .i64 1],[.int .i64 1]]]],.int .i64 0]
def RB:V:=.fsl 1 [[.bool false],[.bool true],[.bool true],[.bool true]]
def a17:V:=.agg [.fsl 1 [[.bool false],[.bool true],[.bool true],[.bool true]],.fsl 1 [[.fsl 1 [[.int .i64 0],[.int .i64 0]]],[.fsl 1 [[.int .i64 0],[.int .i64 1]]],[.fsl 1 [[.int .i64 1],[.int .i64 0]]],[.fsl 1 [[.int .i64 1],[.int .i64 1]]]],.fmap [(.agg [.int .i64 0,.int .i64 0,.int .i64 0,.int .i64 0,.int .i64 0,.int .i64 0,.int .i64 0,.int .i64 0],.int .i64 0),(.agg [.int .i64 0,.int .i64 1,.int .i64 0,.int .i64 0,.int .i64 0,.int .i64 0,.int .i64 0,.int .i64 0],.int .i64 1),(.agg [.int .i64 1,.int .i64 0,.int .i64 0,.int .i64 0,.int .i64 0,.int .i64 0,.int .i64 0,.int .i64 0],.int .i64 2),(.agg [.int .i64 1,.int .i64 1,.int .i64 0,.int .i64 0,.int .i64 0,.int .i64 0,.int .i64 0,.int .i64 0],.int .i64 3)]]
def k0:bh:=⟨48,[],a0⟩
theorem S5:aR EA k0:=aP (n:=100) (l:=[]) (by simp) (by kernel_rfl)
def k1:bh:=⟨150,[.int .i64 2,.int .i64 1,.int .i64 8],.bool true⟩
theorem SN:aR EA k1:=aP (n:=100) (l:=[]) (by simp) (by kernel_rfl)
def k2:bh:=⟨185,[.int .u8 97],.bool true⟩
theorem SB:aR EA k2:=aP (n:=100) (l:=[]) (by simp) (by kernel_rfl)
def k3:bh:=⟨170,[.str (ByteArray.mk #[97])],.bool true⟩
theorem S0:aR EA k3:=aP (n:=100) (l:=[k2]) (by simp only[List.forall_mem_cons];exact⟨SB,by simp⟩) (by kernel_rfl)
def k4:bh:=⟨187,[.fsl 3 [],a1],.int .i64 (-1)⟩
theorem SM:aR EA k4:=aP (n:=100) (l:=[]) (by simp) (by kernel_rfl)
def k5:bh:=⟨171,[.fsl 3 [],a1],.bool false⟩
theorem R8:aR EA k5:=aP (n:=100) (l:=[k4]) (by simp only[List.forall_mem_cons];exact⟨SM,by simp⟩) (by kernel_rfl)
def k6:bh:=⟨151,[a0,.int .i64 0],.int .i64 0⟩
theorem S8:aR EA k6:=aP (n:=100) (l:=[k3,k5]) (by simp only[List.forall_mem_cons];exact⟨S0,R8,by simp⟩) (by kernel_rfl)
def k7:bh:=⟨185,[.int .u8 98],.bool true⟩
theorem Sz:aR EA k7:=aP (n:=100) (l:=[]) (by simp) (by kernel_rfl)
def k8:bh:=⟨170,[.str (ByteArray.mk #[98])],.bool true⟩
theorem SF:aR EA k8:=aP (n:=100) (l:=[k7]) (by simp only[List.forall_mem_cons];exact⟨Sz,by simp⟩) (by kernel_rfl)
def k9:bh:=⟨172,[.agg [.str (ByteArray.mk #[97]),.aF,.fsl 5 [[.int .i64 1,.int .i64 0,.int .i64 0,.int .i64 0,.aF]]],.fptr [.str (ByteArray.mk #[98]),.aF,.fsl 5 [[.int .i64 1,.int .i64 0,.int .i64 0,.int .i64 0,.aF]]]],.bool false⟩
theorem Sp:aR EA k9:=aP (n:=100) (l:=[]) (by simp) (by kernel_rfl)
def Uq:bh:=⟨187,[a2,a3],.int .i64 (-1)⟩
theorem P9:aR EA Uq:=aP (n:=100) (l:=[k9]) (by simp only[List.forall_mem_cons];exact⟨Sp,by simp⟩) (by kernel_rfl)
def T_:bh:=⟨171,[a2,a3],.bool false⟩
theorem Pz:aR EA T_:=aP (n:=100) (l:=[Uq]) (by simp only[List.forall_mem_cons];exact⟨P9,by simp⟩) (by kernel_rfl)
def TH:bh:=⟨151,[a0,.int .i64 1],.int .i64 0⟩
theorem PM:aR EA TH:=aP (n:=100) (l:=[k8,T_]) (by simp only[List.forall_mem_cons];exact⟨SF,Pz,by simp⟩) (by kernel_rfl)
def Nk:bh:=⟨152,[a0],.clo 175 [] [.fptr [.fsl 3 [[.str (ByteArray.mk #[97]),.aF,.fsl 5 [[.int .i64 1,.int .i64 0,.int .i64 0,.int .i64 0,.aF]]],[.str (ByteArray.mk #[98]),.aF,.fsl 5 [[.int .i64 1,.int .i64 0,.int .i64 0,.int .i64 0,.aF]]]]]]⟩
theorem DF:aR EA Nk:=aP (n:=100) (l:=[]) (by simp) (by kernel_rfl)
def Ua:bh:=⟨176,[a0,.int .i64 0,a4],.bool true⟩
theorem Q9:aR EA Ua:=aP (n:=100) (l:=[]) (by simp) (by kernel_rfl)
def Rr:bh:=⟨150,[.int .i64 0,.int .i64 0,.int .i64 1099511627776],.bool true⟩
theorem JR:aR EA Rr:=aP (n:=100) (l:=[]) (by simp) (by kernel_rfl)
def TN:bh:=⟨153,[a0,a5,a4],.int .i64 0⟩
theorem PS:aR EA TN:=aP (n:=100) (l:=[Ua,Rr]) (by simp only[List.forall_mem_cons];exact⟨Q9,JR,by simp⟩) (by kernel_rfl)
def Ty:bh:=⟨176,[a0,.int .i64 1,a4],.bool true⟩
theorem PC:aR EA Ty:=aP (n:=100) (l:=[]) (by simp) (by kernel_rfl)
def TT:bh:=⟨153,[a0,a6,a4],.int .i64 0⟩
theorem PY:aR EA TT:=aP (n:=100) (l:=[Ty,Rr]) (by simp only[List.forall_mem_cons];exact⟨PC,JR,by simp⟩) (by kernel_rfl)
def S_:bh:=⟨154,[a0],.tup [.fptr [.int .i64 0,.int .i64 0,.int .i64 0,.int .i64 0,.int .i64 0,.int .i64 0,.int .i64 0,.int .i64 0,.int .i64 0,.int .i64 0,.int .i64 0,.int .i64 0,.int .i64 0,.int .i64 0,.int .i64 0,.int .i64 0,.int .i64 0,.int .i64 0,.int .i64 0,.int .i64 0,.int .i64 0,.int .i64 0,.int .i64 0,.int .i64 0,.int .i64 0,.int .i64 0,.int .i64 0,.int .i64 0,.int .i64 0,.int .i64 0,.int .i64 0,.int .i64 0,.int .i64 0,.int .i64 0,.int .i64 0,.int .i64 0,.int .i64 0,.int .i64 0,.int .i64 0,.int .i64 0,.int .i64 0,.int .i64 0,.int .i64 0,.int .i64 0,.int .i64 0,.int .i64 0,.int .i64 0,.int .i64 0,.int .i64 0,.int .i64 0,.int .i64 0,.int .i64 0,.int .i64 0,.int .i64 0,.int .i64 0,.int .i64 0,.int .i64 0,.int .i64 0,.int .i64 0,.int .i64 0,.int .i64 0,.int .i64 0,.int .i64 0,.int .i64 0,.int .i64 0,.int .i64 0,.int .i64 0,.int .i64 0,.int .i64 0,.int .i64 0,.int .i64 0,.int .i64 0,.int .i64 0,.int .i64 0,.int .i64 0,.int .i64 0,.int .i64 0,.int .i64 0,.int .i64 0,.int .i64 0,.int .i64 0,.int .i64 0,.int .i64 0,.int .i64 0,.int .i64 0,.int .i64 0,.int .i64 0,.int .i64 0,.int .i64 0,.int .i64 0,.int .i64 0,.int .i64 0,.int .i64 0,.int .i64 0,.int .i64 0,.int .i64 0,.int .i64 0,.int .i64 0,.int .i64 0,.int .i64 0,.int .i64 0,.int .i64 0,.int .i64 0,.int .i64 0,.int .i64 0,.int .i64 0,.int .i64 0,.int .i64 0,.int .i64 0,.int .i64 0,.int .i64 0,.int .i64 0,.int .i64 0,.int .i64 0,.int .i64 0,.int .i64 0,.int .i64 0,.int .i64 0,.int .i64 0,.int .i64 0,.int .i64 0,.int .i64 0,.int .i64 0,.int .i64 0,.int .i64 0,.int .i64 0,.int .i64 0,.int .i64 0,.int .i64 0,.int .i64 0,.int .i64 0,.int .i64 0,.int .i64 0,.int .i64 0,.int .i64 0,.int .i64 0,.int .i64 0,.int .i64 0,.int .i64 0,.int .i64 0,.int .i64 0,.int .i64 0,.int .i64 0,.int .i64 0,.int .i64 0,.int .i64 0,.int .i64 0,.int .i64 0,.int .i64 0,.int .i64 0,.int .i64 0,.int .i64 0,.int .i64 0,.int .i64 0,.int .i64 0,.int .i64 0,.int .i64 0,.int .i64 0,.int .i64 0,.int .i64 0,.int .i64 0,.int .i64 0,.int .i64 0,.int .i64 0,.int .i64 0,.int .i64 0,.int .i64 0,.int .i64 0,.int .i64 0,.int .i64 0,.int .i64 0,.int .i64 0,.int .i64 0,.int .i64 0,.int .i64 0,.int .i64 0,.int .i64 0,.int .i64 0,.int .i64 0,.int .i64 0,.int .i64 0,.int .i64 0,.int .i64 0,.int .i64 0,.int .i64 0,.int .i64 0,.int .i64 0,.int .i64 0,.int .i64 0,.int .i64 0,.int .i64 0,.int .i64 0,.int .i64 0,.int .i64 0,.int .i64 0,.int .i64 0,.int .i64 0,.int .i64 0,.int .i64 0,.int .i64 0,.int .i64 0,.int .i64 0,.int .i64 0,.int .i64 0,.int .i64 0,.int .i64 0,.int .i64 0,.int .i64 0,.int .i64 0,.int .i64 0,.int .i64 0,.int .i64 0,.int .i64 0,.int .i64 0,.int .i64 0,.int .i64 0,.int .i64 0,.int .i64 0,.int .i64 0,.int .i64 0,.int .i64 0,.int .i64 0,.int .i64 0,.int .i64 0,.int .i64 0,.int .i64 0,.int .i64 0,.int .i64 0,.int .i64 0,.int .i64 0,.int .i64 0,.int .i64 0,.int .i64 0,.int .i64 0,.int .i64 0,.int .i64 0,.int .i64 0,.int .i64 0,.int .i64 0,.int .i64 0,.int .i64 0,.int .i64 0,.int .i64 0,.int .i64 0,.int .i64 0,.int .i64 0,.int .i64 0,.int .i64 0,.int .i64 0,.int .i64 0,.int .i64 0,.int .i64 0,.int .i64 0,.int .i64 0,.int .i64 0,.int .i64 0,.int .i64 0,.int .i64 0,.int .i64 0,.int .i64 0,.int .i64 0,.int .i64 0,.int .i64 0,.int .i64 0,.int .i64 0,.int .i64 0,.int .i64 0,.int .i64 0,.int .i64 0,.int .i64 0,.int .i64 0,.int .i64 0,.int .i64 0,.int .i64 0,.int .i64 0,.int .i64 0,.int .i64 0,.int .i64 0,.int .i64 0,.int .i64 0,.int .i64 0,.int .i64 0,.int .i64 0,.int .i64 0,.int .i64 0,.int .i64 0,.int .i64 0,.int .i64 0,.int .i64 0,.int .i64 0,.int .i64 0,.int .i64 0,.int .i64 0,.int .i64 0,.int .i64 0,.int .i64 0,.int .i64 0,.int .i64 0,.int .i64 0,.int .i64 0,.int .i64 0,.int .i64 0,.int .i64 0,.int .i64 0,.int .i64 0,.int .i64 0,.int .i64 0,.int .i64 0,.int .i64 0,.int .i64 0,.int .i64 0,.int .i64 0,.int .i64 0,.int .i64 0,.int .i64 0,.int .i64 0,.int .i64 0,.int .i64 0,.int .i64 0,.int .i64 0,.int .i64 0,.int .i64 0,.int .i64 0,.int .i64 0,.int .i64 0,.int .i64 0,.int .i64 0,.int .i64 0,.int .i64 0,.int .i64 0,.int .i64 0,.int .i64 0,.int .i64 0,.int .i64 0,.int .i64 0,.int .i64 0,.int .i64 0,.int .i64 0,.int .i64 0,.int .i64 0,.int .i64 0,.int .i64 0,.int .i64 0,.int .i64 0,.int .i64 0,.int .i64 0,.int .i64 0,.int .i64 0,.int .i64 0,.int .i64 0,.int .i64 0,.int .i64 0,.int .i64 0,.int .i64 0,.int .i64 0,.int .i64 0,.int .i64 0,.int .i64 0,.int .i64 0,.int .i64 0,.int .i64 0,.int .i64 0,.int .i64 0,.int .i64 0,.int .i64 0,.int .i64 0,.int .i64 0,.int .i64 0,.int .i64 0,.int .i64 0,.int .i64 0,.int .i64 0,.int .i64 0,.int .i64 0,.int .i64 0,.int .i64 0,.int .i64 0,.int .i64 0,.int .i64 0,.int .i64 0,.int .i64 0,.int .i64 0,.int .i64 0,.int .i64 0,.int .i64 0,.int .i64 0,.int .i64 0,.int .i64 0,.int .i64 0,.int .i64 0,.int .i64 0,.int .i64 0,.int .i64 0,.int .i64 0,.int .i64 0,.int .i64 0,.int .i64 0,.int .i64 0,.int .i64 0,.int .i64 0,.int .i64 0,.int .i64 0,.int .i64 0,.int .i64 0,.int .i64 0,.int .i64 0,.int .i64 0,.int .i64 0,.int .i64 0,.int .i64 0,.int .i64 0,.int .i64 0,.int .i64 0,.int .i64 0,.int .i64 0,.int .i64 0,.int .i64 0,.int .i64 0,.int .i64 0,.int .i64 0,.int .i64 0,.int .i64 0,.int .i64 0,.int .i64 0,.int .i64 0,.int .i64 0,.int .i64 0,.int .i64 0,.int .i64 0,.int .i64 0,.int .i64 0,.int .i64 0,.int .i64 0,.int .i64 0,.int .i64 0,.int .i64 0,.int .i64 0,.int .i64 0,.int .i64 0,.int .i64 0,.int .i64 0,.int .i64 0,.int .i64 0,.int .i64 0,.int .i64 0,.int .i64 0,.int .i64 0,.int .i64 0,.int .i64 0,.int .i64 0,.int .i64 0,.int .i64 0,.int .i64 0,.int .i64 0,.int .i64 0,.int .i64 0,.int .i64 0,.int .i64 0,.int .i64 0,.int .i64 0,.int .i64 0,.int .i64 0,.int .i64 0,.int .i64 0,.int .i64 0,.int .i64 0,.int .i64 0,.int .i64 0,.int .i64 0,.int .i64 0,.int .i64 0,.int .i64 0,.int .i64 0,.int .i64 0,.int .i64 0,.int .i64 0,.int .i64 0,.int .i64 0,.int .i64 0,.int .i64 0,.int .i64 0,.int .i64 0,.int .i64 0,.int .i64 0,.int .i64 0,.int .i64 0,.int .i64 0,.int .i64 0,.int .i64 0,.int .i64 0,.int .i64 0,.int .i64 0,.int .i64 0,.int .i64 0,.int .i64 0,.int .i64 0,.int .i64 0,.int .i64 0,.int .i64 0,.int .i64 0,.int .i64 0,.int .i64 0,.int .i64 0,.int .i64 0,.int .i64 0,.int .i64 0,.int .i64 0,.int .i64 0,.int .i64 0,.int .i64 0,.int .i64 0,.int .i64 0,.int .i64 0,.int .i64 0,.int .i64 0,.int .i64 0,.int .i64 0,.int .i64 0,.int .i64 0,.int .i64 0,.int .i64 0,.int .i64 0,.int .i64 0,.int .i64 0,.int .i64 0,.int .i64 0,.int .i64 0,.int .i64 0,.int .i64 0,.int .i64 0,.int .i64 0,.int .i64 0,.int .i64 0,.int .i64 0,.int .i64 0,.int .i64 0,.int .i64 0,.int .i64 0,.int .i64 0,.int .i64 0,.int .i64 0,.int .i64 0,.int .i64 0,.int .i64 0,.int .i64 0,.int .i64 0,.int .i64 0,.int .i64 0,.int .i64 0,.int .i64 0,.int .i64 0,.int .i64 0,.int .i64 0,.int .i64 0,.int .i64 0,.int .i64 0,.int .i64 0,.int .i64 0,.int .i64 0,.int .i64 0,.int .i64 0,.int .i64 0,.int .i64 0,.int .i64 0,.int .i64 0,.int .i64 0,.int .i64 0,.int .i64 0,.int .i64 0,.int .i64 0,.int .i64 0,.int .i64 0,.int .i64 0,.int .i64 0,.int .i64 0,.int .i64 0,.int .i64 0,.int .i64 0,.int .i64 0,.int .i64 0,.int .i64 0,.int .i64 0,.int .i64 0,.int .i64 0,.int .i64 0,.int .i64 0,.int .i64 0,.int .i64 0,.int .i64 0,.int .i64 0,.int .i64 0,.int .i64 0,.int .i64 0,.int .i64 0,.int .i64 0,.int .i64 0,.int .i64 0,.int .i64 0,.int .i64 0,.int .i64 0,.int .i64 0,.int .i64 0,.int .i64 0,.int .i64 0,.int .i64 0,.int .i64 0,.int .i64 0,.int .i64 0,.int .i64 0,.int .i64 0,.int .i64 0,.int .i64 0,.int .i64 0,.int .i64 0,.int .i64 0,.int .i64 0,.int .i64 0,.int .i64 0,.int .i64 0,.int .i64 0,.int .i64 0,.int .i64 0,.int .i64 0,.int .i64 0,.int .i64 0,.int .i64 0,.int .i64 0,.int .i64 0,.int .i64 0,.int .i64 0,.int .i64 0,.int .i64 0,.int .i64 0,.int .i64 0,.int .i64 0,.int .i64 0,.int .i64 0,.int .i64 0,.int .i64 0,.int .i64 0,.int .i64 0,.int .i64 0,.int .i64 0,.int .i64 0,.int .i64 0,.int .i64 0,.int .i64 0,.int .i64 0,.int .i64 0,.int .i64 0,.int .i64 0,.int .i64 0,.int .i64 0,.int .i64 0,.int .i64 0,.int .i64 0,.int .i64 0,.int .i64 0,.int .i64 0,.int .i64 0,.int .i64 0,.int .i64 0,.int .i64 0,.int .i64 0,.int .i64 0,.int .i64 0,.int .i64 0,.int .i64 0,.int .i64 0,.int .i64 0,.int .i64 0,.int .i64 0,.int .i64 0,.int .i64 0,.int .i64 0,.int .i64 0,.int .i64 0,.int .i64 0,.int .i64 0,.int .i64 0,.int .i64 0,.int .i64 0,.int .i64 0,.int .i64 0,.int .i64 0,.int .i64 0,.int .i64 0,.int .i64 0,.int .i64 0,.int .i64 0,.int .i64 0,.int .i64 0,.int .i64 0,.int .i64 0,.int .i64 0,.int .i64 0,.int .i64 0,.int .i64 0,.int .i64 0,.int .i64 0,.int .i64 0,.int .i64 0,.int .i64 0,.int .i64 0,.int .i64 0,.int .i64 0,.int .i64 0,.int .i64 0,.int .i64 0,.int .i64 0,.int .i64 0,.int .i64 0,.int .i64 0,.int .i64 0,.int .i64 0,.int .i64 0,.int .i64 0,.int .i64 0,.int .i64 0,.int .i64 0,.int .i64 0,.int .i64 0,.int .i64 0,.int .i64 0,.int .i64 0,.int .i64 0,.int .i64 0,.int .i64 0,.int .i64 0,.int .i64 0,.int .i64 0,.int .i64 0,.int .i64 0,.int .i64 0,.int .i64 0,.int .i64 0,.int .i64 0,.int .i64 0,.int .i64 0,.int .i64 0,.int .i64 0,.int .i64 0,.int .i64 0,.int .i64 0,.int .i64 0,.int .i64 0,.int .i64 0,.int .i64 0,.int .i64 0,.int .i64 0,.int .i64 0,.int .i64 0,.int .i64 0,.int .i64 0,.int .i64 0,.int .i64 0,.int .i64 0,.int .i64 0,.int .i64 0,.int .i64 0,.int .i64 0,.int .i64 0,.int .i64 0,.int .i64 0,.int .i64 0,.int .i64 0,.int .i64 0,.int .i64 0,.int .i64 0,.int .i64 0,.int .i64 0,.int .i64 0,.int .i64 0,.int .i64 0,.int .i64 0,.int .i64 0,.int .i64 0,.int .i64 0,.int .i64 0,.int .i64 0,.int .i64 0,.int .i64 0,.int .i64 0,.int .i64 0,.int .i64 0,.int .i64 0,.int .i64 0,.int .i64 0,.int .i64 0,.int .i64 0,.int .i64 0,.int .i64 0,.int .i64 0,.int .i64 0,.int .i64 0,.int .i64 0,.int .i64 0,.int .i64 0,.int .i64 0,.int .i64 0],.agg [.int .i64 0,.int .i64 0],.int .i64 0]⟩
theorem Qw:aR EA S_:=aP (n:=100) (l:=[Nk]) (by simp only[List.forall_mem_cons];exact⟨DF,by simp⟩) (by kernel_rfl)
def Te:bh:=⟨180,[a0,a7,a5],.aF⟩
theorem RH:aR EA Te:=aP (n:=100) (l:=[]) (by simp) (by kernel_rfl)
def T3:bh:=⟨180,[a0,a7,a6],.aF⟩
theorem PR:aR EA T3:=aP (n:=100) (l:=[]) (by simp) (by kernel_rfl)
def Ug:bh:=⟨155,[a0,a7],.tup [.agg [.int .i64 0,.int .i64 0],.bool false]⟩
theorem Rm:aR EA Ug:=aP (n:=100) (l:=[Nk,Te,T3]) (by simp only[List.forall_mem_cons];exact⟨DF,RH,PR,by simp⟩) (by kernel_rfl)
def Ue:bh:=⟨129,[a0],.tup [.agg [.int .i64 0,.int .i64 0],.int .i64 0]⟩
theorem PO:aR EA Ue:=aP (n:=100) (l:=[k1,k6,TH,Nk,TN,TT,S_,Ug]) (by simp only[List.forall_mem_cons];exact⟨SN,S8,PM,DF,PS,PY,Qw,Rm,by simp⟩) (by kernel_rfl)
def T6:bh:=⟨88,[a0],.bool true⟩
theorem PU:aR EA T6:=aP (n:=100) (l:=[Ue]) (by simp only[List.forall_mem_cons];exact⟨PO,by simp⟩) (by kernel_rfl)
def Tc:bh:=⟨144,[a0],a8⟩
theorem RD:aR EA Tc:=aP (n:=100) (l:=[]) (by simp) (by kernel_rfl)
def Uc:bh:=⟨162,[a8,a9,.int .i64 0],.bool true⟩
theorem Qn:aR EA Uc:=aP (n:=100) (l:=[]) (by simp) (by kernel_rfl)
def TX:bh:=⟨162,[a8,a9,.int .i64 1],.bool true⟩
theorem Q6:aR EA TX:=aP (n:=100) (l:=[]) (by simp) (by kernel_rfl)
def M5:bh:=⟨184,[.int .i64 1],.bool false⟩
theorem EV:aR EA M5:=aP (n:=100) (l:=[]) (by simp) (by kernel_rfl)
def MX:bh:=⟨183,[.int .i64 1,.int .i64 1],.int .i64 0⟩
theorem D3:aR EA MX:=aP (n:=100) (l:=[M5]) (by simp only[List.forall_mem_cons];exact⟨EV,by simp⟩) (by kernel_rfl)
def Nx:bh:=⟨184,[.int .i64 0],.bool false⟩
theorem EG:aR EA Nx:=aP (n:=100) (l:=[]) (by simp) (by kernel_rfl)
def RS:bh:=⟨183,[.int .i64 0,.int .i64 0],.int .i64 0⟩
theorem JM:aR EA RS:=aP (n:=100) (l:=[Nx]) (by simp only[List.forall_mem_cons];exact⟨EG,by simp⟩) (by kernel_rfl)
def TZ:bh:=⟨165,[sS,sS],.int .i64 0⟩
theorem Rh:aR EA TZ:=aP (n:=100) (l:=[MX,RS]) (by simp only[List.forall_mem_cons];exact⟨D3,JM,by simp⟩) (by kernel_rfl)
def TP:bh:=⟨164,[sS,sS],.int .i64 0⟩
theorem QN:aR EA TP:=aP (n:=100) (l:=[TZ]) (by simp only[List.forall_mem_cons];exact⟨Rh,by simp⟩) (by kernel_rfl)
def TC:bh:=⟨183,[.int .i64 1,.int .i64 0],.int .i64 1⟩
theorem Rg:aR EA TC:=aP (n:=100) (l:=[M5,Nx]) (by simp only[List.forall_mem_cons];exact⟨EV,EG,by simp⟩) (by kernel_rfl)
def Tp:bh:=⟨165,[sS,sU],.int .i64 1⟩
theorem QC:aR EA Tp:=aP (n:=100) (l:=[TC]) (by simp only[List.forall_mem_cons];exact⟨Rg,by simp⟩) (by kernel_rfl)
def Uo:bh:=⟨164,[sS,sU],.int .i64 1⟩
theorem RX:aR EA Uo:=aP (n:=100) (l:=[Tp]) (by simp only[List.forall_mem_cons];exact⟨QC,by simp⟩) (by kernel_rfl)
def TM:bh:=⟨183,[.int .i64 0,.int .i64 1],.int .i64 (-1)⟩
theorem Qo:aR EA TM:=aP (n:=100) (l:=[Nx,M5]) (by simp only[List.forall_mem_cons];exact⟨EG,EV,by simp⟩) (by kernel_rfl)
def TA:bh:=⟨165,[sU,sS],.int .i64 (-1)⟩
theorem RM:aR EA TA:=aP (n:=100) (l:=[TM]) (by simp only[List.forall_mem_cons];exact⟨Qo,by simp⟩) (by kernel_rfl)
def Um:bh:=⟨164,[sU,sS],.int .i64 (-1)⟩
theorem QE:aR EA Um:=aP (n:=100) (l:=[TA]) (by simp only[List.forall_mem_cons];exact⟨RM,by simp⟩) (by kernel_rfl)
def Tq:bh:=⟨165,[sU,sU],.int .i64 0⟩
theorem PA:aR EA Tq:=aP (n:=100) (l:=[RS,MX]) (by simp only[List.forall_mem_cons];exact⟨JM,D3,by simp⟩) (by kernel_rfl)
def TO:bh:=⟨164,[sU,sU],.int .i64 0⟩
theorem P6:aR EA TO:=aP (n:=100) (l:=[Tq]) (by simp only[List.forall_mem_cons];exact⟨PA,by simp⟩) (by kernel_rfl)
def Un:bh:=⟨40,[sS,sU],.bool false⟩
theorem QY:aR EA Un:=aP (n:=100) (l:=[]) (by simp) (by kernel_rfl)
def TJ:bh:=⟨167,[sS,sU],.bool false⟩
theorem Rp:aR EA TJ:=aP (n:=100) (l:=[Un]) (by simp only[List.forall_mem_cons];exact⟨QY,by simp⟩) (by kernel_rfl)
def TQ:bh:=⟨145,[a8,.fsl 1 [[.fsl 1 [[.int .i64 0],[.int .i64 0]]]]],a12⟩
theorem QW:aR EA TQ:=aP (n:=100) (l:=[Uc,TX,TP,Uo,Um,TO,TJ]) (by simp only[List.forall_mem_cons];exact⟨Qn,Q6,QN,RX,QE,P6,Rp,by simp⟩) (by kernel_rfl)
def TF:bh:=⟨162,[a8,sU,.int .i64 0],.bool true⟩
theorem RN:aR EA TF:=aP (n:=100) (l:=[]) (by simp) (by kernel_rfl)
def Ub:bh:=⟨162,[a8,sU,.int .i64 1],.bool false⟩
theorem PI:aR EA Ub:=aP (n:=100) (l:=[]) (by simp) (by kernel_rfl)
def TR:bh:=⟨162,[a8,sS,.int .i64 0],.bool false⟩
theorem Rl:aR EA TR:=aP (n:=100) (l:=[]) (by simp) (by kernel_rfl)
def T0:bh:=⟨162,[a8,sS,.int .i64 1],.bool true⟩
theorem QH:aR EA T0:=aP (n:=100) (l:=[]) (by simp) (by kernel_rfl)
def Tg:bh:=⟨165,[yZ,yZ],.int .i64 0⟩
theorem Qb:aR EA Tg:=aP (n:=100) (l:=[MX]) (by simp only[List.forall_mem_cons];exact⟨D3,by simp⟩) (by kernel_rfl)
def Ta:bh:=⟨164,[yZ,yZ],.int .i64 0⟩
theorem Rc:aR EA Ta:=aP (n:=100) (l:=[Tg]) (by simp only[List.forall_mem_cons];exact⟨Qb,by simp⟩) (by kernel_rfl)
def Uk:bh:=⟨40,[yZ,yZ],.bool true⟩
theorem QA:aR EA Uk:=aP (n:=100) (l:=[]) (by simp) (by kernel_rfl)
def TY:bh:=⟨167,[yZ,yZ],.bool true⟩
theorem Rn:aR EA TY:=aP (n:=100) (l:=[Uk]) (by simp only[List.forall_mem_cons];exact⟨QA,by simp⟩) (by kernel_rfl)
def T5:bh:=⟨145,[a8,a12],TS⟩
theorem Re:aR EA T5:=aP (n:=100) (l:=[TF,Ub,TR,T0,Ta,TY]) (by simp only[List.forall_mem_cons];exact⟨RN,PI,Rl,QH,Rc,Rn,by simp⟩) (by kernel_rfl)
def T4:bh:=⟨162,[a8,yZ,.int .i64 0],.bool false⟩
theorem Qt:aR EA T4:=aP (n:=100) (l:=[]) (by simp) (by kernel_rfl)
def TU:bh:=⟨162,[a8,yZ,.int .i64 1],.bool false⟩
theorem Qc:aR EA TU:=aP (n:=100) (l:=[]) (by simp) (by kernel_rfl)
def Ui:bh:=⟨145,[a8,TS],.aF⟩
theorem Rb:aR EA Ui:=aP (n:=100) (l:=[T4,TU]) (by simp only[List.forall_mem_cons];exact⟨Qt,Qc,by simp⟩) (by kernel_rfl)
def TE:bh:=⟨118,[a0],.tup [.fsl 1 [[.fsl 1 [[.fsl 1 [[.int .i64 0],[.int .i64 0]]]]],[.fsl 1 [[.fsl 1 [[.int .i64 0],[.int .i64 1]]],[.fsl 1 [[.int .i64 1],[.int .i64 0]]]]],[.fsl 1 [[.fsl 1 [[.int .i64 1],[.int .i64 1]]]]]],.int .i64 0]⟩
theorem RQ:aR EA TE:=aP (n:=100) (l:=[T6,Tc,TQ,T5,Ui]) (by simp only[List.forall_mem_cons];exact⟨PU,RD,QW,Re,Rb,by simp⟩) (by kernel_rfl)
def TW:bh:=⟨119,[.fsl 1 [[.fsl 1 [[.fsl 1 [[.int .i64 0],[.int .i64 0]]]]],[.fsl 1 [[.fsl 1 [[.int .i64 0],[.int .i64 1]]],[.fsl 1 [[.int .i64 1],[.int .i64 0]]]]],[.fsl 1 [[.fsl 1 [[.int .i64 1],[.int .i64 1]]]]]]],.fsl 1 [[.fsl 1 [[.int .i64 0],[.int .i64 0]]],[.fsl 1 [[.int .i64 0],[.int .i64 1]]],[.fsl 1 [[.int .i64 1],[.int .i64 0]]],[.fsl 1 [[.int .i64 1],[.int .i64 1]]]]⟩
theorem PJ:aR EA TW:=aP (n:=100) (l:=[]) (by simp) (by kernel_rfl)
def Ul:bh:=⟨63,[a0],Tw⟩
theorem PZ:aR EA Ul:=aP (n:=100) (l:=[TE,TW]) (by simp only[List.forall_mem_cons];exact⟨RQ,PJ,by simp⟩) (by kernel_rfl)
def Uh:bh:=⟨43,[a0],Tw⟩
theorem PX:aR EA Uh:=aP (n:=100) (l:=[Ul]) (by simp only[List.forall_mem_cons];exact⟨PZ,by simp⟩) (by kernel_rfl)
def RK:bh:=⟨53,[a0,RB],.tup [.agg [.fsl 1 [[.bool false],[.bool true],[.bool true],[.bool true]],.fsl 1 [[.fsl 1 [[.int .i64 0],[.int .i64 0]]],[.fsl 1 [[.int .i64 0],[.int .i64 1]]],[.fsl 1 [[.int .i64 1],[.int .i64 0]]],[.fsl 1 [[.int .i64 1],[.int .i64 1]]]],.fmap [(.agg [.int .i64 0,.int .i64 0,.int .i64 0,.int .i64 0,.int .i64 0,.int .i64 0,.int .i64 0,.int .i64 0],.int .i64 0),(.agg [.int .i64 0,.int .i64 1,.int .i64 0,.int .i64 0,.int .i64 0,.int .i64 0,.int .i64 0,.int .i64 0],.int .i64 1),(.agg [.int .i64 1,.int .i64 0,.int .i64 0,.int .i64 0,.int .i64 0,.int .i64 0,.int .i64 0,.int .i64 0],.int .i64 2),(.agg [.int .i64 1,.int .i64 1,.int .i64 0,.int .i64 0,.int .i64 0,.int .i64 0,.int .i64 0,.int .i64 0],.int .i64 3)]],.int .i64 0]⟩
theorem Jj:aR EA RK:=aP (n:=100) (l:=[Uh]) (by simp only[List.forall_mem_cons];exact⟨PX,by simp⟩) (by kernel_rfl)
def Tt:bh:=⟨112,[sU,sS],a9⟩
theorem RA:aR EA Tt:=aP (n:=100) (l:=[]) (by simp) (by kernel_rfl)
def Tf:bh:=⟨111,[a17,a9],.bool false⟩
theorem PV:aR EA Tf:=aP (n:=100) (l:=[]) (by simp) (by kernel_rfl)
def Tr:bh:=⟨55,[a17,sU,sS],.bool false⟩
theorem Ru:aR EA Tr:=aP (n:=100) (l:=[Tt,Tf]) (by simp only[List.forall_mem_cons];exact⟨RA,PV,by simp⟩) (by kernel_rfl)
def Tz:bh:=⟨54,[a17,.clo 55 [.agg [.fsl 1 [[.bool false],[.bool true],[.bool true],[.bool true]],.fsl 1 [[.fsl 1 [[.int .i64 0],[.int .i64 0]]],[.fsl 1 [[.int .i64 0],[.int .i64 1]]],[.fsl 1 [[.int .i64 1],[.int .i64 0]]],[.fsl 1 [[.int .i64 1],[.int .i64 1]]]],.fmap [(.agg [.int .i64 0,.int .i64 0,.int .i64 0,.int .i64 0,.int .i64 0,.int .i64 0,.int .i64 0,.int .i64 0],.int .i64 0),(.agg [.int .i64 0,.int .i64 1,.int .i64 0,.int .i64 0,.int .i64 0,.int .i64 0,.int .i64 0,.int .i64 0],.int .i64 1),(.agg [.int .i64 1,.int .i64 0,.int .i64 0,.int .i64 0,.int .i64 0,.int .i64 0,.int .i64 0,.int .i64 0],.int .i64 2),(.agg [.int .i64 1,.int .i64 1,.int .i64 0,.int .i64 0,.int .i64 0,.int .i64 0,.int .i64 0,.int .i64 0],.int .i64 3)]]] []],.tup [.bool false,.fsl 1 [[.int .i64 0],[.int .i64 1]],.fsl 1 [[.int .i64 1],[.int .i64 0]]]⟩
theorem RJ:aR EA Tz:=aP (n:=100) (l:=[Tr]) (by simp only[List.forall_mem_cons];exact⟨Ru,by simp⟩) (by kernel_rfl)
def Tu:bh:=⟨12,[a0,RB],.tup [.bool false,.fsl 1 [[.int .i64 0],[.int .i64 1]],.fsl 1 [[.int .i64 1],[.int .i64 0]],.int .i64 0]⟩
theorem PK:aR EA Tu:=aP (n:=100) (l:=[RK,Tz]) (by simp only[List.forall_mem_cons];exact⟨Jj,RJ,by simp⟩) (by kernel_rfl)
def Tm:bh:=⟨58,[a17,a0],.tup [.bool true,.aF,.aF]⟩
theorem QO:aR EA Tm:=aP (n:=100) (l:=[]) (by simp) (by kernel_rfl)
def Td:bh:=⟨15,[a0,RB],.tup [.bool true,.aF,.aF,.int .i64 0]⟩
theorem Q7:aR EA Td:=aP (n:=100) (l:=[RK,Tm]) (by simp only[List.forall_mem_cons];exact⟨Jj,QO,by simp⟩) (by kernel_rfl)
def Uj:bh:=⟨40,[sU,sU],.bool true⟩
theorem QG:aR EA Uj:=aP (n:=100) (l:=[]) (by simp) (by kernel_rfl)
def To:bh:=⟨40,[sS,sS],.bool true⟩
theorem QM:aR EA To:=aP (n:=100) (l:=[]) (by simp) (by kernel_rfl)
theorem GS:∃n H1,run EA n (.fn 8) [] []=some (.bool true,H1):=Hq (n:=100) (l:=[k0,Tu,Td,Uj,To]) (by simp only[List.forall_mem_cons];exact⟨S5,PK,Q7,QG,QM,by simp⟩) (by kernel_rfl)
theorem calls (n:Nat):jt Tryz.prog (run E n):=CQ SU mixed ⟨MQ,λf az b h=>by
 by_cases hf:Nat.beq f 8=true
 .have e:E.known f az=if az.isEmpty then some (.bool true)else none:=by unfold E Bg;simp only[hf,if_true]
  rw[e]at h;split at h
  .rename_i ha;cases h;have:f=8:=Nat.eq_of_beq_eq_true hf;subst this;have:az=[]:=List.isEmpty_iff.1 ha;subst this;obtain⟨n,H1,h1⟩:=GS;exact JG (Qj n) h1
  .cases h
 .have e:E.known f az=EA.known f az:=by unfold E EA Bg;simp only[hf,if_false,Bool.false_eq_true]
  rw[e]at h;exact Kg f az b h⟩ n
end Go.Proofs.YtdoibkkdaojjpaaGreat
