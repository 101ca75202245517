/-
 The tables of this seat, and the law's own awakening.
-/
import Derived.Test.YtdoibkkdaojjpaaGreatProg
import Derived.KernelRfl
import Derived.Test.YtdoibkkdaojjpaaGreatV2
set_option linter.all false
namespace Go.Proofs.YtdoibkkdaojjpaaGreat
open Go.VE Go.Proofs
instance:aY:=⟨λ_=>none,λ_ _ h=>nomatch h⟩
noncomputable def EA:Env:=Am Tryz.prog [0,1,163,110] [140,114,21,146,166,163,124,149] [140,114,21,146] [(95,2),(146,8)] (λf=>Nat.beq f 163) λf az=>(if Nat.beq f 110 then sy 8 az else none)
noncomputable def E:Env:=Am Tryz.prog [0,1,163,110,8] [140,114,21,146,166,163,124,149] [140,114,21,146] [(95,2),(146,8)] (λf=>Nat.beq f 163) λf az=>if Nat.beq f 8 then(if az.isEmpty then some (.bool true)else none)else(if Nat.beq f 110 then sy 8 az else none)
theorem TI:yp Tryz.prog=true:=by kernel_rfl
theorem Ur:qI Tryz.prog 95 2:=qI.two (i:=3) Tryz.underlying95 rfl rfl rfl rfl (by decide) (by decide) (by kernel_rfl) Tryz.underlying3 (by kernel_rfl) (by kernel_rfl)
theorem Sv:qI Tryz.prog 146 8:=qI.arr (i:=3) Tryz.underlying146 (by kernel_rfl) Tryz.underlying3 (by kernel_rfl)
theorem PX:∀p∈[(95,2),(146,8)],qI Tryz.prog p.1 p.2:=λp h=>match p,h with|_,.head _=>Ur|_,.tail _ (.head _)=>Sv
theorem PN:dx Tryz.prog EA:=D5 TI PX
theorem SO:dx Tryz.prog E:=D5 TI PX
theorem mixed:Tryz.prog.follows .mixedOrders=true:=by kernel_rfl
open Go.Shelf
def Tryz.w8:Go.Shelf.Ren:=⟨λ|6=>163|15=>182|14=>181|28=>199|29=>200|20=>191|21=>192|22=>193|23=>194|24=>195|25=>196|26=>197|27=>198|46=>201|47=>202|48=>203|49=>204|50=>205|57=>206|n=>n,λ|22=>35|24=>28|25=>199|3=>3|39=>201|0=>0|53=>229|55=>231|4=>4|46=>223|45=>222|50=>149|5=>5|9=>9|66=>232|70=>236|76=>238|77=>239|n=>n,λ|n=>n⟩
theorem Tryz.MT:Go.Proofs.SlLaysF.n6 Tryz.prog Tryz.w8:={
 mixed:=by kernel_rfl
 f6:=⟨Tryz.f163.name,by decide,Tryz.func163.trans (congrArg some (by kernel_rfl))⟩
 f14:=⟨Tryz.f181.name,by decide,Tryz.func181.trans (congrArg some (by kernel_rfl))⟩
 f15:=Tryz.func182.trans (congrArg some (by kernel_rfl))
 f20:=⟨Tryz.f191.name,by decide,Tryz.func191.trans (congrArg some (by kernel_rfl))⟩
 f21:=⟨Tryz.f192.name,by decide,Tryz.func192.trans (congrArg some (by kernel_rfl))⟩
 f22:=⟨Tryz.f193.name,by decide,Tryz.func193.trans (congrArg some (by kernel_rfl))⟩
 f23:=⟨Tryz.f194.name,by decide,Tryz.func194.trans (congrArg some (by kernel_rfl))⟩
 f24:=⟨Tryz.f195.name,by decide,Tryz.func195.trans (congrArg some (by kernel_rfl))⟩
 f25:=⟨Tryz.f196.name,by decide,Tryz.func196.trans (congrArg some (by kernel_rfl))⟩
 f26:=⟨Tryz.f197.name,by decide,Tryz.func197.trans (congrArg some (by kernel_rfl))⟩
 f27:=⟨Tryz.f198.name,by decide,Tryz.func198.trans (congrArg some (by kernel_rfl))⟩
 f28:=Tryz.func199.trans (congrArg some (by kernel_rfl))
 f29:=Tryz.func200.trans (congrArg some (by kernel_rfl))
 f46:=⟨Tryz.f201.name,by decide,Tryz.func201.trans (congrArg some (by kernel_rfl))⟩
 f47:=Tryz.func202.trans (congrArg some (by kernel_rfl))
 f48:=Tryz.func203.trans (congrArg some (by kernel_rfl))
 f49:=⟨Tryz.f204.name,by decide,Tryz.func204.trans (congrArg some (by kernel_rfl))⟩
 f50:=⟨Tryz.f205.name,by decide,Tryz.func205.trans (congrArg some (by kernel_rfl))⟩
 f57:=⟨Tryz.f206.name,by decide,Tryz.func206.trans (congrArg some (by kernel_rfl))⟩
 t0:=Tryz.underlying0
 a0:=Tryz.isAgg0
 z0:=Tryz.sizeOf0
 v0:=Tryz.zeroValue0
 t3:=Tryz.underlying3
 a3:=Tryz.isAgg3
 z3:=Tryz.sizeOf3
 v3:=Tryz.zeroValue3
 t4:=Tryz.underlying4
 a4:=Tryz.isAgg4
 z4:=Tryz.sizeOf4
 v4:=Tryz.zeroValue4
 t5:=Tryz.underlying5
 a5:=Tryz.isAgg5
 z5:=Tryz.sizeOf5
 v5:=Tryz.zeroValue5
 t9:=Tryz.underlying9
 a9:=Tryz.isAgg9
 z9:=Tryz.sizeOf9
 v9:=Tryz.zeroValue9
 t22:=Tryz.underlying35
 a22:=Tryz.isAgg35
 z22:=Tryz.sizeOf35
 v22:=Tryz.zeroValue35
 a24:=Tryz.isAgg28
 z24:=Tryz.sizeOf28
 t25:=Tryz.underlying199
 a25:=Tryz.isAgg199
 z25:=Tryz.sizeOf199
 v25:=Tryz.zeroValue199
 t39:=Tryz.underlying201
 a39:=Tryz.isAgg201
 z39:=Tryz.sizeOf201
 v39:=Tryz.zeroValue201
 t45:=Tryz.underlying222
 a45:=Tryz.isAgg222
 z45:=Tryz.sizeOf222
 v45:=Tryz.zeroValue222
 t46:=Tryz.underlying223
 a46:=Tryz.isAgg223
 z46:=Tryz.sizeOf223
 v46:=Tryz.zeroValue223
 t50:=Tryz.underlying149
 a50:=Tryz.isAgg149
 z50:=Tryz.sizeOf149
 v50:=Tryz.zeroValue149
 t53:=Tryz.underlying229
 a53:=Tryz.isAgg229
 z53:=Tryz.sizeOf229
 v53:=Tryz.zeroValue229
 t55:=Tryz.underlying231
 a55:=Tryz.isAgg231
 z55:=Tryz.sizeOf231
 v55:=Tryz.zeroValue231
 t66:=Tryz.underlying232
 a66:=Tryz.isAgg232
 z66:=Tryz.sizeOf232
 v66:=Tryz.zeroValue232
 t70:=Tryz.underlying236
 a70:=Tryz.isAgg236
 z70:=Tryz.sizeOf236
 v70:=Tryz.zeroValue236
 t76:=Tryz.underlying238
 a76:=Tryz.isAgg238
 z76:=Tryz.sizeOf238
 v76:=Tryz.zeroValue238
 t77:=Tryz.underlying239
 a77:=Tryz.isAgg239
 z77:=Tryz.sizeOf239
 v77:=Tryz.zeroValue239 }
theorem N_:x_ Tryz.prog 163 where
 ok:=⟨Tryz.f163,Tryz.func163,by kernel_rfl,by kernel_rfl⟩
 zero:=λp cap fv w=>AnyF.slices_SortFunc_none (ρ:=Tryz.w8) { Tryz.MT with } p cap fv w
 all:=λenc h1 cf hO g cb blk off cap d w eg hc hH hb hs=>Any.slices_SortFunc_eq (ρ:=Tryz.w8) Tryz.MT enc h1 cf hO g cb blk off cap d w eg hc hH hb hs
theorem M4:∀f,EA.sort f=true->x_ Tryz.prog f:=λf h=>by
 have:f=163:=Nat.eq_of_beq_eq_true h;subst this;exact N_
theorem t_:∀az y,sy 8 az=some y->tK Tryz.prog 110 az y:=
 Oy (f:=110) (A:=146) (S:=28) (e:=3) (n:=8) (bytes:=64) Tryz.func110 rfl rfl rfl (by kernel_rfl) Tryz.underlying146 Tryz.underlying28 (by kernel_rfl) (by kernel_rfl)
theorem Ja:∀f az y,EA.known f az=some y->tK Tryz.prog f az y:=λf az y h=>by
 change (if Nat.beq f 110 then sy 8 az else none)=some y at h;split at h
 .rename_i hf;have:f=110:=Nat.eq_of_beq_eq_true hf;subst this;exact t_ az y h
 .cases h
theorem P0 (n:Nat):jk Tryz.prog (run EA n):=CP PN mixed ⟨M4,Ja⟩ n
end Go.Proofs.YtdoibkkdaojjpaaGreat
namespace Go.Proofs.YtdoibkkdaojjpaaGreat
open Go.VE Go.Proofs
def a0:V:=.agg [.fsl 3 [[.str (ByteArray.mk #[97]),.aG,.fsl 5 [[.int .i64 1,.int .i64 0,.int .i64 0,.int .i64 0,.aG]]],[.str (ByteArray.mk #[98]),.aG,.fsl 5 [[.int .i64 1,.int .i64 0,.int .i64 0,.int .i64 0,.aG]]]]]
def a1:V:=.clo 172 [] [.fptr [.str (ByteArray.mk #[97]),.aG,.fsl 5 [[.int .i64 1,.int .i64 0,.int .i64 0,.int .i64 0,.aG]]]]
def a2:V:=.fsl 3 [[.str (ByteArray.mk #[97]),.aG,.fsl 5 [[.int .i64 1,.int .i64 0,.int .i64 0,.int .i64 0,.aG]]]]
def a3:V:=.clo 172 [] [.fptr [.str (ByteArray.mk #[98]),.aG,.fsl 5 [[.int .i64 1,.int .i64 0,.int .i64 0,.int .i64 0,.aG]]]]
def a4:V:=.agg [.int .i64 1,.int .i64 0,.int .i64 0,.int .i64 0,.aG]
def a5:V:=.agg [.int .i64 0,.int .i64 1]
def a6:V:=.agg [.int .i64 1,.int .i64 1]
def a7:V:=.fptr [.int .i64 0,.int .i64 0,.int .i64 0,.int .i64 0,.int .i64 0,.int .i64 0,.int .i64 0,.int .i64 0,.int .i64 0,.int .i64 0,.int .i64 0,.int .i64 0,.int .i64 0,.int .i64 0,.int .i64 0,.int .i64 0,.int .i64 0,.int .i64 0,.int .i64 0,.int .i64 0,.int .i64 0,.int .i64 0,.int .i64 0,.int .i64 0,.int .i64 0,.int .i64 0,.int .i64 0,.int .i64 0,.int .i64 0,.int .i64 0,.int .i64 0,.int .i64 0,.int .i64 0,.int .i64 0,.int .i64 0,.int .i64 0,.int .i64 0,.int .i64 0,.int .i64 0,.int .i64 0,.int .i64 0,.int .i64 0,.int .i64 0,.int .i64 0,.int .i64 0,.int .i64 0,.int .i64 0,.int .i64 0,.int .i64 0,.int .i64 0,.int .i64 0,.int .i64 0,.int .i64 0,.int .i64 0,.int .i64 0,.int .i64 0,.int .i64 0,.int .i64 0,.int .i64 0,.int .i64 0,.int .i64 0,.int .i64 0,.int .i64 0,.int .i64 0,.int .i64 0,.int .i64 0,.int .i64 0,.int .i64 0,.int .i64 0,.int .i64 0,.int .i64 0,.int .i64 0,.int .i64 0,.int .i64 0,.int .i64 0,.int .i64 0,.int .i64 0,.int .i64 0,.int .i64 0,.int .i64 0,.int .i64 0,.int .i64 0,.int .i64 0,.int .i64 0,.int .i64 0,.int .i64 0,.int .i64 0,.int .i64 0,.int .i64 0,.int .i64 0,.int .i64 0,.int .i64 0,.int .i64 0,.int .i64 0,.int .i64 0,.int .i64 0,.int .i64 0,.int .i64 0,.int .i64 0,.int .i64 0,.int .i64 0,.int .i64 0,.int .i64 0,.int .i64 0,.int .i64 0,.int .i64 0,.int .i64 0,.int .i64 0,.int .i64 0,.int .i64 0,.int .i64 0,.int .i64 0,.int .i64 0,.int .i64 0,.int .i64 0,.int .i64 0,.int .i64 0,.int .i64 0,.int .i64 0,.int .i64 0,.int .i64 0,.int .i64 0,.int .i64 0,.int .i64 0,.int .i64 0,.int .i64 0,.int .i64 0,.int .i64 0,.int .i64 0,.int .i64 0,.int .i64 0,.int .i64 0,.int .i64 0,.int .i64 0,.int .i64 0,.int .i64 0,.int .i64 0,.int .i64 0,.int .i64 0,.int .i64 0,.int .i64 0,.int .i64 0,.int .i64 0,.int .i64 0,.int .i64 0,.int .i64 0,.int .i64 0,.int .i64 0,.int .i64 0,.int .i64 0,.int .i64 0,.int .i64 0,.int .i64 0,.int .i64 0,.int .i64 0,.int .i64 0,.int .i64 0,.int .i64 0,.int .i64 0,.int .i64 0,.int .i64 0,.int .i64 0,.int .i64 0,.int .i64 0,.int .i64 0,.int .i64 0,.int .i64 0,.int .i64 0,.int .i64 0,.int .i64 0,.int .i64 0,.int .i64 0,.int .i64 0,.int .i64 0,.int .i64 0,.int .i64 0,.int .i64 0,.int .i64 0,.int .i64 0,.int .i64 0,.int .i64 0,.int .i64 0,.int .i64 0,.int .i64 0,.int .i64 0,.int .i64 0,.int .i64 0,.int .i64 0,.int .i64 0,.int .i64 0,.int .i64 0,.int .i64 0,.int .i64 0,.int .i64 0,.int .i64 0,.int .i64 0,.int .i64 0,.int .i64 0,.int .i64 0,.int .i64 0,.int .i64 0,.int .i64 0,.int .i64 0,.int .i64 0,.int .i64 0,.int .i64 0,.int .i64 0,.int .i64 0,.int .i64 0,.int .i64 0,.int .i64 0,.int .i64 0,.int .i64 0,.int .i64 0,.int .i64 0,.int .i64 0,.int .i64 0,.int .i64 0,.int .i64 0,.int .i64 0,.int .i64 0,.int .i64 0,.int .i64 0,.int .i64 0,.int .i64 0,.int .i64 0,.int .i64 0,.int .i64 0,.int .i64 0,.int .i64 0,.int .i64 0,.int .i64 0,.int .i64 0,.int .i64 0,.int .i64 0,.int .i64 0,.int .i64 0,.int .i64 0,.int .i64 0,.int .i64 0,.int .i64 0,.int .i64 0,.int .i64 0,.int .i64 0,.int .i64 0,.int .i64 0,.int .i64 0,.int .i64 0,.int .i64 0,.int .i64 0,.int .i64 0,.int .i64 0,.int .i64 0,.int .i64 0,.int .i64 0,.int .i64 0,.int .i64 0,.int .i64 0,.int .i64 0,.int .i64 0,.int .i64 0,.int .i64 0,.int .i64 0,.int .i64 0,.int .i64 0,.int .i64 0,.int .i64 0,.int .i64 0,.int .i64 0,.int .i64 0,.int .i64 0,.int .i64 0,.int .i64 0,.int .i64 0,.int .i64 0,.int .i64 0,.int .i64 0,.int .i64 0,.int .i64 0,.int .i64 0,.int .i64 0,.int .i64 0,.int .i64 0,.int .i64 0,.int .i64 0,.int .i64 0,.int .i64 0,.int .i64 0,.int .i64 0,.int .i64 0,.int .i64 0,.int .i64 0,.int .i64 0,.int .i64 0,.int .i64 0,.int .i64 0,.int .i64 0,.int .i64 0,.int .i64 0,.int .i64 0,.int .i64 0,.int .i64 0,.int .i64 0,.int .i64 0,.int .i64 0,.int .i64 0,.int .i64 0,.int .i64 0,.int .i64 0,.int .i64 0,.int .i64 0,.int .i64 0,.int .i64 0,.int .i64 0,.int .i64 0,.int .i64 0,.int .i64 0,.int .i64 0,.int .i64 0,.int .i64 0,.int .i64 0,.int .i64 0,.int .i64 0,.int .i64 0,.int .i64 0,.int .i64 0,.int .i64 0,.int .i64 0,.int .i64 0,.int .i64 0,.int .i64 0,.int .i64 0,.int .i64 0,.int .i64 0,.int .i64 0,.int .i64 0,.int .i64 0,.int .i64 0,.int .i64 0,.int .i64 0,.int .i64 0,.int .i64 0,.int .i64 0,.int .i64 0,.int .i64 0,.int .i64 0,.int .i64 0,.int .i64 0,.int .i64 0,.int .i64 0,.int .i64 0,.int .i64 0,.int .i64 0,.int .i64 0,.int .i64 0,.int .i64 0,.int .i64 0,.int .i64 0,.int .i64 0,.int .i64 0,.int .i64 0,.int .i64 0,.int .i64 0,.int .i64 0,.int .i64 0,.int .i64 0,.int .i64 0,.int .i64 0,.int .i64 0,.int .i64 0,.int .i64 0,.int .i64 0,.int .i64 0,.int .i64 0,.int .i64 0,.int .i64 0,.int .i64 0,.int .i64 0,.int .i64 0,.int .i64 0,.int .i64 0,.int .i64 0,.int .i64 0,.int .i64 0,.int .i64 0,.int .i64 0,.int .i64 0,.int .i64 0,.int .i64 0,.int .i64 0,.int .i64 0,.int .i64 0,.int .i64 0,.int .i64 0,.int .i64 0,.int .i64 0,.int .i64 0,.int .i64 0,.int .i64 0,.int .i64 0,.int .i64 0,.int .i64 0,.int .i64 0,.int .i64 0,.int .i64 0,.int .i64 0,.int .i64 0,.int .i64 0,.int .i64 0,.int .i64 0,.int .i64 0,.int .i64 0,.int .i64 0,.int .i64 0,.int .i64 0,.int .i64 0,.int .i64 0,.int .i64 0,.int .i64 0,.int .i64 0,.int .i64 0,.int .i64 0,.int .i64 0,.int .i64 0,.int .i64 0,.int .i64 0,.int .i64 0,.int .i64 0,.int .i64 0,.int .i64 0,.int .i64 0,.int .i64 0,.int .i64 0,.int .i64 0,.int .i64 0,.int .i64 0,.int .i64 0,.int .i64 0,.int .i64 0,.int .i64 0,.int .i64 0,.int .i64 0,.int .i64 0,.int .i64 0,.int .i64 0,.int .i64 0,.int .i64 0,.int .i64 0,.int .i64 0,.int .i64 0,.int .i64 0,.int .i64 0,.int .i64 0,.int .i64 0,.int .i64 0,.int .i64 0,.int .i64 0,.int .i64 0,.int .i64 0,.int .i64 0,.int .i64 0,.int .i64 0,.int .i64 0,.int .i64 0,.int .i64 0,.int .i64 0,.int .i64 0,.int .i64 0,.int .i64 0,.int .i64 0,.int .i64 0,.int .i64 0,.int .i64 0,.int .i64 0,.int .i64 0,.int .i64 0,.int .i64 0,.int .i64 0,.int .i64 0,.int .i64 0,.int .i64 0,.int .i64 0,.int .i64 0,.int .i64 0,.int .i64 0,.int .i64 0,.int .i64 0,.int .i64 0,.int .i64 0,.int .i64 0,.int .i64 0,.int .i64 0,.int .i64 0,.int .i64 0,.int .i64 0,.int .i64 0,.int .i64 0,.int .i64 0,.int .i64 0,.int .i64 0,.int .i64 0,.int .i64 0,.int .i64 0,.int .i64 0,.int .i64 0,.int .i64 0,.int .i64 0,.int .i64 0,.int .i64 0,.int .i64 0,.int .i64 0,.int .i64 0,.int .i64 0,.int .i64 0,.int .i64 0,.int .i64 0,.int .i64 0,.int .i64 0,.int .i64 0,.int .i64 0,.int .i64 0,.int .i64 0,.int .i64 0,.int .i64 0,.int .i64 0,.int .i64 0,.int .i64 0,.int .i64 0,.int .i64 0,.int .i64 0,.int .i64 0,.int .i64 0,.int .i64 0,.int .i64 0,.int .i64 0,.int .i64 0,.int .i64 0,.int .i64 0,.int .i64 0,.int .i64 0,.int .i64 0,.int .i64 0,.int .i64 0,.int .i64 0,.int .i64 0,.int .i64 0,.int .i64 0,.int .i64 0,.int .i64 0,.int .i64 0,.int .i64 0,.int .i64 0,.int .i64 0,.int .i64 0,.int .i64 0,.int .i64 0,.int .i64 0,.int .i64 0,.int .i64 0,.int .i64 0,.int .i64 0,.int .i64 0,.int .i64 0,.int .i64 0,.int .i64 0,.int .i64 0,.int .i64 0,.int .i64 0,.int .i64 0,.int .i64 0,.int .i64 0,.int .i64 0,.int .i64 0,.int .i64 0,.int .i64 0,.int .i64 0,.int .i64 0,.int .i64 0,.int .i64 0,.int .i64 0,.int .i64 0,.int .i64 0,.int .i64 0,.int .i64 0,.int .i64 0,.int .i64 0,.int .i64 0,.int .i64 0,.int .i64 0,.int .i64 0,.int .i64 0,.int .i64 0,.int .i64 0,.int .i64 0,.int .i64 0,.int .i64 0,.int .i64 0,.int .i64 0,.int .i64 0,.int .i64 0,.int .i64 0,.int .i64 0,.int .i64 0,.int .i64 0,.int .i64 0,.int .i64 0,.int .i64 0,.int .i64 0,.int .i64 0,.int .i64 0,.int .i64 0,.int .i64 0,.int .i64 0,.int .i64 0,.int .i64 0,.int .i64 0,.int .i64 0,.int .i64 0,.int .i64 0,.int .i64 0,.int .i64 0,.int .i64 0,.int .i64 0,.int .i64 0,.int .i64 0,.int .i64 0,.int .i64 0,.int .i64 0,.int .i64 0,.int .i64 0,.int .i64 0,.int .i64 0,.int .i64 0,.int .i64 0,.int .i64 0,.int .i64 0,.int .i64 0,.int .i64 0,.int .i64 0,.int .i64 0,.int .i64 0,.int .i64 0,.int .i64 0,.int .i64 0,.int .i64 0,.int .i64 0,.int .i64 0,.int .i64 0,.int .i64 0,.int .i64 0,.int .i64 0,.int .i64 0,.int .i64 0,.int .i64 0,.int .i64 0,.int .i64 0,.int .i64 0,.int .i64 0,.int .i64 0,.int .i64 0,.int .i64 0,.int .i64 0,.int .i64 0,.int .i64 0,.int .i64 0,.int .i64 0,.int .i64 0,.int .i64 0,.int .i64 0,.int .i64 0,.int .i64 0,.int .i64 0,.int .i64 0,.int .i64 0,.int .i64 0,.int .i64 0,.int .i64 0,.int .i64 0,.int .i64 0,.int .i64 0,.int .i64 0,.int .i64 0,.int .i64 0,.int .i64 0,.int .i64 0,.int .i64 0,.int .i64 0,.int .i64 0,.int .i64 0,.int .i64 0,.int .i64 0,.int .i64 0,.int .i64 0,.int .i64 0,.int .i64 0,.int .i64 0,.int .i64 0,.int .i64 0,.int .i64 0,.int .i64 0,.int .i64 0,.int .i64 0,.int .i64 0,.int .i64 0,.int .i64 0,.int .i64 0,.int .i64 0,.int .i64 0,.int .i64 0,.int .i64 0,.int .i64 0,.int .i64 0,.int .i64 0,.int .i64 0,.int .i64 0,.int .i64 0,.int .i64 0,.int .i64 0,.int .i64 0,.int .i64 0,.int .i64 0,.int .i64 0,.int .i64 0,.int .i64 0,.int .i64 0,.int .i64 0,.int .i64 0,.int .i64 0,.int .i64 0,.int .i64 0,.int .i64 0,.int .i64 0,.int .i64 0,.int .i64 0,.int .i64 0,.int .i64 0,.int .i64 0,.int .i64 0,.int .i64 0,.int .i64 0,.int .i64 0,.int .i64 0,.int .i64 0,.int .i64 0,.int .i64 0,.int .i64 0,.int .i64 0,.int .i64 0,.int .i64 0,.int .i64 0,.int .i64 0,.int .i64 0,.int .i64 0,.int .i64 0,.int .i64 0,.int .i64 0,.int .i64 0,.int .i64 0,.int .i64 0,.int .i64 0,.int .i64 0,.int .i64 0,.int .i64 0,.int .i64 0,.int .i64 0,.int .i64 0,.int .i64 0,.int .i64 0,.int .i64 0,.int .i64 0,.int .i64 0,.int .i64 0,.int .i64 0,.int .i64 0,.int .i64 0,.int .i64 0,.int .i64 0,.int .i64 0,.int .i64 0,.int .i64 0,.int .i64 0,.int .i64 0,.int .i64 0,.int .i64 0,.int .i64 0,.int .i64 0,.int .i64 0,.int .i64 0,.int .i64 0,.int .i64 0,.int .i64 0,.int .i64 0,.int .i64 0,.int .i64 0,.int .i64 0,.int .i64 0,.int .i64 0,.int .i64 0,.int .i64 0,.int .i64 0]
def a8:V:=.agg [.fsl 1 [[.int .i64 1],[.int .i64 1]],.fsl 1 [[.fsl 2 [[.int .i64 0,.int .i64 0]]],[.fsl 2 [[.int .i64 0,.int .i64 0]]]]]
def a9:V:=.fsl 1 [[.int .i64 0],[.int .i64 0]]
def sJ:V:=.fsl 1 [[.int .i64 1],[.int .i64 0]]
def sH:V:=.fsl 1 [[.int .i64 0],[.int .i64 1]]
def a12:V:=.fsl 1 [[.fsl 1 [[.int .i64 0],[.int .i64 1]]],[.fsl 1 [[.int .i64 1],[.int .i64 0]]]]
def zq:V:=.fsl 1 [[.int .i64 1],[.int .i64 1]]
def Te:V:=.fsl 1 [[.fsl 1 [[.int .i64 1],[.int .i64 1]]]]
def Uc:V:=.tup [.fsl 1 [[.fsl 1 [[.int .i64 0],[.int .i64 0]]],[.fsl 1 [[.int .i64 0],[.int .i64 1]]],[.fsl 1 [[.int .i64 1],[.int .i64 0]]],[.fsl 1 [[.int .i64 1],[.int .i64 1]]]],.int .i64 0]
def Rb:V:=.fsl 1 [[.bool false],[.bool true],[.bool true],[.bool true]]
def a17:V:=.agg [.fsl 1 [[.bool false],[.bool true],[.bool true],[.bool true]],.fsl 1 [[.fsl 1 [[.int .i64 0],[.int .i64 0]]],[.fsl 1 [[.int .i64 0],[.int .i64 1]]],[.fsl 1 [[.int .i64 1],[.int .i64 0]]],[.fsl 1 [[.int .i64 1],[.int .i64 1]]]],.fmap [(.agg [.int .i64 0,.int .i64 0,.int .i64 0,.int .i64 0,.int .i64 0,.int .i64 0,.int .i64 0,.int .i64 0],.int .i64 0),(.agg [.int .i64 0,.int .i64 1,.int .i64 0,.int .i64 0,.int .i64 0,.int .i64 0,.int .i64 0,.int .i64 0],.int .i64 1),(.agg [.int .i64 1,.int .i64 0,.int .i64 0,.int .i64 0,.int .i64 0,.int .i64 0,.int .i64 0,.int .i64 0],.int .i64 2),(.agg [.int .i64 1,.int .i64 1,.int .i64 0,.int .i64 0,.int .i64 0,.int .i64 0,.int .i64 0,.int .i64 0],.int .i64 3)]]
def k0:bq:=⟨48,[],a0⟩
theorem R9:aU EA k0:=aS (n:=100) (l:=[]) (by simp) (by kernel_rfl)
def k1:bq:=⟨150,[.int .i64 2,.int .i64 1,.int .i64 8],.bool true⟩
theorem SH:aU EA k1:=aS (n:=100) (l:=[]) (by simp) (by kernel_rfl)
def k2:bq:=⟨185,[.int .u8 97],.bool true⟩
theorem Sw:aU EA k2:=aS (n:=100) (l:=[]) (by simp) (by kernel_rfl)
def k3:bq:=⟨170,[.str (ByteArray.mk #[97])],.bool true⟩
theorem SP:aU EA k3:=aS (n:=100) (l:=[k2]) (by simp only[List.forall_mem_cons];exact⟨Sw,by simp⟩) (by kernel_rfl)
def k4:bq:=⟨187,[.fsl 3 [],a1],.int .i64 (-1)⟩
theorem Sx:aU EA k4:=aS (n:=100) (l:=[]) (by simp) (by kernel_rfl)
def k5:bq:=⟨171,[.fsl 3 [],a1],.bool false⟩
theorem SC:aU EA k5:=aS (n:=100) (l:=[k4]) (by simp only[List.forall_mem_cons];exact⟨Sx,by simp⟩) (by kernel_rfl)
def k6:bq:=⟨151,[a0,.int .i64 0],.int .i64 0⟩
theorem S3:aU EA k6:=aS (n:=100) (l:=[k3,k5]) (by simp only[List.forall_mem_cons];exact⟨SP,SC,by simp⟩) (by kernel_rfl)
def k7:bq:=⟨185,[.int .u8 98],.bool true⟩
theorem R7:aU EA k7:=aS (n:=100) (l:=[]) (by simp) (by kernel_rfl)
def k8:bq:=⟨170,[.str (ByteArray.mk #[98])],.bool true⟩
theorem S6:aU EA k8:=aS (n:=100) (l:=[k7]) (by simp only[List.forall_mem_cons];exact⟨R7,by simp⟩) (by kernel_rfl)
def k9:bq:=⟨172,[.agg [.str (ByteArray.mk #[97]),.aG,.fsl 5 [[.int .i64 1,.int .i64 0,.int .i64 0,.int .i64 0,.aG]]],.fptr [.str (ByteArray.mk #[98]),.aG,.fsl 5 [[.int .i64 1,.int .i64 0,.int .i64 0,.int .i64 0,.aG]]]],.bool false⟩
theorem SS:aU EA k9:=aS (n:=100) (l:=[]) (by simp) (by kernel_rfl)
def TJ:bq:=⟨187,[a2,a3],.int .i64 (-1)⟩
theorem Qg:aU EA TJ:=aS (n:=100) (l:=[k9]) (by simp only[List.forall_mem_cons];exact⟨SS,by simp⟩) (by kernel_rfl)
def Uf:bq:=⟨171,[a2,a3],.bool false⟩
theorem Qt:aU EA Uf:=aS (n:=100) (l:=[TJ]) (by simp only[List.forall_mem_cons];exact⟨Qg,by simp⟩) (by kernel_rfl)
def wE:bq:=⟨151,[a0,.int .i64 1],.int .i64 0⟩
theorem Qn:aU EA wE:=aS (n:=100) (l:=[k8,Uf]) (by simp only[List.forall_mem_cons];exact⟨S6,Qt,by simp⟩) (by kernel_rfl)
def Nd:bq:=⟨152,[a0],.clo 175 [] [.fptr [.fsl 3 [[.str (ByteArray.mk #[97]),.aG,.fsl 5 [[.int .i64 1,.int .i64 0,.int .i64 0,.int .i64 0,.aG]]],[.str (ByteArray.mk #[98]),.aG,.fsl 5 [[.int .i64 1,.int .i64 0,.int .i64 0,.int .i64 0,.aG]]]]]]⟩
theorem EC:aU EA Nd:=aS (n:=100) (l:=[]) (by simp) (by kernel_rfl)
def TC:bq:=⟨176,[a0,.int .i64 0,a4],.bool true⟩
theorem Qr:aU EA TC:=aS (n:=100) (l:=[]) (by simp) (by kernel_rfl)
def RH:bq:=⟨150,[.int .i64 0,.int .i64 0,.int .i64 1099511627776],.bool true⟩
theorem JM:aU EA RH:=aS (n:=100) (l:=[]) (by simp) (by kernel_rfl)
def Tm:bq:=⟨153,[a0,a5,a4],.int .i64 0⟩
theorem Qx:aU EA Tm:=aS (n:=100) (l:=[TC,RH]) (by simp only[List.forall_mem_cons];exact⟨Qr,JM,by simp⟩) (by kernel_rfl)
def T4:bq:=⟨176,[a0,.int .i64 1,a4],.bool true⟩
theorem Rz:aU EA T4:=aS (n:=100) (l:=[]) (by simp) (by kernel_rfl)
def Tk:bq:=⟨153,[a0,a6,a4],.int .i64 0⟩
theorem Rs:aU EA Tk:=aS (n:=100) (l:=[T4,RH]) (by simp only[List.forall_mem_cons];exact⟨Rz,JM,by simp⟩) (by kernel_rfl)
def Tr:bq:=⟨154,[a0],.tup [.fptr [.int .i64 0,.int .i64 0,.int .i64 0,.int .i64 0,.int .i64 0,.int .i64 0,.int .i64 0,.int .i64 0,.int .i64 0,.int .i64 0,.int .i64 0,.int .i64 0,.int .i64 0,.int .i64 0,.int .i64 0,.int .i64 0,.int .i64 0,.int .i64 0,.int .i64 0,.int .i64 0,.int .i64 0,.int .i64 0,.int .i64 0,.int .i64 0,.int .i64 0,.int .i64 0,.int .i64 0,.int .i64 0,.int .i64 0,.int .i64 0,.int .i64 0,.int .i64 0,.int .i64 0,.int .i64 0,.int .i64 0,.int .i64 0,.int .i64 0,.int .i64 0,.int .i64 0,.int .i64 0,.int .i64 0,.int .i64 0,.int .i64 0,.int .i64 0,.int .i64 0,.int .i64 0,.int .i64 0,.int .i64 0,.int .i64 0,.int .i64 0,.int .i64 0,.int .i64 0,.int .i64 0,.int .i64 0,.int .i64 0,.int .i64 0,.int .i64 0,.int .i64 0,.int .i64 0,.int .i64 0,.int .i64 0,.int .i64 0,.int .i64 0,.int .i64 0,.int .i64 0,.int .i64 0,.int .i64 0,.int .i64 0,.int .i64 0,.int .i64 0,.int .i64 0,.int .i64 0,.int .i64 0,.int .i64 0,.int .i64 0,.int .i64 0,.int .i64 0,.int .i64 0,.int .i64 0,.int .i64 0,.int .i64 0,.int .i64 0,.int .i64 0,.int .i64 0,.int .i64 0,.int .i64 0,.int .i64 0,.int .i64 0,.int .i64 0,.int .i64 0,.int .i64 0,.int .i64 0,.int .i64 0,.int .i64 0,.int .i64 0,.int .i64 0,.int .i64 0,.int .i64 0,.int .i64 0,.int .i64 0,.int .i64 0,.int .i64 0,.int .i64 0,.int .i64 0,.int .i64 0,.int .i64 0,.int .i64 0,.int .i64 0,.int .i64 0,.int .i64 0,.int .i64 0,.int .i64 0,.int .i64 0,.int .i64 0,.int .i64 0,.int .i64 0,.int .i64 0,.int .i64 0,.int .i64 0,.int .i64 0,.int .i64 0,.int .i64 0,.int .i64 0,.int .i64 0,.int .i64 0,.int .i64 0,.int .i64 0,.int .i64 0,.int .i64 0,.int .i64 0,.int .i64 0,.int .i64 0,.int .i64 0,.int .i64 0,.int .i64 0,.int .i64 0,.int .i64 0,.int .i64 0,.int .i64 0,.int .i64 0,.int .i64 0,.int .i64 0,.int .i64 0,.int .i64 0,.int .i64 0,.int .i64 0,.int .i64 0,.int .i64 0,.int .i64 0,.int .i64 0,.int .i64 0,.int .i64 0,.int .i64 0,.int .i64 0,.int .i64 0,.int .i64 0,.int .i64 0,.int .i64 0,.int .i64 0,.int .i64 0,.int .i64 0,.int .i64 0,.int .i64 0,.int .i64 0,.int .i64 0,.int .i64 0,.int .i64 0,.int .i64 0,.int .i64 0,.int .i64 0,.int .i64 0,.int .i64 0,.int .i64 0,.int .i64 0,.int .i64 0,.int .i64 0,.int .i64 0,.int .i64 0,.int .i64 0,.int .i64 0,.int .i64 0,.int .i64 0,.int .i64 0,.int .i64 0,.int .i64 0,.int .i64 0,.int .i64 0,.int .i64 0,.int .i64 0,.int .i64 0,.int .i64 0,.int .i64 0,.int .i64 0,.int .i64 0,.int .i64 0,.int .i64 0,.int .i64 0,.int .i64 0,.int .i64 0,.int .i64 0,.int .i64 0,.int .i64 0,.int .i64 0,.int .i64 0,.int .i64 0,.int .i64 0,.int .i64 0,.int .i64 0,.int .i64 0,.int .i64 0,.int .i64 0,.int .i64 0,.int .i64 0,.int .i64 0,.int .i64 0,.int .i64 0,.int .i64 0,.int .i64 0,.int .i64 0,.int .i64 0,.int .i64 0,.int .i64 0,.int .i64 0,.int .i64 0,.int .i64 0,.int .i64 0,.int .i64 0,.int .i64 0,.int .i64 0,.int .i64 0,.int .i64 0,.int .i64 0,.int .i64 0,.int .i64 0,.int .i64 0,.int .i64 0,.int .i64 0,.int .i64 0,.int .i64 0,.int .i64 0,.int .i64 0,.int .i64 0,.int .i64 0,.int .i64 0,.int .i64 0,.int .i64 0,.int .i64 0,.int .i64 0,.int .i64 0,.int .i64 0,.int .i64 0,.int .i64 0,.int .i64 0,.int .i64 0,.int .i64 0,.int .i64 0,.int .i64 0,.int .i64 0,.int .i64 0,.int .i64 0,.int .i64 0,.int .i64 0,.int .i64 0,.int .i64 0,.int .i64 0,.int .i64 0,.int .i64 0,.int .i64 0,.int .i64 0,.int .i64 0,.int .i64 0,.int .i64 0,.int .i64 0,.int .i64 0,.int .i64 0,.int .i64 0,.int .i64 0,.int .i64 0,.int .i64 0,.int .i64 0,.int .i64 0,.int .i64 0,.int .i64 0,.int .i64 0,.int .i64 0,.int .i64 0,.int .i64 0,.int .i64 0,.int .i64 0,.int .i64 0,.int .i64 0,.int .i64 0,.int .i64 0,.int .i64 0,.int .i64 0,.int .i64 0,.int .i64 0,.int .i64 0,.int .i64 0,.int .i64 0,.int .i64 0,.int .i64 0,.int .i64 0,.int .i64 0,.int .i64 0,.int .i64 0,.int .i64 0,.int .i64 0,.int .i64 0,.int .i64 0,.int .i64 0,.int .i64 0,.int .i64 0,.int .i64 0,.int .i64 0,.int .i64 0,.int .i64 0,.int .i64 0,.int .i64 0,.int .i64 0,.int .i64 0,.int .i64 0,.int .i64 0,.int .i64 0,.int .i64 0,.int .i64 0,.int .i64 0,.int .i64 0,.int .i64 0,.int .i64 0,.int .i64 0,.int .i64 0,.int .i64 0,.int .i64 0,.int .i64 0,.int .i64 0,.int .i64 0,.int .i64 0,.int .i64 0,.int .i64 0,.int .i64 0,.int .i64 0,.int .i64 0,.int .i64 0,.int .i64 0,.int .i64 0,.int .i64 0,.int .i64 0,.int .i64 0,.int .i64 0,.int .i64 0,.int .i64 0,.int .i64 0,.int .i64 0,.int .i64 0,.int .i64 0,.int .i64 0,.int .i64 0,.int .i64 0,.int .i64 0,.int .i64 0,.int .i64 0,.int .i64 0,.int .i64 0,.int .i64 0,.int .i64 0,.int .i64 0,.int .i64 0,.int .i64 0,.int .i64 0,.int .i64 0,.int .i64 0,.int .i64 0,.int .i64 0,.int .i64 0,.int .i64 0,.int .i64 0,.int .i64 0,.int .i64 0,.int .i64 0,.int .i64 0,.int .i64 0,.int .i64 0,.int .i64 0,.int .i64 0,.int .i64 0,.int .i64 0,.int .i64 0,.int .i64 0,.int .i64 0,.int .i64 0,.int .i64 0,.int .i64 0,.int .i64 0,.int .i64 0,.int .i64 0,.int .i64 0,.int .i64 0,.int .i64 0,.int .i64 0,.int .i64 0,.int .i64 0,.int .i64 0,.int .i64 0,.int .i64 0,.int .i64 0,.int .i64 0,.int .i64 0,.int .i64 0,.int .i64 0,.int .i64 0,.int .i64 0,.int .i64 0,.int .i64 0,.int .i64 0,.int .i64 0,.int .i64 0,.int .i64 0,.int .i64 0,.int .i64 0,.int .i64 0,.int .i64 0,.int .i64 0,.int .i64 0,.int .i64 0,.int .i64 0,.int .i64 0,.int .i64 0,.int .i64 0,.int .i64 0,.int .i64 0,.int .i64 0,.int .i64 0,.int .i64 0,.int .i64 0,.int .i64 0,.int .i64 0,.int .i64 0,.int .i64 0,.int .i64 0,.int .i64 0,.int .i64 0,.int .i64 0,.int .i64 0,.int .i64 0,.int .i64 0,.int .i64 0,.int .i64 0,.int .i64 0,.int .i64 0,.int .i64 0,.int .i64 0,.int .i64 0,.int .i64 0,.int .i64 0,.int .i64 0,.int .i64 0,.int .i64 0,.int .i64 0,.int .i64 0,.int .i64 0,.int .i64 0,.int .i64 0,.int .i64 0,.int .i64 0,.int .i64 0,.int .i64 0,.int .i64 0,.int .i64 0,.int .i64 0,.int .i64 0,.int .i64 0,.int .i64 0,.int .i64 0,.int .i64 0,.int .i64 0,.int .i64 0,.int .i64 0,.int .i64 0,.int .i64 0,.int .i64 0,.int .i64 0,.int .i64 0,.int .i64 0,.int .i64 0,.int .i64 0,.int .i64 0,.int .i64 0,.int .i64 0,.int .i64 0,.int .i64 0,.int .i64 0,.int .i64 0,.int .i64 0,.int .i64 0,.int .i64 0,.int .i64 0,.int .i64 0,.int .i64 0,.int .i64 0,.int .i64 0,.int .i64 0,.int .i64 0,.int .i64 0,.int .i64 0,.int .i64 0,.int .i64 0,.int .i64 0,.int .i64 0,.int .i64 0,.int .i64 0,.int .i64 0,.int .i64 0,.int .i64 0,.int .i64 0,.int .i64 0,.int .i64 0,.int .i64 0,.int .i64 0,.int .i64 0,.int .i64 0,.int .i64 0,.int .i64 0,.int .i64 0,.int .i64 0,.int .i64 0,.int .i64 0,.int .i64 0,.int .i64 0,.int .i64 0,.int .i64 0,.int .i64 0,.int .i64 0,.int .i64 0,.int .i64 0,.int .i64 0,.int .i64 0,.int .i64 0,.int .i64 0,.int .i64 0,.int .i64 0,.int .i64 0,.int .i64 0,.int .i64 0,.int .i64 0,.int .i64 0,.int .i64 0,.int .i64 0,.int .i64 0,.int .i64 0,.int .i64 0,.int .i64 0,.int .i64 0,.int .i64 0,.int .i64 0,.int .i64 0,.int .i64 0,.int .i64 0,.int .i64 0,.int .i64 0,.int .i64 0,.int .i64 0,.int .i64 0,.int .i64 0,.int .i64 0,.int .i64 0,.int .i64 0,.int .i64 0,.int .i64 0,.int .i64 0,.int .i64 0,.int .i64 0,.int .i64 0,.int .i64 0,.int .i64 0,.int .i64 0,.int .i64 0,.int .i64 0,.int .i64 0,.int .i64 0,.int .i64 0,.int .i64 0,.int .i64 0,.int .i64 0,.int .i64 0,.int .i64 0,.int .i64 0,.int .i64 0,.int .i64 0,.int .i64 0,.int .i64 0,.int .i64 0,.int .i64 0,.int .i64 0,.int .i64 0,.int .i64 0,.int .i64 0,.int .i64 0,.int .i64 0,.int .i64 0,.int .i64 0,.int .i64 0,.int .i64 0,.int .i64 0,.int .i64 0,.int .i64 0,.int .i64 0,.int .i64 0,.int .i64 0,.int .i64 0,.int .i64 0,.int .i64 0,.int .i64 0,.int .i64 0,.int .i64 0,.int .i64 0,.int .i64 0,.int .i64 0,.int .i64 0,.int .i64 0,.int .i64 0,.int .i64 0,.int .i64 0,.int .i64 0,.int .i64 0,.int .i64 0,.int .i64 0,.int .i64 0,.int .i64 0,.int .i64 0,.int .i64 0,.int .i64 0,.int .i64 0,.int .i64 0,.int .i64 0,.int .i64 0,.int .i64 0,.int .i64 0,.int .i64 0,.int .i64 0,.int .i64 0,.int .i64 0,.int .i64 0,.int .i64 0,.int .i64 0,.int .i64 0,.int .i64 0,.int .i64 0,.int .i64 0,.int .i64 0,.int .i64 0,.int .i64 0,.int .i64 0,.int .i64 0,.int .i64 0,.int .i64 0,.int .i64 0,.int .i64 0,.int .i64 0,.int .i64 0,.int .i64 0,.int .i64 0,.int .i64 0,.int .i64 0,.int .i64 0,.int .i64 0,.int .i64 0,.int .i64 0,.int .i64 0,.int .i64 0,.int .i64 0,.int .i64 0,.int .i64 0,.int .i64 0,.int .i64 0,.int .i64 0,.int .i64 0,.int .i64 0,.int .i64 0,.int .i64 0,.int .i64 0,.int .i64 0,.int .i64 0,.int .i64 0,.int .i64 0,.int .i64 0,.int .i64 0,.int .i64 0,.int .i64 0,.int .i64 0,.int .i64 0,.int .i64 0,.int .i64 0,.int .i64 0,.int .i64 0,.int .i64 0,.int .i64 0,.int .i64 0,.int .i64 0,.int .i64 0,.int .i64 0,.int .i64 0,.int .i64 0,.int .i64 0,.int .i64 0,.int .i64 0,.int .i64 0,.int .i64 0,.int .i64 0,.int .i64 0,.int .i64 0,.int .i64 0,.int .i64 0,.int .i64 0,.int .i64 0,.int .i64 0,.int .i64 0,.int .i64 0,.int .i64 0,.int .i64 0,.int .i64 0,.int .i64 0,.int .i64 0,.int .i64 0,.int .i64 0,.int .i64 0,.int .i64 0,.int .i64 0,.int .i64 0,.int .i64 0,.int .i64 0,.int .i64 0,.int .i64 0,.int .i64 0,.int .i64 0,.int .i64 0,.int .i64 0,.int .i64 0,.int .i64 0,.int .i64 0,.int .i64 0,.int .i64 0,.int .i64 0,.int .i64 0,.int .i64 0,.int .i64 0,.int .i64 0,.int .i64 0,.int .i64 0,.int .i64 0,.int .i64 0,.int .i64 0,.int .i64 0,.int .i64 0,.int .i64 0,.int .i64 0,.int .i64 0,.int .i64 0,.int .i64 0,.int .i64 0,.int .i64 0,.int .i64 0,.int .i64 0,.int .i64 0,.int .i64 0,.int .i64 0,.int .i64 0,.int .i64 0,.int .i64 0,.int .i64 0,.int .i64 0,.int .i64 0,.int .i64 0,.int .i64 0,.int .i64 0,.int .i64 0,.int .i64 0,.int .i64 0,.int .i64 0,.int .i64 0,.int .i64 0,.int .i64 0,.int .i64 0,.int .i64 0,.int .i64 0,.int .i64 0,.int .i64 0,.int .i64 0,.int .i64 0,.int .i64 0,.int .i64 0,.int .i64 0,.int .i64 0,.int .i64 0,.int .i64 0,.int .i64 0,.int .i64 0,.int .i64 0,.int .i64 0,.int .i64 0],.agg [.int .i64 0,.int .i64 0],.int .i64 0]⟩
theorem PG:aU EA Tr:=aS (n:=100) (l:=[Nd]) (by simp only[List.forall_mem_cons];exact⟨EC,by simp⟩) (by kernel_rfl)
def T7:bq:=⟨180,[a0,a7,a5],.aG⟩
theorem RE:aU EA T7:=aS (n:=100) (l:=[]) (by simp) (by kernel_rfl)
def Ui:bq:=⟨180,[a0,a7,a6],.aG⟩
theorem QJ:aU EA Ui:=aS (n:=100) (l:=[]) (by simp) (by kernel_rfl)
def Uj:bq:=⟨155,[a0,a7],.tup [.agg [.int .i64 0,.int .i64 0],.bool false]⟩
theorem PS:aU EA Uj:=aS (n:=100) (l:=[Nd,T7,Ui]) (by simp only[List.forall_mem_cons];exact⟨EC,RE,QJ,by simp⟩) (by kernel_rfl)
def TL:bq:=⟨129,[a0],.tup [.agg [.int .i64 0,.int .i64 0],.int .i64 0]⟩
theorem QM:aU EA TL:=aS (n:=100) (l:=[k1,k6,wE,Nd,Tm,Tk,Tr,Uj]) (by simp only[List.forall_mem_cons];exact⟨SH,S3,Qn,EC,Qx,Rs,PG,PS,by simp⟩) (by kernel_rfl)
def Uo:bq:=⟨88,[a0],.bool true⟩
theorem RD:aU EA Uo:=aS (n:=100) (l:=[TL]) (by simp only[List.forall_mem_cons];exact⟨QM,by simp⟩) (by kernel_rfl)
def TO:bq:=⟨144,[a0],a8⟩
theorem Rq:aU EA TO:=aS (n:=100) (l:=[]) (by simp) (by kernel_rfl)
def Tz:bq:=⟨162,[a8,a9,.int .i64 0],.bool true⟩
theorem Qw:aU EA Tz:=aS (n:=100) (l:=[]) (by simp) (by kernel_rfl)
def TF:bq:=⟨162,[a8,a9,.int .i64 1],.bool true⟩
theorem Q4:aU EA TF:=aS (n:=100) (l:=[]) (by simp) (by kernel_rfl)
def Na:bq:=⟨184,[.int .i64 1],.bool false⟩
theorem Eg:aU EA Na:=aS (n:=100) (l:=[]) (by simp) (by kernel_rfl)
def MS:bq:=⟨183,[.int .i64 1,.int .i64 1],.int .i64 0⟩
theorem Ds:aU EA MS:=aS (n:=100) (l:=[Na]) (by simp only[List.forall_mem_cons];exact⟨Eg,by simp⟩) (by kernel_rfl)
def Ny:bq:=⟨184,[.int .i64 0],.bool false⟩
theorem EO:aU EA Ny:=aS (n:=100) (l:=[]) (by simp) (by kernel_rfl)
def Q6:bq:=⟨183,[.int .i64 0,.int .i64 0],.int .i64 0⟩
theorem JX:aU EA Q6:=aS (n:=100) (l:=[Ny]) (by simp only[List.forall_mem_cons];exact⟨EO,by simp⟩) (by kernel_rfl)
def TA:bq:=⟨165,[sJ,sJ],.int .i64 0⟩
theorem Rg:aU EA TA:=aS (n:=100) (l:=[MS,Q6]) (by simp only[List.forall_mem_cons];exact⟨Ds,JX,by simp⟩) (by kernel_rfl)
def Ue:bq:=⟨164,[sJ,sJ],.int .i64 0⟩
theorem RN:aU EA Ue:=aS (n:=100) (l:=[TA]) (by simp only[List.forall_mem_cons];exact⟨Rg,by simp⟩) (by kernel_rfl)
def TR:bq:=⟨183,[.int .i64 1,.int .i64 0],.int .i64 1⟩
theorem QF:aU EA TR:=aS (n:=100) (l:=[Na,Ny]) (by simp only[List.forall_mem_cons];exact⟨Eg,EO,by simp⟩) (by kernel_rfl)
def TZ:bq:=⟨165,[sJ,sH],.int .i64 1⟩
theorem Q2:aU EA TZ:=aS (n:=100) (l:=[TR]) (by simp only[List.forall_mem_cons];exact⟨QF,by simp⟩) (by kernel_rfl)
def Ti:bq:=⟨164,[sJ,sH],.int .i64 1⟩
theorem QD:aU EA Ti:=aS (n:=100) (l:=[TZ]) (by simp only[List.forall_mem_cons];exact⟨Q2,by simp⟩) (by kernel_rfl)
def TB:bq:=⟨183,[.int .i64 0,.int .i64 1],.int .i64 (-1)⟩
theorem P5:aU EA TB:=aS (n:=100) (l:=[Ny,Na]) (by simp only[List.forall_mem_cons];exact⟨EO,Eg,by simp⟩) (by kernel_rfl)
def Ud:bq:=⟨165,[sH,sJ],.int .i64 (-1)⟩
theorem Ri:aU EA Ud:=aS (n:=100) (l:=[TB]) (by simp only[List.forall_mem_cons];exact⟨P5,by simp⟩) (by kernel_rfl)
def TG:bq:=⟨164,[sH,sJ],.int .i64 (-1)⟩
theorem QE:aU EA TG:=aS (n:=100) (l:=[Ud]) (by simp only[List.forall_mem_cons];exact⟨Ri,by simp⟩) (by kernel_rfl)
def Ug:bq:=⟨165,[sH,sH],.int .i64 0⟩
theorem P7:aU EA Ug:=aS (n:=100) (l:=[Q6,MS]) (by simp only[List.forall_mem_cons];exact⟨JX,Ds,by simp⟩) (by kernel_rfl)
def Uh:bq:=⟨164,[sH,sH],.int .i64 0⟩
theorem Q3:aU EA Uh:=aS (n:=100) (l:=[Ug]) (by simp only[List.forall_mem_cons];exact⟨P7,by simp⟩) (by kernel_rfl)
def T5:bq:=⟨40,[sJ,sH],.bool false⟩
theorem Rk:aU EA T5:=aS (n:=100) (l:=[]) (by simp) (by kernel_rfl)
def TP:bq:=⟨167,[sJ,sH],.bool false⟩
theorem QO:aU EA TP:=aS (n:=100) (l:=[T5]) (by simp only[List.forall_mem_cons];exact⟨Rk,by simp⟩) (by kernel_rfl)
def T0:bq:=⟨145,[a8,.fsl 1 [[.fsl 1 [[.int .i64 0],[.int .i64 0]]]]],a12⟩
theorem PW:aU EA T0:=aS (n:=100) (l:=[Tz,TF,Ue,Ti,TG,Uh,TP]) (by simp only[List.forall_mem_cons];exact⟨Qw,Q4,RN,QD,QE,Q3,QO,by simp⟩) (by kernel_rfl)
def T_:bq:=⟨162,[a8,sH,.int .i64 0],.bool true⟩
theorem Ra:aU EA T_:=aS (n:=100) (l:=[]) (by simp) (by kernel_rfl)
def Tl:bq:=⟨162,[a8,sH,.int .i64 1],.bool false⟩
theorem QU:aU EA Tl:=aS (n:=100) (l:=[]) (by simp) (by kernel_rfl)
def TW:bq:=⟨162,[a8,sJ,.int .i64 0],.bool false⟩
theorem RY:aU EA TW:=aS (n:=100) (l:=[]) (by simp) (by kernel_rfl)
def Ts:bq:=⟨162,[a8,sJ,.int .i64 1],.bool true⟩
theorem RM:aU EA Ts:=aS (n:=100) (l:=[]) (by simp) (by kernel_rfl)
def Tv:bq:=⟨165,[zq,zq],.int .i64 0⟩
theorem Rp:aU EA Tv:=aS (n:=100) (l:=[MS]) (by simp only[List.forall_mem_cons];exact⟨Ds,by simp⟩) (by kernel_rfl)
def TE:bq:=⟨164,[zq,zq],.int .i64 0⟩
theorem Ql:aU EA TE:=aS (n:=100) (l:=[Tv]) (by simp only[List.forall_mem_cons];exact⟨Rp,by simp⟩) (by kernel_rfl)
def Tn:bq:=⟨40,[zq,zq],.bool true⟩
theorem Qz:aU EA Tn:=aS (n:=100) (l:=[]) (by simp) (by kernel_rfl)
def T8:bq:=⟨167,[zq,zq],.bool true⟩
theorem PE:aU EA T8:=aS (n:=100) (l:=[Tn]) (by simp only[List.forall_mem_cons];exact⟨Qz,by simp⟩) (by kernel_rfl)
def Th:bq:=⟨145,[a8,a12],Te⟩
theorem QS:aU EA Th:=aS (n:=100) (l:=[T_,Tl,TW,Ts,TE,T8]) (by simp only[List.forall_mem_cons];exact⟨Ra,QU,RY,RM,Ql,PE,by simp⟩) (by kernel_rfl)
def Un:bq:=⟨162,[a8,zq,.int .i64 0],.bool false⟩
theorem Ro:aU EA Un:=aS (n:=100) (l:=[]) (by simp) (by kernel_rfl)
def TT:bq:=⟨162,[a8,zq,.int .i64 1],.bool false⟩
theorem P8:aU EA TT:=aS (n:=100) (l:=[]) (by simp) (by kernel_rfl)
def T9:bq:=⟨145,[a8,Te],.aG⟩
theorem PV:aU EA T9:=aS (n:=100) (l:=[Un,TT]) (by simp only[List.forall_mem_cons];exact⟨Ro,P8,by simp⟩) (by kernel_rfl)
def TS:bq:=⟨118,[a0],.tup [.fsl 1 [[.fsl 1 [[.fsl 1 [[.int .i64 0],[.int .i64 0]]]]],[.fsl 1 [[.fsl 1 [[.int .i64 0],[.int .i64 1]]],[.fsl 1 [[.int .i64 1],[.int .i64 0]]]]],[.fsl 1 [[.fsl 1 [[.int .i64 1],[.int .i64 1]]]]]],.int .i64 0]⟩
theorem RS:aU EA TS:=aS (n:=100) (l:=[Uo,TO,T0,Th,T9]) (by simp only[List.forall_mem_cons];exact⟨RD,Rq,PW,QS,PV,by simp⟩) (by kernel_rfl)
def Tc:bq:=⟨119,[.fsl 1 [[.fsl 1 [[.fsl 1 [[.int .i64 0],[.int .i64 0]]]]],[.fsl 1 [[.fsl 1 [[.int .i64 0],[.int .i64 1]]],[.fsl 1 [[.int .i64 1],[.int .i64 0]]]]],[.fsl 1 [[.fsl 1 [[.int .i64 1],[.int .i64 1]]]]]]],.fsl 1 [[.fsl 1 [[.int .i64 0],[.int .i64 0]]],[.fsl 1 [[.int .i64 0],[.int .i64 1]]],[.fsl 1 [[.int .i64 1],[.int .i64 0]]],[.fsl 1 [[.int .i64 1],[.int .i64 1]]]]⟩
theorem Q1:aU EA Tc:=aS (n:=100) (l:=[]) (by simp) (by kernel_rfl)
def Tf:bq:=⟨63,[a0],Uc⟩
theorem PB:aU EA Tf:=aS (n:=100) (l:=[TS,Tc]) (by simp only[List.forall_mem_cons];exact⟨RS,Q1,by simp⟩) (by kernel_rfl)
def Ua:bq:=⟨43,[a0],Uc⟩
theorem RG:aU EA Ua:=aS (n:=100) (l:=[Tf]) (by simp only[List.forall_mem_cons];exact⟨PB,by simp⟩) (by kernel_rfl)
def Ry:bq:=⟨53,[a0,Rb],.tup [.agg [.fsl 1 [[.bool false],[.bool true],[.bool true],[.bool true]],.fsl 1 [[.fsl 1 [[.int .i64 0],[.int .i64 0]]],[.fsl 1 [[.int .i64 0],[.int .i64 1]]],[.fsl 1 [[.int .i64 1],[.int .i64 0]]],[.fsl 1 [[.int .i64 1],[.int .i64 1]]]],.fmap [(.agg [.int .i64 0,.int .i64 0,.int .i64 0,.int .i64 0,.int .i64 0,.int .i64 0,.int .i64 0,.int .i64 0],.int .i64 0),(.agg [.int .i64 0,.int .i64 1,.int .i64 0,.int .i64 0,.int .i64 0,.int .i64 0,.int .i64 0,.int .i64 0],.int .i64 1),(.agg [.int .i64 1,.int .i64 0,.int .i64 0,.int .i64 0,.int .i64 0,.int .i64 0,.int .i64 0,.int .i64 0],.int .i64 2),(.agg [.int .i64 1,.int .i64 1,.int .i64 0,.int .i64 0,.int .i64 0,.int .i64 0,.int .i64 0,.int .i64 0],.int .i64 3)]],.int .i64 0]⟩
theorem JU:aU EA Ry:=aS (n:=100) (l:=[Ua]) (by simp only[List.forall_mem_cons];exact⟨RG,by simp⟩) (by kernel_rfl)
def TN:bq:=⟨112,[sH,sJ],a9⟩
theorem RR:aU EA TN:=aS (n:=100) (l:=[]) (by simp) (by kernel_rfl)
def Tt:bq:=⟨111,[a17,a9],.bool false⟩
theorem Re:aU EA Tt:=aS (n:=100) (l:=[]) (by simp) (by kernel_rfl)
def Ub:bq:=⟨55,[a17,sH,sJ],.bool false⟩
theorem QG:aU EA Ub:=aS (n:=100) (l:=[TN,Tt]) (by simp only[List.forall_mem_cons];exact⟨RR,Re,by simp⟩) (by kernel_rfl)
def TM:bq:=⟨54,[a17,.clo 55 [.agg [.fsl 1 [[.bool false],[.bool true],[.bool true],[.bool true]],.fsl 1 [[.fsl 1 [[.int .i64 0],[.int .i64 0]]],[.fsl 1 [[.int .i64 0],[.int .i64 1]]],[.fsl 1 [[.int .i64 1],[.int .i64 0]]],[.fsl 1 [[.int .i64 1],[.int .i64 1]]]],.fmap [(.agg [.int .i64 0,.int .i64 0,.int .i64 0,.int .i64 0,.int .i64 0,.int .i64 0,.int .i64 0,.int .i64 0],.int .i64 0),(.agg [.int .i64 0,.int .i64 1,.int .i64 0,.int .i64 0,.int .i64 0,.int .i64 0,.int .i64 0,.int .i64 0],.int .i64 1),(.agg [.int .i64 1,.int .i64 0,.int .i64 0,.int .i64 0,.int .i64 0,.int .i64 0,.int .i64 0,.int .i64 0],.int .i64 2),(.agg [.int .i64 1,.int .i64 1,.int .i64 0,.int .i64 0,.int .i64 0,.int .i64 0,.int .i64 0,.int .i64 0],.int .i64 3)]]] []],.tup [.bool false,.fsl 1 [[.int .i64 0],[.int .i64 1]],.fsl 1 [[.int .i64 1],[.int .i64 0]]]⟩
theorem PT:aU EA TM:=aS (n:=100) (l:=[Ub]) (by simp only[List.forall_mem_cons];exact⟨QG,by simp⟩) (by kernel_rfl)
def TV:bq:=⟨12,[a0,Rb],.tup [.bool false,.fsl 1 [[.int .i64 0],[.int .i64 1]],.fsl 1 [[.int .i64 1],[.int .i64 0]],.int .i64 0]⟩
theorem QN:aU EA TV:=aS (n:=100) (l:=[Ry,TM]) (by simp only[List.forall_mem_cons];exact⟨JU,PT,by simp⟩) (by kernel_rfl)
def Tg:bq:=⟨58,[a17,a0],.tup [.bool true,.aG,.aG]⟩
theorem Qj:aU EA Tg:=aS (n:=100) (l:=[]) (by simp) (by kernel_rfl)
def TX:bq:=⟨15,[a0,Rb],.tup [.bool true,.aG,.aG,.int .i64 0]⟩
theorem PF:aU EA TX:=aS (n:=100) (l:=[Ry,Tg]) (by simp only[List.forall_mem_cons];exact⟨JU,Qj,by simp⟩) (by kernel_rfl)
def Tw:bq:=⟨40,[sH,sH],.bool true⟩
theorem QH:aU EA Tw:=aS (n:=100) (l:=[]) (by simp) (by kernel_rfl)
def Ul:bq:=⟨40,[sJ,sJ],.bool true⟩
theorem PM:aU EA Ul:=aS (n:=100) (l:=[]) (by simp) (by kernel_rfl)
theorem HA:∃n H1,run EA n (.fn 8) [] []=some (.bool true,H1):=Ij (n:=100) (l:=[k0,TV,TX,Tw,Ul]) (by simp only[List.forall_mem_cons];exact⟨R9,QN,PF,QH,PM,by simp⟩) (by kernel_rfl)
theorem calls (n:Nat):jk Tryz.prog (run E n):=CP SO mixed ⟨M4,λf az b h=>by
 by_cases hf:Nat.beq f 8=true
 .have e:E.known f az=if az.isEmpty then some (.bool true)else none:=by unfold E Am;simp only[hf,if_true]
  rw[e]at h;split at h
  .rename_i ha;cases h;have:f=8:=Nat.eq_of_beq_eq_true hf;subst this;have:az=[]:=List.isEmpty_iff.1 ha;subst this;obtain⟨n,H1,h1⟩:=HA;exact Kn (P0 n) h1
  .cases h
 .have e:E.known f az=EA.known f az:=by unfold E EA Am;simp only[hf,if_false,Bool.false_eq_true]
  rw[e]at h;exact Ja f az b h⟩ n
end Go.Proofs.YtdoibkkdaojjpaaGreat
