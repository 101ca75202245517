/-
 The tables of this seat, and the law's own awakening.
-/
import Derived.Test.YtdoibkkdaojjpaaGreatProg
import Derived.KernelRfl
import Derived.Test.YtdoibkkdaojjpaaGreatV2
set_option linter.all false
namespace Go.Proofs.YtdoibkkdaojjpaaGreat
open Go.VE Go.Proofs
instance:aW:=⟨λ_=>none,λ_ _ h=>nomatch h⟩
noncomputable def EA:Env:=Am Tryz.prog [0,1,163,110] [140,114,21,146,166,163,124,149] [140,114,21,146] [(95,2),(146,8)] (λf=>Nat.beq f 163) λf az=>(if Nat.beq f 110 then sC 8 az else none)
noncomputable def E:Env:=Am Tryz.prog [0,1,163,110,8] [140,114,21,146,166,163,124,149] [140,114,21,146] [(95,2),(146,8)] (λf=>Nat.beq f 163) λf az=>if Nat.beq f 8 then(if az.isEmpty then some (.bool true)else none)else(if Nat.beq f 110 then sC 8 az else none)
theorem T6:ya Tryz.prog=true:=by kernel_rfl
theorem U3:qA Tryz.prog 95 2:=qA.two (i:=3) Tryz.underlying95 rfl rfl rfl rfl (by decide) (by decide) (by kernel_rfl) Tryz.underlying3 (by kernel_rfl) (by kernel_rfl)
theorem S8:qA Tryz.prog 146 8:=qA.arr (i:=3) Tryz.underlying146 (by kernel_rfl) Tryz.underlying3 (by kernel_rfl)
theorem Qr:∀p∈[(95,2),(146,8)],qA Tryz.prog p.1 p.2:=λp h=>match p,h with|_,.head _=>U3|_,.tail _ (.head _)=>S8
theorem Rq:dA Tryz.prog EA:=Dy T6 Qr
theorem Tf:dA Tryz.prog E:=Dy T6 Qr
theorem mixed:Tryz.prog.follows .mixedOrders=true:=by kernel_rfl
open Go.Shelf
def Tryz.wX:Go.Shelf.Ren:=⟨λ|6=>163|15=>182|14=>181|28=>199|29=>200|20=>191|21=>192|22=>193|23=>194|24=>195|25=>196|26=>197|27=>198|46=>201|47=>202|48=>203|49=>204|50=>205|57=>206|n=>n,λ|22=>35|24=>28|25=>199|3=>3|39=>201|0=>0|53=>229|55=>231|4=>4|46=>223|45=>222|50=>149|5=>5|9=>9|66=>232|70=>236|76=>238|77=>239|n=>n,λ|n=>n⟩
theorem Tryz.MS:Go.Proofs.SlLaysF.n6 Tryz.prog Tryz.wX:={
 mixed:=by kernel_rfl
 f6:=⟨Tryz.f163.name,by decide,Tryz.func163.trans (congrArg some (by kernel_rfl))⟩
 f14:=⟨Tryz.f181.name,by decide,Tryz.func181.trans (congrArg some (by kernel_rfl))⟩
 f15:=Tryz.func182.trans (congrArg some (by kernel_rfl))
 f20:=⟨Tryz.f191.name,by decide,Tryz.func191.trans (congrArg some (by kernel_rfl))⟩
 f21:=⟨Tryz.f192.name,by decide,Tryz.func192.trans (congrArg some (by kernel_rfl))⟩
 f22:=⟨Tryz.f193.name,by decide,Tryz.func193.trans (congrArg some (by kernel_rfl))⟩
 f23:=⟨Tryz.f194.name,by decide,Tryz.func194.trans (congrArg some (by kernel_rfl))⟩
 f24:=⟨Tryz.f195.name,by decide,Tryz.func195.trans (congrArg some (by kernel_rfl))⟩
 f25:=⟨Tryz.f196.name,by decide,Tryz.func196.trans (congrArg some (by kernel_rfl))⟩
 f26:=⟨Tryz.f197.name,by decide,Tryz.func197.trans (congrArg some (by kernel_rfl))⟩
 f27:=⟨Tryz.f198.name,by decide,Tryz.func198.trans (congrArg some (by kernel_rfl))⟩
 f28:=Tryz.func199.trans (congrArg some (by kernel_rfl))
 f29:=Tryz.func200.trans (congrArg some (by kernel_rfl))
 f46:=⟨Tryz.f201.name,by decide,Tryz.func201.trans (congrArg some (by kernel_rfl))⟩
 f47:=Tryz.func202.trans (congrArg some (by kernel_rfl))
 f48:=Tryz.func203.trans (congrArg some (by kernel_rfl))
 f49:=⟨Tryz.f204.name,by decide,Tryz.func204.trans (congrArg some (by kernel_rfl))⟩
 f50:=⟨Tryz.f205.name,by decide,Tryz.func205.trans (congrArg some (by kernel_rfl))⟩
 f57:=⟨Tryz.f206.name,by decide,Tryz.func206.trans (congrArg some (by kernel_rfl))⟩
 t0:=Tryz.underlying0
 a0:=Tryz.isAgg0
 z0:=Tryz.sizeOf0
 v0:=Tryz.zeroValue0
 t3:=Tryz.underlying3
 a3:=Tryz.isAgg3
 z3:=Tryz.sizeOf3
 v3:=Tryz.zeroValue3
 t4:=Tryz.underlying4
 a4:=Tryz.isAgg4
 z4:=Tryz.sizeOf4
 v4:=Tryz.zeroValue4
 t5:=Tryz.underlying5
 a5:=Tryz.isAgg5
 z5:=Tryz.sizeOf5
 v5:=Tryz.zeroValue5
 t9:=Tryz.underlying9
 a9:=Tryz.isAgg9
 z9:=Tryz.sizeOf9
 v9:=Tryz.zeroValue9
 t22:=Tryz.underlying35
 a22:=Tryz.isAgg35
 z22:=Tryz.sizeOf35
 v22:=Tryz.zeroValue35
 a24:=Tryz.isAgg28
 z24:=Tryz.sizeOf28
 t25:=Tryz.underlying199
 a25:=Tryz.isAgg199
 z25:=Tryz.sizeOf199
 v25:=Tryz.zeroValue199
 t39:=Tryz.underlying201
 a39:=Tryz.isAgg201
 z39:=Tryz.sizeOf201
 v39:=Tryz.zeroValue201
 t45:=Tryz.underlying222
 a45:=Tryz.isAgg222
 z45:=Tryz.sizeOf222
 v45:=Tryz.zeroValue222
 t46:=Tryz.underlying223
 a46:=Tryz.isAgg223
 z46:=Tryz.sizeOf223
 v46:=Tryz.zeroValue223
 t50:=Tryz.underlying149
 a50:=Tryz.isAgg149
 z50:=Tryz.sizeOf149
 v50:=Tryz.zeroValue149
 t53:=Tryz.underlying229
 a53:=Tryz.isAgg229
 z53:=Tryz.sizeOf229
 v53:=Tryz.zeroValue229
 t55:=Tryz.underlying231
 a55:=Tryz.isAgg231
 z55:=Tryz.sizeOf231
 v55:=Tryz.zeroValue231
 t66:=Tryz.underlying232
 a66:=Tryz.isAgg232
 z66:=Tryz.sizeOf232
 v66:=Tryz.zeroValue232
 t70:=Tryz.underlying236
 a70:=Tryz.isAgg236
 z70:=Tryz.sizeOf236
 v70:=Tryz.zeroValue236
 t76:=Tryz.underlying238
 a76:=Tryz.isAgg238
 z76:=Tryz.sizeOf238
 v76:=Tryz.zeroValue238
 t77:=Tryz.underlying239
 a77:=Tryz.isAgg239
 z77:=Tryz.sizeOf239
 v77:=Tryz.zeroValue239 }
theorem Oq:yF Tryz.prog 163 where
 ok:=⟨Tryz.f163,Tryz.func163,by kernel_rfl,by kernel_rfl⟩
 zero:=λp cap fv w=>AnyF.slices_SortFunc_none (ρ:=Tryz.wX) { Tryz.MS with } p cap fv w
 all:=λenc h1 cf hO g cb blk off cap d w eg hc hH hb hs=>Any.slices_SortFunc_eq (ρ:=Tryz.wX) Tryz.MS enc h1 cf hO g cb blk off cap d w eg hc hH hb hs
theorem Ny:∀f,EA.sort f=true->yF Tryz.prog f:=λf h=>by
 have:f=163:=Nat.eq_of_beq_eq_true h;subst this;exact Oq
theorem ud:∀az y,sC 8 az=some y->tN Tryz.prog 110 az y:=
 Ow (f:=110) (A:=146) (S:=28) (e:=3) (n:=8) (bytes:=64) Tryz.func110 rfl rfl rfl (by kernel_rfl) Tryz.underlying146 Tryz.underlying28 (by kernel_rfl) (by kernel_rfl)
theorem Ja:∀f az y,EA.known f az=some y->tN Tryz.prog f az y:=λf az y h=>by
 change (if Nat.beq f 110 then sC 8 az else none)=some y at h;split at h
 .rename_i hf;have:f=110:=Nat.eq_of_beq_eq_true hf;subst this;exact ud az y h
 .cases h
theorem P5 (n:Nat):jh Tryz.prog (run EA n):=CA Rq mixed ⟨Ny,Ja⟩ n
end Go.Proofs.YtdoibkkdaojjpaaGreat
namespace Go.Proofs.YtdoibkkdaojjpaaGreat
open Go.VE Go.Proofs
def a0:V:=.agg [.fsl 3 [[.str (ByteArray.mk #[97]),.aG,.fsl 5 [[.int .i64 1,.int .i64 0,.int .i64 0,.int .i64 0,.aG]]],[.str (ByteArray.mk #[98]),.aG,.fsl 5 [[.int .i64 1,.int .i64 0,.int .i64 0,.int .i64 0,.aG]]]]]
def a1:V:=.clo 172 [] [.fptr [.str (ByteArray.mk #[97]),.aG,.fsl 5 [[.int .i64 1,.int .i64 0,.int .i64 0,.int .i64 0,.aG]]]]
def a2:V:=.fsl 3 [[.str (ByteArray.mk #[97]),.aG,.fsl 5 [[.int .i64 1,.int .i64 0,.int .i64 0,.int .i64 0,.aG]]]]
def a3:V:=.clo 172 [] [.fptr [.str (ByteArray.mk #[98]),.aG,.fsl 5 [[.int .i64 1,.int .i64 0,.int .i64 0,.int .i64 0,.aG]]]]
def a4:V:=.agg [.int .i64 1,.int .i64 0,.int .i64 0,.int .i64 0,.aG]
def a5:V:=.agg [.int .i64 0,.int .i64 1]
def a6:V:=.agg [.int .i64 1,.int .i64 1]
def a7:V:=.fptr [.int .i64 0,.int .i64 0,.int .i64 0,.int .i64 0,.int .i64 0,.int .i64 0,.int .i64 0,.int .i64 0,.int .i64 0,.int .i64 0,.int .i64 0,.int .i64 0,.int .i64 0,.int .i64 0,.int .i64 0,.int .i64 0,.int .i64 0,.int .i64 0,.int .i64 0,.int .i64 0,.int .i64 0,.int .i64 0,.int .i64 0,.int .i64 0,.int .i64 0,.int .i64 0,.int .i64 0,.int .i64 0,.int .i64 0,.int .i64 0,.int .i64 0,.int .i64 0,.int .i64 0,.int .i64 0,.int .i64 0,.int .i64 0,.int .i64 0,.int .i64 0,.int .i64 0,.int .i64 0,.int .i64 0,.int .i64 0,.int .i64 0,.int .i64 0,.int .i64 0,.int .i64 0,.int .i64 0,.int .i64 0,.int .i64 0,.int .i64 0,.int .i64 0,.int .i64 0,.int .i64 0,.int .i64 0,.int .i64 0,.int .i64 0,.int .i64 0,.int .i64 0,.int .i64 0,.int .i64 0,.int .i64 0,.int .i64 0,.int .i64 0,.int .i64 0,.int .i64 0,.int .i64 0,.int .i64 0,.int .i64 0,.int .i64 0,.int .i64 0,.int .i64 0,.int .i64 0,.int .i64 0,.int .i64 0,.int .i64 0,.int .i64 0,.int .i64 0,.int .i64 0,.int .i64 0,.int .i64 0,.int .i64 0,.int .i64 0,.int .i64 0,.int .i64 0,.int .i64 0,.int .i64 0,.int .i64 0,.int .i64 0,.int .i64 0,.int .i64 0,.int .i64 0,.int .i64 0,.int .i64 0,.int .i64 0,.int .i64 0,.int .i64 0,.int .i64 0,.int .i64 0,.int .i64 0,.int .i64 0,.int .i64 0,.int .i64 0,.int .i64 0,.int .i64 0,.int .i64 0,.int .i64 0,.int .i64 0,.int .i64 0,.int .i64 0,.int .i64 0,.int .i64 0,.int .i64 0,.int .i64 0,.int .i64 0,.int .i64 0,.int .i64 0,.int .i64 0,.int .i64 0,.int .i64 0,.int .i64 0,.int .i64 0,.int .i64 0,.int .i64 0,.int .i64 0,.int .i64 0,.int .i64 0,.int .i64 0,.int .i64 0,.int .i64 0,.int .i64 0,.int .i64 0,.int .i64 0,.int .i64 0,.int .i64 0,.int .i64 0,.int .i64 0,.int .i64 0,.int .i64 0,.int .i64 0,.int .i64 0,.int .i64 0,.int .i64 0,.int .i64 0,.int .i64 0,.int .i64 0,.int .i64 0,.int .i64 0,.int .i64 0,.int .i64 0,.int .i64 0,.int .i64 0,.int .i64 0,.int .i64 0,.int .i64 0,.int .i64 0,.int .i64 0,.int .i64 0,.int .i64 0,.int .i64 0,.int .i64 0,.int .i64 0,.int .i64 0,.int .i64 0,.int .i64 0,.int .i64 0,.int .i64 0,.int .i64 0,.int .i64 0,.int .i64 0,.int .i64 0,.int .i64 0,.int .i64 0,.int .i64 0,.int .i64 0,.int .i64 0,.int .i64 0,.int .i64 0,.int .i64 0,.int .i64 0,.int .i64 0,.int .i64 0,.int .i64 0,.int .i64 0,.int .i64 0,.int .i64 0,.int .i64 0,.int .i64 0,.int .i64 0,.int .i64 0,.int .i64 0,.int .i64 0,.int .i64 0,.int .i64 0,.int .i64 0,.int .i64 0,.int .i64 0,.int .i64 0,.int .i64 0,.int .i64 0,.int .i64 0,.int .i64 0,.int .i64 0,.int .i64 0,.int .i64 0,.int .i64 0,.int .i64 0,.int .i64 0,.int .i64 0,.int .i64 0,.int .i64 0,.int .i64 0,.int .i64 0,.int .i64 0,.int .i64 0,.int .i64 0,.int .i64 0,.int .i64 0,.int .i64 0,.int .i64 0,.int .i64 0,.int .i64 0,.int .i64 0,.int .i64 0,.int .i64 0,.int .i64 0,.int .i64 0,.int .i64 0,.int .i64 0,.int .i64 0,.int .i64 0,.int .i64 0,.int .i64 0,.int .i64 0,.int .i64 0,.int .i64 0,.int .i64 0,.int .i64 0,.int .i64 0,.int .i64 0,.int .i64 0,.int .i64 0,.int .i64 0,.int .i64 0,.int .i64 0,.int .i64 0,.int .i64 0,.int .i64 0,.int .i64 0,.int .i64 0,.int .i64 0,.int .i64 0,.int .i64 0,.int .i64 0,.int .i64 0,.int .i64 0,.int .i64 0,.int .i64 0,.int .i64 0,.int .i64 0,.int .i64 0,.int .i64 0,.int .i64 0,.int .i64 0,.int .i64 0,.int .i64 0,.int .i64 0,.int .i64 0,.int .i64 0,.int .i64 0,.int .i64 0,.int .i64 0,.int .i64 0,.int .i64 0,.int .i64 0,.int .i64 0,.int .i64 0,.int .i64 0,.int .i64 0,.int .i64 0,.int .i64 0,.int .i64 0,.int .i64 0,.int .i64 0,.int .i64 0,.int .i64 0,.int .i64 0,.int .i64 0,.int .i64 0,.int .i64 0,.int .i64 0,.int .i64 0,.int .i64 0,.int .i64 0,.int .i64 0,.int .i64 0,.int .i64 0,.int .i64 0,.int .i64 0,.int .i64 0,.int .i64 0,.int .i64 0,.int .i64 0,.int .i64 0,.int .i64 0,.int .i64 0,.int .i64 0,.int .i64 0,.int .i64 0,.int .i64 0,.int .i64 0,.int .i64 0,.int .i64 0,.int .i64 0,.int .i64 0,.int .i64 0,.int .i64 0,.int .i64 0,.int .i64 0,.int .i64 0,.int .i64 0,.int .i64 0,.int .i64 0,.int .i64 0,.int .i64 0,.int .i64 0,.int .i64 0,.int .i64 0,.int .i64 0,.int .i64 0,.int .i64 0,.int .i64 0,.int .i64 0,.int .i64 0,.int .i64 0,.int .i64 0,.int .i64 0,.int .i64 0,.int .i64 0,.int .i64 0,.int .i64 0,.int .i64 0,.int .i64 0,.int .i64 0,.int .i64 0,.int .i64 0,.int .i64 0,.int .i64 0,.int .i64 0,.int .i64 0,.int .i64 0,.int .i64 0,.int .i64 0,.int .i64 0,.int .i64 0,.int .i64 0,.int .i64 0,.int .i64 0,.int .i64 0,.int .i64 0,.int .i64 0,.int .i64 0,.int .i64 0,.int .i64 0,.int .i64 0,.int .i64 0,.int .i64 0,.int .i64 0,.int .i64 0,.int .i64 0,.int .i64 0,.int .i64 0,.int .i64 0,.int .i64 0,.int .i64 0,.int .i64 0,.int .i64 0,.int .i64 0,.int .i64 0,.int .i64 0,.int .i64 0,.int .i64 0,.int .i64 0,.int .i64 0,.int .i64 0,.int .i64 0,.int .i64 0,.int .i64 0,.int .i64 0,.int .i64 0,.int .i64 0,.int .i64 0,.int .i64 0,.int .i64 0,.int .i64 0,.int .i64 0,.int .i64 0,.int .i64 0,.int .i64 0,.int .i64 0,.int .i64 0,.int .i64 0,.int .i64 0,.int .i64 0,.int .i64 0,.int .i64 0,.int .i64 0,.int .i64 0,.int .i64 0,.int .i64 0,.int .i64 0,.int .i64 0,.int .i64 0,.int .i64 0,.int .i64 0,.int .i64 0,.int .i64 0,.int .i64 0,.int .i64 0,.int .i64 0,.int .i64 0,.int .i64 0,.int .i64 0,.int .i64 0,.int .i64 0,.int .i64 0,.int .i64 0,.int .i64 0,.int .i64 0,.int .i64 0,.int .i64 0,.int .i64 0,.int .i64 0,.int .i64 0,.int .i64 0,.int .i64 0,.int .i64 0,.int .i64 0,.int .i64 0,.int .i64 0,.int .i64 0,.int .i64 0,.int .i64 0,.int .i64 0,.int .i64 0,.int .i64 0,.int .i64 0,.int .i64 0,.int .i64 0,.int .i64 0,.int .i64 0,.int .i64 0,.int .i64 0,.int .i64 0,.int .i64 0,.int .i64 0,.int .i64 0,.int .i64 0,.int .i64 0,.int .i64 0,.int .i64 0,.int .i64 0,.int .i64 0,.int .i64 0,.int .i64 0,.int .i64 0,.int .i64 0,.int .i64 0,.int .i64 0,.int .i64 0,.int .i64 0,.int .i64 0,.int .i64 0,.int .i64 0,.int .i64 0,.int .i64 0,.int .i64 0,.int .i64 0,.int .i64 0,.int .i64 0,.int .i64 0,.int .i64 0,.int .i64 0,.int .i64 0,.int .i64 0,.int .i64 0,.int .i64 0,.int .i64 0,.int .i64 0,.int .i64 0,.int .i64 0,.int .i64 0,.int .i64 0,.int .i64 0,.int .i64 0,.int .i64 0,.int .i64 0,.int .i64 0,.int .i64 0,.int .i64 0,.int .i64 0,.int .i64 0,.int .i64 0,.int .i64 0,.int .i64 0,.int .i64 0,.int .i64 0,.int .i64 0,.int .i64 0,.int .i64 0,.int .i64 0,.int .i64 0,.int .i64 0,.int .i64 0,.int .i64 0,.int .i64 0,.int .i64 0,.int .i64 0,.int .i64 0,.int .i64 0,.int .i64 0,.int .i64 0,.int .i64 0,.int .i64 0,.int .i64 0,.int .i64 0,.int .i64 0,.int .i64 0,.int .i64 0,.int .i64 0,.int .i64 0,.int .i64 0,.int .i64 0,.int .i64 0,.int .i64 0,.int .i64 0,.int .i64 0,.int .i64 0,.int .i64 0,.int .i64 0,.int .i64 0,.int .i64 0,.int .i64 0,.int .i64 0,.int .i64 0,.int .i64 0,.int .i64 0,.int .i64 0,.int .i64 0,.int .i64 0,.int .i64 0,.int .i64 0,.int .i64 0,.int .i64 0,.int .i64 0,.int .i64 0,.int .i64 0,.int .i64 0,.int .i64 0,.int .i64 0,.int .i64 0,.int .i64 0,.int .i64 0,.int .i64 0,.int .i64 0,.int .i64 0,.int .i64 0,.int .i64 0,.int .i64 0,.int .i64 0,.int .i64 0,.int .i64 0,.int .i64 0,.int .i64 0,.int .i64 0,.int .i64 0,.int .i64 0,.int .i64 0,.int .i64 0,.int .i64 0,.int .i64 0,.int .i64 0,.int .i64 0,.int .i64 0,.int .i64 0,.int .i64 0,.int .i64 0,.int .i64 0,.int .i64 0,.int .i64 0,.int .i64 0,.int .i64 0,.int .i64 0,.int .i64 0,.int .i64 0,.int .i64 0,.int .i64 0,.int .i64 0,.int .i64 0,.int .i64 0,.int .i64 0,.int .i64 0,.int .i64 0,.int .i64 0,.int .i64 0,.int .i64 0,.int .i64 0,.int .i64 0,.int .i64 0,.int .i64 0,.int .i64 0,.int .i64 0,.int .i64 0,.int .i64 0,.int .i64 0,.int .i64 0,.int .i64 0,.int .i64 0,.int .i64 0,.int .i64 0,.int .i64 0,.int .i64 0,.int .i64 0,.int .i64 0,.int .i64 0,.int .i64 0,.int .i64 0,.int .i64 0,.int .i64 0,.int .i64 0,.int .i64 0,.int .i64 0,.int .i64 0,.int .i64 0,.int .i64 0,.int .i64 0,.int .i64 0,.int .i64 0,.int .i64 0,.int .i64 0,.int .i64 0,.int .i64 0,.int .i64 0,.int .i64 0,.int .i64 0,.int .i64 0,.int .i64 0,.int .i64 0,.int .i64 0,.int .i64 0,.int .i64 0,.int .i64 0,.int .i64 0,.int .i64 0,.int .i64 0,.int .i64 0,.int .i64 0,.int .i64 0,.int .i64 0,.int .i64 0,.int .i64 0,.int .i64 0,.int .i64 0,.int .i64 0,.int .i64 0,.int .i64 0,.int .i64 0,.int .i64 0,.int .i64 0,.int .i64 0,.int .i64 0,.int .i64 0,.int .i64 0,.int .i64 0,.int .i64 0,.int .i64 0,.int .i64 0,.int .i64 0,.int .i64 0,.int .i64 0,.int .i64 0,.int .i64 0,.int .i64 0,.int .i64 0,.int .i64 0,.int .i64 0,.int .i64 0,.int .i64 0,.int .i64 0,.int .i64 0,.int .i64 0,.int .i64 0,.int .i64 0,.int .i64 0,.int .i64 0,.int .i64 0,.int .i64 0,.int .i64 0,.int .i64 0,.int .i64 0,.int .i64 0,.int .i64 0,.int .i64 0,.int .i64 0,.int .i64 0,.int .i64 0,.int .i64 0,.int .i64 0,.int .i64 0,.int .i64 0,.int .i64 0,.int .i64 0,.int .i64 0,.int .i64 0,.int .i64 0,.int .i64 0,.int .i64 0,.int .i64 0,.int .i64 0,.int .i64 0,.int .i64 0,.int .i64 0,.int .i64 0,.int .i64 0,.int .i64 0,.int .i64 0,.int .i64 0,.int .i64 0,.int .i64 0,.int .i64 0,.int .i64 0,.int .i64 0,.int .i64 0,.int .i64 0,.int .i64 0,.int .i64 0,.int .i64 0,.int .i64 0,.int .i64 0,.int .i64 0,.int .i64 0,.int .i64 0,.int .i64 0,.int .i64 0,.int .i64 0,.int .i64 0,.int .i64 0,.int .i64 0,.int .i64 0,.int .i64 0,.int .i64 0,.int .i64 0,.int .i64 0,.int .i64 0,.int .i64 0,.int .i64 0,.int .i64 0,.int .i64 0,.int .i64 0,.int .i64 0,.int .i64 0,.int .i64 0,.int .i64 0,.int .i64 0,.int .i64 0,.int .i64 0,.int .i64 0,.int .i64 0,.int .i64 0,.int .i64 0,.int .i64 0,.int .i64 0,.int .i64 0,.int .i64 0,.int .i64 0,.int .i64 0,.int .i64 0,.int .i64 0,.int .i64 0,.int .i64 0,.int .i64 0,.int .i64 0,.int .i64 0,.int .i64 0,.int .i64 0,.int .i64 0,.int .i64 0,.int .i64 0,.int .i64 0,.int .i64 0,.int .i64 0,.int .i64 0,.int .i64 0,.int .i64 0,.int .i64 0,.int .i64 0,.int .i64 0,.int .i64 0,.int .i64 0,.int .i64 0,.int .i64 0]
def a8:V:=.agg [.fsl 1 [[.int .i64 1],[.int .i64 1]],.fsl 1 [[.fsl 2 [[.int .i64 0,.int .i64 0]]],[.fsl 2 [[.int .i64 0,.int .i64 0]]]]]
def a9:V:=.fsl 1 [[.int .i64 0],[.int .i64 0]]
def sE:V:=.fsl 1 [[.int .i64 1],[.int .i64 0]]
def sD:V:=.fsl 1 [[.int .i64 0],[.int .i64 1]]
def a12:V:=.fsl 1 [[.fsl 1 [[.int .i64 0],[.int .i64 1]]],[.fsl 1 [[.int .i64 1],[.int .i64 0]]]]
def yX:V:=.fsl 1 [[.int .i64 1],[.int .i64 1]]
def Tv:V:=.fsl 1 [[.fsl 1 [[.int .i64 1],[.int .i64 1]]]]
def Ts:V:=.tup [.fsl 1 [[.fsl 1 [[.int .i64 0],[.int .i64 0]]],[.fsl 1 [[.int .i64 0],[.int .i64 1]]],[.fsl 1 [[.int .i64 1],[.int .i64 0]]],[.fsl 1 [[.int .i64 1],[.int .i64 1]]]],.int .i64 0]
def PZ:V:=.fsl 1 [[.bool false],[.bool true],[.bool true],[.bool true]]
def a17:V:=.agg [.fsl 1 [[.bool false],[.bool true],[.bool true],[.bool true]],.fsl 1 [[.fsl 1 [[.int .i64 0],[.int .i64 0]]],[.fsl 1 [[.int .i64 0],[.int .i64 1]]],[.fsl 1 [[.int .i64 1],[.int .i64 0]]],[.fsl 1 [[.int .i64 1],[.int .i64 1]]]],.fmap [(.agg [.int .i64 0,.int .i64 0,.int .i64 0,.int .i64 0,.int .i64 0,.int .i64 0,.int .i64 0,.int .i64 0],.int .i64 0),(.agg [.int .i64 0,.int .i64 1,.int .i64 0,.int .i64 0,.int .i64 0,.int .i64 0,.int .i64 0,.int .i64 0],.int .i64 1),(.agg [.int .i64 1,.int .i64 0,.int .i64 0,.int .i64 0,.int .i64 0,.int .i64 0,.int .i64 0,.int .i64 0],.int .i64 2),(.agg [.int .i64 1,.int .i64 1,.int .i64 0,.int .i64 0,.int .i64 0,.int .i64 0,.int .i64 0,.int .i64 0],.int .i64 3)]]
def k0:bl:=⟨48,[],a0⟩
theorem Td:aS EA k0:=aP (n:=100) (l:=[]) (by simp) (by kernel_rfl)
def k1:bl:=⟨150,[.int .i64 2,.int .i64 1,.int .i64 8],.bool true⟩
theorem Sx:aS EA k1:=aP (n:=100) (l:=[]) (by simp) (by kernel_rfl)
def k2:bl:=⟨185,[.int .u8 97],.bool true⟩
theorem SG:aS EA k2:=aP (n:=100) (l:=[]) (by simp) (by kernel_rfl)
def k3:bl:=⟨170,[.str (ByteArray.mk #[97])],.bool true⟩
theorem SY:aS EA k3:=aP (n:=100) (l:=[k2]) (by simp only[List.forall_mem_cons];exact⟨SG,by simp⟩) (by kernel_rfl)
def k4:bl:=⟨187,[.fsl 3 [],a1],.int .i64 (-1)⟩
theorem SF:aS EA k4:=aP (n:=100) (l:=[]) (by simp) (by kernel_rfl)
def k5:bl:=⟨171,[.fsl 3 [],a1],.bool false⟩
theorem Sz:aS EA k5:=aP (n:=100) (l:=[k4]) (by simp only[List.forall_mem_cons];exact⟨SF,by simp⟩) (by kernel_rfl)
def k6:bl:=⟨151,[a0,.int .i64 0],.int .i64 0⟩
theorem Tg:aS EA k6:=aP (n:=100) (l:=[k3,k5]) (by simp only[List.forall_mem_cons];exact⟨SY,Sz,by simp⟩) (by kernel_rfl)
def k7:bl:=⟨185,[.int .u8 98],.bool true⟩
theorem Tm:aS EA k7:=aP (n:=100) (l:=[]) (by simp) (by kernel_rfl)
def k8:bl:=⟨170,[.str (ByteArray.mk #[98])],.bool true⟩
theorem Sj:aS EA k8:=aP (n:=100) (l:=[k7]) (by simp only[List.forall_mem_cons];exact⟨Tm,by simp⟩) (by kernel_rfl)
def k9:bl:=⟨172,[.agg [.str (ByteArray.mk #[97]),.aG,.fsl 5 [[.int .i64 1,.int .i64 0,.int .i64 0,.int .i64 0,.aG]]],.fptr [.str (ByteArray.mk #[98]),.aG,.fsl 5 [[.int .i64 1,.int .i64 0,.int .i64 0,.int .i64 0,.aG]]]],.bool false⟩
theorem Sv:aS EA k9:=aP (n:=100) (l:=[]) (by simp) (by kernel_rfl)
def UE:bl:=⟨187,[a2,a3],.int .i64 (-1)⟩
theorem PR:aS EA UE:=aP (n:=100) (l:=[k9]) (by simp only[List.forall_mem_cons];exact⟨Sv,by simp⟩) (by kernel_rfl)
def TW:bl:=⟨171,[a2,a3],.bool false⟩
theorem QY:aS EA TW:=aP (n:=100) (l:=[UE]) (by simp only[List.forall_mem_cons];exact⟨PR,by simp⟩) (by kernel_rfl)
def Uy:bl:=⟨151,[a0,.int .i64 1],.int .i64 0⟩
theorem Q_:aS EA Uy:=aP (n:=100) (l:=[k8,TW]) (by simp only[List.forall_mem_cons];exact⟨Sj,QY,by simp⟩) (by kernel_rfl)
def Nx:bl:=⟨152,[a0],.clo 175 [] [.fptr [.fsl 3 [[.str (ByteArray.mk #[97]),.aG,.fsl 5 [[.int .i64 1,.int .i64 0,.int .i64 0,.int .i64 0,.aG]]],[.str (ByteArray.mk #[98]),.aG,.fsl 5 [[.int .i64 1,.int .i64 0,.int .i64 0,.int .i64 0,.aG]]]]]]⟩
theorem Ek:aS EA Nx:=aP (n:=100) (l:=[]) (by simp) (by kernel_rfl)
def To:bl:=⟨176,[a0,.int .i64 0,a4],.bool true⟩
theorem Rg:aS EA To:=aP (n:=100) (l:=[]) (by simp) (by kernel_rfl)
def Q7:bl:=⟨150,[.int .i64 0,.int .i64 0,.int .i64 1099511627776],.bool true⟩
theorem Ki:aS EA Q7:=aP (n:=100) (l:=[]) (by simp) (by kernel_rfl)
def T3:bl:=⟨153,[a0,a5,a4],.int .i64 0⟩
theorem RI:aS EA T3:=aP (n:=100) (l:=[To,Q7]) (by simp only[List.forall_mem_cons];exact⟨Rg,Ki,by simp⟩) (by kernel_rfl)
def T8:bl:=⟨176,[a0,.int .i64 1,a4],.bool true⟩
theorem Ri:aS EA T8:=aP (n:=100) (l:=[]) (by simp) (by kernel_rfl)
def Uw:bl:=⟨153,[a0,a6,a4],.int .i64 0⟩
theorem P8:aS EA Uw:=aP (n:=100) (l:=[T8,Q7]) (by simp only[List.forall_mem_cons];exact⟨Ri,Ki,by simp⟩) (by kernel_rfl)
def UB:bl:=⟨154,[a0],.tup [.fptr [.int .i64 0,.int .i64 0,.int .i64 0,.int .i64 0,.int .i64 0,.int .i64 0,.int .i64 0,.int .i64 0,.int .i64 0,.int .i64 0,.int .i64 0,.int .i64 0,.int .i64 0,.int .i64 0,.int .i64 0,.int .i64 0,.int .i64 0,.int .i64 0,.int .i64 0,.int .i64 0,.int .i64 0,.int .i64 0,.int .i64 0,.int .i64 0,.int .i64 0,.int .i64 0,.int .i64 0,.int .i64 0,.int .i64 0,.int .i64 0,.int .i64 0,.int .i64 0,.int .i64 0,.int .i64 0,.int .i64 0,.int .i64 0,.int .i64 0,.int .i64 0,.int .i64 0,.int .i64 0,.int .i64 0,.int .i64 0,.int .i64 0,.int .i64 0,.int .i64 0,.int .i64 0,.int .i64 0,.int .i64 0,.int .i64 0,.int .i64 0,.int .i64 0,.int .i64 0,.int .i64 0,.int .i64 0,.int .i64 0,.int .i64 0,.int .i64 0,.int .i64 0,.int .i64 0,.int .i64 0,.int .i64 0,.int .i64 0,.int .i64 0,.int .i64 0,.int .i64 0,.int .i64 0,.int .i64 0,.int .i64 0,.int .i64 0,.int .i64 0,.int .i64 0,.int .i64 0,.int .i64 0,.int .i64 0,.int .i64 0,.int .i64 0,.int .i64 0,.int .i64 0,.int .i64 0,.int .i64 0,.int .i64 0,.int .i64 0,.int .i64 0,.int .i64 0,.int .i64 0,.int .i64 0,.int .i64 0,.int .i64 0,.int .i64 0,.int .i64 0,.int .i64 0,.int .i64 0,.int .i64 0,.int .i64 0,.int .i64 0,.int .i64 0,.int .i64 0,.int .i64 0,.int .i64 0,.int .i64 0,.int .i64 0,.int .i64 0,.int .i64 0,.int .i64 0,.int .i64 0,.int .i64 0,.int .i64 0,.int .i64 0,.int .i64 0,.int .i64 0,.int .i64 0,.int .i64 0,.int .i64 0,.int .i64 0,.int .i64 0,.int .i64 0,.int .i64 0,.int .i64 0,.int .i64 0,.int .i64 0,.int .i64 0,.int .i64 0,.int .i64 0,.int .i64 0,.int .i64 0,.int .i64 0,.int .i64 0,.int .i64 0,.int .i64 0,.int .i64 0,.int .i64 0,.int .i64 0,.int .i64 0,.int .i64 0,.int .i64 0,.int .i64 0,.int .i64 0,.int .i64 0,.int .i64 0,.int .i64 0,.int .i64 0,.int .i64 0,.int .i64 0,.int .i64 0,.int .i64 0,.int .i64 0,.int .i64 0,.int .i64 0,.int .i64 0,.int .i64 0,.int .i64 0,.int .i64 0,.int .i64 0,.int .i64 0,.int .i64 0,.int .i64 0,.int .i64 0,.int .i64 0,.int .i64 0,.int .i64 0,.int .i64 0,.int .i64 0,.int .i64 0,.int .i64 0,.int .i64 0,.int .i64 0,.int .i64 0,.int .i64 0,.int .i64 0,.int .i64 0,.int .i64 0,.int .i64 0,.int .i64 0,.int .i64 0,.int .i64 0,.int .i64 0,.int .i64 0,.int .i64 0,.int .i64 0,.int .i64 0,.int .i64 0,.int .i64 0,.int .i64 0,.int .i64 0,.int .i64 0,.int .i64 0,.int .i64 0,.int .i64 0,.int .i64 0,.int .i64 0,.int .i64 0,.int .i64 0,.int .i64 0,.int .i64 0,.int .i64 0,.int .i64 0,.int .i64 0,.int .i64 0,.int .i64 0,.int .i64 0,.int .i64 0,.int .i64 0,.int .i64 0,.int .i64 0,.int .i64 0,.int .i64 0,.int .i64 0,.int .i64 0,.int .i64 0,.int .i64 0,.int .i64 0,.int .i64 0,.int .i64 0,.int .i64 0,.int .i64 0,.int .i64 0,.int .i64 0,.int .i64 0,.int .i64 0,.int .i64 0,.int .i64 0,.int .i64 0,.int .i64 0,.int .i64 0,.int .i64 0,.int .i64 0,.int .i64 0,.int .i64 0,.int .i64 0,.int .i64 0,.int .i64 0,.int .i64 0,.int .i64 0,.int .i64 0,.int .i64 0,.int .i64 0,.int .i64 0,.int .i64 0,.int .i64 0,.int .i64 0,.int .i64 0,.int .i64 0,.int .i64 0,.int .i64 0,.int .i64 0,.int .i64 0,.int .i64 0,.int .i64 0,.int .i64 0,.int .i64 0,.int .i64 0,.int .i64 0,.int .i64 0,.int .i64 0,.int .i64 0,.int .i64 0,.int .i64 0,.int .i64 0,.int .i64 0,.int .i64 0,.int .i64 0,.int .i64 0,.int .i64 0,.int .i64 0,.int .i64 0,.int .i64 0,.int .i64 0,.int .i64 0,.int .i64 0,.int .i64 0,.int .i64 0,.int .i64 0,.int .i64 0,.int .i64 0,.int .i64 0,.int .i64 0,.int .i64 0,.int .i64 0,.int .i64 0,.int .i64 0,.int .i64 0,.int .i64 0,.int .i64 0,.int .i64 0,.int .i64 0,.int .i64 0,.int .i64 0,.int .i64 0,.int .i64 0,.int .i64 0,.int .i64 0,.int .i64 0,.int .i64 0,.int .i64 0,.int .i64 0,.int .i64 0,.int .i64 0,.int .i64 0,.int .i64 0,.int .i64 0,.int .i64 0,.int .i64 0,.int .i64 0,.int .i64 0,.int .i64 0,.int .i64 0,.int .i64 0,.int .i64 0,.int .i64 0,.int .i64 0,.int .i64 0,.int .i64 0,.int .i64 0,.int .i64 0,.int .i64 0,.int .i64 0,.int .i64 0,.int .i64 0,.int .i64 0,.int .i64 0,.int .i64 0,.int .i64 0,.int .i64 0,.int .i64 0,.int .i64 0,.int .i64 0,.int .i64 0,.int .i64 0,.int .i64 0,.int .i64 0,.int .i64 0,.int .i64 0,.int .i64 0,.int .i64 0,.int .i64 0,.int .i64 0,.int .i64 0,.int .i64 0,.int .i64 0,.int .i64 0,.int .i64 0,.int .i64 0,.int .i64 0,.int .i64 0,.int .i64 0,.int .i64 0,.int .i64 0,.int .i64 0,.int .i64 0,.int .i64 0,.int .i64 0,.int .i64 0,.int .i64 0,.int .i64 0,.int .i64 0,.int .i64 0,.int .i64 0,.int .i64 0,.int .i64 0,.int .i64 0,.int .i64 0,.int .i64 0,.int .i64 0,.int .i64 0,.int .i64 0,.int .i64 0,.int .i64 0,.int .i64 0,.int .i64 0,.int .i64 0,.int .i64 0,.int .i64 0,.int .i64 0,.int .i64 0,.int .i64 0,.int .i64 0,.int .i64 0,.int .i64 0,.int .i64 0,.int .i64 0,.int .i64 0,.int .i64 0,.int .i64 0,.int .i64 0,.int .i64 0,.int .i64 0,.int .i64 0,.int .i64 0,.int .i64 0,.int .i64 0,.int .i64 0,.int .i64 0,.int .i64 0,.int .i64 0,.int .i64 0,.int .i64 0,.int .i64 0,.int .i64 0,.int .i64 0,.int .i64 0,.int .i64 0,.int .i64 0,.int .i64 0,.int .i64 0,.int .i64 0,.int .i64 0,.int .i64 0,.int .i64 0,.int .i64 0,.int .i64 0,.int .i64 0,.int .i64 0,.int .i64 0,.int .i64 0,.int .i64 0,.int .i64 0,.int .i64 0,.int .i64 0,.int .i64 0,.int .i64 0,.int .i64 0,.int .i64 0,.int .i64 0,.int .i64 0,.int .i64 0,.int .i64 0,.int .i64 0,.int .i64 0,.int .i64 0,.int .i64 0,.int .i64 0,.int .i64 0,.int .i64 0,.int .i64 0,.int .i64 0,.int .i64 0,.int .i64 0,.int .i64 0,.int .i64 0,.int .i64 0,.int .i64 0,.int .i64 0,.int .i64 0,.int .i64 0,.int .i64 0,.int .i64 0,.int .i64 0,.int .i64 0,.int .i64 0,.int .i64 0,.int .i64 0,.int .i64 0,.int .i64 0,.int .i64 0,.int .i64 0,.int .i64 0,.int .i64 0,.int .i64 0,.int .i64 0,.int .i64 0,.int .i64 0,.int .i64 0,.int .i64 0,.int .i64 0,.int .i64 0,.int .i64 0,.int .i64 0,.int .i64 0,.int .i64 0,.int .i64 0,.int .i64 0,.int .i64 0,.int .i64 0,.int .i64 0,.int .i64 0,.int .i64 0,.int .i64 0,.int .i64 0,.int .i64 0,.int .i64 0,.int .i64 0,.int .i64 0,.int .i64 0,.int .i64 0,.int .i64 0,.int .i64 0,.int .i64 0,.int .i64 0,.int .i64 0,.int .i64 0,.int .i64 0,.int .i64 0,.int .i64 0,.int .i64 0,.int .i64 0,.int .i64 0,.int .i64 0,.int .i64 0,.int .i64 0,.int .i64 0,.int .i64 0,.int .i64 0,.int .i64 0,.int .i64 0,.int .i64 0,.int .i64 0,.int .i64 0,.int .i64 0,.int .i64 0,.int .i64 0,.int .i64 0,.int .i64 0,.int .i64 0,.int .i64 0,.int .i64 0,.int .i64 0,.int .i64 0,.int .i64 0,.int .i64 0,.int .i64 0,.int .i64 0,.int .i64 0,.int .i64 0,.int .i64 0,.int .i64 0,.int .i64 0,.int .i64 0,.int .i64 0,.int .i64 0,.int .i64 0,.int .i64 0,.int .i64 0,.int .i64 0,.int .i64 0,.int .i64 0,.int .i64 0,.int .i64 0,.int .i64 0,.int .i64 0,.int .i64 0,.int .i64 0,.int .i64 0,.int .i64 0,.int .i64 0,.int .i64 0,.int .i64 0,.int .i64 0,.int .i64 0,.int .i64 0,.int .i64 0,.int .i64 0,.int .i64 0,.int .i64 0,.int .i64 0,.int .i64 0,.int .i64 0,.int .i64 0,.int .i64 0,.int .i64 0,.int .i64 0,.int .i64 0,.int .i64 0,.int .i64 0,.int .i64 0,.int .i64 0,.int .i64 0,.int .i64 0,.int .i64 0,.int .i64 0,.int .i64 0,.int .i64 0,.int .i64 0,.int .i64 0,.int .i64 0,.int .i64 0,.int .i64 0,.int .i64 0,.int .i64 0,.int .i64 0,.int .i64 0,.int .i64 0,.int .i64 0,.int .i64 0,.int .i64 0,.int .i64 0,.int .i64 0,.int .i64 0,.int .i64 0,.int .i64 0,.int .i64 0,.int .i64 0,.int .i64 0,.int .i64 0,.int .i64 0,.int .i64 0,.int .i64 0,.int .i64 0,.int .i64 0,.int .i64 0,.int .i64 0,.int .i64 0,.int .i64 0,.int .i64 0,.int .i64 0,.int .i64 0,.int .i64 0,.int .i64 0,.int .i64 0,.int .i64 0,.int .i64 0,.int .i64 0,.int .i64 0,.int .i64 0,.int .i64 0,.int .i64 0,.int .i64 0,.int .i64 0,.int .i64 0,.int .i64 0,.int .i64 0,.int .i64 0,.int .i64 0,.int .i64 0,.int .i64 0,.int .i64 0,.int .i64 0,.int .i64 0,.int .i64 0,.int .i64 0,.int .i64 0,.int .i64 0,.int .i64 0,.int .i64 0,.int .i64 0,.int .i64 0,.int .i64 0,.int .i64 0,.int .i64 0,.int .i64 0,.int .i64 0,.int .i64 0,.int .i64 0,.int .i64 0,.int .i64 0,.int .i64 0,.int .i64 0,.int .i64 0,.int .i64 0,.int .i64 0,.int .i64 0,.int .i64 0,.int .i64 0,.int .i64 0,.int .i64 0,.int .i64 0,.int .i64 0,.int .i64 0,.int .i64 0,.int .i64 0,.int .i64 0,.int .i64 0,.int .i64 0,.int .i64 0,.int .i64 0,.int .i64 0,.int .i64 0,.int .i64 0,.int .i64 0,.int .i64 0,.int .i64 0,.int .i64 0,.int .i64 0,.int .i64 0,.int .i64 0,.int .i64 0,.int .i64 0,.int .i64 0,.int .i64 0,.int .i64 0,.int .i64 0,.int .i64 0,.int .i64 0,.int .i64 0,.int .i64 0,.int .i64 0,.int .i64 0,.int .i64 0,.int .i64 0,.int .i64 0,.int .i64 0,.int .i64 0,.int .i64 0,.int .i64 0,.int .i64 0,.int .i64 0,.int .i64 0,.int .i64 0,.int .i64 0,.int .i64 0,.int .i64 0,.int .i64 0,.int .i64 0,.int .i64 0,.int .i64 0,.int .i64 0,.int .i64 0,.int .i64 0,.int .i64 0,.int .i64 0,.int .i64 0,.int .i64 0,.int .i64 0,.int .i64 0,.int .i64 0,.int .i64 0,.int .i64 0,.int .i64 0,.int .i64 0,.int .i64 0,.int .i64 0,.int .i64 0,.int .i64 0,.int .i64 0,.int .i64 0,.int .i64 0,.int .i64 0,.int .i64 0,.int .i64 0,.int .i64 0,.int .i64 0,.int .i64 0,.int .i64 0,.int .i64 0,.int .i64 0,.int .i64 0,.int .i64 0,.int .i64 0,.int .i64 0,.int .i64 0,.int .i64 0,.int .i64 0,.int .i64 0,.int .i64 0,.int .i64 0,.int .i64 0,.int .i64 0,.int .i64 0,.int .i64 0,.int .i64 0,.int .i64 0,.int .i64 0,.int .i64 0,.int .i64 0,.int .i64 0,.int .i64 0,.int .i64 0,.int .i64 0,.int .i64 0,.int .i64 0,.int .i64 0,.int .i64 0,.int .i64 0,.int .i64 0,.int .i64 0,.int .i64 0,.int .i64 0,.int .i64 0,.int .i64 0,.int .i64 0,.int .i64 0,.int .i64 0,.int .i64 0,.int .i64 0,.int .i64 0,.int .i64 0,.int .i64 0,.int .i64 0,.int .i64 0,.int .i64 0,.int .i64 0,.int .i64 0,.int .i64 0,.int .i64 0,.int .i64 0,.int .i64 0,.int .i64 0,.int .i64 0,.int .i64 0,.int .i64 0,.int .i64 0,.int .i64 0,.int .i64 0,.int .i64 0,.int .i64 0,.int .i64 0,.int .i64 0,.int .i64 0,.int .i64 0,.int .i64 0,.int .i64 0],.agg [.int .i64 0,.int .i64 0],.int .i64 0]⟩
theorem Ra:aS EA UB:=aP (n:=100) (l:=[Nx]) (by simp only[List.forall_mem_cons];exact⟨Ek,by simp⟩) (by kernel_rfl)
def TA:bl:=⟨180,[a0,a7,a5],.aG⟩
theorem PF:aS EA TA:=aP (n:=100) (l:=[]) (by simp) (by kernel_rfl)
def TT:bl:=⟨180,[a0,a7,a6],.aG⟩
theorem P9:aS EA TT:=aP (n:=100) (l:=[]) (by simp) (by kernel_rfl)
def TN:bl:=⟨155,[a0,a7],.tup [.agg [.int .i64 0,.int .i64 0],.bool false]⟩
theorem Rt:aS EA TN:=aP (n:=100) (l:=[Nx,TA,TT]) (by simp only[List.forall_mem_cons];exact⟨Ek,PF,P9,by simp⟩) (by kernel_rfl)
def Us:bl:=⟨129,[a0],.tup [.agg [.int .i64 0,.int .i64 0],.int .i64 0]⟩
theorem RA:aS EA Us:=aP (n:=100) (l:=[k1,k6,Uy,Nx,T3,Uw,UB,TN]) (by simp only[List.forall_mem_cons];exact⟨Sx,Tg,Q_,Ek,RI,P8,Ra,Rt,by simp⟩) (by kernel_rfl)
def UD:bl:=⟨88,[a0],.bool true⟩
theorem Ru:aS EA UD:=aP (n:=100) (l:=[Us]) (by simp only[List.forall_mem_cons];exact⟨RA,by simp⟩) (by kernel_rfl)
def Tp:bl:=⟨144,[a0],a8⟩
theorem PS:aS EA Tp:=aP (n:=100) (l:=[]) (by simp) (by kernel_rfl)
def UF:bl:=⟨162,[a8,a9,.int .i64 0],.bool true⟩
theorem QE:aS EA UF:=aP (n:=100) (l:=[]) (by simp) (by kernel_rfl)
def Un:bl:=⟨162,[a8,a9,.int .i64 1],.bool true⟩
theorem Q1:aS EA Un:=aP (n:=100) (l:=[]) (by simp) (by kernel_rfl)
def MX:bl:=⟨184,[.int .i64 1],.bool false⟩
theorem DH:aS EA MX:=aP (n:=100) (l:=[]) (by simp) (by kernel_rfl)
def MQ:bl:=⟨183,[.int .i64 1,.int .i64 1],.int .i64 0⟩
theorem EH:aS EA MQ:=aP (n:=100) (l:=[MX]) (by simp only[List.forall_mem_cons];exact⟨DH,by simp⟩) (by kernel_rfl)
def Ni:bl:=⟨184,[.int .i64 0],.bool false⟩
theorem EE:aS EA Ni:=aP (n:=100) (l:=[]) (by simp) (by kernel_rfl)
def PM:bl:=⟨183,[.int .i64 0,.int .i64 0],.int .i64 0⟩
theorem JZ:aS EA PM:=aP (n:=100) (l:=[Ni]) (by simp only[List.forall_mem_cons];exact⟨EE,by simp⟩) (by kernel_rfl)
def Up:bl:=⟨165,[sE,sE],.int .i64 0⟩
theorem Rn:aS EA Up:=aP (n:=100) (l:=[MQ,PM]) (by simp only[List.forall_mem_cons];exact⟨EH,JZ,by simp⟩) (by kernel_rfl)
def T7:bl:=⟨164,[sE,sE],.int .i64 0⟩
theorem Q2:aS EA T7:=aP (n:=100) (l:=[Up]) (by simp only[List.forall_mem_cons];exact⟨Rn,by simp⟩) (by kernel_rfl)
def Ut:bl:=⟨183,[.int .i64 1,.int .i64 0],.int .i64 1⟩
theorem RP:aS EA Ut:=aP (n:=100) (l:=[MX,Ni]) (by simp only[List.forall_mem_cons];exact⟨DH,EE,by simp⟩) (by kernel_rfl)
def Ug:bl:=⟨165,[sE,sD],.int .i64 1⟩
theorem QB:aS EA Ug:=aP (n:=100) (l:=[Ut]) (by simp only[List.forall_mem_cons];exact⟨RP,by simp⟩) (by kernel_rfl)
def T5:bl:=⟨164,[sE,sD],.int .i64 1⟩
theorem PO:aS EA T5:=aP (n:=100) (l:=[Ug]) (by simp only[List.forall_mem_cons];exact⟨QB,by simp⟩) (by kernel_rfl)
def Tz:bl:=⟨183,[.int .i64 0,.int .i64 1],.int .i64 (-1)⟩
theorem Q8:aS EA Tz:=aP (n:=100) (l:=[Ni,MX]) (by simp only[List.forall_mem_cons];exact⟨EE,DH,by simp⟩) (by kernel_rfl)
def Tq:bl:=⟨165,[sD,sE],.int .i64 (-1)⟩
theorem Q0:aS EA Tq:=aP (n:=100) (l:=[Tz]) (by simp only[List.forall_mem_cons];exact⟨Q8,by simp⟩) (by kernel_rfl)
def TH:bl:=⟨164,[sD,sE],.int .i64 (-1)⟩
theorem QG:aS EA TH:=aP (n:=100) (l:=[Tq]) (by simp only[List.forall_mem_cons];exact⟨Q0,by simp⟩) (by kernel_rfl)
def Ue:bl:=⟨165,[sD,sD],.int .i64 0⟩
theorem R7:aS EA Ue:=aP (n:=100) (l:=[PM,MQ]) (by simp only[List.forall_mem_cons];exact⟨JZ,EH,by simp⟩) (by kernel_rfl)
def TY:bl:=⟨164,[sD,sD],.int .i64 0⟩
theorem Rj:aS EA TY:=aP (n:=100) (l:=[Ue]) (by simp only[List.forall_mem_cons];exact⟨R7,by simp⟩) (by kernel_rfl)
def Ul:bl:=⟨40,[sE,sD],.bool false⟩
theorem RT:aS EA Ul:=aP (n:=100) (l:=[]) (by simp) (by kernel_rfl)
def Uf:bl:=⟨167,[sE,sD],.bool false⟩
theorem Qs:aS EA Uf:=aP (n:=100) (l:=[Ul]) (by simp only[List.forall_mem_cons];exact⟨RT,by simp⟩) (by kernel_rfl)
def Uz:bl:=⟨145,[a8,.fsl 1 [[.fsl 1 [[.int .i64 0],[.int .i64 0]]]]],a12⟩
theorem Rw:aS EA Uz:=aP (n:=100) (l:=[UF,Un,T7,T5,TH,TY,Uf]) (by simp only[List.forall_mem_cons];exact⟨QE,Q1,Q2,PO,QG,Rj,Qs,by simp⟩) (by kernel_rfl)
def Uc:bl:=⟨162,[a8,sD,.int .i64 0],.bool true⟩
theorem RZ:aS EA Uc:=aP (n:=100) (l:=[]) (by simp) (by kernel_rfl)
def Ub:bl:=⟨162,[a8,sD,.int .i64 1],.bool false⟩
theorem Qh:aS EA Ub:=aP (n:=100) (l:=[]) (by simp) (by kernel_rfl)
def Ty:bl:=⟨162,[a8,sE,.int .i64 0],.bool false⟩
theorem Ql:aS EA Ty:=aP (n:=100) (l:=[]) (by simp) (by kernel_rfl)
def T9:bl:=⟨162,[a8,sE,.int .i64 1],.bool true⟩
theorem Ry:aS EA T9:=aP (n:=100) (l:=[]) (by simp) (by kernel_rfl)
def Tr:bl:=⟨165,[yX,yX],.int .i64 0⟩
theorem RB:aS EA Tr:=aP (n:=100) (l:=[MQ]) (by simp only[List.forall_mem_cons];exact⟨EH,by simp⟩) (by kernel_rfl)
def TL:bl:=⟨164,[yX,yX],.int .i64 0⟩
theorem Q6:aS EA TL:=aP (n:=100) (l:=[Tr]) (by simp only[List.forall_mem_cons];exact⟨RB,by simp⟩) (by kernel_rfl)
def TE:bl:=⟨40,[yX,yX],.bool true⟩
theorem R2:aS EA TE:=aP (n:=100) (l:=[]) (by simp) (by kernel_rfl)
def Um:bl:=⟨167,[yX,yX],.bool true⟩
theorem Qt:aS EA Um:=aP (n:=100) (l:=[TE]) (by simp only[List.forall_mem_cons];exact⟨R2,by simp⟩) (by kernel_rfl)
def TU:bl:=⟨145,[a8,a12],Tv⟩
theorem Rs:aS EA TU:=aP (n:=100) (l:=[Uc,Ub,Ty,T9,TL,Um]) (by simp only[List.forall_mem_cons];exact⟨RZ,Qh,Ql,Ry,Q6,Qt,by simp⟩) (by kernel_rfl)
def Ud:bl:=⟨162,[a8,yX,.int .i64 0],.bool false⟩
theorem RE:aS EA Ud:=aP (n:=100) (l:=[]) (by simp) (by kernel_rfl)
def TF:bl:=⟨162,[a8,yX,.int .i64 1],.bool false⟩
theorem Qp:aS EA TF:=aP (n:=100) (l:=[]) (by simp) (by kernel_rfl)
def Uq:bl:=⟨145,[a8,Tv],.aG⟩
theorem RL:aS EA Uq:=aP (n:=100) (l:=[Ud,TF]) (by simp only[List.forall_mem_cons];exact⟨RE,Qp,by simp⟩) (by kernel_rfl)
def TM:bl:=⟨118,[a0],.tup [.fsl 1 [[.fsl 1 [[.fsl 1 [[.int .i64 0],[.int .i64 0]]]]],[.fsl 1 [[.fsl 1 [[.int .i64 0],[.int .i64 1]]],[.fsl 1 [[.int .i64 1],[.int .i64 0]]]]],[.fsl 1 [[.fsl 1 [[.int .i64 1],[.int .i64 1]]]]]],.int .i64 0]⟩
theorem QT:aS EA TM:=aP (n:=100) (l:=[UD,Tp,Uz,TU,Uq]) (by simp only[List.forall_mem_cons];exact⟨Ru,PS,Rw,Rs,RL,by simp⟩) (by kernel_rfl)
def TZ:bl:=⟨119,[.fsl 1 [[.fsl 1 [[.fsl 1 [[.int .i64 0],[.int .i64 0]]]]],[.fsl 1 [[.fsl 1 [[.int .i64 0],[.int .i64 1]]],[.fsl 1 [[.int .i64 1],[.int .i64 0]]]]],[.fsl 1 [[.fsl 1 [[.int .i64 1],[.int .i64 1]]]]]]],.fsl 1 [[.fsl 1 [[.int .i64 0],[.int .i64 0]]],[.fsl 1 [[.int .i64 0],[.int .i64 1]]],[.fsl 1 [[.int .i64 1],[.int .i64 0]]],[.fsl 1 [[.int .i64 1],[.int .i64 1]]]]⟩
theorem RG:aS EA TZ:=aP (n:=100) (l:=[]) (by simp) (by kernel_rfl)
def TB:bl:=⟨63,[a0],Ts⟩
theorem RN:aS EA TB:=aP (n:=100) (l:=[TM,TZ]) (by simp only[List.forall_mem_cons];exact⟨QT,RG,by simp⟩) (by kernel_rfl)
def TV:bl:=⟨43,[a0],Ts⟩
theorem QU:aS EA TV:=aP (n:=100) (l:=[TB]) (by simp only[List.forall_mem_cons];exact⟨RN,by simp⟩) (by kernel_rfl)
def RD:bl:=⟨53,[a0,PZ],.tup [.agg [.fsl 1 [[.bool false],[.bool true],[.bool true],[.bool true]],.fsl 1 [[.fsl 1 [[.int .i64 0],[.int .i64 0]]],[.fsl 1 [[.int .i64 0],[.int .i64 1]]],[.fsl 1 [[.int .i64 1],[.int .i64 0]]],[.fsl 1 [[.int .i64 1],[.int .i64 1]]]],.fmap [(.agg [.int .i64 0,.int .i64 0,.int .i64 0,.int .i64 0,.int .i64 0,.int .i64 0,.int .i64 0,.int .i64 0],.int .i64 0),(.agg [.int .i64 0,.int .i64 1,.int .i64 0,.int .i64 0,.int .i64 0,.int .i64 0,.int .i64 0,.int .i64 0],.int .i64 1),(.agg [.int .i64 1,.int .i64 0,.int .i64 0,.int .i64 0,.int .i64 0,.int .i64 0,.int .i64 0,.int .i64 0],.int .i64 2),(.agg [.int .i64 1,.int .i64 1,.int .i64 0,.int .i64 0,.int .i64 0,.int .i64 0,.int .i64 0,.int .i64 0],.int .i64 3)]],.int .i64 0]⟩
theorem Jf:aS EA RD:=aP (n:=100) (l:=[TV]) (by simp only[List.forall_mem_cons];exact⟨QU,by simp⟩) (by kernel_rfl)
def UC:bl:=⟨112,[sD,sE],a9⟩
theorem QL:aS EA UC:=aP (n:=100) (l:=[]) (by simp) (by kernel_rfl)
def Uh:bl:=⟨111,[a17,a9],.bool false⟩
theorem RH:aS EA Uh:=aP (n:=100) (l:=[]) (by simp) (by kernel_rfl)
def Uk:bl:=⟨55,[a17,sD,sE],.bool false⟩
theorem QW:aS EA Uk:=aP (n:=100) (l:=[UC,Uh]) (by simp only[List.forall_mem_cons];exact⟨QL,RH,by simp⟩) (by kernel_rfl)
def Uj:bl:=⟨54,[a17,.clo 55 [.agg [.fsl 1 [[.bool false],[.bool true],[.bool true],[.bool true]],.fsl 1 [[.fsl 1 [[.int .i64 0],[.int .i64 0]]],[.fsl 1 [[.int .i64 0],[.int .i64 1]]],[.fsl 1 [[.int .i64 1],[.int .i64 0]]],[.fsl 1 [[.int .i64 1],[.int .i64 1]]]],.fmap [(.agg [.int .i64 0,.int .i64 0,.int .i64 0,.int .i64 0,.int .i64 0,.int .i64 0,.int .i64 0,.int .i64 0],.int .i64 0),(.agg [.int .i64 0,.int .i64 1,.int .i64 0,.int .i64 0,.int .i64 0,.int .i64 0,.int .i64 0,.int .i64 0],.int .i64 1),(.agg [.int .i64 1,.int .i64 0,.int .i64 0,.int .i64 0,.int .i64 0,.int .i64 0,.int .i64 0,.int .i64 0],.int .i64 2),(.agg [.int .i64 1,.int .i64 1,.int .i64 0,.int .i64 0,.int .i64 0,.int .i64 0,.int .i64 0,.int .i64 0],.int .i64 3)]]] []],.tup [.bool false,.fsl 1 [[.int .i64 0],[.int .i64 1]],.fsl 1 [[.int .i64 1],[.int .i64 0]]]⟩
theorem RS:aS EA Uj:=aP (n:=100) (l:=[Uk]) (by simp only[List.forall_mem_cons];exact⟨QW,by simp⟩) (by kernel_rfl)
def Ux:bl:=⟨12,[a0,PZ],.tup [.bool false,.fsl 1 [[.int .i64 0],[.int .i64 1]],.fsl 1 [[.int .i64 1],[.int .i64 0]],.int .i64 0]⟩
theorem QC:aS EA Ux:=aP (n:=100) (l:=[RD,Uj]) (by simp only[List.forall_mem_cons];exact⟨Jf,RS,by simp⟩) (by kernel_rfl)
def UA:bl:=⟨58,[a17,a0],.tup [.bool true,.aG,.aG]⟩
theorem Qm:aS EA UA:=aP (n:=100) (l:=[]) (by simp) (by kernel_rfl)
def TO:bl:=⟨15,[a0,PZ],.tup [.bool true,.aG,.aG,.int .i64 0]⟩
theorem Qy:aS EA TO:=aP (n:=100) (l:=[RD,UA]) (by simp only[List.forall_mem_cons];exact⟨Jf,Qm,by simp⟩) (by kernel_rfl)
def TR:bl:=⟨40,[sD,sD],.bool true⟩
theorem QX:aS EA TR:=aP (n:=100) (l:=[]) (by simp) (by kernel_rfl)
def TI:bl:=⟨40,[sE,sE],.bool true⟩
theorem QH:aS EA TI:=aP (n:=100) (l:=[]) (by simp) (by kernel_rfl)
theorem HK:∃n H1,run EA n (.fn 8) [] []=some (.bool true,H1):=GJ (n:=100) (l:=[k0,Ux,TO,TR,TI]) (by simp only[List.forall_mem_cons];exact⟨Td,QC,Qy,QX,QH,by simp⟩) (by kernel_rfl)
theorem calls (n:Nat):jh Tryz.prog (run E n):=CA Tf mixed ⟨Ny,λf az b h=>by
 by_cases hf:Nat.beq f 8=true
 .have e:E.known f az=if az.isEmpty then some (.bool true)else none:=by unfold E Am;simp only[hf,if_true]
  rw[e]at h;split at h
  .rename_i ha;cases h;have:f=8:=Nat.eq_of_beq_eq_true hf;subst this;have:az=[]:=List.isEmpty_iff.1 ha;subst this;obtain⟨n,H1,h1⟩:=HK;exact I8 (P5 n) h1
  .cases h
 .have e:E.known f az=EA.known f az:=by unfold E EA Am;simp only[hf,if_false,Bool.false_eq_true]
  rw[e]at h;exact Ja f az b h⟩ n
end Go.Proofs.YtdoibkkdaojjpaaGreat
