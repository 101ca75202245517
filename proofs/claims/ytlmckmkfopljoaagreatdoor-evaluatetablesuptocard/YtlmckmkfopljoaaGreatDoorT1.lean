/-
 The tables of this seat, and the law's own awakening.
-/
import Derived.Test.YtlmckmkfopljoaaGreatDoorProg
import Derived.KernelRfl
import Derived.Test.YtlmckmkfopljoaaGreatDoorV2
set_option linter.all false
open Nat(beq)
namespace Go.Proofs.YtlmckmkfopljoaaGreatDoor
open Go.VE Go.Proofs
def D1:aZ Int:=[-1,0,0,0,0,1,2,2,2,2,2,2,2,0,0,1,2,2,1,1,1,1]
instance:b_:=⟨λg=>if Nat.beq g 0 then some (D1.map (V.int .i64))else none,λg cs h=>by
 split at h
 .cases h;exact⟨_,_,rfl⟩
 cases h⟩
noncomputable def EA:Env:=D6 Tryz.prog [0,1,169] [116,168,143,172,169,118,121,120,160,44] [116,168,143] [(91,2)] (λf=>beq f 169) λf az=>none
noncomputable def E:Env:=D6 Tryz.prog [0,1,169,10] [116,168,143,172,169,118,121,120,160,44] [116,168,143] [(91,2)] (λf=>beq f 169) λf az=>if beq f 10 then(if az.isEmpty then some (.bool true)else none)else none
def Zi:B4 Tryz.prog=true:=by kernel_rfl
def ZI:xI Tryz.prog 91 2:=xI.two (i:=3) Tryz.underlying91 rfl rfl rfl rfl (by decide) (by decide) (by kernel_rfl) Tryz.underlying3 (by kernel_rfl) (by kernel_rfl)
def Xf:∀p∈[(91,2)],xI Tryz.prog p.1 p.2:=by intro t h;simp only[List.mem_singleton]at h;subst h;exact ZI
def X6:eR Tryz.prog EA:=Kp Zi Xf
def Y2:eR Tryz.prog E:=Kp Zi Xf
def mixed:Tryz.prog.follows .mixedOrders=true:=by kernel_rfl
open Go.Shelf
def Tryz.BW:Go.Shelf.Ren:=⟨λ|6=>169|15=>192|14=>191|28=>210|29=>211|20=>202|21=>203|22=>204|23=>205|24=>206|25=>207|26=>208|27=>209|46=>214|47=>215|48=>216|49=>217|50=>218|57=>219|n=>n,λ|22=>57|24=>25|25=>190|3=>3|39=>208|0=>0|53=>223|55=>225|4=>4|46=>216|45=>215|50=>220|5=>5|9=>9|66=>227|70=>231|76=>233|77=>111|n=>n,λ|n=>n⟩
def Tryz.TB:Go.Proofs.SlLaysF.n6 Tryz.prog Tryz.BW:={
 mixed:=by kernel_rfl
 f6:=⟨Tryz.f169.name,by decide,Tryz.func169.trans (congrArg some (by kernel_rfl))⟩
 f14:=⟨Tryz.f191.name,by decide,Tryz.func191.trans (congrArg some (by kernel_rfl))⟩
 f15:=Tryz.func192.trans (congrArg some (by kernel_rfl))
 f20:=⟨Tryz.f202.name,by decide,Tryz.func202.trans (congrArg some (by kernel_rfl))⟩
 f21:=⟨Tryz.f203.name,by decide,Tryz.func203.trans (congrArg some (by kernel_rfl))⟩
 f22:=⟨Tryz.f204.name,by decide,Tryz.func204.trans (congrArg some (by kernel_rfl))⟩
 f23:=⟨Tryz.f205.name,by decide,Tryz.func205.trans (congrArg some (by kernel_rfl))⟩
 f24:=⟨Tryz.f206.name,by decide,Tryz.func206.trans (congrArg some (by kernel_rfl))⟩
 f25:=⟨Tryz.f207.name,by decide,Tryz.func207.trans (congrArg some (by kernel_rfl))⟩
 f26:=⟨Tryz.f208.name,by decide,Tryz.func208.trans (congrArg some (by kernel_rfl))⟩
 f27:=⟨Tryz.f209.name,by decide,Tryz.func209.trans (congrArg some (by kernel_rfl))⟩
 f28:=Tryz.func210.trans (congrArg some (by kernel_rfl))
 f29:=Tryz.func211.trans (congrArg some (by kernel_rfl))
 f46:=⟨Tryz.f214.name,by decide,Tryz.func214.trans (congrArg some (by kernel_rfl))⟩
 f47:=Tryz.func215.trans (congrArg some (by kernel_rfl))
 f48:=Tryz.func216.trans (congrArg some (by kernel_rfl))
 f49:=⟨Tryz.f217.name,by decide,Tryz.func217.trans (congrArg some (by kernel_rfl))⟩
 f50:=⟨Tryz.f218.name,by decide,Tryz.func218.trans (congrArg some (by kernel_rfl))⟩
 f57:=⟨Tryz.f219.name,by decide,Tryz.func219.trans (congrArg some (by kernel_rfl))⟩
 t0:=Tryz.underlying0
 a0:=Tryz.isAgg0
 z0:=Tryz.sizeOf0
 v0:=Tryz.zeroValue0
 t3:=Tryz.underlying3
 a3:=Tryz.isAgg3
 z3:=Tryz.sizeOf3
 v3:=Tryz.zeroValue3
 t4:=Tryz.underlying4
 a4:=Tryz.isAgg4
 z4:=Tryz.sizeOf4
 v4:=Tryz.zeroValue4
 t5:=Tryz.underlying5
 a5:=Tryz.isAgg5
 z5:=Tryz.sizeOf5
 v5:=Tryz.zeroValue5
 t9:=Tryz.underlying9
 a9:=Tryz.isAgg9
 z9:=Tryz.sizeOf9
 v9:=Tryz.zeroValue9
 t22:=Tryz.underlying57
 a22:=Tryz.isAgg57
 z22:=Tryz.sizeOf57
 v22:=Tryz.zeroValue57
 a24:=Tryz.isAgg25
 z24:=Tryz.sizeOf25
 t25:=Tryz.underlying190
 a25:=Tryz.isAgg190
 z25:=Tryz.sizeOf190
 v25:=Tryz.zeroValue190
 t39:=Tryz.underlying208
 a39:=Tryz.isAgg208
 z39:=Tryz.sizeOf208
 v39:=Tryz.zeroValue208
 t45:=Tryz.underlying215
 a45:=Tryz.isAgg215
 z45:=Tryz.sizeOf215
 v45:=Tryz.zeroValue215
 t46:=Tryz.underlying216
 a46:=Tryz.isAgg216
 z46:=Tryz.sizeOf216
 v46:=Tryz.zeroValue216
 t50:=Tryz.underlying220
 a50:=Tryz.isAgg220
 z50:=Tryz.sizeOf220
 v50:=Tryz.zeroValue220
 t53:=Tryz.underlying223
 a53:=Tryz.isAgg223
 z53:=Tryz.sizeOf223
 v53:=Tryz.zeroValue223
 t55:=Tryz.underlying225
 a55:=Tryz.isAgg225
 z55:=Tryz.sizeOf225
 v55:=Tryz.zeroValue225
 t66:=Tryz.underlying227
 a66:=Tryz.isAgg227
 z66:=Tryz.sizeOf227
 v66:=Tryz.zeroValue227
 t70:=Tryz.underlying231
 a70:=Tryz.isAgg231
 z70:=Tryz.sizeOf231
 v70:=Tryz.zeroValue231
 t76:=Tryz.underlying233
 a76:=Tryz.isAgg233
 z76:=Tryz.sizeOf233
 v76:=Tryz.zeroValue233
 t77:=Tryz.underlying111
 a77:=Tryz.isAgg111
 z77:=Tryz.sizeOf111
 v77:=Tryz.zeroValue111}
def UG:Ck Tryz.prog 169 where
 ok:=⟨Tryz.f169,Tryz.func169,by kernel_rfl,by kernel_rfl⟩
 zero:=λp a u w=>AnyF.slices_SortFunc_none (ρ:=Tryz.BW) {Tryz.TB with} p a u w
 all:=λenc c cf z g cb b off a d w B e C D G=>Any.slices_SortFunc_eq (ρ:=Tryz.BW) Tryz.TB enc c cf z g cb b off a d w B e C D G
def Ti:∀f,EA.sort f=true->Ck Tryz.prog f:=λf h=>by have:f=169:=Nat.eq_of_beq_eq_true h;subst this;exact UG
def Pk:∀f az y,EA.known f az=some y->DA Tryz.prog f az y:=λf az y h=>by cases h
def XP(n:Nat):mj Tryz.prog (run EA n):=HJ X6 mixed ⟨Ti,Pk⟩ n
end Go.Proofs.YtlmckmkfopljoaaGreatDoor
namespace Go.Proofs.YtlmckmkfopljoaaGreatDoor
open Go.VE Go.Proofs
def a0:V:=.agg [.fsl 3 [[.str (ByteArray.mk #[112]),.bR,.fsl 5 [[.int .i64 2,.int .i64 1,.int .i64 5,.int .i64 0,.bR]]],[.str (ByteArray.mk #[113]),.bR,.fsl 5 [[.int .i64 3,.int .i64 0,.int .i64 5,.int .i64 0,.bR]]]]]
def k0:mo:=⟨117,[a0],.tup [.agg [.int .i64 0,.int .i64 0],.int .i64 0]⟩
def Tz:uF EA k0:=KE (n:=100) (l:=[]) Zab (by kernel_rfl)
def k1:mo:=⟨60,[a0,.agg [.int .i64 9,.int .i64 0,.int .i64 0,.int .i64 0,.str ByteArray.empty,.fsl 6 [[.int .i64 3,.int .i64 0,.int .i64 0,.int .i64 0,.str ByteArray.empty,.bR],[.int .i64 3,.int .i64 0,.int .i64 1,.int .i64 0,.str ByteArray.empty,.bR]]]],.tup [.fsl 1 [[.fsl 1 [[.int .i64 0],[.int .i64 0]]],[.fsl 1 [[.int .i64 1],[.int .i64 0]]],[.fsl 1 [[.int .i64 1],[.int .i64 1]]]],.fsl 1 [[.bool true],[.bool false],[.bool true]],.int .i64 0]⟩
theorem YB:uF EA k1:=KE (n:=100) (l:=[k0]) (by simp only[List.forall_mem_cons];exact⟨Tz,by simp⟩) (by kernel_rfl)
theorem NQ:∃n H1,run EA n (.fn 10) [] []=some (.bool true,H1):=Ng (n:=100) (l:=[k0,k1]) (by simp only[List.forall_mem_cons];exact⟨Tz,YB,by simp⟩) (by kernel_rfl)
def calls(n:Nat):mj Tryz.prog (run E n):=HJ Y2 mixed ⟨Ti,λf az b h=>by
 by_cases u:beq f 10=true
 .have e:E.known f az=if az.isEmpty then some (.bool true)else none:=by unfold E D6;simp only[u,if_true]
  rw[e]at h;split at h
  next w=>cases h;have:f=10:=Nat.eq_of_beq_eq_true u;subst this;have:az=[]:=List.isEmpty_iff.1 w;subst this;have⟨n,H1,a⟩:=NQ;exact Py (XP n) a
  cases h
 have e:E.known f az=EA.known f az:=by unfold E EA D6;simp only[u,if_false,Bool.false_eq_true]
 rw[e]at h;exact Pk f az b h⟩ n
end Go.Proofs.YtlmckmkfopljoaaGreatDoor
