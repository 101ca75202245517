/-
 The tables of this seat, and the law's own awakening.
-/
import Derived.Test.YtcknkjopbmmcjaaGreatDoorProg
import Derived.KernelRfl
import Derived.Test.YtcknkjopbmmcjaaGreatDoorV2
set_option linter.all false
open Nat(beq)
open List(forall_mem_cons)
namespace Go.Proofs.YtcknkjopbmmcjaaGreatDoor
open Go.VE Go.Proofs
def FY:R':=[-1,0,0,0,0,1,2,2,2,2,2,2,2,0,0,1,2,2,1,1,1,1]
instance:b_:=⟨λg=>if beq g 0 then some (FY.map (V.int .i64))else none,λg cs h=>by
 split at h
 .cases h;exact⟨_,_,rfl⟩
 cases h⟩
noncomputable def EA:Env:=FQ Tryz.prog [0,1,163] [65,30,146,166,163,91,93,19,39,6,20] [65,30,146] [(63,2)] (λf=>beq f 163) λf az=>none
noncomputable def E:Env:=FQ Tryz.prog [0,1,163,4] [65,30,146,166,163,91,93,19,39,6,20] [65,30,146] [(63,2)] (λf=>beq f 163) λf az=>if beq f 4 then(if az.isEmpty then some (.bool true)else none)else none
def noC:C_ Tryz.prog=true:=by kernel_rfl
def abF:yG Tryz.prog 63 2:=yG.two (i:=3) Tryz.underlying63 rfl rfl rfl rfl (by decide) (by decide) (by kernel_rfl) Tryz.underlying3 (by kernel_rfl) (by kernel_rfl)
def Yt:∀p∈[(63,2)],yG Tryz.prog p.1 p.2:=by intro t h;simp only[List.mem_singleton]at h;subst h;exact abF
def YU:fq Tryz.prog EA:=K5 noC Yt
def Z7:fq Tryz.prog E:=K5 noC Yt
def mixed:Tryz.prog.follows .mixedOrders=true:=by kernel_rfl
open Go.Shelf
def Tryz.BS:Go.Shelf.Ren:=⟨λ|6=>163|15=>176|14=>175|28=>187|29=>188|20=>179|21=>180|22=>181|23=>182|24=>183|25=>184|26=>185|27=>186|46=>191|47=>192|48=>193|49=>194|50=>195|57=>196|n=>n,λ|22=>57|24=>39|25=>199|3=>3|39=>206|0=>0|53=>216|55=>218|4=>4|46=>210|45=>209|50=>124|5=>5|9=>9|66=>219|70=>31|76=>224|77=>225|n=>n,λ|n=>n⟩
def Tryz.VJ:Go.Proofs.SlLaysF.n6 Tryz.prog Tryz.BS:={
 mixed:=by kernel_rfl
 f6:=⟨Tryz.f163.name,by decide,Tryz.func163.trans (congrArg some (by kernel_rfl))⟩
 f14:=⟨Tryz.f175.name,by decide,Tryz.func175.trans (congrArg some (by kernel_rfl))⟩
 f15:=Tryz.func176.trans (congrArg some (by kernel_rfl))
 f20:=⟨Tryz.f179.name,by decide,Tryz.func179.trans (congrArg some (by kernel_rfl))⟩
 f21:=⟨Tryz.f180.name,by decide,Tryz.func180.trans (congrArg some (by kernel_rfl))⟩
 f22:=⟨Tryz.f181.name,by decide,Tryz.func181.trans (congrArg some (by kernel_rfl))⟩
 f23:=⟨Tryz.f182.name,by decide,Tryz.func182.trans (congrArg some (by kernel_rfl))⟩
 f24:=⟨Tryz.f183.name,by decide,Tryz.func183.trans (congrArg some (by kernel_rfl))⟩
 f25:=⟨Tryz.f184.name,by decide,Tryz.func184.trans (congrArg some (by kernel_rfl))⟩
 f26:=⟨Tryz.f185.name,by decide,Tryz.func185.trans (congrArg some (by kernel_rfl))⟩
 f27:=⟨Tryz.f186.name,by decide,Tryz.func186.trans (congrArg some (by kernel_rfl))⟩
 f28:=Tryz.func187.trans (congrArg some (by kernel_rfl))
 f29:=Tryz.func188.trans (congrArg some (by kernel_rfl))
 f46:=⟨Tryz.f191.name,by decide,Tryz.func191.trans (congrArg some (by kernel_rfl))⟩
 f47:=Tryz.func192.trans (congrArg some (by kernel_rfl))
 f48:=Tryz.func193.trans (congrArg some (by kernel_rfl))
 f49:=⟨Tryz.f194.name,by decide,Tryz.func194.trans (congrArg some (by kernel_rfl))⟩
 f50:=⟨Tryz.f195.name,by decide,Tryz.func195.trans (congrArg some (by kernel_rfl))⟩
 f57:=⟨Tryz.f196.name,by decide,Tryz.func196.trans (congrArg some (by kernel_rfl))⟩
 t0:=Tryz.underlying0
 a0:=Tryz.isAgg0
 z0:=Tryz.sizeOf0
 v0:=Tryz.zeroValue0
 t3:=Tryz.underlying3
 a3:=Tryz.isAgg3
 z3:=Tryz.sizeOf3
 v3:=Tryz.zeroValue3
 t4:=Tryz.underlying4
 a4:=Tryz.isAgg4
 z4:=Tryz.sizeOf4
 v4:=Tryz.zeroValue4
 t5:=Tryz.underlying5
 a5:=Tryz.isAgg5
 z5:=Tryz.sizeOf5
 v5:=Tryz.zeroValue5
 t9:=Tryz.underlying9
 a9:=Tryz.isAgg9
 z9:=Tryz.sizeOf9
 v9:=Tryz.zeroValue9
 t22:=Tryz.underlying57
 a22:=Tryz.isAgg57
 z22:=Tryz.sizeOf57
 v22:=Tryz.zeroValue57
 a24:=Tryz.isAgg39
 z24:=Tryz.sizeOf39
 t25:=Tryz.underlying199
 a25:=Tryz.isAgg199
 z25:=Tryz.sizeOf199
 v25:=Tryz.zeroValue199
 t39:=Tryz.underlying206
 a39:=Tryz.isAgg206
 z39:=Tryz.sizeOf206
 v39:=Tryz.zeroValue206
 t45:=Tryz.underlying209
 a45:=Tryz.isAgg209
 z45:=Tryz.sizeOf209
 v45:=Tryz.zeroValue209
 t46:=Tryz.underlying210
 a46:=Tryz.isAgg210
 z46:=Tryz.sizeOf210
 v46:=Tryz.zeroValue210
 t50:=Tryz.underlying124
 a50:=Tryz.isAgg124
 z50:=Tryz.sizeOf124
 v50:=Tryz.zeroValue124
 t53:=Tryz.underlying216
 a53:=Tryz.isAgg216
 z53:=Tryz.sizeOf216
 v53:=Tryz.zeroValue216
 t55:=Tryz.underlying218
 a55:=Tryz.isAgg218
 z55:=Tryz.sizeOf218
 v55:=Tryz.zeroValue218
 t66:=Tryz.underlying219
 a66:=Tryz.isAgg219
 z66:=Tryz.sizeOf219
 v66:=Tryz.zeroValue219
 t70:=Tryz.underlying31
 a70:=Tryz.isAgg31
 z70:=Tryz.sizeOf31
 v70:=Tryz.zeroValue31
 t76:=Tryz.underlying224
 a76:=Tryz.isAgg224
 z76:=Tryz.sizeOf224
 v76:=Tryz.zeroValue224
 t77:=Tryz.underlying225
 a77:=Tryz.isAgg225
 z77:=Tryz.sizeOf225
 v77:=Tryz.zeroValue225}
def XG:CW Tryz.prog 163 where
 ok:=⟨Tryz.f163,Tryz.func163,by kernel_rfl,by kernel_rfl⟩
 zero:=λp a u w=>AnyF.slices_SortFunc_none (ρ:=Tryz.BS) {Tryz.VJ with} p a u w
 all:=λenc c cf z g cb b off a d w B e C D G=>Any.slices_SortFunc_eq (ρ:=Tryz.BS) Tryz.VJ enc c cf z g cb b off a d w B e C D G
def UT:∀f,EA.sort f=true->CW Tryz.prog f:=λf h=>by have:f=163:=Nat.eq_of_beq_eq_true h;subst this;exact XG
def Rm:∀f az y,EA.known f az=some y->Ej Tryz.prog f az y:=λf az y h=>by cases h
def YN(n:Nat):mG Tryz.prog (run EA n):=Ic YU mixed ⟨UT,Rm⟩ n
end Go.Proofs.YtcknkjopbmmcjaaGreatDoor
namespace Go.Proofs.YtcknkjopbmmcjaaGreatDoor
open Go.VE Go.Proofs
def a0:V:=.agg [.fsl 3 [[.str (ByteArray.mk #[97]),.fsl 2 [[.str (ByteArray.mk #[120]),.int .i64 0]],.fsl 5 [[.int .i64 1,.int .i64 0,.int .i64 0,.int .i64 0,.fsl 2 [[.int .i64 0,.int .i64 1]]]]],[.str (ByteArray.mk #[98]),.fsl 2 [[.str (ByteArray.mk #[120]),.int .i64 0]],.fsl 5 [[.int .i64 1,.int .i64 0,.int .i64 0,.int .i64 0,.fsl 2 [[.int .i64 0,.int .i64 1]]]]]]]
def a1:V:=.agg [.int .i64 16,.int .i64 0,.int .i64 0,.int .i64 0,.str ByteArray.empty,.fsl 6 [[.int .i64 9,.int .i64 0,.int .i64 0,.int .i64 0,.str ByteArray.empty,.fsl 6 [[.int .i64 2,.int .i64 0,.int .i64 0,.int .i64 0,.str (ByteArray.mk #[120]),.bM],[.int .i64 1,.int .i64 1,.int .i64 0,.int .i64 0,.str ByteArray.empty,.bM]]],[.int .i64 9,.int .i64 0,.int .i64 0,.int .i64 0,.str ByteArray.empty,.fsl 6 [[.int .i64 2,.int .i64 0,.int .i64 1,.int .i64 0,.str (ByteArray.mk #[120]),.bM],[.int .i64 1,.int .i64 1,.int .i64 0,.int .i64 0,.str ByteArray.empty,.bM]]]]]
def a2:V:=.fsl 1 [[.int .i64 1],[.int .i64 0]]
def a3:V:=.fsl 1 [[.int .i64 0],[.int .i64 1]]
def a4:V:=.agg [.fsl 1 [[.int .i64 1],[.int .i64 1]],.fsl 1 [[.fsl 2 [[.int .i64 0,.int .i64 0]]],[.fsl 2 [[.int .i64 0,.int .i64 0]]]]]
def a5:V:=.fsl 1 [[.fsl 1 [[.int .i64 0],[.int .i64 1]]],[.fsl 1 [[.int .i64 1],[.int .i64 0]]]]
def a6:V:=.fsl 1 [[.int .i64 1],[.int .i64 1]]
def k0:gy:=⟨121,[a0,.int .i64 0],.int .i64 0⟩
def aaz:gX EA k0:=iT (n:=100) (l:=[]) Zab (by kernel_rfl)
def k1:gy:=⟨121,[a0,.int .i64 1],.int .i64 0⟩
def aab:gX EA k1:=iT (n:=100) (l:=[]) Zab (by kernel_rfl)
def k2:gy:=⟨90,[a0],.tup [.agg [.int .i64 0,.int .i64 0],.int .i64 0]⟩
def Je:gX EA k2:=iT (n:=100) (l:=[k0,k1]) (by simp only[forall_mem_cons];exact⟨aaz,aab,Zab⟩) (by kernel_rfl)
def k3:gy:=⟨67,[a1],.bool true⟩
def VG:gX EA k3:=iT (n:=100) (l:=[]) Zab (by kernel_rfl)
def k4:gy:=⟨94,[a1,.clo 98 [] []],.bool true⟩
def Vq:gX EA k4:=iT (n:=100) (l:=[]) Zab (by kernel_rfl)
def k5:gy:=⟨40,[a0,a1],.int .i64 0⟩
def aak:gX EA k5:=iT (n:=100) (l:=[k2,k3,k4]) (by simp only[forall_mem_cons];exact⟨Je,VG,Vq,Zab⟩) (by kernel_rfl)
def k6:gy:=⟨189,[.int .i64 1],.bool false⟩
def OX:gX EA k6:=iT (n:=100) (l:=[]) Zab (by kernel_rfl)
def k7:gy:=⟨177,[.int .i64 1,.int .i64 1],.int .i64 0⟩
def VL:gX EA k7:=iT (n:=100) (l:=[k6]) (by simp only[forall_mem_cons];exact⟨OX,Zab⟩) (by kernel_rfl)
def k8:gy:=⟨189,[.int .i64 0],.bool false⟩
def Pd:gX EA k8:=iT (n:=100) (l:=[]) Zab (by kernel_rfl)
def k9:gy:=⟨177,[.int .i64 0,.int .i64 0],.int .i64 0⟩
def aaJ:gX EA k9:=iT (n:=100) (l:=[k8]) (by simp only[forall_mem_cons];exact⟨Pd,Zab⟩) (by kernel_rfl)
def k10:gy:=⟨164,[a2,a3],.int .i64 1⟩
def Zl:gX EA k10:=iT (n:=100) (l:=[k6,k8]) (by simp only[forall_mem_cons];exact⟨OX,Pd,Zab⟩) (by kernel_rfl)
def k11:gy:=⟨164,[a3,a2],.int .i64 (-1)⟩
def Zc:gX EA k11:=iT (n:=100) (l:=[k8,k6]) (by simp only[forall_mem_cons];exact⟨Pd,OX,Zab⟩) (by kernel_rfl)
def UU:gy:=⟨145,[a4,.fsl 1 [[.fsl 1 [[.int .i64 0],[.int .i64 0]]]]],a5⟩
def K7:gX EA UU:=iT (n:=100) (l:=[k7,k9,k10,k11]) (by simp only[forall_mem_cons];exact⟨VL,aaJ,Zl,Zc,Zab⟩) (by kernel_rfl)
def k13:gy:=⟨165,[a6,a6],.int .i64 0⟩
def Y0:gX EA k13:=iT (n:=100) (l:=[k7]) (by simp only[forall_mem_cons];exact⟨VL,Zab⟩) (by kernel_rfl)
def k14:gy:=⟨164,[a6,a6],.int .i64 0⟩
def Yz:gX EA k14:=iT (n:=100) (l:=[k13]) (by simp only[forall_mem_cons];exact⟨Y0,Zab⟩) (by kernel_rfl)
def Vg:gy:=⟨145,[a4,a5],.fsl 1 [[.fsl 1 [[.int .i64 1],[.int .i64 1]]]]⟩
def KY:gX EA Vg:=iT (n:=100) (l:=[k14]) (by simp only[forall_mem_cons];exact⟨Yz,Zab⟩) (by kernel_rfl)
def k16:gy:=⟨78,[a0,a1],.tup [.fsl 1 [[.fsl 1 [[.int .i64 0],[.int .i64 0]]],[.fsl 1 [[.int .i64 0],[.int .i64 1]]],[.fsl 1 [[.int .i64 1],[.int .i64 0]]],[.fsl 1 [[.int .i64 1],[.int .i64 1]]]],.fsl 1 [[.bool false],[.bool false],[.bool false],[.bool true]],.int .i64 0]⟩
def YB:gX EA k16:=iT (n:=100) (l:=[k5,k3,k4,k2,UU,Vg]) (by simp only[forall_mem_cons];exact⟨aak,VG,Vq,Je,K7,KY,Zab⟩) (by kernel_rfl)
def k17:gy:=⟨78,[a0,.agg [.int .i64 17,.int .i64 0,.int .i64 0,.int .i64 0,.str ByteArray.empty,.fsl 6 [[.int .i64 9,.int .i64 0,.int .i64 0,.int .i64 0,.str ByteArray.empty,.fsl 6 [[.int .i64 2,.int .i64 0,.int .i64 0,.int .i64 0,.str (ByteArray.mk #[120]),.bM],[.int .i64 1,.int .i64 1,.int .i64 0,.int .i64 0,.str ByteArray.empty,.bM]]],[.int .i64 9,.int .i64 0,.int .i64 0,.int .i64 0,.str ByteArray.empty,.fsl 6 [[.int .i64 2,.int .i64 0,.int .i64 1,.int .i64 0,.str (ByteArray.mk #[120]),.bM],[.int .i64 1,.int .i64 1,.int .i64 0,.int .i64 0,.str ByteArray.empty,.bM]]]]]],.tup [.fsl 1 [[.fsl 1 [[.int .i64 0],[.int .i64 0]]],[.fsl 1 [[.int .i64 0],[.int .i64 1]]],[.fsl 1 [[.int .i64 1],[.int .i64 0]]],[.fsl 1 [[.int .i64 1],[.int .i64 1]]]],.fsl 1 [[.bool false],[.bool true],[.bool true],[.bool true]],.int .i64 0]⟩
def Zn:gX EA k17:=iT (n:=100) (l:=[k2,UU,Vg]) (by simp only[forall_mem_cons];exact⟨Je,K7,KY,Zab⟩) (by kernel_rfl)
def Oi:∃n H1,run EA n (.fn 4) [] []=some (.bool true,H1):=OH (n:=100) (l:=[k16,k2,UU,Vg,k17]) (by simp only[forall_mem_cons];exact⟨YB,Je,K7,KY,Zn,Zab⟩) (by kernel_rfl)
def calls(n:Nat):mG Tryz.prog (run E n):=Ic Z7 mixed ⟨UT,λf az b h=>by
 by_cases u:beq f 4=true
 .have e:E.known f az=if az.isEmpty then some (.bool true)else none:=by unfold E FQ;simp only[u,if_true]
  rw[e]at h;split at h
  next w=>cases h;have:f=4:=Nat.eq_of_beq_eq_true u;subst this;have:az=[]:=List.isEmpty_iff.1 w;subst this;have⟨n,H1,a⟩:=Oi;exact Qf (YN n) a
  cases h
 have e:E.known f az=EA.known f az:=by unfold E EA FQ;simp only[u,if_false,Bool.false_eq_true]
 rw[e]at h;exact Rm f az b h⟩ n
end Go.Proofs.YtcknkjopbmmcjaaGreatDoor
