/- Tables; awake. -/
import Derived.Test.YtbglidfgdmhlnaaGreatDoorProg
import Derived.KernelRfl
import Derived.Test.YtbglidfgdmhlnaaGreatDoorV2
set_option linter.all false
open Nat(beq)
open List(forall_mem_cons)
namespace Go.Proofs.YtbglidfgdmhlnaaGreatDoor
open Go.VE Go.Proofs
def Gv:Rd:=[-1,0,0,0,0,1,2,2,2,2,2,2,2,0,0,1,2,2,1,1,1,1]
instance:bX:=⟨λg=>if beq g 0 then some (Gv.map (V.int .i64))else none,λg cs h=>by
 split at h
 .cases h;exact⟨_,_,rfl⟩
 cases h⟩
noncomputable def EA:Env:=G8 Tryz.prog [0,1,156] [110,27,125,159,156,139,141,36,61,16,37] [110,27,125] [(101,2)] (λf=>beq f 156) λf az=>none
noncomputable def E:Env:=G8 Tryz.prog [0,1,156,4] [110,27,125,159,156,139,141,36,61,16,37] [110,27,125] [(101,2)] (λf=>beq f 156) λf az=>if beq f 4 then(if az.isEmpty then some (.bool true)else none)else none
def noC:DH Tryz.prog=true:=by kernel_rfl
def abP:yO Tryz.prog 101 2:=yO.two (i:=3) Tryz.underlying101 rfl rfl rfl rfl (by decide) (by decide) (by kernel_rfl) Tryz.underlying3 (by kernel_rfl) (by kernel_rfl)
def aab:∀p∈[(101,2)],yO Tryz.prog p.1 p.2:=by intro t h;simp only[List.mem_singleton]at h;subst h;exact abP
def aaA:fm Tryz.prog EA:=KV noC aab
def acj:fm Tryz.prog E:=KV noC aab
def mixed:Tryz.prog.follows .mixedOrders=true:=by kernel_rfl
open Go.Shelf
def Tryz.Cl:Go.Shelf.Ren:=⟨λ|6=>156|15=>183|14=>182|28=>210|29=>211|20=>202|21=>203|22=>204|23=>205|24=>206|25=>207|26=>208|27=>209|46=>220|47=>221|48=>222|49=>223|50=>224|57=>226|n=>n,λ|22=>51|24=>30|25=>182|3=>3|39=>207|0=>0|53=>231|55=>233|4=>4|46=>225|45=>224|50=>113|5=>5|9=>9|66=>237|70=>57|76=>243|77=>141|n=>n,λ|n=>n⟩
def Tryz.V5:Go.Proofs.SlLaysF.n6 Tryz.prog Tryz.Cl:={
 mixed:=by kernel_rfl
 f6:=⟨Tryz.f156.name,by decide,Tryz.func156.trans (congrArg some (by kernel_rfl))⟩
 f14:=⟨Tryz.f182.name,by decide,Tryz.func182.trans (congrArg some (by kernel_rfl))⟩
 f15:=Tryz.func183.trans (congrArg some (by kernel_rfl))
 f20:=⟨Tryz.f202.name,by decide,Tryz.func202.trans (congrArg some (by kernel_rfl))⟩
 f21:=⟨Tryz.f203.name,by decide,Tryz.func203.trans (congrArg some (by kernel_rfl))⟩
 f22:=⟨Tryz.f204.name,by decide,Tryz.func204.trans (congrArg some (by kernel_rfl))⟩
 f23:=⟨Tryz.f205.name,by decide,Tryz.func205.trans (congrArg some (by kernel_rfl))⟩
 f24:=⟨Tryz.f206.name,by decide,Tryz.func206.trans (congrArg some (by kernel_rfl))⟩
 f25:=⟨Tryz.f207.name,by decide,Tryz.func207.trans (congrArg some (by kernel_rfl))⟩
 f26:=⟨Tryz.f208.name,by decide,Tryz.func208.trans (congrArg some (by kernel_rfl))⟩
 f27:=⟨Tryz.f209.name,by decide,Tryz.func209.trans (congrArg some (by kernel_rfl))⟩
 f28:=Tryz.func210.trans (congrArg some (by kernel_rfl))
 f29:=Tryz.func211.trans (congrArg some (by kernel_rfl))
 f46:=⟨Tryz.f220.name,by decide,Tryz.func220.trans (congrArg some (by kernel_rfl))⟩
 f47:=Tryz.func221.trans (congrArg some (by kernel_rfl))
 f48:=Tryz.func222.trans (congrArg some (by kernel_rfl))
 f49:=⟨Tryz.f223.name,by decide,Tryz.func223.trans (congrArg some (by kernel_rfl))⟩
 f50:=⟨Tryz.f224.name,by decide,Tryz.func224.trans (congrArg some (by kernel_rfl))⟩
 f57:=⟨Tryz.f226.name,by decide,Tryz.func226.trans (congrArg some (by kernel_rfl))⟩
 t0:=Tryz.underlying0
 a0:=Tryz.isAgg0
 z0:=Tryz.sizeOf0
 v0:=Tryz.zeroValue0
 t3:=Tryz.underlying3
 a3:=Tryz.isAgg3
 z3:=Tryz.sizeOf3
 v3:=Tryz.zeroValue3
 t4:=Tryz.underlying4
 a4:=Tryz.isAgg4
 z4:=Tryz.sizeOf4
 v4:=Tryz.zeroValue4
 t5:=Tryz.underlying5
 a5:=Tryz.isAgg5
 z5:=Tryz.sizeOf5
 v5:=Tryz.zeroValue5
 t9:=Tryz.underlying9
 a9:=Tryz.isAgg9
 z9:=Tryz.sizeOf9
 v9:=Tryz.zeroValue9
 t22:=Tryz.underlying51
 a22:=Tryz.isAgg51
 z22:=Tryz.sizeOf51
 v22:=Tryz.zeroValue51
 a24:=Tryz.isAgg30
 z24:=Tryz.sizeOf30
 t25:=Tryz.underlying182
 a25:=Tryz.isAgg182
 z25:=Tryz.sizeOf182
 v25:=Tryz.zeroValue182
 t39:=Tryz.underlying207
 a39:=Tryz.isAgg207
 z39:=Tryz.sizeOf207
 v39:=Tryz.zeroValue207
 t45:=Tryz.underlying224
 a45:=Tryz.isAgg224
 z45:=Tryz.sizeOf224
 v45:=Tryz.zeroValue224
 t46:=Tryz.underlying225
 a46:=Tryz.isAgg225
 z46:=Tryz.sizeOf225
 v46:=Tryz.zeroValue225
 t50:=Tryz.underlying113
 a50:=Tryz.isAgg113
 z50:=Tryz.sizeOf113
 v50:=Tryz.zeroValue113
 t53:=Tryz.underlying231
 a53:=Tryz.isAgg231
 z53:=Tryz.sizeOf231
 v53:=Tryz.zeroValue231
 t55:=Tryz.underlying233
 a55:=Tryz.isAgg233
 z55:=Tryz.sizeOf233
 v55:=Tryz.zeroValue233
 t66:=Tryz.underlying237
 a66:=Tryz.isAgg237
 z66:=Tryz.sizeOf237
 v66:=Tryz.zeroValue237
 t70:=Tryz.underlying57
 a70:=Tryz.isAgg57
 z70:=Tryz.sizeOf57
 v70:=Tryz.zeroValue57
 t76:=Tryz.underlying243
 a76:=Tryz.isAgg243
 z76:=Tryz.sizeOf243
 v76:=Tryz.zeroValue243
 t77:=Tryz.underlying141
 a77:=Tryz.isAgg141
 z77:=Tryz.sizeOf141
 v77:=Tryz.zeroValue141}
def XF:DR Tryz.prog 156 where
 ok:=⟨Tryz.f156,Tryz.func156,by kernel_rfl,by kernel_rfl⟩
 zero:=λp a u w=>AnyF.slices_SortFunc_none (ρ:=Tryz.Cl) {Tryz.V5 with} p a u w
 all:=λenc c cf z g cb b off a d w B e C D G=>Any.slices_SortFunc_eq (ρ:=Tryz.Cl) Tryz.V5 enc c cf z g cb b off a d w B e C D G
def Wn:∀f,EA.sort f=true->DR Tryz.prog f:=λf h=>by have:f=156:=Nat.eq_of_beq_eq_true h;subst this;exact XF
def QW:∀f az y,EA.known f az=some y->E7 Tryz.prog f az y:=λf az y h=>by cases h
def aaE(n:Nat):mS Tryz.prog (run EA n):=Ih aaA mixed ⟨Wn,QW⟩ n
end Go.Proofs.YtbglidfgdmhlnaaGreatDoor
namespace Go.Proofs.YtbglidfgdmhlnaaGreatDoor
open Go.VE Go.Proofs
def a0:V:=.agg [.fsl 3 [[.str (ByteArray.mk #[97]),.fsl 2 [[.str (ByteArray.mk #[120]),.int .i64 0]],.fsl 5 [[.int .i64 1,.int .i64 0,.int .i64 0,.int .i64 0,.fsl 2 [[.int .i64 0,.int .i64 1]]]]],[.str (ByteArray.mk #[98]),.fsl 2 [[.str (ByteArray.mk #[120]),.int .i64 0]],.fsl 5 [[.int .i64 1,.int .i64 0,.int .i64 0,.int .i64 0,.fsl 2 [[.int .i64 0,.int .i64 1]]]]]]]
def a1:V:=.agg [.int .i64 16,.int .i64 0,.int .i64 0,.int .i64 0,.str ByteArray.empty,.fsl 6 [[.int .i64 9,.int .i64 0,.int .i64 0,.int .i64 0,.str ByteArray.empty,.fsl 6 [[.int .i64 2,.int .i64 0,.int .i64 0,.int .i64 0,.str (ByteArray.mk #[120]),.bO],[.int .i64 1,.int .i64 1,.int .i64 0,.int .i64 0,.str ByteArray.empty,.bO]]],[.int .i64 9,.int .i64 0,.int .i64 0,.int .i64 0,.str ByteArray.empty,.fsl 6 [[.int .i64 2,.int .i64 0,.int .i64 1,.int .i64 0,.str (ByteArray.mk #[120]),.bO],[.int .i64 1,.int .i64 1,.int .i64 0,.int .i64 0,.str ByteArray.empty,.bO]]]]]
def a2:V:=.fsl 1 [[.int .i64 1],[.int .i64 0]]
def a3:V:=.fsl 1 [[.int .i64 0],[.int .i64 1]]
def a4:V:=.agg [.fsl 1 [[.int .i64 1],[.int .i64 1]],.fsl 1 [[.fsl 2 [[.int .i64 0,.int .i64 0]]],[.fsl 2 [[.int .i64 0,.int .i64 0]]]]]
def a5:V:=.fsl 1 [[.fsl 1 [[.int .i64 0],[.int .i64 1]]],[.fsl 1 [[.int .i64 1],[.int .i64 0]]]]
def a6:V:=.fsl 1 [[.int .i64 1],[.int .i64 1]]
def k0:gC:=⟨166,[a0,.int .i64 0],.int .i64 0⟩
def abD:iE EA k0:=jm (n:=100) (l:=[]) Zab (by kernel_rfl)
def k1:gC:=⟨166,[a0,.int .i64 1],.int .i64 0⟩
def abA:iE EA k1:=jm (n:=100) (l:=[]) Zab (by kernel_rfl)
def k2:gC:=⟨135,[a0],.tup [.agg [.int .i64 0,.int .i64 0],.int .i64 0]⟩
def JY:iE EA k2:=jm (n:=100) (l:=[k0,k1]) (by simp only[forall_mem_cons];exact⟨abD,abA,Zab⟩) (by kernel_rfl)
def k3:gC:=⟨112,[a1],.bool true⟩
def WB:iE EA k3:=jm (n:=100) (l:=[]) Zab (by kernel_rfl)
def k4:gC:=⟨117,[a1,.clo 145 [] []],.bool true⟩
def WM:iE EA k4:=jm (n:=100) (l:=[]) Zab (by kernel_rfl)
def k5:gC:=⟨88,[a0,a1],.int .i64 0⟩
def abT:iE EA k5:=jm (n:=100) (l:=[k2,k3,k4]) (by simp only[forall_mem_cons];exact⟨JY,WB,WM,Zab⟩) (by kernel_rfl)
def k6:gC:=⟨212,[.int .i64 1],.bool false⟩
def Qg:iE EA k6:=jm (n:=100) (l:=[]) Zab (by kernel_rfl)
def k7:gC:=⟨184,[.int .i64 1,.int .i64 1],.int .i64 0⟩
def Wu:iE EA k7:=jm (n:=100) (l:=[k6]) (by simp only[forall_mem_cons];exact⟨Qg,Zab⟩) (by kernel_rfl)
def k8:gC:=⟨212,[.int .i64 0],.bool false⟩
def Qm:iE EA k8:=jm (n:=100) (l:=[]) Zab (by kernel_rfl)
def k9:gC:=⟨184,[.int .i64 0,.int .i64 0],.int .i64 0⟩
def aci:iE EA k9:=jm (n:=100) (l:=[k8]) (by simp only[forall_mem_cons];exact⟨Qm,Zab⟩) (by kernel_rfl)
def k10:gC:=⟨157,[a2,a3],.int .i64 1⟩
def aap:iE EA k10:=jm (n:=100) (l:=[k6,k8]) (by simp only[forall_mem_cons];exact⟨Qg,Qm,Zab⟩) (by kernel_rfl)
def k11:gC:=⟨157,[a3,a2],.int .i64 (-1)⟩
def abj:iE EA k11:=jm (n:=100) (l:=[k8,k6]) (by simp only[forall_mem_cons];exact⟨Qm,Qg,Zab⟩) (by kernel_rfl)
def AU:gC:=⟨124,[a4,.fsl 1 [[.fsl 1 [[.int .i64 0],[.int .i64 0]]]]],a5⟩
def KO:iE EA AU:=jm (n:=100) (l:=[k7,k9,k10,k11]) (by simp only[forall_mem_cons];exact⟨Wu,aci,aap,abj,Zab⟩) (by kernel_rfl)
def k13:gC:=⟨158,[a6,a6],.int .i64 0⟩
def aai:iE EA k13:=jm (n:=100) (l:=[k7]) (by simp only[forall_mem_cons];exact⟨Wu,Zab⟩) (by kernel_rfl)
def k14:gC:=⟨157,[a6,a6],.int .i64 0⟩
def aaL:iE EA k14:=jm (n:=100) (l:=[k13]) (by simp only[forall_mem_cons];exact⟨aai,Zab⟩) (by kernel_rfl)
def Wo:gC:=⟨124,[a4,a5],.fsl 1 [[.fsl 1 [[.int .i64 1],[.int .i64 1]]]]⟩
def KW:iE EA Wo:=jm (n:=100) (l:=[k14]) (by simp only[forall_mem_cons];exact⟨aaL,Zab⟩) (by kernel_rfl)
def k16:gC:=⟨62,[a0,a1],.tup [.fsl 1 [[.fsl 1 [[.int .i64 0],[.int .i64 0]]],[.fsl 1 [[.int .i64 0],[.int .i64 1]]],[.fsl 1 [[.int .i64 1],[.int .i64 0]]],[.fsl 1 [[.int .i64 1],[.int .i64 1]]]],.fsl 1 [[.bool false],[.bool false],[.bool false],[.bool true]],.int .i64 0]⟩
def aaO:iE EA k16:=jm (n:=100) (l:=[k5,k3,k4,k2,AU,Wo]) (by simp only[forall_mem_cons];exact⟨abT,WB,WM,JY,KO,KW,Zab⟩) (by kernel_rfl)
def k17:gC:=⟨62,[a0,.agg [.int .i64 17,.int .i64 0,.int .i64 0,.int .i64 0,.str ByteArray.empty,.fsl 6 [[.int .i64 9,.int .i64 0,.int .i64 0,.int .i64 0,.str ByteArray.empty,.fsl 6 [[.int .i64 2,.int .i64 0,.int .i64 0,.int .i64 0,.str (ByteArray.mk #[120]),.bO],[.int .i64 1,.int .i64 1,.int .i64 0,.int .i64 0,.str ByteArray.empty,.bO]]],[.int .i64 9,.int .i64 0,.int .i64 0,.int .i64 0,.str ByteArray.empty,.fsl 6 [[.int .i64 2,.int .i64 0,.int .i64 1,.int .i64 0,.str (ByteArray.mk #[120]),.bO],[.int .i64 1,.int .i64 1,.int .i64 0,.int .i64 0,.str ByteArray.empty,.bO]]]]]],.tup [.fsl 1 [[.fsl 1 [[.int .i64 0],[.int .i64 0]]],[.fsl 1 [[.int .i64 0],[.int .i64 1]]],[.fsl 1 [[.int .i64 1],[.int .i64 0]]],[.fsl 1 [[.int .i64 1],[.int .i64 1]]]],.fsl 1 [[.bool false],[.bool true],[.bool true],[.bool true]],.int .i64 0]⟩
def aaV:iE EA k17:=jm (n:=100) (l:=[k2,AU,Wo]) (by simp only[forall_mem_cons];exact⟨JY,KO,KW,Zab⟩) (by kernel_rfl)
def Pp:∃n H1,run EA n (.fn 4) [] []=some (.bool true,H1):=PK (n:=100) (l:=[k16,k2,AU,Wo,k17]) (by simp only[forall_mem_cons];exact⟨aaO,JY,KO,KW,aaV,Zab⟩) (by kernel_rfl)
def calls(n:Nat):mS Tryz.prog (run E n):=Ih acj mixed ⟨Wn,λf az b h=>by
 by_cases u:beq f 4=true
 .have e:E.known f az=if az.isEmpty then some (.bool true)else none:=by unfold E G8;simp only[u,if_true]
  rw[e]at h;split at h
  next w=>cases h;have:f=4:=Nat.eq_of_beq_eq_true u;subst this;have:az=[]:=List.isEmpty_iff.1 w;subst this;have⟨n,H1,a⟩:=Pp;exact R7 (aaE n) a
  cases h
 have e:E.known f az=EA.known f az:=by unfold E EA G8;simp only[u,if_false,Bool.false_eq_true]
 rw[e]at h;exact QW f az b h⟩ n
end Go.Proofs.YtbglidfgdmhlnaaGreatDoor
