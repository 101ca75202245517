/-
 The tables of this seat, and the law's own awakening.
-/
import Derived.Test.YtfgojpmjdgnieaaGreatDoorProg
import Derived.KernelRfl
import Derived.Test.YtfgojpmjdgnieaaGreatDoorV2
set_option linter.all false
open Nat(beq)
open List(forall_mem_cons)
namespace Go.Proofs.YtfgojpmjdgnieaaGreatDoor
open Go.VE Go.Proofs
def Er:Zy:=[-1,0,0,0,0,1,2,2,2,2,2,2,2,0,0,1,2,2,1,1,1,1]
instance:bV:=⟨λg=>if beq g 0 then some (Er.map (V.int .i64))else none,λg u h=>by
 split at h
 .cases h;exact⟨_,_,rfl⟩
 cases h⟩
noncomputable def EA:Env:=BA Tryz.prog [0,1,100] [74,68,77,103,100,120,123,122,149,8] [74,68,77] [(65,2)] (λf=>beq f 100) λf az=>none
noncomputable def E:Env:=BA Tryz.prog [0,1,100,4] [74,68,77,103,100,120,123,122,149,8] [74,68,77] [(65,2)] (λf=>beq f 100) λf az=>if beq f 4 then(if az.isEmpty then some (.bool true)else none)else none
def TQ:zA Tryz.prog=true:=by kernel_rfl
def T7:uP Tryz.prog 65 2:=uP.two (i:=3) Tryz.underlying65 rfl rfl rfl rfl (by decide) (by decide) (by kernel_rfl) Tryz.underlying3 (by kernel_rfl) (by kernel_rfl)
def Sm:∀p∈[(65,2)],uP Tryz.prog p.1 p.2:=by intro t h;simp only[List.mem_singleton]at h;subst h;exact T7
def Sn:eG Tryz.prog EA:=Fv TQ Sm
def Tc:eG Tryz.prog E:=Fv TQ Sm
def mixed:Tryz.prog.follows .mixedOrders=true:=by kernel_rfl
open Go.Shelf
def Tryz.xP:Go.Shelf.Ren:=⟨λ|6=>100|15=>138|14=>137|28=>166|29=>167|20=>158|21=>159|22=>160|23=>161|24=>162|25=>163|26=>164|27=>165|46=>178|47=>179|48=>180|49=>181|50=>182|57=>188|n=>n,λ|22=>28|24=>37|25=>146|3=>3|39=>176|0=>0|53=>201|55=>203|4=>4|46=>194|45=>193|50=>198|5=>5|9=>9|66=>211|70=>215|76=>220|77=>221|n=>n,λ|n=>n⟩
def Tryz.Og:Go.Proofs.SlLaysF.n6 Tryz.prog Tryz.xP:={
 mixed:=by kernel_rfl
 f6:=⟨Tryz.f100.name,by decide,Tryz.func100.trans (congrArg some (by kernel_rfl))⟩
 f14:=⟨Tryz.f137.name,by decide,Tryz.func137.trans (congrArg some (by kernel_rfl))⟩
 f15:=Tryz.func138.trans (congrArg some (by kernel_rfl))
 f20:=⟨Tryz.f158.name,by decide,Tryz.func158.trans (congrArg some (by kernel_rfl))⟩
 f21:=⟨Tryz.f159.name,by decide,Tryz.func159.trans (congrArg some (by kernel_rfl))⟩
 f22:=⟨Tryz.f160.name,by decide,Tryz.func160.trans (congrArg some (by kernel_rfl))⟩
 f23:=⟨Tryz.f161.name,by decide,Tryz.func161.trans (congrArg some (by kernel_rfl))⟩
 f24:=⟨Tryz.f162.name,by decide,Tryz.func162.trans (congrArg some (by kernel_rfl))⟩
 f25:=⟨Tryz.f163.name,by decide,Tryz.func163.trans (congrArg some (by kernel_rfl))⟩
 f26:=⟨Tryz.f164.name,by decide,Tryz.func164.trans (congrArg some (by kernel_rfl))⟩
 f27:=⟨Tryz.f165.name,by decide,Tryz.func165.trans (congrArg some (by kernel_rfl))⟩
 f28:=Tryz.func166.trans (congrArg some (by kernel_rfl))
 f29:=Tryz.func167.trans (congrArg some (by kernel_rfl))
 f46:=⟨Tryz.f178.name,by decide,Tryz.func178.trans (congrArg some (by kernel_rfl))⟩
 f47:=Tryz.func179.trans (congrArg some (by kernel_rfl))
 f48:=Tryz.func180.trans (congrArg some (by kernel_rfl))
 f49:=⟨Tryz.f181.name,by decide,Tryz.func181.trans (congrArg some (by kernel_rfl))⟩
 f50:=⟨Tryz.f182.name,by decide,Tryz.func182.trans (congrArg some (by kernel_rfl))⟩
 f57:=⟨Tryz.f188.name,by decide,Tryz.func188.trans (congrArg some (by kernel_rfl))⟩
 t0:=Tryz.underlying0
 a0:=Tryz.isAgg0
 z0:=Tryz.sizeOf0
 v0:=Tryz.zeroValue0
 t3:=Tryz.underlying3
 a3:=Tryz.isAgg3
 z3:=Tryz.sizeOf3
 v3:=Tryz.zeroValue3
 t4:=Tryz.underlying4
 a4:=Tryz.isAgg4
 z4:=Tryz.sizeOf4
 v4:=Tryz.zeroValue4
 t5:=Tryz.underlying5
 a5:=Tryz.isAgg5
 z5:=Tryz.sizeOf5
 v5:=Tryz.zeroValue5
 t9:=Tryz.underlying9
 a9:=Tryz.isAgg9
 z9:=Tryz.sizeOf9
 v9:=Tryz.zeroValue9
 t22:=Tryz.underlying28
 a22:=Tryz.isAgg28
 z22:=Tryz.sizeOf28
 v22:=Tryz.zeroValue28
 a24:=Tryz.isAgg37
 z24:=Tryz.sizeOf37
 t25:=Tryz.underlying146
 a25:=Tryz.isAgg146
 z25:=Tryz.sizeOf146
 v25:=Tryz.zeroValue146
 t39:=Tryz.underlying176
 a39:=Tryz.isAgg176
 z39:=Tryz.sizeOf176
 v39:=Tryz.zeroValue176
 t45:=Tryz.underlying193
 a45:=Tryz.isAgg193
 z45:=Tryz.sizeOf193
 v45:=Tryz.zeroValue193
 t46:=Tryz.underlying194
 a46:=Tryz.isAgg194
 z46:=Tryz.sizeOf194
 v46:=Tryz.zeroValue194
 t50:=Tryz.underlying198
 a50:=Tryz.isAgg198
 z50:=Tryz.sizeOf198
 v50:=Tryz.zeroValue198
 t53:=Tryz.underlying201
 a53:=Tryz.isAgg201
 z53:=Tryz.sizeOf201
 v53:=Tryz.zeroValue201
 t55:=Tryz.underlying203
 a55:=Tryz.isAgg203
 z55:=Tryz.sizeOf203
 v55:=Tryz.zeroValue203
 t66:=Tryz.underlying211
 a66:=Tryz.isAgg211
 z66:=Tryz.sizeOf211
 v66:=Tryz.zeroValue211
 t70:=Tryz.underlying215
 a70:=Tryz.isAgg215
 z70:=Tryz.sizeOf215
 v70:=Tryz.zeroValue215
 t76:=Tryz.underlying220
 a76:=Tryz.isAgg220
 z76:=Tryz.sizeOf220
 v76:=Tryz.zeroValue220
 t77:=Tryz.underlying221
 a77:=Tryz.isAgg221
 z77:=Tryz.sizeOf221
 v77:=Tryz.zeroValue221}
def PI:zN Tryz.prog 100 where
 ok:=⟨Tryz.f100,Tryz.func100,by kernel_rfl,by kernel_rfl⟩
 zero:=λp a u w=>AnyF.slices_SortFunc_none (ρ:=Tryz.xP) {Tryz.Og with} p a u w
 all:=λenc c cf z g cb b off a d w B e C D G=>Any.slices_SortFunc_eq (ρ:=Tryz.xP) Tryz.Og enc c cf z g cb b off a d w B e C D G
def OE:∀f,EA.sort f=true->zN Tryz.prog f:=λf h=>by have:f=100:=Nat.eq_of_beq_eq_true h;subst this;exact PI
def K1:∀f az y,EA.known f az=some y->AY Tryz.prog f az y:=λf az y h=>by cases h
def Re(n:Nat):j9 Tryz.prog (run EA n):=C6 Sn mixed ⟨OE,K1⟩ n
end Go.Proofs.YtfgojpmjdgnieaaGreatDoor
namespace Go.Proofs.YtfgojpmjdgnieaaGreatDoor
open Go.VE Go.Proofs
def a0:V:=.agg [.fsl 3 [[.str (ByteArray.mk #[112]),.bL,.fsl 5 [[.int .i64 1,.int .i64 0,.int .i64 0,.int .i64 0,.bL]]],[.str (ByteArray.mk #[113]),.bL,.fsl 5 [[.int .i64 1,.int .i64 0,.int .i64 0,.int .i64 0,.bL]]]]]
def a1:V:=.fsl 1 [[.int .i64 1],[.int .i64 1]]
def a2:V:=.agg [.int .i64 16,.int .i64 0,.int .i64 0,.int .i64 0,.str ByteArray.empty,.fsl 6 [[.int .i64 9,.int .i64 0,.int .i64 0,.int .i64 0,.str ByteArray.empty,.fsl 6 [[.int .i64 3,.int .i64 0,.int .i64 0,.int .i64 0,.str ByteArray.empty,.bL],[.int .i64 1,.int .i64 1,.int .i64 0,.int .i64 0,.str ByteArray.empty,.bL]]],[.int .i64 9,.int .i64 0,.int .i64 0,.int .i64 0,.str ByteArray.empty,.fsl 6 [[.int .i64 3,.int .i64 0,.int .i64 1,.int .i64 0,.str ByteArray.empty,.bL],[.int .i64 1,.int .i64 0,.int .i64 0,.int .i64 0,.str ByteArray.empty,.bL]]]]]
def k0:eZ:=⟨79,[a0,.int .i64 1],.int .i64 0⟩
def SN:fU EA k0:=gH (n:=100) (l:=[]) Zc (by kernel_rfl)
def k1:eZ:=⟨57,[a0],.tup [.agg [.int .i64 0,.int .i64 0],.int .i64 0]⟩
def zj:fU EA k1:=gH (n:=100) (l:=[k0]) (by simp only[forall_mem_cons];exact⟨SN,Zc⟩) (by kernel_rfl)
def k2:eZ:=⟨92,[.agg [.int .i64 9,.int .i64 0,.int .i64 0,.int .i64 0,.str ByteArray.empty,.fsl 6 [[.int .i64 3,.int .i64 0,.int .i64 0,.int .i64 0,.str ByteArray.empty,.bL],[.int .i64 1,.int .i64 1,.int .i64 0,.int .i64 0,.str ByteArray.empty,.bL]]],.clo 127 [] []],.bool true⟩
def BK:fU EA k2:=gH (n:=100) (l:=[]) Zc (by kernel_rfl)
def k3:eZ:=⟨92,[.agg [.int .i64 9,.int .i64 0,.int .i64 0,.int .i64 0,.str ByteArray.empty,.fsl 6 [[.int .i64 3,.int .i64 0,.int .i64 1,.int .i64 0,.str ByteArray.empty,.bL],[.int .i64 1,.int .i64 0,.int .i64 0,.int .i64 0,.str ByteArray.empty,.bL]]],.clo 127 [] []],.bool true⟩
def BU:fU EA k3:=gH (n:=100) (l:=[]) Zc (by kernel_rfl)
def k4:eZ:=⟨168,[.int .i64 1],.bool false⟩
def Oh:fU EA k4:=gH (n:=100) (l:=[]) Zc (by kernel_rfl)
def k5:eZ:=⟨139,[.int .i64 1,.int .i64 1],.int .i64 0⟩
def On:fU EA k5:=gH (n:=100) (l:=[k4]) (by simp only[forall_mem_cons];exact⟨Oh,Zc⟩) (by kernel_rfl)
def k6:eZ:=⟨168,[.int .i64 0],.bool false⟩
def OQ:fU EA k6:=gH (n:=100) (l:=[]) Zc (by kernel_rfl)
def k7:eZ:=⟨139,[.int .i64 0,.int .i64 0],.int .i64 0⟩
def Tf:fU EA k7:=gH (n:=100) (l:=[k6]) (by simp only[forall_mem_cons];exact⟨OQ,Zc⟩) (by kernel_rfl)
def k8:eZ:=⟨76,[.agg [.fsl 1 [[.int .i64 1],[.int .i64 1]],.fsl 1 [[.fsl 2 [[.int .i64 0,.int .i64 0]]],[.fsl 2 [[.int .i64 0,.int .i64 0]]]]],.fsl 1 [[.fsl 1 [[.int .i64 0],[.int .i64 0]]]]],.fsl 1 [[.fsl 1 [[.int .i64 0],[.int .i64 1]]],[.fsl 1 [[.int .i64 1],[.int .i64 0]]]]⟩
def SR:fU EA k8:=gH (n:=100) (l:=[k5,k7,k4,k6]) (by simp only[forall_mem_cons];exact⟨On,Tf,Oh,OQ,Zc⟩) (by kernel_rfl)
def k9:eZ:=⟨102,[a1,a1],.int .i64 0⟩
def Td:fU EA k9:=gH (n:=100) (l:=[k5]) (by simp only[forall_mem_cons];exact⟨On,Zc⟩) (by kernel_rfl)
def T4:eZ:=⟨101,[a1,a1],.int .i64 0⟩
def RJ:fU EA T4:=gH (n:=100) (l:=[k9]) (by simp only[forall_mem_cons];exact⟨Td,Zc⟩) (by kernel_rfl)
def Rb:eZ:=⟨55,[a0],.tup [.fsl 1 [[.fsl 1 [[.fsl 1 [[.int .i64 0],[.int .i64 0]]]]],[.fsl 1 [[.fsl 1 [[.int .i64 0],[.int .i64 1]]],[.fsl 1 [[.int .i64 1],[.int .i64 0]]]]],[.fsl 1 [[.fsl 1 [[.int .i64 1],[.int .i64 1]]]]]],.int .i64 0]⟩
def Lx:fU EA Rb:=gH (n:=100) (l:=[k1,k8,T4]) (by simp only[forall_mem_cons];exact⟨zj,SR,RJ,Zc⟩) (by kernel_rfl)
def R4:eZ:=⟨31,[a0],.tup [.fptr [.fsl 3 [[.str (ByteArray.mk #[112]),.bL,.fsl 5 [[.int .i64 1,.int .i64 0,.int .i64 0,.int .i64 0,.bL]]],[.str (ByteArray.mk #[113]),.bL,.fsl 5 [[.int .i64 1,.int .i64 0,.int .i64 0,.int .i64 0,.bL]]]],.fsl 1 [[.fsl 1 [[.int .i64 0],[.int .i64 0]]],[.fsl 1 [[.int .i64 0],[.int .i64 1]]],[.fsl 1 [[.int .i64 1],[.int .i64 0]]],[.fsl 1 [[.int .i64 1],[.int .i64 1]]]],.fsl 1 [[.fsl 1 [[.int .i64 2],[.int .i64 1]]],[.fsl 1 [[.int .i64 3]]],[.fsl 1 [[.int .i64 3]]],[.bL]]],.int .i64 0]⟩
def K5:fU EA R4:=gH (n:=100) (l:=[Rb,k1]) (by simp only[forall_mem_cons];exact⟨Lx,zj,Zc⟩) (by kernel_rfl)
def La:eZ:=⟨87,[a2],.bool true⟩
def B3:fU EA La:=gH (n:=100) (l:=[]) Zc (by kernel_rfl)
def TV:eZ:=⟨64,[a0,a2],.int .i64 0⟩
def Rq:fU EA TV:=gH (n:=100) (l:=[k1,La,k2,k3]) (by simp only[forall_mem_cons];exact⟨zj,B3,BK,BU,Zc⟩) (by kernel_rfl)
def RN:eZ:=⟨95,[a0,a2],.tup [.fsl 1 [[.fsl 1 [[.int .i64 0],[.int .i64 0]]],[.fsl 1 [[.int .i64 0],[.int .i64 1]]],[.fsl 1 [[.int .i64 1],[.int .i64 0]]],[.fsl 1 [[.int .i64 1],[.int .i64 1]]]],.fsl 1 [[.bool false],[.bool false],[.bool true],[.bool false]],.int .i64 0]⟩
def LH:fU EA RN:=gH (n:=100) (l:=[TV,La,k2,k3,Rb,k1]) (by simp only[forall_mem_cons];exact⟨Rq,B3,BK,BU,Lx,zj,Zc⟩) (by kernel_rfl)
def TN:eZ:=⟨42,[a0,.agg [.int .i64 18,.int .i64 0,.int .i64 0,.int .i64 0,.str ByteArray.empty,.fsl 6 [[.int .i64 16,.int .i64 0,.int .i64 0,.int .i64 0,.str ByteArray.empty,.fsl 6 [[.int .i64 9,.int .i64 0,.int .i64 0,.int .i64 0,.str ByteArray.empty,.fsl 6 [[.int .i64 3,.int .i64 0,.int .i64 0,.int .i64 0,.str ByteArray.empty,.bL],[.int .i64 1,.int .i64 1,.int .i64 0,.int .i64 0,.str ByteArray.empty,.bL]]],[.int .i64 9,.int .i64 0,.int .i64 0,.int .i64 0,.str ByteArray.empty,.fsl 6 [[.int .i64 3,.int .i64 0,.int .i64 1,.int .i64 0,.str ByteArray.empty,.bL],[.int .i64 1,.int .i64 0,.int .i64 0,.int .i64 0,.str ByteArray.empty,.bL]]]]]]]],.tup [.fsl 1 [[.bool true],[.bool false],[.bool true],[.bool false]],.int .i64 0]⟩
def Sv:fU EA TN:=gH (n:=100) (l:=[k1,k2,k3,R4,La,RN]) (by simp only[forall_mem_cons];exact⟨zj,BK,BU,K5,B3,LH,Zc⟩) (by kernel_rfl)
def TS:eZ:=⟨64,[a0,.agg [.int .i64 19,.int .i64 0,.int .i64 0,.int .i64 0,.str ByteArray.empty,.fsl 6 [[.int .i64 16,.int .i64 0,.int .i64 0,.int .i64 0,.str ByteArray.empty,.fsl 6 [[.int .i64 9,.int .i64 0,.int .i64 0,.int .i64 0,.str ByteArray.empty,.fsl 6 [[.int .i64 3,.int .i64 0,.int .i64 0,.int .i64 0,.str ByteArray.empty,.bL],[.int .i64 1,.int .i64 1,.int .i64 0,.int .i64 0,.str ByteArray.empty,.bL]]],[.int .i64 9,.int .i64 0,.int .i64 0,.int .i64 0,.str ByteArray.empty,.fsl 6 [[.int .i64 3,.int .i64 0,.int .i64 1,.int .i64 0,.str ByteArray.empty,.bL],[.int .i64 1,.int .i64 0,.int .i64 0,.int .i64 0,.str ByteArray.empty,.bL]]]]]]]],.int .i64 0⟩
def Su:fU EA TS:=gH (n:=100) (l:=[k1,k2,k3]) (by simp only[forall_mem_cons];exact⟨zj,BK,BU,Zc⟩) (by kernel_rfl)
def JW:∃n H1,run EA n (.fn 4) [] []=some (.bool true,H1):=IN (n:=100) (l:=[TN,TS,k2,k3,R4,La,RN]) (by simp only[forall_mem_cons];exact⟨Sv,Su,BK,BU,K5,B3,LH,Zc⟩) (by kernel_rfl)
def calls(n:Nat):j9 Tryz.prog (run E n):=C6 Tc mixed ⟨OE,λf az b h=>by
 by_cases u:beq f 4=true
 .have e:E.known f az=if az.isEmpty then some (.bool true)else none:=by unfold E BA;simp only[u,if_true]
  rw[e]at h;split at h
  next w=>cases h;have:f=4:=Nat.eq_of_beq_eq_true u;subst this;have:az=[]:=List.isEmpty_iff.1 w;subst this;have⟨n,H1,a⟩:=JW;exact K3 (Re n) a
  cases h
 have e:E.known f az=EA.known f az:=by unfold E EA BA;simp only[u,if_false,Bool.false_eq_true]
 rw[e]at h;exact K1 f az b h⟩ n
end Go.Proofs.YtfgojpmjdgnieaaGreatDoor
