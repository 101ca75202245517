/- Tables; awake. -/
import Derived.Test.YtgaepcmcohmibaaGreatDoorProg
import Derived.KernelRfl
import Derived.Test.YtgaepcmcohmibaaGreatDoorV2
set_option linter.all false
open Nat(beq)
open List(forall_mem_cons)
namespace Go.Proofs.YtgaepcmcohmibaaGreatDoor
open Go.VE Go.Proofs
def Et:Zx:=[-1,0,0,0,0,1,2,2,2,2,2,2,2,0,0,1,2,2,1,1,1,1]
instance:bL:=⟨λg=>if beq g 0 then some (Et.map (V.int .i64))else none,λg u h=>by
 split at h
 .cases h;exact⟨_,_,rfl⟩
 cases h⟩
noncomputable def EA:Env:=BU Tryz.prog [0,1,154] [109,56,136,157,154,113,116,115,144] [109,56,136] [(84,2)] (λf=>beq f 154) λf az=>none
noncomputable def E:Env:=BU Tryz.prog [0,1,154,4] [109,56,136,157,154,113,116,115,144] [109,56,136] [(84,2)] (λf=>beq f 154) λf az=>if beq f 4 then(if az.isEmpty then some (.bool true)else none)else none
def Uq:zk Tryz.prog=true:=by kernel_rfl
def UR:uA Tryz.prog 84 2:=uA.two (i:=3) Tryz.underlying84 rfl rfl rfl rfl (by decide) (by decide) (by kernel_rfl) Tryz.underlying3 (by kernel_rfl) (by kernel_rfl)
def Sq:∀p∈[(84,2)],uA Tryz.prog p.1 p.2:=by intro t h;simp only[List.mem_singleton]at h;subst h;exact UR
def SD:dV Tryz.prog EA:=Ff Uq Sq
def T_:dV Tryz.prog E:=Ff Uq Sq
def mixed:Tryz.prog.follows .mixedOrders=true:=by kernel_rfl
open Go.Shelf
def Tryz.x8:Go.Shelf.Ren:=⟨λ|6=>154|15=>170|14=>169|28=>185|29=>186|20=>177|21=>178|22=>179|23=>180|24=>181|25=>182|26=>183|27=>184|46=>190|47=>191|48=>192|49=>193|50=>194|57=>196|n=>n,λ|22=>44|24=>48|25=>196|3=>3|39=>206|0=>0|53=>219|55=>221|4=>4|46=>212|45=>211|50=>216|5=>5|9=>9|66=>223|70=>227|76=>229|77=>230|n=>n,λ|n=>n⟩
def Tryz.Py:Go.Proofs.SlLaysF.n6 Tryz.prog Tryz.x8:={
 mixed:=by kernel_rfl
 f6:=⟨Tryz.f154.name,by decide,Tryz.func154.trans (congrArg some (by kernel_rfl))⟩
 f14:=⟨Tryz.f169.name,by decide,Tryz.func169.trans (congrArg some (by kernel_rfl))⟩
 f15:=Tryz.func170.trans (congrArg some (by kernel_rfl))
 f20:=⟨Tryz.f177.name,by decide,Tryz.func177.trans (congrArg some (by kernel_rfl))⟩
 f21:=⟨Tryz.f178.name,by decide,Tryz.func178.trans (congrArg some (by kernel_rfl))⟩
 f22:=⟨Tryz.f179.name,by decide,Tryz.func179.trans (congrArg some (by kernel_rfl))⟩
 f23:=⟨Tryz.f180.name,by decide,Tryz.func180.trans (congrArg some (by kernel_rfl))⟩
 f24:=⟨Tryz.f181.name,by decide,Tryz.func181.trans (congrArg some (by kernel_rfl))⟩
 f25:=⟨Tryz.f182.name,by decide,Tryz.func182.trans (congrArg some (by kernel_rfl))⟩
 f26:=⟨Tryz.f183.name,by decide,Tryz.func183.trans (congrArg some (by kernel_rfl))⟩
 f27:=⟨Tryz.f184.name,by decide,Tryz.func184.trans (congrArg some (by kernel_rfl))⟩
 f28:=Tryz.func185.trans (congrArg some (by kernel_rfl))
 f29:=Tryz.func186.trans (congrArg some (by kernel_rfl))
 f46:=⟨Tryz.f190.name,by decide,Tryz.func190.trans (congrArg some (by kernel_rfl))⟩
 f47:=Tryz.func191.trans (congrArg some (by kernel_rfl))
 f48:=Tryz.func192.trans (congrArg some (by kernel_rfl))
 f49:=⟨Tryz.f193.name,by decide,Tryz.func193.trans (congrArg some (by kernel_rfl))⟩
 f50:=⟨Tryz.f194.name,by decide,Tryz.func194.trans (congrArg some (by kernel_rfl))⟩
 f57:=⟨Tryz.f196.name,by decide,Tryz.func196.trans (congrArg some (by kernel_rfl))⟩
 t0:=Tryz.underlying0
 a0:=Tryz.isAgg0
 z0:=Tryz.sizeOf0
 v0:=Tryz.zeroValue0
 t3:=Tryz.underlying3
 a3:=Tryz.isAgg3
 z3:=Tryz.sizeOf3
 v3:=Tryz.zeroValue3
 t4:=Tryz.underlying4
 a4:=Tryz.isAgg4
 z4:=Tryz.sizeOf4
 v4:=Tryz.zeroValue4
 t5:=Tryz.underlying5
 a5:=Tryz.isAgg5
 z5:=Tryz.sizeOf5
 v5:=Tryz.zeroValue5
 t9:=Tryz.underlying9
 a9:=Tryz.isAgg9
 z9:=Tryz.sizeOf9
 v9:=Tryz.zeroValue9
 t22:=Tryz.underlying44
 a22:=Tryz.isAgg44
 z22:=Tryz.sizeOf44
 v22:=Tryz.zeroValue44
 a24:=Tryz.isAgg48
 z24:=Tryz.sizeOf48
 t25:=Tryz.underlying196
 a25:=Tryz.isAgg196
 z25:=Tryz.sizeOf196
 v25:=Tryz.zeroValue196
 t39:=Tryz.underlying206
 a39:=Tryz.isAgg206
 z39:=Tryz.sizeOf206
 v39:=Tryz.zeroValue206
 t45:=Tryz.underlying211
 a45:=Tryz.isAgg211
 z45:=Tryz.sizeOf211
 v45:=Tryz.zeroValue211
 t46:=Tryz.underlying212
 a46:=Tryz.isAgg212
 z46:=Tryz.sizeOf212
 v46:=Tryz.zeroValue212
 t50:=Tryz.underlying216
 a50:=Tryz.isAgg216
 z50:=Tryz.sizeOf216
 v50:=Tryz.zeroValue216
 t53:=Tryz.underlying219
 a53:=Tryz.isAgg219
 z53:=Tryz.sizeOf219
 v53:=Tryz.zeroValue219
 t55:=Tryz.underlying221
 a55:=Tryz.isAgg221
 z55:=Tryz.sizeOf221
 v55:=Tryz.zeroValue221
 t66:=Tryz.underlying223
 a66:=Tryz.isAgg223
 z66:=Tryz.sizeOf223
 v66:=Tryz.zeroValue223
 t70:=Tryz.underlying227
 a70:=Tryz.isAgg227
 z70:=Tryz.sizeOf227
 v70:=Tryz.zeroValue227
 t76:=Tryz.underlying229
 a76:=Tryz.isAgg229
 z76:=Tryz.sizeOf229
 v76:=Tryz.zeroValue229
 t77:=Tryz.underlying230
 a77:=Tryz.isAgg230
 z77:=Tryz.sizeOf230
 v77:=Tryz.zeroValue230}
def QC:yV Tryz.prog 154 where
 ok:=⟨Tryz.f154,Tryz.func154,by kernel_rfl,by kernel_rfl⟩
 zero:=λp a u w=>AnyF.slices_SortFunc_none (ρ:=Tryz.x8) {Tryz.Py with} p a u w
 all:=λenc c cf z g cb b off a d w B e C D G=>Any.slices_SortFunc_eq (ρ:=Tryz.x8) Tryz.Py enc c cf z g cb b off a d w B e C D G
def O9:∀f,EA.sort f=true->yV Tryz.prog f:=λf h=>by have:f=154:=Nat.eq_of_beq_eq_true h;subst this;exact QC
def KY:∀f az y,EA.known f az=some y->Au Tryz.prog f az y:=λf az y h=>by cases h
def Tg(n:Nat):jW Tryz.prog (run EA n):=D7 SD mixed ⟨O9,KY⟩ n
end Go.Proofs.YtgaepcmcohmibaaGreatDoor
namespace Go.Proofs.YtgaepcmcohmibaaGreatDoor
open Go.VE Go.Proofs
def a0:V:=.agg [.fsl 3 [[.str (ByteArray.mk #[112]),.bD,.fsl 5 [[.int .i64 1,.int .i64 0,.int .i64 0,.int .i64 0,.bD]]],[.str (ByteArray.mk #[113]),.bD,.fsl 5 [[.int .i64 1,.int .i64 0,.int .i64 0,.int .i64 0,.bD]]]]]
def a1:V:=.fsl 1 [[.int .i64 1],[.int .i64 1]]
def a2:V:=.agg [.int .i64 16,.int .i64 0,.int .i64 0,.int .i64 0,.str ByteArray.empty,.fsl 6 [[.int .i64 9,.int .i64 0,.int .i64 0,.int .i64 0,.str ByteArray.empty,.fsl 6 [[.int .i64 3,.int .i64 0,.int .i64 0,.int .i64 0,.str ByteArray.empty,.bD],[.int .i64 1,.int .i64 1,.int .i64 0,.int .i64 0,.str ByteArray.empty,.bD]]],[.int .i64 9,.int .i64 0,.int .i64 0,.int .i64 0,.str ByteArray.empty,.fsl 6 [[.int .i64 3,.int .i64 0,.int .i64 1,.int .i64 0,.str ByteArray.empty,.bD],[.int .i64 1,.int .i64 0,.int .i64 0,.int .i64 0,.str ByteArray.empty,.bD]]]]]
def k0:eP:=⟨60,[a0,.int .i64 1],.int .i64 0⟩
def Uh:fN EA k0:=gH (n:=100) (l:=[]) Zc (by kernel_rfl)
def k1:eP:=⟨41,[a0],.tup [.agg [.int .i64 0,.int .i64 0],.int .i64 0]⟩
def ze:fN EA k1:=gH (n:=100) (l:=[k0]) (by simp only[forall_mem_cons];exact⟨Uh,Zc⟩) (by kernel_rfl)
def k2:eP:=⟨84,[.agg [.int .i64 9,.int .i64 0,.int .i64 0,.int .i64 0,.str ByteArray.empty,.fsl 6 [[.int .i64 3,.int .i64 0,.int .i64 0,.int .i64 0,.str ByteArray.empty,.bD],[.int .i64 1,.int .i64 1,.int .i64 0,.int .i64 0,.str ByteArray.empty,.bD]]],.clo 120 [] []],.bool true⟩
def B4:fN EA k2:=gH (n:=100) (l:=[]) Zc (by kernel_rfl)
def k3:eP:=⟨84,[.agg [.int .i64 9,.int .i64 0,.int .i64 0,.int .i64 0,.str ByteArray.empty,.fsl 6 [[.int .i64 3,.int .i64 0,.int .i64 1,.int .i64 0,.str ByteArray.empty,.bD],[.int .i64 1,.int .i64 0,.int .i64 0,.int .i64 0,.str ByteArray.empty,.bD]]],.clo 120 [] []],.bool true⟩
def BH:fN EA k3:=gH (n:=100) (l:=[]) Zc (by kernel_rfl)
def k4:eP:=⟨187,[.int .i64 1],.bool false⟩
def Ph:fN EA k4:=gH (n:=100) (l:=[]) Zc (by kernel_rfl)
def k5:eP:=⟨171,[.int .i64 1,.int .i64 1],.int .i64 0⟩
def O5:fN EA k5:=gH (n:=100) (l:=[k4]) (by simp only[forall_mem_cons];exact⟨Ph,Zc⟩) (by kernel_rfl)
def k6:eP:=⟨187,[.int .i64 0],.bool false⟩
def OY:fN EA k6:=gH (n:=100) (l:=[]) Zc (by kernel_rfl)
def k7:eP:=⟨171,[.int .i64 0,.int .i64 0],.int .i64 0⟩
def TJ:fN EA k7:=gH (n:=100) (l:=[k6]) (by simp only[forall_mem_cons];exact⟨OY,Zc⟩) (by kernel_rfl)
def k8:eP:=⟨135,[.agg [.fsl 1 [[.int .i64 1],[.int .i64 1]],.fsl 1 [[.fsl 2 [[.int .i64 0,.int .i64 0]]],[.fsl 2 [[.int .i64 0,.int .i64 0]]]]],.fsl 1 [[.fsl 1 [[.int .i64 0],[.int .i64 0]]]]],.fsl 1 [[.fsl 1 [[.int .i64 0],[.int .i64 1]]],[.fsl 1 [[.int .i64 1],[.int .i64 0]]]]⟩
def T6:fN EA k8:=gH (n:=100) (l:=[k5,k7,k4,k6]) (by simp only[forall_mem_cons];exact⟨O5,TJ,Ph,OY,Zc⟩) (by kernel_rfl)
def k9:eP:=⟨156,[a1,a1],.int .i64 0⟩
def TL:fN EA k9:=gH (n:=100) (l:=[k5]) (by simp only[forall_mem_cons];exact⟨O5,Zc⟩) (by kernel_rfl)
def Ux:eP:=⟨155,[a1,a1],.int .i64 0⟩
def Si:fN EA Ux:=gH (n:=100) (l:=[k9]) (by simp only[forall_mem_cons];exact⟨TL,Zc⟩) (by kernel_rfl)
def SM:eP:=⟨98,[a0],.tup [.fsl 1 [[.fsl 1 [[.fsl 1 [[.int .i64 0],[.int .i64 0]]]]],[.fsl 1 [[.fsl 1 [[.int .i64 0],[.int .i64 1]]],[.fsl 1 [[.int .i64 1],[.int .i64 0]]]]],[.fsl 1 [[.fsl 1 [[.int .i64 1],[.int .i64 1]]]]]],.int .i64 0]⟩
def LY:fN EA SM:=gH (n:=100) (l:=[k1,k8,Ux]) (by simp only[forall_mem_cons];exact⟨ze,T6,Si,Zc⟩) (by kernel_rfl)
def R8:eP:=⟨21,[a0],.tup [.fptr [.fsl 3 [[.str (ByteArray.mk #[112]),.bD,.fsl 5 [[.int .i64 1,.int .i64 0,.int .i64 0,.int .i64 0,.bD]]],[.str (ByteArray.mk #[113]),.bD,.fsl 5 [[.int .i64 1,.int .i64 0,.int .i64 0,.int .i64 0,.bD]]]],.fsl 1 [[.fsl 1 [[.int .i64 0],[.int .i64 0]]],[.fsl 1 [[.int .i64 0],[.int .i64 1]]],[.fsl 1 [[.int .i64 1],[.int .i64 0]]],[.fsl 1 [[.int .i64 1],[.int .i64 1]]]],.fsl 1 [[.fsl 1 [[.int .i64 2],[.int .i64 1]]],[.fsl 1 [[.int .i64 3]]],[.fsl 1 [[.int .i64 3]]],[.bD]]],.int .i64 0]⟩
def Mm:fN EA R8:=gH (n:=100) (l:=[SM,k1]) (by simp only[forall_mem_cons];exact⟨LY,ze,Zc⟩) (by kernel_rfl)
def Lg:eP:=⟨79,[a2],.bool true⟩
def A8:fN EA Lg:=gH (n:=100) (l:=[]) Zc (by kernel_rfl)
def Ut:eP:=⟨52,[a0,a2],.int .i64 0⟩
def Tl:fN EA Ut:=gH (n:=100) (l:=[k1,Lg,k2,k3]) (by simp only[forall_mem_cons];exact⟨ze,A8,B4,BH,Zc⟩) (by kernel_rfl)
def SL:eP:=⟨87,[a0,a2],.tup [.fsl 1 [[.fsl 1 [[.int .i64 0],[.int .i64 0]]],[.fsl 1 [[.int .i64 0],[.int .i64 1]]],[.fsl 1 [[.int .i64 1],[.int .i64 0]]],[.fsl 1 [[.int .i64 1],[.int .i64 1]]]],.fsl 1 [[.bool false],[.bool false],[.bool true],[.bool false]],.int .i64 0]⟩
def K_:fN EA SL:=gH (n:=100) (l:=[Ut,Lg,k2,k3,SM,k1]) (by simp only[forall_mem_cons];exact⟨Tl,A8,B4,BH,LY,ze,Zc⟩) (by kernel_rfl)
def BI:eP:=⟨33,[a0,.agg [.int .i64 18,.int .i64 0,.int .i64 0,.int .i64 0,.str ByteArray.empty,.fsl 6 [[.int .i64 16,.int .i64 0,.int .i64 0,.int .i64 0,.str ByteArray.empty,.fsl 6 [[.int .i64 9,.int .i64 0,.int .i64 0,.int .i64 0,.str ByteArray.empty,.fsl 6 [[.int .i64 3,.int .i64 0,.int .i64 0,.int .i64 0,.str ByteArray.empty,.bD],[.int .i64 1,.int .i64 1,.int .i64 0,.int .i64 0,.str ByteArray.empty,.bD]]],[.int .i64 9,.int .i64 0,.int .i64 0,.int .i64 0,.str ByteArray.empty,.fsl 6 [[.int .i64 3,.int .i64 0,.int .i64 1,.int .i64 0,.str ByteArray.empty,.bD],[.int .i64 1,.int .i64 0,.int .i64 0,.int .i64 0,.str ByteArray.empty,.bD]]]]]]]],.tup [.fsl 1 [[.bool true],[.bool false],[.bool true],[.bool false]],.int .i64 0]⟩
def Sw:fN EA BI:=gH (n:=100) (l:=[k1,k2,k3,R8,Lg,SL]) (by simp only[forall_mem_cons];exact⟨ze,B4,BH,Mm,A8,K_,Zc⟩) (by kernel_rfl)
def UF:eP:=⟨52,[a0,.agg [.int .i64 19,.int .i64 0,.int .i64 0,.int .i64 0,.str ByteArray.empty,.fsl 6 [[.int .i64 16,.int .i64 0,.int .i64 0,.int .i64 0,.str ByteArray.empty,.fsl 6 [[.int .i64 9,.int .i64 0,.int .i64 0,.int .i64 0,.str ByteArray.empty,.fsl 6 [[.int .i64 3,.int .i64 0,.int .i64 0,.int .i64 0,.str ByteArray.empty,.bD],[.int .i64 1,.int .i64 1,.int .i64 0,.int .i64 0,.str ByteArray.empty,.bD]]],[.int .i64 9,.int .i64 0,.int .i64 0,.int .i64 0,.str ByteArray.empty,.fsl 6 [[.int .i64 3,.int .i64 0,.int .i64 1,.int .i64 0,.str ByteArray.empty,.bD],[.int .i64 1,.int .i64 0,.int .i64 0,.int .i64 0,.str ByteArray.empty,.bD]]]]]]]],.int .i64 0⟩
def Sx:fN EA UF:=gH (n:=100) (l:=[k1,k2,k3]) (by simp only[forall_mem_cons];exact⟨ze,B4,BH,Zc⟩) (by kernel_rfl)
def Kp:∃n H1,run EA n (.fn 4) [] []=some (.bool true,H1):=Ji (n:=100) (l:=[BI,UF,k2,k3,R8,Lg,SL]) (by simp only[forall_mem_cons];exact⟨Sw,Sx,B4,BH,Mm,A8,K_,Zc⟩) (by kernel_rfl)
def calls(n:Nat):jW Tryz.prog (run E n):=D7 T_ mixed ⟨O9,λf az b h=>by
 by_cases u:beq f 4=true
 .have e:E.known f az=if az.isEmpty then some (.bool true)else none:=by unfold E BU;simp only[u,if_true]
  rw[e]at h;split at h
  next w=>cases h;have:f=4:=Nat.eq_of_beq_eq_true u;subst this;have:az=[]:=List.isEmpty_iff.1 w;subst this;have⟨n,H1,a⟩:=Kp;exact Ma (Tg n) a
  cases h
 have e:E.known f az=EA.known f az:=by unfold E EA BU;simp only[u,if_false,Bool.false_eq_true]
 rw[e]at h;exact KY f az b h⟩ n
end Go.Proofs.YtgaepcmcohmibaaGreatDoor
