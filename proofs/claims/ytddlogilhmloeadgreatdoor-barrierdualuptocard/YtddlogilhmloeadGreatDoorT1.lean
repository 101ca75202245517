/- Tables; awake. -/
import Derived.Shelf.SlSortCmp.NoneTotal
import Derived.Test.YtddlogilhmloeadGreatDoorProg
import Derived.KernelRfl
import Derived.Test.YtddlogilhmloeadGreatDoorV2
set_option linter.all false
open Option renaming some→M,some→_h,none→G,none→_n,bind→H,bind→_l
open Bool renaming true→O,true→_k,false→U,false→_m
open Decidable renaming decide→_p
open List renaming length→W,length→_j
open Go.IntKind renaming i64→Z,i64→_o
open List renaming forall_mem_cons→v!
open Nat(beq)
open Nat(le)
namespace Go.Proofs.YtddlogilhmloeadGreatDoor
open Go.VE Go.Proofs
def FJ:aX Int:=[-1,0,0,0,0,1,2,2,2,2,2,2,2,0,0,1,2,2,1,1,1,1]
instance:b8:=⟨λg=>if beq g 0 then M (FJ.map (V.int Z))else G,λg cs h=>by
 split at h
 .cases h;exact⟨_,_,rfl⟩
 cases h⟩
noncomputable def EA:Env:=GQ Tryz.prog [0,1,161,31] [58,32,136,164,161,116,119,118,150,46,24] [58,32,136,46] [(62,2),(106,3),(83,8)] (λf=>beq f 161) λf az=>(if beq f 31 then yh 8 az else G)
noncomputable def E:Env:=GQ Tryz.prog [0,1,161,31,4] [58,32,136,164,161,116,119,118,150,52,78,79,100,77,99,46] [58,32,136,52,78,79,100,77,46] [(62,2),(106,3),(83,8)] (λf=>beq f 161) λf az=>if beq f 4 then(if az.isEmpty then M (.bool O)else G)else(if beq f 31 then yh 8 az else G)
def noC:DX Tryz.prog=O:=by kernel_rfl
def adS:rR Tryz.prog 62 2:=rR.two (i:=3) Tryz.underlying62 Y Y Y Y (by decide) (by decide) (by kernel_rfl) Tryz.underlying3 (by kernel_rfl) (by kernel_rfl)
def acL:rR Tryz.prog 106 3:=rR.three (i:=3) Tryz.underlying106 Y Y Y Y Y Y (by decide) (by decide) (by decide) (by kernel_rfl) Tryz.underlying3 (by kernel_rfl) (by kernel_rfl)
def adO:rR Tryz.prog 83 8:=rR.arr (i:=3) Tryz.underlying83 (by kernel_rfl) Tryz.underlying3 (by kernel_rfl)
def abe:∀p∈[(62,2),(106,3),(83,8)],rR Tryz.prog p.1 p.2:=λp h=>match p,h with|_,.head _=>adS|_,.tail _ (.head _)=>acL|_,.tail _ (.tail _ (.head _))=>adO
def abh:fC Tryz.prog EA:=KC noC abe
def ab5:fC Tryz.prog E:=KC noC abe
def mixed:Tryz.prog.follows .mixedOrders=O:=by kernel_rfl
open Go.Shelf
def Tryz.CY:Go.Shelf.Ren:=⟨λ|6=>161|15=>180|14=>179|28=>195|29=>196|20=>187|21=>188|22=>189|23=>190|24=>191|25=>192|26=>193|27=>194|46=>200|47=>201|48=>202|49=>203|50=>204|57=>206|n=>n,λ|22=>33|24=>32|25=>214|3=>3|39=>225|0=>0|53=>237|55=>239|4=>4|46=>231|45=>230|50=>113|5=>5|9=>9|66=>241|70=>245|76=>247|77=>248|n=>n,λ|n=>n⟩
def Tryz.WQ:Go.Proofs.SlLaysF.n6 Tryz.prog Tryz.CY:={
 mixed:=by kernel_rfl
 f6:=⟨Tryz.f161.name,by decide,Tryz.func161.trans (_d M (by kernel_rfl))⟩
 f14:=⟨Tryz.f179.name,by decide,Tryz.func179.trans (_d M (by kernel_rfl))⟩
 f15:=Tryz.func180.trans (_d M (by kernel_rfl))
 f20:=⟨Tryz.f187.name,by decide,Tryz.func187.trans (_d M (by kernel_rfl))⟩
 f21:=⟨Tryz.f188.name,by decide,Tryz.func188.trans (_d M (by kernel_rfl))⟩
 f22:=⟨Tryz.f189.name,by decide,Tryz.func189.trans (_d M (by kernel_rfl))⟩
 f23:=⟨Tryz.f190.name,by decide,Tryz.func190.trans (_d M (by kernel_rfl))⟩
 f24:=⟨Tryz.f191.name,by decide,Tryz.func191.trans (_d M (by kernel_rfl))⟩
 f25:=⟨Tryz.f192.name,by decide,Tryz.func192.trans (_d M (by kernel_rfl))⟩
 f26:=⟨Tryz.f193.name,by decide,Tryz.func193.trans (_d M (by kernel_rfl))⟩
 f27:=⟨Tryz.f194.name,by decide,Tryz.func194.trans (_d M (by kernel_rfl))⟩
 f28:=Tryz.func195.trans (_d M (by kernel_rfl))
 f29:=Tryz.func196.trans (_d M (by kernel_rfl))
 f46:=⟨Tryz.f200.name,by decide,Tryz.func200.trans (_d M (by kernel_rfl))⟩
 f47:=Tryz.func201.trans (_d M (by kernel_rfl))
 f48:=Tryz.func202.trans (_d M (by kernel_rfl))
 f49:=⟨Tryz.f203.name,by decide,Tryz.func203.trans (_d M (by kernel_rfl))⟩
 f50:=⟨Tryz.f204.name,by decide,Tryz.func204.trans (_d M (by kernel_rfl))⟩
 f57:=⟨Tryz.f206.name,by decide,Tryz.func206.trans (_d M (by kernel_rfl))⟩
 t0:=Tryz.underlying0
 a0:=Tryz.isAgg0
 z0:=Tryz.sizeOf0
 v0:=Tryz.zeroValue0
 t3:=Tryz.underlying3
 a3:=Tryz.isAgg3
 z3:=Tryz.sizeOf3
 v3:=Tryz.zeroValue3
 t4:=Tryz.underlying4
 a4:=Tryz.isAgg4
 z4:=Tryz.sizeOf4
 v4:=Tryz.zeroValue4
 t5:=Tryz.underlying5
 a5:=Tryz.isAgg5
 z5:=Tryz.sizeOf5
 v5:=Tryz.zeroValue5
 t9:=Tryz.underlying9
 a9:=Tryz.isAgg9
 z9:=Tryz.sizeOf9
 v9:=Tryz.zeroValue9
 t22:=Tryz.underlying33
 a22:=Tryz.isAgg33
 z22:=Tryz.sizeOf33
 v22:=Tryz.zeroValue33
 a24:=Tryz.isAgg32
 z24:=Tryz.sizeOf32
 t25:=Tryz.underlying214
 a25:=Tryz.isAgg214
 z25:=Tryz.sizeOf214
 v25:=Tryz.zeroValue214
 t39:=Tryz.underlying225
 a39:=Tryz.isAgg225
 z39:=Tryz.sizeOf225
 v39:=Tryz.zeroValue225
 t45:=Tryz.underlying230
 a45:=Tryz.isAgg230
 z45:=Tryz.sizeOf230
 v45:=Tryz.zeroValue230
 t46:=Tryz.underlying231
 a46:=Tryz.isAgg231
 z46:=Tryz.sizeOf231
 v46:=Tryz.zeroValue231
 t50:=Tryz.underlying113
 a50:=Tryz.isAgg113
 z50:=Tryz.sizeOf113
 v50:=Tryz.zeroValue113
 t53:=Tryz.underlying237
 a53:=Tryz.isAgg237
 z53:=Tryz.sizeOf237
 v53:=Tryz.zeroValue237
 t55:=Tryz.underlying239
 a55:=Tryz.isAgg239
 z55:=Tryz.sizeOf239
 v55:=Tryz.zeroValue239
 t66:=Tryz.underlying241
 a66:=Tryz.isAgg241
 z66:=Tryz.sizeOf241
 v66:=Tryz.zeroValue241
 t70:=Tryz.underlying245
 a70:=Tryz.isAgg245
 z70:=Tryz.sizeOf245
 v70:=Tryz.zeroValue245
 t76:=Tryz.underlying247
 a76:=Tryz.isAgg247
 z76:=Tryz.sizeOf247
 v76:=Tryz.zeroValue247
 t77:=Tryz.underlying248
 a77:=Tryz.isAgg248
 z77:=Tryz.sizeOf248
 v77:=Tryz.zeroValue248}
def XF:DD Tryz.prog 161 where
 ok:=⟨Tryz.f161,Tryz.func161,by kernel_rfl,by kernel_rfl⟩
 zero:=λp a u w=>AnyF.slices_SortFunc_none (ρ:=Tryz.CY) {Tryz.WQ with} p a u w
 all:=λenc c cf z g cb b off a d w B e C D h=>Any.slices_SortFunc_eq (ρ:=Tryz.CY) Tryz.WQ enc c cf z g cb b off a d w B e C D h
def Xf:∀f,EA.sort f=O->DD Tryz.prog f:=λf h=>by have:f=161:=Nat.eq_of_beq_eq_true h;subst this;exact XF
def z_:∀az y,yh 8 az=M y->zz Tryz.prog 31 az y:=Yj (f:=31) (A:=83) (S:=32) (e:=3) (n:=8) (bytes:=64) Tryz.func31 Y Y Y (by kernel_rfl) Tryz.underlying83 Tryz.underlying32 (by kernel_rfl) (by kernel_rfl)
def SG:∀f az y,EA.known f az=M y->zz Tryz.prog f az y:=λf az y h=>by
 change(if beq f 31 then yh 8 az else G)=M y at h;split at h;next u=>have:f=31:=Nat.eq_of_beq_eq_true u;subst this;exact z_ az y h
 cases h
def aaN(n:Nat):mV Tryz.prog (run EA n):=JP abh mixed ⟨Xf,SG⟩ n
end Go.Proofs.YtddlogilhmloeadGreatDoor
namespace Go.Proofs.YtddlogilhmloeadGreatDoor
open Go.VE Go.Proofs
def a0:V:=.agg [.fsl 3 [[.str (ByteArray.mk #[112]),.bG,.fsl 5 [[.int Z 1,.int Z 0,.int Z 0,.int Z 0,.bG]]],[.str (ByteArray.mk #[113]),.bG,.fsl 5 [[.int Z 1,.int Z 0,.int Z 0,.int Z 0,.bG]]]]]
def a1:V:=.fsl 1 [[.int Z 1],[.int Z 1]]
def k0:jo:=⟨86,[a0],.tup [.agg [.int Z 0,.int Z 0],.int Z 0]⟩
def QI:mI EA k0:=pU (n:=100) (l:=[]) f? (by kernel_rfl)
def k1:jo:=⟨197,[.int Z 1],.bool U⟩
def Xm:mI EA k1:=pU (n:=100) (l:=[]) f? (by kernel_rfl)
def k2:jo:=⟨181,[.int Z 1,.int Z 1],.int Z 0⟩
def WK:mI EA k2:=pU (n:=100) (l:=[k1]) (by simp only[v!];exact⟨Xm,f?⟩) (by kernel_rfl)
def k3:jo:=⟨197,[.int Z 0],.bool U⟩
def Wu:mI EA k3:=pU (n:=100) (l:=[]) f? (by kernel_rfl)
def k4:jo:=⟨181,[.int Z 0,.int Z 0],.int Z 0⟩
def acq:mI EA k4:=pU (n:=100) (l:=[k3]) (by simp only[v!];exact⟨Wu,f?⟩) (by kernel_rfl)
def k5:jo:=⟨135,[.agg [.fsl 1 [[.int Z 1],[.int Z 1]],.fsl 1 [[.fsl 2 [[.int Z 0,.int Z 0]]],[.fsl 2 [[.int Z 0,.int Z 0]]]]],.fsl 1 [[.fsl 1 [[.int Z 0],[.int Z 0]]]]],.fsl 1 [[.fsl 1 [[.int Z 0],[.int Z 1]]],[.fsl 1 [[.int Z 1],[.int Z 0]]]]⟩
def acO:mI EA k5:=pU (n:=100) (l:=[k2,k4,k1,k3]) (by simp only[v!];exact⟨WK,acq,Xm,Wu,f?⟩) (by kernel_rfl)
def k6:jo:=⟨163,[a1,a1],.int Z 0⟩
def ab6:mI EA k6:=pU (n:=100) (l:=[k2]) (by simp only[v!];exact⟨WK,f?⟩) (by kernel_rfl)
def k7:jo:=⟨162,[a1,a1],.int Z 0⟩
def aci:mI EA k7:=pU (n:=100) (l:=[k6]) (by simp only[v!];exact⟨ab6,f?⟩) (by kernel_rfl)
def k8:jo:=⟨104,[a0],.tup [.fsl 1 [[.fsl 1 [[.fsl 1 [[.int Z 0],[.int Z 0]]]]],[.fsl 1 [[.fsl 1 [[.int Z 0],[.int Z 1]]],[.fsl 1 [[.int Z 1],[.int Z 0]]]]],[.fsl 1 [[.fsl 1 [[.int Z 1],[.int Z 1]]]]]],.int Z 0]⟩
def Xv:mI EA k8:=pU (n:=100) (l:=[k0,k5,k7]) (by simp only[v!];exact⟨QI,acO,aci,f?⟩) (by kernel_rfl)
def k9:jo:=⟨52,[.fptr [.fsl 3 [[.str (ByteArray.mk #[112]),.bG,.fsl 5 [[.int Z 1,.int Z 0,.int Z 0,.int Z 0,.bG]]],[.str (ByteArray.mk #[113]),.bG,.fsl 5 [[.int Z 1,.int Z 0,.int Z 0,.int Z 0,.bG]]]],.fsl 1 [[.fsl 1 [[.int Z 0],[.int Z 0]]],[.fsl 1 [[.int Z 0],[.int Z 1]]],[.fsl 1 [[.int Z 1],[.int Z 0]]],[.fsl 1 [[.int Z 1],[.int Z 1]]]],.fsl 1 [[.fsl 1 [[.int Z 2],[.int Z 1]]],[.fsl 1 [[.int Z 3]]],[.fsl 1 [[.int Z 3]]],[.bG]]],.agg [.int Z 9,.int Z 0,.int Z 0,.int Z 0,.str ByteArray.empty,.fsl 6 [[.int Z 3,.int Z 0,.int Z 0,.int Z 0,.str ByteArray.empty,.bG],[.int Z 1,.int Z 1,.int Z 0,.int Z 0,.str ByteArray.empty,.bG]]]],.fsl 1 [[.bool U],[.bool U],[.bool O],[.bool O]]⟩
theorem acj:mI EA k9:=pU (n:=100) (l:=[k0,k8]) (by simp only[List.forall_mem_cons];exact⟨QI,Xv,by simp⟩) (by kernel_rfl)
def Qk:∃n H1,run EA n (.fn 4) [] []=some (.bool true,H1):=PY (n:=100) (l:=[k0,k8,k9]) (by simp only[v!];exact⟨QI,Xv,acj,f?⟩) (by kernel_rfl)
def calls(n:Nat):mV Tryz.prog (run E n):=JP ab5 mixed ⟨Xf,λf az b h=>by
 by_cases u:beq f 4=O
 .have e:E.known f az=if az.isEmpty then M (.bool O)else G:=by unfold E GQ;simp only[u,L']
  rw[e]at h;split at h
  next w=>cases h;have:f=4:=Nat.eq_of_beq_eq_true u;subst this;have:az=[]:=List.isEmpty_iff.1 w;subst this;have⟨n,H1,a⟩:=Qk;exact Rt (aaN n) a
  cases h
 have e:E.known f az=EA.known f az:=by unfold E EA GQ;simp only[u,M',Bool.false_eq_true]
 rw[e]at h;exact SG f az b h⟩ n
end Go.Proofs.YtddlogilhmloeadGreatDoor
