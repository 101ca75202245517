/-
 The tables of this seat, and the law's own awakening.
-/
import Derived.Test.YtllofdfkekipeaaGreatDoorProg
import Derived.KernelRfl
import Derived.Test.YtllofdfkekipeaaGreatDoorV2
set_option linter.all false
open Nat(beq)
open List(forall_mem_cons)
namespace Go.Proofs.YtllofdfkekipeaaGreatDoor
open Go.VE Go.Proofs
def FB:Zx:=[-1,0,0,0,0,1,2,2,2,2,2,2,2,0,0,1,2,2,1,1,1,1]
instance:bT:=⟨λg=>if beq g 0 then some (FB.map (V.int .i64))else none,λg u h=>by
 split at h
 .cases h;exact⟨_,_,rfl⟩
 cases h⟩
noncomputable def EA:Env:=CG Tryz.prog [0,1,145,26] [68,28,116,148,145,27,150,153,152,177] [68,28,116] [(64,2),(77,8)] (λf=>beq f 145) λf az=>(if beq f 26 then uy 8 az else none)
noncomputable def E:Env:=CG Tryz.prog [0,1,145,26,4] [68,28,116,148,145,27] [68,28,116] [(64,2),(77,8)] (λf=>beq f 145) λf az=>if beq f 4 then(if az.isEmpty then some (.bool true)else none)else(if beq f 26 then uy 8 az else none)
def Wg:AK Tryz.prog=true:=by kernel_rfl
def WI:s9 Tryz.prog 64 2:=s9.two (i:=3) Tryz.underlying64 rfl rfl rfl rfl (by decide) (by decide) (by kernel_rfl) Tryz.underlying3 (by kernel_rfl) (by kernel_rfl)
def Wr:s9 Tryz.prog 77 8:=s9.arr (i:=3) Tryz.underlying77 (by kernel_rfl) Tryz.underlying3 (by kernel_rfl)
def TG:∀p∈[(64,2),(77,8)],s9 Tryz.prog p.1 p.2:=λp h=>match p,h with|_,.head _=>WI|_,.tail _ (.head _)=>Wr
def T3:eG Tryz.prog EA:=Hq Wg TG
def Vo:eG Tryz.prog E:=Hq Wg TG
def mixed:Tryz.prog.follows .mixedOrders=true:=by kernel_rfl
open Go.Shelf
def Tryz.yY:Go.Shelf.Ren:=⟨λ|6=>145|15=>174|14=>173|28=>195|29=>196|20=>187|21=>188|22=>189|23=>190|24=>191|25=>192|26=>193|27=>194|46=>206|47=>207|48=>208|49=>209|50=>210|57=>216|n=>n,λ|22=>25|24=>49|25=>195|3=>3|39=>214|0=>0|53=>233|55=>235|4=>4|46=>227|45=>226|50=>106|5=>5|9=>9|66=>241|70=>245|76=>250|77=>251|n=>n,λ|n=>n⟩
def Tryz.QV:Go.Proofs.SlLaysF.n6 Tryz.prog Tryz.yY:={
 mixed:=by kernel_rfl
 f6:=⟨Tryz.f145.name,by decide,Tryz.func145.trans (congrArg some (by kernel_rfl))⟩
 f14:=⟨Tryz.f173.name,by decide,Tryz.func173.trans (congrArg some (by kernel_rfl))⟩
 f15:=Tryz.func174.trans (congrArg some (by kernel_rfl))
 f20:=⟨Tryz.f187.name,by decide,Tryz.func187.trans (congrArg some (by kernel_rfl))⟩
 f21:=⟨Tryz.f188.name,by decide,Tryz.func188.trans (congrArg some (by kernel_rfl))⟩
 f22:=⟨Tryz.f189.name,by decide,Tryz.func189.trans (congrArg some (by kernel_rfl))⟩
 f23:=⟨Tryz.f190.name,by decide,Tryz.func190.trans (congrArg some (by kernel_rfl))⟩
 f24:=⟨Tryz.f191.name,by decide,Tryz.func191.trans (congrArg some (by kernel_rfl))⟩
 f25:=⟨Tryz.f192.name,by decide,Tryz.func192.trans (congrArg some (by kernel_rfl))⟩
 f26:=⟨Tryz.f193.name,by decide,Tryz.func193.trans (congrArg some (by kernel_rfl))⟩
 f27:=⟨Tryz.f194.name,by decide,Tryz.func194.trans (congrArg some (by kernel_rfl))⟩
 f28:=Tryz.func195.trans (congrArg some (by kernel_rfl))
 f29:=Tryz.func196.trans (congrArg some (by kernel_rfl))
 f46:=⟨Tryz.f206.name,by decide,Tryz.func206.trans (congrArg some (by kernel_rfl))⟩
 f47:=Tryz.func207.trans (congrArg some (by kernel_rfl))
 f48:=Tryz.func208.trans (congrArg some (by kernel_rfl))
 f49:=⟨Tryz.f209.name,by decide,Tryz.func209.trans (congrArg some (by kernel_rfl))⟩
 f50:=⟨Tryz.f210.name,by decide,Tryz.func210.trans (congrArg some (by kernel_rfl))⟩
 f57:=⟨Tryz.f216.name,by decide,Tryz.func216.trans (congrArg some (by kernel_rfl))⟩
 t0:=Tryz.underlying0
 a0:=Tryz.isAgg0
 z0:=Tryz.sizeOf0
 v0:=Tryz.zeroValue0
 t3:=Tryz.underlying3
 a3:=Tryz.isAgg3
 z3:=Tryz.sizeOf3
 v3:=Tryz.zeroValue3
 t4:=Tryz.underlying4
 a4:=Tryz.isAgg4
 z4:=Tryz.sizeOf4
 v4:=Tryz.zeroValue4
 t5:=Tryz.underlying5
 a5:=Tryz.isAgg5
 z5:=Tryz.sizeOf5
 v5:=Tryz.zeroValue5
 t9:=Tryz.underlying9
 a9:=Tryz.isAgg9
 z9:=Tryz.sizeOf9
 v9:=Tryz.zeroValue9
 t22:=Tryz.underlying25
 a22:=Tryz.isAgg25
 z22:=Tryz.sizeOf25
 v22:=Tryz.zeroValue25
 a24:=Tryz.isAgg49
 z24:=Tryz.sizeOf49
 t25:=Tryz.underlying195
 a25:=Tryz.isAgg195
 z25:=Tryz.sizeOf195
 v25:=Tryz.zeroValue195
 t39:=Tryz.underlying214
 a39:=Tryz.isAgg214
 z39:=Tryz.sizeOf214
 v39:=Tryz.zeroValue214
 t45:=Tryz.underlying226
 a45:=Tryz.isAgg226
 z45:=Tryz.sizeOf226
 v45:=Tryz.zeroValue226
 t46:=Tryz.underlying227
 a46:=Tryz.isAgg227
 z46:=Tryz.sizeOf227
 v46:=Tryz.zeroValue227
 t50:=Tryz.underlying106
 a50:=Tryz.isAgg106
 z50:=Tryz.sizeOf106
 v50:=Tryz.zeroValue106
 t53:=Tryz.underlying233
 a53:=Tryz.isAgg233
 z53:=Tryz.sizeOf233
 v53:=Tryz.zeroValue233
 t55:=Tryz.underlying235
 a55:=Tryz.isAgg235
 z55:=Tryz.sizeOf235
 v55:=Tryz.zeroValue235
 t66:=Tryz.underlying241
 a66:=Tryz.isAgg241
 z66:=Tryz.sizeOf241
 v66:=Tryz.zeroValue241
 t70:=Tryz.underlying245
 a70:=Tryz.isAgg245
 z70:=Tryz.sizeOf245
 v70:=Tryz.zeroValue245
 t76:=Tryz.underlying250
 a76:=Tryz.isAgg250
 z76:=Tryz.sizeOf250
 v76:=Tryz.zeroValue250
 t77:=Tryz.underlying251
 a77:=Tryz.isAgg251
 z77:=Tryz.sizeOf251
 v77:=Tryz.zeroValue251}
def Rl:AF Tryz.prog 145 where
 ok:=⟨Tryz.f145,Tryz.func145,by kernel_rfl,by kernel_rfl⟩
 zero:=λp a u w=>AnyF.slices_SortFunc_none (ρ:=Tryz.yY) {Tryz.QV with} p a u w
 all:=λenc c cf z g cb b off a d w B hc C D G=>Any.slices_SortFunc_eq (ρ:=Tryz.yY) Tryz.QV enc c cf z g cb b off a d w B hc C D G
def QY:∀f,EA.sort f=true->AF Tryz.prog f:=λf h=>by have:f=145:=Nat.eq_of_beq_eq_true h;subst this;exact Rl
def wh:∀az y,uy 8 az=some y->vt Tryz.prog 26 az y:=Sq (f:=26) (A:=77) (S:=49) (e:=3) (n:=8) (bytes:=64) Tryz.func26 rfl rfl rfl (by kernel_rfl) Tryz.underlying77 Tryz.underlying49 (by kernel_rfl) (by kernel_rfl)
def Ms:∀f az y,EA.known f az=some y->vt Tryz.prog f az y:=λf az y h=>by
 change(if beq f 26 then uy 8 az else none)=some y at h;split at h;next u=>have:f=26:=Nat.eq_of_beq_eq_true u;subst this;exact wh az y h
 cases h
def Uc(n:Nat):kL Tryz.prog (run EA n):=D3 T3 mixed ⟨QY,Ms⟩ n
end Go.Proofs.YtllofdfkekipeaaGreatDoor
namespace Go.Proofs.YtllofdfkekipeaaGreatDoor
open Go.VE Go.Proofs
def a0:V:=.agg [.fsl 3 [[.str (ByteArray.mk #[112]),.bG,.fsl 5 [[.int .i64 1,.int .i64 0,.int .i64 0,.int .i64 0,.bG]]],[.str (ByteArray.mk #[113]),.bG,.fsl 5 [[.int .i64 1,.int .i64 0,.int .i64 0,.int .i64 0,.bG]]]]]
def a1:V:=.fsl 1 [[.int .i64 1],[.int .i64 1]]
def k0:gZ:=⟨91,[a0],.tup [.agg [.int .i64 0,.int .i64 0],.int .i64 0]⟩
def La:kg EA k0:=mW (n:=100) (l:=[]) Zc (by kernel_rfl)
def k1:gZ:=⟨197,[.int .i64 1],.bool false⟩
def Q1:kg EA k1:=mW (n:=100) (l:=[]) Zc (by kernel_rfl)
def k2:gZ:=⟨175,[.int .i64 1,.int .i64 1],.int .i64 0⟩
def Qb:kg EA k2:=mW (n:=100) (l:=[k1]) (by simp only[forall_mem_cons];exact⟨Q1,Zc⟩) (by kernel_rfl)
def k3:gZ:=⟨197,[.int .i64 0],.bool false⟩
def Qo:kg EA k3:=mW (n:=100) (l:=[]) Zc (by kernel_rfl)
def k4:gZ:=⟨175,[.int .i64 0,.int .i64 0],.int .i64 0⟩
def VM:kg EA k4:=mW (n:=100) (l:=[k3]) (by simp only[forall_mem_cons];exact⟨Qo,Zc⟩) (by kernel_rfl)
def k5:gZ:=⟨115,[.agg [.fsl 1 [[.int .i64 1],[.int .i64 1]],.fsl 1 [[.fsl 2 [[.int .i64 0,.int .i64 0]]],[.fsl 2 [[.int .i64 0,.int .i64 0]]]]],.fsl 1 [[.fsl 1 [[.int .i64 0],[.int .i64 0]]]]],.fsl 1 [[.fsl 1 [[.int .i64 0],[.int .i64 1]]],[.fsl 1 [[.int .i64 1],[.int .i64 0]]]]⟩
def Vx:kg EA k5:=mW (n:=100) (l:=[k2,k4,k1,k3]) (by simp only[forall_mem_cons];exact⟨Qb,VM,Q1,Qo,Zc⟩) (by kernel_rfl)
def k6:gZ:=⟨147,[a1,a1],.int .i64 0⟩
def VS:kg EA k6:=mW (n:=100) (l:=[k2]) (by simp only[forall_mem_cons];exact⟨Qb,Zc⟩) (by kernel_rfl)
def k7:gZ:=⟨146,[a1,a1],.int .i64 0⟩
def Vl:kg EA k7:=mW (n:=100) (l:=[k6]) (by simp only[forall_mem_cons];exact⟨VS,Zc⟩) (by kernel_rfl)
def k8:gZ:=⟨94,[a0],.tup [.fsl 1 [[.fsl 1 [[.fsl 1 [[.int .i64 0],[.int .i64 0]]]]],[.fsl 1 [[.fsl 1 [[.int .i64 0],[.int .i64 1]]],[.fsl 1 [[.int .i64 1],[.int .i64 0]]]]],[.fsl 1 [[.fsl 1 [[.int .i64 1],[.int .i64 1]]]]]],.int .i64 0]⟩
def QX:kg EA k8:=mW (n:=100) (l:=[k0,k5,k7]) (by simp only[forall_mem_cons];exact⟨La,Vx,Vl,Zc⟩) (by kernel_rfl)
def k9:gZ:=⟨84,[.fptr [.fsl 3 [[.str (ByteArray.mk #[112]),.bG,.fsl 5 [[.int .i64 1,.int .i64 0,.int .i64 0,.int .i64 0,.bG]]],[.str (ByteArray.mk #[113]),.bG,.fsl 5 [[.int .i64 1,.int .i64 0,.int .i64 0,.int .i64 0,.bG]]]],.fsl 1 [[.fsl 1 [[.int .i64 0],[.int .i64 0]]],[.fsl 1 [[.int .i64 0],[.int .i64 1]]],[.fsl 1 [[.int .i64 1],[.int .i64 0]]],[.fsl 1 [[.int .i64 1],[.int .i64 1]]]],.fsl 1 [[.fsl 1 [[.int .i64 2],[.int .i64 1]]],[.fsl 1 [[.int .i64 3]]],[.fsl 1 [[.int .i64 3]]],[.bG]]],.agg [.int .i64 9,.int .i64 0,.int .i64 0,.int .i64 0,.str ByteArray.empty,.fsl 6 [[.int .i64 3,.int .i64 0,.int .i64 0,.int .i64 0,.str ByteArray.empty,.bG],[.int .i64 1,.int .i64 1,.int .i64 0,.int .i64 0,.str ByteArray.empty,.bG]]]],.fsl 1 [[.bool false],[.bool false],[.bool true],[.bool true]]⟩
def VW:kg EA k9:=mW (n:=100) (l:=[k0,k8]) (by simp only[forall_mem_cons];exact⟨La,QX,Zc⟩) (by kernel_rfl)
def KK:∃n H1,run EA n (.fn 4) [] []=some (.bool true,H1):=JV (n:=100) (l:=[k0,k8,k9]) (by simp only[forall_mem_cons];exact⟨La,QX,VW,Zc⟩) (by kernel_rfl)
def calls(n:Nat):kL Tryz.prog (run E n):=D3 Vo mixed ⟨QY,λf az b h=>by
 by_cases u:beq f 4=true
 .have e:E.known f az=if az.isEmpty then some (.bool true)else none:=by unfold E CG;simp only[u,if_true]
  rw[e]at h;split at h
  next w=>cases h;have:f=4:=Nat.eq_of_beq_eq_true u;subst this;have:az=[]:=List.isEmpty_iff.1 w;subst this;have⟨n,H1,a⟩:=KK;exact LS (Uc n) a
  cases h
 have e:E.known f az=EA.known f az:=by unfold E EA CG;simp only[u,if_false,Bool.false_eq_true]
 rw[e]at h;exact Ms f az b h⟩ n
end Go.Proofs.YtllofdfkekipeaaGreatDoor
