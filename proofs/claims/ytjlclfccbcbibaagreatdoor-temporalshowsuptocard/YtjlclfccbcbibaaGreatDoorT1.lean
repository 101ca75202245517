/- Tables; awake. -/
import Derived.Test.YtjlclfccbcbibaaGreatDoorProg
import Derived.KernelRfl
import Derived.Test.YtjlclfccbcbibaaGreatDoorV2
set_option linter.all false
open Nat(beq)
open List(forall_mem_cons)
namespace Go.Proofs.YtjlclfccbcbibaaGreatDoor
open Go.VE Go.Proofs
def D7:aX Int:=[-1,0,0,0,0,1,2,2,2,2,2,2,2,0,0,1,2,2,1,1,1,1]
instance:bT:=⟨λg=>if Nat.beq g 0 then some (D7.map (V.int .i64))else none,λg cs h=>by
 split at h
 .cases h;exact⟨_,_,rfl⟩
 cases h⟩
noncomputable def EA:Env:=EX Tryz.prog [0,1,151] [49,135,154,151,18,87,90,89,125,55] [49,135,55] [(99,2)] (λf=>beq f 151) λf az=>none
noncomputable def E:Env:=EX Tryz.prog [0,1,151,4] [49,135,154,151,18,87,90,89,125,22,23,24,45,44,78,55] [49,135,22,23,24,45,44,55] [(99,2)] (λf=>beq f 151) λf az=>if beq f 4 then(if az.isEmpty then some (.bool true)else none)else none
def Zu:B3 Tryz.prog=true:=by kernel_rfl
def aae:x6 Tryz.prog 99 2:=x6.two (i:=3) Tryz.underlying99 rfl rfl rfl rfl (by decide) (by decide) (by kernel_rfl) Tryz.underlying3 (by kernel_rfl) (by kernel_rfl)
def W_:∀p∈[(99,2)],x6 Tryz.prog p.1 p.2:=by intro t h;simp only[List.mem_singleton]at h;subst h;exact aae
def XN:eG Tryz.prog EA:=I8 Zu W_
def YJ:eG Tryz.prog E:=I8 Zu W_
def mixed:Tryz.prog.follows .mixedOrders=true:=by kernel_rfl
open Go.Shelf
def Tryz.Bz:Go.Shelf.Ren:=⟨λ|6=>151|15=>161|14=>160|28=>172|29=>173|20=>164|21=>165|22=>166|23=>167|24=>168|25=>169|26=>170|27=>171|46=>176|47=>177|48=>178|49=>179|50=>180|57=>181|n=>n,λ|22=>31|24=>38|25=>196|3=>3|39=>202|0=>0|53=>213|55=>215|4=>4|46=>206|45=>205|50=>210|5=>5|9=>9|66=>216|70=>220|76=>222|77=>223|n=>n,λ|n=>n⟩
def Tryz.TE:Go.Proofs.SlLaysF.n6 Tryz.prog Tryz.Bz:={
 mixed:=by kernel_rfl
 f6:=⟨Tryz.f151.name,by decide,Tryz.func151.trans (congrArg some (by kernel_rfl))⟩
 f14:=⟨Tryz.f160.name,by decide,Tryz.func160.trans (congrArg some (by kernel_rfl))⟩
 f15:=Tryz.func161.trans (congrArg some (by kernel_rfl))
 f20:=⟨Tryz.f164.name,by decide,Tryz.func164.trans (congrArg some (by kernel_rfl))⟩
 f21:=⟨Tryz.f165.name,by decide,Tryz.func165.trans (congrArg some (by kernel_rfl))⟩
 f22:=⟨Tryz.f166.name,by decide,Tryz.func166.trans (congrArg some (by kernel_rfl))⟩
 f23:=⟨Tryz.f167.name,by decide,Tryz.func167.trans (congrArg some (by kernel_rfl))⟩
 f24:=⟨Tryz.f168.name,by decide,Tryz.func168.trans (congrArg some (by kernel_rfl))⟩
 f25:=⟨Tryz.f169.name,by decide,Tryz.func169.trans (congrArg some (by kernel_rfl))⟩
 f26:=⟨Tryz.f170.name,by decide,Tryz.func170.trans (congrArg some (by kernel_rfl))⟩
 f27:=⟨Tryz.f171.name,by decide,Tryz.func171.trans (congrArg some (by kernel_rfl))⟩
 f28:=Tryz.func172.trans (congrArg some (by kernel_rfl))
 f29:=Tryz.func173.trans (congrArg some (by kernel_rfl))
 f46:=⟨Tryz.f176.name,by decide,Tryz.func176.trans (congrArg some (by kernel_rfl))⟩
 f47:=Tryz.func177.trans (congrArg some (by kernel_rfl))
 f48:=Tryz.func178.trans (congrArg some (by kernel_rfl))
 f49:=⟨Tryz.f179.name,by decide,Tryz.func179.trans (congrArg some (by kernel_rfl))⟩
 f50:=⟨Tryz.f180.name,by decide,Tryz.func180.trans (congrArg some (by kernel_rfl))⟩
 f57:=⟨Tryz.f181.name,by decide,Tryz.func181.trans (congrArg some (by kernel_rfl))⟩
 t0:=Tryz.underlying0
 a0:=Tryz.isAgg0
 z0:=Tryz.sizeOf0
 v0:=Tryz.zeroValue0
 t3:=Tryz.underlying3
 a3:=Tryz.isAgg3
 z3:=Tryz.sizeOf3
 v3:=Tryz.zeroValue3
 t4:=Tryz.underlying4
 a4:=Tryz.isAgg4
 z4:=Tryz.sizeOf4
 v4:=Tryz.zeroValue4
 t5:=Tryz.underlying5
 a5:=Tryz.isAgg5
 z5:=Tryz.sizeOf5
 v5:=Tryz.zeroValue5
 t9:=Tryz.underlying9
 a9:=Tryz.isAgg9
 z9:=Tryz.sizeOf9
 v9:=Tryz.zeroValue9
 t22:=Tryz.underlying31
 a22:=Tryz.isAgg31
 z22:=Tryz.sizeOf31
 v22:=Tryz.zeroValue31
 a24:=Tryz.isAgg38
 z24:=Tryz.sizeOf38
 t25:=Tryz.underlying196
 a25:=Tryz.isAgg196
 z25:=Tryz.sizeOf196
 v25:=Tryz.zeroValue196
 t39:=Tryz.underlying202
 a39:=Tryz.isAgg202
 z39:=Tryz.sizeOf202
 v39:=Tryz.zeroValue202
 t45:=Tryz.underlying205
 a45:=Tryz.isAgg205
 z45:=Tryz.sizeOf205
 v45:=Tryz.zeroValue205
 t46:=Tryz.underlying206
 a46:=Tryz.isAgg206
 z46:=Tryz.sizeOf206
 v46:=Tryz.zeroValue206
 t50:=Tryz.underlying210
 a50:=Tryz.isAgg210
 z50:=Tryz.sizeOf210
 v50:=Tryz.zeroValue210
 t53:=Tryz.underlying213
 a53:=Tryz.isAgg213
 z53:=Tryz.sizeOf213
 v53:=Tryz.zeroValue213
 t55:=Tryz.underlying215
 a55:=Tryz.isAgg215
 z55:=Tryz.sizeOf215
 v55:=Tryz.zeroValue215
 t66:=Tryz.underlying216
 a66:=Tryz.isAgg216
 z66:=Tryz.sizeOf216
 v66:=Tryz.zeroValue216
 t70:=Tryz.underlying220
 a70:=Tryz.isAgg220
 z70:=Tryz.sizeOf220
 v70:=Tryz.zeroValue220
 t76:=Tryz.underlying222
 a76:=Tryz.isAgg222
 z76:=Tryz.sizeOf222
 v76:=Tryz.zeroValue222
 t77:=Tryz.underlying223
 a77:=Tryz.isAgg223
 z77:=Tryz.sizeOf223
 v77:=Tryz.zeroValue223}
def Vt:Cg Tryz.prog 151 where
 ok:=⟨Tryz.f151,Tryz.func151,by kernel_rfl,by kernel_rfl⟩
 zero:=λp a u w=>AnyF.slices_SortFunc_none (ρ:=Tryz.Bz) {Tryz.TE with} p a u w
 all:=λenc c cf z g cb b off a d w B e C D G=>Any.slices_SortFunc_eq (ρ:=Tryz.Bz) Tryz.TE enc c cf z g cb b off a d w B e C D G
def Uf:∀f,EA.sort f=true->Cg Tryz.prog f:=λf h=>by have:f=151:=Nat.eq_of_beq_eq_true h;subst this;exact Vt
def Pn:∀f az y,EA.known f az=some y->C5 Tryz.prog f az y:=λf az y h=>by cases h
def Xq(n:Nat):lK Tryz.prog (run EA n):=Ho XN mixed ⟨Uf,Pn⟩ n
end Go.Proofs.YtjlclfccbcbibaaGreatDoor
namespace Go.Proofs.YtjlclfccbcbibaaGreatDoor
open Go.VE Go.Proofs
def a0:V:=.agg [.fsl 3 [[.str (ByteArray.mk #[112]),.bG,.fsl 5 [[.int .i64 1,.int .i64 0,.int .i64 0,.int .i64 0,.bG]]],[.str (ByteArray.mk #[113]),.bG,.fsl 5 [[.int .i64 1,.int .i64 0,.int .i64 0,.int .i64 0,.bG]]]]]
def a1:V:=.fsl 1 [[.int .i64 1],[.int .i64 1]]
def a2:V:=.agg [.int .i64 16,.int .i64 0,.int .i64 0,.int .i64 0,.str ByteArray.empty,.fsl 6 [[.int .i64 9,.int .i64 0,.int .i64 0,.int .i64 0,.str ByteArray.empty,.fsl 6 [[.int .i64 3,.int .i64 0,.int .i64 0,.int .i64 0,.str ByteArray.empty,.bG],[.int .i64 1,.int .i64 1,.int .i64 0,.int .i64 0,.str ByteArray.empty,.bG]]],[.int .i64 9,.int .i64 0,.int .i64 0,.int .i64 0,.str ByteArray.empty,.fsl 6 [[.int .i64 3,.int .i64 0,.int .i64 1,.int .i64 0,.str ByteArray.empty,.bG],[.int .i64 1,.int .i64 0,.int .i64 0,.int .i64 0,.str ByteArray.empty,.bG]]]]]
def k0:fI:=⟨81,[a0,.int .i64 1],.int .i64 0⟩
def Ze:gz EA k0:=iz (n:=100) (l:=[]) Zab (by kernel_rfl)
def k1:fI:=⟨52,[a0],.tup [.agg [.int .i64 0,.int .i64 0],.int .i64 0]⟩
def Cs:gz EA k1:=iz (n:=100) (l:=[k0]) (by simp only[forall_mem_cons];exact⟨Ze,Zab⟩) (by kernel_rfl)
def k2:fI:=⟨75,[.agg [.int .i64 9,.int .i64 0,.int .i64 0,.int .i64 0,.str ByteArray.empty,.fsl 6 [[.int .i64 3,.int .i64 0,.int .i64 0,.int .i64 0,.str ByteArray.empty,.bG],[.int .i64 1,.int .i64 1,.int .i64 0,.int .i64 0,.str ByteArray.empty,.bG]]],.clo 94 [] []],.bool true⟩
def ES:gz EA k2:=iz (n:=100) (l:=[]) Zab (by kernel_rfl)
def k3:fI:=⟨75,[.agg [.int .i64 9,.int .i64 0,.int .i64 0,.int .i64 0,.str ByteArray.empty,.fsl 6 [[.int .i64 3,.int .i64 0,.int .i64 1,.int .i64 0,.str ByteArray.empty,.bG],[.int .i64 1,.int .i64 0,.int .i64 0,.int .i64 0,.str ByteArray.empty,.bG]]],.clo 94 [] []],.bool true⟩
def Ea:gz EA k3:=iz (n:=100) (l:=[]) Zab (by kernel_rfl)
def k4:fI:=⟨174,[.int .i64 1],.bool false⟩
def TQ:gz EA k4:=iz (n:=100) (l:=[]) Zab (by kernel_rfl)
def k5:fI:=⟨162,[.int .i64 1,.int .i64 1],.int .i64 0⟩
def TN:gz EA k5:=iz (n:=100) (l:=[k4]) (by simp only[forall_mem_cons];exact⟨TQ,Zab⟩) (by kernel_rfl)
def k6:fI:=⟨174,[.int .i64 0],.bool false⟩
def TJ:gz EA k6:=iz (n:=100) (l:=[]) Zab (by kernel_rfl)
def k7:fI:=⟨162,[.int .i64 0,.int .i64 0],.int .i64 0⟩
def YH:gz EA k7:=iz (n:=100) (l:=[k6]) (by simp only[forall_mem_cons];exact⟨TJ,Zab⟩) (by kernel_rfl)
def k8:fI:=⟨134,[.agg [.fsl 1 [[.int .i64 1],[.int .i64 1]],.fsl 1 [[.fsl 2 [[.int .i64 0,.int .i64 0]]],[.fsl 2 [[.int .i64 0,.int .i64 0]]]]],.fsl 1 [[.fsl 1 [[.int .i64 0],[.int .i64 0]]]]],.fsl 1 [[.fsl 1 [[.int .i64 0],[.int .i64 1]]],[.fsl 1 [[.int .i64 1],[.int .i64 0]]]]⟩
def Zc:gz EA k8:=iz (n:=100) (l:=[k5,k7,k4,k6]) (by simp only[forall_mem_cons];exact⟨TN,YH,TQ,TJ,Zab⟩) (by kernel_rfl)
def k9:fI:=⟨153,[a1,a1],.int .i64 0⟩
def YI:gz EA k9:=iz (n:=100) (l:=[k5]) (by simp only[forall_mem_cons];exact⟨TN,Zab⟩) (by kernel_rfl)
def ZT:fI:=⟨152,[a1,a1],.int .i64 0⟩
def Xz:gz EA ZT:=iz (n:=100) (l:=[k9]) (by simp only[forall_mem_cons];exact⟨YI,Zab⟩) (by kernel_rfl)
def WU:fI:=⟨106,[a0],.tup [.fsl 1 [[.fsl 1 [[.fsl 1 [[.int .i64 0],[.int .i64 0]]]]],[.fsl 1 [[.fsl 1 [[.int .i64 0],[.int .i64 1]]],[.fsl 1 [[.int .i64 1],[.int .i64 0]]]]],[.fsl 1 [[.fsl 1 [[.int .i64 1],[.int .i64 1]]]]]],.int .i64 0]⟩
def QO:gz EA WU:=iz (n:=100) (l:=[k1,k8,ZT]) (by simp only[forall_mem_cons];exact⟨Cs,Zc,Xz,Zab⟩) (by kernel_rfl)
def XD:fI:=⟨21,[a0],.tup [.fptr [.fsl 3 [[.str (ByteArray.mk #[112]),.bG,.fsl 5 [[.int .i64 1,.int .i64 0,.int .i64 0,.int .i64 0,.bG]]],[.str (ByteArray.mk #[113]),.bG,.fsl 5 [[.int .i64 1,.int .i64 0,.int .i64 0,.int .i64 0,.bG]]]],.fsl 1 [[.fsl 1 [[.int .i64 0],[.int .i64 0]]],[.fsl 1 [[.int .i64 0],[.int .i64 1]]],[.fsl 1 [[.int .i64 1],[.int .i64 0]]],[.fsl 1 [[.int .i64 1],[.int .i64 1]]]],.fsl 1 [[.fsl 1 [[.int .i64 2],[.int .i64 1]]],[.fsl 1 [[.int .i64 3]]],[.fsl 1 [[.int .i64 3]]],[.bG]]],.int .i64 0]⟩
def P9:gz EA XD:=iz (n:=100) (l:=[WU,k1]) (by simp only[forall_mem_cons];exact⟨QO,Cs,Zab⟩) (by kernel_rfl)
def QU:fI:=⟨61,[a2],.bool true⟩
theorem Fi:gz EA QU:=iz (n:=100) (l:=[]) Zab (by kernel_rfl)
def Zp:fI:=⟨30,[a0,a2],.int .i64 0⟩
def WQ:gz EA Zp:=iz (n:=100) (l:=[k1,QU,k2,k3]) (by simp only[forall_mem_cons];exact⟨Cs,Fi,ES,Ea,Zab⟩) (by kernel_rfl)
def WK:fI:=⟨78,[a0,a2],.tup [.fsl 1 [[.fsl 1 [[.int .i64 0],[.int .i64 0]]],[.fsl 1 [[.int .i64 0],[.int .i64 1]]],[.fsl 1 [[.int .i64 1],[.int .i64 0]]],[.fsl 1 [[.int .i64 1],[.int .i64 1]]]],.fsl 1 [[.bool false],[.bool false],[.bool true],[.bool false]],.int .i64 0]⟩
def Qe:gz EA WK:=iz (n:=100) (l:=[Zp,QU,k2,k3,WU,k1]) (by simp only[forall_mem_cons];exact⟨WQ,Fi,ES,Ea,QO,Cs,Zab⟩) (by kernel_rfl)
def ZA:fI:=⟨26,[a0,.agg [.int .i64 18,.int .i64 0,.int .i64 0,.int .i64 0,.str ByteArray.empty,.fsl 6 [[.int .i64 16,.int .i64 0,.int .i64 0,.int .i64 0,.str ByteArray.empty,.fsl 6 [[.int .i64 9,.int .i64 0,.int .i64 0,.int .i64 0,.str ByteArray.empty,.fsl 6 [[.int .i64 3,.int .i64 0,.int .i64 0,.int .i64 0,.str ByteArray.empty,.bG],[.int .i64 1,.int .i64 1,.int .i64 0,.int .i64 0,.str ByteArray.empty,.bG]]],[.int .i64 9,.int .i64 0,.int .i64 0,.int .i64 0,.str ByteArray.empty,.fsl 6 [[.int .i64 3,.int .i64 0,.int .i64 1,.int .i64 0,.str ByteArray.empty,.bG],[.int .i64 1,.int .i64 0,.int .i64 0,.int .i64 0,.str ByteArray.empty,.bG]]]]]]]],.tup [.fsl 1 [[.bool true],[.bool false],[.bool true],[.bool false]],.int .i64 0]⟩
theorem Xt:gz EA ZA:=iz (n:=100) (l:=[k1,k2,k3,XD,QU,WK]) (by simp only[List.forall_mem_cons];exact⟨Cs,ES,Ea,P9,Fi,Qe,by simp⟩) (by kernel_rfl)
def ZB:fI:=⟨30,[a0,.agg [.int .i64 19,.int .i64 0,.int .i64 0,.int .i64 0,.str ByteArray.empty,.fsl 6 [[.int .i64 16,.int .i64 0,.int .i64 0,.int .i64 0,.str ByteArray.empty,.fsl 6 [[.int .i64 9,.int .i64 0,.int .i64 0,.int .i64 0,.str ByteArray.empty,.fsl 6 [[.int .i64 3,.int .i64 0,.int .i64 0,.int .i64 0,.str ByteArray.empty,.bG],[.int .i64 1,.int .i64 1,.int .i64 0,.int .i64 0,.str ByteArray.empty,.bG]]],[.int .i64 9,.int .i64 0,.int .i64 0,.int .i64 0,.str ByteArray.empty,.fsl 6 [[.int .i64 3,.int .i64 0,.int .i64 1,.int .i64 0,.str ByteArray.empty,.bG],[.int .i64 1,.int .i64 0,.int .i64 0,.int .i64 0,.str ByteArray.empty,.bG]]]]]]]],.int .i64 0⟩
theorem Yh:gz EA ZB:=iz (n:=100) (l:=[k1,k2,k3]) (by simp only[List.forall_mem_cons];exact⟨Cs,ES,Ea,by simp⟩) (by kernel_rfl)
theorem Na:∃n H1,run EA n (.fn 4) [] []=some (.bool true,H1):=Oi (n:=100) (l:=[ZA,ZB,k2,k3,XD,QU,WK]) (by simp only[List.forall_mem_cons];exact⟨Xt,Yh,ES,Ea,P9,Fi,Qe,by simp⟩) (by kernel_rfl)
def calls(n:Nat):lK Tryz.prog (run E n):=Ho YJ mixed ⟨Uf,λf az b h=>by
 by_cases u:beq f 4=true
 .have e:E.known f az=if az.isEmpty then some (.bool true)else none:=by unfold E EX;simp only[u,if_true]
  rw[e]at h;split at h
  next w=>cases h;have:f=4:=Nat.eq_of_beq_eq_true u;subst this;have:az=[]:=List.isEmpty_iff.1 w;subst this;have⟨n,H1,a⟩:=Na;exact P8 (Xq n) a
  cases h
 have e:E.known f az=EA.known f az:=by unfold E EA EX;simp only[u,if_false,Bool.false_eq_true]
 rw[e]at h;exact Pn f az b h⟩ n
end Go.Proofs.YtjlclfccbcbibaaGreatDoor
