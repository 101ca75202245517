/-
 The tables of this seat, and the law's own awakening.
-/
import Derived.Test.YtknifbdijcocpaaGreatDoorProg
import Derived.KernelRfl
import Derived.Test.YtknifbdijcocpaaGreatDoorV2
set_option linter.all false
open Nat(beq)
open List(forall_mem_cons)
namespace Go.Proofs.YtknifbdijcocpaaGreatDoor
open Go.VE Go.Proofs
def Eh:L' Int:=[-1,0,0,0,0,1,2,2,2,2,2,2,2,0,0,1,2,2,1,1,1,1]
instance:bY:=⟨λg=>if beq g 0 then some (Eh.map (V.int .i64))else none,λg cs h=>by
 split at h
 .cases h;exact⟨_,_,rfl⟩
 cases h⟩
noncomputable def EA:Env:=DX Tryz.prog [0,1,123] [61,27,103,126,123,106,108,34,57,18,35] [61,27,103] [(62,2)] (λf=>beq f 123) λf az=>none
noncomputable def E:Env:=DX Tryz.prog [0,1,123,4] [61,27,103,126,123,106,108,34,57,18,35] [61,27,103] [(62,2)] (λf=>beq f 123) λf az=>if beq f 4 then(if az.isEmpty then some (.bool true)else none)else none
theorem ZW:Ck Tryz.prog=true:=by kernel_rfl
theorem aaF:xh Tryz.prog 62 2:=xh.two (i:=3) Tryz.underlying62 rfl rfl rfl rfl (by decide) (by decide) (by kernel_rfl) Tryz.underlying3 (by kernel_rfl) (by kernel_rfl)
theorem XQ:∀p∈[(62,2)],xh Tryz.prog p.1 p.2:=by intro t h;simp only[List.mem_singleton]at h;subst h;exact aaF
theorem X4:eS Tryz.prog EA:=IQ ZW XQ
theorem Y4:eS Tryz.prog E:=IQ ZW XQ
theorem mixed:Tryz.prog.follows .mixedOrders=true:=by kernel_rfl
open Go.Shelf
def Tryz.Bi:Go.Shelf.Ren:=⟨λ|6=>123|15=>146|14=>145|28=>171|29=>172|20=>163|21=>164|22=>165|23=>166|24=>167|25=>168|26=>169|27=>170|46=>181|47=>182|48=>183|49=>184|50=>185|57=>187|n=>n,λ|22=>54|24=>28|25=>162|3=>3|39=>185|0=>0|53=>208|55=>210|4=>4|46=>202|45=>201|50=>116|5=>5|9=>9|66=>214|70=>59|76=>220|77=>221|n=>n,λ|n=>n⟩
theorem Tryz.TW:Go.Proofs.SlLaysF.n6 Tryz.prog Tryz.Bi:={
 mixed:=by kernel_rfl
 f6:=⟨Tryz.f123.name,by decide,Tryz.func123.trans (congrArg some (by kernel_rfl))⟩
 f14:=⟨Tryz.f145.name,by decide,Tryz.func145.trans (congrArg some (by kernel_rfl))⟩
 f15:=Tryz.func146.trans (congrArg some (by kernel_rfl))
 f20:=⟨Tryz.f163.name,by decide,Tryz.func163.trans (congrArg some (by kernel_rfl))⟩
 f21:=⟨Tryz.f164.name,by decide,Tryz.func164.trans (congrArg some (by kernel_rfl))⟩
 f22:=⟨Tryz.f165.name,by decide,Tryz.func165.trans (congrArg some (by kernel_rfl))⟩
 f23:=⟨Tryz.f166.name,by decide,Tryz.func166.trans (congrArg some (by kernel_rfl))⟩
 f24:=⟨Tryz.f167.name,by decide,Tryz.func167.trans (congrArg some (by kernel_rfl))⟩
 f25:=⟨Tryz.f168.name,by decide,Tryz.func168.trans (congrArg some (by kernel_rfl))⟩
 f26:=⟨Tryz.f169.name,by decide,Tryz.func169.trans (congrArg some (by kernel_rfl))⟩
 f27:=⟨Tryz.f170.name,by decide,Tryz.func170.trans (congrArg some (by kernel_rfl))⟩
 f28:=Tryz.func171.trans (congrArg some (by kernel_rfl))
 f29:=Tryz.func172.trans (congrArg some (by kernel_rfl))
 f46:=⟨Tryz.f181.name,by decide,Tryz.func181.trans (congrArg some (by kernel_rfl))⟩
 f47:=Tryz.func182.trans (congrArg some (by kernel_rfl))
 f48:=Tryz.func183.trans (congrArg some (by kernel_rfl))
 f49:=⟨Tryz.f184.name,by decide,Tryz.func184.trans (congrArg some (by kernel_rfl))⟩
 f50:=⟨Tryz.f185.name,by decide,Tryz.func185.trans (congrArg some (by kernel_rfl))⟩
 f57:=⟨Tryz.f187.name,by decide,Tryz.func187.trans (congrArg some (by kernel_rfl))⟩
 t0:=Tryz.underlying0
 a0:=Tryz.isAgg0
 z0:=Tryz.sizeOf0
 v0:=Tryz.zeroValue0
 t3:=Tryz.underlying3
 a3:=Tryz.isAgg3
 z3:=Tryz.sizeOf3
 v3:=Tryz.zeroValue3
 t4:=Tryz.underlying4
 a4:=Tryz.isAgg4
 z4:=Tryz.sizeOf4
 v4:=Tryz.zeroValue4
 t5:=Tryz.underlying5
 a5:=Tryz.isAgg5
 z5:=Tryz.sizeOf5
 v5:=Tryz.zeroValue5
 t9:=Tryz.underlying9
 a9:=Tryz.isAgg9
 z9:=Tryz.sizeOf9
 v9:=Tryz.zeroValue9
 t22:=Tryz.underlying54
 a22:=Tryz.isAgg54
 z22:=Tryz.sizeOf54
 v22:=Tryz.zeroValue54
 a24:=Tryz.isAgg28
 z24:=Tryz.sizeOf28
 t25:=Tryz.underlying162
 a25:=Tryz.isAgg162
 z25:=Tryz.sizeOf162
 v25:=Tryz.zeroValue162
 t39:=Tryz.underlying185
 a39:=Tryz.isAgg185
 z39:=Tryz.sizeOf185
 v39:=Tryz.zeroValue185
 t45:=Tryz.underlying201
 a45:=Tryz.isAgg201
 z45:=Tryz.sizeOf201
 v45:=Tryz.zeroValue201
 t46:=Tryz.underlying202
 a46:=Tryz.isAgg202
 z46:=Tryz.sizeOf202
 v46:=Tryz.zeroValue202
 t50:=Tryz.underlying116
 a50:=Tryz.isAgg116
 z50:=Tryz.sizeOf116
 v50:=Tryz.zeroValue116
 t53:=Tryz.underlying208
 a53:=Tryz.isAgg208
 z53:=Tryz.sizeOf208
 v53:=Tryz.zeroValue208
 t55:=Tryz.underlying210
 a55:=Tryz.isAgg210
 z55:=Tryz.sizeOf210
 v55:=Tryz.zeroValue210
 t66:=Tryz.underlying214
 a66:=Tryz.isAgg214
 z66:=Tryz.sizeOf214
 v66:=Tryz.zeroValue214
 t70:=Tryz.underlying59
 a70:=Tryz.isAgg59
 z70:=Tryz.sizeOf59
 v70:=Tryz.zeroValue59
 t76:=Tryz.underlying220
 a76:=Tryz.isAgg220
 z76:=Tryz.sizeOf220
 v76:=Tryz.zeroValue220
 t77:=Tryz.underlying221
 a77:=Tryz.isAgg221
 z77:=Tryz.sizeOf221
 v77:=Tryz.zeroValue221}
theorem WD:B6 Tryz.prog 123 where
 ok:=⟨Tryz.f123,Tryz.func123,by kernel_rfl,by kernel_rfl⟩
 zero:=λp a u w=>AnyF.slices_SortFunc_none (ρ:=Tryz.Bi) {Tryz.TW with} p a u w
 all:=λenc c cf z g cb b off a d w B e C D G=>Any.slices_SortFunc_eq (ρ:=Tryz.Bi) Tryz.TW enc c cf z g cb b off a d w B e C D G
theorem Uv:∀f,EA.sort f=true->B6 Tryz.prog f:=λf h=>by have:f=123:=Nat.eq_of_beq_eq_true h;subst this;exact WD
theorem OO:∀f az y,EA.known f az=some y->DF Tryz.prog f az y:=λf az y h=>by cases h
theorem Xp(n:Nat):lJ Tryz.prog (run EA n):=HN X4 mixed ⟨Uv,OO⟩ n
end Go.Proofs.YtknifbdijcocpaaGreatDoor
namespace Go.Proofs.YtknifbdijcocpaaGreatDoor
open Go.VE Go.Proofs
def a0:V:=.agg [.fsl 3 [[.str (ByteArray.mk #[97]),.fsl 2 [[.str (ByteArray.mk #[120]),.int .i64 0]],.fsl 5 [[.int .i64 1,.int .i64 0,.int .i64 0,.int .i64 0,.fsl 2 [[.int .i64 0,.int .i64 1]]]]],[.str (ByteArray.mk #[98]),.fsl 2 [[.str (ByteArray.mk #[120]),.int .i64 0]],.fsl 5 [[.int .i64 1,.int .i64 0,.int .i64 0,.int .i64 0,.fsl 2 [[.int .i64 0,.int .i64 1]]]]]]]
def a1:V:=.agg [.int .i64 16,.int .i64 0,.int .i64 0,.int .i64 0,.str ByteArray.empty,.fsl 6 [[.int .i64 9,.int .i64 0,.int .i64 0,.int .i64 0,.str ByteArray.empty,.fsl 6 [[.int .i64 2,.int .i64 0,.int .i64 0,.int .i64 0,.str (ByteArray.mk #[120]),.bM],[.int .i64 1,.int .i64 1,.int .i64 0,.int .i64 0,.str ByteArray.empty,.bM]]],[.int .i64 9,.int .i64 0,.int .i64 0,.int .i64 0,.str ByteArray.empty,.fsl 6 [[.int .i64 2,.int .i64 0,.int .i64 1,.int .i64 0,.str (ByteArray.mk #[120]),.bM],[.int .i64 1,.int .i64 1,.int .i64 0,.int .i64 0,.str ByteArray.empty,.bM]]]]]
def a2:V:=.fsl 1 [[.int .i64 1],[.int .i64 0]]
def a3:V:=.fsl 1 [[.int .i64 0],[.int .i64 1]]
def a4:V:=.agg [.fsl 1 [[.int .i64 1],[.int .i64 1]],.fsl 1 [[.fsl 2 [[.int .i64 0,.int .i64 0]]],[.fsl 2 [[.int .i64 0,.int .i64 0]]]]]
def a5:V:=.fsl 1 [[.fsl 1 [[.int .i64 0],[.int .i64 1]]],[.fsl 1 [[.int .i64 1],[.int .i64 0]]]]
def a6:V:=.fsl 1 [[.int .i64 1],[.int .i64 1]]
def k0:fP:=⟨129,[a0,.int .i64 0],.int .i64 0⟩
theorem ZG:gF EA k0:=iB (n:=100) (l:=[]) Zab (by kernel_rfl)
def k1:fP:=⟨129,[a0,.int .i64 1],.int .i64 0⟩
theorem Zx:gF EA k1:=iB (n:=100) (l:=[]) Zab (by kernel_rfl)
def k2:fP:=⟨104,[a0],.tup [.agg [.int .i64 0,.int .i64 0],.int .i64 0]⟩
theorem Ic:gF EA k2:=iB (n:=100) (l:=[k0,k1]) (by simp only[forall_mem_cons];exact⟨ZG,Zx,Zab⟩) (by kernel_rfl)
def k3:fP:=⟨90,[a1],.bool true⟩
theorem Ui:gF EA k3:=iB (n:=100) (l:=[]) Zab (by kernel_rfl)
def k4:fP:=⟨95,[a1,.clo 112 [] []],.bool true⟩
theorem Uo:gF EA k4:=iB (n:=100) (l:=[]) Zab (by kernel_rfl)
def k5:fP:=⟨76,[a0,a1],.int .i64 0⟩
theorem YW:gF EA k5:=iB (n:=100) (l:=[k2,k3,k4]) (by simp only[forall_mem_cons];exact⟨Ic,Ui,Uo,Zab⟩) (by kernel_rfl)
def k6:fP:=⟨173,[.int .i64 1],.bool false⟩
theorem MZ:gF EA k6:=iB (n:=100) (l:=[]) Zab (by kernel_rfl)
def k7:fP:=⟨147,[.int .i64 1,.int .i64 1],.int .i64 0⟩
theorem UK:gF EA k7:=iB (n:=100) (l:=[k6]) (by simp only[forall_mem_cons];exact⟨MZ,Zab⟩) (by kernel_rfl)
def k8:fP:=⟨173,[.int .i64 0],.bool false⟩
theorem Nq:gF EA k8:=iB (n:=100) (l:=[]) Zab (by kernel_rfl)
def k9:fP:=⟨147,[.int .i64 0,.int .i64 0],.int .i64 0⟩
theorem ZI:gF EA k9:=iB (n:=100) (l:=[k8]) (by simp only[forall_mem_cons];exact⟨Nq,Zab⟩) (by kernel_rfl)
def k10:fP:=⟨124,[a2,a3],.int .i64 1⟩
theorem XU:gF EA k10:=iB (n:=100) (l:=[k6,k8]) (by simp only[forall_mem_cons];exact⟨MZ,Nq,Zab⟩) (by kernel_rfl)
def ZQ:fP:=⟨124,[a3,a2],.int .i64 (-1)⟩
theorem XV:gF EA ZQ:=iB (n:=100) (l:=[k8,k6]) (by simp only[forall_mem_cons];exact⟨Nq,MZ,Zab⟩) (by kernel_rfl)
def T7:fP:=⟨102,[a4,.fsl 1 [[.fsl 1 [[.int .i64 0],[.int .i64 0]]]]],a5⟩
theorem Iz:gF EA T7:=iB (n:=100) (l:=[k7,k9,k10,ZQ]) (by simp only[forall_mem_cons];exact⟨UK,ZI,XU,XV,Zab⟩) (by kernel_rfl)
def Z9:fP:=⟨125,[a6,a6],.int .i64 0⟩
theorem X2:gF EA Z9:=iB (n:=100) (l:=[k7]) (by simp only[forall_mem_cons];exact⟨UK,Zab⟩) (by kernel_rfl)
def Z3:fP:=⟨124,[a6,a6],.int .i64 0⟩
theorem X0:gF EA Z3:=iB (n:=100) (l:=[Z9]) (by simp only[forall_mem_cons];exact⟨X2,Zab⟩) (by kernel_rfl)
def T5:fP:=⟨102,[a4,a5],.fsl 1 [[.fsl 1 [[.int .i64 1],[.int .i64 1]]]]⟩
theorem KE:gF EA T5:=iB (n:=100) (l:=[Z3]) (by simp only[forall_mem_cons];exact⟨X0,Zab⟩) (by kernel_rfl)
def k16:fP:=⟨62,[a0,a1],.tup [.fsl 1 [[.fsl 1 [[.int .i64 0],[.int .i64 0]]],[.fsl 1 [[.int .i64 0],[.int .i64 1]]],[.fsl 1 [[.int .i64 1],[.int .i64 0]]],[.fsl 1 [[.int .i64 1],[.int .i64 1]]]],.fsl 1 [[.bool false],[.bool false],[.bool false],[.bool true]],.int .i64 0]⟩
theorem XR:gF EA k16:=iB (n:=100) (l:=[k5,k3,k4,k2,T7,T5]) (by simp only[forall_mem_cons];exact⟨YW,Ui,Uo,Ic,Iz,KE,Zab⟩) (by kernel_rfl)
def k17:fP:=⟨62,[a0,.agg [.int .i64 17,.int .i64 0,.int .i64 0,.int .i64 0,.str ByteArray.empty,.fsl 6 [[.int .i64 9,.int .i64 0,.int .i64 0,.int .i64 0,.str ByteArray.empty,.fsl 6 [[.int .i64 2,.int .i64 0,.int .i64 0,.int .i64 0,.str (ByteArray.mk #[120]),.bM],[.int .i64 1,.int .i64 1,.int .i64 0,.int .i64 0,.str ByteArray.empty,.bM]]],[.int .i64 9,.int .i64 0,.int .i64 0,.int .i64 0,.str ByteArray.empty,.fsl 6 [[.int .i64 2,.int .i64 0,.int .i64 1,.int .i64 0,.str (ByteArray.mk #[120]),.bM],[.int .i64 1,.int .i64 1,.int .i64 0,.int .i64 0,.str ByteArray.empty,.bM]]]]]],.tup [.fsl 1 [[.fsl 1 [[.int .i64 0],[.int .i64 0]]],[.fsl 1 [[.int .i64 0],[.int .i64 1]]],[.fsl 1 [[.int .i64 1],[.int .i64 0]]],[.fsl 1 [[.int .i64 1],[.int .i64 1]]]],.fsl 1 [[.bool false],[.bool true],[.bool true],[.bool true]],.int .i64 0]⟩
theorem Yb:gF EA k17:=iB (n:=100) (l:=[k2,T7,T5]) (by simp only[forall_mem_cons];exact⟨Ic,Iz,KE,Zab⟩) (by kernel_rfl)
theorem Nc:∃n H1,run EA n (.fn 4) [] []=some (.bool true,H1):=Ol (n:=100) (l:=[k16,k2,T7,T5,k17]) (by simp only[forall_mem_cons];exact⟨XR,Ic,Iz,KE,Yb,Zab⟩) (by kernel_rfl)
theorem calls(n:Nat):lJ Tryz.prog (run E n):=HN Y4 mixed ⟨Uv,λf az b h=>by
 by_cases u:beq f 4=true
 .have e:E.known f az=if az.isEmpty then some (.bool true)else none:=by unfold E DX;simp only[u,if_true]
  rw[e]at h;split at h
  next w=>cases h;have:f=4:=Nat.eq_of_beq_eq_true u;subst this;have:az=[]:=List.isEmpty_iff.1 w;subst this;obtain⟨n,H1,a⟩:=Nc;exact PJ (Xp n) a
  cases h
 have e:E.known f az=EA.known f az:=by unfold E EA DX;simp only[u,if_false,Bool.false_eq_true]
 rw[e]at h;exact OO f az b h⟩ n
end Go.Proofs.YtknifbdijcocpaaGreatDoor
