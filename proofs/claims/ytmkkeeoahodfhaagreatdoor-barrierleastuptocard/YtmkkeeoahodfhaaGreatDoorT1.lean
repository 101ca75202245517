/-
 The tables of this seat, and the law's own awakening.
-/
import Derived.Test.YtmkkeeoahodfhaaGreatDoorProg
import Derived.KernelRfl
import Derived.Test.YtmkkeeoahodfhaaGreatDoorV2
set_option linter.all false
namespace Go.Proofs.YtmkkeeoahodfhaaGreatDoor
open Go.VE Go.Proofs
def DX:List Int:=[-1,0,0,0,0,1,2,2,2,2,2,2,2,0,0,1,2,2,1,1,1,1]
instance:bN:=⟨λg=>if Nat.beq g 0 then some (DX.map (V.int .i64))else none,λg t h=>by
 split at h
 .cases h;exact⟨_,_,rfl⟩
 .cases h⟩
noncomputable def EA:Env:=AX Tryz.prog [0,1,195,83] [161,85,90,198,195,200,202,203,227,84] [161,85,90] [(98,2),(120,8)] (λf=>Nat.beq f 195) λf az=>(if Nat.beq f 83 then s7 8 az else none)
noncomputable def E:Env:=AX Tryz.prog [0,1,195,83,27] [161,85,90,198,195] [161,85,90] [(98,2),(120,8)] (λf=>Nat.beq f 195) λf az=>if Nat.beq f 27 then(if az.isEmpty then some (.bool true)else none)else(if Nat.beq f 83 then s7 8 az else none)
theorem Tn:zq Tryz.prog=true:=by kernel_rfl
theorem TG:rM Tryz.prog 98 2:=rM.two (i:=3) Tryz.underlying98 rfl rfl rfl rfl (by decide) (by decide) (by kernel_rfl) Tryz.underlying3 (by kernel_rfl) (by kernel_rfl)
theorem Th:rM Tryz.prog 120 8:=rM.arr (i:=3) Tryz.underlying120 (by kernel_rfl) Tryz.underlying3 (by kernel_rfl)
theorem Rw:∀p∈[(98,2),(120,8)],rM Tryz.prog p.1 p.2:=λp h=>match p,h with|_,.head _=>TG|_,.tail _ (.head _)=>Th
theorem Ri:dV Tryz.prog EA:=ER Tn Rw
theorem SB:dV Tryz.prog E:=ER Tn Rw
theorem mixed:Tryz.prog.follows .mixedOrders=true:=by kernel_rfl
open Go.Shelf
def Tryz.yz:Go.Shelf.Ren:=⟨λ|6=>195|15=>224|14=>223|28=>244|29=>245|20=>236|21=>237|22=>238|23=>239|24=>240|25=>241|26=>242|27=>243|46=>255|47=>256|48=>257|49=>258|50=>259|57=>265|n=>n,λ|22=>37|24=>41|25=>223|3=>3|39=>242|0=>0|53=>260|55=>262|4=>4|46=>254|45=>253|50=>166|5=>5|9=>9|66=>268|70=>272|76=>277|77=>278|n=>n,λ|n=>n⟩
theorem Tryz.Oe:Go.Proofs.SlLaysF.n6 Tryz.prog Tryz.yz:={
 mixed:=by kernel_rfl
 f6:=⟨Tryz.f195.name,by decide,Tryz.func195.trans (congrArg some (by kernel_rfl))⟩
 f14:=⟨Tryz.f223.name,by decide,Tryz.func223.trans (congrArg some (by kernel_rfl))⟩
 f15:=Tryz.func224.trans (congrArg some (by kernel_rfl))
 f20:=⟨Tryz.f236.name,by decide,Tryz.func236.trans (congrArg some (by kernel_rfl))⟩
 f21:=⟨Tryz.f237.name,by decide,Tryz.func237.trans (congrArg some (by kernel_rfl))⟩
 f22:=⟨Tryz.f238.name,by decide,Tryz.func238.trans (congrArg some (by kernel_rfl))⟩
 f23:=⟨Tryz.f239.name,by decide,Tryz.func239.trans (congrArg some (by kernel_rfl))⟩
 f24:=⟨Tryz.f240.name,by decide,Tryz.func240.trans (congrArg some (by kernel_rfl))⟩
 f25:=⟨Tryz.f241.name,by decide,Tryz.func241.trans (congrArg some (by kernel_rfl))⟩
 f26:=⟨Tryz.f242.name,by decide,Tryz.func242.trans (congrArg some (by kernel_rfl))⟩
 f27:=⟨Tryz.f243.name,by decide,Tryz.func243.trans (congrArg some (by kernel_rfl))⟩
 f28:=Tryz.func244.trans (congrArg some (by kernel_rfl))
 f29:=Tryz.func245.trans (congrArg some (by kernel_rfl))
 f46:=⟨Tryz.f255.name,by decide,Tryz.func255.trans (congrArg some (by kernel_rfl))⟩
 f47:=Tryz.func256.trans (congrArg some (by kernel_rfl))
 f48:=Tryz.func257.trans (congrArg some (by kernel_rfl))
 f49:=⟨Tryz.f258.name,by decide,Tryz.func258.trans (congrArg some (by kernel_rfl))⟩
 f50:=⟨Tryz.f259.name,by decide,Tryz.func259.trans (congrArg some (by kernel_rfl))⟩
 f57:=⟨Tryz.f265.name,by decide,Tryz.func265.trans (congrArg some (by kernel_rfl))⟩
 t0:=Tryz.underlying0
 a0:=Tryz.isAgg0
 z0:=Tryz.sizeOf0
 v0:=Tryz.zeroValue0
 t3:=Tryz.underlying3
 a3:=Tryz.isAgg3
 z3:=Tryz.sizeOf3
 v3:=Tryz.zeroValue3
 t4:=Tryz.underlying4
 a4:=Tryz.isAgg4
 z4:=Tryz.sizeOf4
 v4:=Tryz.zeroValue4
 t5:=Tryz.underlying5
 a5:=Tryz.isAgg5
 z5:=Tryz.sizeOf5
 v5:=Tryz.zeroValue5
 t9:=Tryz.underlying9
 a9:=Tryz.isAgg9
 z9:=Tryz.sizeOf9
 v9:=Tryz.zeroValue9
 t22:=Tryz.underlying37
 a22:=Tryz.isAgg37
 z22:=Tryz.sizeOf37
 v22:=Tryz.zeroValue37
 a24:=Tryz.isAgg41
 z24:=Tryz.sizeOf41
 t25:=Tryz.underlying223
 a25:=Tryz.isAgg223
 z25:=Tryz.sizeOf223
 v25:=Tryz.zeroValue223
 t39:=Tryz.underlying242
 a39:=Tryz.isAgg242
 z39:=Tryz.sizeOf242
 v39:=Tryz.zeroValue242
 t45:=Tryz.underlying253
 a45:=Tryz.isAgg253
 z45:=Tryz.sizeOf253
 v45:=Tryz.zeroValue253
 t46:=Tryz.underlying254
 a46:=Tryz.isAgg254
 z46:=Tryz.sizeOf254
 v46:=Tryz.zeroValue254
 t50:=Tryz.underlying166
 a50:=Tryz.isAgg166
 z50:=Tryz.sizeOf166
 v50:=Tryz.zeroValue166
 t53:=Tryz.underlying260
 a53:=Tryz.isAgg260
 z53:=Tryz.sizeOf260
 v53:=Tryz.zeroValue260
 t55:=Tryz.underlying262
 a55:=Tryz.isAgg262
 z55:=Tryz.sizeOf262
 v55:=Tryz.zeroValue262
 t66:=Tryz.underlying268
 a66:=Tryz.isAgg268
 z66:=Tryz.sizeOf268
 v66:=Tryz.zeroValue268
 t70:=Tryz.underlying272
 a70:=Tryz.isAgg272
 z70:=Tryz.sizeOf272
 v70:=Tryz.zeroValue272
 t76:=Tryz.underlying277
 a76:=Tryz.isAgg277
 z76:=Tryz.sizeOf277
 v76:=Tryz.zeroValue277
 t77:=Tryz.underlying278
 a77:=Tryz.isAgg278
 z77:=Tryz.sizeOf278
 v77:=Tryz.zeroValue278 }
theorem O6:za Tryz.prog 195 where
 ok:=⟨Tryz.f195,Tryz.func195,by kernel_rfl,by kernel_rfl⟩
 zero:=λp cap t w=>AnyF.slices_SortFunc_none (ρ:=Tryz.yz) { Tryz.Oe with } p cap t w
 all:=λenc h1 cf u g cb blk off cap d w z hc A B C=>Any.slices_SortFunc_eq (ρ:=Tryz.yz) Tryz.Oe enc h1 cf u g cb blk off cap d w z hc A B C
theorem N4:∀f,EA.sort f=true->za Tryz.prog f:=λf h=>by
 have:f=195:=Nat.eq_of_beq_eq_true h;subst this;exact O6
theorem u_:∀az y,s7 8 az=some y->um Tryz.prog 83 az y:=
 O1 (f:=83) (A:=120) (S:=41) (e:=3) (n:=8) (bytes:=64) Tryz.func83 rfl rfl rfl (by kernel_rfl) Tryz.underlying120 Tryz.underlying41 (by kernel_rfl) (by kernel_rfl)
theorem KG:∀f az y,EA.known f az=some y->um Tryz.prog f az y:=λf az y h=>by
 change (if Nat.beq f 83 then s7 8 az else none)=some y at h;split at h
 .rename_i t;have:f=83:=Nat.eq_of_beq_eq_true t;subst this;exact u_ az y h
 .cases h
theorem RR (n:Nat):jI Tryz.prog (run EA n):=Dq Ri mixed ⟨N4,KG⟩ n
end Go.Proofs.YtmkkeeoahodfhaaGreatDoor
namespace Go.Proofs.YtmkkeeoahodfhaaGreatDoor
open Go.VE Go.Proofs
def a0:V:=.agg [.fsl 3 [[.str (ByteArray.mk #[112]),.bB,.fsl 5 [[.int .i64 1,.int .i64 0,.int .i64 0,.int .i64 0,.bB]]],[.str (ByteArray.mk #[113]),.bB,.fsl 5 [[.int .i64 1,.int .i64 0,.int .i64 0,.int .i64 0,.bB]]]]]
def a1:V:=.fsl 1 [[.int .i64 1],[.int .i64 1]]
def k0:gB:=⟨106,[a0],.tup [.agg [.int .i64 0,.int .i64 0],.int .i64 0]⟩
theorem IN:jt EA k0:=lP (n:=100) (l:=[]) (by simp) (by kernel_rfl)
def k1:gB:=⟨246,[.int .i64 1],.bool false⟩
theorem OE:jt EA k1:=lP (n:=100) (l:=[]) (by simp) (by kernel_rfl)
def k2:gB:=⟨225,[.int .i64 1,.int .i64 1],.int .i64 0⟩
theorem Ox:jt EA k2:=lP (n:=100) (l:=[k1]) (by simp only[List.forall_mem_cons];exact⟨OE,by simp⟩) (by kernel_rfl)
def k3:gB:=⟨246,[.int .i64 0],.bool false⟩
theorem Om:jt EA k3:=lP (n:=100) (l:=[]) (by simp) (by kernel_rfl)
def k4:gB:=⟨225,[.int .i64 0,.int .i64 0],.int .i64 0⟩
theorem SC:jt EA k4:=lP (n:=100) (l:=[k3]) (by simp only[List.forall_mem_cons];exact⟨Om,by simp⟩) (by kernel_rfl)
def k5:gB:=⟨163,[.agg [.fsl 1 [[.int .i64 1],[.int .i64 1]],.fsl 1 [[.fsl 2 [[.int .i64 0,.int .i64 0]]],[.fsl 2 [[.int .i64 0,.int .i64 0]]]]],.fsl 1 [[.fsl 1 [[.int .i64 0],[.int .i64 0]]]]],.fsl 1 [[.fsl 1 [[.int .i64 0],[.int .i64 1]]],[.fsl 1 [[.int .i64 1],[.int .i64 0]]]]⟩
theorem SS:jt EA k5:=lP (n:=100) (l:=[k2,k4,k1,k3]) (by simp only[List.forall_mem_cons];exact⟨Ox,SC,OE,Om,by simp⟩) (by kernel_rfl)
def k6:gB:=⟨197,[a1,a1],.int .i64 0⟩
theorem SL:jt EA k6:=lP (n:=100) (l:=[k2]) (by simp only[List.forall_mem_cons];exact⟨Ox,by simp⟩) (by kernel_rfl)
def k7:gB:=⟨196,[a1,a1],.int .i64 0⟩
theorem Ti:jt EA k7:=lP (n:=100) (l:=[k6]) (by simp only[List.forall_mem_cons];exact⟨SL,by simp⟩) (by kernel_rfl)
def k8:gB:=⟨118,[a0],.tup [.fsl 1 [[.fsl 1 [[.fsl 1 [[.int .i64 0],[.int .i64 0]]]]],[.fsl 1 [[.fsl 1 [[.int .i64 0],[.int .i64 1]]],[.fsl 1 [[.int .i64 1],[.int .i64 0]]]]],[.fsl 1 [[.fsl 1 [[.int .i64 1],[.int .i64 1]]]]]],.int .i64 0]⟩
theorem NT:jt EA k8:=lP (n:=100) (l:=[k0,k5,k7]) (by simp only[List.forall_mem_cons];exact⟨IN,SS,Ti,by simp⟩) (by kernel_rfl)
def k9:gB:=⟨101,[.fptr [.fsl 3 [[.str (ByteArray.mk #[112]),.bB,.fsl 5 [[.int .i64 1,.int .i64 0,.int .i64 0,.int .i64 0,.bB]]],[.str (ByteArray.mk #[113]),.bB,.fsl 5 [[.int .i64 1,.int .i64 0,.int .i64 0,.int .i64 0,.bB]]]],.fsl 1 [[.fsl 1 [[.int .i64 0],[.int .i64 0]]],[.fsl 1 [[.int .i64 0],[.int .i64 1]]],[.fsl 1 [[.int .i64 1],[.int .i64 0]]],[.fsl 1 [[.int .i64 1],[.int .i64 1]]]],.fsl 1 [[.fsl 1 [[.int .i64 2],[.int .i64 1]]],[.fsl 1 [[.int .i64 3]]],[.fsl 1 [[.int .i64 3]]],[.bB]]],.agg [.int .i64 9,.int .i64 0,.int .i64 0,.int .i64 0,.str ByteArray.empty,.fsl 6 [[.int .i64 3,.int .i64 0,.int .i64 0,.int .i64 0,.str ByteArray.empty,.bB],[.int .i64 1,.int .i64 1,.int .i64 0,.int .i64 0,.str ByteArray.empty,.bB]]]],.fsl 1 [[.bool false],[.bool false],[.bool true],[.bool true]]⟩
theorem Tc:jt EA k9:=lP (n:=100) (l:=[k0,k8]) (by simp only[List.forall_mem_cons];exact⟨IN,NT,by simp⟩) (by kernel_rfl)
theorem Iu:∃n H1,run EA n (.fn 27) [] []=some (.bool true,H1):=Il (n:=100) (l:=[k0,k8,k9]) (by simp only[List.forall_mem_cons];exact⟨IN,NT,Tc,by simp⟩) (by kernel_rfl)
theorem calls (n:Nat):jI Tryz.prog (run E n):=Dq SB mixed ⟨N4,λf az b h=>by
 by_cases t:Nat.beq f 27=true
 .have e:E.known f az=if az.isEmpty then some (.bool true)else none:=by unfold E AX;simp only[t,if_true]
  rw[e]at h;split at h
  .rename_i u;cases h;have:f=27:=Nat.eq_of_beq_eq_true t;subst this;have:az=[]:=List.isEmpty_iff.1 u;subst this;obtain⟨n,H1,h1⟩:=Iu;exact JU (RR n) h1
  .cases h
 .have e:E.known f az=EA.known f az:=by unfold E EA AX;simp only[t,if_false,Bool.false_eq_true]
  rw[e]at h;exact KG f az b h⟩ n
end Go.Proofs.YtmkkeeoahodfhaaGreatDoor
