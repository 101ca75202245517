/-
 The tables of this seat, and the law's own awakening.
-/
import Derived.Shelf.SlSortCmp.NoneTotal
import Derived.Test.YtegogepdjcdfcacGreatDoorProg
import Derived.KernelRfl
import Derived.Test.YtegogepdjcdfcacGreatDoorV2
set_option linter.all false
namespace Go.Proofs.YtegogepdjcdfcacGreatDoor
open Go.VE Go.Proofs
def FT:a_ Int:=[-1,0,0,0,0,1,2,2,2,2,2,2,2,0,0,1,2,2,1,1,1,1]
instance:bO:=⟨λg=>if Nat.beq g 0 then some (FT.map (V.int .i64))else none,λg cs h=>by
 split at h
 .cases h;exact⟨_,_,rfl⟩
 cases h⟩
noncomputable def EA:Env:=DD Tryz.prog [0,1,69,68] [109,32,189,200,69,160,163,162,181,37,35,36,67,47,66] [109,32,189,47,66] [(75,2),(103,8)] (λf=>Nat.beq f 69) (λf az=>(if Nat.beq f 68 then uX 8 az else none)) [37]
noncomputable def E:Env:=DD Tryz.prog [0,1,69,68,4] [109,32,189,200,69,160,163,162,181,37,35,36,67] [109,32,189] [(75,2),(103,8)] (λf=>Nat.beq f 69) (λf az=>if Nat.beq f 4 then(if az.isEmpty then some (.bool true)else none)else(if Nat.beq f 68 then uX 8 az else none)) [37]
theorem WX:Az Tryz.prog=true:=by kernel_rfl
theorem XJ:s6 Tryz.prog 75 2:=s6.two (i:=3) Tryz.underlying75 rfl rfl rfl rfl (by decide) (by decide) (by kernel_rfl) Tryz.underlying3 (by kernel_rfl) (by kernel_rfl)
theorem V6:s6 Tryz.prog 103 8:=s6.arr (i:=3) Tryz.underlying103 (by kernel_rfl) Tryz.underlying3 (by kernel_rfl)
theorem UQ:∀p∈[(75,2),(103,8)],s6 Tryz.prog p.1 p.2:=λp h=>match p,h with|_,.head _=>XJ|_,.tail _ (.head _)=>V6
theorem UA:dU Tryz.prog EA:=GH WX UQ
theorem WM:dU Tryz.prog E:=GH WX UQ
theorem mixed:Tryz.prog.follows .mixedOrders=true:=by kernel_rfl
open Go.Shelf
def Tryz.ze:Go.Shelf.Ren:=⟨λ|6=>69|15=>97|14=>96|28=>133|29=>134|20=>125|21=>126|22=>127|23=>128|24=>129|25=>130|26=>131|27=>132|46=>155|47=>156|48=>157|49=>158|50=>159|57=>179|n=>n,λ|22=>25|24=>26|25=>109|3=>3|39=>135|0=>0|53=>173|55=>175|4=>4|46=>166|45=>165|50=>170|5=>5|9=>9|66=>188|70=>192|76=>208|77=>209|n=>n,λ|n=>n⟩
theorem Tryz.Q6:Go.Proofs.SlLaysF.n6 Tryz.prog Tryz.ze:={
 mixed:=by kernel_rfl
 f6:=⟨Tryz.f69.name,by decide,Tryz.func69.trans (congrArg some (by kernel_rfl))⟩
 f14:=⟨Tryz.f96.name,by decide,Tryz.func96.trans (congrArg some (by kernel_rfl))⟩
 f15:=Tryz.func97.trans (congrArg some (by kernel_rfl))
 f20:=⟨Tryz.f125.name,by decide,Tryz.func125.trans (congrArg some (by kernel_rfl))⟩
 f21:=⟨Tryz.f126.name,by decide,Tryz.func126.trans (congrArg some (by kernel_rfl))⟩
 f22:=⟨Tryz.f127.name,by decide,Tryz.func127.trans (congrArg some (by kernel_rfl))⟩
 f23:=⟨Tryz.f128.name,by decide,Tryz.func128.trans (congrArg some (by kernel_rfl))⟩
 f24:=⟨Tryz.f129.name,by decide,Tryz.func129.trans (congrArg some (by kernel_rfl))⟩
 f25:=⟨Tryz.f130.name,by decide,Tryz.func130.trans (congrArg some (by kernel_rfl))⟩
 f26:=⟨Tryz.f131.name,by decide,Tryz.func131.trans (congrArg some (by kernel_rfl))⟩
 f27:=⟨Tryz.f132.name,by decide,Tryz.func132.trans (congrArg some (by kernel_rfl))⟩
 f28:=Tryz.func133.trans (congrArg some (by kernel_rfl))
 f29:=Tryz.func134.trans (congrArg some (by kernel_rfl))
 f46:=⟨Tryz.f155.name,by decide,Tryz.func155.trans (congrArg some (by kernel_rfl))⟩
 f47:=Tryz.func156.trans (congrArg some (by kernel_rfl))
 f48:=Tryz.func157.trans (congrArg some (by kernel_rfl))
 f49:=⟨Tryz.f158.name,by decide,Tryz.func158.trans (congrArg some (by kernel_rfl))⟩
 f50:=⟨Tryz.f159.name,by decide,Tryz.func159.trans (congrArg some (by kernel_rfl))⟩
 f57:=⟨Tryz.f179.name,by decide,Tryz.func179.trans (congrArg some (by kernel_rfl))⟩
 t0:=Tryz.underlying0
 a0:=Tryz.isAgg0
 z0:=Tryz.sizeOf0
 v0:=Tryz.zeroValue0
 t3:=Tryz.underlying3
 a3:=Tryz.isAgg3
 z3:=Tryz.sizeOf3
 v3:=Tryz.zeroValue3
 t4:=Tryz.underlying4
 a4:=Tryz.isAgg4
 z4:=Tryz.sizeOf4
 v4:=Tryz.zeroValue4
 t5:=Tryz.underlying5
 a5:=Tryz.isAgg5
 z5:=Tryz.sizeOf5
 v5:=Tryz.zeroValue5
 t9:=Tryz.underlying9
 a9:=Tryz.isAgg9
 z9:=Tryz.sizeOf9
 v9:=Tryz.zeroValue9
 t22:=Tryz.underlying25
 a22:=Tryz.isAgg25
 z22:=Tryz.sizeOf25
 v22:=Tryz.zeroValue25
 a24:=Tryz.isAgg26
 z24:=Tryz.sizeOf26
 t25:=Tryz.underlying109
 a25:=Tryz.isAgg109
 z25:=Tryz.sizeOf109
 v25:=Tryz.zeroValue109
 t39:=Tryz.underlying135
 a39:=Tryz.isAgg135
 z39:=Tryz.sizeOf135
 v39:=Tryz.zeroValue135
 t45:=Tryz.underlying165
 a45:=Tryz.isAgg165
 z45:=Tryz.sizeOf165
 v45:=Tryz.zeroValue165
 t46:=Tryz.underlying166
 a46:=Tryz.isAgg166
 z46:=Tryz.sizeOf166
 v46:=Tryz.zeroValue166
 t50:=Tryz.underlying170
 a50:=Tryz.isAgg170
 z50:=Tryz.sizeOf170
 v50:=Tryz.zeroValue170
 t53:=Tryz.underlying173
 a53:=Tryz.isAgg173
 z53:=Tryz.sizeOf173
 v53:=Tryz.zeroValue173
 t55:=Tryz.underlying175
 a55:=Tryz.isAgg175
 z55:=Tryz.sizeOf175
 v55:=Tryz.zeroValue175
 t66:=Tryz.underlying188
 a66:=Tryz.isAgg188
 z66:=Tryz.sizeOf188
 v66:=Tryz.zeroValue188
 t70:=Tryz.underlying192
 a70:=Tryz.isAgg192
 z70:=Tryz.sizeOf192
 v70:=Tryz.zeroValue192
 t76:=Tryz.underlying208
 a76:=Tryz.isAgg208
 z76:=Tryz.sizeOf208
 v76:=Tryz.zeroValue208
 t77:=Tryz.underlying209
 a77:=Tryz.isAgg209
 z77:=Tryz.sizeOf209
 v77:=Tryz.zeroValue209 }
theorem S5:AZ Tryz.prog 69 where
 ok:=⟨Tryz.f69,Tryz.func69,by kernel_rfl,by kernel_rfl⟩
 zero:=λp cap t w=>AnyF.slices_SortFunc_none (ρ:=Tryz.ze) { Tryz.Q6 with } p cap t w
 all:=λenc h1 cf u g cb blk off cap d w z hc B C D=>Any.slices_SortFunc_eq (ρ:=Tryz.ze) Tryz.Q6 enc h1 cf u g cb blk off cap d w z hc B C D
theorem Ru:∀f,EA.sort f=true->AZ Tryz.prog f:=λf h=>by
 have:f=69:=Nat.eq_of_beq_eq_true h;subst this;exact S5
theorem wB:∀az y,uX 8 az=some y->vW Tryz.prog 68 az y:=
 Tr (f:=68) (A:=103) (S:=26) (e:=3) (n:=8) (bytes:=64) Tryz.func68 rfl rfl rfl (by kernel_rfl) Tryz.underlying103 Tryz.underlying26 (by kernel_rfl) (by kernel_rfl)
theorem Nt:∀f az y,EA.known f az=some y->vW Tryz.prog f az y:=λf az y h=>by
 change (if Nat.beq f 68 then uX 8 az else none)=some y at h;split at h
 next t=>have:f=68:=Nat.eq_of_beq_eq_true t;subst this;exact wB az y h
 cases h
theorem Ut (n:Nat):kz Tryz.prog (run EA n):=EB UA mixed ⟨Ru,Nt⟩ n
end Go.Proofs.YtegogepdjcdfcacGreatDoor
namespace Go.Proofs.YtegogepdjcdfcacGreatDoor
open Go.VE Go.Proofs
def a0:V:=.agg [.fsl 3 [[.str (ByteArray.mk #[112]),.bN,.fsl 5 [[.int .i64 1,.int .i64 0,.int .i64 0,.int .i64 0,.bN]]],[.str (ByteArray.mk #[113]),.bN,.fsl 5 [[.int .i64 1,.int .i64 0,.int .i64 0,.int .i64 0,.bN]]]]]
def k0:jk:=⟨58,[a0],.tup [.agg [.int .i64 0,.int .i64 0],.int .i64 0]⟩
theorem Ll:ni EA k0:=tH (n:=100) (l:=[]) Zc (by kernel_rfl)
def k1:jk:=⟨98,[.int .i64 1],.bool false⟩
theorem L6:ni EA k1:=tH (n:=100) (l:=[]) Zc (by kernel_rfl)
def k2:jk:=⟨72,[.int .i64 1,.int .i64 1],.int .i64 0⟩
theorem Rr:ni EA k2:=tH (n:=100) (l:=[k1]) (by simp only[List.forall_mem_cons];exact⟨L6,by simp⟩) (by kernel_rfl)
def k3:jk:=⟨174,[a0],.tup [.fsl 1 [[.fsl 1 [[.fsl 1 [[.int .i64 0],[.int .i64 0]]]]],[.fsl 1 [[.fsl 1 [[.int .i64 0],[.int .i64 1]]],[.fsl 1 [[.int .i64 1],[.int .i64 0]]]]],[.fsl 1 [[.fsl 1 [[.int .i64 1],[.int .i64 1]]]]]],.int .i64 0]⟩
theorem Wy:ni EA k3:=tH (n:=100) (l:=[k0,k2,k1]) (by simp only[List.forall_mem_cons];exact⟨Ll,Rr,L6,by simp⟩) (by kernel_rfl)
def k4:jk:=⟨48,[.agg [.bool false,.fsl 1 [[.int .i64 0],[.int .i64 0]],.fsl 1 [[.int .i64 1],[.int .i64 1]],.fsl 1 [[.fsl 1 [[.fsl 1 [[.int .i64 1],[.int .i64 1]]]]],[.fsl 1 [[.fsl 1 [[.int .i64 1],[.int .i64 1]]]]]]]],.tup [.fsl 1 [[.fsl 1 [[.int .i64 0],[.int .i64 0]]],[.fsl 1 [[.int .i64 1],[.int .i64 1]]]],.bool true]⟩
theorem QX:ni EA k4:=tH (n:=100) (l:=[k1,k2]) (by simp only[List.forall_mem_cons];exact⟨L6,Rr,by simp⟩) (by kernel_rfl)
def k5:jk:=⟨17,[a0,.agg [.int .i64 9,.int .i64 0,.int .i64 0,.int .i64 0,.str ByteArray.empty,.fsl 6 [[.int .i64 3,.int .i64 0,.int .i64 0,.int .i64 0,.str ByteArray.empty,.bN],[.int .i64 3,.int .i64 0,.int .i64 1,.int .i64 0,.str ByteArray.empty,.bN]]]],.tup [.agg [.bool false,.fsl 1 [[.int .i64 0],[.int .i64 0]],.fsl 1 [[.int .i64 1],[.int .i64 1]],.fsl 1 [[.fsl 1 [[.fsl 1 [[.int .i64 1],[.int .i64 1]]]]],[.fsl 1 [[.fsl 1 [[.int .i64 1],[.int .i64 1]]]]]]],.int .i64 0]⟩
theorem WB:ni EA k5:=tH (n:=100) (l:=[k0,k3,k4]) (by simp only[List.forall_mem_cons];exact⟨Ll,Wy,QX,by simp⟩) (by kernel_rfl)
theorem KY:∃n H1,run EA n (.fn 4) [] []=some (.bool true,H1):=KP (n:=100) (l:=[k5,k0,k4]) (by simp only[List.forall_mem_cons];exact⟨WB,Ll,QX,by simp⟩) (by kernel_rfl)
theorem calls (n:Nat):kz Tryz.prog (run E n):=EB WM mixed ⟨Ru,λf az b h=>by
 by_cases t:Nat.beq f 4=true
 .have e:E.known f az=if az.isEmpty then some (.bool true)else none:=by unfold E DD;simp only[t,if_true]
  rw[e]at h;split at h
  next u=>cases h;have:f=4:=Nat.eq_of_beq_eq_true t;subst this;have:az=[]:=List.isEmpty_iff.1 u;subst this;obtain⟨n,H1,h1⟩:=KY;exact Nb (Ut n) h1
  cases h
 have e:E.known f az=EA.known f az:=by unfold E EA DD;simp only[t,if_false,Bool.false_eq_true]
 rw[e]at h;exact Nt f az b h⟩ n
end Go.Proofs.YtegogepdjcdfcacGreatDoor
