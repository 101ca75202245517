/-
 The tables of this seat, and the law's own awakening.
-/
import Derived.Test.YtlhegnhabpldfaaGreatDoorProg
import Derived.KernelRfl
import Derived.Test.YtlhegnhabpldfaaGreatDoorV2
set_option linter.all false
namespace Go.Proofs.YtlhegnhabpldfaaGreatDoor
open Go.VE Go.Proofs
def Fi:List Int:=[-1,0,0,0,0,1,2,2,2,2,2,2,2,0,0,1,2,2,1,1,1,1]
instance:bV:=⟨λg=>if Nat.beq g 0 then some (Fi.map (V.int .i64))else none,λg u h=>by
 split at h
 .cases h;exact⟨_,_,rfl⟩
 cases h⟩
noncomputable def EA:Env:=CE Tryz.prog [0,1,147,35] [79,37,39,150,147,42,58,152,154,155,174,36] [79,37,39,58] [(72,2),(82,8)] (λf=>Nat.beq f 147) λf az=>(if Nat.beq f 35 then uj 8 az else none)
noncomputable def E:Env:=CE Tryz.prog [0,1,147,35,5] [79,37,39,150,147,42,58] [79,37,39,58] [(72,2),(82,8)] (λf=>Nat.beq f 147) λf az=>if Nat.beq f 5 then(if az.isEmpty then some (.bool true)else none)else(if Nat.beq f 35 then uj 8 az else none)
theorem VV:z6 Tryz.prog=true:=by kernel_rfl
theorem V_:sF Tryz.prog 72 2:=sF.two (i:=3) Tryz.underlying72 rfl rfl rfl rfl (by decide) (by decide) (by kernel_rfl) Tryz.underlying3 (by kernel_rfl) (by kernel_rfl)
theorem Wm:sF Tryz.prog 82 8:=sF.arr (i:=3) Tryz.underlying82 (by kernel_rfl) Tryz.underlying3 (by kernel_rfl)
theorem Ux:∀p∈[(72,2),(82,8)],sF Tryz.prog p.1 p.2:=λp h=>match p,h with|_,.head _=>V_|_,.tail _ (.head _)=>Wm
theorem Ty:eG Tryz.prog EA:=Gz VV Ux
theorem VA:eG Tryz.prog E:=Gz VV Ux
theorem mixed:Tryz.prog.follows .mixedOrders=true:=by kernel_rfl
open Go.Shelf
def Tryz.zw:Go.Shelf.Ren:=⟨λ|6=>147|15=>171|14=>170|28=>192|29=>193|20=>184|21=>185|22=>186|23=>187|24=>188|25=>189|26=>190|27=>191|46=>203|47=>204|48=>205|49=>206|50=>207|57=>213|n=>n,λ|22=>25|24=>36|25=>196|3=>3|39=>213|0=>0|53=>232|55=>234|4=>4|46=>226|45=>225|50=>111|5=>5|9=>9|66=>240|70=>244|76=>249|77=>250|n=>n,λ|n=>n⟩
theorem Tryz.Qn:Go.Proofs.SlLaysF.n6 Tryz.prog Tryz.zw:={
 mixed:=by kernel_rfl
 f6:=⟨Tryz.f147.name,by decide,Tryz.func147.trans (congrArg some (by kernel_rfl))⟩
 f14:=⟨Tryz.f170.name,by decide,Tryz.func170.trans (congrArg some (by kernel_rfl))⟩
 f15:=Tryz.func171.trans (congrArg some (by kernel_rfl))
 f20:=⟨Tryz.f184.name,by decide,Tryz.func184.trans (congrArg some (by kernel_rfl))⟩
 f21:=⟨Tryz.f185.name,by decide,Tryz.func185.trans (congrArg some (by kernel_rfl))⟩
 f22:=⟨Tryz.f186.name,by decide,Tryz.func186.trans (congrArg some (by kernel_rfl))⟩
 f23:=⟨Tryz.f187.name,by decide,Tryz.func187.trans (congrArg some (by kernel_rfl))⟩
 f24:=⟨Tryz.f188.name,by decide,Tryz.func188.trans (congrArg some (by kernel_rfl))⟩
 f25:=⟨Tryz.f189.name,by decide,Tryz.func189.trans (congrArg some (by kernel_rfl))⟩
 f26:=⟨Tryz.f190.name,by decide,Tryz.func190.trans (congrArg some (by kernel_rfl))⟩
 f27:=⟨Tryz.f191.name,by decide,Tryz.func191.trans (congrArg some (by kernel_rfl))⟩
 f28:=Tryz.func192.trans (congrArg some (by kernel_rfl))
 f29:=Tryz.func193.trans (congrArg some (by kernel_rfl))
 f46:=⟨Tryz.f203.name,by decide,Tryz.func203.trans (congrArg some (by kernel_rfl))⟩
 f47:=Tryz.func204.trans (congrArg some (by kernel_rfl))
 f48:=Tryz.func205.trans (congrArg some (by kernel_rfl))
 f49:=⟨Tryz.f206.name,by decide,Tryz.func206.trans (congrArg some (by kernel_rfl))⟩
 f50:=⟨Tryz.f207.name,by decide,Tryz.func207.trans (congrArg some (by kernel_rfl))⟩
 f57:=⟨Tryz.f213.name,by decide,Tryz.func213.trans (congrArg some (by kernel_rfl))⟩
 t0:=Tryz.underlying0
 a0:=Tryz.isAgg0
 z0:=Tryz.sizeOf0
 v0:=Tryz.zeroValue0
 t3:=Tryz.underlying3
 a3:=Tryz.isAgg3
 z3:=Tryz.sizeOf3
 v3:=Tryz.zeroValue3
 t4:=Tryz.underlying4
 a4:=Tryz.isAgg4
 z4:=Tryz.sizeOf4
 v4:=Tryz.zeroValue4
 t5:=Tryz.underlying5
 a5:=Tryz.isAgg5
 z5:=Tryz.sizeOf5
 v5:=Tryz.zeroValue5
 t9:=Tryz.underlying9
 a9:=Tryz.isAgg9
 z9:=Tryz.sizeOf9
 v9:=Tryz.zeroValue9
 t22:=Tryz.underlying25
 a22:=Tryz.isAgg25
 z22:=Tryz.sizeOf25
 v22:=Tryz.zeroValue25
 a24:=Tryz.isAgg36
 z24:=Tryz.sizeOf36
 t25:=Tryz.underlying196
 a25:=Tryz.isAgg196
 z25:=Tryz.sizeOf196
 v25:=Tryz.zeroValue196
 t39:=Tryz.underlying213
 a39:=Tryz.isAgg213
 z39:=Tryz.sizeOf213
 v39:=Tryz.zeroValue213
 t45:=Tryz.underlying225
 a45:=Tryz.isAgg225
 z45:=Tryz.sizeOf225
 v45:=Tryz.zeroValue225
 t46:=Tryz.underlying226
 a46:=Tryz.isAgg226
 z46:=Tryz.sizeOf226
 v46:=Tryz.zeroValue226
 t50:=Tryz.underlying111
 a50:=Tryz.isAgg111
 z50:=Tryz.sizeOf111
 v50:=Tryz.zeroValue111
 t53:=Tryz.underlying232
 a53:=Tryz.isAgg232
 z53:=Tryz.sizeOf232
 v53:=Tryz.zeroValue232
 t55:=Tryz.underlying234
 a55:=Tryz.isAgg234
 z55:=Tryz.sizeOf234
 v55:=Tryz.zeroValue234
 t66:=Tryz.underlying240
 a66:=Tryz.isAgg240
 z66:=Tryz.sizeOf240
 v66:=Tryz.zeroValue240
 t70:=Tryz.underlying244
 a70:=Tryz.isAgg244
 z70:=Tryz.sizeOf244
 v70:=Tryz.zeroValue244
 t76:=Tryz.underlying249
 a76:=Tryz.isAgg249
 z76:=Tryz.sizeOf249
 v76:=Tryz.zeroValue249
 t77:=Tryz.underlying250
 a77:=Tryz.isAgg250
 z77:=Tryz.sizeOf250
 v77:=Tryz.zeroValue250 }
theorem R8:AD Tryz.prog 147 where
 ok:=⟨Tryz.f147,Tryz.func147,by kernel_rfl,by kernel_rfl⟩
 zero:=λp cap u w=>AnyF.slices_SortFunc_none (ρ:=Tryz.zw) { Tryz.Qn with } p cap u w
 all:=λenc h1 cf z g cb blk off cap d w B hc C D G=>Any.slices_SortFunc_eq (ρ:=Tryz.zw) Tryz.Qn enc h1 cf z g cb blk off cap d w B hc C D G
theorem Qx:∀f,EA.sort f=true->AD Tryz.prog f:=λf h=>by
 have:f=147:=Nat.eq_of_beq_eq_true h;subst this;exact R8
theorem vH:∀az y,uj 8 az=some y->u5 Tryz.prog 35 az y:=
 Se (f:=35) (A:=82) (S:=36) (e:=3) (n:=8) (bytes:=64) Tryz.func35 rfl rfl rfl (by kernel_rfl) Tryz.underlying82 Tryz.underlying36 (by kernel_rfl) (by kernel_rfl)
theorem LP:∀f az y,EA.known f az=some y->u5 Tryz.prog f az y:=λf az y h=>by
 change (if Nat.beq f 35 then uj 8 az else none)=some y at h;split at h
 next u=>have:f=35:=Nat.eq_of_beq_eq_true u;subst this;exact vH az y h
 cases h
theorem Tn (n:Nat):kD Tryz.prog (run EA n):=Ez Ty mixed ⟨Qx,LP⟩ n
end Go.Proofs.YtlhegnhabpldfaaGreatDoor
namespace Go.Proofs.YtlhegnhabpldfaaGreatDoor
open Go.VE Go.Proofs
def a0:V:=.agg [.fsl 3 [[.str (ByteArray.mk #[112]),.bK,.fsl 5 [[.int .i64 1,.int .i64 0,.int .i64 0,.int .i64 0,.bK]]],[.str (ByteArray.mk #[113]),.bK,.fsl 5 [[.int .i64 1,.int .i64 0,.int .i64 0,.int .i64 0,.bK]]]]]
def a1:V:=.fsl 1 [[.int .i64 1],[.int .i64 1]]
def k0:gZ:=⟨64,[a0],.tup [.agg [.int .i64 0,.int .i64 0],.int .i64 0]⟩
theorem Kd:j_ EA k0:=mR (n:=100) (l:=[]) Zc (by kernel_rfl)
def k1:gZ:=⟨194,[.int .i64 1],.bool false⟩
theorem QB:j_ EA k1:=mR (n:=100) (l:=[]) Zc (by kernel_rfl)
def k2:gZ:=⟨172,[.int .i64 1,.int .i64 1],.int .i64 0⟩
theorem QE:j_ EA k2:=mR (n:=100) (l:=[k1]) (by simp only[List.forall_mem_cons];exact⟨QB,by simp⟩) (by kernel_rfl)
def k3:gZ:=⟨194,[.int .i64 0],.bool false⟩
theorem P_:j_ EA k3:=mR (n:=100) (l:=[]) Zc (by kernel_rfl)
def k4:gZ:=⟨172,[.int .i64 0,.int .i64 0],.int .i64 0⟩
theorem VB:j_ EA k4:=mR (n:=100) (l:=[k3]) (by simp only[List.forall_mem_cons];exact⟨P_,by simp⟩) (by kernel_rfl)
def k5:gZ:=⟨123,[.agg [.fsl 1 [[.int .i64 1],[.int .i64 1]],.fsl 1 [[.fsl 2 [[.int .i64 0,.int .i64 0]]],[.fsl 2 [[.int .i64 0,.int .i64 0]]]]],.fsl 1 [[.fsl 1 [[.int .i64 0],[.int .i64 0]]]]],.fsl 1 [[.fsl 1 [[.int .i64 0],[.int .i64 1]]],[.fsl 1 [[.int .i64 1],[.int .i64 0]]]]⟩
theorem Vf:j_ EA k5:=mR (n:=100) (l:=[k2,k4,k1,k3]) (by simp only[List.forall_mem_cons];exact⟨QE,VB,QB,P_,by simp⟩) (by kernel_rfl)
def k6:gZ:=⟨149,[a1,a1],.int .i64 0⟩
theorem VD:j_ EA k6:=mR (n:=100) (l:=[k2]) (by simp only[List.forall_mem_cons];exact⟨QE,by simp⟩) (by kernel_rfl)
def k7:gZ:=⟨148,[a1,a1],.int .i64 0⟩
theorem Vb:j_ EA k7:=mR (n:=100) (l:=[k6]) (by simp only[List.forall_mem_cons];exact⟨VD,by simp⟩) (by kernel_rfl)
def k8:gZ:=⟨99,[a0],.tup [.fsl 1 [[.fsl 1 [[.fsl 1 [[.int .i64 0],[.int .i64 0]]]]],[.fsl 1 [[.fsl 1 [[.int .i64 0],[.int .i64 1]]],[.fsl 1 [[.int .i64 1],[.int .i64 0]]]]],[.fsl 1 [[.fsl 1 [[.int .i64 1],[.int .i64 1]]]]]],.int .i64 0]⟩
theorem Qp:j_ EA k8:=mR (n:=100) (l:=[k0,k5,k7]) (by simp only[List.forall_mem_cons];exact⟨Kd,Vf,Vb,by simp⟩) (by kernel_rfl)
def k9:gZ:=⟨95,[.fptr [.fsl 3 [[.str (ByteArray.mk #[112]),.bK,.fsl 5 [[.int .i64 1,.int .i64 0,.int .i64 0,.int .i64 0,.bK]]],[.str (ByteArray.mk #[113]),.bK,.fsl 5 [[.int .i64 1,.int .i64 0,.int .i64 0,.int .i64 0,.bK]]]],.fsl 1 [[.fsl 1 [[.int .i64 0],[.int .i64 0]]],[.fsl 1 [[.int .i64 0],[.int .i64 1]]],[.fsl 1 [[.int .i64 1],[.int .i64 0]]],[.fsl 1 [[.int .i64 1],[.int .i64 1]]]],.fsl 1 [[.fsl 1 [[.int .i64 2],[.int .i64 1]]],[.fsl 1 [[.int .i64 3]]],[.fsl 1 [[.int .i64 3]]],[.bK]]],.agg [.int .i64 9,.int .i64 0,.int .i64 0,.int .i64 0,.str ByteArray.empty,.fsl 6 [[.int .i64 3,.int .i64 0,.int .i64 0,.int .i64 0,.str ByteArray.empty,.bK],[.int .i64 1,.int .i64 1,.int .i64 0,.int .i64 0,.str ByteArray.empty,.bK]]]],.fsl 1 [[.bool false],[.bool false],[.bool true],[.bool true]]⟩
theorem Vl:j_ EA k9:=mR (n:=100) (l:=[k0,k8]) (by simp only[List.forall_mem_cons];exact⟨Kd,Qp,by simp⟩) (by kernel_rfl)
theorem La:∃n H1,run EA n (.fn 5) [] []=some (.bool true,H1):=K1 (n:=100) (l:=[k0,k8,k9]) (by simp only[List.forall_mem_cons];exact⟨Kd,Qp,Vl,by simp⟩) (by kernel_rfl)
theorem calls (n:Nat):kD Tryz.prog (run E n):=Ez VA mixed ⟨Qx,λf az b h=>by
 by_cases u:Nat.beq f 5=true
 .have e:E.known f az=if az.isEmpty then some (.bool true)else none:=by unfold E CE;simp only[u,if_true]
  rw[e]at h;split at h
  next w=>cases h;have:f=5:=Nat.eq_of_beq_eq_true u;subst this;have:az=[]:=List.isEmpty_iff.1 w;subst this;obtain⟨n,H1,h1⟩:=La;exact LD (Tn n) h1
  cases h
 have e:E.known f az=EA.known f az:=by unfold E EA CE;simp only[u,if_false,Bool.false_eq_true]
 rw[e]at h;exact LP f az b h⟩ n
end Go.Proofs.YtlhegnhabpldfaaGreatDoor
