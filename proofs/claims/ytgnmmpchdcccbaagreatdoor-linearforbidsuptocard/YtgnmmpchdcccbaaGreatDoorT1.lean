/-
 The tables of this seat, and the law's own awakening.
-/
import Derived.Test.YtgnmmpchdcccbaaGreatDoorProg
import Derived.KernelRfl
import Derived.Test.YtgnmmpchdcccbaaGreatDoorV2
set_option linter.all false
open Nat(beq)
open List(forall_mem_cons)
namespace Go.Proofs.YtgnmmpchdcccbaaGreatDoor
open Go.VE Go.Proofs
def E_:Rd:=[-1,0,0,0,0,1,2,2,2,2,2,2,2,0,0,1,2,2,1,1,1,1]
instance:bX:=⟨λg=>if beq g 0 then some (E_.map (V.int .i64))else none,λg cs h=>by
 split at h
 .cases h;exact⟨_,_,rfl⟩
 cases h⟩
noncomputable def EA:Env:=Gz Tryz.prog [0,1,149] [103,26,118,152,149,132,134,34,59,16,35] [103,26,118] [(103,2)] (λf=>beq f 149) λf az=>none
noncomputable def E:Env:=Gz Tryz.prog [0,1,149,4] [103,26,118,152,149,132,134,34,59,16,35] [103,26,118] [(103,2)] (λf=>beq f 149) λf az=>if beq f 4 then(if az.isEmpty then some (.bool true)else none)else none
def noC:C3 Tryz.prog=true:=by kernel_rfl
def abr:yW Tryz.prog 103 2:=yW.two (i:=3) Tryz.underlying103 rfl rfl rfl rfl (by decide) (by decide) (by kernel_rfl) Tryz.underlying3 (by kernel_rfl) (by kernel_rfl)
def ZS:∀p∈[(103,2)],yW Tryz.prog p.1 p.2:=by intro t h;simp only[List.mem_singleton]at h;subst h;exact abr
def aa0:fe Tryz.prog EA:=JY noC ZS
def ab7:fe Tryz.prog E:=JY noC ZS
def mixed:Tryz.prog.follows .mixedOrders=true:=by kernel_rfl
open Go.Shelf
def Tryz.CB:Go.Shelf.Ren:=⟨λ|6=>149|15=>176|14=>175|28=>204|29=>205|20=>196|21=>197|22=>198|23=>199|24=>200|25=>201|26=>202|27=>203|46=>214|47=>215|48=>216|49=>217|50=>218|57=>220|n=>n,λ|22=>55|24=>25|25=>182|3=>3|39=>207|0=>0|53=>231|55=>233|4=>4|46=>225|45=>224|50=>120|5=>5|9=>9|66=>237|70=>61|76=>243|77=>38|n=>n,λ|n=>n⟩
def Tryz.V_:Go.Proofs.SlLaysF.n6 Tryz.prog Tryz.CB:={
 mixed:=by kernel_rfl
 f6:=⟨Tryz.f149.name,by decide,Tryz.func149.trans (congrArg some (by kernel_rfl))⟩
 f14:=⟨Tryz.f175.name,by decide,Tryz.func175.trans (congrArg some (by kernel_rfl))⟩
 f15:=Tryz.func176.trans (congrArg some (by kernel_rfl))
 f20:=⟨Tryz.f196.name,by decide,Tryz.func196.trans (congrArg some (by kernel_rfl))⟩
 f21:=⟨Tryz.f197.name,by decide,Tryz.func197.trans (congrArg some (by kernel_rfl))⟩
 f22:=⟨Tryz.f198.name,by decide,Tryz.func198.trans (congrArg some (by kernel_rfl))⟩
 f23:=⟨Tryz.f199.name,by decide,Tryz.func199.trans (congrArg some (by kernel_rfl))⟩
 f24:=⟨Tryz.f200.name,by decide,Tryz.func200.trans (congrArg some (by kernel_rfl))⟩
 f25:=⟨Tryz.f201.name,by decide,Tryz.func201.trans (congrArg some (by kernel_rfl))⟩
 f26:=⟨Tryz.f202.name,by decide,Tryz.func202.trans (congrArg some (by kernel_rfl))⟩
 f27:=⟨Tryz.f203.name,by decide,Tryz.func203.trans (congrArg some (by kernel_rfl))⟩
 f28:=Tryz.func204.trans (congrArg some (by kernel_rfl))
 f29:=Tryz.func205.trans (congrArg some (by kernel_rfl))
 f46:=⟨Tryz.f214.name,by decide,Tryz.func214.trans (congrArg some (by kernel_rfl))⟩
 f47:=Tryz.func215.trans (congrArg some (by kernel_rfl))
 f48:=Tryz.func216.trans (congrArg some (by kernel_rfl))
 f49:=⟨Tryz.f217.name,by decide,Tryz.func217.trans (congrArg some (by kernel_rfl))⟩
 f50:=⟨Tryz.f218.name,by decide,Tryz.func218.trans (congrArg some (by kernel_rfl))⟩
 f57:=⟨Tryz.f220.name,by decide,Tryz.func220.trans (congrArg some (by kernel_rfl))⟩
 t0:=Tryz.underlying0
 a0:=Tryz.isAgg0
 z0:=Tryz.sizeOf0
 v0:=Tryz.zeroValue0
 t3:=Tryz.underlying3
 a3:=Tryz.isAgg3
 z3:=Tryz.sizeOf3
 v3:=Tryz.zeroValue3
 t4:=Tryz.underlying4
 a4:=Tryz.isAgg4
 z4:=Tryz.sizeOf4
 v4:=Tryz.zeroValue4
 t5:=Tryz.underlying5
 a5:=Tryz.isAgg5
 z5:=Tryz.sizeOf5
 v5:=Tryz.zeroValue5
 t9:=Tryz.underlying9
 a9:=Tryz.isAgg9
 z9:=Tryz.sizeOf9
 v9:=Tryz.zeroValue9
 t22:=Tryz.underlying55
 a22:=Tryz.isAgg55
 z22:=Tryz.sizeOf55
 v22:=Tryz.zeroValue55
 a24:=Tryz.isAgg25
 z24:=Tryz.sizeOf25
 t25:=Tryz.underlying182
 a25:=Tryz.isAgg182
 z25:=Tryz.sizeOf182
 v25:=Tryz.zeroValue182
 t39:=Tryz.underlying207
 a39:=Tryz.isAgg207
 z39:=Tryz.sizeOf207
 v39:=Tryz.zeroValue207
 t45:=Tryz.underlying224
 a45:=Tryz.isAgg224
 z45:=Tryz.sizeOf224
 v45:=Tryz.zeroValue224
 t46:=Tryz.underlying225
 a46:=Tryz.isAgg225
 z46:=Tryz.sizeOf225
 v46:=Tryz.zeroValue225
 t50:=Tryz.underlying120
 a50:=Tryz.isAgg120
 z50:=Tryz.sizeOf120
 v50:=Tryz.zeroValue120
 t53:=Tryz.underlying231
 a53:=Tryz.isAgg231
 z53:=Tryz.sizeOf231
 v53:=Tryz.zeroValue231
 t55:=Tryz.underlying233
 a55:=Tryz.isAgg233
 z55:=Tryz.sizeOf233
 v55:=Tryz.zeroValue233
 t66:=Tryz.underlying237
 a66:=Tryz.isAgg237
 z66:=Tryz.sizeOf237
 v66:=Tryz.zeroValue237
 t70:=Tryz.underlying61
 a70:=Tryz.isAgg61
 z70:=Tryz.sizeOf61
 v70:=Tryz.zeroValue61
 t76:=Tryz.underlying243
 a76:=Tryz.isAgg243
 z76:=Tryz.sizeOf243
 v76:=Tryz.zeroValue243
 t77:=Tryz.underlying38
 a77:=Tryz.isAgg38
 z77:=Tryz.sizeOf38
 v77:=Tryz.zeroValue38}
def WS:Dl Tryz.prog 149 where
 ok:=⟨Tryz.f149,Tryz.func149,by kernel_rfl,by kernel_rfl⟩
 zero:=λp a u w=>AnyF.slices_SortFunc_none (ρ:=Tryz.CB) {Tryz.V_ with} p a u w
 all:=λenc c cf z g cb b off a d w B e C D G=>Any.slices_SortFunc_eq (ρ:=Tryz.CB) Tryz.V_ enc c cf z g cb b off a d w B e C D G
def We:∀f,EA.sort f=true->Dl Tryz.prog f:=λf h=>by have:f=149:=Nat.eq_of_beq_eq_true h;subst this;exact WS
def RS:∀f az y,EA.known f az=some y->EO Tryz.prog f az y:=λf az y h=>by cases h
def aak(n:Nat):mJ Tryz.prog (run EA n):=II aa0 mixed ⟨We,RS⟩ n
end Go.Proofs.YtgnmmpchdcccbaaGreatDoor
namespace Go.Proofs.YtgnmmpchdcccbaaGreatDoor
open Go.VE Go.Proofs
def a0:V:=.agg [.fsl 3 [[.str (ByteArray.mk #[97]),.fsl 2 [[.str (ByteArray.mk #[120]),.int .i64 0]],.fsl 5 [[.int .i64 1,.int .i64 0,.int .i64 0,.int .i64 0,.fsl 2 [[.int .i64 0,.int .i64 1]]]]],[.str (ByteArray.mk #[98]),.fsl 2 [[.str (ByteArray.mk #[120]),.int .i64 0]],.fsl 5 [[.int .i64 1,.int .i64 0,.int .i64 0,.int .i64 0,.fsl 2 [[.int .i64 0,.int .i64 1]]]]]]]
def a1:V:=.agg [.int .i64 16,.int .i64 0,.int .i64 0,.int .i64 0,.str ByteArray.empty,.fsl 6 [[.int .i64 9,.int .i64 0,.int .i64 0,.int .i64 0,.str ByteArray.empty,.fsl 6 [[.int .i64 2,.int .i64 0,.int .i64 0,.int .i64 0,.str (ByteArray.mk #[120]),.bO],[.int .i64 1,.int .i64 1,.int .i64 0,.int .i64 0,.str ByteArray.empty,.bO]]],[.int .i64 9,.int .i64 0,.int .i64 0,.int .i64 0,.str ByteArray.empty,.fsl 6 [[.int .i64 2,.int .i64 0,.int .i64 1,.int .i64 0,.str (ByteArray.mk #[120]),.bO],[.int .i64 1,.int .i64 1,.int .i64 0,.int .i64 0,.str ByteArray.empty,.bO]]]]]
def a2:V:=.fsl 1 [[.int .i64 1],[.int .i64 0]]
def a3:V:=.fsl 1 [[.int .i64 0],[.int .i64 1]]
def a4:V:=.agg [.fsl 1 [[.int .i64 1],[.int .i64 1]],.fsl 1 [[.fsl 2 [[.int .i64 0,.int .i64 0]]],[.fsl 2 [[.int .i64 0,.int .i64 0]]]]]
def a5:V:=.fsl 1 [[.fsl 1 [[.int .i64 0],[.int .i64 1]]],[.fsl 1 [[.int .i64 1],[.int .i64 0]]]]
def a6:V:=.fsl 1 [[.int .i64 1],[.int .i64 1]]
def k0:gq:=⟨159,[a0,.int .i64 0],.int .i64 0⟩
def abu:ir EA k0:=jf (n:=100) (l:=[]) Zab (by kernel_rfl)
def k1:gq:=⟨159,[a0,.int .i64 1],.int .i64 0⟩
def abv:ir EA k1:=jf (n:=100) (l:=[]) Zab (by kernel_rfl)
def k2:gq:=⟨128,[a0],.tup [.agg [.int .i64 0,.int .i64 0],.int .i64 0]⟩
def JJ:ir EA k2:=jf (n:=100) (l:=[k0,k1]) (by simp only[forall_mem_cons];exact⟨abu,abv,Zab⟩) (by kernel_rfl)
def k3:gq:=⟨105,[a1],.bool true⟩
def Wk:ir EA k3:=jf (n:=100) (l:=[]) Zab (by kernel_rfl)
def k4:gq:=⟨110,[a1,.clo 138 [] []],.bool true⟩
def V3:ir EA k4:=jf (n:=100) (l:=[]) Zab (by kernel_rfl)
def k5:gq:=⟨82,[a0,a1],.int .i64 0⟩
def abM:ir EA k5:=jf (n:=100) (l:=[k2,k3,k4]) (by simp only[forall_mem_cons];exact⟨JJ,Wk,V3,Zab⟩) (by kernel_rfl)
def k6:gq:=⟨206,[.int .i64 1],.bool false⟩
def Qe:ir EA k6:=jf (n:=100) (l:=[]) Zab (by kernel_rfl)
def k7:gq:=⟨177,[.int .i64 1,.int .i64 1],.int .i64 0⟩
def WA:ir EA k7:=jf (n:=100) (l:=[k6]) (by simp only[forall_mem_cons];exact⟨Qe,Zab⟩) (by kernel_rfl)
def k8:gq:=⟨206,[.int .i64 0],.bool false⟩
def PW:ir EA k8:=jf (n:=100) (l:=[]) Zab (by kernel_rfl)
def k9:gq:=⟨177,[.int .i64 0,.int .i64 0],.int .i64 0⟩
def abT:ir EA k9:=jf (n:=100) (l:=[k8]) (by simp only[forall_mem_cons];exact⟨PW,Zab⟩) (by kernel_rfl)
def k10:gq:=⟨150,[a2,a3],.int .i64 1⟩
def ZE:ir EA k10:=jf (n:=100) (l:=[k6,k8]) (by simp only[forall_mem_cons];exact⟨Qe,PW,Zab⟩) (by kernel_rfl)
def k11:gq:=⟨150,[a3,a2],.int .i64 (-1)⟩
def aan:ir EA k11:=jf (n:=100) (l:=[k8,k6]) (by simp only[forall_mem_cons];exact⟨PW,Qe,Zab⟩) (by kernel_rfl)
def AH:gq:=⟨117,[a4,.fsl 1 [[.fsl 1 [[.int .i64 0],[.int .i64 0]]]]],a5⟩
def K_:ir EA AH:=jf (n:=100) (l:=[k7,k9,k10,k11]) (by simp only[forall_mem_cons];exact⟨WA,abT,ZE,aan,Zab⟩) (by kernel_rfl)
def k13:gq:=⟨151,[a6,a6],.int .i64 0⟩
def ZM:ir EA k13:=jf (n:=100) (l:=[k7]) (by simp only[forall_mem_cons];exact⟨WA,Zab⟩) (by kernel_rfl)
def k14:gq:=⟨150,[a6,a6],.int .i64 0⟩
def aaF:ir EA k14:=jf (n:=100) (l:=[k13]) (by simp only[forall_mem_cons];exact⟨ZM,Zab⟩) (by kernel_rfl)
def WD:gq:=⟨117,[a4,a5],.fsl 1 [[.fsl 1 [[.int .i64 1],[.int .i64 1]]]]⟩
def Kb:ir EA WD:=jf (n:=100) (l:=[k14]) (by simp only[forall_mem_cons];exact⟨aaF,Zab⟩) (by kernel_rfl)
def k16:gq:=⟨60,[a0,a1],.tup [.fsl 1 [[.fsl 1 [[.int .i64 0],[.int .i64 0]]],[.fsl 1 [[.int .i64 0],[.int .i64 1]]],[.fsl 1 [[.int .i64 1],[.int .i64 0]]],[.fsl 1 [[.int .i64 1],[.int .i64 1]]]],.fsl 1 [[.bool false],[.bool false],[.bool false],[.bool true]],.int .i64 0]⟩
def Z7:ir EA k16:=jf (n:=100) (l:=[k5,k3,k4,k2,AH,WD]) (by simp only[forall_mem_cons];exact⟨abM,Wk,V3,JJ,K_,Kb,Zab⟩) (by kernel_rfl)
def k17:gq:=⟨60,[a0,.agg [.int .i64 17,.int .i64 0,.int .i64 0,.int .i64 0,.str ByteArray.empty,.fsl 6 [[.int .i64 9,.int .i64 0,.int .i64 0,.int .i64 0,.str ByteArray.empty,.fsl 6 [[.int .i64 2,.int .i64 0,.int .i64 0,.int .i64 0,.str (ByteArray.mk #[120]),.bO],[.int .i64 1,.int .i64 1,.int .i64 0,.int .i64 0,.str ByteArray.empty,.bO]]],[.int .i64 9,.int .i64 0,.int .i64 0,.int .i64 0,.str ByteArray.empty,.fsl 6 [[.int .i64 2,.int .i64 0,.int .i64 1,.int .i64 0,.str (ByteArray.mk #[120]),.bO],[.int .i64 1,.int .i64 1,.int .i64 0,.int .i64 0,.str ByteArray.empty,.bO]]]]]],.tup [.fsl 1 [[.fsl 1 [[.int .i64 0],[.int .i64 0]]],[.fsl 1 [[.int .i64 0],[.int .i64 1]]],[.fsl 1 [[.int .i64 1],[.int .i64 0]]],[.fsl 1 [[.int .i64 1],[.int .i64 1]]]],.fsl 1 [[.bool false],[.bool true],[.bool true],[.bool true]],.int .i64 0]⟩
def ZH:ir EA k17:=jf (n:=100) (l:=[k2,AH,WD]) (by simp only[forall_mem_cons];exact⟨JJ,K_,Kb,Zab⟩) (by kernel_rfl)
def PU:∃n H1,run EA n (.fn 4) [] []=some (.bool true,H1):=Qn (n:=100) (l:=[k16,k2,AH,WD,k17]) (by simp only[forall_mem_cons];exact⟨Z7,JJ,K_,Kb,ZH,Zab⟩) (by kernel_rfl)
def calls(n:Nat):mJ Tryz.prog (run E n):=II ab7 mixed ⟨We,λf az b h=>by
 by_cases u:beq f 4=true
 .have e:E.known f az=if az.isEmpty then some (.bool true)else none:=by unfold E Gz;simp only[u,if_true]
  rw[e]at h;split at h
  next w=>cases h;have:f=4:=Nat.eq_of_beq_eq_true u;subst this;have:az=[]:=List.isEmpty_iff.1 w;subst this;have⟨n,H1,a⟩:=PU;exact R4 (aak n) a
  cases h
 have e:E.known f az=EA.known f az:=by unfold E EA Gz;simp only[u,if_false,Bool.false_eq_true]
 rw[e]at h;exact RS f az b h⟩ n
end Go.Proofs.YtgnmmpchdcccbaaGreatDoor
