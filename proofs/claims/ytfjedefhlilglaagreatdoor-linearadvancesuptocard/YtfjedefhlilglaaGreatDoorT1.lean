/-
 The tables of this seat, and the law's own awakening.
-/
import Derived.Test.YtfjedefhlilglaaGreatDoorProg
import Derived.KernelRfl
import Derived.Test.YtfjedefhlilglaaGreatDoorV2
set_option linter.all false
open Nat(beq)
open List(forall_mem_cons)
namespace Go.Proofs.YtfjedefhlilglaaGreatDoor
open Go.VE Go.Proofs
def Fz:ST:=[-1,0,0,0,0,1,2,2,2,2,2,2,2,0,0,1,2,2,1,1,1,1]
instance:b8:=⟨λg=>if beq g 0 then some (Fz.map (V.int .i64))else none,λg cs h=>by
 split at h
 .cases h;exact⟨_,_,rfl⟩
 cases h⟩
noncomputable def EA:Env:=EG Tryz.prog [0,1,211] [155,20,176,214,211,178,180,74,115,40,75,55,21,54] [155,20,176,21,54] [(94,2)] (λf=>beq f 211) λf az=>none
noncomputable def E:Env:=EG Tryz.prog [0,1,211,10] [155,20,176,214,211,178,180,74,115,40,75,55] [155,20,176] [(94,2)] (λf=>beq f 211) λf az=>if beq f 10 then(if az.isEmpty then some (.bool true)else none)else none
def noC:CA Tryz.prog=true:=by kernel_rfl
def abl:xQ Tryz.prog 94 2:=xQ.two (i:=3) Tryz.underlying94 rfl rfl rfl rfl (by decide) (by decide) (by kernel_rfl) Tryz.underlying3 (by kernel_rfl) (by kernel_rfl)
def Y5:∀p∈[(94,2)],xQ Tryz.prog p.1 p.2:=by intro t h;simp only[List.mem_singleton]at h;subst h;exact abl
def Y2:eZ Tryz.prog EA:=La noC Y5
def ZX:eZ Tryz.prog E:=La noC Y5
def mixed:Tryz.prog.follows .mixedOrders=true:=by kernel_rfl
open Go.Shelf
def Tryz.Bx:Go.Shelf.Ren:=⟨λ|6=>211|15=>230|14=>229|28=>247|29=>248|20=>239|21=>240|22=>241|23=>242|24=>243|25=>244|26=>245|27=>246|46=>252|47=>253|48=>254|49=>255|50=>256|57=>258|n=>n,λ|22=>42|24=>25|25=>224|3=>3|39=>235|0=>0|53=>247|55=>249|4=>4|46=>241|45=>240|50=>152|5=>5|9=>9|66=>251|70=>61|76=>257|77=>38|n=>n,λ|n=>n⟩
def Tryz.UM:Go.Proofs.SlLaysF.n6 Tryz.prog Tryz.Bx:={
 mixed:=by kernel_rfl
 f6:=⟨Tryz.f211.name,by decide,Tryz.func211.trans (congrArg some (by kernel_rfl))⟩
 f14:=⟨Tryz.f229.name,by decide,Tryz.func229.trans (congrArg some (by kernel_rfl))⟩
 f15:=Tryz.func230.trans (congrArg some (by kernel_rfl))
 f20:=⟨Tryz.f239.name,by decide,Tryz.func239.trans (congrArg some (by kernel_rfl))⟩
 f21:=⟨Tryz.f240.name,by decide,Tryz.func240.trans (congrArg some (by kernel_rfl))⟩
 f22:=⟨Tryz.f241.name,by decide,Tryz.func241.trans (congrArg some (by kernel_rfl))⟩
 f23:=⟨Tryz.f242.name,by decide,Tryz.func242.trans (congrArg some (by kernel_rfl))⟩
 f24:=⟨Tryz.f243.name,by decide,Tryz.func243.trans (congrArg some (by kernel_rfl))⟩
 f25:=⟨Tryz.f244.name,by decide,Tryz.func244.trans (congrArg some (by kernel_rfl))⟩
 f26:=⟨Tryz.f245.name,by decide,Tryz.func245.trans (congrArg some (by kernel_rfl))⟩
 f27:=⟨Tryz.f246.name,by decide,Tryz.func246.trans (congrArg some (by kernel_rfl))⟩
 f28:=Tryz.func247.trans (congrArg some (by kernel_rfl))
 f29:=Tryz.func248.trans (congrArg some (by kernel_rfl))
 f46:=⟨Tryz.f252.name,by decide,Tryz.func252.trans (congrArg some (by kernel_rfl))⟩
 f47:=Tryz.func253.trans (congrArg some (by kernel_rfl))
 f48:=Tryz.func254.trans (congrArg some (by kernel_rfl))
 f49:=⟨Tryz.f255.name,by decide,Tryz.func255.trans (congrArg some (by kernel_rfl))⟩
 f50:=⟨Tryz.f256.name,by decide,Tryz.func256.trans (congrArg some (by kernel_rfl))⟩
 f57:=⟨Tryz.f258.name,by decide,Tryz.func258.trans (congrArg some (by kernel_rfl))⟩
 t0:=Tryz.underlying0
 a0:=Tryz.isAgg0
 z0:=Tryz.sizeOf0
 v0:=Tryz.zeroValue0
 t3:=Tryz.underlying3
 a3:=Tryz.isAgg3
 z3:=Tryz.sizeOf3
 v3:=Tryz.zeroValue3
 t4:=Tryz.underlying4
 a4:=Tryz.isAgg4
 z4:=Tryz.sizeOf4
 v4:=Tryz.zeroValue4
 t5:=Tryz.underlying5
 a5:=Tryz.isAgg5
 z5:=Tryz.sizeOf5
 v5:=Tryz.zeroValue5
 t9:=Tryz.underlying9
 a9:=Tryz.isAgg9
 z9:=Tryz.sizeOf9
 v9:=Tryz.zeroValue9
 t22:=Tryz.underlying42
 a22:=Tryz.isAgg42
 z22:=Tryz.sizeOf42
 v22:=Tryz.zeroValue42
 a24:=Tryz.isAgg25
 z24:=Tryz.sizeOf25
 t25:=Tryz.underlying224
 a25:=Tryz.isAgg224
 z25:=Tryz.sizeOf224
 v25:=Tryz.zeroValue224
 t39:=Tryz.underlying235
 a39:=Tryz.isAgg235
 z39:=Tryz.sizeOf235
 v39:=Tryz.zeroValue235
 t45:=Tryz.underlying240
 a45:=Tryz.isAgg240
 z45:=Tryz.sizeOf240
 v45:=Tryz.zeroValue240
 t46:=Tryz.underlying241
 a46:=Tryz.isAgg241
 z46:=Tryz.sizeOf241
 v46:=Tryz.zeroValue241
 t50:=Tryz.underlying152
 a50:=Tryz.isAgg152
 z50:=Tryz.sizeOf152
 v50:=Tryz.zeroValue152
 t53:=Tryz.underlying247
 a53:=Tryz.isAgg247
 z53:=Tryz.sizeOf247
 v53:=Tryz.zeroValue247
 t55:=Tryz.underlying249
 a55:=Tryz.isAgg249
 z55:=Tryz.sizeOf249
 v55:=Tryz.zeroValue249
 t66:=Tryz.underlying251
 a66:=Tryz.isAgg251
 z66:=Tryz.sizeOf251
 v66:=Tryz.zeroValue251
 t70:=Tryz.underlying61
 a70:=Tryz.isAgg61
 z70:=Tryz.sizeOf61
 v70:=Tryz.zeroValue61
 t76:=Tryz.underlying257
 a76:=Tryz.isAgg257
 z76:=Tryz.sizeOf257
 v76:=Tryz.zeroValue257
 t77:=Tryz.underlying38
 a77:=Tryz.isAgg38
 z77:=Tryz.sizeOf38
 v77:=Tryz.zeroValue38}
def Vw:CH Tryz.prog 211 where
 ok:=⟨Tryz.f211,Tryz.func211,by kernel_rfl,by kernel_rfl⟩
 zero:=λp a u w=>AnyF.slices_SortFunc_none (ρ:=Tryz.Bx) {Tryz.UM with} p a u w
 all:=λenc c cf z g cb b off a d w B e C D G=>Any.slices_SortFunc_eq (ρ:=Tryz.Bx) Tryz.UM enc c cf z g cb b off a d w B e C D G
def Vc:∀f,EA.sort f=true->CH Tryz.prog f:=λf h=>by have:f=211:=Nat.eq_of_beq_eq_true h;subst this;exact Vw
def RB:∀f az y,EA.known f az=some y->Ds Tryz.prog f az y:=λf az y h=>by cases h
def Yl(n:Nat):lZ Tryz.prog (run EA n):=Ie Y2 mixed ⟨Vc,RB⟩ n
end Go.Proofs.YtfjedefhlilglaaGreatDoor
namespace Go.Proofs.YtfjedefhlilglaaGreatDoor
open Go.VE Go.Proofs
def a0:V:=.agg [.fsl 3 [[.str (ByteArray.mk #[97]),.fsl 2 [[.str (ByteArray.mk #[120]),.int .i64 0]],.fsl 5 [[.int .i64 1,.int .i64 0,.int .i64 0,.int .i64 0,.fsl 2 [[.int .i64 0,.int .i64 1]]]]],[.str (ByteArray.mk #[98]),.fsl 2 [[.str (ByteArray.mk #[120]),.int .i64 0]],.fsl 5 [[.int .i64 1,.int .i64 0,.int .i64 0,.int .i64 0,.fsl 2 [[.int .i64 0,.int .i64 1]]]]]]]
def a1:V:=.agg [.int .i64 16,.int .i64 0,.int .i64 0,.int .i64 0,.str ByteArray.empty,.fsl 6 [[.int .i64 9,.int .i64 0,.int .i64 0,.int .i64 0,.str ByteArray.empty,.fsl 6 [[.int .i64 2,.int .i64 0,.int .i64 0,.int .i64 0,.str (ByteArray.mk #[120]),.bO],[.int .i64 1,.int .i64 1,.int .i64 0,.int .i64 0,.str ByteArray.empty,.bO]]],[.int .i64 9,.int .i64 0,.int .i64 0,.int .i64 0,.str ByteArray.empty,.fsl 6 [[.int .i64 2,.int .i64 0,.int .i64 1,.int .i64 0,.str (ByteArray.mk #[120]),.bO],[.int .i64 1,.int .i64 1,.int .i64 0,.int .i64 0,.str ByteArray.empty,.bO]]]]]
def a2:V:=.fsl 1 [[.int .i64 1],[.int .i64 0]]
def a3:V:=.fsl 1 [[.int .i64 0],[.int .i64 1]]
def a4:V:=.agg [.fsl 1 [[.int .i64 1],[.int .i64 1]],.fsl 1 [[.fsl 2 [[.int .i64 0,.int .i64 0]]],[.fsl 2 [[.int .i64 0,.int .i64 0]]]]]
def a5:V:=.fsl 1 [[.fsl 1 [[.int .i64 0],[.int .i64 1]]],[.fsl 1 [[.int .i64 1],[.int .i64 0]]]]
def a6:V:=.fsl 1 [[.int .i64 1],[.int .i64 1]]
def k0:gb:=⟨128,[a0,.int .i64 0],.int .i64 0⟩
def ZI:gU EA k0:=iJ (n:=100) (l:=[]) Zab (by kernel_rfl)
def k1:gb:=⟨128,[a0,.int .i64 1],.int .i64 0⟩
def aar:gU EA k1:=iJ (n:=100) (l:=[]) Zab (by kernel_rfl)
def k2:gb:=⟨97,[a0],.tup [.agg [.int .i64 0,.int .i64 0],.int .i64 0]⟩
def IX:gU EA k2:=iJ (n:=100) (l:=[k0,k1]) (by simp only[forall_mem_cons];exact⟨ZI,aar,Zab⟩) (by kernel_rfl)
def k3:gb:=⟨139,[a1],.bool true⟩
def Uv:gU EA k3:=iJ (n:=100) (l:=[]) Zab (by kernel_rfl)
def k4:gb:=⟨144,[a1,.clo 184 [] []],.bool true⟩
def U9:gU EA k4:=iJ (n:=100) (l:=[]) Zab (by kernel_rfl)
def k5:gb:=⟨104,[a0,a1],.int .i64 0⟩
def aas:gU EA k5:=iJ (n:=100) (l:=[k2,k3,k4]) (by simp only[forall_mem_cons];exact⟨IX,Uv,U9,Zab⟩) (by kernel_rfl)
def k6:gb:=⟨249,[.int .i64 1],.bool false⟩
def Oe:gU EA k6:=iJ (n:=100) (l:=[]) Zab (by kernel_rfl)
def k7:gb:=⟨231,[.int .i64 1,.int .i64 1],.int .i64 0⟩
def U5:gU EA k7:=iJ (n:=100) (l:=[k6]) (by simp only[forall_mem_cons];exact⟨Oe,Zab⟩) (by kernel_rfl)
def k8:gb:=⟨249,[.int .i64 0],.bool false⟩
def NR:gU EA k8:=iJ (n:=100) (l:=[]) Zab (by kernel_rfl)
def k9:gb:=⟨231,[.int .i64 0,.int .i64 0],.int .i64 0⟩
def aai:gU EA k9:=iJ (n:=100) (l:=[k8]) (by simp only[forall_mem_cons];exact⟨NR,Zab⟩) (by kernel_rfl)
def k10:gb:=⟨212,[a2,a3],.int .i64 1⟩
def YV:gU EA k10:=iJ (n:=100) (l:=[k6,k8]) (by simp only[forall_mem_cons];exact⟨Oe,NR,Zab⟩) (by kernel_rfl)
def k11:gb:=⟨212,[a3,a2],.int .i64 (-1)⟩
def X0:gU EA k11:=iJ (n:=100) (l:=[k8,k6]) (by simp only[forall_mem_cons];exact⟨NR,Oe,Zab⟩) (by kernel_rfl)
def Uq:gb:=⟨175,[a4,.fsl 1 [[.fsl 1 [[.int .i64 0],[.int .i64 0]]]]],a5⟩
def Jv:gU EA Uq:=iJ (n:=100) (l:=[k7,k9,k10,k11]) (by simp only[forall_mem_cons];exact⟨U5,aai,YV,X0,Zab⟩) (by kernel_rfl)
def k13:gb:=⟨213,[a6,a6],.int .i64 0⟩
def YX:gU EA k13:=iJ (n:=100) (l:=[k7]) (by simp only[forall_mem_cons];exact⟨U5,Zab⟩) (by kernel_rfl)
def k14:gb:=⟨212,[a6,a6],.int .i64 0⟩
def Zk:gU EA k14:=iJ (n:=100) (l:=[k13]) (by simp only[forall_mem_cons];exact⟨YX,Zab⟩) (by kernel_rfl)
def Vj:gb:=⟨175,[a4,a5],.fsl 1 [[.fsl 1 [[.int .i64 1],[.int .i64 1]]]]⟩
def JH:gU EA Vj:=iJ (n:=100) (l:=[k14]) (by simp only[forall_mem_cons];exact⟨Zk,Zab⟩) (by kernel_rfl)
def k16:gb:=⟨68,[a0,a1],.tup [.fsl 1 [[.fsl 1 [[.int .i64 0],[.int .i64 0]]],[.fsl 1 [[.int .i64 0],[.int .i64 1]]],[.fsl 1 [[.int .i64 1],[.int .i64 0]]],[.fsl 1 [[.int .i64 1],[.int .i64 1]]]],.fsl 1 [[.bool false],[.bool false],[.bool false],[.bool true]],.int .i64 0]⟩
def Yr:gU EA k16:=iJ (n:=100) (l:=[k5,k3,k4,k2,Uq,Vj]) (by simp only[forall_mem_cons];exact⟨aas,Uv,U9,IX,Jv,JH,Zab⟩) (by kernel_rfl)
def k17:gb:=⟨68,[a0,.agg [.int .i64 17,.int .i64 0,.int .i64 0,.int .i64 0,.str ByteArray.empty,.fsl 6 [[.int .i64 9,.int .i64 0,.int .i64 0,.int .i64 0,.str ByteArray.empty,.fsl 6 [[.int .i64 2,.int .i64 0,.int .i64 0,.int .i64 0,.str (ByteArray.mk #[120]),.bO],[.int .i64 1,.int .i64 1,.int .i64 0,.int .i64 0,.str ByteArray.empty,.bO]]],[.int .i64 9,.int .i64 0,.int .i64 0,.int .i64 0,.str ByteArray.empty,.fsl 6 [[.int .i64 2,.int .i64 0,.int .i64 1,.int .i64 0,.str (ByteArray.mk #[120]),.bO],[.int .i64 1,.int .i64 1,.int .i64 0,.int .i64 0,.str ByteArray.empty,.bO]]]]]],.tup [.fsl 1 [[.fsl 1 [[.int .i64 0],[.int .i64 0]]],[.fsl 1 [[.int .i64 0],[.int .i64 1]]],[.fsl 1 [[.int .i64 1],[.int .i64 0]]],[.fsl 1 [[.int .i64 1],[.int .i64 1]]]],.fsl 1 [[.bool false],[.bool true],[.bool true],[.bool true]],.int .i64 0]⟩
def XW:gU EA k17:=iJ (n:=100) (l:=[k2,Uq,Vj]) (by simp only[forall_mem_cons];exact⟨IX,Jv,JH,Zab⟩) (by kernel_rfl)
def OB:∃n H1,run EA n (.fn 10) [] []=some (.bool true,H1):=Oc (n:=100) (l:=[k16,k2,Uq,Vj,k17]) (by simp only[forall_mem_cons];exact⟨Yr,IX,Jv,JH,XW,Zab⟩) (by kernel_rfl)
def calls(n:Nat):lZ Tryz.prog (run E n):=Ie ZX mixed ⟨Vc,λf az b h=>by
 by_cases u:beq f 10=true
 .have e:E.known f az=if az.isEmpty then some (.bool true)else none:=by unfold E EG;simp only[u,if_true]
  rw[e]at h;split at h
  next w=>cases h;have:f=10:=Nat.eq_of_beq_eq_true u;subst this;have:az=[]:=List.isEmpty_iff.1 w;subst this;have⟨n,H1,a⟩:=OB;exact Q0 (Yl n) a
  cases h
 have e:E.known f az=EA.known f az:=by unfold E EA EG;simp only[u,if_false,Bool.false_eq_true]
 rw[e]at h;exact RB f az b h⟩ n
end Go.Proofs.YtfjedefhlilglaaGreatDoor
