/- Tables; awake. -/
import Derived.Shelf.SlSortCmp.NoneTotal
import Derived.Test.YtddlogilhmloeabGreatDoorProg
import Derived.KernelRfl
import Derived.Test.YtddlogilhmloeabGreatDoorV2
set_option linter.all false
open Option renaming some→M,some→_k,none→J,none→_q,bind→H,bind→_o
open Bool renaming true→U,true→_n,false→O,false→_p
open Decidable renaming decide→_s
open List renaming length→W,length→_m
open Go.IntKind renaming i64→N,i64→_r
open List renaming forall_mem_cons→T?
open Nat(beq)
open Nat(le)
namespace Go.Proofs.YtddlogilhmloeabGreatDoor
open Go.VE Go.Proofs
def GJ:Rd:=[-1,0,0,0,0,1,2,2,2,2,2,2,2,0,0,1,2,2,1,1,1,1]
instance:b7:=⟨λg=>if beq g 0 then M (GJ.map (V.int N))else J,λg cs h=>by
 split at h
 .cases h;exact⟨_,_,Y⟩
 cases h⟩
noncomputable def EA:Env:=GX Tryz.prog [0,1,189] [163,78,151,192,189,21,88,91,90,140] [163,78,151] [(98,2)] (λf=>beq f 189) λf az=>J
noncomputable def E:Env:=GX Tryz.prog [0,1,189,4] [163,78,151,192,189,21,88,91,90,140,24,38,39,74,49,86] [163,78,151,24,38,39,74,49] [(98,2)] (λf=>beq f 189) λf az=>if beq f 4 then(if az.isEmpty then M (.bool U)else J)else J
def noC:DD Tryz.prog=U:=by kernel_rfl
def ad1:zA Tryz.prog 98 2:=zA.two (i:=3) Tryz.underlying98 Y Y Y Y (by decide) (by decide) (by kernel_rfl) Tryz.underlying3 (by kernel_rfl) (by kernel_rfl)
def abX:∀p∈[(98,2)],zA Tryz.prog p.1 p.2:=by intro t h;simp only[List.mem_singleton]at h;subst h;exact ad1
def abI:fG Tryz.prog EA:=LU noC abX
def acS:fG Tryz.prog E:=LU noC abX
def mixed:Tryz.prog.follows .mixedOrders=U:=by kernel_rfl
open Go.Shelf
def Tryz.CY:Go.Shelf.Ren:=⟨λ|6=>189|15=>206|14=>205|28=>220|29=>221|20=>212|21=>213|22=>214|23=>215|24=>216|25=>217|26=>218|27=>219|46=>225|47=>226|48=>227|49=>228|50=>229|57=>230|n=>n,λ|22=>39|24=>25|25=>212|3=>3|39=>222|0=>0|53=>235|55=>237|4=>4|46=>228|45=>227|50=>232|5=>5|9=>9|66=>238|70=>242|76=>244|77=>107|n=>n,λ|n=>n⟩
def Tryz.Xa:Go.Proofs.SlLaysF.n6 Tryz.prog Tryz.CY:={
 mixed:=by kernel_rfl
 f6:=⟨Tryz.f189.name,by decide,Tryz.func189.trans (_f M (by kernel_rfl))⟩
 f14:=⟨Tryz.f205.name,by decide,Tryz.func205.trans (_f M (by kernel_rfl))⟩
 f15:=Tryz.func206.trans (_f M (by kernel_rfl))
 f20:=⟨Tryz.f212.name,by decide,Tryz.func212.trans (_f M (by kernel_rfl))⟩
 f21:=⟨Tryz.f213.name,by decide,Tryz.func213.trans (_f M (by kernel_rfl))⟩
 f22:=⟨Tryz.f214.name,by decide,Tryz.func214.trans (_f M (by kernel_rfl))⟩
 f23:=⟨Tryz.f215.name,by decide,Tryz.func215.trans (_f M (by kernel_rfl))⟩
 f24:=⟨Tryz.f216.name,by decide,Tryz.func216.trans (_f M (by kernel_rfl))⟩
 f25:=⟨Tryz.f217.name,by decide,Tryz.func217.trans (_f M (by kernel_rfl))⟩
 f26:=⟨Tryz.f218.name,by decide,Tryz.func218.trans (_f M (by kernel_rfl))⟩
 f27:=⟨Tryz.f219.name,by decide,Tryz.func219.trans (_f M (by kernel_rfl))⟩
 f28:=Tryz.func220.trans (_f M (by kernel_rfl))
 f29:=Tryz.func221.trans (_f M (by kernel_rfl))
 f46:=⟨Tryz.f225.name,by decide,Tryz.func225.trans (_f M (by kernel_rfl))⟩
 f47:=Tryz.func226.trans (_f M (by kernel_rfl))
 f48:=Tryz.func227.trans (_f M (by kernel_rfl))
 f49:=⟨Tryz.f228.name,by decide,Tryz.func228.trans (_f M (by kernel_rfl))⟩
 f50:=⟨Tryz.f229.name,by decide,Tryz.func229.trans (_f M (by kernel_rfl))⟩
 f57:=⟨Tryz.f230.name,by decide,Tryz.func230.trans (_f M (by kernel_rfl))⟩
 t0:=Tryz.underlying0
 a0:=Tryz.isAgg0
 z0:=Tryz.sizeOf0
 v0:=Tryz.zeroValue0
 t3:=Tryz.underlying3
 a3:=Tryz.isAgg3
 z3:=Tryz.sizeOf3
 v3:=Tryz.zeroValue3
 t4:=Tryz.underlying4
 a4:=Tryz.isAgg4
 z4:=Tryz.sizeOf4
 v4:=Tryz.zeroValue4
 t5:=Tryz.underlying5
 a5:=Tryz.isAgg5
 z5:=Tryz.sizeOf5
 v5:=Tryz.zeroValue5
 t9:=Tryz.underlying9
 a9:=Tryz.isAgg9
 z9:=Tryz.sizeOf9
 v9:=Tryz.zeroValue9
 t22:=Tryz.underlying39
 a22:=Tryz.isAgg39
 z22:=Tryz.sizeOf39
 v22:=Tryz.zeroValue39
 a24:=Tryz.isAgg25
 z24:=Tryz.sizeOf25
 t25:=Tryz.underlying212
 a25:=Tryz.isAgg212
 z25:=Tryz.sizeOf212
 v25:=Tryz.zeroValue212
 t39:=Tryz.underlying222
 a39:=Tryz.isAgg222
 z39:=Tryz.sizeOf222
 v39:=Tryz.zeroValue222
 t45:=Tryz.underlying227
 a45:=Tryz.isAgg227
 z45:=Tryz.sizeOf227
 v45:=Tryz.zeroValue227
 t46:=Tryz.underlying228
 a46:=Tryz.isAgg228
 z46:=Tryz.sizeOf228
 v46:=Tryz.zeroValue228
 t50:=Tryz.underlying232
 a50:=Tryz.isAgg232
 z50:=Tryz.sizeOf232
 v50:=Tryz.zeroValue232
 t53:=Tryz.underlying235
 a53:=Tryz.isAgg235
 z53:=Tryz.sizeOf235
 v53:=Tryz.zeroValue235
 t55:=Tryz.underlying237
 a55:=Tryz.isAgg237
 z55:=Tryz.sizeOf237
 v55:=Tryz.zeroValue237
 t66:=Tryz.underlying238
 a66:=Tryz.isAgg238
 z66:=Tryz.sizeOf238
 v66:=Tryz.zeroValue238
 t70:=Tryz.underlying242
 a70:=Tryz.isAgg242
 z70:=Tryz.sizeOf242
 v70:=Tryz.zeroValue242
 t76:=Tryz.underlying244
 a76:=Tryz.isAgg244
 z76:=Tryz.sizeOf244
 v76:=Tryz.zeroValue244
 t77:=Tryz.underlying107
 a77:=Tryz.isAgg107
 z77:=Tryz.sizeOf107
 v77:=Tryz.zeroValue107}
def XX:DK Tryz.prog 189 where
 ok:=⟨Tryz.f189,Tryz.func189,by kernel_rfl,by kernel_rfl⟩
 zero:=λp a u w=>AnyF.slices_SortFunc_none (ρ:=Tryz.CY) {Tryz.Xa with} p a u w
 all:=λenc c cf z g cb b off a d w B e C D G=>Any.slices_SortFunc_eq (ρ:=Tryz.CY) Tryz.Xa enc c cf z g cb b off a d w B e C D G
def XI:∀f,EA.sort f=U->DK Tryz.prog f:=λf h=>by have:f=189:=Nat.eq_of_beq_eq_true h;subst this;exact XX
def Sc:∀f az y,EA.known f az=M y->Fi Tryz.prog f az y:=λf az y h=>by cases h
def aaT(n:Nat):nC Tryz.prog (run EA n):=I8 abI mixed ⟨XI,Sc⟩ n
end Go.Proofs.YtddlogilhmloeabGreatDoor
namespace Go.Proofs.YtddlogilhmloeabGreatDoor
open Go.VE Go.Proofs
def a0:V:=.agg [.fsl 3 [[.str (ByteArray.mk #[112]),.bN,.fsl 5 [[.int N 1,.int N 0,.int N 0,.int N 0,.bN]]],[.str (ByteArray.mk #[113]),.bN,.fsl 5 [[.int N 1,.int N 0,.int N 0,.int N 0,.bN]]]]]
def a1:V:=.fsl 1 [[.int N 1],[.int N 1]]
def a2:V:=.agg [.int N 16,.int N 0,.int N 0,.int N 0,.str ByteArray.empty,.fsl 6 [[.int N 9,.int N 0,.int N 0,.int N 0,.str ByteArray.empty,.fsl 6 [[.int N 3,.int N 0,.int N 0,.int N 0,.str ByteArray.empty,.bN],[.int N 1,.int N 1,.int N 0,.int N 0,.str ByteArray.empty,.bN]]],[.int N 9,.int N 0,.int N 0,.int N 0,.str ByteArray.empty,.fsl 6 [[.int N 3,.int N 0,.int N 1,.int N 0,.str ByteArray.empty,.bN],[.int N 1,.int N 0,.int N 0,.int N 0,.str ByteArray.empty,.bN]]]]]
def k0:gO:=⟨134,[a0,.int N 1],.int N 0⟩
def ac2:iL EA k0:=jw (n:=100) (l:=[]) f? (by kernel_rfl)
def k1:gO:=⟨87,[a0],.tup [.agg [.int N 0,.int N 0],.int N 0]⟩
def DQ:iL EA k1:=jw (n:=100) (l:=[k0]) (by simp only[T?];exact⟨ac2,f?⟩) (by kernel_rfl)
def k2:gO:=⟨83,[.agg [.int N 9,.int N 0,.int N 0,.int N 0,.str ByteArray.empty,.fsl 6 [[.int N 3,.int N 0,.int N 0,.int N 0,.str ByteArray.empty,.bN],[.int N 1,.int N 1,.int N 0,.int N 0,.str ByteArray.empty,.bN]]],.clo 95 [] []],.bool U⟩
def Hz:iL EA k2:=jw (n:=100) (l:=[]) f? (by kernel_rfl)
def k3:gO:=⟨83,[.agg [.int N 9,.int N 0,.int N 0,.int N 0,.str ByteArray.empty,.fsl 6 [[.int N 3,.int N 0,.int N 1,.int N 0,.str ByteArray.empty,.bN],[.int N 1,.int N 0,.int N 0,.int N 0,.str ByteArray.empty,.bN]]],.clo 95 [] []],.bool U⟩
def Hg:iL EA k3:=jw (n:=100) (l:=[]) f? (by kernel_rfl)
def k4:gO:=⟨222,[.int N 1],.bool O⟩
def Xk:iL EA k4:=jw (n:=100) (l:=[]) f? (by kernel_rfl)
def k5:gO:=⟨207,[.int N 1,.int N 1],.int N 0⟩
def XK:iL EA k5:=jw (n:=100) (l:=[k4]) (by simp only[T?];exact⟨Xk,f?⟩) (by kernel_rfl)
def k6:gO:=⟨222,[.int N 0],.bool O⟩
def WK:iL EA k6:=jw (n:=100) (l:=[]) f? (by kernel_rfl)
def k7:gO:=⟨207,[.int N 0,.int N 0],.int N 0⟩
def acf:iL EA k7:=jw (n:=100) (l:=[k6]) (by simp only[T?];exact⟨WK,f?⟩) (by kernel_rfl)
def k8:gO:=⟨150,[.agg [.fsl 1 [[.int N 1],[.int N 1]],.fsl 1 [[.fsl 2 [[.int N 0,.int N 0]]],[.fsl 2 [[.int N 0,.int N 0]]]]],.fsl 1 [[.fsl 1 [[.int N 0],[.int N 0]]]]],.fsl 1 [[.fsl 1 [[.int N 0],[.int N 1]]],[.fsl 1 [[.int N 1],[.int N 0]]]]⟩
def acX:iL EA k8:=jw (n:=100) (l:=[k5,k7,k4,k6]) (by simp only[T?];exact⟨XK,acf,Xk,WK,f?⟩) (by kernel_rfl)
def k9:gO:=⟨191,[a1,a1],.int N 0⟩
def ach:iL EA k9:=jw (n:=100) (l:=[k5]) (by simp only[T?];exact⟨XK,f?⟩) (by kernel_rfl)
def k10:gO:=⟨190,[a1,a1],.int N 0⟩
def abe:iL EA k10:=jw (n:=100) (l:=[k9]) (by simp only[T?];exact⟨ach,f?⟩) (by kernel_rfl)
def k11:gO:=⟨107,[a0],.tup [.fsl 1 [[.fsl 1 [[.fsl 1 [[.int N 0],[.int N 0]]]]],[.fsl 1 [[.fsl 1 [[.int N 0],[.int N 1]]],[.fsl 1 [[.int N 1],[.int N 0]]]]],[.fsl 1 [[.fsl 1 [[.int N 1],[.int N 1]]]]]],.int N 0]⟩
def Se:iL EA k11:=jw (n:=100) (l:=[k1,k8,k10]) (by simp only[T?];exact⟨DQ,acX,abe,f?⟩) (by kernel_rfl)
def B_:gO:=⟨23,[a0],.tup [.fptr [.fsl 3 [[.str (ByteArray.mk #[112]),.bN,.fsl 5 [[.int N 1,.int N 0,.int N 0,.int N 0,.bN]]],[.str (ByteArray.mk #[113]),.bN,.fsl 5 [[.int N 1,.int N 0,.int N 0,.int N 0,.bN]]]],.fsl 1 [[.fsl 1 [[.int N 0],[.int N 0]]],[.fsl 1 [[.int N 0],[.int N 1]]],[.fsl 1 [[.int N 1],[.int N 0]]],[.fsl 1 [[.int N 1],[.int N 1]]]],.fsl 1 [[.fsl 1 [[.int N 2],[.int N 1]]],[.fsl 1 [[.int N 3]]],[.fsl 1 [[.int N 3]]],[.bN]]],.int N 0]⟩
def Sz:iL EA B_:=jw (n:=100) (l:=[k11,k1]) (by simp only[T?];exact⟨Se,DQ,f?⟩) (by kernel_rfl)
def SE:gO:=⟨51,[a2],.bool U⟩
def FZ:iL EA SE:=jw (n:=100) (l:=[]) f? (by kernel_rfl)
def k14:gO:=⟨25,[a0,a2],.int N 0⟩
def abH:iL EA k14:=jw (n:=100) (l:=[k1,SE,k2,k3]) (by simp only[T?];exact⟨DQ,FZ,Hz,Hg,f?⟩) (by kernel_rfl)
def k15:gO:=⟨86,[a0,a2],.tup [.fsl 1 [[.fsl 1 [[.int N 0],[.int N 0]]],[.fsl 1 [[.int N 0],[.int N 1]]],[.fsl 1 [[.int N 1],[.int N 0]]],[.fsl 1 [[.int N 1],[.int N 1]]]],.fsl 1 [[.bool O],[.bool O],[.bool U],[.bool O]],.int N 0]⟩
def Sg:iL EA k15:=jw (n:=100) (l:=[k14,SE,k2,k3,k11,k1]) (by simp only[T?];exact⟨abH,FZ,Hz,Hg,Se,DQ,f?⟩) (by kernel_rfl)
def Hi:gO:=⟨7,[a0,.agg [.int N 18,.int N 0,.int N 0,.int N 0,.str ByteArray.empty,.fsl 6 [[.int N 16,.int N 0,.int N 0,.int N 0,.str ByteArray.empty,.fsl 6 [[.int N 9,.int N 0,.int N 0,.int N 0,.str ByteArray.empty,.fsl 6 [[.int N 3,.int N 0,.int N 0,.int N 0,.str ByteArray.empty,.bN],[.int N 1,.int N 1,.int N 0,.int N 0,.str ByteArray.empty,.bN]]],[.int N 9,.int N 0,.int N 0,.int N 0,.str ByteArray.empty,.fsl 6 [[.int N 3,.int N 0,.int N 1,.int N 0,.str ByteArray.empty,.bN],[.int N 1,.int N 0,.int N 0,.int N 0,.str ByteArray.empty,.bN]]]]]]]],.tup [.fsl 1 [[.bool U],[.bool O],[.bool U],[.bool O]],.int N 0]⟩
def aaQ:iL EA Hi:=jw (n:=100) (l:=[k1,k2,k3,B_,SE,k15]) (by simp only[T?];exact⟨DQ,Hz,Hg,Sz,FZ,Sg,f?⟩) (by kernel_rfl)
def k17:gO:=⟨25,[a0,.agg [.int N 19,.int N 0,.int N 0,.int N 0,.str ByteArray.empty,.fsl 6 [[.int N 16,.int N 0,.int N 0,.int N 0,.str ByteArray.empty,.fsl 6 [[.int N 9,.int N 0,.int N 0,.int N 0,.str ByteArray.empty,.fsl 6 [[.int N 3,.int N 0,.int N 0,.int N 0,.str ByteArray.empty,.bN],[.int N 1,.int N 1,.int N 0,.int N 0,.str ByteArray.empty,.bN]]],[.int N 9,.int N 0,.int N 0,.int N 0,.str ByteArray.empty,.fsl 6 [[.int N 3,.int N 0,.int N 1,.int N 0,.str ByteArray.empty,.bN],[.int N 1,.int N 0,.int N 0,.int N 0,.str ByteArray.empty,.bN]]]]]]]],.int N 0⟩
def aa7:iL EA k17:=jw (n:=100) (l:=[k1,k2,k3]) (by simp only[T?];exact⟨DQ,Hz,Hg,f?⟩) (by kernel_rfl)
def Q_:∃n H1,run EA n (.fn 4) [] []=M (.bool U,H1):=Qe (n:=100) (l:=[Hi,k17,k2,k3,B_,SE,k15]) (by simp only[T?];exact⟨aaQ,aa7,Hz,Hg,Sz,FZ,Sg,f?⟩) (by kernel_rfl)
def calls(n:Nat):nC Tryz.prog (run E n):=I8 acS mixed ⟨XI,λf az b h=>by
 by_cases u:beq f 4=U
 .have e:E.known f az=if az.isEmpty then M (.bool U)else J:=by unfold E GX;simp only[u,N']
  rw[e]at h;split at h
  next w=>cases h;have:f=4:=Nat.eq_of_beq_eq_true u;subst this;have:az=[]:=List.isEmpty_iff.1 w;subst this;have⟨n,H1,a⟩:=Q_;exact SY (aaT n) a
  cases h
 have e:E.known f az=EA.known f az:=by unfold E EA GX;simp only[u,_a,Bool.false_eq_true]
 rw[e]at h;exact Sc f az b h⟩ n
end Go.Proofs.YtddlogilhmloeabGreatDoor
