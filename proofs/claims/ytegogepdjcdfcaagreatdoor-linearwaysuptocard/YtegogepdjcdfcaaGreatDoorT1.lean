/- Tables; awake. -/
import Derived.Shelf.SlSortCmp.NoneTotal
import Derived.Test.YtegogepdjcdfcaaGreatDoorProg
import Derived.KernelRfl
import Derived.Test.YtegogepdjcdfcaaGreatDoorV2
set_option linter.all false
open Option renaming some→M,some→_j,none→J,none→_p,bind→H,bind→_n
open Bool renaming true→U,true→_m,false→O,false→_o
open Decidable renaming decide→_r
open List renaming length→W,length→_l
open Go.IntKind renaming i64→N,i64→_q
open List renaming forall_mem_cons→T?
open Nat(beq)
open Nat(le)
namespace Go.Proofs.YtegogepdjcdfcaaGreatDoor
open Go.VE Go.Proofs
def FJ:aX Int:=[-1,0,0,0,0,1,2,2,2,2,2,2,2,0,0,1,2,2,1,1,1,1]
instance:bZ:=⟨λg=>if beq g 0 then M (FJ.map (V.int N))else J,λg cs h=>by
 split at h
 .cases h;exact⟨_,_,Y⟩
 cases h⟩
noncomputable def EA:Env:=GQ Tryz.prog [0,1,143] [121,19,116,146,143,153,155,42,67,16,43,49,21,48] [121,19,116,21,48] [(98,2)] (λf=>beq f 143) λf az=>J
noncomputable def E:Env:=GQ Tryz.prog [0,1,143,4] [121,19,116,146,143,153,155,42,67,16,43,49] [121,19,116] [(98,2)] (λf=>beq f 143) λf az=>if beq f 4 then(if az.isEmpty then M (.bool U)else J)else J
def noC:DW Tryz.prog=U:=by kernel_rfl
def aeD:zG Tryz.prog 98 2:=zG.two (i:=3) Tryz.underlying98 Y Y Y Y (by decide) (by decide) (by kernel_rfl) Tryz.underlying3 (by kernel_rfl) (by kernel_rfl)
def abh:∀p∈[(98,2)],zG Tryz.prog p.1 p.2:=by intro t h;simp only[List.mem_singleton]at h;subst h;exact aeD
def abu:eX Tryz.prog EA:=Ls noC abh
def adg:eX Tryz.prog E:=Ls noC abh
def mixed:Tryz.prog.follows .mixedOrders=U:=by kernel_rfl
open Go.Shelf
def Tryz.Dd:Go.Shelf.Ren:=⟨λ|6=>143|15=>170|14=>169|28=>194|29=>195|20=>186|21=>187|22=>188|23=>189|24=>190|25=>191|26=>192|27=>193|46=>211|47=>212|48=>213|49=>214|50=>215|57=>222|n=>n,λ|22=>32|24=>29|25=>195|3=>3|39=>211|0=>0|53=>230|55=>232|4=>4|46=>224|45=>223|50=>146|5=>5|9=>9|66=>238|70=>62|76=>246|77=>214|n=>n,λ|n=>n⟩
def Tryz.Xz:Go.Proofs.SlLaysF.n6 Tryz.prog Tryz.Dd:={
 mixed:=by kernel_rfl
 f6:=⟨Tryz.f143.name,by decide,Tryz.func143.trans (_f M (by kernel_rfl))⟩
 f14:=⟨Tryz.f169.name,by decide,Tryz.func169.trans (_f M (by kernel_rfl))⟩
 f15:=Tryz.func170.trans (_f M (by kernel_rfl))
 f20:=⟨Tryz.f186.name,by decide,Tryz.func186.trans (_f M (by kernel_rfl))⟩
 f21:=⟨Tryz.f187.name,by decide,Tryz.func187.trans (_f M (by kernel_rfl))⟩
 f22:=⟨Tryz.f188.name,by decide,Tryz.func188.trans (_f M (by kernel_rfl))⟩
 f23:=⟨Tryz.f189.name,by decide,Tryz.func189.trans (_f M (by kernel_rfl))⟩
 f24:=⟨Tryz.f190.name,by decide,Tryz.func190.trans (_f M (by kernel_rfl))⟩
 f25:=⟨Tryz.f191.name,by decide,Tryz.func191.trans (_f M (by kernel_rfl))⟩
 f26:=⟨Tryz.f192.name,by decide,Tryz.func192.trans (_f M (by kernel_rfl))⟩
 f27:=⟨Tryz.f193.name,by decide,Tryz.func193.trans (_f M (by kernel_rfl))⟩
 f28:=Tryz.func194.trans (_f M (by kernel_rfl))
 f29:=Tryz.func195.trans (_f M (by kernel_rfl))
 f46:=⟨Tryz.f211.name,by decide,Tryz.func211.trans (_f M (by kernel_rfl))⟩
 f47:=Tryz.func212.trans (_f M (by kernel_rfl))
 f48:=Tryz.func213.trans (_f M (by kernel_rfl))
 f49:=⟨Tryz.f214.name,by decide,Tryz.func214.trans (_f M (by kernel_rfl))⟩
 f50:=⟨Tryz.f215.name,by decide,Tryz.func215.trans (_f M (by kernel_rfl))⟩
 f57:=⟨Tryz.f222.name,by decide,Tryz.func222.trans (_f M (by kernel_rfl))⟩
 t0:=Tryz.underlying0
 a0:=Tryz.isAgg0
 z0:=Tryz.sizeOf0
 v0:=Tryz.zeroValue0
 t3:=Tryz.underlying3
 a3:=Tryz.isAgg3
 z3:=Tryz.sizeOf3
 v3:=Tryz.zeroValue3
 t4:=Tryz.underlying4
 a4:=Tryz.isAgg4
 z4:=Tryz.sizeOf4
 v4:=Tryz.zeroValue4
 t5:=Tryz.underlying5
 a5:=Tryz.isAgg5
 z5:=Tryz.sizeOf5
 v5:=Tryz.zeroValue5
 t9:=Tryz.underlying9
 a9:=Tryz.isAgg9
 z9:=Tryz.sizeOf9
 v9:=Tryz.zeroValue9
 t22:=Tryz.underlying32
 a22:=Tryz.isAgg32
 z22:=Tryz.sizeOf32
 v22:=Tryz.zeroValue32
 a24:=Tryz.isAgg29
 z24:=Tryz.sizeOf29
 t25:=Tryz.underlying195
 a25:=Tryz.isAgg195
 z25:=Tryz.sizeOf195
 v25:=Tryz.zeroValue195
 t39:=Tryz.underlying211
 a39:=Tryz.isAgg211
 z39:=Tryz.sizeOf211
 v39:=Tryz.zeroValue211
 t45:=Tryz.underlying223
 a45:=Tryz.isAgg223
 z45:=Tryz.sizeOf223
 v45:=Tryz.zeroValue223
 t46:=Tryz.underlying224
 a46:=Tryz.isAgg224
 z46:=Tryz.sizeOf224
 v46:=Tryz.zeroValue224
 t50:=Tryz.underlying146
 a50:=Tryz.isAgg146
 z50:=Tryz.sizeOf146
 v50:=Tryz.zeroValue146
 t53:=Tryz.underlying230
 a53:=Tryz.isAgg230
 z53:=Tryz.sizeOf230
 v53:=Tryz.zeroValue230
 t55:=Tryz.underlying232
 a55:=Tryz.isAgg232
 z55:=Tryz.sizeOf232
 v55:=Tryz.zeroValue232
 t66:=Tryz.underlying238
 a66:=Tryz.isAgg238
 z66:=Tryz.sizeOf238
 v66:=Tryz.zeroValue238
 t70:=Tryz.underlying62
 a70:=Tryz.isAgg62
 z70:=Tryz.sizeOf62
 v70:=Tryz.zeroValue62
 t76:=Tryz.underlying246
 a76:=Tryz.isAgg246
 z76:=Tryz.sizeOf246
 v76:=Tryz.zeroValue246
 t77:=Tryz.underlying214
 a77:=Tryz.isAgg214
 z77:=Tryz.sizeOf214
 v77:=Tryz.zeroValue214}
def Z5:DA Tryz.prog 143 where
 ok:=⟨Tryz.f143,Tryz.func143,by kernel_rfl,by kernel_rfl⟩
 zero:=λp a u w=>AnyF.slices_SortFunc_none (ρ:=Tryz.Dd) {Tryz.Xz with} p a u w
 all:=λenc c cf z g cb b off a d w B e C D G=>Any.slices_SortFunc_eq (ρ:=Tryz.Dd) Tryz.Xz enc c cf z g cb b off a d w B e C D G
def XF:∀f,EA.sort f=U->DA Tryz.prog f:=λf h=>by have:f=143:=Nat.eq_of_beq_eq_true h;subst this;exact Z5
def TF:∀f az y,EA.known f az=M y->Fy Tryz.prog f az y:=λf az y h=>by cases h
def abO(n:Nat):mI Tryz.prog (run EA n):=Jg abu mixed ⟨XF,TF⟩ n
end Go.Proofs.YtegogepdjcdfcaaGreatDoor
namespace Go.Proofs.YtegogepdjcdfcaaGreatDoor
open Go.VE Go.Proofs
def a0:V:=.agg [.fsl 3 [[.str (ByteArray.mk #[97]),.fsl 2 [[.str (ByteArray.mk #[120]),.int N 0]],.fsl 5 [[.int N 1,.int N 0,.int N 0,.int N 0,.fsl 2 [[.int N 0,.int N 1]]]]],[.str (ByteArray.mk #[98]),.fsl 2 [[.str (ByteArray.mk #[120]),.int N 0]],.fsl 5 [[.int N 1,.int N 0,.int N 0,.int N 0,.fsl 2 [[.int N 0,.int N 1]]]]]]]
def a1:V:=.agg [.int N 16,.int N 0,.int N 0,.int N 0,.str ByteArray.empty,.fsl 6 [[.int N 9,.int N 0,.int N 0,.int N 0,.str ByteArray.empty,.fsl 6 [[.int N 2,.int N 0,.int N 0,.int N 0,.str (ByteArray.mk #[120]),.bN],[.int N 1,.int N 1,.int N 0,.int N 0,.str ByteArray.empty,.bN]]],[.int N 9,.int N 0,.int N 0,.int N 0,.str ByteArray.empty,.fsl 6 [[.int N 2,.int N 0,.int N 1,.int N 0,.str (ByteArray.mk #[120]),.bN],[.int N 1,.int N 1,.int N 0,.int N 0,.str ByteArray.empty,.bN]]]]]
def a2:V:=.fsl 1 [[.int N 1],[.int N 0]]
def a3:V:=.fsl 1 [[.int N 0],[.int N 1]]
def a4:V:=.agg [.fsl 1 [[.int N 1],[.int N 1]],.fsl 1 [[.fsl 2 [[.int N 0,.int N 0]]],[.fsl 2 [[.int N 0,.int N 0]]]]]
def a5:V:=.fsl 1 [[.fsl 1 [[.int N 0],[.int N 1]]],[.fsl 1 [[.int N 1],[.int N 0]]]]
def a6:V:=.fsl 1 [[.int N 1],[.int N 1]]
def k0:gA:=⟨74,[a0,.int N 0],.int N 0⟩
def adf:iC EA k0:=jo (n:=100) (l:=[]) f? (by kernel_rfl)
def k1:gA:=⟨74,[a0,.int N 1],.int N 0⟩
def acX:iC EA k1:=jo (n:=100) (l:=[]) f? (by kernel_rfl)
def k2:gA:=⟨50,[a0],.tup [.agg [.int N 0,.int N 0],.int N 0]⟩
def Ko:iC EA k2:=jo (n:=100) (l:=[k0,k1]) (by simp only[T?];exact⟨adf,acX,f?⟩) (by kernel_rfl)
def k3:gA:=⟨124,[a1],.bool U⟩
def X0:iC EA k3:=jo (n:=100) (l:=[]) f? (by kernel_rfl)
def k4:gA:=⟨129,[a1,.clo 159 [] []],.bool U⟩
def XJ:iC EA k4:=jo (n:=100) (l:=[]) f? (by kernel_rfl)
def k5:gA:=⟨94,[a0,a1],.int N 0⟩
def adG:iC EA k5:=jo (n:=100) (l:=[k2,k3,k4]) (by simp only[T?];exact⟨Ko,X0,XJ,f?⟩) (by kernel_rfl)
def k6:gA:=⟨196,[.int N 1],.bool O⟩
def PU:iC EA k6:=jo (n:=100) (l:=[]) f? (by kernel_rfl)
def k7:gA:=⟨171,[.int N 1,.int N 1],.int N 0⟩
def W9:iC EA k7:=jo (n:=100) (l:=[k6]) (by simp only[T?];exact⟨PU,f?⟩) (by kernel_rfl)
def k8:gA:=⟨196,[.int N 0],.bool O⟩
def Qu:iC EA k8:=jo (n:=100) (l:=[]) f? (by kernel_rfl)
def k9:gA:=⟨171,[.int N 0,.int N 0],.int N 0⟩
def adJ:iC EA k9:=jo (n:=100) (l:=[k8]) (by simp only[T?];exact⟨Qu,f?⟩) (by kernel_rfl)
def k10:gA:=⟨144,[a2,a3],.int N 1⟩
def abi:iC EA k10:=jo (n:=100) (l:=[k6,k8]) (by simp only[T?];exact⟨PU,Qu,f?⟩) (by kernel_rfl)
def k11:gA:=⟨144,[a3,a2],.int N (-1)⟩
def abr:iC EA k11:=jo (n:=100) (l:=[k8,k6]) (by simp only[T?];exact⟨Qu,PU,f?⟩) (by kernel_rfl)
def Bg:gA:=⟨115,[a4,.fsl 1 [[.fsl 1 [[.int N 0],[.int N 0]]]]],a5⟩
def Kw:iC EA Bg:=jo (n:=100) (l:=[k7,k9,k10,k11]) (by simp only[T?];exact⟨W9,adJ,abi,abr,f?⟩) (by kernel_rfl)
def k13:gA:=⟨145,[a6,a6],.int N 0⟩
def abK:iC EA k13:=jo (n:=100) (l:=[k7]) (by simp only[T?];exact⟨W9,f?⟩) (by kernel_rfl)
def k14:gA:=⟨144,[a6,a6],.int N 0⟩
def aa4:iC EA k14:=jo (n:=100) (l:=[k13]) (by simp only[T?];exact⟨abK,f?⟩) (by kernel_rfl)
def Xu:gA:=⟨115,[a4,a5],.fsl 1 [[.fsl 1 [[.int N 1],[.int N 1]]]]⟩
def MZ:iC EA Xu:=jo (n:=100) (l:=[k14]) (by simp only[T?];exact⟨aa4,f?⟩) (by kernel_rfl)
def k16:gA:=⟨68,[a0,a1],.tup [.fsl 1 [[.fsl 1 [[.int N 0],[.int N 0]]],[.fsl 1 [[.int N 0],[.int N 1]]],[.fsl 1 [[.int N 1],[.int N 0]]],[.fsl 1 [[.int N 1],[.int N 1]]]],.fsl 1 [[.bool O],[.bool O],[.bool O],[.bool U]],.int N 0]⟩
def aby:iC EA k16:=jo (n:=100) (l:=[k5,k3,k4,k2,Bg,Xu]) (by simp only[T?];exact⟨adG,X0,XJ,Ko,Kw,MZ,f?⟩) (by kernel_rfl)
def k17:gA:=⟨68,[a0,.agg [.int N 17,.int N 0,.int N 0,.int N 0,.str ByteArray.empty,.fsl 6 [[.int N 9,.int N 0,.int N 0,.int N 0,.str ByteArray.empty,.fsl 6 [[.int N 2,.int N 0,.int N 0,.int N 0,.str (ByteArray.mk #[120]),.bN],[.int N 1,.int N 1,.int N 0,.int N 0,.str ByteArray.empty,.bN]]],[.int N 9,.int N 0,.int N 0,.int N 0,.str ByteArray.empty,.fsl 6 [[.int N 2,.int N 0,.int N 1,.int N 0,.str (ByteArray.mk #[120]),.bN],[.int N 1,.int N 1,.int N 0,.int N 0,.str ByteArray.empty,.bN]]]]]],.tup [.fsl 1 [[.fsl 1 [[.int N 0],[.int N 0]]],[.fsl 1 [[.int N 0],[.int N 1]]],[.fsl 1 [[.int N 1],[.int N 0]]],[.fsl 1 [[.int N 1],[.int N 1]]]],.fsl 1 [[.bool O],[.bool U],[.bool U],[.bool U]],.int N 0]⟩
def aa9:iC EA k17:=jo (n:=100) (l:=[k2,Bg,Xu]) (by simp only[T?];exact⟨Ko,Kw,MZ,f?⟩) (by kernel_rfl)
def Rh:∃n H1,run EA n (.fn 4) [] []=M (.bool U,H1):=Rr (n:=100) (l:=[k16,k2,Bg,Xu,k17]) (by simp only[T?];exact⟨aby,Ko,Kw,MZ,aa9,f?⟩) (by kernel_rfl)
def calls(n:Nat):mI Tryz.prog (run E n):=Jg adg mixed ⟨XF,λf az b h=>by
 by_cases u:beq f 4=U
 .have e:E.known f az=if az.isEmpty then M (.bool U)else J:=by unfold E GQ;simp only[u,N']
  rw[e]at h;split at h
  next w=>cases h;have:f=4:=Nat.eq_of_beq_eq_true u;subst this;have:az=[]:=List.isEmpty_iff.1 w;subst this;have⟨n,H1,a⟩:=Rh;exact To (abO n) a
  cases h
 have e:E.known f az=EA.known f az:=by unfold E EA GQ;simp only[u,_a,Bool.false_eq_true]
 rw[e]at h;exact TF f az b h⟩ n
end Go.Proofs.YtegogepdjcdfcaaGreatDoor
