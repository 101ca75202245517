/-
 The tables of this seat, and the law's own awakening.
-/
import Derived.Test.YtbhedaipfioknaaGreatProg
import Derived.KernelRfl
import Derived.Test.YtbhedaipfioknaaGreatV2
set_option linter.all false
open Nat(beq)
namespace Go.Proofs.YtbhedaipfioknaaGreat
open Go.VE Go.Proofs
instance:bV:=⟨λ_=>none,λ_ _ h=>nomatch h⟩
noncomputable def EA:Env:=BH Tryz.prog [0,1,97] [88,83,73,97,100,60,69,39,47,59] [88,83,73,39,47,59] [(69,2)] (λf=>beq f 97) λf az=>none
noncomputable def E:Env:=BH Tryz.prog [0,1,97,4] [88,83,73,97,100,60,69,39,47,59] [88,83,73,39,47,59] [(69,2)] (λf=>beq f 97) λf az=>if beq f 4 then(if az.isEmpty then some (.bool true)else none)else none
def Us:Ar Tryz.prog=true:=by kernel_rfl
def UX:uY Tryz.prog 69 2:=uY.two (i:=3) Tryz.underlying69 rfl rfl rfl rfl (by decide) (by decide) (by kernel_rfl) Tryz.underlying3 (by kernel_rfl) (by kernel_rfl)
def Sj:∀p∈[(69,2)],uY Tryz.prog p.1 p.2:=by intro t h;simp only[List.mem_singleton]at h;subst h;exact UX
def Te:eD Tryz.prog EA:=Gn Us Sj
def TT:eD Tryz.prog E:=Gn Us Sj
def mixed:Tryz.prog.follows .mixedOrders=true:=by kernel_rfl
open Go.Shelf
def Tryz.zw:Go.Shelf.Ren:=⟨λ|6=>97|15=>121|14=>120|28=>137|29=>138|20=>129|21=>130|22=>131|23=>132|24=>133|25=>134|26=>135|27=>136|46=>139|47=>140|48=>141|49=>142|50=>143|57=>144|n=>n,λ|22=>26|24=>29|25=>145|3=>3|39=>141|0=>0|53=>177|55=>179|4=>4|46=>171|45=>170|50=>108|5=>5|9=>9|66=>180|70=>184|76=>186|77=>187|n=>n,λ|n=>n⟩
def Tryz.OZ:Go.Proofs.SlLaysF.n6 Tryz.prog Tryz.zw:={
 mixed:=by kernel_rfl
 f6:=⟨Tryz.f97.name,by decide,Tryz.func97.trans (congrArg some (by kernel_rfl))⟩
 f14:=⟨Tryz.f120.name,by decide,Tryz.func120.trans (congrArg some (by kernel_rfl))⟩
 f15:=Tryz.func121.trans (congrArg some (by kernel_rfl))
 f20:=⟨Tryz.f129.name,by decide,Tryz.func129.trans (congrArg some (by kernel_rfl))⟩
 f21:=⟨Tryz.f130.name,by decide,Tryz.func130.trans (congrArg some (by kernel_rfl))⟩
 f22:=⟨Tryz.f131.name,by decide,Tryz.func131.trans (congrArg some (by kernel_rfl))⟩
 f23:=⟨Tryz.f132.name,by decide,Tryz.func132.trans (congrArg some (by kernel_rfl))⟩
 f24:=⟨Tryz.f133.name,by decide,Tryz.func133.trans (congrArg some (by kernel_rfl))⟩
 f25:=⟨Tryz.f134.name,by decide,Tryz.func134.trans (congrArg some (by kernel_rfl))⟩
 f26:=⟨Tryz.f135.name,by decide,Tryz.func135.trans (congrArg some (by kernel_rfl))⟩
 f27:=⟨Tryz.f136.name,by decide,Tryz.func136.trans (congrArg some (by kernel_rfl))⟩
 f28:=Tryz.func137.trans (congrArg some (by kernel_rfl))
 f29:=Tryz.func138.trans (congrArg some (by kernel_rfl))
 f46:=⟨Tryz.f139.name,by decide,Tryz.func139.trans (congrArg some (by kernel_rfl))⟩
 f47:=Tryz.func140.trans (congrArg some (by kernel_rfl))
 f48:=Tryz.func141.trans (congrArg some (by kernel_rfl))
 f49:=⟨Tryz.f142.name,by decide,Tryz.func142.trans (congrArg some (by kernel_rfl))⟩
 f50:=⟨Tryz.f143.name,by decide,Tryz.func143.trans (congrArg some (by kernel_rfl))⟩
 f57:=⟨Tryz.f144.name,by decide,Tryz.func144.trans (congrArg some (by kernel_rfl))⟩
 t0:=Tryz.underlying0
 a0:=Tryz.isAgg0
 z0:=Tryz.sizeOf0
 v0:=Tryz.zeroValue0
 t3:=Tryz.underlying3
 a3:=Tryz.isAgg3
 z3:=Tryz.sizeOf3
 v3:=Tryz.zeroValue3
 t4:=Tryz.underlying4
 a4:=Tryz.isAgg4
 z4:=Tryz.sizeOf4
 v4:=Tryz.zeroValue4
 t5:=Tryz.underlying5
 a5:=Tryz.isAgg5
 z5:=Tryz.sizeOf5
 v5:=Tryz.zeroValue5
 t9:=Tryz.underlying9
 a9:=Tryz.isAgg9
 z9:=Tryz.sizeOf9
 v9:=Tryz.zeroValue9
 t22:=Tryz.underlying26
 a22:=Tryz.isAgg26
 z22:=Tryz.sizeOf26
 v22:=Tryz.zeroValue26
 a24:=Tryz.isAgg29
 z24:=Tryz.sizeOf29
 t25:=Tryz.underlying145
 a25:=Tryz.isAgg145
 z25:=Tryz.sizeOf145
 v25:=Tryz.zeroValue145
 t39:=Tryz.underlying141
 a39:=Tryz.isAgg141
 z39:=Tryz.sizeOf141
 v39:=Tryz.zeroValue141
 t45:=Tryz.underlying170
 a45:=Tryz.isAgg170
 z45:=Tryz.sizeOf170
 v45:=Tryz.zeroValue170
 t46:=Tryz.underlying171
 a46:=Tryz.isAgg171
 z46:=Tryz.sizeOf171
 v46:=Tryz.zeroValue171
 t50:=Tryz.underlying108
 a50:=Tryz.isAgg108
 z50:=Tryz.sizeOf108
 v50:=Tryz.zeroValue108
 t53:=Tryz.underlying177
 a53:=Tryz.isAgg177
 z53:=Tryz.sizeOf177
 v53:=Tryz.zeroValue177
 t55:=Tryz.underlying179
 a55:=Tryz.isAgg179
 z55:=Tryz.sizeOf179
 v55:=Tryz.zeroValue179
 t66:=Tryz.underlying180
 a66:=Tryz.isAgg180
 z66:=Tryz.sizeOf180
 v66:=Tryz.zeroValue180
 t70:=Tryz.underlying184
 a70:=Tryz.isAgg184
 z70:=Tryz.sizeOf184
 v70:=Tryz.zeroValue184
 t76:=Tryz.underlying186
 a76:=Tryz.isAgg186
 z76:=Tryz.sizeOf186
 v76:=Tryz.zeroValue186
 t77:=Tryz.underlying187
 a77:=Tryz.isAgg187
 z77:=Tryz.sizeOf187
 v77:=Tryz.zeroValue187}
def Qj:zZ Tryz.prog 97 where
 ok:=⟨Tryz.f97,Tryz.func97,by kernel_rfl,by kernel_rfl⟩
 zero:=λp a t w=>AnyF.slices_SortFunc_none (ρ:=Tryz.zw) {Tryz.OZ with} p a t w
 all:=λenc c cf u g cb b off a d w z e B C D=>Any.slices_SortFunc_eq (ρ:=Tryz.zw) Tryz.OZ enc c cf u g cb b off a d w z e B C D
def O6:∀f,EA.sort f=true->zZ Tryz.prog f:=λf h=>by have:f=97:=Nat.eq_of_beq_eq_true h;subst this;exact Qj
def K1:∀f az y,EA.known f az=some y->AW Tryz.prog f az y:=λf az y h=>by cases h
def RN(n:Nat):ki Tryz.prog (run EA n):=D5 Te mixed ⟨O6,K1⟩ n
end Go.Proofs.YtbhedaipfioknaaGreat
namespace Go.Proofs.YtbhedaipfioknaaGreat
open Go.VE Go.Proofs
def k0:kT:=⟨51,[.agg [.fsl 3 [[.str (ByteArray.mk #[97]),.bJ,.fsl 5 [[.int .i64 2,.int .i64 1,.int .i64 1,.int .i64 0,.bJ],[.int .i64 2,.int .i64 1,.int .i64 2,.int .i64 0,.bJ]]],[.str (ByteArray.mk #[98]),.bJ,.fsl 5 [[.int .i64 3,.int .i64 0,.int .i64 1,.int .i64 0,.bJ]]]]]],.tup [.agg [.int .i64 0,.int .i64 0],.int .i64 0]⟩
def T6:uG EA k0:=MI (n:=100) (l:=[]) Zc (by kernel_rfl)
def Js:∃n H1,run EA n (.fn 4) [] []=some (.bool true,H1):=JJ (n:=100) (l:=[k0]) (by simp only[List.forall_mem_cons];exact⟨T6,Zc⟩) (by kernel_rfl)
def calls(n:Nat):ki Tryz.prog (run E n):=D5 TT mixed ⟨O6,λf az b h=>by
 by_cases t:beq f 4=true
 .have e:E.known f az=if az.isEmpty then some (.bool true)else none:=by unfold E BH;simp only[t,if_true]
  rw[e]at h;split at h
  next u=>cases h;have:f=4:=Nat.eq_of_beq_eq_true t;subst this;have:az=[]:=List.isEmpty_iff.1 u;subst this;have⟨n,H1,a⟩:=Js;exact Mi (RN n) a
  cases h
 have e:E.known f az=EA.known f az:=by unfold E EA BH;simp only[t,if_false,Bool.false_eq_true]
 rw[e]at h;exact K1 f az b h⟩ n
end Go.Proofs.YtbhedaipfioknaaGreat
