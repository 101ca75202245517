/-
 Each function of the program that the law reaches: its plain form, and that it comes to that.
-/
import Derived.Test.YtfjedefhlilglaaGreatDoorK1
import Derived.Test.YtfjedefhlilglaaGreatDoorT1
set_option linter.all false
open List(all_cons all_nil cons_append map_append map_cons map_nil mem_map mem_of_getElem? replicate)
open Go.IntKind(signed wrap)
open Nat(beq ble reduceEqDiff zero_add)
open Empty(elim)
open ByteArray(toList)
namespace Go.VE
theorem Zae{p:Prop}(h:p:=by kernel_rfl):p:=h
structure Var where
 name:ByteArray
 init_:Int
 deriving Inhabited
instance:bC Var where
 cells x:=[.str x.name,.int .i64 x.init_]
 agg:=true
 size:=2
 len _:=rfl
 good x:=by simp only[V.cI,V.good,j8,Bool.and_self]
 one x:=by simp only[all_cons,all_nil,nT,mo,nR,nC,Bool.and_self]
 plain h:=by cases h
structure Assign where
 var:Int
 value:Int
 deriving Inhabited
instance:bC Assign where
 cells x:=[.int .i64 x.var,.int .i64 x.value]
 agg:=true
 size:=2
 len _:=rfl
 good x:=by simp only[V.cI,V.good,j8,Bool.and_self]
 one x:=by simp only[all_cons,all_nil,nT,mo,nR,nC,Bool.and_self]
 plain h:=by cases h
structure Event where
 kind:Int
 peer:Int
 message:Int
 time:Int
 assign:Sl Assign
 deriving Inhabited
abbrev WF:=Event
instance:bC WF where
 cells x:=[.int .i64 x.kind,.int .i64 x.peer,.int .i64 x.message,.int .i64 x.time,enc x.assign]
 agg:=true
 size:=5
 len _:=rfl
 good x:=by simp only[V.cI,V.good,j8,Bool.and_self]
 one x:=by simp only[all_cons,all_nil,nT,mo,nR,nC,Bool.and_self]
 plain h:=by cases h
structure bX where
 name:ByteArray
 vars:Sl Var
 events:Sl Event
 deriving Inhabited
instance:bC bX where
 cells x:=[.str x.name,enc x.vars,enc x.events]
 agg:=true
 size:=3
 len _:=rfl
 good x:=by simp only[V.cI,V.good,j8,Bool.and_self]
 one x:=by simp only[all_cons,all_nil,nT,mo,nR,nC,Bool.and_self]
 plain h:=by cases h
structure Trace where
 procs:Sl bX
 deriving Inhabited
abbrev Z4:=Trace
instance:bC Z4 where
 cells x:=[enc x.procs]
 agg:=true
 size:=1
 len _:=rfl
 good x:=by simp only[V.cI,V.good,j8,Bool.and_self]
 one x:=by simp only[all_cons,all_nil,nT,mo,nR,nC,Bool.and_self]
 plain h:=by cases h
structure Pred where
 kind:Int
 n:Int
 proc:Int
 peer:Int
 name:ByteArray
 l:Sl Pred
mutual
def Pred.Vm:Pred->T2
 |⟨f0,f1,f2,f3,B,f5⟩=>[.int .i64 f0,.int .i64 f1,.int .i64 f2,.int .i64 f3,.str B,Pred.HO f5]
def Pred.HO:Sl Pred->V
 |.nil=>.bO|.emp=>.dU|.row l=>.fsl 6 (Pred.E0 l)|.part l=>.fsl 6 (Pred.E0 l)
def Pred.E0:aZ Pred->T'
 |[]=>[]|x::r=>Pred.Vm x::Pred.E0 r
end
instance:Inhabited Pred:=⟨⟨default,default,default,default,default,Sl.nil⟩⟩
mutual
theorem Pred.Vv:∀x:Pred,V.cI x.Vm=true
 |⟨f0,f1,f2,f3,B,f5⟩=>by simp only[Pred.Vm,V.cI,V.good,Pred.Lg,Bool.and_self]
theorem Pred.Lg:∀x:Sl Pred,V.good (Pred.HO x)=true
 |.nil=>rfl|.emp=>rfl|.row l=>by simp only[Pred.HO,V.good,Pred.DY]|.part l=>by simp only[Pred.HO,V.good,Pred.DY]
theorem Pred.DY:∀x:aZ Pred,V.oc (Pred.E0 x)=true
 |[]=>rfl|x::r=>by simp only[Pred.E0,V.oc,Pred.Vv,Pred.DY,Bool.and_self]
end
theorem Pred.VI(s:Sl Pred):V.one (Pred.HO s)=true:=by cases s<;>simp[Pred.HO,V.one]
instance:bC Pred where
 cells x:=[.int .i64 x.kind,.int .i64 x.n,.int .i64 x.proc,.int .i64 x.peer,.str x.name,Pred.HO x.l]
 agg:=true
 size:=6
 len _:=rfl
 good x:=by simp only[V.cI,V.good,Pred.Lg,Bool.and_self]
 one x:=by simp only[all_cons,all_nil,nT,mo,nR,Pred.VI,Bool.and_self]
 plain h:=by cases h
theorem Pred.QL(x:Pred):Pred.Vm x=cells x:=by cases x;rfl
theorem Pred.DN:∀l:aZ Pred,Pred.E0 l=rows l
 |[]=>rfl|x::r=>by rw[Pred.E0,Pred.DN r,Pred.QL];rfl
theorem Pred.mC(s:Sl Pred):Pred.HO s=enc s:=by cases s with|nil=>rfl|emp=>rfl|row l=>show V.fsl 6 (Pred.E0 l)=V.fsl 6 (rows l);rw[Pred.DN]|part l=>show V.fsl 6 (Pred.E0 l)=V.fsl 6 (rows l);rw[Pred.DN]
structure bD where
 from_:bf
 to_:bf
 deriving Inhabited
instance:bC bD where
 cells x:=[.int .i64 x.from_.proc,.int .i64 x.from_.index,.int .i64 x.to_.proc,.int .i64 x.to_.index]
 agg:=true
 size:=4
 len _:=rfl
 good x:=by simp only[V.cI,V.good,j8,Bool.and_self]
 one x:=by simp only[all_cons,all_nil,nT,mo,nR,nC,Bool.and_self]
 plain h:=by cases h
structure bU where
 low:Int
 high:Int
 deriving Inhabited
instance:bC bU where
 cells x:=[.int .i64 x.low,.int .i64 x.high]
 agg:=true
 size:=2
 len _:=rfl
 good x:=by simp only[V.cI,V.good,j8,Bool.and_self]
 one x:=by simp only[all_cons,all_nil,nT,mo,nR,nC,Bool.and_self]
 plain h:=by cases h
structure cz where
 lengths:Sl Int
 need:Sl (Sl bf)
 deriving Inhabited
instance:bC cz where
 cells x:=[enc x.lengths,enc x.need]
 agg:=true
 size:=2
 len _:=rfl
 good x:=by simp only[V.cI,V.good,j8,Bool.and_self]
 one x:=by simp only[all_cons,all_nil,nT,mo,nR,nC,Bool.and_self]
 plain h:=by cases h
structure cr where
 t:Trace
 counts:Sl Int
 values:Sl (Sl Int)
 deriving Inhabited
instance:bC cr where
 cells x:=[enc x.t.procs,enc x.counts,enc x.values]
 agg:=true
 size:=3
 len _:=rfl
 good x:=by simp only[V.cI,V.good,j8,Bool.and_self]
 one x:=by simp only[all_cons,all_nil,nT,mo,nR,nC,Bool.and_self]
 plain h:=by cases h
structure b_ where
 t:Trace
 l:Sl (Sl Int)
 index:Ep ByteArray Int
 truth:Sl Bool
 deriving Inhabited
instance:bC b_ where
 cells x:=[enc x.t.procs,enc x.l,enc x.index,enc x.truth]
 agg:=true
 size:=4
 len _:=rfl
 good x:=by simp only[V.cI,V.good,j8,Bool.and_self]
 one x:=by simp only[all_cons,all_nil,nT,mo,nR,nC,Nd,Bool.and_self]
 plain h:=by cases h
def ji(p:Int):Int->aZ WF->aZ (bf×WF)
 |_,[]=>[]|j,e::r=>(⟨p,j+1⟩,e)::ji p (j+1) r
def gA:Int->aZ bX->aZ (bf×WF)
 |_,[]=>[]|i,p::r=>ji i 0 p.events.l++gA (i+1) r
def pU(n:Nat):X':=decide (n<9223372036854775807)
def jG(t:Z4):a_ (aZ (bf×WF)):=if pU t.procs.l.length&&t.procs.l.all λp=>pU p.events.l.length then some (gA 0 t.procs.l)else none
def AW:cq 22 Int:=⟨Go.Proofs.YtfjedefhlilglaaGreatDoor.Fz,rfl⟩
end Go.VE
namespace Go.VE
def UJ:Nat->Nat->Nat->S'
 |0,_,_=>[]|f+1,i,m=>bif m % 2==1 then i::UJ f (i+1) (m / 2)else UJ f (i+1) (m / 2)
def gK(g m:Nat)(l:S':=[]):Gh:=.keep (UJ 128 0 g) (UJ 128 0 m++l)
def g2(n g m:Nat)(l:S':=[]):Nat×QP×QP:=(n,[gK g m l],[gK g m l])
def g1(n g m:Nat)(l:S':=[]):Nat×QP×QP:=(n,[gK g m l],[])
def G2(n:Nat)(x:QP):Nat×QP×QP:=(n,x,x)
def G1(n:Nat)(x:QP):Nat×QP×QP:=(n,x,[])
def cS(i n:Nat):Gh:=.canon (.s i) (2000+i) n
def cC(i j n:Nat):Gh:=.canon (.c i j) (4000+20*i+j) n
def e0(n m:Nat):Nat×GD:=(n,⟨m,[],[]⟩)
def e1(n m:Nat)(l:aZ (Nat×QP×QP)):Nat×GD:=(n,⟨m,[],l⟩)
def Oo:aZ (Nat×GD):=[ e1 118 0x22226260002000201 [g2 6 387 0,g1 12 0 0,g1 22 16 0,g1 27 16 0],e0 79 0x226221,e0 80 0x2222212,e0 194 0x26c4444026402201,e0 195 0x26442201,e1 152 0x222064c002644c00222600620000644402644022201 [g1 8 4 0,g2 14 9 0,g1 20 0 0,g1 28 4 0,g1 33 4 0],e0 153 0x26442201,e1 110 0x2222222022226020222062260202260206000022226020622000022202220620226020600002220202602012 [g1 10 16 0,g2 16 102 36,g1 22 32 32,g1 30 16 0,g1 39 16 0,g2 45 160 32,g1 51 32 32,g1 60 16 0,g2 66 416 32,g1 72 160 32,g1 80 16 0,g1 88 16 0,g1 97 16 0,g1 101 16 0],e1 111 0x2222220620226020600006444026c444c04040222020260206220000222006cc44c4444c04040440264402220064402644026c04026c44040264402644022200644022202202026022602012 [g1 13 64 0,g1 20 64 0,g1 22 142 136,g1 28 64 0,g1 36 64 0,g2 42 394 136,g1 48 0 0,g1 59 64 0,g2 64 1930 648,g1 70 394 136,g1 78 64 0,g1 84 64 0],e0 154 0x2262222262022022,e1 100 0x20222222262226c0442602020260226020622260200062200002 [g2 6 206 72,g1 12 64 64,g2 18 462 72,g1 24 206 72,g1 34 64 64,g1 40 64 64],e1 112 0x2222226cc40444cc4040444022202602262020622262020000220060e20200022020600122 [g2 30 236 44,g1 36 64 0],e1 113 0x22206222602026006220002222203622000622262002062202202026260022602062226020260062200002222012 [G2 6 [cS 3 1,gK 10 2 [2003]],G2 14 [cS 3 1,gK 58 2 [2003]],G1 20 [cS 3 1,gK 26 2 [2003]],G2 24 [cS 3 1,gK 58 2 [2003]],G1 30 [cS 3 1,gK 58 2 [2003]],G1 43 [cS 3 1,gK 58 2 [2003]],G1 46 [cS 3 1,gK 42 2 [2003]],G1 53 [cS 3 1,gK 10 2 [2003]],G2 59 [cS 3 1,gK 266 2 [2003]],g1 65 0 0,g1 73 4 0,g1 78 4 0],e1 155 0x22262622222202062026262202022200122 [G1 10 [cS 5 2,gK 44 12 [2005]]],e1 73 0x202222220222620260600206200622260200062200002020222222222220260020620062226020006220002222222226222202e0006222602000622000222222222026006220000206444022220102 [g1 8 12 4,g2 14 22 6,g1 20 6 6,g1 30 12 4,g2 37 70 6,g1 43 6 6,g2 49 198 6,g1 55 70 6,g1 65 12 4,g2 73 518 6,g1 79 6 6,g2 85 1542 6,g1 91 518 6,g1 103 12 4,g1 113 12 4,g2 119 8198 6,g1 125 4 4,g2 131 24582 6,g1 137 8198 6,g1 147 12 4,g1 153 12 4],e0 39 0x2222302022212,e0 81 0x222212,e0 135 0x2236226200026201,e1 86 0x22206c444c0404c0022260062000062202012 [g1 8 16 0,g2 14 38 4,g1 20 0 0,g1 28 16 0,g1 33 16 0],e1 87 0x2222220626220202062202202026022602062600006200012 [g2 6 38 4,g1 12 0 0,g2 18 102 4,g1 24 38 4,g1 39 16 0,g1 46 16 0],e0 49 0x26c44260012,e1 101 0x2222226260026cc000262226020260062000012 [G2 8 [cS 5 1,gK 102 4 [2005]],G1 14 [cS 5 1,gK 32 0 [2005]]],e1 177 0x2222226260026200001 [g2 8 25 0,g1 14 8 0],e1 136 0x222262622260262600260062000262222620201 [g1 8 16 0,g2 14 35 0,g1 20 0 0,g1 28 16 0,g1 33 16 0],e1 137 0x2220626002600620000620201 [g1 8 16 0,g2 14 35 0,g1 20 0 0,g1 28 16 0,g1 33 16 0],e1 102 0x26622226222266000226c04c00262002226c04c002620001 [g2 6 35 0,g1 12 35 0],(62,⟨0x222222222226260026200026260006200000022026022200222220112,[(7,[.closeS (.s 13)])],[G2 8 [.closeS (.s 4),cS 5 1,gK 50 2 [2005]],G1 14 [cS 5 1,gK 32 0 [2005]],G1 24 [cS 2 1,gK 12 0 [2002]],G2 32 [.closeS (.s 4),cS 5 1,gK 242 2 [2005]],G1 38 [cS 5 1,gK 98 2 [2005]],G2 46 [.closeS (.s 4),cS 5 1,gK 1010 2 [2005]],G1 52 [.closeS (.s 4),cS 5 1,gK 242 2 [2005]],G1 61 [cS 2 1,gK 12 0 [2002]]]⟩),e1 45 0x2644422222202222222202222622202202000022022022002022064442222026220220200002000222012 [g1 8 4 0,g2 16 458762 2,g1 22 10 2,g1 34 4 0,g1 43 4 0,g1 51 4 0,g2 63 246290604621888 0,g1 69 64 0,g1 81 4 0,g1 86 4 0,g1 92 4 0],e0 75 0x22e222212,e0 74 0x226221,e1 115 0x22226260002000201 [G2 6 [.drop [2,3,4,5,6,9,10,11,12,13,14,15,16,17,18]],G1 12 [.drop [0,1,2,3,4,5,6,7,8,9,10,11,12,13,14,15,16,17,18]],G1 22 [.drop [0,1,2,3,5,6,7,8,9,10,11,12,13,14,15,16,17,18]],G1 27 [.drop [0,1,2,3,5,6,7,8,9,10,11,12,13,14,15,16,17,18]]],(40,⟨0x264cc442644402640222203222001222,[(27,[.canon (.s 4) 9001 0,.closeB 5])],[]⟩),e1 78 0x222222666202602006c002622000012 [g2 8 102 4,g1 14 32 0],e0 42 0x222212,(11,⟨0x26c444444026c022200122,[(9,[.canon (.s 5) 9002 0])],[]⟩),e0 127 0x26c4426201,e0 204 0x26c4444026402201,e0 205 0x26442201,e1 163 0x22064c402644c00222600200020064440264402201 [g1 8 4 0,g2 14 786433 0,g1 20 0 0,g1 30 4 0,g1 35 4 0],e0 165 0x26222212,e1 206 0x22226260002000201 [g2 6 387 0,g1 12 0 0,g1 22 16 0,g1 27 16 0],e0 164 0x226221,e0 167 0x26222212,e1 207 0x22226260002000201 [g2 6 387 0,g1 12 0 0,g1 22 16 0,g1 27 16 0],e0 166 0x226221,e1 128 0x222222022222026c0c4402222022020000020022220026c0c44422220202602012 [g1 11 16 0,g1 17 16 0,g2 23 30064771104 32,g1 29 32 32,g1 40 16 0,g1 46 16 0,g1 55 16 0,g1 59 16 0],e0 129 0x2212,e1 169 0x2644426c4402622222022202644422202020122 [g1 18 524330 40],e0 171 0x26222212,e1 208 0x22226260002000201 [g2 6 387 0,g1 12 0 0,g1 22 16 0,g1 27 16 0],e0 170 0x226221,e1 130 0x2202626220026444022622202022020000020022220026c44022220022e02222226220202200202620201222 [g1 12 440 184,g1 19 64 0,g1 25 64 0,g1 31 64 0,g2 37 31525197391593632 160,g1 43 0 0,g1 54 64 0,g1 60 64 0,g1 65 64 0],e0 209 0x26c44426c440222012,e0 172 0x2662262221222,e1 131 0x2202326222002202001ef200220022022226200223262220022022226200202022020202020200002 [(8,[gK 4158 1086],[gK 0 1086]),g1 27 0 1086,g1 39 0 1086,g1 47 0 1086,g1 53 28 1052],e1 173 0x222622262222264444c4400222020262222262622020262020222620220122 [G1 12 [cS 7 2,gK 418 32 [2007]]],e1 132 0x20222622230026000226002020000e200262220202622002202202020200022 [(6,[gK 8252 60],[gK 0 60]),G2 14 [cS 8 2,gK 8700 65660 [2008]],g1 20 8252 60,G2 29 [cS 8 2,gK 481036345852 65660 [2008]],G1 35 [cS 8 2,gK 8700 65660 [2008]],g1 46 0 60,g1 58 48 48],e1 97 0x20022222020262222222022202002202222202e2002020202222222202600200022002022220002 [g1 8 12 12,g2 14 12582926 14,g1 20 14 14,g1 32 12 12,(39,[gK 68719476750 14],[gK 0 14]),g1 51 0 14,g1 61 12 12,g1 71 12 12,g1 75 12 12],e0 56 0x2222302022212,e0 216 0x264426402201,e0 179 0x26c4444c4404440222006c4404440264402644026c444044026440222012,e0 180 0x22e222212,(178,⟨0x226622064402640222220122,[(20,[.closeB 5])],[]⟩),(139,⟨0x26222200012,[(5,[.canon (.s 3) 9004 0,.canon (.s 4) 9003 0])],[]⟩),e0 182 0x26c444422012,e0 217 0x2622212,e0 183 0x262226222122,e0 181 0x2644426c404026c40426200222644426440262022026001cf444042644026200202012,e0 190 0x2262212,(144,⟨0x264c4442600122,[(10,[.closeB 3])],[]⟩),e0 140 0x2622122,e0 186 0x221,e0 187 0x221,e0 185 0x2622222212,(184,⟨0x22622012,[(5,[.closeB 1])],[]⟩),e0 141 0x22212,e1 124 0x222222626002620002220012201 [g1 8 1 0,g2 14 25 0,g1 20 8 0],e1 138 0x222222626002620002220012201 [g1 8 1 0,g2 14 25 0,g1 20 8 0],e0 220 0x2622200,e1 232 0x22222226c04422202020000226222012 [g2 8 229508 0,g1 14 128 0],e0 259 0x2622212,e0 257 0x26222122,e0 250 0x220020262262220026c4400220002220112,e1 20 0x26200201 [G1 8 [.canon (.s 2) 4004 1],G1 12 [.canon (.s 2) 4004 1]],(222,⟨0x222e202202236222002020000222202000002226200222622222020000200,[(21,[.closeS (.s 25)]),(57,[.closeS (.s 54)])],[G2 6 [cS 3 1,gK 14347 0 [2003]],G1 12 [cS 3 1,gK 11 0 [2003]],g1 23 0 0,G2 28 [cS 3 1,gK 3758096393 0 [2003]],g1 34 0 0,G2 43 [cS 3 1,gK 965830770761 0 [2003]],G1 49 [cS 3 1,gK 3758096457 0 [2003]],g1 59 0 0]⟩),e0 191 0x2212,e1 251 0x22262260202220122 [(8,[cC 5 0 1,gK 552 40 [4100]],[cC 5 0 1,gK 0 40 [4100]])],e0 233 0x2222202622622220022022202e2001112,e0 218 0x26223222002e2220222e2220222222226222220222222020022,e0 219 0x26444222012,e0 234 0x262201,e0 221 0x22222622220622020260006402201,e1 188 0x22222022001ef622226202062020620202662222620202226622226202020262222202022002064422222202622202222002002202026222002222202062222201022 [g1 22 1944 664,g1 49 2064 2064],e0 189 0x2262212,(142,⟨0x226222222302026222220122,[(21,[.closeB 2])],[]⟩),e0 104 0x22622022200226000264402220122,e0 143 0x2222002220002220112,e0 105 0x6c44222222022212,e0 146 0x26442201,e0 145 0x2222212,e0 106 0x2644422012,e1 162 0x200226c0442602020202202022000222 [g1 8 192 192,(14,[gK 33008 240],[gK 0 240]),g1 24 0 240,g1 28 192 192],e0 126 0x2220622102,(174,⟨0x2222306222030622222022262222302622022002020000200202000020002,[(53,[.closeS (.s 49)]),(59,[.closeS (.c 3 0),.closeS (.c 3 1)])],[G2 8 [cC 3 0 1,cC 3 1 1,gK 14350 14 [4060,4061]],G1 14 [cC 3 0 1,cC 3 1 1,gK 12 12 [4060,4061]],G2 25 [cS 6 2,cC 3 0 1,cC 3 1 1,gK 1849454 46 [2006,4060,4061]],G1 31 [cS 6 2,cC 3 0 1,cC 3 1 1,gK 14446 46 [2006,4060,4061]],G1 44 [cS 6 2,cC 3 0 1,cC 3 1 1,gK 1849966 558 [2006,4060,4061]]]⟩),e0 210 0x26262222020262620260220626020260012,e0 249 0x26201,e0 231 0x62206000200222202201,e1 213 0x62222222220262222620062002220000001 [g2 6 3587 0,g1 12 3 0,g1 23 16 0,g1 34 16 0,g1 43 16 0,g1 47 16 0],e0 212 0x26221,e1 16 0x2206262026002000200620201 [g1 8 16 0,g2 14 12291 0,g1 20 0 0,g1 30 16 0,g1 35 16 0],e0 215 0x26221,(175,⟨0x222302222262223622020220e0002000202200002012,[(32,[.closeS (.s 34)])],[G2 8 [cS 5 1,gK 7204 4 [2005]],G1 14 [cS 5 1,gK 32 0 [2005]],G2 22 [cS 5 1,gK 400548 4 [2005]],G1 28 [cS 5 1,gK 7204 4 [2005]]]⟩),(133,⟨0x2226202620200202620222000222222202000220112,[(16,[.closeS (.s 16)])],[G1 8 [cS 2 1,gK 12 0 [2002]],G2 20 [.closeS (.s 5),cS 6 1,gK 240 16 [2006]],G1 26 [cS 6 1,gK 64 0 [2006]],G1 37 [cS 2 1,gK 12 0 [2002]],G1 43 [cS 2 1,gK 12 0 [2002]]]⟩),e0 98 0x222222220222112,e0 57 0x222022112,e0 125 0x26222221,e1 69 0x22226260002000201 [g2 6 387 0,g1 12 0 0,g1 22 16 0,g1 27 16 0],e0 31 0x226221,e0 94 0x264c4422012,e1 95 0x2206c444c440422022200000212 [g2 6 900 4,g1 12 0 0,g1 22 16 0,g1 27 16 0],e0 150 0x26c444422012,e1 96 0x2200222202262222626200203202026220220220200000622260202220000001002 [g2 6 57398 52,g1 12 48 48,g2 20 939581622 52,g1 26 57398 52,g1 44 112 48,g1 50 112 48],e0 151 0x22223300200262212,e1 109 0x2202620220000222026202200002220262022000000260012 [g1 8 64 0,g2 14 917518 8,g1 20 14 8,g1 30 64 0,g2 37 1879048202 8,g1 43 10 8,g1 53 64 0,g2 60 3848290697224 8,g1 66 0 0,g1 76 64 0,g1 81 64 0],e1 147 0x222226262222022200000202022026202112 [G2 18 [cS 7 2,gK 917632 0 [2007]],G1 24 [cS 7 2,gK 128 0 [2007]]],e1 148 0x226022222022 [(6,[gK 280 24],[gK 0 24]),g1 16 0 24,g1 20 16 16],e1 107 0x22222626226220222200000202022023202600112 [G2 18 [cS 8 1,gK 7340292 4 [2008]],G1 24 [cS 8 1,gK 256 0 [2008]]],e0 223 0x26222212,e0 192 0x226226222226022620220122,e0 235 0x2220622102,e1 224 0x22222622226c4c4404022222020262006c04022202020000626202260200202202e600200112 [G2 18 [cS 11 1,gK 481036339226 16 [2011]],G1 24 [cS 11 1,gK 2048 0 [2011]]],e0 193 0x22232202001ef22202220122,e0 149 0x266222226222002662222262220022266222226222002022622222202622202262222202622202222020122,e1 108 0x26c44444262220026c44444262220022226222222022222020266222226222002026622222622200202662222262220020266222226222002020122 [g1 36 147573952589676413004 12],e1 68 0x22222226260e22022002202220260022000000200220222022000020200220220200220260011122 [G1 10 [cS 5 1,gK 112 0 [2005]],G1 20 [cS 5 1,gK 112 0 [2005]],G1 28 [cS 5 1,gK 112 0 [2005]],G1 38 [cS 5 1,gK 112 0 [2005]],G2 46 [cS 11 1,gK 962072676876 12 [2011]],G1 52 [cS 11 1,gK 2560 0 [2011]],G1 65 [cS 5 1,gK 112 0 [2005]],G1 71 [cS 5 1,gK 112 0 [2005]]],e0 82 0x222222320026221122,e1 84 0x22222262222220000222201 [G2 8 [cS 3 1,gK 3592 0 [2003]],G1 14 [cS 3 1,gK 8 0 [2003]]],e1 58 0x22227222222022200000222001ef200212 [g2 8 458880 36864,g1 14 128 36864],e0 46 0x2e22220220222022020220222026201122,e0 83 0x22622212,e1 91 0x22222622222220262222203660202022260222020002260222001 [G2 8 [cS 7 1,gK 1572999 0 [2007]],G1 14 [cS 7 1,gK 128 0 [2007]]],e1 92 0x22222236662620260000020002022000022222201 [G2 8 [cS 5 1,gK 114721 0 [2005]],G1 14 [cS 5 1,gK 32 0 [2005]],G2 22 [cS 5 1,gK 6406305 0 [2005]],G1 28 [cS 5 1,gK 114721 0 [2005]]],e0 93 0x2221,e1 53 0x2222222362626202600003626200022260022260022000060036260222000260222020222222022222201 [G2 8 [cS 3 1,gK 25 0 [2003]],G1 14 [cS 3 1,gK 8 0 [2003]],G2 28 [cS 3 1,gK 30786325577753 0 [2003]],G1 34 [cS 3 1,gK 25 0 [2003]]],e0 123 0x2644cc44444444402201,e0 90 0x2262212,e0 52 0x22262200222600002260211,e0 47 0x2220e622222220000260222011,e1 54 0x1ff220002222222002002600222002260000226200112 [G1 9 [cS 6 1,gK 192 0 [2006]],G1 15 [cS 6 1,gK 192 0 [2006]],G2 20 [cS 8 1,gK 268 8 [2008]],G1 30 [cS 6 1,gK 192 0 [2006]]],e0 21 0x2220622112,(17,⟨0x262022022022202620362202022202262002226c4c004c0026200020220222026002202222222020220222026201122,[(26,[.closeS (.s 30)]),(79,[.closeS (.s 73)])],[G1 10 [cS 4 1,gK 48 0 [2004]],G2 17 [cS 9 1,gK 836 4 [2009]],G1 27 [cS 4 1,gK 48 0 [2004]],G2 33 [cS 9 1,gK 5956 4 [2009]],G1 39 [cS 9 1,gK 4932 4 [2009]],G1 48 [cS 4 1,gK 48 0 [2004]],G1 62 [cS 4 1,gK 48 0 [2004]]]⟩),e0 18 0x2220622020220222026221122,e0 12 0x222062220220222026221122,e1 13 0x220226260026002000202022022202e0221122 [g1 10 192 0,g2 16 12583170 0,g1 22 0 0,g1 32 192 0,g1 37 192 0],e1 19 0x2206262026002000200620201 [g1 8 16 0,g2 14 12291 0,g1 20 0 0,g1 30 16 0,g1 35 16 0],(4,⟨0x22064c4c4404222222026203622020222064c0026c400264022222202e0002220000062200064c04c4400264c44404402644026440222222026002222222220260002600020122,[(121,[.closeS (.s 119)])],[g1 8 16 0,g1 16 16 0,g1 26 16 0,g1 36 16 0,g2 42 1057810092162800527868076 12,g1 48 0 0,g1 61 16 0,g1 74 16 0,g1 79 16 0]⟩)]
namespace trace_events_c1
def Dr:SW:=[o1 20 (.s 18) [],o2 21 (ix 5) [.s 16,.s 18] [],o2 22 (lD 5) [.s 21] [21],o2 6 (.a (.alloc 5 [.int .i64 0,.int .i64 0,.int .i64 0,.int .i64 0,.bO])) [] [],o1 5 (.s 20) [20],oz (.l (.store 5)) [.s 6,.s 22] [22]]
def AY:SW:=[o1 23 (.s 0) [],o1 24 (.s 3) [],o1 25 (.s 5) [5],o2 26 (bI .add) [.s 25,.k (.int .i64 1)] [25],o2 27 (.p (.build [.int .i64 0,.int .i64 0] [(0,1),(1,1)])) [.s 24,.s 26] [24,26],o2 28 (lD 5) [.s 6] [6],o2 29 .c [.s 23,.s 27,.s 28] [23,27,28],o2 30 (.p .not) [.s 29] [29]]
def yN:SW:=[o2 31 (bI .add) [.s 18,.k (.int .i64 1)] [],o1 18 (.s 31) [31]]
def G8:RC:=.hg (.seq (.ops [o2 19 (bI .lss) [.s 18,.s 17] []]) (.seq (.cond (.s 19) .skip (.exit 2)) (.seq (.block 3 (.seq (.ops Dr) (.seq (.ops AY) (.cond (.s 30) .ret .skip)))) (.ops yN)))) (.keep [0,3,8,9,10,16,17,18] [])
def Mj:SW:=[o1 12 (.s 10) [],o2 13 (ix 3) [.s 8,.s 10] [],o2 14 (lD 3) [.s 13] [13],o2 4 (.a (.alloc 3 [.str ByteArray.empty,.bO,.bO])) [] [],o1 3 (.s 12) [12],oz (.l (.store 3)) [.s 4,.s 14] [14]]
def Jc:SW:=[o2 15 (fa 2) [.s 4] [],o2 16 (ld 1) [.s 15] [15],o2 17 ln [.s 16] [],o1 18 (.k (.int .i64 0)) []]
def HD:SW:=[o2 32 (bI .add) [.s 10,.k (.int .i64 1)] [],o1 10 (.s 32) [32]]
def U2:RC:=.block 2 (.gh (.keep [0,3,8,9,10,16,17,18] []) (.loop G8))
def Re:RC:=.hg (.seq (.ops [o2 11 (bI .lss) [.s 10,.s 9] []]) (.seq (.cond (.s 11) .skip (.exit 0)) (.seq (.block 1 (.seq (.ops Mj) (.seq (.ops Jc) U2))) (.ops HD)))) (.keep [0,8,9,10] [])
def Qa:SW:=[o2 7 (fa 0) [.s 1] [1],o2 8 (ld 1) [.s 7] [7],o2 9 ln [.s 8] [],o1 10 (.k (.int .i64 0)) []]
def U1:RC:=.block 0 (.gh (.keep [0,8,9,10] []) (.loop Re))
def text:RF:=⟨33,[],.seq (.ops Qa) U1⟩
section
variable{S:Sys}
abbrev I1(ps:Sl bX)(i:Int)(B:aZ (aZ V))(more:Bool)(y:Nat):St:=⟨[(0,.yl y),Cv 8 ps,Iv 9 (len ps),Iv 10 i],[],[],B,more,y⟩
abbrev I2(ps:Sl bX)(i:Int)(es:Sl Event)(j:Int)(B:aZ (aZ V))(more:Bool)(y:Nat):St:=⟨[(0,.yl y),Iv 3 i,Cv 8 ps,Iv 9 (len ps),Iv 10 i,Cv 16 es,Iv 17 (len es),Iv 18 j],[],[],B,more,y⟩
abbrev S2(ps:Sl bX)(i:Int)(es:Sl Event)(j:Int)(b:Bool)(B:aZ (aZ V))(more:Bool)(y:Nat):St:=⟨[(0,.yl y),Iv 3 i,Cv 8 ps,Iv 9 (len ps),Iv 10 i,Cv 16 es,Iv 17 (len es),Iv 18 j,Bv 19 b],[],[],B,more,y⟩
theorem Y8(ps:Sl bX)(i:Int)(es:Sl WF)(j:Int)(B:T')(more:X')(y:Nat)(D:decide (j<len es)=false):
 rn S.bare oR some (.rc G8) [] (I2 ps i es j B more y)=some (.exit 2,S2 ps i es j false B more y):=by
 refine Le.get ?_;refine Kf (n:=7) (fo':=.rc (.cond (.s 19) .skip (.exit 2))) (fs':=[.seq (.seq (.block 3 (.seq (.ops Dr) (.seq (.ops AY) (.cond (.s 30) .ret .skip)))) (.ops yN)),.gst (.keep [0,3,8,9,10,16,17,18] [])]) (λb=>S2 ps i es j b B more y) D Zae ?_
 exact Le.of_eq Zae
theorem ZO(ps:Sl bX)(i:Int)(es:Sl WF)(j:Int)(e:WF)(B:T')(more:X')(y:Nat)(D:decide (j<len es)=true)(G:idx es j=some e)(J:(!(more|| !B.isEmpty))=false):
 rn S.bare oR some (.rc G8) [] (I2 ps i es j ([enc (⟨i,wrap .i64 (j+1)⟩:bf),enc e]::B) more y)=some (.norm,I2 ps i es (wrap .i64 (j+1)) B more y):=by
 refine Le.get ?_;refine Kt (n:=7) (fo':=.rc (.cond (.s 19) .skip (.exit 2))) (fs':=[.seq (.seq (.block 3 (.seq (.ops Dr) (.seq (.ops AY) (.cond (.s 30) .ret .skip)))) (.ops yN)),.gst (.keep [0,3,8,9,10,16,17,18] [])]) (λb=>S2 ps i es j b ([enc (⟨i,wrap .i64 (j+1)⟩:bf),enc e]::B) more y) D Zae ?_
 refine S9 G ?_;refine Tj 8 false [] (Dr.drop 1) [.seq (.seq (.ops AY) (.cond (.s 30) .ret .skip)),.blk 3,.seq (.ops yN),.gst (.keep [0,3,8,9,10,16,17,18] [])] ⟨[(0,.yl y),Iv 3 i,Cv 8 ps,Iv 9 (len ps),Iv 10 i,Cv 16 es,Iv 17 (len es),Iv 18 j,Bv 19 true,Iv 20 j],[],[],([enc (⟨i,wrap .i64 (j+1)⟩:bf),enc e]::B),more,y⟩ .i64 rfl Zae λx a=>?_
 obtain rfl:x=e:=Zac
 refine X1 1 false [] (Dr.drop 3) [.seq (.seq (.ops AY) (.cond (.s 30) .ret .skip)),.blk 3,.seq (.ops yN),.gst (.keep [0,3,8,9,10,16,17,18] [])] ⟨[(0,.yl y),Iv 3 i,Cv 8 ps,Iv 9 (len ps),Iv 10 i,Cv 16 es,Iv 17 (len es),Iv 18 j,Bv 19 true,Iv 20 j,Cv 22 x],[],[],([enc (⟨i,wrap .i64 (j+1)⟩:bf),enc x]::B),more,y⟩ [iv 0,iv 0,iv 0,iv 0,.v .bO] rfl (by simp only[bL,zF,r_,tQ,rF,tF,uN,tJ,vn,si,tB,zM,vc,u6,vt,uZ,xE,xD,tW,vk,SV.c_];rfl) Zae ?_
 refine Ast 1 false [] (Dr.drop 5) [.seq (.seq (.ops AY) (.cond (.s 30) .ret .skip)),.blk 3,.seq (.ops yN),.gst (.keep [0,3,8,9,10,16,17,18] [])] ⟨[(0,.yl y),Iv 3 i,Cv 8 ps,Iv 9 (len ps),Iv 10 i,Cv 16 es,Iv 17 (len es),Iv 18 j,Bv 19 true,Cv 22 x,Pv 6,Iv 5 j],[Xb 6 (⟨0,0,0,0,.nil⟩:WF)],[],([enc (⟨i,wrap .i64 (j+1)⟩:bf),enc x]::B),more,y⟩ 6 0 x [iv 0,iv 0,iv 0,iv 0,.v .bO] ((cells x).map .v) rfl Zae ?_
 refine Kyl (n:=10) (q:=AY.drop 6) (fs':=[.seq (.cond (.s 30) .ret .skip),.blk 3,.seq (.ops yN),.gst (.keep [0,3,8,9,10,16,17,18] [])]) (st:=⟨[(0,.yl y),Iv 3 i,Cv 8 ps,Iv 9 (len ps),Iv 10 i,Cv 16 es,Iv 17 (len es),Iv 18 j,Bv 19 true,(23,.yl y),Cv 27 (⟨i,wrap .i64 (j+1)⟩:bf),Cv 28 x],[Xb 6 x],[],([enc (⟨i,wrap .i64 (j+1)⟩:bf),enc x]::B),more,y⟩) (vs:=[cv (⟨i,wrap .i64 (j+1)⟩:bf),cv x]) Zae rfl Zae Zae rfl rfl ?_
 refine Kf (n:=3) (fo':=.rc (.cond (.s 30) .ret .skip)) (fs':=[.blk 3,.seq (.ops yN),.gst (.keep [0,3,8,9,10,16,17,18] [])]) (λb=>⟨[(0,.yl y),Iv 3 i,Cv 8 ps,Iv 9 (len ps),Iv 10 i,Cv 16 es,Iv 17 (len es),Iv 18 j,Bv 19 true,Bv 30 b],[Xb 6 x],[],B,more,y⟩) J Zae ?_
 exact Le.of_eq Zae
theorem Xt(ps:Sl bX)(i:Int)(es:Sl WF)(j:Int)(e:WF)(B:T')(more:X')(y:Nat)(D:decide (j<len es)=true)(G:idx es j=some e)(J:(!(more|| !B.isEmpty))=true):
 rn S.bare oR some (.rc G8) [] (I2 ps i es j ([enc (⟨i,wrap .i64 (j+1)⟩:bf),enc e]::B) more y)=some (.ret,⟨[(0,.yl y),Iv 3 i,Cv 8 ps,Iv 9 (len ps),Iv 10 i,Cv 16 es,Iv 17 (len es),Iv 18 j,Bv 19 true,Bv 30 true],[Xb 6 e],[],B,more,y⟩):=by
 refine Le.get ?_;refine Kt (n:=7) (fo':=.rc (.cond (.s 19) .skip (.exit 2))) (fs':=[.seq (.seq (.block 3 (.seq (.ops Dr) (.seq (.ops AY) (.cond (.s 30) .ret .skip)))) (.ops yN)),.gst (.keep [0,3,8,9,10,16,17,18] [])]) (λb=>S2 ps i es j b ([enc (⟨i,wrap .i64 (j+1)⟩:bf),enc e]::B) more y) D Zae ?_
 refine S9 G ?_;refine Tj 8 false [] (Dr.drop 1) [.seq (.seq (.ops AY) (.cond (.s 30) .ret .skip)),.blk 3,.seq (.ops yN),.gst (.keep [0,3,8,9,10,16,17,18] [])] ⟨[(0,.yl y),Iv 3 i,Cv 8 ps,Iv 9 (len ps),Iv 10 i,Cv 16 es,Iv 17 (len es),Iv 18 j,Bv 19 true,Iv 20 j],[],[],([enc (⟨i,wrap .i64 (j+1)⟩:bf),enc e]::B),more,y⟩ .i64 rfl Zae λx a=>?_
 obtain rfl:x=e:=Zac
 refine X1 1 false [] (Dr.drop 3) [.seq (.seq (.ops AY) (.cond (.s 30) .ret .skip)),.blk 3,.seq (.ops yN),.gst (.keep [0,3,8,9,10,16,17,18] [])] ⟨[(0,.yl y),Iv 3 i,Cv 8 ps,Iv 9 (len ps),Iv 10 i,Cv 16 es,Iv 17 (len es),Iv 18 j,Bv 19 true,Iv 20 j,Cv 22 x],[],[],([enc (⟨i,wrap .i64 (j+1)⟩:bf),enc x]::B),more,y⟩ [iv 0,iv 0,iv 0,iv 0,.v .bO] rfl (by simp only[bL,zF,r_,tQ,rF,tF,uN,tJ,vn,si,tB,zM,vc,u6,vt,uZ,xE,xD,tW,vk,SV.c_];rfl) Zae ?_
 refine Ast 1 false [] (Dr.drop 5) [.seq (.seq (.ops AY) (.cond (.s 30) .ret .skip)),.blk 3,.seq (.ops yN),.gst (.keep [0,3,8,9,10,16,17,18] [])] ⟨[(0,.yl y),Iv 3 i,Cv 8 ps,Iv 9 (len ps),Iv 10 i,Cv 16 es,Iv 17 (len es),Iv 18 j,Bv 19 true,Cv 22 x,Pv 6,Iv 5 j],[Xb 6 (⟨0,0,0,0,.nil⟩:WF)],[],([enc (⟨i,wrap .i64 (j+1)⟩:bf),enc x]::B),more,y⟩ 6 0 x [iv 0,iv 0,iv 0,iv 0,.v .bO] ((cells x).map .v) rfl Zae ?_
 refine Kyl (n:=10) (q:=AY.drop 6) (fs':=[.seq (.cond (.s 30) .ret .skip),.blk 3,.seq (.ops yN),.gst (.keep [0,3,8,9,10,16,17,18] [])]) (st:=⟨[(0,.yl y),Iv 3 i,Cv 8 ps,Iv 9 (len ps),Iv 10 i,Cv 16 es,Iv 17 (len es),Iv 18 j,Bv 19 true,(23,.yl y),Cv 27 (⟨i,wrap .i64 (j+1)⟩:bf),Cv 28 x],[Xb 6 x],[],([enc (⟨i,wrap .i64 (j+1)⟩:bf),enc x]::B),more,y⟩) (vs:=[cv (⟨i,wrap .i64 (j+1)⟩:bf),cv x]) Zae rfl Zae Zae rfl rfl ?_
 refine Kt (n:=3) (fo':=.rc (.cond (.s 30) .ret .skip)) (fs':=[.blk 3,.seq (.ops yN),.gst (.keep [0,3,8,9,10,16,17,18] [])]) (λb=>⟨[(0,.yl y),Iv 3 i,Cv 8 ps,Iv 9 (len ps),Iv 10 i,Cv 16 es,Iv 17 (len es),Iv 18 j,Bv 19 true,Bv 30 b],[Xb 6 x],[],B,more,y⟩) J Zae ?_
 exact Le.of_eq Zae
abbrev S1(ps:Sl bX)(i:Int)(b:Bool)(B:aZ (aZ V))(more:Bool)(y:Nat):St:=⟨[(0,.yl y),Cv 8 ps,Iv 9 (len ps),Iv 10 i,Bv 11 b],[],[],B,more,y⟩
theorem YD(ps:Sl bX)(i:Int)(B:T')(more:X')(y:Nat)(D:decide (i<len ps)=false):
 rn S.bare oR some (.rc Re) [] (I1 ps i B more y)=some (.exit 0,S1 ps i false B more y):=by
 refine Le.get ?_;refine Kf (n:=7) (fo':=.rc (.cond (.s 11) .skip (.exit 0))) (fs':=[.seq (.seq (.block 1 (.seq (.ops Mj) (.seq (.ops Jc) U2))) (.ops HD)),.gst (.keep [0,8,9,10] [])]) (λb=>S1 ps i b B more y) D Zae ?_
 exact Le.of_eq Zae
def UQ:Rd:=[.blk 2,.blk 1,.seq (.ops HD),.gst (.keep [0,8,9,10] [])]
theorem UY(ps:Sl bX)(i:Int)(p:bX)(B:T')(more:X')(y:Nat)(r:Out×St)(D:decide (i<len ps)=true)(G:idx ps i=some p)
 (h:rn S.bare oR some (.rc (.loop G8)) UQ (I2 ps i p.events 0 B more y)=some r):rn S.bare oR some (.rc Re) [] (I1 ps i B more y)=some r:=by
 refine Le.get ?_;refine Kt (n:=7) (fo':=.rc (.cond (.s 11) .skip (.exit 0))) (fs':=[.seq (.seq (.block 1 (.seq (.ops Mj) (.seq (.ops Jc) U2))) (.ops HD)),.gst (.keep [0,8,9,10] [])]) (λb=>S1 ps i b B more y) D Zae ?_
 refine S9 G ?_;refine Tj 8 false [] (Mj.drop 1) [.seq (.seq (.ops Jc) U2),.blk 1,.seq (.ops HD),.gst (.keep [0,8,9,10] [])] ⟨[(0,.yl y),Cv 8 ps,Iv 9 (len ps),Iv 10 i,Bv 11 true,Iv 12 i],[],[],B,more,y⟩ .i64 rfl Zae λx a=>?_
 obtain rfl:x=p:=Zac
 refine X1 1 false [] (Mj.drop 3) [.seq (.seq (.ops Jc) U2),.blk 1,.seq (.ops HD),.gst (.keep [0,8,9,10] [])] ⟨[(0,.yl y),Cv 8 ps,Iv 9 (len ps),Iv 10 i,Bv 11 true,Iv 12 i,Cv 14 x],[],[],B,more,y⟩ [.v (.str ByteArray.empty),.v .bO,.v .bO] rfl (by simp only[bL,zF,r_,tQ,rF,tF,uN,tJ,vn,si,tB,zM,vc,u6,vt,uZ,xE,xD,tW,vk,SV.c_];rfl) Zae ?_
 refine Ast 1 false [] (Mj.drop 5) [.seq (.seq (.ops Jc) U2),.blk 1,.seq (.ops HD),.gst (.keep [0,8,9,10] [])] ⟨[(0,.yl y),Cv 8 ps,Iv 9 (len ps),Iv 10 i,Bv 11 true,Cv 14 x,Pv 4,Iv 3 i],[Xb 4 (⟨ByteArray.empty,.nil,.nil⟩:bX)],[],B,more,y⟩ 4 0 x [.v (.str ByteArray.empty),.v .bO,.v .bO] ((cells x).map .v) rfl Zae ?_
 refine Yw 6 false [] (Jc.drop 2) [.seq U2,.blk 1,.seq (.ops HD),.gst (.keep [0,8,9,10] [])] ⟨[(0,.yl y),Cv 8 ps,Iv 9 (len ps),Iv 10 i,Bv 11 true,Pv 4,Iv 3 i,Cv 16 x.events],[Xb 4 x],[],B,more,y⟩ x.events rfl Zae ?_
 refine B7 (n:=5) (fo':=.rc (.loop G8)) (fs':=UQ) (st':=I2 ps i x.events 0 B more y) Zae (Le.of_eq h)
theorem WZ(ps:Sl bX)(i:Int)(es:Sl WF)(j:Int)(B:T')(more:X')(y:Nat):
 rn S.bare oR some (.ex 2) UQ (S2 ps i es j false B more y)=some (.norm,I1 ps (wrap .i64 (i+1)) B more y):=by kernel_rfl
theorem wrap_small(n:Nat)(h:n<9223372036854775807):wrap .i64 ((n:Int)+1)=((n+1:Nat):Int):=by simp[wrap,IntKind.bits,signed];omega
abbrev eI(x:bf×Event):aZ V:=[enc x.1,enc x.2]
theorem vX.step{x:T2}{D rest:T'}{more:X'}(h:vX D (x::rest) more):∃B,D=x::B/\((!(more|| !B.isEmpty))=false/\vX B rest more\/(!(more|| !B.isEmpty))=true/\B=[]):=by rcases h with⟨rfl,rfl⟩|⟨rfl,u,r,a⟩;exact⟨rest,rfl,.inl ⟨rfl,.inl ⟨rfl,rfl⟩⟩⟩;cases D with|nil=>grind|cons w D=>simp only[cons_append,List.cons.injEq]at a;obtain⟨rfl,rfl⟩:=a;refine⟨D,rfl,?_⟩;cases D with|nil=>grind|cons z C=>exact .inl ⟨rfl,.inr ⟨rfl,Zab,r,rfl⟩⟩
theorem uM{α:Type}{s:Sl α}{j:Nat}{x:α}{r:aZ α}(h:s.l.drop j=x::r):idx s (j:Int)=some x/\decide ((j:Int)<len s)=true/\s.l.drop (j+1)=r:=by
 have a:j<s.l.length:=by apply Classical.byContradiction;intro w;rw[List.drop_eq_nil_of_le Zaa]at h;cases h
 have u:=List.drop_eq_getElem_cons a;rw[u]at h;simp only[List.cons.injEq]at h;refine⟨?_,Zac,h.2⟩;unfold idx;simp_all
variable{Q:Out×St->a_ (Out×St)}{fs:Rd}
theorem inner(ps:Sl bX)(i:Int)(es:Sl WF)(J:es.l.length<9223372036854775807)(more:X')(y:Nat)(R:T'):∀(a:aZ WF)(j:Nat),es.l.drop j=a->∀D,vX D ((ji i j a).map eI++R) more->
 (∃(B:T')(U:Int),vX B R more/\rn S.bare oR Q (.rc (.loop G8)) fs (I2 ps i es j D more y)=rn S.bare oR Q (.ex 2) fs (S2 ps i es U false B more y))\/
 (∃st':St,st'.want=[]/\rn S.bare oR Q (.rc (.loop G8)) fs (I2 ps i es j D more y)=Q (.ret,st'))
 |[],j,hd,D,G=>by have b:decide ((j:Int)<len es)=false:=(by simp_all);exact .inl ⟨D,j,by simpa[ji]using G,H6 (Y8 ps i es j D more y b)⟩|e::a,j,hd,D,G=>by have⟨b,z,C⟩:=uM hd;have T:j<es.l.length:=Zac;simp only[ji,map_cons,cons_append]at G;obtain⟨B,rfl,u⟩:=vX.step G;have I:=wrap_small j Zaa;have w:((j:Int)+1)=wrap .i64 ((j:Int)+1):=Zac;rcases u with⟨u,L⟩|⟨u,rfl⟩;have k:=ZO (S:=S) ps i es j e B more y z b u;rw[<-w]at k;have k2:=HR (Q:=Q) (fs:=fs) k;have O:=inner ps i es J more y R a (j+1) C B Zac;rw[show((j+1:Nat):Int)=(j:Int)+1 from rfl]at O;grind;have k:=Xt (S:=S) ps i es j e [] more y z b u;rw[<-w]at k;exact .inr ⟨_,by rfl,HK k⟩
theorem outer(ps:Sl bX)(J:ps.l.length<9223372036854775807)(D:∀p∈ps.l,p.events.l.length<9223372036854775807)(more:X')(y:Nat):∀(a:aZ bX)(i:Nat),ps.l.drop i=a->∀B,vX B ((gA i a).map eI) more->
 rn S.bare oR Qi (.rc (.loop Re)) [.blk 0] (I1 ps i B more y)=some ()
 |[],i,hd,B,G=>by
  have b:decide ((i:Int)<len ps)=false:=by simp_all
  rw[H6 (YD ps i B more y b)];have:B=[]:=by
   rcases G with⟨_,rfl⟩|⟨_,L,r,c⟩;rfl;have:B=[]:=by cases B with
    |nil=>rfl|cons=>simp[gA]at c
   grind
  subst this;rfl
 |p::a,i,hd,B,G=>by have⟨b,z,C⟩:=uM hd;have hi:i<ps.l.length:=Zac;have I:p∈ps.l:=List.mem_of_mem_drop (i:=i) Zac;simp only[gA,map_append]at G;have u:=wrap_small i Zaa;rcases inner (S:=S) (Q:=some) (fs:=UQ) ps i p.events (D p I) more y _ p.events.l 0 rfl B G with⟨w,O,g1,g2⟩|⟨st',g1,g2⟩;rw[WZ,u]at g2;rw[HR (UY ps i p B more y _ z b g2)];exact outer ps J D more y a (i+1) C w g1;rw[HK (UY ps i p B more y _ z b g2)];simp[Qi,g1]
theorem all(t:Z4)(B:aZ (bf×WF))(h:jG t=some B)(D:T')(more:X')(G:vX D (B.map eI) more)(y:Nat):
 rn S.bare oR Qi (.rc text.body) [] ⟨wH 0 (([]:T2).map .v++.yl y::[V.fptr (cells t)].map .v),[],[],D,more,y⟩=some ():=by
 unfold jG at h;split at h
 .rename_i hk;cases h;simp only[ζh,List.all_eq_true,pU,decide_eq_true_eq]at hk;refine Le.get ?_;refine Yw 4 false [] (Qa.drop 2) [.seq U1] ⟨[(0,.yl y),Cv 8 t.procs],[],[],D,more,y⟩ t.procs rfl Zae ?_
  refine B7 (n:=5) (fo':=.rc (.loop Re)) (fs':=[.blk 0]) (st':=I1 t.procs 0 D more y) Zae (Le.of_eq ?_)
  exact outer t.procs hk.1 hk.2 more y t.procs.l 0 rfl D G
 simp_all
end
theorem xG{α:Type}[bC α]{a b:Sl α}(h:b7 a=b7 b):rows a.l=rows b.l:=by cases a<;>cases b<;>first|rfl|(simp only[b7,Sl.k,pF,V.fsl.injEq,true_and,reduceCtorEq]at h;done)|(simp only[b7,Sl.k,pF,V.fsl.injEq,true_and,reduceCtorEq]at h;omega)
theorem xV(p:Int):∀(es B:aZ WF)(j:Int),rows es=rows B->(ji p j es).map eI=(ji p j B).map eI
 |[],[],_,_=>rfl|[],_::_,_,h=>by simp[rows]at h|_::_,[],_,h=>by simp[rows]at h|e::es,D::B,j,h=>by simp only[rows,map_cons,List.cons.injEq]at h;have a:enc e=enc D:=(by show V.agg (cells e)=V.agg (cells D);rw[h.1]);simp only[ji,map_cons,eI,a,xV p es B (j+1) h.2]
theorem Ef:∀(ps B:aZ bX)(i:Int),rows ps=rows B->(gA i ps).map eI=(gA i B).map eI
 |[],[],_,_=>rfl|[],_::_,_,h=>by simp[rows]at h|_::_,[],_,h=>by simp[rows]at h|p::ps,p'::B,i,h=>by simp only[rows,map_cons,List.cons.injEq]at h;have a:b7 p.events=b7 p'.events:=(by have:=h.1;change[V.str p.name,b7 p.vars,b7 p.events]=[V.str p'.name,b7 p'.vars,b7 p'.events]at this;grind);simp only[gA,map_append,xV i _ _ 0 (xG a),Ef ps B (i+1) h.2]
def w_(f:Y')(g:Y')(a b:T2)(xs:T'):Prop:=∃(t:Z4)(u:aZ (bf×WF)),g=f/\a=[]/\b=[.fptr (cells t)]/\jG t=some u/\xs=u.map eI
theorem w_.uniq{f g:Y'}{a b:T2}{xs ys:T'}(h:w_ f g a b xs)(k:w_ f g a b ys):xs=ys:=by
 obtain⟨t,C,rfl,rfl,rfl,c,rfl⟩:=h;obtain⟨w,z,_,_,B,u,rfl⟩:=k;simp only[List.cons.injEq,V.fptr.injEq,and_true]at B;have D:b7 t.procs=b7 w.procs:=by change[b7 t.procs]=[b7 w.procs]at B;grind
 unfold jG at c u;split at c<;>split at u<;>simp only[ζa,reduceCtorEq]at c u;subst c u;exact Ef _ _ 0 (xG D)
end trace_events_c1
end Go.VE
namespace Go.VE
open Go.Proofs.YtfjedefhlilglaaGreatDoor
noncomputable section
noncomputable def IM(f:Y'):a_ FJ:=bif beq f 55 then some (ze false)else bif beq f 214 then some (ua E)else bif beq f 211 then some (uB E)else none
noncomputable def Sb:Sys:=⟨E,λn=>n,λ_ _ _=>none,zu E,IM⟩
theorem JY:∀f q,IM f=some q->nr E f q:=by intro f q h;unfold IM at h;cases a:beq f 55 with|true=>rw[a]at h;cases h;have:=Nat.eq_of_beq_eq_true a;subst this;exact V5 false u9 Zae Zae (Ai Zae)|false=>rw[a]at h;cases a:beq f 214 with|true=>rw[a]at h;cases h;have:=Nat.eq_of_beq_eq_true a;subst this;exact Sv u9 Zae Zae (Ai Zae)|false=>rw[a]at h;cases a:beq f 211 with|true=>rw[a]at h;cases h;have:=Nat.eq_of_beq_eq_true a;subst this;exact Tm Zae Zae Zae Zae|false=>rw[a]at h;cases h
def Tx:qN:=SA E some (lk Oo)
abbrev cB:cm:=dm Sb Tx
theorem YT:rJ Sb Tx where
 fn f rf h:=let⟨u,a,w⟩:=DO h;⟨u,some,a,u9,w⟩
 yH f z y h:=HW h
 prm:=JY
theorem Rb:∀f a b xs,Sb.items f a b=some xs->eS Sb f a b xs:=λf a b xs h=>by cases h
end
end Go.VE
namespace Go.VE
noncomputable section
namespace IB
def dc(s0:Zg):a_ Zg:=(Sl.isNil s0).bind λu=>bl u (some Sl.nil) ((oH (Sl.row []:Zg) s0).bind λw=>some w)
theorem eo:B_ Sb cB 20 (λs0:Zg=>[enc s0]) (λz=>dc z):=B_.mk' (sq (Tx 20)) (λs0=>J6 9 λu _=>bB 2 4 bh (zO 7 5 7 λw _=>bh))
namespace cD
def fe(k6:Int)(U:Sl WF)(W Y:Int)(G:Sl Assign)(J:Int)(a:T')(B:Zg)(D:Int)(more:X'):a_ (Fw ((Zg)×Int) Zg Empty):=bl (decide (D<J)) ((idx G D).bind λu=>(Sl.jR B u.var).bind λw=>(Sl.put B w (u.value:Int)).bind λz=>some (.n (z,wrap .i64 (D+1)))) (some (.x B))
def W3(B:Zg)(k6:Int)(J:Sl WF)(D G:Int)(U:Sl Assign)(W Y:Int)(a:T')(more:X'):a_ (Fw ((Zg)×Int×Int×(T')) T' T'):=(bS (λq:(Zg)×Int=>fe k6 J D G U W a q.1 q.2 more) (B,Y)).bind (Fw.elim (λe=>((dc e).bind Sl.whole).bind λw=>(yl a more [.int .i64 (wrap .i64 (k6+1)),enc w]).bind λu=>bl u.1 (some (.n (e,D,wrap .i64 (G+1),u.2))) (some (.r u.2))) (λe=>elim e))
def bT(D:Sl WF)(G:Zg)(J B:Int)(U:T')(more:X'):a_ (Fw ((Zg)×Int×Int×(T')) T' T'):=bl (decide (B<J)) ((idx D B).bind λu=>W3 G B D J B u.assign (len u.assign) 0 U more) (some (.x U))
def W2(B:Zg)(D:Sl WF)(G J:Int)(U:T')(more:X'):a_ T':=(bS (λq:(Zg)×Int×Int×(T')=>bT D q.1 q.2.1 q.2.2.1 q.2.2.2 more) (B,G,J,U)).bind (Fw.elim (λe=>some e) (λe=>some e))
def br(U:bX)(G:Sl Var)(J:Int)(W:T')(B:Zg)(D:Int)(more:X'):a_ (Fw ((Zg)×Int) Zg Empty):=bl (decide (D<J)) ((idx G D).bind λu=>(gw B (u.init_:Int)).bind λw=>some (.n (w,wrap .i64 (D+1)))) (some (.x B))
def W1(B:bX)(D:Zg)(G:Sl Var)(J U:Int)(W:T')(more:X'):a_ T':=(bS (λq:(Zg)×Int=>br B G J W q.1 q.2 more) (D,U)).bind (Fw.elim (λe=>((dc e).bind Sl.whole).bind λw=>(yl W more [.int .i64 0,enc w]).bind λu=>bl u.1 (cD.W2 e B.events (len B.events) 0 u.2 more) (some u.2)) (λe=>elim e))
end cD
def cD(D:T')(B:bX)(more:X'):a_ T':=cD.W1 B (Sl.nil:Zg) B.vars (len B.vars) 0 D more
open cD in
theorem zP(more:X')(y:Nat)(J:T')(B:bX):Le ((cD J B more).bind λr=>some r) (cg Sb cB Qw (.rc (tb Tx 222),[],⟨wH 0 (.yl y::[V.fptr (cells B)].map .v),[],[],J,more,y⟩)):=bZ 10 B.vars (ga 6 (λC=>⟨[(0,.yl y),Kv 1 B,Ov 3,Cv 11 B.vars,Iv 12 (len B.vars),Iv 13 C.2],[Lb 2003 C.1],[],J,more,y⟩) (λD=>(0,⟨[(0,.yl y),Kv 1 B,Ov 3],[Lb 2003 D],[],J,more,y⟩)) (λC=>bB 8 14 (bP 7 λT _=>ow 10 2003 20 21 λU _=>bh) bh) (λD=>UL 7 25 eo D λL _=>Byl 1 [.int .i64 0,enc L] λS _=>cZ 3 27 (bZ 7 B.events (dZ 6 (λu=>⟨[(0,.yl y),Ov 3,Cv 29 B.events,Iv 30 u.2.1,Iv 31 u.2.2.1],[Lb 2003 u.1],[],u.2.2.2,more,y⟩) (λw=>(2,⟨[],[],[],w,more,y⟩)) (λw=>⟨[],[],[],w,more,y⟩) (λu=>bB 8 32 (bP 8 λz _=>pM 3 7 0 z (bZ 7 z.assign (ga 6 (λG=>⟨[(0,.yl y),Ov 3,Iv 6 u.2.2.1,Cv 29 B.events,Iv 30 u.2.1,Iv 31 u.2.2.1,Cv 37 z.assign,Iv 38 (len z.assign),Iv 39 G.2],[Lb 2003 G.1],[],u.2.2.2,more,y⟩) (λI=>(4,⟨[(0,.yl y),Ov 3,Iv 6 u.2.2.1,Cv 29 B.events,Iv 30 u.2.1,Iv 31 u.2.2.1],[Lb 2003 I],[],u.2.2.2,more,y⟩)) (λG=>bB 8 40 (bP 7 λO _=>kg .i64 11 2003 λW _=>AR 0 2003 (.int .i64 O.value) λX _=>bh) bh) (λI=>UL 8 54 eo I λQ _=>Byl 1 [.int .i64 (wrap .i64 (u.2.2.1+1)),enc Q] λY _=>cZ 3 56 bh bh)))) bh) (λw=>bh) (λw=>bh))) bh))
end IB
end
end Go.VE
namespace Go.VE
open IB
def wZ:aZ Assign->Zg->a_ Zg
 |[],s=>some s|a::r,s=>(Sl.jR s a.var).bind λj=>(Sl.put s j a.value).bind (wZ r)
def wU:aZ Var->Zg->a_ Zg
 |[],s=>some s|v::r,s=>(gw s v.init_).bind (wU r)
def NY(s:Zg):a_ Zg:=(dc s).bind Sl.whole
def wW:Int->aZ WF->Zg->a_ (aZ (Int×Zg))
 |_,[],_=>some []|k,e::r,s=>(wZ e.assign.l s).bind λn=>(NY n).bind λc=>(wW (k+1) r n).map ((k+1,c)::·)
def jN(p:bX):a_ (aZ (Int×Zg)):=if pU p.vars.l.length&&(pU p.events.l.length&&p.events.l.all λe=>pU e.assign.l.length)then(wU p.vars.l .nil).bind λs=>(NY s).bind λc=>(wW 0 p.events.l s).map ((0,c)::·)else none
namespace IST
abbrev eI(x:Int×Sl Int):aZ V:=[enc x.1,enc x.2]
theorem DI{n:Nat}(h:pU n=true):n<9223372036854775807:=by simpa[pU]using h
theorem wrap_small(n:Nat)(h:n<9223372036854775807):wrap .i64 ((n:Int)+1)=((n+1:Nat):Int):=by simp[wrap,IntKind.bits,signed];omega
theorem uM{α:Type}{s:Sl α}{j:Nat}{x:α}{r:aZ α}(h:s.l.drop j=x::r):idx s (j:Int)=some x/\decide ((j:Int)<len s)=true/\s.l.drop (j+1)=r:=by
 have a:j<s.l.length:=by apply Classical.byContradiction;intro w;rw[List.drop_eq_nil_of_le Zaa]at h;cases h
 have u:=List.drop_eq_getElem_cons a;rw[u]at h;simp only[List.cons.injEq]at h;refine⟨?_,by simp[len,a],h.2⟩;unfold idx;rw[if_pos Zaa];simp[ζd a,h.1]
theorem J7{α:Type}{s:Sl α}{j:Nat}(h:s.l.drop j=[]):decide ((j:Int)<len s)=false:=by
 have:s.l.length<=j:=by simpa using h
 simp[len];omega
theorem ini(p:bX)(v:Sl Var)(J:v.l.length<9223372036854775807)(D:T')(more:X'):∀(a:aZ Var)(j:Nat),v.l.drop j=a->∀s B,wU a s=some B->
 bS (λq:Zg×Int=>cD.br p v (len v) D q.1 q.2 more) (s,(j:Int))=some (.x B)
 |[],j,hd,s,B,h=>by cases h;rw[eD];simp only[cD.br,J7 hd,bl,ζb,Bool.false_eq_true,if_false]|x::a,j,hd,s,B,h=>by have⟨b,G,U⟩:=uM hd;have w:j<v.l.length:=(by simpa[len]using G);simp only[wU,ζg]at h;have⟨n,u,h⟩:=h;rw[eD];simp only[cD.br,b,G,u,bl,ζb,if_true,wrap_small j Zaa];exact ini p v J D more a (j+1) U n B h
theorem set(k:Int)(es:Sl WF)(a b:Int)(v:Sl Assign)(J:v.l.length<9223372036854775807)(D:T')(more:X'):∀(c:aZ Assign)(j:Nat),v.l.drop j=c->∀s B,wZ c s=some B->
 bS (λq:Zg×Int=>cD.fe k es a b v (len v) D q.1 q.2 more) (s,(j:Int))=some (.x B)
 |[],j,hd,s,B,h=>by cases h;rw[eD];simp only[cD.fe,J7 hd,bl,ζb,Bool.false_eq_true,if_false]|x::c,j,hd,s,B,h=>by have⟨d,G,U⟩:=uM hd;have w:j<v.l.length:=(by simpa[len]using G);simp only[wZ,ζg]at h;have⟨i,hi,n,u,h⟩:=h;rw[eD];simp only[cD.fe,d,G,hi,u,bl,ζb,if_true,wrap_small j Zaa];exact set k es a b v J D more c (j+1) U n B h
theorem vX.step{x:T2}{D rest:T'}{more:X'}(h:vX D (x::rest) more):∃B,yl D more x=some ((more|| !B.isEmpty),B)/\((more|| !B.isEmpty)=true/\vX B rest more\/(more|| !B.isEmpty)=false/\B=[]):=by rcases h with⟨rfl,rfl⟩|⟨rfl,u,r,a⟩;exact⟨rest,by simp[yl],.inl ⟨rfl,.inl ⟨rfl,rfl⟩⟩⟩;cases D with|nil=>exact absurd rfl u|cons w D=>simp only[cons_append,List.cons.injEq]at a;obtain⟨rfl,rfl⟩:=a;refine⟨D,by simp[yl],?_⟩;cases D with|nil=>exact .inr ⟨rfl,rfl⟩|cons z C=>exact .inl ⟨rfl,.inr ⟨rfl,Zab,r,rfl⟩⟩
theorem fU(es:Sl WF)(W:es.l.length<9223372036854775807)(G:∀e∈es.l,e.assign.l.length<9223372036854775807)(more:X'):∀(a:aZ WF)(j:Nat),es.l.drop j=a->∀s B,wW (j:Int) a s=some B->∀D,vX D (B.map eI) more->
 ∃J:T',J=[]/\(bS (λq:Zg×Int×Int×T'=>cD.bT es q.1 q.2.1 q.2.2.1 q.2.2.2 more) (s,len es,(j:Int),D)=some (.x J)\/bS (λq:Zg×Int×Int×T'=>cD.bT es q.1 q.2.1 q.2.2.1 q.2.2.2 more) (s,len es,(j:Int),D)=some (.r J))
 |[],j,hd,s,B,h,D,U=>by cases h;have:D=[]:=(by rcases U with⟨_,rfl⟩|⟨_,L,r,d⟩;rfl;cases D with|nil=>rfl|cons=>simp at d);subst this;refine⟨[],rfl,.inl ?_⟩;rw[eD];simp only[cD.bT,J7 hd,bl,ζb,Bool.false_eq_true,if_false]
 |e::a,j,hd,s,B,h,D,U=>by have⟨f,I,O⟩:=uM hd;have Z:j<es.l.length:=(by simpa[len]using I);have Q:e∈es.l:=List.mem_of_mem_drop (i:=j) (by rw[hd];exact List.mem_cons_self ..);simp only[wW,ζg,ζf]at h;obtain⟨n,L,c,b,r,d,rfl⟩:=h;have b:(dc n).bind Sl.whole=some c:=b;have⟨w,z,S⟩:=vX.step U;have C:=wrap_small j Zaa;have z:yl D more [.int .i64 ((j+1:Nat):Int),enc c]=some ((more|| !w.isEmpty),w):=z;rw[eD];have u:=set j es (len es) j e.assign (G e Q) D more e.assign.l 0 rfl s n L;rw[show((0:Nat):Int)=0 from rfl]at u;rcases S with⟨g1,g2⟩|⟨g1,rfl⟩;have⟨T,X,Y⟩:=fU es W G more a (j+1) O n r d w g2;refine⟨T,X,?_⟩;rw[g1]at z;simp only[cD.bT,cD.W3,f,I,u,b,z,bl,ζb,if_true,Fw.elim,C];exact Y;refine⟨[],rfl,.inr ?_⟩;rw[g1]at z;simp only[cD.bT,cD.W3,f,I,u,b,C,z,bl,ζb,if_true,if_false,Bool.false_eq_true,Fw.elim]
theorem all(p:bX)(B:aZ (Int×Zg))(h:jN p=some B)(D:T')(more:X')(G:vX D (B.map eI) more):cD D p more=some []:=by unfold jN at h;split at h;rename_i b;simp only[ζh,List.all_eq_true]at b;have⟨k1,k2,k3⟩:=b;simp only[ζg,ζf]at h;obtain⟨s,C,c,a,r,d,rfl⟩:=h;have a:(dc s).bind Sl.whole=some c:=a;have⟨u,w,I⟩:=vX.step G;have hi:=ini p p.vars (DI k1) D more p.vars.l 0 rfl .nil s C;rw[show((0:Nat):Int)=0 from rfl]at hi;have w:yl D more [.int .i64 0,enc c]=some ((more|| !u.isEmpty),u):=w;unfold cD cD.W1;simp only[hi,ζb,Fw.elim,a,w];rcases I with⟨g1,g2⟩|⟨g1,rfl⟩;obtain⟨L,rfl,z⟩:=fU p.events (DI k2) (λe J=>DI (k3 e J)) more p.events.l 0 rfl s r d u g2;rw[show((0:Nat):Int)=0 from rfl]at z;rw[g1];simp only[bl,if_true,cD.W2];rcases z with q|q<;>(rw[q];rfl);rw[g1];rfl;cases h
theorem xG{α:Type}[bC α]{a b:Sl α}(h:b7 a=b7 b):rows a.l=rows b.l:=by cases a<;>cases b<;>first|rfl|(simp only[b7,Sl.k,pF,V.fsl.injEq,true_and,reduceCtorEq]at h;done)|(simp only[b7,Sl.k,pF,V.fsl.injEq,true_and,reduceCtorEq]at h;exact h)
theorem I8:∀(a b:aZ Var),rows a=rows b->∀s,wU a s=wU b s
 |[],[],_,_=>rfl|[],_::_,h,_=>by simp[rows]at h|_::_,[],h,_=>by simp[rows]at h|x::a,y::b,h,s=>by simp only[rows,map_cons,List.cons.injEq]at h;have c:x.init_=y.init_:=(by have:=h.1;change[V.str x.name,V.int .i64 x.init_]=[V.str y.name,V.int .i64 y.init_]at this;simpa using(List.cons.inj (List.cons.inj this).2).1);simp only[wU,c,funext (I8 a b h.2)]
theorem Lp:∀(a b:aZ Assign),rows a=rows b->∀s,wZ a s=wZ b s
 |[],[],_,_=>rfl|[],_::_,h,_=>by simp[rows]at h|_::_,[],h,_=>by simp[rows]at h|x::a,y::b,h,s=>by simp only[rows,map_cons,List.cons.injEq]at h;have c:=h.1;change[V.int .i64 x.var,V.int .i64 x.value]=[V.int .i64 y.var,V.int .i64 y.value]at c;simp only[List.cons.injEq,V.int.injEq,true_and,and_true]at c;simp only[wZ,c.1,c.2,funext (Lp a b h.2)]
theorem Kd{x y:WF}(h:cells x=cells y):rows x.assign.l=rows y.assign.l:=by change[V.int .i64 x.kind,V.int .i64 x.peer,V.int .i64 x.message,V.int .i64 x.time,b7 x.assign]=[V.int .i64 y.kind,V.int .i64 y.peer,V.int .i64 y.message,V.int .i64 y.time,b7 y.assign]at h;simp only[List.cons.injEq]at h;exact xG h.2.2.2.2.1
theorem xV:∀(a b:aZ WF),rows a=rows b->∀k s,wW k a s=wW k b s
 |[],[],_,_,_=>rfl|[],_::_,h,_,_=>by simp[rows]at h|_::_,[],h,_,_=>by simp[rows]at h|x::a,y::b,h,k,s=>by simp only[rows,map_cons,List.cons.injEq]at h;simp only[wW,Lp _ _ (Kd h.1),xV a b h.2]
theorem DU{α:Type}[bC α]{a b:aZ α}(h:rows a=rows b):a.length=b.length:=by have:=congrArg List.length h;simpa[rows]using this
theorem Jn:∀(a b:aZ WF),rows a=rows b->(a.all λe=>pU e.assign.l.length)=b.all λe=>pU e.assign.l.length
 |[],[],_=>rfl|[],_::_,h=>by simp[rows]at h|_::_,[],h=>by simp[rows]at h|x::a,y::b,h=>by simp only[rows,map_cons,List.cons.injEq]at h;simp only[all_cons,DU (Kd h.1),Jn a b h.2]
def w_(f:Y')(g:Y')(a b:T2)(xs:T'):Prop:=∃(p:bX)(u:aZ (Int×Zg)),g=f/\a=[]/\b=[.fptr (cells p)]/\jN p=some u/\xs=u.map eI
theorem w_.uniq{f g:Y'}{a b:T2}{xs ys:T'}(h:w_ f g a b xs)(k:w_ f g a b ys):xs=ys:=by obtain⟨p,C,rfl,rfl,rfl,c,rfl⟩:=h;obtain⟨w,z,_,_,u,B,rfl⟩:=k;simp only[List.cons.injEq,V.fptr.injEq,and_true]at u;change[V.str p.name,b7 p.vars,b7 p.events]=[V.str w.name,b7 w.vars,b7 w.events]at u;simp only[List.cons.injEq]at u;have r1:=xG u.2.1;have r2:=xG u.2.2.1;unfold jN at c B;rw[DU r1,DU r2,Jn _ _ r2,I8 _ _ r1,funext (λs=>xV _ _ r2 0 s)]at c;have e:=c.symm.trans B;cases e;rfl
end IST
end Go.VE
namespace Go.VE
open Go.Proofs.YtfjedefhlilglaaGreatDoor
noncomputable section
def JP(f:Y')(a b:T2)(xs:T'):Prop:=trace_events_c1.w_ 168 f a b xs\/IST.w_ 222 f a b xs
noncomputable def Sy:Sys:=⟨E,λn=>n,zZ JP,zu E,IM⟩
abbrev cL:cm:=dm Sy Tx
theorem YQ:Sy.prm 55=some (ze false):=by kernel_rfl
theorem V8:Sy.prm 214=some (ua Sy.E):=by kernel_rfl
theorem Wt:Sy.prm 211=some (uB Sy.E):=by kernel_rfl
theorem Yf:∃fi,E.ft 168=some fi/\yx E some fi trace_events_c1.text:=Y4 Zae
theorem IU:rJ Sy Tx where
 fn f rf h:=let⟨u,a,w⟩:=DO h;⟨u,some,a,u9,w⟩
 yH f z y h:=HW h
 prm:=JY
theorem KU(p:bX)(B:aZ (Int×Zg))(a:jN p=some B):eS Sy 222 [] [.fptr (cells p)] (B.map IST.eI):=by
 have w:Tx 222=some (sq (Tx 222)):=Bq Zae;have⟨G,z,C⟩:=DO w;have e1:ble (([]:T2).length+1+[V.fptr (cells p)].length) (sq (Tx 222)).na=true:=by kernel_rfl
 have e2:(sq (Tx 222)).rs=[]:=by kernel_rfl
 have e3:Sy.E=Sb.E:=rfl;exact Tl e3 JY (vM YT Rb) Rb z u9 C (Nat.le_of_ble_eq_true e1) e2 λu more D y=>IB.zP more y u p [] (by rw[IST.all p B a u more D];rfl)
theorem Cu:∀f a b xs,Sy.items f a b=some xs->eS Sy f a b xs:=by intro f a b xs h;have h:JP f a b xs:=Oj h;rcases h with h|h;obtain⟨t,u,rfl,rfl,rfl,c,rfl⟩:=h;have⟨D,w,z⟩:=Yf;exact Tq Sy w u9 z (Nat.le_of_ble_eq_true rfl) rfl λB more C y=>trace_events_c1.all t u c B more C y;obtain⟨p,u,rfl,rfl,rfl,c,rfl⟩:=h;exact KU p u c
theorem AO(t:Z4)(B:aZ (bf×WF))(h:jG t=some B):Sy.items 168 [] [.fptr (cells t)]=some (B.map λx:bf×WF=>[enc x.1,enc x.2]):=EW (.inl ⟨t,B,rfl,rfl,rfl,h,rfl⟩) (λu a=>by rcases a with a|a<;>first|exact a.uniq ⟨t,B,rfl,rfl,rfl,h,rfl⟩|(have⟨_,_,a,_⟩:=a;exact absurd a (by decide)))
theorem GS(p:bX)(B:aZ (Int×Zg))(h:jN p=some B):Sy.items 222 [] [.fptr (cells p)]=some (B.map λx:Int×Zg=>[enc x.1,enc x.2]):=EW (.inr ⟨p,B,rfl,rfl,rfl,h,rfl⟩) (λu a=>by rcases a with a|a<;>first|exact a.uniq ⟨p,B,rfl,rfl,rfl,h,rfl⟩|(have⟨_,_,a,_⟩:=a;exact absurd a (by decide)))
theorem Qd:Sy.yH 10 []=some (.bool true):=BT (LQ rfl ⟨1,[],by kernel_rfl⟩)
end
end Go.VE
namespace Go.VE
noncomputable section
def v_(D:Z4)(B:bf):a_ WF:=(idx D.procs B.proc).bind λu=>(idx u.events (wrap .i64 (B.index-1))).bind λw=>some w
instance Zt(B:Z4)(D:bf):Fc Sy cL (v_ B D):=Fc.N 154 [enc B,enc D] (cu 2 2 B (bP 10 λw _=>bP 5 λu _=>pM 1 4 0 u bh))
namespace en
def bT(B G p7:Int)(D:Z4)(J:bf)(a:Int):a_ (Fw Int Unit bf):=(idx D.procs p7).bind λw=>bl (decide (a<(len w.events))) ((idx D.procs p7).bind λz=>(idx z.events a).bind λu=>(bl (u.kind==B) (some (u.message==G)) (some false):a_ X').bind λC=>bl C (some (.r (⟨p7,wrap .i64 (a+1)⟩:bf))) (some (.n (wrap .i64 (a+1))))) (some (.x ()))
def W2(B J p7 a:Int)(D:Z4)(G:bf):a_ (Fw Int Unit bf):=(bS (λq:Int=>bT B J p7 D G q) a).bind (Fw.elim (λe=>some (.n (wrap .i64 (p7+1)))) (λe=>some (.r e)))
def br(B J:Int)(D:Z4)(G:bf)(p7:Int):a_ (Fw Int Unit bf):=bl (decide (p7<(len D.procs))) (W2 B J p7 0 D G) (some (.x ()))
def W1(B J p7:Int)(D:Z4)(G:bf):a_ bf:=(bS (λq:Int=>br B J D G q) p7).bind (Fw.elim (λe=>some ⟨0,0⟩) (λe=>some e))
end en
def en(D:Z4)(B G:Int):a_ bf:=en.W1 B G 0 D (⟨0,0⟩:bf)
open en in
instance XN(D:Z4)(B G:Int):Fc Sy cL (en D B G):=Fc.M 100 [enc D,.int .i64 B,.int .i64 G] (cu 2 3 D (dZ 11 (λu=>(bL [Iv 1 B,Iv 2 G,Pv 3,Pv 6,Iv 7 u] [Xb 3 D,Xb 6 (⟨0,0⟩:bf)])) (λw=>(0,(bL [Pv 6] [Xb 6 (⟨0,0⟩:bf)]))) (λw=>(bL [Pv 6] [Xb 6 w])) (λu=>bZ 7 D.procs (bB 3 14 (dZ 12 (λC=>(bL [Iv 1 B,Iv 2 G,Pv 3,Pv 6,Iv 7 u,Iv 8 C] [Xb 3 D,Xb 6 (⟨0,0⟩:bf)])) (λz=>(2,(bL [Iv 1 B,Iv 2 G,Pv 3,Pv 6,Iv 7 u] [Xb 3 D,Xb 6 (⟨0,0⟩:bf)]))) (λz=>(bL [Pv 6] [Xb 6 z])) (λC=>bP 8 λI _=>bZ 2 I.events (bB 3 25 (bP 10 λL _=>bP 3 λJ _=>pM 2 9 0 J (ck 9 5 [9,41] 46 (bB 9 41 (bF 5) (bF 5)) λO=>bB 2 46 bh bh)) bh)) (λz=>bh) (λz=>bh)) bh)) (λw=>bh) (λw=>bh)))
namespace ec
def J1(B:Sl bf)(D:Z4)(G:bf):a_ (Sl bf):=(v_ D G).bind λu=>bl (u.kind==3) ((en D 2 u.message).bind λw=>(gw B (w:bf)).bind λz=>some z) (some B)
end ec
def ec(D:Z4)(B:bf):a_ (Sl bf):=bl (decide (B.index>1)) (ec.J1 (Sl.row [⟨B.proc,wrap .i64 (B.index-1)⟩]:Sl bf) D B) (ec.J1 (Sl.nil:Sl bf) D B)
open ec in
theorem A4(D:Z4)(B:bf):Le ((ec D B).bind λr=>some (cG r)) (cg Sy cL (B6 (tr Tx 155)) (.rc (tb Tx 155),[],start ([enc D,enc B].map .v) [])):=cu 2 2 D (bB 17 9 (Vf 10 17 18 .bO (⟨B.proc,wrap .i64 (B.index-1)⟩:bf) (ud 5 (bG 4 λu _=>pM 1 6 0 u (bB 10 24 (bG 6 λw _=>ow 1 2005 30 31 λz _=>bh) bh)))) (ud 5 (bG 4 λu _=>pM 1 6 0 u (bB 10 24 (bG 6 λw _=>ow 1 2005 30 31 λz _=>bh) bh))))
def p9(a:bf->a_ (Sl bf)):aZ (aZ X')×aZ bf->a_ (Fw (aZ (aZ X')×aZ bf) (aZ (aZ X')) Empty)
 |(out,[])=>some (.x out)|(out,y::rest)=>if 0<=y.proc/\0<=y.index then(out[y.proc.toNat]?).bind λrow=>(row[y.index.toNat]?).bind λb=>bl b (some (.n (out,rest))) ((a y).bind λmore=>if rest.length+more.l.length<=2147483648 then some (.n (out.set y.proc.toNat (row.set y.index.toNat true),rest++more.l))else none)else none
def iq(t:Z4):aZ (aZ X'):=t.procs.l.map λP=>replicate (P.events.l.length+1) false
def Bt(t:Z4):X':=decide (t.procs.l.length<=2147483648)&&t.procs.l.all λP=>decide (P.events.l.length+1<=2147483648)
def nested(out:aZ (aZ X')):Sl (Sl X'):=if out=[]then .nil else .row (out.map .row)
def oI(t:Z4)(x:bf):a_ (Sl (Sl X')):=if Bt t then(ec t x).bind λs=>(bS (p9 (ec t)) (iq t,s.l)).bind (Fw.elim (λout=>some (nested out)) (λe=>elim e))else none
end
namespace pastX
abbrev yX:Nat->FuncId:=λn=>n
def r1:SW:=[o2 2 (.a .box) [0] [],o2 3 (.a .box) [1] [],o1 4 (.k (.bO)) []]
def r2:SW:=[o1 5 (.k (.bO)) []]
def r3:SW:=[o1 6 (.k (.int .i64 0)) []]
def r4:SW:=[o1 11 6 [],o2 12 (fa 0) [2] [],o2 13 (ld 1) [12] [],o2 14 ln [13] [],o2 15 (bI .lss) [11,14] []]
def r5:SW:=[o1 18 5 [],o2 19 (fa 0) [2] [],o2 20 (ld 1) [19] [],o1 21 6 [],o2 22 (ix 3) [20,21] [],o2 23 (fa 2) [22] [],o2 24 (ld 1) [23] [],o2 25 ln [24] [],o2 26 (bI .add) [25,.k (.int .i64 1)] [],o2 27 (.a (.makeSl 1 [.bool false])) [26,26] [],o2 28 (.a (.buildSl 1 1 [.bO] [0])) [27] [],o2 29 (.l (.append 1)) [18,28] [],o1 5 29 []]
def r6:SW:=[o1 16 6 [],o2 17 (bI .add) [16,.k (.int .i64 1)] [],o1 6 17 []]
def L1:RC:=.seq (.seq (.ops r4) (.cond (.s 15) (.skip) (.exit 0))) (.seq (.block 1 (.ops r5)) (.ops r6))
def r7:SW:=[o2 30 (lD 1) [2] [],o2 31 (lD 2) [3] [],o2 32 .c [.f 155,30,31] [],o1 7 32 []]
def r8:SW:=[o1 33 7 [],o2 34 ln [33] [],o2 35 (bI .gtr) [34,.k (.int .i64 0)] []]
def r9:SW:=[o1 36 7 [],o2 37 (ix 2) [36,.k (.int .i64 0)] [],o2 38 (lD 2) [37] [],o2 8 (.a (.alloc 2 [.int .i64 0,.int .i64 0])) [] [],oz (su 2) [8,38] []]
def Fp:SW:=[o1 39 7 [],o2 40 (.p (.slice 2 true false)) [39,.k (.int .i64 1)] [],o1 7 40 []]
def HG:SW:=[o1 41 5 [],o2 42 (fa 0) [8] [],o2 43 (ld 1) [42] [],o2 44 (ix 1) [41,43] [],o2 45 (ld 1) [44] [],o2 46 (fa 1) [8] [],o2 47 (ld 1) [46] [],on 48 (ix 1) [45,47] [],on 49 (ld 1) [48] []]
def HU:SW:=[o1 50 5 [],o2 51 (fa 0) [8] [],o2 52 (ld 1) [51] [],o2 53 (ix 1) [50,52] [],o2 54 (ld 1) [53] [],o2 55 (fa 1) [8] [],o2 56 (ld 1) [55] [],on 57 (ix 1) [54,56] [],oy (su 1) [57,.k (.bool true)] []]
def Ia:SW:=[o2 58 (lD 1) [2] [],o2 59 (lD 2) [8] [],o2 60 .c [.f 155,58,59] [],o1 9 60 []]
def Fv:SW:=[o1 10 (.k (.int .i64 0)) []]
def GO:SW:=[o1 61 10 [],o1 62 9 [],o2 63 ln [62] [],o2 64 (bI .lss) [61,63] []]
def r16:SW:=[o1 67 7 [],o1 68 9 [],o1 69 10 [],o2 70 (ix 2) [68,69] [],o2 71 (lD 2) [70] [],o2 72 (.a (.buildSl 2 1 [.int .i64 0,.int .i64 0] [0])) [71] [],o2 73 (.l (.append 2)) [67,72] [],o1 7 73 []]
def QD:SW:=[o1 65 10 [],o2 66 (bI .add) [65,.k (.int .i64 1)] [],o1 10 66 []]
def L3:RC:=.seq (.seq (.ops GO) (.cond (.s 64) (.skip) (.exit 4))) (.seq (.block 5 (.ops r16)) (.ops QD))
def L2:RC:=.seq (.seq (.ops r8) (.cond (.s 35) (.skip) (.exit 2))) (.block 3 (.seq (.ops r9) (.seq (.ops Fp) (.seq (.seq (.qK HG) (.cond (.s 49) (.exit 3) (.skip))) (.seq (.qK HU) (.seq (.ops Ia) (.seq (.ops Fv) (.block 4 (.loop L3)))))))))
def r18:SW:=[o1 74 5 [],o1 4 74 []]
def code:RC:=.seq (.ops r1) (.seq (.ops r2) (.seq (.seq (.ops r3) (.block 0 (.loop L1))) (.seq (.ops r7) (.seq (.block 2 (.loop L2)) (.seq (.ops r18) (.ret))))))
noncomputable abbrev xZ:=Go.Proofs.YtfjedefhlilglaaGreatDoor.E
def kL(out:aZ (aZ X')):T':=out.map λr=>r.map V.bool
theorem shape:∃fi,xZ.ft (yX 114)=some fi/\bW ⟨xZ,some,fi.ntmps⟩ false fi.body=some code/\2<=fi.ntmps/\fi.results=[.tmp 4]:=by
 have h:((xZ.ft (yX 114)).map λfi=>(bW ⟨xZ,some,fi.ntmps⟩ false fi.body,ble 2 fi.ntmps,fi.results))=some (some code,true,[.tmp 4]):=by kernel_rfl
 have⟨fi,a,u⟩:=ζf.1 h;simp only[ζc]at u;exact⟨fi,a,u.1,Nat.le_of_ble_eq_true u.2.1,u.2.2⟩
section
variable{E:Env}{N:Nat->Y'}{t:Z4}{x:bf}{k:Nat}{F:WP}{H H1:bp}{call:dL}{b:a_ Nat}
theorem kC{o:RO}{l:SW}{v:V}{r:WP×bp}(a:o.gd=none)(c:bK E N call b o.now o.k (o.az.map (bz N F)) H=some (v,H1))(h:cK E N call b l (bu F o.dst v) H1=some r):cK E N call b (o::l) F H=some r:=by simp[cK,a,c];omega
theorem vp{o:RO}{l:SW}{v:V}{r:WP×bp}(a:o.gd=none)(c:bK E N call b o.now o.k (o.az.map (bz N F)) H=some (v,H))(h:cK E N call b l (bu F o.dst v) H=some r):cK E N call b (o::l) F H=some r:=kC a c h
theorem eA:cK E N call b [] F H=some (F,H):=rfl
theorem ld1(h:H[0]?=some (.row 1 [cells t])):fA H (.load 1 false) [.hptr 0 0 0]=some (b7 t.procs):=by simp[fA,eO,h];rfl
theorem abc{s:Sl bX}{p:bX}{i:Nat}(h:s.l[i]?=some p):mN 3 (b7 s) (i:Int)=some (.fptr (cells p)):=by have:=Ge (N:=λn=>n) s .i64 i 3 rfl;simp[bq]at this;rw[this,show idx s i=some p from by unfold idx;grind];rfl
theorem x4(a:get F 2=.hptr 0 0 0)(f6:get F 6=.int .i64 k)(b:H[0]?=some (.row 1 [cells t])):
 ∃F',cK E N call none r4 F H=some (F',H)/\get F' 15=.bool (decide (k<t.procs.l.length))/\(∀s,s<11->get F' s=get F s):=by
 refine⟨_,vp (v:=.int .i64 k) rfl ?_<|vp (v:=.hptr 0 0 0) rfl ?_<|vp (v:=b7 t.procs) rfl ?_<|vp (v:=.int .i64 t.procs.l.length) rfl ?_<|vp (v:=.bool (decide (k<t.procs.l.length))) rfl ?_ eA,?_,?_⟩
 .simp[bK,bz,bq,f6]
 .simp[bK,bz,bq,bu,a,iP]
 .simp only[bK,map_cons,map_nil,bz,bu,bA,if_true];rw[ld1 b];rfl
 .simp only[bK,map_cons,map_nil,bz,bu,bA,if_true];rw[AI];rfl
 .simp[bK,bz,bq,bu,iA,o8]
 .simp[bu]
 simp[bu,bA]
 grind
theorem zA{n:Nat}(h:n<=2147483648):wrap .i64 ((n:Int)+1)=((n+1:Nat):Int):=by simp[wrap,IntKind.bits];omega
theorem x5{P:bX}{o:Nat}{ids:S'}{rows:T'}(a:get F 2=.hptr 0 0 0)(f6:get F 6=.int .i64 k)(b:H[0]?=some (.row 1 [cells t]))(B:t.procs.l[k]?=some P)(G:P.events.l.length+1<=2147483648)
 (D:nu H (get F 5) o ids rows)(c:rows.length+1<=2147483648):
 ∃F' H',cK E N call none r5 F H=some (F',H')/\nu H' (get F' 5) (H.length+2) (ids++[H.length]) (rows++[replicate (P.events.l.length+1) (.bool false)])/\H.length<=H'.length/\(∀id,id<H.length->id≠o\/rows=[]->H'[id]?=H[id]?)/\(∀s,s<11->s≠5->get F' s=get F s):=by
 have⟨H',p1,p2,p3,p4⟩:=D.push (replicate (P.events.l.length+1) (.bool false)) c;have u:jT (replicate (P.events.l.length+1) (V.bool false))=replicate (P.events.l.length+1) [.bool false]:=by simp[jT]
 rw[u,List.length_replicate]at p1;have w:=zA (n:=P.events.l.length) Zaa
 refine⟨_,H',vp (v:=get F 5) rfl ?_<|vp (v:=.hptr 0 0 0) rfl ?_<|vp (v:=b7 t.procs) rfl ?_<|vp (v:=.int .i64 k) rfl ?_<|vp (v:=.fptr (cells P)) rfl ?_<|vp (v:=.fptr [b7 P.events]) rfl ?_<|vp (v:=b7 P.events) rfl ?_<|
  vp (v:=.int .i64 P.events.l.length) rfl ?_<|vp (v:=.int .i64 (P.events.l.length+1:Nat)) rfl ?_<|kC (v:=.hsl H.length 1 0 (P.events.l.length+1)) (H1:=H++[.row 1 (replicate (P.events.l.length+1) [.bool false])]) rfl ?_<|
  kC (v:=.hsl (H.length+1) 1 0 1) (H1:=H++[.row 1 (replicate (P.events.l.length+1) [.bool false])]++[.row 1 [[.hsl H.length 1 0 (P.events.l.length+1)]]]) rfl ?_<|
  kC (v:=.hsl (H.length+2) 1 0 (rows.length+1)) rfl ?_<|vp (v:=.hsl (H.length+2) 1 0 (rows.length+1)) rfl ?_ eA,?_,p3,p4,?_⟩
 .simp[bK,bz,bq]
 .simp[bK,bz,bq,bu,a,iP]
 .simp only[bK,map_cons,map_nil,bz,bu,bA,if_true];rw[ld1 b];rfl
 .simp[bK,bz,bq,bu,f6]
 .simp only[bK,map_cons,map_nil,bz,bu,bA,reduceEqDiff,if_true,if_false,bq];rw[abc B];rfl
 .simp[bK,bz,bu,bA,bq];rfl
 .simp[bK,bz,bu,bA];rfl
 .simp only[bK,map_cons,map_nil,bz,bu,bA,if_true];rw[AI];rfl
 .simp[bK,bz,bu,bA,bq,iA];grind
 .simp only[bK,map_cons,map_nil,bz,bu,bA,if_true,iU];rw[if_pos ⟨trivial,trivial,Zaa,Zaa,Zaa⟩]
  simp[Mk.val]
 .simp[bK,bz,bu,bA,iU];simp[fS,V.cells,V.one,Mk.val]
 .simp only[bK,map_cons,map_nil,bz,bu,bA,reduceEqDiff,if_true,if_false];omega
 .simp[bK,bz,bq,bu]
 .simp[bu,bA];omega
 intro s z C;simp[bu,bA]
 repeat (rw[if_neg Zaa])
theorem x6(f6:get F 6=.int .i64 k)(a:k<=2147483648):∃F',cK E N call none r6 F H=some (F',H)/\get F' 6=.int .i64 ((k+1:Nat):Int)/\(∀s,s<11->s≠6->get F' s=get F s):=by have u:=zA a;refine⟨_,vp (v:=.int .i64 k) rfl ?_<|vp (v:=.int .i64 (k+1:Nat)) rfl ?_<|vp (v:=.int .i64 (k+1:Nat)) rfl ?_ eA,?_,?_⟩;simp[bK,bz,bq,f6];simp[bK,bz,bu,bA,bq,iA];grind;simp[bK,bz,bq,bu];simp[bu];simp[bu,bA];grind
end
structure P1(t:Trace)(x:bf)(k:Nat)(F:Frame)(H:bp):Prop where
 f2:get F 2=.hptr 0 0 0
 f3:get F 3=.hptr 1 0 0
 f6:get F 6=.int .i64 k
 h0:H[0]?=some (.row 1 [cells t])
 h1:H[1]?=some (.row 2 [cells x])
 ns:∃o ids,nu H (get F 5) o ids (kL ((iq t).take k))/\(k≠0->2<=o)/\∀id∈ids,2<=id
theorem x_(out:aZ (aZ X')):(kL out).length=out.length:=by simp[kL]
theorem OU{E:Env}{N:Nat->Y'}{t:Z4}{x:bf}(J:Bt t=true):∀(m k:Nat)(F:WP)(H:bp),k+m=t.procs.l.length->P1 t x k F H->∃F' H',mX E N L1 F H (.exit 0) F' H'/\P1 t x t.procs.l.length F' H':=by
 have B:t.procs.l.length<=2147483648/\∀P∈t.procs.l,P.events.l.length+1<=2147483648:=by simpa[Bt]using J
 intro m;induction m with|zero=>intro k F H a p;have C:k=t.procs.l.length:=Zaa;obtain⟨F1,e1,e2,e3⟩:=x4 (E:=E) (call:=⟨0,λ_ _ _=>none⟩) p.f2 p.f6 p.h0;refine⟨F1,H,mX.stop (Ex.uR (Ex.seq (Ex.dw λc=>?_) (Ex.qI ?_ Ex.exit)) Zab) Zab,?_⟩;have:cK E N c none r4 F H=cK E N ⟨0,λ_ _ _=>none⟩ none r4 F H:=rfl;exact e1;show get F1 15=_;rw[e2];simp[C];subst C;exact⟨by rw[e3 2 Zaa];exact p.f2,by rw[e3 3 Zaa];exact p.f3,by rw[e3 6 Zaa];exact p.f6,p.h0,p.h1,by rw[e3 5 Zaa];exact p.ns⟩|succ m Z=>
  intro k F H a p;have w:k<t.procs.l.length:=Zaa;obtain⟨o,ids,U,b,d⟩:=p.ns;obtain⟨F1,e1,e2,e3⟩:=x4 (E:=E) (N:=N) (call:=⟨0,λ_ _ _=>none⟩) p.f2 p.f6 p.h0;have W:=ζd w;have D:((iq t).take k).length=k:=by simp[iq];omega
  have I:nu H (get F1 5) o ids (kL ((iq t).take k)):=by rw[e3 5 Zaa];exact U
  obtain⟨g,H2,g1,g2,g3,g4,g5⟩:=x5 (E:=E) (N:=N) (call:=⟨0,λ_ _ _=>none⟩) (by rw[e3 2 Zaa];exact p.f2) (by rw[e3 6 Zaa];exact p.f6) p.h0 W (B.2 _ (List.getElem_mem w)) I (by rw[x_,D];omega);obtain⟨X,e,f,L⟩:=x6 (E:=E) (N:=N) (call:=⟨0,λ_ _ _=>none⟩) (H:=H2) (by rw[g5 6 Zaa Zaa,e3 6 Zaa];exact p.f6) Zaa;have Y:=U.lt;have O:=(ζe.1 p.h0).1;have Q:=(ζe.1 p.h1).1;have u:∀i,i<2->i<H.length->H2[i]?=H[i]?:=λi hi Y=>g4 i Y (by
   by_cases G:k=0
   .subst G;right;simp[kL]
   left;have:=b G;omega)
  have S:P1 t x (k+1) X H2:=by
   refine⟨by rw[L 2 Zaa Zaa,g5 2 Zaa Zaa,e3 2 Zaa];exact p.f2,by rw[L 3 Zaa Zaa,g5 3 Zaa Zaa,e3 3 Zaa];exact p.f3,f,
    by rw[u 0 Zaa O];exact p.h0,by rw[u 1 Zaa Q];exact p.h1,H.length+2,ids++[H.length],?_,λ_=>Zaa,λid T=>?_⟩
   rw[L 5 Zaa Zaa];have z:kL ((iq t).take (k+1))=kL ((iq t).take k)++[replicate (t.procs.l[k].events.l.length+1) (.bool false)]:=by rw[List.take_add_one];have:(iq t)[k]?=some (replicate (t.procs.l[k].events.l.length+1) false):=(by simp[iq,W]);rw[this];simp[kL]
   rw[z];exact g2;rcases List.mem_append.1 T with h|h;exact d id h;simp at h;omega
  obtain⟨F',H',r1,r2⟩:=Z (k+1) X H2 Zaa S;refine⟨F',H',mX.step (Ex.seq (Ex.seq (Ex.dw λc=>e1) (Ex.om ?_ Ex.skip)) (Ex.seq (Ex.block (Ex.dw λc=>g1)) (Ex.dw λc=>e))) r1,r2⟩;show get F1 15=_;rw[e2];simp[w]
section
variable{E:Env}{N:Nat->Y'}{t:Z4}{x y:bf}{F:WP}{H:bp}{call:dL}
theorem x8{l:T'}{id:Nat}(h:kY H (get F 7) l id):∃F',cK E N call none r8 F H=some (F',H)/\get F' 35=.bool (decide (0<l.length))/\(∀s,s<11->get F' s=get F s):=by refine⟨_,vp (v:=get F 7) rfl ?_<|vp (v:=.int .i64 l.length) rfl ?_<|vp (v:=.bool (decide (0<l.length))) rfl ?_ eA,?_,?_⟩;simp[bK,bz,bq];simp[bK,bz,bu,bA,bq,h.len];simp[bK,bz,bq,bu,iA,o8];simp[bu];simp[bu,bA];grind
theorem x9{l:T'}{id:Nat}(h:kY H (get F 7) (cells y::l) id):∃F',cK E N call none r9 F H=some (F',H++[.row 2 [cells y]])/\get F' 8=.hptr H.length 0 0/\(∀s,s<11->s≠8->get F' s=get F s):=by have⟨p,p1,p2⟩:=h.get (i:=0) rfl;refine⟨_,vp (v:=get F 7) rfl ?_<|vp (v:=p) rfl ?_<|vp (v:=.agg (cells y)) rfl ?_<|kC (v:=.hptr H.length 0 0) (H1:=H++[.row 2 [[.int .i64 0,.int .i64 0]]]) rfl ?_<|kC (v:=.undef) rfl ?_ eA,?_,?_⟩;simp[bK,bz,bq];simp[bK,bz,bu,bA,bq];grind;simp only[bK,map_cons,bz,bu,bA,if_false];grind;simp[bK,bz,bu,bA,iU,Mk.val];simp[bK,bz,bu,bA];simp[fP,V.cells,V.one];simp[bu];simp[bu,bA];grind
theorem x10{c:T2}{l:T'}{id:Nat}(h:kY H (get F 7) (c::l) id):∃F',cK E N call none Fp F H=some (F',H)/\kY H (get F' 7) l id/\(∃off m B,get F 7=.hsl id 2 off m/\get F' 7=.hsl id 2 B l.length)/\(∀s,s<11->s≠7->get F' s=get F s):=by have⟨w',p1,p2,off,m,B,p3,p4⟩:=h.tail;refine⟨_,vp (v:=get F 7) rfl ?_<|vp (v:=w') rfl ?_<|vp (v:=w') rfl ?_ eA,?_,⟨off,m,B,p3,?_⟩,?_⟩;simp[bK,bz,bq];simp[bK,bz,bu,bA,bq,mL,p1];simp[bK,bz,bq,bu];simp[bu,bA];omega;simp[bu,bA];omega;simp[bu,bA];grind
theorem kJ(H:bp):H.take H.length=H:=List.take_length ..
theorem Y0{c:Nat}(a:H[c]?=some (.row 2 [cells y])):fA H (.load 1 false) [.hptr c 0 0]=some (.int .i64 y.proc)/\fA H (.load 1 false) [.hptr c 0 1]=some (.int .i64 y.index)/\fA H (.load 2 true) [.hptr c 0 0]=some (enc y):=by refine⟨?_,?_,?_⟩<;>simp[fA,eO,a,cut]<;>rfl
theorem Yv{c o:Nat}{ids:S'}{rows:T'}{p j:Nat}{r:T2}{u:V}(B:get F 8=.hptr c 0 0)(a:H[c]?=some (.row 2 [cells y]))(D:nu H (get F 5) o ids rows)(hp:y.proc=p)(G:y.index=j)(b:rows[p]?=some r)(d:r[j]?=some u):
 ∃F',cK E N call (some H.length) HG F H=some (F',H)/\get F' 49=u/\(∀s,s<11->get F' s=get F s):=by
 have⟨id,w,z,C,I,J⟩:=D.cell b d;have⟨L,O,_⟩:=Y0 a;refine⟨_,vp (v:=get F 5) rfl ?_<|vp (v:=.hptr c 0 0) rfl ?_<|vp (v:=.int .i64 p) rfl ?_<|vp (v:=.hptr o p 0) rfl ?_<|vp (v:=.hsl id 1 0 r.length) rfl ?_<|vp (v:=.hptr c 0 1) rfl ?_<|vp (v:=.int .i64 j) rfl ?_<|vp (v:=.hptr id j 0) rfl ?_<|vp (v:=u) rfl ?_ eA,?_,?_⟩
 .simp[bK,bz,bq]
 .simp[bK,bz,bq,bu,B,iP]
 .simp[bK,bz,bu,bA,kJ];grind
 .simp[bK,bz,bu,bA,bq];grind
 .simp[bK,bz,bu,bA,kJ];grind
 .simp[bK,bz,bq,bu,B,iP]
 .simp[bK,bz,bu,bA,kJ];grind
 .simp[bK,bz,bu,bA,bq];grind
 .simp[bK,bz,bu,bA,kJ];simp_all
 .simp[bu]
 simp[bu,bA]
 grind
theorem x12{c o:Nat}{ids:S'}{rows:T'}{p j:Nat}{r:T2}{u:V}(B:get F 8=.hptr c 0 0)(d:H[c]?=some (.row 2 [cells y]))(D:nu H (get F 5) o ids rows)(hp:y.proc=p)(J:y.index=j)(a:rows[p]?=some r)(b:r[j]?=some u):
 ∃F' H',cK E N call (some H.length) HU F H=some (F',H')/\nu H' (get F' 5) o ids (rows.set p (r.set j (.bool true)))/\H'.length=H.length/\(∀i,i∉ids->H'[i]?=H[i]?)/\(∀s,s<11->get F' s=get F s):=by
 have⟨id,w,L,O,z,Q⟩:=D.cell a b;have⟨S,T,_⟩:=Y0 d;have⟨H',C,U,G,I⟩:=D.set a (ζe.1 b).1 w (u:=.bool true) rfl rfl;refine⟨_,H',vp (v:=get F 5) rfl ?_<|vp (v:=.hptr c 0 0) rfl ?_<|vp (v:=.int .i64 p) rfl ?_<|vp (v:=.hptr o p 0) rfl ?_<|vp (v:=.hsl id 1 0 r.length) rfl ?_<|vp (v:=.hptr c 0 1) rfl ?_<|vp (v:=.int .i64 j) rfl ?_<|vp (v:=.hptr id j 0) rfl ?_<|kC (v:=.undef) rfl ?_ eA,?_,G,λi hi=>I i λe=>hi (e▸mem_of_getElem? w),?_⟩
 .simp[bK,bz,bq]
 .simp[bK,bz,bq,bu,B,iP]
 .simp[bK,bz,bu,bA,kJ];grind
 .simp[bK,bz,bu,bA,bq];grind
 .simp[bK,bz,bu,bA,kJ];grind
 .simp[bK,bz,bq,bu,B,iP]
 .simp[bK,bz,bu,bA,kJ];grind
 .simp only[bK,map_cons,map_nil,bz,bu,bA,reduceEqDiff,if_true,if_false,bq];rw[z];rfl
 .simp[bK,bz,bu,bA,C]
 .simp[bu,bA];omega
 simp[bu,bA]
 grind
def IP(E:Env)(N:Nat->Y')(t:Z4)(a:bf->a_ (Sl bf)):Prop:=∀(y:bf)(s:Sl bf)(H:bp),a y=some s->∃w X id,(∃n,∀k,n<=k->fI E (run E k) (N 155) [enc t,enc y] H=some (w,H++X))/\kY (H++X) w (s.l.map cells) id/\(∀off m,w=.hsl id 2 off m->id=H.length)
theorem x13{a d:Nat}(hd:E.keep (N 155)=true){b:bf->a_ (Sl bf)}(D:IP E N t b){s:Sl bf}(B:b y=some s)(f:get F 2=.hptr 0 0 0)(g:H[0]?=some (.row 1 [cells t])){c:Nat}(h:H[c]?=some (.row 2 [cells y])):
 ∃w X id,kY (H++X) w (s.l.map cells) id/\(∀off m,w=.hsl id 2 off m->id=H.length)/\
  (get F 8=.hptr c 0 0->∃F',(∃n,∀k,n<=k->cK E N (run E k) none Ia F H=some (F',H++X))/\get F' 9=w/\(∀s,s<11->s≠9->get F' s=get F s))/\
  (get F 3=.hptr c 0 0->∃F',(∃n,∀k,n<=k->cK E N (run E k) none r7 F H=some (F',H++X))/\get F' 7=w/\(∀s,s<11->s≠7->get F' s=get F s)):=by
 have⟨w,X,id,⟨n,e1⟩,e2,e3⟩:=D y s H B;have z:fA H (.load 1 true) [.hptr 0 0 0]=some (enc t):=by simp[fA,eO,g,Ob.rows,cut];rfl
 have⟨_,_,C⟩:=Y0 h;refine⟨w,X,id,e2,e3,λG=>⟨_,⟨n,λk e=>vp (v:=enc t) rfl ?_<|vp (v:=enc y) rfl ?_<|kC (v:=w) (H1:=H++X) rfl ?_<|vp (v:=w) rfl ?_ eA⟩,?_,?_⟩,λi=>⟨_,⟨n,λk e=>vp (v:=enc t) rfl ?_<|vp (v:=enc y) rfl ?_<|kC (v:=w) (H1:=H++X) rfl ?_<|vp (v:=w) rfl ?_ eA⟩,?_,?_⟩⟩
 .simp only[bK,map_cons,map_nil,bz,f];rw[z];rfl
 .simp only[bK,map_cons,map_nil,bz,bu,bA,reduceEqDiff,if_true,if_false,G];rw[C];rfl
 .simp only[bK,map_cons,map_nil,bz,bu,bA,reduceEqDiff,if_true,if_false,hd,List.nil_append,List.append_nil];exact e1 k e
 .simp[bK,bz,bq,bu]
 .simp[bu]
 .intro s B u;simp only[bu,bA];rw[if_neg (Ne.symm u)]
  repeat (rw[if_neg Zaa])
 .simp only[bK,map_cons,map_nil,bz,f];rw[z];rfl
 .simp only[bK,map_cons,map_nil,bz,bu,bA,reduceEqDiff,if_true,if_false,i];rw[C];rfl
 .simp only[bK,map_cons,map_nil,bz,bu,bA,reduceEqDiff,if_true,if_false,hd,List.nil_append,List.append_nil];exact e1 k e
 .simp[bK,bz,bq,bu]
 .simp[bu]
 intro s B u;simp only[bu,bA];rw[if_neg (Ne.symm u)]
 repeat (rw[if_neg Zaa])
end
section
variable{E:Env}{N:Nat->Y'}{F:WP}{H:bp}{call:dL}{i:Nat}
theorem UA{l:T'}{id:Nat}(a:get F 10=.int .i64 i)(h:kY H (get F 9) l id):∃F',cK E N call none GO F H=some (F',H)/\get F' 64=.bool (decide (i<l.length))/\(∀s,s<11->get F' s=get F s):=by refine⟨_,vp (v:=.int .i64 i) rfl ?_<|vp (v:=get F 9) rfl ?_<|vp (v:=.int .i64 l.length) rfl ?_<|vp (v:=.bool (decide (i<l.length))) rfl ?_ eA,?_,?_⟩;simp[bK,bz,bq,a];simp[bK,bz,bq,bu];simp[bK,bz,bu,bA,bq,h.len];simp[bK,bz,bq,bu,iA,o8];simp[bu];simp[bu,bA];grind
theorem x16{l D:T'}{id B:Nat}{c:T2}(a:get F 10=.int .i64 i)(h:kY H (get F 7) l id)(G:kY H (get F 9) D B)(b:D[i]?=some c)(J:l.length+1<=2147483648):
 ∃F' H',cK E N call none r16 F H=some (F',H')/\kY H' (get F' 7) (l++[c]) (H.length+1)/\H'.length=H.length+2/\(∀i,i<H.length->(∀off m,get F 7=.hsl id 2 off m->i≠id)->H'[i]?=H[i]?)/\(∀s,s<11->s≠7->get F' s=get F s):=by
 have u:=G.c c (mem_of_getElem? b);have⟨p,p1,p2⟩:=G.get b;have⟨H',C,I,w,z⟩:=h.push u J;refine⟨_,H',vp (v:=get F 7) rfl ?_<|vp (v:=get F 9) rfl ?_<|vp (v:=.int .i64 i) rfl ?_<|vp (v:=p) rfl ?_<|vp (v:=.agg c) rfl ?_<|kC (v:=.hsl H.length 2 0 1) (H1:=H++[.row 2 [c]]) rfl ?_<|kC (v:=.hsl (H.length+1) 2 0 (l.length+1)) rfl ?_<|vp (v:=.hsl (H.length+1) 2 0 (l.length+1)) rfl ?_ eA,?_,w,z,?_⟩
 .simp[bK,bz,bq]
 .simp[bK,bz,bq,bu]
 .simp[bK,bz,bq,bu,a]
 .simp[bK,bz,bu,bA,bq];grind
 .simp[bK,bz,bu,bA];grind
 .simp[bK,bz,bu,bA,iU];simp[fS,V.cells,Mk.val]
  grind
 .simp[bK,bz,bu,bA];omega
 .simp[bK,bz,bq,bu]
 .simp[bu,bA];omega
 simp[bu,bA]
 grind
theorem x17(a:get F 10=.int .i64 i)(b:i<=2147483648):∃F',cK E N call none QD F H=some (F',H)/\get F' 10=.int .i64 ((i+1:Nat):Int)/\(∀s,s<11->s≠10->get F' s=get F s):=by have u:=zA b;refine⟨_,vp (v:=.int .i64 i) rfl ?_<|vp (v:=.int .i64 (i+1:Nat)) rfl ?_<|vp (v:=.int .i64 (i+1:Nat)) rfl ?_ eA,?_,?_⟩;simp[bK,bz,bq,a];simp[bK,bz,bu,bA,bq,iA];grind;simp[bK,bz,bq,bu];simp[bu];simp[bu,bA];grind
structure P3(l l9:List (List V))(B i:Nat)(F:Frame)(H:bp):Prop where
 f10:get F 10=.int .i64 i
 t9:∃id9,kY H (get F 9) l9 id9/\∃id,kY H (get F 7) l id/\(∀off m,get F 7=.hsl id 2 off m->B<=id/\∀off' m',get F 9=.hsl id9 2 off' m'->id≠id9)
 len:B<=H.length
theorem ZB(D:T')(B:Nat)(Y:D.length<=2147483648):∀(m i:Nat)(l:T')(F:WP)(H:bp),i+m=D.length->l.length+m<=2147483648->P3 l D B i F H->
 ∃F' H',mX E N L3 F H (.exit 4) F' H'/\(∃id,kY H' (get F' 7) (l++D.drop i) id/\∀off m,get F' 7=.hsl id 2 off m->B<=id)/\(∀s,s<7->get F' s=get F s)/\(∀j,j<B->H'[j]?=H[j]?)/\H.length<=H'.length:=by
 intro m
 induction m with
 |zero=>
  intro i l F H hi Z p;obtain⟨u,t9,id,t7,C⟩:=p.t9;obtain⟨F1,e1,e2,e3⟩:=UA (E:=E) (call:=⟨0,λ_ _ _=>none⟩) p.f10 t9
  refine⟨F1,H,mX.stop (Ex.uR (Ex.seq (Ex.dw λc=>e1) (Ex.qI ?_ Ex.exit)) Zab) Zab,⟨id,?_,λoff m h=>?_⟩,λs T=>e3 s Zaa,λ_ _=>rfl,Nat.le_refl _⟩
  .show get F1 64=_
   grind
  .grind
  grind
 |succ m ih=>
  intro i l F H hi Z p;have z:i<D.length:=Zaa
  obtain⟨u,t9,id,t7,C⟩:=p.t9;obtain⟨F1,e1,e2,e3⟩:=UA (E:=E) (call:=⟨0,λ_ _ _=>none⟩) p.f10 t9
  have a:=ζd z;have G:kY H (get F1 7) l id:=Zac
  have I:kY H (get F1 9) D u:=Zac
  obtain⟨e,H2,g1,g2,g3,g4,g5⟩:=x16 (E:=E) (call:=⟨0,λ_ _ _=>none⟩) (by rw[e3 10 Zaa];exact p.f10) G I a Zaa
  obtain⟨U,b,d,J⟩:=x17 (E:=E) (call:=⟨0,λ_ _ _=>none⟩) (by rw[g5 10 Zaa Zaa,e3 10 Zaa];exact p.f10) Zaa
  have keep:∀j,j<H.length->(∀off m,get F 7=.hsl id 2 off m->j≠id)->H2[j]?=H[j]?:=λj L h=>g4 j L Zac
  have O:P3 (l++[D[i]]) D B (i+1) U H2:=by refine⟨d,⟨u,?_,H.length+1,Zac,λoff m h=>⟨by have:=p.len;omega,λw m' W=>?_⟩⟩,by have:=p.len;omega⟩;rw[J 9 Zaa Zaa,g5 9 Zaa Zaa,e3 9 Zaa];exact t9.heap λoff n X=>keep u (t9.lt X) λw m' Q=>Ne.symm ((C w m' Q).2 off n X);rw[J 9 Zaa Zaa,g5 9 Zaa Zaa,e3 9 Zaa]at W;have:=t9.lt W;omega
  obtain⟨F',H',r1,⟨S,r2,r3⟩,r4,r5,r6⟩:=ih (i+1) (l++[D[i]]) U H2 Zaa (by simp;omega) O
  refine⟨F',H',mX.step (Ex.seq (Ex.seq (Ex.dw λc=>e1) (Ex.om ?_ Ex.skip)) (Ex.seq (Ex.block (Ex.dw λc=>g1)) (Ex.dw λc=>b))) r1,⟨S,?_,r3⟩,λs T=>?_,λj L=>?_,Zaa⟩
  .show get F1 64=_
   grind
  .rw[List.append_assoc]at r2;rw[List.drop_eq_getElem_cons z];exact r2
  .rw[r4 s T,J s Zaa Zaa,g5 s Zaa Zaa,e3 s Zaa]
  have:=p.len;rw[r5 j L,keep j Zaa λoff m h=>by have:=(C off m h).1;omega]
end
structure P2(t:Trace)(out:List (List Bool))(l:List bf)(F:Frame)(H:bp):Prop where
 f2:get F 2=.hptr 0 0 0
 h0:H[0]?=some (.row 1 [cells t])
 ns:∃B o ids id,nu H (get F 5) o ids (kL out)/\(out≠[]->1<=o/\o<B)/\(∀id∈ids,1<=id/\id<B)/\1<=B/\B<=H.length/\kY H (get F 7) (l.map cells) id/\∀off m,get F 7=.hsl id 2 off m->B<=id
theorem Uk(out:aZ (aZ X'))(p j:Nat)(row:aZ X'):kL (out.set p (row.set j true))=(kL out).set p ((row.map V.bool).set j (.bool true)):=by simp[kL]
theorem KI{out:aZ (aZ X')}:kL out=[]↔out=[]:=by simp[kL]
theorem Ts{a:bf->a_ (Sl bf)}{out:aZ (aZ X')}{y:bf}{rest:aZ bf}{w:Fw (aZ (aZ X')×aZ bf) (aZ (aZ X')) Empty}(h:p9 a (out,y::rest)=some w):
 ∃(p j:Nat)(row:aZ X')(b:X'),y.proc=p/\y.index=j/\out[p]?=some row/\row[j]?=some b/\((b=true/\w=.n (out,rest))\/(b=false/\∃more,a y=some more/\rest.length+more.l.length<=2147483648/\w=.n (out.set p (row.set j true),rest++more.l))):=by
 simp only[p9]at h;split at h
 .have⟨row,h1,h⟩:=ζg.1 h;have⟨b,u,h⟩:=ζg.1 h;refine⟨y.proc.toNat,y.index.toNat,row,b,Zaa,Zaa,h1,u,?_⟩
  cases b with
  |true=>simp[bl]at h;grind|false=>
   have⟨more,z,h⟩:=ζg.1 h
   grind
 simp_all
theorem Oh{E:Env}{N:Nat->Y'}{t:Z4}{f:bf->a_ (Sl bf)}(hd:E.keep (N 155)=true)(hD:IP E N t f):∀(k:Nat)(out:aZ (aZ X'))(l:aZ bf)(D:aZ (aZ X'))(F:WP)(H:bp),
 kn (p9 f) k (out,l)=some (.x D)->P2 t out l F H->∃F' H',mX E N L2 F H (.exit 2) F' H'/\P2 t D [] F' H':=by
 intro k
 induction k with
 |zero=>intro out l D F H h;simp[kn]at h|succ k ih=>
  intro out l D F H h p;have⟨B,o,ids,id,n1,n2,Y,n4,n5,t7,t8⟩:=p.ns;have⟨F1,e1,e2,e3⟩:=x8 (E:=E) (N:=N) (call:=⟨0,λ_ _ _=>none⟩) t7
  rw[List.length_map]at e2
  cases l with
  |nil=>
   simp only[kn,p9]at h;cases h;refine⟨F1,H,mX.stop (Ex.uR (Ex.seq (Ex.dw λc=>e1) (Ex.qI ?_ Ex.exit)) Zab) Zab,?_⟩
   .show get F1 35=_;rw[e2];simp
   exact⟨by rw[e3 2 Zaa];exact p.f2,p.h0,B,o,ids,id,by rw[e3 5 Zaa];exact n1,n2,Y,n4,n5,by rw[e3 7 Zaa];exact t7,by rw[e3 7 Zaa];exact t8⟩
  |cons y rest=>
   simp only[kn]at h
   cases J:p9 f (out,y::rest)with
   |none=>rw[J]at h;cases h|some w=>
   rw[J]at h;have⟨q,j,row,b,hq,hj,u,hb,L⟩:=Ts J;have O:kY H (get F1 7) (cells y::rest.map cells) id:=by rw[e3 7 Zaa];exact t7
   have⟨F2,g1,g2,g3⟩:=x9 (E:=E) (N:=N) (call:=⟨0,λ_ _ _=>none⟩) O
   have aa:kY (H++[.row 2 [cells y]]) (get F2 7) (cells y::rest.map cells) id:=by rw[g3 7 Zaa Zaa];exact O.more _
   have⟨r,i1,i2,⟨G,m1,ab,i3,i4⟩,K⟩:=x10 (E:=E) (N:=N) (call:=⟨0,λ_ _ _=>none⟩) aa
   have Q:(H++[Ob.row 2 [cells y]])[H.length]?=some (.row 2 [cells y]):=Zab
   have M:get r 8=.hptr H.length 0 0:=by rw[K 8 Zaa Zaa];exact g2
   have f5:get r 5=get F 5:=by rw[K 5 Zaa Zaa,g3 5 Zaa Zaa,e3 5 Zaa]
   have P:get r 2=.hptr 0 0 0:=by rw[K 2 Zaa Zaa,g3 2 Zaa Zaa,e3 2 Zaa];exact p.f2
   have S:nu (H++[.row 2 [cells y]]) (get r 5) o ids (kL out):=by rw[f5];exact n1.more _
   have hr:(kL out)[q]?=some (row.map V.bool):=by simp[kL,u]
   have hu:(row.map V.bool)[j]?=some (.bool b):=by simp[hb]
   have T:B<=id:=by have:get F 7=.hsl id 2 G m1:=(by rw[<-i3,g3 7 Zaa Zaa,e3 7 Zaa]);exact t8 _ _ this
   have⟨R,j1,j2,z⟩:=Yv (E:=E) (N:=N) (call:=⟨0,λ_ _ _=>none⟩) M Q S hq hj hr hu
   have ad:bz N F1 (.s 35)=.bool true:=by show get F1 35=_;rw[e2];simp
   rcases L with⟨rfl,rfl⟩|⟨rfl,more,v,aq,rfl⟩
   .simp only at h;have U:P2 t out rest R (H++[.row 2 [cells y]]):=by
     refine⟨by rw[z 2 Zaa];exact P,by rw[List.getElem?_append_left (ζe.1 p.h0).1];exact p.h0,B,o,ids,id,by rw[z 5 Zaa];exact S,n2,Y,n4,by simp;omega,by rw[z 7 Zaa];exact i2,λoff m _=>T⟩
    have⟨F',H',r1,r2⟩:=ih out rest D R _ h U;exact⟨F',H',mX.step (Ex.seq (Ex.seq (Ex.dw λc=>e1) (Ex.om ad Ex.skip)) (Ex.wu (Ex.seq (Ex.dw λc=>g1) (Ex.seq (Ex.dw λc=>i1) (Ex.uR (Ex.seq (Ex.qK rfl λc=>j1) (Ex.om j2 Ex.exit)) Zab))))) r1,r2⟩
   simp only at h;have n6:nu (H++[.row 2 [cells y]]) (get R 5) o ids (kL out):=by rw[z 5 Zaa];exact S
   have⟨F5,C,k1,k2,k3,k4,k5⟩:=x12 (E:=E) (N:=N) (call:=⟨0,λ_ _ _=>none⟩) (by rw[z 8 Zaa];exact M) Q n6 hq hj hr hu
   have I:∀i,B<=i->i∉ids:=λi hi v=>by have:=(Y i v).2;omega
   have ah:C[H.length]?=some (.row 2 [cells y]):=by rw[k4 _ (I _ n5)];exact Q
   have W:C[0]?=some (.row 1 [cells t]):=by rw[k4 0 (λv=>by have:=(Y 0 v).1;omega),List.getElem?_append_left (ζe.1 p.h0).1];exact p.h0
   have⟨w9,X,ai,aj,m2,m3,_⟩:=x13 (a:=0) (d:=0) (F:=F5) hd hD v (by rw[k5 2 Zaa,z 2 Zaa];exact P) W ah
   have⟨Z,⟨nn,ak⟩,ae,o3⟩:=m3 (by rw[k5 8 Zaa,z 8 Zaa];exact M)
   have au:C.length=H.length+1:=by rw[k3];simp
   have i7:get Z 7=.hsl id 2 ab (rest.map cells).length:=by rw[o3 7 Zaa Zaa,k5 7 Zaa,z 7 Zaa];exact i4
   have ar:id<H.length:=by have:=O.lt (off:=G) (m:=m1) (by rw[<-i3,g3 7 Zaa Zaa]);exact this
   have t6:kY (C++X) (get Z 7) (rest.map cells) id:=by have:get Z 7=get r 7:=(by rw[o3 7 Zaa Zaa,k5 7 Zaa,z 7 Zaa]);rw[this];refine(i2.heap (H':=C) λoff n _=>k4 id (I id T)).more X
   have al:∃g,(∀c,cK E N c none Fv Z (C++X)=some (g,C++X))/\get g 10=.int .i64 ((0:Nat):Int)/\∀s,s<10->get g s=get Z s:=⟨set Z 10 (.int .i64 0),λc=>by simp[Fv,cK,bK,bz,bq,bu],Zab,λs hs=>by rw[bA,if_neg Zaa]⟩
   have⟨g,u1,u2,x⟩:=al;have am:P3 (rest.map cells) (more.l.map cells) B 0 g (C++X):=by refine⟨u2,⟨ai,by rw[x 9 Zaa,ae];exact aj,id,by rw[x 7 Zaa];exact t6,λoff m hh=>⟨T,λaf m' h'=>?_⟩⟩,by simp;omega⟩;rw[x 9 Zaa,ae]at h';have:=m2 af m' h';omega
   have⟨A,H8,v1,⟨an,v2,v3⟩,v4,v5,v6⟩:=ZB (E:=E) (N:=N) (more.l.map cells) B (by simp;omega) (more.l.map cells).length 0 (rest.map cells) g (C++X) Zaa (by simp;omega) am
   have ao:nu H8 (get A 5) o ids (kL (out.set q (row.set j true))):=by have h5:get A 5=get F5 5:=(by rw[v4 5 Zaa,x 5 Zaa,o3 5 Zaa Zaa]);rw[h5,Uk];refine(k2.more X).heap (λap=>v5 o ?_) λi hi=>v5 i (Y i hi).2;have:out≠[]:=(by intro e;subst e;simp at u);exact(n2 this).2
   have U:P2 t (out.set q (row.set j true)) (rest++more.l) A H8:=by refine⟨by rw[v4 2 Zaa,x 2 Zaa,o3 2 Zaa Zaa,k5 2 Zaa,z 2 Zaa];exact P,?_,B,o,ids,an,ao,λap=>n2 (by intro e;subst e;simp at u),Y,n4,by simp at v6;omega,?_,v3⟩;rw[v5 0 Zaa,List.getElem?_append_left (ζe.1 W).1];exact W;rw[List.drop_zero]at v2;rw[map_append];exact v2
   have⟨F',H',w1,w2⟩:=ih _ _ D A H8 h U;exact⟨F',H',mX.step (Ex.seq (Ex.seq (Ex.dw λc=>e1) (Ex.om ad Ex.skip)) (Ex.block (Ex.seq (Ex.dw λc=>g1) (Ex.seq (Ex.dw λc=>i1) (Ex.seq (Ex.seq (Ex.qK rfl λc=>j1) (Ex.qI j2 Ex.skip)) (Ex.seq (Ex.qK rfl λc=>k1)
    (Ex.seq (Ex.ops ⟨nn,ak⟩) (Ex.seq (Ex.dw u1) (Ex.wu (Ex.loop v1)))))))))) w1,w2⟩
theorem Vn{H:bp}{Z:Nat->Prop}{id:Nat}{r:aZ X'}(D:Z id)(h:H[id]?=some (.row 1 (jT (r.map V.bool)))):FR H Z (enc (Sl.row r)) (.hsl id 1 0 r.length):=by
 have e:bt H id=some (1,jT (r.map V.bool)):=by simp[bt,h,Ob.rows]
 have C:enc (Sl.row r)=.fsl 1 (rows r):=rfl;have G:(rows r).length=r.length:=by simp[rows]
 have f:jT (r.map V.bool)=rows r:=by simp[jT,rows,Function.comp_def]
 rw[f]at e;rw[C,<-G];refine .fsl 1 (rows r) id 0 (rows r) D e Zaa (λi a b d w=>?_) (λi j a b u v d w z B=>?_);grind;rw[zero_add,d]at w;cases w;rw[z]at B;cases B;refine .same u ?_;obtain⟨c,I,rfl⟩:∃c∈r,a=[V.bool c]:=by have:=mem_of_getElem? d;simp only[rows,mem_map]at this;obtain⟨c,f,rfl⟩:=this;simp_all
 have:=mem_of_getElem? z;simp at this;subst this;rfl
theorem SD{H:bp}{w:V}{o:Nat}{ids:S'}{out:aZ (aZ X')}(n:nu H w o ids (kL out)):∃Z,FR H Z (enc (nested out)) w/\(∀id,Z id->(bt H id).isSome=true)/\Deep H Z:=by
 have f:=n.v;by_cases O:out=[];subst O;rw[if_pos (show kL []=[]from rfl)]at f;subst f;exact⟨λ_=>False,.same _ rfl,λ_ h=>h.elim,⟨λ_ _ _ h=>h.elim⟩⟩;have G:kL out≠[]:=λh=>O (KI.1 h);rw[if_neg G,x_]at f;subst f;have Q:=n.ob G;have I:=n.len;rw[x_]at I;have B:∀(i id:Nat)(r:aZ X'),ids[i]?=some id->out[i]?=some r->H[id]?=some (.row 1 (jT (r.map V.bool))):=λi id r e D=>n.r i id _ e (by simp[kL,D]);have C:∀(i:Nat)(c:T2),(refs ids (kL out))[i]?=some c->∃id r,ids[i]?=some id/\out[i]?=some r/\c=[.hsl id 1 0 r.length]:=λi c h=>by have hi:=(ζe.1 h).1;rw[u7 n.len,x_]at hi;have e:=ζd (show i<ids.length from Zaa);have D:=ζd hi;have S:=D2 (rows:=kL out) (r:=out[i].map V.bool) e (by simp[kL,D]);grind
 have J:bt H o=some (1,refs ids (kL out)):=by simp[bt,Q,Ob.rows]
 have L:∀id∈ids,∃(r:aZ X'),H[id]?=some (.row 1 (jT (r.map V.bool))):=λid z=>by have⟨i,hi⟩:=List.getElem?_of_mem z;have T:=(ζe.1 hi).1;exact⟨_,B i id _ hi (ζd (show i<out.length from Zaa))⟩
 refine⟨λid=>id=o\/id∈ids,?_,λid h=>?_,⟨λid es ys h d c hc u hu=>?_⟩⟩;have Y:enc (nested out)=.fsl 1 (rows (out.map Sl.row)):=by rw[nested,if_neg O];rfl
 have T:(rows (out.map Sl.row)).length=out.length:=by simp[rows]
 rw[Y,<-T];refine .fsl 1 _ o 0 (refs ids (kL out)) (.inl rfl) J (by rw[T,u7 n.len,x_];omega) (λi a b e D=>?_) (λi j a b u v e D S X=>?_);rw[zero_add]at D;obtain⟨id,r,_,d,rfl⟩:=C i b D;simp[rows,d]at e;subst e;rfl;rw[zero_add]at D;obtain⟨id,r,z,d,rfl⟩:=C i b D;have g:a=[enc (Sl.row r)]:=by simp[rows,d]at e;exact e.symm
 subst g;cases j with|zero=>simp at S X;subst S X;exact Vn (.inr (mem_of_getElem? z)) (B i id r z d)|succ j=>simp_all
 rcases h with rfl|h;simp_all;have⟨r,d⟩:=L id h;simp[bt,d,Ob.rows];rcases h with rfl|h;rw[J]at d;cases d;have⟨i,hi⟩:=List.getElem?_of_mem hc;obtain⟨id,r,z,U,rfl⟩:=C i c hi;simp at hu;subst hu;exact⟨_,Vn (.inr (mem_of_getElem? z)) (B i id r z U)⟩;have⟨r,W⟩:=L id h;have:bt H id=some (1,jT (r.map V.bool)):=by simp[bt,W,Ob.rows]
 rw[this]at d;cases d;simp only[jT,mem_map]at hc;obtain⟨_,⟨c',_,rfl⟩,rfl⟩:=hc;simp at hu;subst hu;exact⟨_,.same _ rfl⟩
theorem V2{t:Z4}{x:bf}{out:aZ (aZ X')}{s:Sl bf}{b:bf->a_ (Sl bf)}(hd:xZ.keep (yX 155)=true)(W:IP xZ yX t b)(U:Bt t=true)(f:b x=some s)(g:bS (p9 b) (iq t,s.l)=some (.x out)):
 BF xZ (yX 114) [enc t,enc x] (enc (nested out)):=by
 have⟨fi,g1,g2,g3,g4⟩:=shape;have⟨k,j⟩:=pN.1 g;have l:∃F1,(∀c,cK xZ yX c none r1 [enc t,enc x] []=some (F1,[.row 1 [cells t],.row 2 [cells x]]))/\get F1 2=.hptr 0 0 0/\get F1 3=.hptr 1 0 0:=by refine⟨_,λc=>kC (v:=.hptr 0 0 0) (H1:=[.row 1 [cells t]]) rfl ?_<|kC (v:=.hptr 1 0 0) (H1:=[.row 1 [cells t],.row 2 [cells x]]) rfl ?_<|vp (v:=.bO) rfl ?_ eA,?_,?_⟩;show(iU .box [enc t]).map _=_;simp only[iU,l_,rY,if_true,Option.map_some,gH];rfl;simp only[bK,map_cons,map_nil,bz,bu,bA,reduceEqDiff,if_false];show(iU .box [enc x]).map _=_;simp only[iU,l_,rY,if_true,Option.map_some,gH];rfl;simp[bK,bz,bq];simp[bu];simp[bu]
 have⟨F1,p,q,r⟩:=l;have y:∃I,(∀c,cK xZ yX c none r2 F1 [.row 1 [cells t],.row 2 [cells x]]=some (set F1 5 .bO,[.row 1 [cells t],.row 2 [cells x]]))/\(∀c,cK xZ yX c none r3 (set F1 5 .bO) [.row 1 [cells t],.row 2 [cells x]]=some (I,[.row 1 [cells t],.row 2 [cells x]]))/\P1 t x 0 I [.row 1 [cells t],.row 2 [cells x]]:=by refine⟨set (set F1 5 .bO) 6 (.int .i64 0),λc=>by simp[r2,cK,bK,bz,bq,bu],λc=>by simp[r3,cK,bK,bz,bq,bu],by simp[q],by simp[r],Zab,rfl,rfl,0,[],?_,λh=>absurd rfl h,λid h=>by simp at h⟩;have:get (set (set F1 5 .bO) 6 (.int .i64 0)) 5=.bO:=Zab;rw[this,List.take_zero];exact nu.nil _ 0
 have⟨I,A,H,K⟩:=y;have⟨M,Q,e1,e2⟩:=OU (E:=xZ) (N:=yX) U t.procs.l.length 0 I _ Zaa K
 have⟨o,ids,J,P,R⟩:=e2.ns;have S:(iq t).length=t.procs.l.length:=by simp[iq]
 rw[List.take_of_length_le Zaa]at J
 have⟨w,X,id,m1,m2,_,m4⟩:=x13 (a:=0) (d:=0) (F:=M) (E:=xZ) (N:=yX) hd W f e2.f2 e2.h0 (c:=1) e2.h1;have⟨T,o1,o2,o3⟩:=m4 e2.f3;have O:P2 t (iq t) s.l T (Q++X):=by refine⟨by rw[o3 2 Zaa Zaa];exact e2.f2,by rw[List.getElem?_append_left (ζe.1 e2.h0).1];exact e2.h0,Q.length,o,ids,id,by rw[o3 5 Zaa Zaa];exact J.more X,λu=>?_,λi hi=>⟨by have:=R i hi;omega,J.lt.2 i hi⟩,?_,Zab,by rw[o2];exact m1,λoff m h=>?_⟩;have z:kL (iq t)≠[]:=λh=>u (KI.1 h);have:t.procs.l.length≠0:=(by intro h;apply u;exact List.eq_nil_of_length_eq_zero Zaa);have:=P this;exact⟨Zaa,J.lt.1 z⟩;have:=(ζe.1 e2.h0).1;omega;rw[o2]at h;have:=m2 off m h;omega
 have⟨C,L,p1,p2⟩:=Oh hd W k _ _ out T _ j O;have⟨B,o',Y,aa,V,_⟩:=p2.ns;have l1:∃D,(∀c,cK xZ yX c none r18 C L=some (D,L))/\get D 4=get C 5:=by refine⟨_,λc=>vp (v:=get C 5) rfl ?_<|vp (v:=get C 5) rfl ?_ eA,?_⟩;simp[bK,bz,bq];simp[bK,bz,bq,bu];simp[bu]
 have⟨D,y1,y2⟩:=l1;have e:Ex xZ yX code [enc t,enc x] [] .ret D L:=Ex.seq (Ex.dw p) (Ex.seq (Ex.dw A) (Ex.seq (Ex.seq (Ex.dw H) (Ex.wu (Ex.loop e1))) (Ex.seq (Ex.ops o1) (Ex.seq (Ex.wu (Ex.loop p1)) (Ex.seq (Ex.dw y1) Ex.ret)))))
 have⟨n,G⟩:=e.run (nm:=some) u9 g1 g2 (show[enc t,enc x].length<=fi.ntmps from g3) (vs:=[get D 4]) (by rw[g4];rfl)
 have⟨Z,z1,z2,z3⟩:=SD V;exact⟨n,get C 5,L,Z,by rw[G,y2];rfl,z1,z2,z3⟩
theorem YJ(l:aZ bf):∀c∈l.map (cells (α:=bf)),c.length=2/\c.all V.one=true/\c.all V.scalar=true:=λc a=>by obtain⟨e,_,rfl⟩:=mem_map.1 a;exact⟨rfl,rfl,rfl⟩
theorem ZW(t:Z4):IP xZ yX t (ec t):=by
 intro y s H B;have d:=A4 t y;have I:=d (cG s) (by rw[B];rfl);have b:V.cI [enc t,enc y]=true:=by simp only[V.cI,j8,Bool.and_self]
 have w:s.k=.row\/s.k=.nil/\rows s.l=[]:=by have D:∀o z,(∃l,o=.row l)\/o=.nil->ec.J1 o t y=some z->(∃l,z=.row l)\/z=.nil:=λo z J u=>(by unfold ec.J1 at u;have⟨e,_,u⟩:=ζg.1 u;cases G:e.kind==3 with|true=>rw[G]at u;have⟨f,_,u⟩:=ζg.1 u;have⟨q,C,u⟩:=ζg.1 u;cases u;unfold gw at C;split at C;cases C;exact .inl ⟨_,rfl⟩;cases C|false=>rw[G]at u;cases u;exact J);have:(∃l,s=.row l)\/s=.nil:=(by unfold ec at B;cases a:decide (y.index>1)with|true=>rw[a]at B;exact D _ s (.inl ⟨_,rfl⟩) B|false=>rw[a]at B;exact D _ s (.inr rfl) B);rcases this with⟨l,rfl⟩|rfl;exact .inl rfl;exact .inr ⟨rfl,rfl⟩
 have⟨n,z,H',r1,r2⟩:=Zq IU Cu (T:=Tx) (f:=yX 155) (rf:=sq (Tx 155)) Zae b (Nat.le_of_ble_eq_true Zae) (k:=s.k) (es:=2) (xs:=rows s.l) (λc a=>(YJ s.l c a).2.2) w I;refine KL (l:=s.l.map cells) (y:=z) (H1:=H') Zae b (YJ s.l) ⟨n,λk g=>(n9 _ g).go _ _ _ _ r1⟩ ?_ H;rcases r2 with⟨L,rfl⟩|⟨id,rfl,O⟩;left;cases s<;>simp[Sl.k]at L;exact⟨rfl,rfl⟩;right;exact⟨id,by simp[rows],O⟩
end pastX
theorem Tt(t:Z4)(x:bf)(r:Sl (Sl X'))(h:oI t x=some r):Sy.yH 114 [enc t,enc x]=some (enc r):=by
 unfold oI at h;split at h;rename_i u;have⟨s,z,h⟩:=ζg.1 h;have⟨w,B,h⟩:=ζg.1 h;cases w with|n a=>exact elim a|r e=>exact elim e|x out=>cases h;exact BT (pastX.V2 Zae (pastX.ZW t) u z B)
 cases h
noncomputable section
def yg:a_ X':=some true
instance Xu:Fc Sy cL yg:=⟨10,[],λr:X'=>[.bool r],true,hG.yH Zae Zae Qd⟩
namespace gB
def br(s0:Sl WF)(D:Int)(B:Int)(p1:WF->a_ X'):a_ (Fw Int Unit Int):=bl (decide (B<D)) ((idx s0 B).bind λu=>(p1 u).bind λw=>bl w (some (.r B)) (some (.n (wrap .i64 (B+1))))) (some (.x ()))
def W1(s0:Sl WF)(B D:Int)(p1:WF->a_ X'):QQ:=(bS (λq:Int=>br s0 B q p1) D).bind (Fw.elim (λe=>some (-1)) (λe=>some e))
end gB
def gB(s0:Sl WF)(p1:WF->a_ X'):QQ:=gB.W1 s0 (len s0) 0 p1
open gB in
abbrev xK(g1:FuncId)(e1:aZ V)(p1:Event->a_ Bool)(a:lW Sy cL g1 [] e1 (λz:Event=>[enc z]) (λr:Bool=>[.bool r]) p1 true)(s0:Sl Event):Fc Sy cL (gB s0 p1):=Fc.M 118 [enc s0,.clo g1 [] e1] (bZ 9 s0 (dZ 5 (λw=>(bL [Cv 0 s0,(1,.v (.clo g1 [] e1)),Iv 7 (len s0),Iv 8 w] [])) (λu=>(0,(bL [] []))) (λu=>(bL [Iv 4 u] [])) (λw=>bB 7 9 (bP 16 λB _=>yJ 1 a.f B λC _=>bB 2 16 bh bh) bh) (λu=>bh) (λu=>bh)))
def gE(s0:Sl WF)(p1:WF->a_ X'):a_ X':=(gB s0 p1).bind λu=>some (decide (u>=0))
abbrev lT(g1:FuncId)(e1:aZ V)(p1:Event->a_ Bool)(a:lW Sy cL g1 [] e1 (λz:Event=>[enc z]) (λr:Bool=>[.bool r]) p1 true)(s0:Sl Event):Fc Sy cL (gE s0 p1):=Fc.M 79 [enc s0,.clo g1 [] e1] (bG (F:=xK g1 e1 p1 a s0) 9 λu _=>bh)
def nU(B:WF):a_ X':=some (decide ((len B.assign)>12))
instance RD(B:WF):Fc Sy cL (nU B):=Fc.M 80 [enc B] (cu 2 1 B (bZ 7 B.assign bh))
def qc(B:Int):a_ X':=(bl (decide (B>=65)) (some (decide (B<=90))) (some false):a_ X').bind λu=>(bl u (some true) ((bl (decide (B>=97)) (some (decide (B<=122))) (some false):a_ X').bind λw=>some w):a_ X').bind λz=>some z
instance UE(B:Int):Fc Sy cL (qc B):=Fc.M 194 [.int .u8 B] (ck 10 3 [5] 8 (bB 10 5 (bF 3) (bF 3)) λu=>ck 1 7 [0,9] 16 (bB 1 9 (bF 7) (ck 3 3 [0,12] 15 (bB 3 12 (bF 3) (bF 3)) λw=>bF 1)) λz=>bh)
def uz(B:Int):a_ X':=(bl (decide (B>=48)) (some (decide (B<=57))) (some false):a_ X').bind λu=>some u
instance VO(B:Int):Fc Sy cL (uz B):=Fc.M 195 [.int .u8 B] (ck 10 3 [0,5] 8 (bB 10 5 (bF 3) (bF 3)) λu=>bh)
namespace iF
def br(s0:U')(i3:Int):a_ (Fw Int Unit Unit):=bl (decide (i3<((ByteArray.size s0:Nat):Int))) ((lY s0 i3).bind λz=>(qc z).bind λB=>(bl B (some false) ((lY s0 i3).bind λC=>(uz C).bind λD=>some (!D)):a_ X').bind λG=>(bl G ((lY s0 i3).bind λu=>some (!(u==95))) (some false):a_ X').bind λw=>bl w (some (.r ())) (some (.n (wrap .i64 (i3+1))))) (some (.x ()))
def W1(s0:U')(i3:Int):a_ X':=(bS (λq:Int=>br s0 q) i3).bind (Fw.elim (λe=>some true) (λe=>some false))
end iF
def iF(s0:U'):a_ X':=(bl (decide (((ByteArray.size s0:Nat):Int)<1)) (some true) (some (decide (((ByteArray.size s0:Nat):Int)>16))):a_ X').bind λu=>(bl u (some true) ((lY s0 0).bind λw=>(qc w).bind λz=>some (!z)):a_ X').bind λB=>bl B (some false) (iF.W1 s0 1)
open iF in
instance XC(s0:U'):Fc Sy cL (iF s0):=Fc.M 152 [.str s0] (ck 12 4 [7] 11 (bB 12 7 (bF 4) (bF 4)) λC=>ck 1 5 [12] 17 (bB 1 12 (bF 5) (BQ 1 .i64 λD _=>bG 0 λG _=>bF 2)) λI=>bB 2 17 bh (dZ 11 (λw=>(bL [(0,.v (.str s0)),Iv 3 w] [])) (λu=>(0,(bL [] []))) (λu=>(bL [Bv 2 false] [])) (λw=>bB 10 21 (BQ 9 .i64 λJ _=>bG 0 λL _=>ck 2 6 [29] 35 (cZ 2 29 (bF 6) (BQ 2 .i64 λO _=>bG 0 λQ _=>bF 2)) λS=>ck 1 5 [36] 41 (bB 1 36 (BQ 2 .i64 λz _=>bF 2) (bF 5)) λB=>bB 2 41 bh bh) bh) (λu=>bh) (λu=>bh)))
def ri(B:Int):a_ X':=(bl (decide (B>=(-1073741824))) (some (decide (B<=1073741824))) (some false):a_ X').bind λu=>some u
instance WD(B:Int):Fc Sy cL (ri B):=Fc.M 153 [.int .i64 B] (ck 10 3 [0,5] 8 (bB 10 5 (bF 3) (bF 3)) λu=>bh)
namespace eN
def fe(G:Int)(B:bX)(D:Int):a_ (Fw Int Unit Unit):=bl (decide (D<G)) ((idx B.vars D).bind λu=>(idx B.vars G).bind λw=>bl (toList u.name==toList w.name) (some (.r ())) (some (.n (wrap .i64 (D+1))))) (some (.x ()))
def W3(D G:Int)(B:bX):a_ (Fw Int Unit Int):=(bS (λq:Int=>fe D B q) G).bind (Fw.elim (λe=>(idx B.vars D).bind λu=>(ri u.init_).bind λw=>bl w (some (.n (wrap .i64 (D+1)))) (some (.r 2))) (λe=>some (.r 13)))
def bT(B:bX)(D:Int):a_ (Fw Int Unit Int):=bl (decide (D<(len B.vars))) ((idx B.vars D).bind λu=>(iF u.name).bind λw=>bl w (W3 D 0 B) (some (.r 13))) (some (.x ()))
def W2(D:Int)(B:bX):QQ:=(bS (λq:Int=>bT B q) D).bind (Fw.elim (λe=>bl (decide ((len B.events)>64)) (some 5) (some 0)) (λe=>some e))
def br(p1:Int)(B:Z4)(D:bX)(G:Int):a_ (Fw Int Unit Unit):=bl (decide (G<p1)) ((idx B.procs G).bind λu=>bl (toList u.name==toList D.name) (some (.r ())) (some (.n (wrap .i64 (G+1))))) (some (.x ()))
def W1(p1 G:Int)(D:Z4)(B:bX):QQ:=(bS (λq:Int=>br p1 D B q) G).bind (Fw.elim (λe=>bl (decide ((len B.vars)>8)) (some 5) (eN.W2 0 B)) (λe=>some 13))
end eN
def eN(B:Z4)(p1:Int):QQ:=(idx B.procs p1).bind λu=>(iF u.name).bind λw=>bl w (eN.W1 p1 0 B u) (some 13)
open eN in
instance Xy(J:Z4)(p1:Int):Fc Sy cL (eN J p1):=Fc.M 110 [enc J,.int .i64 p1] (cu 2 2 J (bP 8 λu _=>pM 2 5 0 u (bG 7 λI _=>cZ 3 17 (dZ 11 (λD=>(bL [Iv 1 p1,Pv 2,Pv 5,Iv 6 D] [Xb 2 J,Xb 5 u])) (λB=>(0,(bL [Pv 5] [Xb 5 u]))) (λB=>(bL [Iv 4 13] [])) (λD=>bB 9 20 (bP 10 λL _=>bB 7 31 bh bh) bh) (λB=>bZ 7 u.vars (bB 3 35 bh (dZ 11 (λw=>(bL [Pv 5,Iv 7 w] [Xb 5 u])) (λz=>(2,(bL [Pv 5] [Xb 5 u]))) (λz=>(bL [Iv 4 z] [])) (λw=>bZ 7 u.vars (bB 3 40 (bP 11 λO _=>bG 2 λQ _=>cZ 3 50 (dZ 11 (λG=>(bL [Pv 5,Iv 7 w,Iv 8 G] [Xb 5 u])) (λC=>(4,(bL [Pv 5,Iv 7 w] [Xb 5 u]))) (λC=>(bL [Iv 4 13] [])) (λG=>bB 9 53 (bP 10 λS _=>bP 5 λT _=>bB 5 68 bh bh) bh) (λC=>bP 7 λU _=>bG 2 λW _=>cZ 3 76 bh bh) (λC=>bh)) bh) bh)) (λz=>bZ 7 u.events (bB 3 80 bh bh)) (λz=>bh)))) (λB=>bh)) bh)))
namespace eM
def fe(p1 k8:Int)(J:Z4)(D:WF)(G:Assign)(B:Int):a_ (Fw Int Unit Unit):=bl (decide (B<k8)) ((idx D.assign B).bind λu=>bl (u.var==G.var) (some (.r ())) (some (.n (wrap .i64 (B+1))))) (some (.x ()))
def W3(p1 k8 B:Int)(D:Z4)(G:WF)(J:Assign):a_ (Fw Int Unit Int):=(bS (λq:Int=>fe p1 k8 D G J q) B).bind (Fw.elim (λe=>some (.n (wrap .i64 (k8+1)))) (λe=>some (.r 8)))
def bT(p1:Int)(D:Z4)(B:WF)(k8:Int):a_ (Fw Int Unit Int):=bl (decide (k8<(len B.assign))) ((idx B.assign k8).bind λu=>(bl (decide (u.var<0)) (some true) ((idx D.procs p1).bind λw=>some (decide (u.var>=(len w.vars)))):a_ X').bind λz=>(bl z (some true) ((ri u.value).bind λC=>some (!C)):a_ X').bind λG=>bl G (some (.r 2)) (W3 p1 k8 0 D B u)) (some (.x ()))
def W2(p1 k8:Int)(B:Z4)(D:WF):QQ:=(bS (λq:Int=>bT p1 B D q) k8).bind (Fw.elim (λe=>some 0) (λe=>some e))
def J1(p1 i2:Int)(D:Z4)(B:WF):QQ:=(bl (decide (B.time<0)) (some true) (some (decide (B.time>1099511627776))):a_ X').bind λu=>(bl u (some true) ((bl (decide (i2>0)) ((idx D.procs p1).bind λw=>(idx w.events (wrap .i64 (i2-1))).bind λz=>some (decide (B.time<z.time))) (some false):a_ X').bind λC=>some C):a_ X').bind λG=>bl G (some 11) (bl (decide ((len B.assign)>8)) (some 5) (eM.W2 p1 0 D B))
theorem qC(p1 i2:Int)(D:Z4)(B:WF):Le ((J1 p1 i2 D B).bind (λr=>some [.int .i64 r])) (cg Sy cL (qZ (tr Tx 111)) (uJ (tb Tx 111) [1,1,1,0] [] (bL [Iv 1 p1,Iv 2 i2,Pv 3,Pv 7] [Xb 3 D,Xb 7 B]))):=ck 7 4 [71] 75 (bB 7 71 (bF 4) (bF 4)) λL=>ck 1 19 [2,76] 95 (bB 1 76 (bF 19) (ck 3 15 [2,79] 94 (bB 3 79 (bP 5 λO _=>bP 4 λQ _=>bF 4) (bF 15)) λS=>bF 1)) λT=>bB 2 95 bh (bZ 8 B.assign (bB 3 99 bh (dZ 11 (λu=>(bL [Iv 1 p1,Pv 3,Pv 7,Iv 8 u] [Xb 3 D,Xb 7 B])) (λw=>(0,(bL [] []))) (λw=>(bL [Iv 6 w] [])) (λu=>bZ 7 B.assign (bB 3 104 (bP 10 λz _=>ck 12 11 [115] 126 (bB 12 115 (bF 11) (bP 5 λI _=>bZ 2 I.vars (bF 2))) λU=>vI 1 5 [130] (λC=>(bL [Iv 1 p1,Pv 3,Pv 7,Iv 8 u,Bv 104 true,Pv 9,Bv 132 C] [Xb 3 D,Xb 7 B,Xb 9 z])) (bB 1 127 (bF 5) (cV 2 λW _=>bF 2)) λC=>bB 2 132 bh (dZ 10 (λJ=>(bL [Iv 1 p1,Pv 3,Pv 7,Iv 8 u,Pv 9,Iv 10 J] [Xb 3 D,Xb 7 B,Xb 9 z])) (λG=>(2,(bL [Iv 1 p1,Pv 3,Pv 7,Iv 8 u] [Xb 3 D,Xb 7 B]))) (λG=>(bL [Iv 6 8] [])) (λJ=>bB 9 135 (bP 10 λX _=>bB 7 146 bh bh) bh) (λG=>bh) (λG=>bh))) bh)) (λw=>bh) (λw=>bh))))
end eM
def eM(B:Z4)(p1 i2:Int):QQ:=(idx B.procs p1).bind λw=>(idx w.events i2).bind λu=>bl (u.kind==1) ((bl (u.peer==0) (some (!(u.message==0))) (some true):a_ X').bind λz=>bl z (some 3) (eM.J1 p1 i2 B u)) ((bl (u.kind==2) (some false) (some (!(u.kind==3))):a_ X').bind λC=>(bl C (some true) (some (decide (u.peer<0))):a_ X').bind λD=>(bl D (some true) (some (decide (u.peer>=(len B.procs)))):a_ X').bind λG=>(bl G (some true) (some (u.peer==p1)):a_ X').bind λI=>(bl I (some true) (some (decide (u.message<0))):a_ X').bind λJ=>(bl J (some true) (some (decide (u.message>199))):a_ X').bind λL=>bl L (some 3) (eM.J1 p1 i2 B u))
open eM in
instance Xz(B:Z4)(p1 i2:Int):Fc Sy cL (eM B p1 i2):=Fc.M 111 [enc B,.int .i64 p1,.int .i64 i2] (cu 2 3 B (bP 8 λw _=>bP 3 λu _=>pM 2 7 0 u (bB 10 22 (ck 7 4 [26] 30 (cZ 7 26 (bF 4) (bF 4)) λz=>bB 2 30 bh (zl 4 (qC p1 i2 B u))) (ck 7 4 [34] 38 (cZ 7 34 (bF 4) (bF 4)) λC=>ck 1 4 [39] 43 (bB 1 39 (bF 4) (bF 4)) λD=>ck 1 7 [44] 51 (bB 1 44 (bF 7) (bZ 4 B.procs (bF 2))) λG=>ck 1 5 [52] 57 (bB 1 52 (bF 5) (bF 5)) λI=>ck 1 4 [58] 62 (bB 1 58 (bF 4) (bF 4)) λJ=>ck 1 4 [63] 67 (bB 1 63 (bF 4) (bF 4)) λL=>bB 2 67 bh (zl 4 (qC p1 i2 B u))))))
namespace jg
def br(G:Z4)(J:bf)(D:WF)(B:X')(U:Int):a_ (Fw (X'×Int) Bool Empty):=(idx G.procs D.peer).bind λw=>bl (decide (U<(len w.events))) ((idx G.procs D.peer).bind λz=>(idx z.events U).bind λu=>(bl B (some true) ((bl (u.kind==2) (some (u.message==D.message)) (some false):a_ X').bind λC=>(bl C (some (u.peer==J.proc)) (some false):a_ X').bind λI=>some I):a_ X').bind λL=>some (.n (L,wrap .i64 (U+1)))) (some (.x B))
def W1(B:X')(U:Int)(D:Z4)(G:bf)(J:WF):QQ:=(bS (λq:X'×Int=>br D G J q.1 q.2) (B,U)).bind (Fw.elim (λe=>bl e (some 0) (some 7)) (λe=>elim e))
end jg
def jg(B:Z4)(D:bf):QQ:=(v_ B D).bind λu=>bl (u.kind==1) (some 0) ((en B u.kind u.message).bind λw=>bl (My w D) (bl (u.kind==3) (jg.W1 false 0 B D u) (some 0)) (some 8))
open jg in
instance UP(B:Z4)(D:bf):Fc Sy cL (jg B D):=Fc.M 112 [enc B,enc D] (cu 2 2 B (bG 8 λw _=>pM 1 5 0 w (bB 10 14 bh (cV 11 λI _=>cZ 4 22 (bB 11 25 (ga 14 (λu=>(bL [Pv 2,Pv 3,Pv 5,Bv 6 u.1,Iv 7 u.2] [Xb 2 B,Xb 3 D,Xb 5 w])) (λz=>(0,(bL [Bv 6 z] []))) (λu=>bP 9 λC _=>bZ 2 C.events (bB 3 35 (bP 11 λJ _=>bP 3 λG _=>pM 2 8 0 G (ck 5 18 [8,49] 67 (bB 5 49 (bF 18) (ck 4 6 [53] 59 (bB 4 53 (bF 6) (bF 6)) λL=>ck 1 6 [8,60] 66 (bB 1 60 (bF 6) (bF 6)) λO=>bF 1)) λQ=>bh)) bh)) (λz=>cZ 8 69 bh bh)) bh) bh))))
namespace eW
def J4(B:Zg)(p5:Int)(D:Z4):a_ (Fw ((Zg)×X') ((Zg)×X') Empty):=(Sl.jR B p5).bind λu=>(Sl.get B u).bind λw=>(Sl.jR B p5).bind λz=>(Sl.put B z (wrap .i64 (w+1):Int)).bind λC=>some (.n (C,true))
def fe(p5:Int)(G:Z4)(B:Zg)(D:X'):a_ (Fw ((Zg)×X') ((Zg)×X') Empty):=(Sl.jR B p5).bind λI=>(Sl.get B I).bind λJ=>(idx G.procs p5).bind λL=>bl (decide (J<(len L.events))) ((idx G.procs p5).bind λO=>(Sl.jR B p5).bind λQ=>(Sl.get B Q).bind λS=>(idx O.events S).bind λu=>bl (u.kind==3) ((en G 2 u.message).bind λw=>(Sl.jR B w.proc).bind λz=>(Sl.get B z).bind λC=>bl (decide (C<w.index)) (some (.x (B,D))) (J4 B p5 G)) (J4 B p5 G)) (some (.x (B,D)))
def W3(D:Zg)(B:X')(p5:Int)(G:Z4):a_ (Fw ((Zg)×X'×Int) ((Zg)×X') Empty):=(bS (λq:(Zg)×X'=>fe p5 G q.1 q.2) (D,B)).bind (Fw.elim (λe=>some (.n (e.1,e.2,wrap .i64 (p5+1)))) (λe=>elim e))
def bT(G:Z4)(D:Zg)(B:X')(p5:Int):a_ (Fw ((Zg)×X'×Int) ((Zg)×X') Empty):=bl (decide (p5<(len G.procs))) (W3 D B p5 G) (some (.x (D,B)))
def W2(D:Zg)(B:X')(p5:Int)(G:Z4):a_ (Fw Zg Zg Empty):=(bS (λq:(Zg)×X'×Int=>bT G q.1 q.2.1 q.2.2) (D,B,p5)).bind (Fw.elim (λe=>bl e.2 (some (.n e.1)) (some (.x e.1))) (λe=>elim e))
def zI(B:Zg)(D:Z4)(G:Int):a_ (Fw Int Unit Unit):=bl (decide (G<(len D.procs))) ((Sl.jR B G).bind λu=>(Sl.get B u).bind λw=>(idx D.procs G).bind λz=>bl (decide (w<(len z.events))) (some (.r ())) (some (.n (wrap .i64 (G+1))))) (some (.x ()))
def W5(B:Zg)(G:Int)(D:Z4):a_ X':=(bS (λq:Int=>zI B D q) G).bind (Fw.elim (λe=>some true) (λe=>some false))
def br(D:Z4)(B:Zg):a_ (Fw Zg Zg Empty):=W2 B false 0 D
def W1(B:Zg)(D:Z4):a_ X':=(bS (λq:Zg=>br D q) B).bind (Fw.elim (λe=>eW.W5 e 0 D) (λe=>elim e))
end eW
def eW(B:Z4):a_ X':=(oL (len B.procs) (0:Int)).bind λu=>eW.W1 u B
open eW in
instance Sg(B:Z4):Fc Sy cL (eW B):=Fc.M 113 [enc B] (cu 2 1 B (bZ 7 B.procs (UT 0 12 λb _=>ga 7 (λO=>(bL [Pv 1,Ov 3] [Xb 1 B,Lb 2003 O])) (λD=>(0,(bL [Pv 1,Ov 3] [Xb 1 B,Lb 2003 D]))) (λO=>ga 17 (λw=>(bL [Pv 1,Ov 3,Bv 4 w.2.1,Iv 5 w.2.2] [Xb 1 B,Lb 2003 w.1])) (λG=>(2,(bL [Pv 1,Ov 3,Bv 4 G.2] [Xb 1 B,Lb 2003 G.1]))) (λw=>bZ 8 B.procs (bB 3 17 (ga 8 (λI=>(bL [Pv 1,Ov 3,Bv 4 I.2,Iv 5 w.2.2] [Xb 1 B,Lb 2003 I.1])) (λJ=>(4,(bL [Pv 1,Ov 3,Bv 4 J.2,Iv 5 w.2.2] [Xb 1 B,Lb 2003 J.1]))) (λI=>kg .i64 7 2003 λc _=>qA 0 2003 0 1 false (λQ=>.int .i64 Q) λQ _=>bP 3 λZ _=>bZ 2 Z.events (bB 3 31 (bP 9 λd _=>kg .i64 4 2003 λe _=>qA 0 2003 0 1 false (λS=>.int .i64 S) λS _=>bP 0 λa _=>pM 2 6 0 a (bB 10 46 (bG 6 λf _=>kg .i64 9 2003 λg _=>qA 0 2003 0 1 false (λz=>.int .i64 z) λz _=>bB 5 58 bh (ud 5 (kg .i64 4 2003 λT _=>qA 0 2003 0 1 false (λu=>.int .i64 u) λu _=>kg .i64 1 2003 λU _=>AR 0 2003 (.int .i64 (wrap .i64 (u+1))) λW _=>bh))) (ud 5 (kg .i64 4 2003 λT _=>qA 0 2003 0 1 false (λu=>.int .i64 u) λu _=>kg .i64 1 2003 λU _=>AR 0 2003 (.int .i64 (wrap .i64 (u+1))) λW _=>bh)))) bh)) (λJ=>bh)) bh)) (λG=>cZ 8 66 bh bh)) (λD=>dZ 11 (λX=>(bL [Pv 1,Ov 3,Iv 8 X] [Xb 1 B,Lb 2003 D])) (λL=>(6,(bL [] []))) (λL=>(bL [Bv 2 false] [])) (λX=>bZ 8 B.procs (bB 3 71 (kg .i64 9 2003 λh _=>qA 0 2003 0 1 false (λC=>.int .i64 C) λC _=>bP 3 λY _=>bZ 2 Y.events (bB 3 85 bh bh)) bh)) (λL=>bh) (λL=>bh)))))
instance XP(t:Z4)(x:bf):Fc Sy cL (oI t x):=Fc.of (A:=λz:Z4×bf=>[enc z.1,enc z.2]) (E:=λr:Sl (Sl X')=>[enc r]) (p:=λz=>oI z.1 z.2) (n:=114) (z:=(t,x)) (hG.X3 Zae Zae (λz r a=>Tt z.1 z.2 r a))
namespace dn
def fe(p6:Int)(B:Z4)(G:bf)(D:Int):a_ (Fw Int Unit (Int×bf)):=(idx B.procs p6).bind λw=>bl (decide (D<(len w.events))) ((eM B p6 D).bind λu=>bl (u==0) (some (.n (wrap .i64 (D+1)))) (some (.r (u,(⟨p6,wrap .i64 (D+1)⟩:bf))))) (some (.x ()))
def W3(p6 G:Int)(B:Z4)(D:bf):a_ (Fw Int Unit (Int×bf)):=(bS (λq:Int=>fe p6 B D q) G).bind (Fw.elim (λe=>some (.n (wrap .i64 (p6+1)))) (λe=>some (.r (e.1,e.2))))
def zI(G:Int)(D:Z4)(J:bf)(B:Int):a_ (Fw Int Unit (Int×bf)):=(idx D.procs G).bind λw=>bl (decide (B<(len w.events))) ((jg D (⟨G,wrap .i64 (B+1)⟩:bf)).bind λu=>bl (u==0) (some (.n (wrap .i64 (B+1)))) (some (.r (u,(⟨G,wrap .i64 (B+1)⟩:bf))))) (some (.x ()))
def W5(J B:Int)(D:Z4)(G:bf):a_ (Fw Int Unit (Int×bf)):=(bS (λq:Int=>zI J D G q) B).bind (Fw.elim (λe=>some (.n (wrap .i64 (J+1)))) (λe=>some (.r (e.1,e.2))))
def MO(D:Int)(G:Z4)(J:bf)(B:Int):a_ (Fw Int Unit bf):=(idx G.procs D).bind λw=>bl (decide (B<(len w.events))) ((oI G (⟨D,wrap .i64 (B+1)⟩:bf)).bind λz=>(idx z D).bind λC=>(idx C (wrap .i64 (B+1))).bind λu=>bl u (some (.r (⟨D,wrap .i64 (B+1)⟩:bf))) (some (.n (wrap .i64 (B+1))))) (some (.x ()))
def W7(B D:Int)(G:Z4)(J:bf):a_ (Fw Int Unit bf):=(bS (λq:Int=>MO B G J q) D).bind (Fw.elim (λe=>some (.n (wrap .i64 (B+1)))) (λe=>some (.r e)))
def Me(B:Z4)(G:bf)(D:Int):a_ (Fw Int Unit bf):=bl (decide (D<(len B.procs))) (W7 D 0 B G) (some (.x ()))
def W6(B:Int)(D:Z4)(G:bf):a_ (bf×Int):=(bS (λq:Int=>Me D G q) B).bind (Fw.elim (λe=>some (⟨0,0⟩,0)) (λe=>some (e,10)))
def MG(B:Z4)(D:bf)(G:Int):a_ (Fw Int Unit (Int×bf)):=bl (decide (G<(len B.procs))) (W5 G 0 B D) (some (.x ()))
def W4(G:Int)(B:Z4)(D:bf):a_ (bf×Int):=(bS (λq:Int=>MG B D q) G).bind (Fw.elim (λe=>(eW B).bind λu=>bl u (some (⟨0,0⟩,0)) (dn.W6 0 B D)) (λe=>some (e.2,e.1)))
def bT(B:Z4)(D:bf)(p6:Int):a_ (Fw Int Unit (Int×bf)):=bl (decide (p6<(len B.procs))) (W3 p6 0 B D) (some (.x ()))
def W2(p6:Int)(B:Z4)(D:bf):a_ (bf×Int):=(bS (λq:Int=>bT B D q) p6).bind (Fw.elim (λe=>dn.W4 0 B D) (λe=>some (e.2,e.1)))
def br(B:Z4)(D:bf)(p4:Int):a_ (Fw Int Unit (Int×bf)):=bl (decide (p4<(len B.procs))) ((eN B p4).bind λu=>bl (u==0) (some (.n (wrap .i64 (p4+1)))) (some (.r (u,(⟨p4,0⟩:bf))))) (some (.x ()))
def W1(p4:Int)(B:Z4)(D:bf):a_ (bf×Int):=(bS (λq:Int=>br B D q) p4).bind (Fw.elim (λe=>dn.W2 0 B D) (λe=>some (e.2,e.1)))
end dn
def dn(B:Z4):a_ (bf×Int):=(bl (decide ((len B.procs)<1)) (some true) (some (decide ((len B.procs)>8))):a_ X').bind λu=>bl u (some (⟨0,0⟩,1)) (dn.W1 0 B (⟨0,0⟩:bf))
open dn in
instance W0(B:Z4):Fc Sy cL (dn B):=Fc.M 73 [enc B] (cu 2 1 B (bZ 9 B.procs (ck 2 5 [20] 25 (bB 2 20 (bF 5) (bZ 2 B.procs (bF 2))) λa=>bB 2 25 bh (dZ 11 (λQ=>(bL [Pv 1,Pv 2,Iv 4 Q] [Xb 1 B,Xb 2 (⟨0,0⟩:bf)])) (λu=>(0,(bL [Pv 1,Pv 2] [Xb 1 B,Xb 2 (⟨0,0⟩:bf)]))) (λu=>(bL [Pv 2,Iv 3 u.1] [Xb 2 u.2])) (λQ=>bZ 7 B.procs (bB 3 31 (bG 9 λb _=>cZ 9 38 bh bh) bh)) (λu=>dZ 10 (λG=>(bL [Pv 1,Pv 2,Iv 6 G] [Xb 1 B,Xb 2 (⟨0,0⟩:bf)])) (λw=>(2,(bL [Pv 1,Pv 2] [Xb 1 B,Xb 2 (⟨0,0⟩:bf)]))) (λw=>(bL [Pv 2,Iv 3 w.1] [Xb 2 w.2])) (λG=>bZ 7 B.procs (bB 3 46 (dZ 12 (λS=>(bL [Pv 1,Pv 2,Iv 6 G,Iv 7 S] [Xb 1 B,Xb 2 (⟨0,0⟩:bf)])) (λz=>(4,(bL [Pv 1,Pv 2,Iv 6 G] [Xb 1 B,Xb 2 (⟨0,0⟩:bf)]))) (λz=>(bL [Pv 2,Iv 3 z.1] [Xb 2 z.2])) (λS=>bP 8 λW _=>bZ 2 W.events (bB 3 57 (bG 10 λc _=>cZ 9 65 bh bh) bh)) (λz=>bh) (λz=>bh)) bh)) (λw=>dZ 10 (λI=>(bL [Pv 1,Pv 2,Iv 9 I] [Xb 1 B,Xb 2 (⟨0,0⟩:bf)])) (λC=>(6,(bL [Pv 1,Pv 2] [Xb 1 B,Xb 2 (⟨0,0⟩:bf)]))) (λC=>(bL [Pv 2,Iv 3 C.1] [Xb 2 C.2])) (λI=>bZ 7 B.procs (bB 3 75 (dZ 12 (λT=>(bL [Pv 1,Pv 2,Iv 9 I,Iv 10 T] [Xb 1 B,Xb 2 (⟨0,0⟩:bf)])) (λD=>(8,(bL [Pv 1,Pv 2,Iv 9 I] [Xb 1 B,Xb 2 (⟨0,0⟩:bf)]))) (λD=>(bL [Pv 2,Iv 3 D.1] [Xb 2 D.2])) (λT=>bP 8 λX _=>bZ 2 X.events (bB 3 86 (bG 19 λd _=>cZ 9 97 bh bh) bh)) (λD=>bh) (λD=>bh)) bh)) (λC=>bG 6 λZ _=>bB 2 101 bh (dZ 11 (λJ=>(bL [Pv 1,Pv 2,Iv 13 J] [Xb 1 B,Xb 2 (⟨0,0⟩:bf)])) (λL=>(10,(bL [Pv 2] [Xb 2 (⟨0,0⟩:bf)]))) (λL=>(bL [Pv 2,Iv 3 10] [Xb 2 L])) (λJ=>bZ 7 B.procs (bB 3 107 (dZ 12 (λU=>(bL [Pv 1,Pv 2,Iv 13 J,Iv 14 U] [Xb 1 B,Xb 2 (⟨0,0⟩:bf)])) (λO=>(12,(bL [Pv 1,Pv 2,Iv 13 J] [Xb 1 B,Xb 2 (⟨0,0⟩:bf)]))) (λO=>(bL [Pv 2,Iv 3 10] [Xb 2 O])) (λU=>bP 8 λY _=>bZ 2 Y.events (bB 3 118 (bG 19 λe _=>bP 1 λf _=>bP 3 λg _=>bB 3 134 bh bh) bh)) (λO=>bh) (λO=>bh)) bh)) (λL=>bh) (λL=>bh))) (λC=>bh)) (λw=>bh)) (λu=>bh)))))
def uq(B:Z4):a_ X':=(dn B).bind λu=>some (u.2==0)
instance V6(B:Z4):Fc Sy cL (uq B):=Fc.M 39 [enc B] (cu 2 1 B (bG 6 λu _=>bh))
def od(B:WF):a_ X':=some (B.kind==3)
instance RH(B:WF):Fc Sy cL (od B):=Fc.M 81 [enc B] (cu 2 1 B bh)
def sA(D:Zg)(p1:Int):a_ Zg:=(oH (Sl.row []:Zg) D).bind λu=>(Sl.jR u p1).bind λw=>(Sl.get u w).bind λz=>(Sl.jR u p1).bind λB=>(Sl.put u B (wrap .i64 (z+1):Int)).bind λC=>some C
instance XB(B:Zg)(p1:Int):Fc Sy cL (sA B p1):=Fc.N 135 [enc B,.int .i64 p1] (zO 9 6 8 λw _=>kg .i64 9 8 λz _=>qA 0 8 0 1 false (λu=>.int .i64 u) λu _=>kg .i64 1 8 λC _=>AR 0 8 (.int .i64 (wrap .i64 (u+1))) λD _=>bh)
namespace oe
def br(B:Zg)(D:Z4)(p5:Int):a_ (Fw Int Unit Unit):=bl (decide (p5<(len B))) ((idx B p5).bind λu=>(bl (decide (u<0)) (some true) ((idx B p5).bind λw=>(idx D.procs p5).bind λz=>some (decide (w>(len z.events)))):a_ X').bind λC=>bl C (some (.r ())) (some (.n (wrap .i64 (p5+1))))) (some (.x ()))
def W1(B:Zg)(p5:Int)(D:Z4):a_ X':=(bS (λq:Int=>br B D q) p5).bind (Fw.elim (λe=>some true) (λe=>some false))
end oe
def oe(D:Z4)(B:Zg):a_ X':=bl ((len B)==(len D.procs)) (oe.W1 B 0 D) (some false)
open oe in
instance YY(D:Z4)(B:Zg):Fc Sy cL (oe D B):=Fc.M 86 [enc D,enc B] (cu 2 2 D (bZ 7 B (bZ 2 D.procs (cZ 3 11 (dZ 11 (λw=>(bL [Cv 1 B,Pv 2,Iv 5 w] [Xb 2 D])) (λu=>(0,(bL [] []))) (λu=>(bL [Bv 4 false] [])) (λw=>bZ 6 B (bB 3 15 (bP 9 λC _=>ck 3 13 [23] 36 (bB 3 23 (bF 13) (bP 2 λG _=>bP 4 λz _=>bZ 2 z.events (bF 2))) λI=>bB 2 36 bh bh) bh)) (λu=>bh) (λu=>bh)) bh))))
namespace d_
def bT(B:Zg)(p5:Int)(D:Z4)(G:Int):a_ (Fw Int Unit Unit):=(idx B p5).bind λz=>bl (decide (G<z)) ((idx D.procs p5).bind λC=>(idx C.events G).bind λu=>bl (u.kind==3) ((en D 2 u.message).bind λw=>(idx B w.proc).bind λI=>bl (decide (w.index>I)) (some (.r ())) (some (.n (wrap .i64 (G+1))))) (some (.n (wrap .i64 (G+1))))) (some (.x ()))
def W2(B:Zg)(p5 G:Int)(D:Z4):a_ (Fw Int Unit Unit):=(bS (λq:Int=>bT B p5 D q) G).bind (Fw.elim (λe=>some (.n (wrap .i64 (p5+1)))) (λe=>some (.r ())))
def br(B:Zg)(D:Z4)(p5:Int):a_ (Fw Int Unit Unit):=bl (decide (p5<(len B))) (W2 B p5 0 D) (some (.x ()))
def W1(B:Zg)(p5:Int)(D:Z4):a_ X':=(bS (λq:Int=>br B D q) p5).bind (Fw.elim (λe=>some true) (λe=>some false))
end d_
def d_(D:Z4)(B:Zg):a_ X':=d_.W1 B 0 D
open d_ in
instance Pg(D:Z4)(B:Zg):Fc Sy cL (d_ D B):=Fc.M 87 [enc D,enc B] (cu 2 2 D (dZ 11 (λu=>(bL [Cv 1 B,Pv 2,Iv 5 u] [Xb 2 D])) (λw=>(0,(bL [] []))) (λw=>(bL [Bv 4 false] [])) (λu=>bZ 6 B (bB 3 12 (dZ 12 (λC=>(bL [Cv 1 B,Pv 2,Iv 5 u,Iv 6 C] [Xb 2 D])) (λz=>(2,(bL [Cv 1 B,Pv 2,Iv 5 u] [Xb 2 D]))) (λz=>(bL [Bv 4 false] [])) (λC=>bP 7 λI _=>bB 4 20 (bP 10 λJ _=>bP 3 λG _=>pM 2 7 0 G (bB 9 34 (bG 6 λL _=>bP 11 λO _=>bB 4 46 bh bh) bh)) bh) (λz=>bh) (λz=>bh)) bh)) (λw=>bh) (λw=>bh)))
def yu(B:Z4)(D:Zg):a_ X':=(oe B D).bind λu=>(bl u ((d_ B D).bind λw=>some w) (some false):a_ X').bind λz=>some z
instance ZA(B:Z4)(D:Zg):Fc Sy cL (yu B D):=Fc.M 49 [enc B,enc D] (cu 2 2 B (bG 7 λu _=>ck 1 4 [1,2,8] 12 (bB 1 8 (bG 2 λw _=>bF 1) (bF 4)) λz=>bh))
namespace jI
def br(G:Zg)(D:Z4)(B:Zb)(p6:Int):a_ (Fw ((Zb)×Int) Zb Empty):=bl (decide (p6<(len G))) ((idx G p6).bind λu=>(idx D.procs p6).bind λw=>(bl (decide (u<(len w.events))) ((sA G p6).bind λz=>(yu D z).bind λC=>some C) (some false):a_ X').bind λI=>bl I ((sA G p6).bind λJ=>(gw B (J:Zg)).bind λL=>some (.n (L,wrap .i64 (p6+1)))) (some (.n (B,wrap .i64 (p6+1))))) (some (.x B))
def W1(G:Zg)(B:Zb)(p6:Int)(D:Z4):a_ Zb:=(bS (λq:(Zb)×Int=>br G D q.1 q.2) (B,p6)).bind (Fw.elim (λe=>some e) (λe=>elim e))
end jI
def jI(B:Z4)(D:Zg):a_ Zb:=jI.W1 D (Sl.nil:Zb) 0 B
open jI in
instance Xx(B:Z4)(D:Zg):Fc Sy cL (jI B D):=Fc.N 101 [enc B,enc D] (cu 2 2 B (ga 17 (λu=>(bL [Cv 1 D,Pv 2,Ov 5,Iv 6 u.2] [Xb 2 B,Lb 2005 u.1])) (λw=>(0,(bL [Ov 5] [Lb 2005 w]))) (λu=>bZ 7 D (bB 3 10 (bP 9 λI _=>bP 4 λC _=>bZ 2 C.events (vI 2 6 [30,29] (λz=>(bL [Cv 1 D,Pv 2,Ov 5,Iv 6 u.2,Bv 10 true,Bv 31 z] [Xb 2 B,Lb 2005 u.1])) (bB 2 25 (bG 3 λJ _=>cV 0 λL _=>bF 1) (bF 6)) λz=>bB 2 31 (bG 5 λG _=>wQ 0 36 ([G]:aZ Zg) (ow 0 2005 36 37 λO _=>bh)) bh)) bh)) (λw=>bh)))
namespace gY
def br(B:Zg)(D i4:Int):a_ (Fw (Int×Int) Int Empty):=bl (decide (i4<(len B))) ((idx B i4).bind λu=>some (.n (wrap .i64 (D+u),wrap .i64 (i4+1)))) (some (.x D))
def W1(B:Zg)(D i4:Int):QQ:=(bS (λq:Int×Int=>br B q.1 q.2) (D,i4)).bind (Fw.elim (λe=>some e) (λe=>elim e))
end gY
def gY(B:Zg):QQ:=gY.W1 B 0 0
open gY in
instance XQ(B:Zg):Fc Sy cL (gY B):=Fc.M 177 [enc B] (ga 18 (λu=>(bL [Cv 0 B,Iv 3 u.1,Iv 4 u.2] [])) (λw=>(0,(bL [Iv 3 w] []))) (λu=>bZ 6 B (bB 3 8 (bP 9 λz _=>bh) bh)) (λw=>bh))
namespace iy
def br(a0 D:Zg)(B:Int):a_ (Fw Int Unit X'):=bl (decide (B<(len a0))) ((idx a0 B).bind λu=>(idx D B).bind λw=>bl (u==w) (some (.n (wrap .i64 (B+1)))) ((idx a0 B).bind λz=>(idx D B).bind λC=>some (.r (decide (z<C))))) (some (.x ()))
def W1(a0 B:Zg)(D:Int):a_ X':=(bS (λq:Int=>br a0 B q) D).bind (Fw.elim (λe=>some false) (λe=>some e))
end iy
def iy(a0 B:Zg):a_ X':=(gY a0).bind λu=>(gY B).bind λw=>bl (u==w) (iy.W1 a0 B 0) ((gY a0).bind λz=>(gY B).bind λC=>some (decide (z<C)))
open iy in
instance UW(a0 B:Zg):Fc Sy cL (iy a0 B):=Fc.M 136 [enc a0,enc B] (bG 9 λz _=>bG 1 λC _=>cZ 3 10 (dZ 11 (λw=>(bL [Cv 0 a0,Cv 1 B,Iv 5 w] [])) (λu=>(0,(bL [] []))) (λu=>(bL [Bv 4 u] [])) (λw=>bZ 6 a0 (bB 3 19 (bP 9 λD _=>bP 3 λG _=>cZ 4 30 bh (bP 5 λI _=>bP 3 λJ _=>bh)) bh)) (λu=>bh) (λu=>bh)) (bG 4 λL _=>bG 1 λO _=>bh))
namespace fQ
def br(a0 D:Zg)(B:Int):a_ (Fw Int Unit Unit):=bl (decide (B<(len a0))) ((idx a0 B).bind λu=>(idx D B).bind λw=>bl (u==w) (some (.n (wrap .i64 (B+1)))) (some (.r ()))) (some (.x ()))
def W1(a0 B:Zg)(D:Int):a_ X':=(bS (λq:Int=>br a0 B q) D).bind (Fw.elim (λe=>some true) (λe=>some false))
end fQ
def fQ(a0 B:Zg):a_ X':=bl ((len a0)==(len B)) (fQ.W1 a0 B 0) (some false)
open fQ in
instance RM(a0 B:Zg):Fc Sy cL (fQ a0 B):=Fc.M 137 [enc a0,enc B] (bZ 9 a0 (bZ 1 B (cZ 3 10 (dZ 11 (λw=>(bL [Cv 0 a0,Cv 1 B,Iv 5 w] [])) (λu=>(0,(bL [] []))) (λu=>(bL [Bv 4 false] [])) (λw=>bZ 6 a0 (bB 3 14 (bP 9 λz _=>bP 3 λC _=>cZ 4 25 bh bh) bh)) (λu=>bh) (λu=>bh)) bh)))
namespace iu
def br(D:Zb)(G:Zg)(B:Int):a_ (Fw Int Int Empty):=(bl (decide (B<(len D))) ((idx D B).bind λu=>(iy u G).bind λw=>some w) (some false):a_ X').bind λz=>bl z (some (.n (wrap .i64 (B+1)))) (some (.x B))
def W1(B:Zb)(G:Zg)(D:Int):a_ Zb:=(bS (λq:Int=>br B G q) D).bind (Fw.elim (λe=>(bl (decide (e<(len B))) ((idx B e).bind λz=>(fQ z G).bind λC=>some C) (some false):a_ X').bind λI=>bl I (some B) ((fZ B none (some e)).bind λJ=>(oH (Sl.row []:Zb) J).bind λL=>(gw L (G:Zg)).bind λO=>(fZ B (some e) none).bind λu=>(oH O u).bind λw=>some w)) (λe=>elim e))
end iu
def iu(B:Zb)(D:Zg):a_ Zb:=iu.W1 B D 0
open iu in
instance UF(B:Zb)(D:Zg):Fc Sy cL (iu B D):=Fc.N 102 [enc B,enc D] (ga 13 (λw=>(bL [Cv 0 B,Cv 1 D,Iv 5 w] [])) (λu=>(0,(bL [Cv 0 B,Cv 1 D,Iv 5 u] []))) (λw=>bZ 6 B (ck 2 7 [11] 18 (bB 2 11 (bP 2 λG _=>bG 2 λI _=>bF 1) (bF 7)) λJ=>bB 2 18 bh bh)) (λu=>bZ 7 B (ck 2 7 [25] 32 (bB 2 25 (bP 2 λL _=>bG 2 λO _=>bF 1) (bF 7)) λQ=>bB 2 32 bh (wQ 5 34 ([]:aZ Zg) (AJ 2 false true [.int .i64 u] λS _=>zO 0 34 38 λT _=>wQ 7 41 ([D]:aZ Zg) (ow 0 38 41 42 λU _=>AJ 8 true false [.int .i64 u] λz _=>zO 0 42 47 λC _=>bh))))))
namespace e9
def fe(D G:Zb)(W:Int)(J:Zb)(U:Z4)(B:Zb)(k9:Int):a_ (Fw ((Zb)×Int) Zb Empty):=bl (decide (k9<(len J))) ((idx J k9).bind λu=>(iu B u).bind λw=>some (.n (w,wrap .i64 (k9+1)))) (some (.x B))
def W3(B G D:Zb)(U:Int)(W:Zb)(k9:Int)(J:Z4):a_ (Fw ((Zb)×Int) Zb Empty):=(bS (λq:(Zb)×Int=>fe B G U W J q.1 q.2) (D,k9)).bind (Fw.elim (λe=>some (.n (e,wrap .i64 (U+1)))) (λe=>elim e))
def bT(B G:Zb)(J:Z4)(D:Zb)(U:Int):a_ (Fw ((Zb)×Int) Zb Empty):=bl (decide (U<(len B))) ((idx B U).bind λu=>(jI J u).bind λw=>W3 B G D U w 0 J) (some (.x D))
def W2(B D G:Zb)(U:Int)(J:Z4):a_ (Fw ((Zb)×(Zb)) Zb Unit):=(bS (λq:(Zb)×Int=>bT B D J q.1 q.2) (G,U)).bind (Fw.elim (λe=>some (.n (e,D))) (λe=>elim e))
def br(G:Z4)(B D:Zb):a_ (Fw ((Zb)×(Zb)) Zb Unit):=bl (decide ((len B)>0)) ((oH D B).bind λu=>bl (decide ((len u)>5000)) (some (.r ())) (W2 B u (Sl.nil:Zb) 0 G)) (some (.x D))
def W1(B D:Zb)(G:Z4):a_ ((Zb)×X'):=(bS (λq:(Zb)×(Zb)=>br G q.1 q.2) (B,D)).bind (Fw.elim (λe=>some (e,true)) (λe=>some ((Sl.nil:Zb),false)))
end e9
def e9(B:Z4):a_ ((Zb)×X'):=(oL (len B.procs) (0:Int)).bind λu=>e9.W1 (Sl.row [u]:Zb) (Sl.nil:Zb) B
open e9 in
instance XF(B:Z4):Fc Sy cL (e9 B):=Fc.N 62 [enc B] (cu 2 1 B (bZ 8 B.procs (UT 0 13 λL _=>wQ 1 14 ([L]:aZ Zg) (dZ 13 (λu=>(bL [Pv 1,Cv 4 u.1,Ov 5] [Xb 1 B,Lb 2005 u.2])) (λC=>(0,(bL [Ov 5] [Lb 2005 C]))) (λC=>(bL [Ov 2,Bv 3 false] [Lb 2002 (Sl.nil:Zb)])) (λu=>bZ 7 u.1 (bB 3 17 (zO 8 2005 20 λw _=>Ed 7 20 w (bB 3 23 bh (ga 18 (λz=>(bL [Pv 1,Cv 4 u.1,Ov 5,Cv 6 z.1,Iv 7 z.2] [Xb 1 B,Lb 2005 w])) (λG=>(2,(bL [Pv 1,Ov 5,Cv 6 G] [Xb 1 B,Lb 2005 w]))) (λz=>bZ 8 u.1 (bB 3 27 (bP 10 λO _=>bG 1 λI _=>ga 12 (λD=>(bL [Pv 1,Cv 4 u.1,Ov 5,Cv 6 D.1,Iv 7 z.2,Cv 8 I,Iv 9 D.2] [Xb 1 B,Lb 2005 w])) (λJ=>(4,(bL [Pv 1,Cv 4 u.1,Ov 5,Cv 6 J,Iv 7 z.2] [Xb 1 B,Lb 2005 w]))) (λD=>bZ 8 I (bB 3 39 (bP 9 λQ _=>bG 1 λS _=>bh) bh)) (λJ=>bh)) bh)) (λG=>bh)))) bh)) (λC=>bh) (λC=>bh)))))
namespace dx
def bT(G:Sl bX)(J:Int)(B D:Int):a_ (Fw (Int×Int) Int Unit):=bl (decide (D<J)) ((idx G D).bind λu=>(gE u.events (λz=>od z)).bind λw=>bl w (some (.r ())) (some (.n (wrap .i64 (B*(wrap .i64 ((len u.events)+1))),wrap .i64 (D+1))))) (some (.x B))
def W2(B:Int)(D:Sl bX)(G J:Int):a_ X':=(bS (λq:Int×Int=>bT D G q.1 q.2) (B,J)).bind (Fw.elim (λe=>some (decide (e>5000))) (λe=>some false))
def br(D:Sl bX)(G:Int)(U:Z4)(J B:Int):a_ (Fw (Int×Int) Int Unit):=bl (decide (B<G)) ((idx D B).bind λu=>(bl (decide ((len u.vars)>12)) (some true) ((gE u.events (λz=>nU z)).bind λw=>some w):a_ X').bind λC=>bl C (some (.r ())) (some (.n (wrap .i64 (J+(len u.events)),wrap .i64 (B+1))))) (some (.x J))
def W1(U:Int)(D:Sl bX)(G J:Int)(B:Z4):a_ X':=(bS (λq:Int×Int=>br D G B q.1 q.2) (U,J)).bind (Fw.elim (λe=>bl (decide (e>60)) (some false) ((uq B).bind λw=>bl w (bl (decide (e>24)) (dx.W2 1 B.procs (len B.procs) 0) ((e9 B).bind λu=>(bl u.2 (some (decide ((len u.1)<=250))) (some true):a_ X').bind λz=>some z)) (some true))) (λe=>some false))
end dx
def dx(B:Z4):a_ X':=bl (decide ((len B.procs)>10)) (some false) (dx.W1 0 B.procs (len B.procs) 0 B)
open dx in
instance Xg(B:Z4):Fc Sy cL (dx B):=Fc.M 45 [enc B] (cu 2 1 B (bZ 8 B.procs (bB 3 14 bh (bZ 13 B.procs (dZ 5 (λD=>(bL [Pv 1,Iv 3 D.1,Cv 16 B.procs,Iv 17 (len B.procs),Iv 18 D.2] [Xb 1 B])) (λu=>(0,(bL [Pv 1,Iv 3 u] [Xb 1 B]))) (λu=>(bL [Bv 2 false] [])) (λD=>bB 7 19 (bP 7 λw _=>pM 2 5 0 w (bZ 7 w.events (bZ 8 w.vars (ck 2 4 [5,31] 35 (bB 2 31 (bF 4) (bG (F:=lT 80 [] (λz=>nU z) lW.sw w.events) 2 λL _=>bF 1)) λO=>bB 2 35 bh bh)))) bh) (λu=>bB 9 38 bh (bG 7 λQ _=>cZ 3 41 (bB 10 43 (bZ 11 B.procs (dZ 5 (λG=>(bL [Iv 6 G.1,Cv 45 B.procs,Iv 46 (len B.procs),Iv 47 G.2] [])) (λC=>(2,(bL [Iv 6 C] []))) (λC=>(bL [Bv 2 false] [])) (λG=>bB 7 48 (bP 7 λI _=>pM 2 8 0 I (bZ 7 I.events (bG (F:=lT 81 [] (λz=>od z) lW.sw I.events) 9 λS _=>bB 2 59 bh bh))) bh) (λC=>bh) (λC=>bh))) (bG 6 λJ _=>ck 12 4 [9,70] 74 (cZ 12 70 (bZ 1 J.1 (bF 2)) (bF 4)) λT=>bh)) bh)) (λu=>bh))))))
def ku(D:Pred)(G B:Int)(r:(Pred×Int×Int)->a_ (X'×Int)):a_ (X'×Int):=(r (D,B,wrap .i64 (G+1))).bind λu=>some ((!u.1),u.2)
abbrev DA(r:(Pred×Int×Int)->a_ (Bool×Int))(a:yf Sy cL 40 (λz:Pred×Int×Int=>[cv z.1,.ptr 9002 0,iv z.2.2]) (λz:Pred×Int×Int=>[(9002,bx (z.2.1:Int))]) (λr:Bool×Int=>[.bool r.1]) (λ(z:Pred×Int×Int)(r:Bool×Int)=>[(9002,bx (r.2:Int))]) r)(D:Pred)(G B:Int):ou Sy cL (ku D G B r):=ou.mk' 75 [cv D,.ptr 9001 0,.v (.fptr (cells G))] [(9001,.box [.ptr 9002 0]),(9002,bx (B:Int))] (λr:Bool×Int=>[.bool r.1]) (λr:Bool×Int=>[(9001,.box [.ptr 9002 0]),(9002,bx (r.2:Int))]) (cu 2 3 D (uo 9 (ou.of (D,B,wrap .i64 (G+1)) a) λu _=>bh))
section
variable{σ:Type}{gf:Y'}{ex:So}{os:σ->dK}{p:Pred->σ->a_ (X'×σ)}(h:yC Sy cL (.clo gf [] ex) gf ex os p)(s0:Sl Pred)(x:σ)
abbrev wk:ou Sy cL (S3 s0 p x):=ou.mk' 115 [cv s0,(.clo gf [] ex)] (os x) (λr=>[.int .i64 r.1]) (λr=>os r.2) (bZ 9 s0 (dZ 5 (λq=>⟨[Cv 0 s0,(1,(.clo gf [] ex)),Iv 7 (len s0),Iv 8 q.1],os q.2,(os x).map (·.1),[],true,0⟩) (λe=>(0,⟨[],os e,(os x).map (·.1),[],true,0⟩)) (λe=>⟨[Iv 4 e.1],os e.2,(os x).map (·.1),[],true,0⟩) (λq=>bB 7 9 (bP 16 λy _=>PG 1 h y q.2 λr _=>bB 2 16 bh bh) bh) (λe=>IT 9 h [.int .i64 (-1)] rfl) (λe=>Le.of_eq (I7 h (ys:=[.int .i64 e.1]) Zae rfl)))) (hp:=λr=>h.wi x r.2)
abbrev qh:ou Sy cL (AS s0 p x):=ou.mk' 74 [cv s0,(.clo gf [] ex)] (os x) (λr=>[.bool r.1]) (λr=>os r.2) (MN 9 (wk h s0 x) (h.hd x (enc s0)) (λr=>h.put x r.2) λy _=>IT 5 h [.bool (decide (y.1>=0))] rfl) (hp:=λr=>h.wi x r.2)
end
section
variable{σ:Type}{gf:Y'}{ex:T2}{os:σ->dK}{p:Pred->σ->a_ (X'×σ)}(h:yC Sy cL (.v (.clo gf [] ex)) gf (ex.map .v) os p)(s0:Sl Pred)(x:σ)
abbrev we:ou Sy cL (S3 s0 p x):=ou.mk' 115 [cv s0,(.v (.clo gf [] ex))] (os x) (λr=>[.int .i64 r.1]) (λr=>os r.2) (bZ 9 s0 (dZ 5 (λq=>⟨[Cv 0 s0,(1,(.v (.clo gf [] ex))),Iv 7 (len s0),Iv 8 q.1],os q.2,(os x).map (·.1),[],true,0⟩) (λe=>(0,⟨[],os e,(os x).map (·.1),[],true,0⟩)) (λe=>⟨[Iv 4 e.1],os e.2,(os x).map (·.1),[],true,0⟩) (λq=>bB 7 9 (bP 16 λy _=>PG 1 h y q.2 λr _=>bB 2 16 bh bh) bh) (λe=>IT 9 h [.int .i64 (-1)] rfl) (λe=>Le.of_eq (I7 h (ys:=[.int .i64 e.1]) Zae rfl)))) (hp:=λr=>h.wi x r.2)
abbrev mB:ou Sy cL (AS s0 p x):=ou.mk' 74 [cv s0,(.v (.clo gf [] ex))] (os x) (λr=>[.bool r.1]) (λr=>os r.2) (MN 9 (we h s0 x) (h.hd x (enc s0)) (λr=>h.put x r.2) λy _=>IT 5 h [.bool (decide (y.1>=0))] rfl) (hp:=λr=>h.wi x r.2)
end
def jX(G:Pred)(B D:Int)(r:(Pred×Int×Int)->a_ (X'×Int)):a_ (X'×Int):=(bl (decide ((wrap .i64 (B-1))>=0)) (some (decide (D<=60))) (some false):a_ X').bind λz=>(bl z (some (decide (((ByteArray.size G.name:Nat):Int)<=100))) (some false):a_ X').bind λC=>(bl C ((AS G.l (λx s=>ku x D s r) (wrap .i64 (B-1))).bind λu=>some ((!u.1),u.2)) (some (false,wrap .i64 (B-1))):a_ (X'×Int)).bind λw=>some (w.1,w.2)
theorem DF(r:(Pred×Int×Int)->a_ (X'×Int))(a:yf Sy cL 40 (λz:Pred×Int×Int=>[cv z.1,.ptr 9002 0,iv z.2.2]) (λz:Pred×Int×Int=>[(9002,bx (z.2.1:Int))]) (λr:X'×Int=>[.bool r.1]) (λ(z:Pred×Int×Int)(r:X'×Int)=>[(9002,bx (r.2:Int))]) r)(G:Pred)(D B:Int):∀J,jX G D B r=some J->∃m',cL 40 [cv G,.ptr 9002 0,iv B] [(9002,bx (D:Int))]=some (((λr:X'×Int=>[.bool r.1]) J).map .v,m')/\∀U,lC m' ([(9002,bx (D:Int))].map (·.1)) U=some (pX U ((λr:X'×Int=>[(9002,bx (r.2:Int))]) J)):=(ou.mk' 40 [cv G,.ptr 9002 0,iv B] [(9002,bx (D:Int))] (λr:X'×Int=>[.bool r.1]) (λr:X'×Int=>[(9002,bx (r.2:Int))]) (cu 2 3 G (ck 22 3 [16] 19 (bB 22 16 (bF 3) (bF 3)) λw=>ck 1 5 [20] 25 (bB 1 20 (bF 5) (bF 5)) λC=>vI 1 6 [] (λu=>⟨[Bv 32 u.1],[(9002,.box [iv u.2]),Xb 3 G,(9001,.box [.ptr 9002 0])],[9002],[],true,0⟩) (bB 1 26 (jF 2 28 (Pred.mC G.l) (uo 3 (qh (yC.ofK (σ:=Int) (g:=75) (e:=[.ptr 9001 0,cp B]) (os:=λs=>[(9001,.box [.ptr 9002 0]),(9002,bx (s:Int))]) (p:=(λx s=>ku x B s r)) (λx s=>DA r a x B s)) G.l (wrap .i64 (D-1))) λI _=>bF 2)) (bF 8)) λu=>bh)):ou Sy cL (jX G D B r)).h
def zb(G:Pred)(D B:Int):a_ (X'×Int):=iw (λr(z:Pred×Int×Int)=>jX z.1 z.2.1 z.2.2 r) 100000 (G,D,B)
abbrev Is(G:Pred)(D B:Int):ou Sy cL (zb G D B):=ou.of (G,D,B) (yf.fix (A:=λz:Pred×Int×Int=>[cv z.1,.ptr 9002 0,iv z.2.2]) (O:=λz:Pred×Int×Int=>[(9002,bx (z.2.1:Int))]) (E:=λr:Bool×Int=>[.bool r.1]) (M:=λ(z:Pred×Int×Int)(r:Bool×Int)=>[(9002,bx (r.2:Int))]) (b:=(λr(z:Pred×Int×Int)=>jX z.1 z.2.1 z.2.2 r)) Zae Zae Zae (λr a z=>DF r a z.1 z.2.1 z.2.2) 100000)
namespace kM
def br(B:Int)(D:Pred)(G J:Int)(r:(Pred×Int)->QQ):a_ (Fw (Int×Int) Int Empty):=(bl (decide (J<(len D.l))) (some (decide (G<=B))) (some false):a_ X').bind λu=>bl u ((idx D.l J).bind λw=>(r (w,wrap .i64 (B-G))).bind λz=>some (.n (wrap .i64 (G+z),wrap .i64 (J+1)))) (some (.x G))
def W1(B G J:Int)(D:Pred)(r:(Pred×Int)->QQ):QQ:=(bS (λq:Int×Int=>br B D q.1 q.2 r) (G,J)).bind (Fw.elim (λe=>some e) (λe=>elim e))
end kM
def jk(D:Pred)(B:Int)(r:(Pred×Int)->QQ):QQ:=kM.W1 B 1 0 D r
open kM in
theorem C0(r:(Pred×Int)->QQ)(a:hG Sy cL 78 (λz:Pred×Int=>[enc z.1,.int .i64 z.2]) (λr:Int=>[.int .i64 r]) r true)(D:Pred)(B:Int):Le ((jk D B r).bind λr=>some [.int .i64 r]) (jW cL 78 [enc D,.int .i64 B]):=(Fc.M 78 [enc D,.int .i64 B] (cu 2 2 D (ga 16 (λu=>(bL [Iv 1 B,Pv 2,Iv 5 u.1,Iv 6 u.2] [Xb 2 D])) (λw=>(0,(bL [Iv 5 w] []))) (λu=>jF 7 9 (Pred.mC D.l) (bZ 0 D.l (ck 2 4 [12] 16 (bB 2 12 (bF 4) (bF 4)) λG=>bB 2 16 (jF 9 21 (Pred.mC D.l) (bP 1 λC _=>bG (F:=Fc.of (C,wrap .i64 (B-u.1)) a) 4 λI _=>bh)) bh))) (λw=>bh))):Fc Sy cL (jk D B r)).F.h ()
def kM(D:Pred)(B:Int):QQ:=iw (λr(z:Pred×Int)=>jk z.1 z.2 r) 100000 (D,B)
instance WA(D:Pred)(B:Int):Fc Sy cL (kM D B):=Fc.of (D,B) (hG.fix (A:=λz:Pred×Int=>[enc z.1,.int .i64 z.2]) (E:=λr:Int=>[.int .i64 r]) (sc:=true) (b:=(λr(z:Pred×Int)=>jk z.1 z.2 r)) Zae (λ_ _=>rfl) (λr a z=>C0 r a z.1 z.2) 100000)
def sF(B:Pred):QQ:=(kM B 200).bind λu=>some (if 201<u then 201 else u)
instance XM(B:Pred):Fc Sy cL (sF B):=Fc.M 42 [enc B] (cu 2 1 B (bG 6 λu _=>bh))
def rX(J:Z4)(p1:Pred):a_ X':=(dx J).bind λw=>(bl w ((zb p1 300 0).bind λu=>some (u.1,u.2)) (some (false,300)):a_ (X'×Int)).bind λz=>(bl z.1 ((sF p1).bind λB=>(bl (decide (B<=100)) (some true) ((sF p1).bind λC=>some (decide (C>200))):a_ X').bind λD=>some D) (some false):a_ X').bind λG=>some G
instance X_(B:Z4)(p1:Pred):Fc Sy cL (rX B p1):=Fc.M 11 [enc B,enc p1] (cu 2 2 B (cu 0 3 p1 (bG 12 λw _=>vI 1 3 [] (λu=>(bL [Pv 3,Bv 11 u.1] [Xb 2 B,Xb 3 p1,(9002,.box [iv u.2])])) (bB 1 8 (uo 2 (Is p1 300 0) λz _=>bF 1) (bF 4)) λu=>ck 1 9 [3,12] 21 (bB 1 12 (bG 1 λC _=>ck 2 4 [3,16] 20 (bB 2 16 (bF 4) (bG 1 λD _=>bF 2)) λG=>bF 1) (bF 9)) λI=>bh)))
def oF(G D B:Int):a_ X':=(bl (decide (G>=D)) (some (decide (G<=B))) (some false):a_ X').bind λu=>some u
instance ZK(G D B:Int):Fc Sy cL (oF G D B):=Fc.M 127 [.int .i64 G,.int .i64 D,.int .i64 B] (ck 11 4 [0,2,10] 14 (bB 11 10 (bF 4) (bF 4)) λu=>bh)
def q_(B:Int):a_ X':=(bl (decide (B>=97)) (some (decide (B<=122))) (some false):a_ X').bind λu=>(bl u (some true) ((bl (decide (B>=65)) (some (decide (B<=90))) (some false):a_ X').bind λw=>some w):a_ X').bind λz=>some z
instance Wa(B:Int):Fc Sy cL (q_ B):=Fc.M 204 [.int .u8 B] (ck 10 3 [5] 8 (bB 10 5 (bF 3) (bF 3)) λu=>ck 1 7 [0,9] 16 (bB 1 9 (bF 7) (ck 3 3 [0,12] 15 (bB 3 12 (bF 3) (bF 3)) λw=>bF 1)) λz=>bh)
def vO(B:Int):a_ X':=(bl (decide (B>=48)) (some (decide (B<=57))) (some false):a_ X').bind λu=>some u
instance Xv(B:Int):Fc Sy cL (vO B):=Fc.M 205 [.int .u8 B] (ck 10 3 [0,5] 8 (bB 10 5 (bF 3) (bF 3)) λu=>bh)
namespace gO
def br(s0:U')(D:Int)(B:Int):a_ (Fw Int Unit Unit):=bl (decide (B<D)) ((lY s0 B).bind λz=>(q_ z).bind λC=>(bl C (some false) ((lY s0 B).bind λG=>(vO G).bind λI=>some (!I)):a_ X').bind λJ=>(bl J ((lY s0 B).bind λu=>some (!(u==95))) (some false):a_ X').bind λw=>bl w (some (.r ())) (some (.n (wrap .i64 (B+1))))) (some (.x ()))
def W1(s0:U')(B D:Int):a_ X':=(bS (λq:Int=>br s0 B q) D).bind (Fw.elim (λe=>some true) (λe=>some false))
end gO
def gO(s0:U'):a_ X':=(bl (toList s0==toList ByteArray.empty) (some true) (some (decide (((ByteArray.size s0:Nat):Int)>16))):a_ X').bind λu=>(bl u (some true) ((lY s0 0).bind λw=>(q_ w).bind λz=>some (!z)):a_ X').bind λB=>bl B (some false) (gO.W1 s0 ((ByteArray.size s0:Nat):Int) 0)
open gO in
instance Xl(s0:U'):Fc Sy cL (gO s0):=Fc.M 163 [.str s0] (ck 11 4 [6] 10 (bB 11 6 (bF 4) (bF 4)) λC=>ck 1 5 [11] 16 (bB 1 11 (bF 5) (BQ 1 .i64 λD _=>bG 0 λG _=>bF 2)) λI=>bB 2 16 bh (dZ 13 (λw=>(bL [(0,.v (.str s0)),Iv 18 ((ByteArray.size s0:Nat):Int),Iv 19 w] [])) (λu=>(0,(bL [] []))) (λu=>(bL [Bv 2 false] [])) (λw=>bB 7 20 (BQ 15 .i64 λJ _=>bG 0 λL _=>ck 2 6 [27] 33 (cZ 2 27 (bF 6) (BQ 2 .i64 λO _=>bG 0 λQ _=>bF 2)) λS=>ck 1 5 [3,34] 39 (bB 1 34 (BQ 2 .i64 λz _=>bF 2) (bF 5)) λB=>bB 2 39 bh bh) bh) (λu=>bh) (λu=>bh)))
def ko(B D:bX):a_ X':=some (toList B.name==toList D.name)
instance Lv(B D:bX):Fc Sy cL (ko B D):=Fc.M 165 [enc B,.fptr (cells D)] (cu 2 2 B bh)
namespace gT
def br(s0:Sl bX)(D:Int)(B:Int)(p1:bX->a_ X'):a_ (Fw Int Unit Int):=bl (decide (B<D)) ((idx s0 B).bind λu=>(p1 u).bind λw=>bl w (some (.r B)) (some (.n (wrap .i64 (B+1))))) (some (.x ()))
def W1(s0:Sl bX)(B D:Int)(p1:bX->a_ X'):QQ:=(bS (λq:Int=>br s0 B q p1) D).bind (Fw.elim (λe=>some (-1)) (λe=>some e))
end gT
def gT(s0:Sl bX)(p1:bX->a_ X'):QQ:=gT.W1 s0 (len s0) 0 p1
open gT in
abbrev yj(g1:FuncId)(e1:aZ V)(p1:bX->a_ Bool)(a:lW Sy cL g1 [] e1 (λz:bX=>[enc z]) (λr:Bool=>[.bool r]) p1 true)(s0:Sl bX):Fc Sy cL (gT s0 p1):=Fc.M 206 [enc s0,.clo g1 [] e1] (bZ 9 s0 (dZ 5 (λw=>(bL [Cv 0 s0,(1,.v (.clo g1 [] e1)),Iv 7 (len s0),Iv 8 w] [])) (λu=>(0,(bL [] []))) (λu=>(bL [Iv 4 u] [])) (λw=>bB 7 9 (bP 16 λB _=>yJ 1 a.f B λC _=>bB 2 16 bh bh) bh) (λu=>bh) (λu=>bh)))
def iZ(s0:Sl bX)(p1:bX->a_ X'):a_ X':=(gT s0 p1).bind λu=>some (decide (u>=0))
abbrev wM(g1:FuncId)(e1:aZ V)(p1:bX->a_ Bool)(a:lW Sy cL g1 [] e1 (λz:bX=>[enc z]) (λr:Bool=>[.bool r]) p1 true)(s0:Sl bX):Fc Sy cL (iZ s0 p1):=Fc.M 164 [enc s0,.clo g1 [] e1] (bG (F:=yj g1 e1 p1 a s0) 9 λu _=>bh)
def kj(B D:Var):a_ X':=some (toList B.name==toList D.name)
instance Lu(B D:Var):Fc Sy cL (kj B D):=Fc.M 167 [enc B,.fptr (cells D)] (bh)
namespace fL
def br(s0:Sl Var)(D:Int)(B:Int)(p1:Var->a_ X'):a_ (Fw Int Unit Int):=bl (decide (B<D)) ((idx s0 B).bind λu=>(p1 u).bind λw=>bl w (some (.r B)) (some (.n (wrap .i64 (B+1))))) (some (.x ()))
def W1(s0:Sl Var)(B D:Int)(p1:Var->a_ X'):QQ:=(bS (λq:Int=>br s0 B q p1) D).bind (Fw.elim (λe=>some (-1)) (λe=>some e))
end fL
def fL(s0:Sl Var)(p1:Var->a_ X'):QQ:=fL.W1 s0 (len s0) 0 p1
open fL in
abbrev oJ(g1:FuncId)(e1:aZ V)(p1:Var->a_ Bool)(a:lW Sy cL g1 [] e1 (λz:Var=>[enc z]) (λr:Bool=>[.bool r]) p1 true)(s0:Sl Var):Fc Sy cL (fL s0 p1):=Fc.M 207 [enc s0,.clo g1 [] e1] (bZ 9 s0 (dZ 5 (λw=>(bL [Cv 0 s0,(1,.v (.clo g1 [] e1)),Iv 7 (len s0),Iv 8 w] [])) (λu=>(0,(bL [] []))) (λu=>(bL [Iv 4 u] [])) (λw=>bB 7 9 (bP 16 λB _=>yJ 1 a.f B λC _=>bB 2 16 bh bh) bh) (λu=>bh) (λu=>bh)))
def hU(s0:Sl Var)(p1:Var->a_ X'):a_ X':=(fL s0 p1).bind λu=>some (decide (u>=0))
abbrev qJ(g1:FuncId)(e1:aZ V)(p1:Var->a_ Bool)(a:lW Sy cL g1 [] e1 (λz:Var=>[enc z]) (λr:Bool=>[.bool r]) p1 true)(s0:Sl Var):Fc Sy cL (hU s0 p1):=Fc.M 166 [enc s0,.clo g1 [] e1] (bG (F:=oJ g1 e1 p1 a s0) 9 λu _=>bh)
namespace fh
def br(D:Sl Var)(G:Int)(J:bX)(B:Int):a_ (Fw Int Unit Int):=bl (decide (B<G)) ((idx D B).bind λu=>(gO u.name).bind λI=>(bl I ((fZ J.vars none (some B)).bind λL=>(hU L (λz=>kj z u)).bind λO=>some O) (some true):a_ X').bind λw=>bl w (some (.r 13)) ((oF u.init_ (-1073741824) 1073741824).bind λC=>bl C (some (.n (wrap .i64 (B+1)))) (some (.r 2)))) (some (.x ()))
def W1(D:Sl Var)(G J:Int)(B:bX):QQ:=(bS (λq:Int=>br D G B q) J).bind (Fw.elim (λe=>bl (decide ((len B.events)>64)) (some 5) (some 0)) (λe=>some e))
end fh
def fh(G:Z4)(p1:Int):QQ:=(idx G.procs p1).bind λu=>(gO u.name).bind λw=>(bl w ((fZ G.procs none (some p1)).bind λB=>(iZ B (λz=>ko z u)).bind λC=>some C) (some true):a_ X').bind λD=>bl D (some 13) (bl (decide ((len u.vars)>8)) (some 5) (fh.W1 u.vars (len u.vars) 0 u))
open fh in
instance NG(D:Z4)(p1:Int):Fc Sy cL (fh D p1):=Fc.M 128 [enc D,.int .i64 p1] (cu 2 2 D (bP 8 λu _=>pM 2 5 0 u (bG 8 λO _=>ck 2 7 [1,2,18] 25 (cZ 2 18 (AJ 3 false true [.int .i64 p1] λG _=>cV (F:=wM 165 [.fptr (cells u)] (λz=>ko z u) lW.sw G) 1 λQ _=>bF 1) (bF 7)) λS=>bB 3 13 bh (bZ 5 u.vars (bB 4 26 bh (bZ 9 u.vars (dZ 5 (λB=>(bL [Pv 5,Cv 32 u.vars,Iv 33 (len u.vars),Iv 34 B] [Xb 5 u])) (λw=>(1,(bL [Pv 5] [Xb 5 u]))) (λw=>(bL [Iv 4 w] [])) (λB=>bB 7 35 (bP 8 λC _=>bG 11 λT _=>ck 2 7 [6,44] 51 (cZ 2 44 (AJ 3 false true [.int .i64 B] λI _=>cV (F:=qJ 167 [.fptr (cells C)] (λz=>kj z C) lW.sw I) 1 λU _=>bF 1) (bF 7)) λJ=>bB 3 39 bh (bG 5 λL _=>cZ 4 52 bh bh)) bh) (λw=>bZ 7 u.events (bB 3 61 bh bh)) (λw=>bh))))))))
def jS(B:Z4):a_ Z4:=some B
instance WT(B:Z4):Fc Sy cL (jS B):=Fc.NE (λr:Z4=>[(.clo 168 [] [.fptr (cells r)])]) 129 [enc B] (cu 2 1 B bh)
namespace iY
def J1(p1:Int)(D:X')(G:Z4)(B:WF):a_ X':=bl D ((oF B.peer 0 (wrap .i64 ((len G.procs)-1))).bind λu=>(bl u (some (!(B.peer==p1))) (some false):a_ X').bind λw=>(bl w ((oF B.message 0 199).bind λz=>some z) (some false):a_ X').bind λC=>some C) (some false)
end iY
def iY(B:Z4)(p1:Int)(e2:WF):a_ X':=bl (e2.kind==1) ((bl (e2.peer==0) (some (e2.message==0)) (some false):a_ X').bind λu=>some u) (bl (e2.kind==2) (iY.J1 p1 true B e2) (iY.J1 p1 (e2.kind==3) B e2))
open iY in
instance Xn(B:Z4)(p1:Int)(e2:WF):Fc Sy cL (iY B p1 e2):=Fc.M 169 [enc B,.int .i64 p1,enc e2] (cu 2 3 B (cu 0 5 e2 (bB 17 9 (ck 7 4 [5,14] 18 (bB 7 14 (bF 4) (bF 4)) λD=>bh) (bB 8 19 (ud 4 (bB 0 19 (bZ 7 B.procs (bG 1 λu _=>ck 1 5 [1,29] 34 (bB 1 29 (bF 5) (bF 5)) λw=>ck 1 4 [5,35] 39 (bB 1 35 (bG 2 λz _=>bF 1) (bF 4)) λC=>bh)) bh)) (ud 7 (bB 0 19 (bZ 7 B.procs (bG 1 λu _=>ck 1 5 [1,29] 34 (bB 1 29 (bF 5) (bF 5)) λw=>ck 1 4 [5,35] 39 (bB 1 35 (bG 2 λz _=>bF 1) (bF 4)) λC=>bh)) bh))))))
def lu(B D:Assign):a_ X':=some (B.var==D.var)
instance Mn(B D:Assign):Fc Sy cL (lu B D):=Fc.M 171 [enc B,.fptr (cells D)] (bh)
namespace gj
def br(s0:Sl Assign)(D:Int)(B:Int)(p1:Assign->a_ X'):a_ (Fw Int Unit Int):=bl (decide (B<D)) ((idx s0 B).bind λu=>(p1 u).bind λw=>bl w (some (.r B)) (some (.n (wrap .i64 (B+1))))) (some (.x ()))
def W1(s0:Sl Assign)(B D:Int)(p1:Assign->a_ X'):QQ:=(bS (λq:Int=>br s0 B q p1) D).bind (Fw.elim (λe=>some (-1)) (λe=>some e))
end gj
def gj(s0:Sl Assign)(p1:Assign->a_ X'):QQ:=gj.W1 s0 (len s0) 0 p1
open gj in
abbrev w6(g1:FuncId)(e1:aZ V)(p1:Assign->a_ Bool)(a:lW Sy cL g1 [] e1 (λz:Assign=>[enc z]) (λr:Bool=>[.bool r]) p1 true)(s0:Sl Assign):Fc Sy cL (gj s0 p1):=Fc.M 208 [enc s0,.clo g1 [] e1] (bZ 9 s0 (dZ 5 (λw=>(bL [Cv 0 s0,(1,.v (.clo g1 [] e1)),Iv 7 (len s0),Iv 8 w] [])) (λu=>(0,(bL [] []))) (λu=>(bL [Iv 4 u] [])) (λw=>bB 7 9 (bP 16 λB _=>yJ 1 a.f B λC _=>bB 2 16 bh bh) bh) (λu=>bh) (λu=>bh)))
def iC(s0:Sl Assign)(p1:Assign->a_ X'):a_ X':=(gj s0 p1).bind λu=>some (decide (u>=0))
abbrev vv(g1:FuncId)(e1:aZ V)(p1:Assign->a_ Bool)(a:lW Sy cL g1 [] e1 (λz:Assign=>[enc z]) (λr:Bool=>[.bool r]) p1 true)(s0:Sl Assign):Fc Sy cL (iC s0 p1):=Fc.M 170 [enc s0,.clo g1 [] e1] (bG (F:=w6 g1 e1 p1 a s0) 9 λu _=>bh)
namespace dV
def bT(D:Sl Assign)(G:Int)(J:WF)(U:bX)(B:Int):a_ (Fw Int Unit Int):=bl (decide (B<G)) ((idx D B).bind λu=>(oF u.var 0 (wrap .i64 ((len U.vars)-1))).bind λI=>(bl I ((oF u.value (-1073741824) 1073741824).bind λL=>some (!L)) (some true):a_ X').bind λO=>bl O (some (.r 2)) ((fZ J.assign none (some B)).bind λw=>(iC w (λz=>lu z u)).bind λC=>bl C (some (.r 8)) (some (.n (wrap .i64 (B+1)))))) (some (.x ()))
def W2(B:Sl Assign)(D G:Int)(J:WF)(U:bX):QQ:=(bS (λq:Int=>bT B D J U q) G).bind (Fw.elim (λe=>some 0) (λe=>some e))
def J1(D:Int)(J:Z4)(G:bf)(B:WF)(U:bX):QQ:=(iY J G.proc B).bind λu=>bl u ((oF B.time 0 1099511627776).bind λw=>(bl w (some (decide (B.time<D))) (some true):a_ X').bind λz=>bl z (some 11) (bl (decide ((len B.assign)>8)) (some 5) (dV.W2 B.assign (len B.assign) 0 B U))) (some 3)
theorem qC(D:Int)(U:Z4)(J:bf)(B:WF)(G:bX):Le ((J1 D U J B G).bind (λr=>some [.int .i64 r])) (cg Sy cL (qZ (tr Tx 130)) (uJ (tb Tx 130) [1,1,1,1,0] [] (bL [Pv 3,Pv 4,Pv 5,Pv 7,Iv 8 D] [Xb 3 U,Xb 4 J,Xb 5 B,Xb 7 G]))):=bG 8 λO _=>cZ 4 28 (bG 5 λQ _=>ck 2 5 [8,40] 45 (cZ 2 40 (bF 5) (bF 5)) λS=>bB 3 35 bh (bZ 5 B.assign (bB 4 46 bh (bZ 9 B.assign (dZ 5 (λw=>(bL [Pv 5,Pv 7,Cv 52 B.assign,Iv 53 (len B.assign),Iv 54 w] [Xb 5 B,Xb 7 G])) (λu=>(1,(bL [] []))) (λu=>(bL [Iv 6 u] [])) (λw=>bB 7 55 (bP 8 λC _=>bZ 13 G.vars (bG 1 λT _=>ck 2 5 [68] 73 (cZ 2 68 (bG 2 λW _=>bF 2) (bF 5)) λX=>bB 3 59 bh (AJ 6 false true [.int .i64 w] λI _=>cV (F:=vv 171 [.fptr (cells C)] (λz=>lu z C) lW.sw I) 1 λL _=>bB 3 74 bh bh))) bh) (λu=>bh) (λu=>bh)))))) bh
end dV
def dV(D:Z4)(B:bf)(e2:WF):QQ:=(idx D.procs B.proc).bind λu=>bl (decide (B.index>1)) ((idx u.events (wrap .i64 (B.index-2))).bind λw=>dV.J1 w.time D B e2 u) (dV.J1 0 D B e2 u)
open dV in
instance Qy(D:Z4)(B:bf)(e2:WF):Fc Sy cL (dV D B e2):=Fc.M 130 [enc D,enc B,enc e2] (cu 2 3 D (cu 1 5 e2 (bP 9 λu _=>pM 2 7 0 u (bB 15 19 (bP 7 λw _=>zl 6 (qC w.time D B e2 u)) (zl 4 (qC 0 D B e2 u))))))
def rG(e0:WF)(B D:Int):a_ X':=(bl (e0.kind==2) (some (e0.message==B)) (some false):a_ X').bind λu=>(bl u (some (e0.peer==D)) (some false):a_ X').bind λw=>some w
instance S0(e0:WF)(B D:Int):Fc Sy cL (rG e0 B D):=Fc.M 209 [enc e0,.fptr (cells B),.fptr (cells D)] (cu 2 3 e0 (ck 9 5 [1,8] 13 (bB 9 8 (bF 5) (bF 5)) λu=>ck 1 5 [2,3,14] 19 (bB 1 14 (bF 5) (bF 5)) λw=>bh))
def vB(D:Z4)(p1 G B:Int):a_ X':=(idx D.procs p1).bind λu=>(gE u.events (λz=>rG z G B)).bind λw=>some w
instance XE(G:Z4)(p1 D B:Int):Fc Sy cL (vB G p1 D B):=Fc.M 172 [enc G,.int .i64 p1,.int .i64 D,.int .i64 B] (cu 2 4 G (bP 10 λu _=>cV (F:=lT 209 [.fptr (cells D),.fptr (cells B)] (λz=>rG z D B) lW.sw u.events) 3 λw _=>bh))
namespace fm
def kr(D G:Z4)(J:a_ (cq 200 bD))(U:bf)(W:Int)(x:bf×WF)(B:cq 200 bD):a_ (Fw (cq 200 bD) Empty (bf×Int×(cq 200 bD))):=bl (x.2.kind==2) ((cq.at B x.2.message).bind λu=>bl (decide (u.from_.index>0)) (some (.r (x.1,8,B))) ((cq.at B x.2.message).bind λw=>some (.n (cq.set B x.2.message (⟨x.1,w.to_⟩:bD))))) (bl (x.2.kind==3) ((cq.at B x.2.message).bind λz=>bl (decide (z.to_.index>0)) (some (.r (x.1,8,B))) ((vB G x.2.peer x.2.message x.1.proc).bind λC=>bl C ((cq.at B x.2.message).bind λI=>some (.n (cq.set B x.2.message (⟨I.from_,x.1⟩:bD)))) (some (.r (x.1,7,B))))) (some (.n B)))
def E1(B G:Z4)(J:a_ (cq 200 bD))(U:bf)(W:Int)(D:cq 200 bD):a_ ((a_ (cq 200 bD))×bf×Int):=(jG B).bind λu=>(lq (λ(x:bf×WF)(q:cq 200 bD)=>kr B G J U W x q) u D).bind (Fw.rV (λq=>some (some q,⟨0,0⟩,0)) (λe=>elim e) (λe=>some ((none:a_ (cq 200 bD)),e.1,e.2.1)))
end fm
def fm(B:Z4):a_ ((a_ (cq 200 bD))×bf×Int):=(jS B).bind λu=>fm.E1 u B (none:a_ (cq 200 bD)) (⟨0,0⟩:bf) 0 (cq.PN 200 (⟨⟨0,0⟩,⟨0,0⟩⟩:bD))
open fm in
instance Nn(D:Z4):Fc Sy cL (fm D):=Fc.N 131 [enc D] (cu 2 1 D (cu 8 10 (cq.PN 200 (⟨⟨0,0⟩,⟨0,0⟩⟩:bD)) (Y9 0 5 (bL [Pv 1,Pv 2,Pv 3,Pv 4,Pv 10] [Xb 1 D,(2,.box [cv (none:a_ (cq 200 bD))]),Xb 3 (⟨0,0⟩:bf),(4,.box [iv 0]),Xb 10 (cq.PN 200 (⟨⟨0,0⟩,⟨0,0⟩⟩:bD))]) [cv (none:a_ (cq 200 bD))] (by simp only[bL,zF,r_,tQ,rF,tF,uN,tJ,vn,si,tB,zM,vc,u6,vt,uZ,xE,xD,tW,vk];rfl) (bG 7 λB _=>Gp λO C=>Ct 4 [Pv 1,Pv 2,Pv 3,Pv 4,Pv 5,(12,.v (.clo 168 [] [.fptr (cells B)]))] (λw=>[Xb 1 D,(2,.box [cv (none:a_ (cq 200 bD))]),Xb 3 (⟨0,0⟩:bf),(4,.box [iv 0]),(5,.box [.ptr 10 0]),Xb 10 w]) (λz=>elim z) (λz=>[Xb 1 D,(2,.box [cv (none:a_ (cq 200 bD))]),Xb 3 z.1,(4,.box [iv z.2.1]),(5,.box [.ptr 10 0]),Xb 10 z.2.2]) (AO B O C) (λu w=>Y9 2 6 ⟨[Pv 1,Pv 2,Pv 3,Pv 4,Pv 5,(12,.v (.clo 168 [] [.fptr (cells B)])),Cv 13 u.1,Cv 14 u.2],[Xb 1 D,(2,.box [cv (none:a_ (cq 200 bD))]),Xb 3 (⟨0,0⟩:bf),(4,.box [iv 0]),(5,.box [.ptr 10 0]),Xb 10 w],[1,2,3,4,5],[],true,0⟩ [iv 0,iv 0] (by simp only[bL,zF,r_,tQ,rF,tF,uN,tJ,vn,si,tB,zM,vc,u6,vt,uZ,xE,xD,tW,vk];rfl) (Y9 4 7 ⟨[Pv 1,Pv 2,Pv 3,Pv 4,Pv 5,(12,.v (.clo 168 [] [.fptr (cells B)])),Cv 14 u.2,Pv 6],[Xb 1 D,(2,.box [cv (none:a_ (cq 200 bD))]),Xb 3 (⟨0,0⟩:bf),(4,.box [iv 0]),(5,.box [.ptr 10 0]),Xb 10 w,Xb 6 u.1],[1,2,3,4,5],[],true,0⟩ [iv 0,iv 0,iv 0,iv 0,.v .bO] (by simp only[bL,zF,r_,tQ,rF,tF,uN,tJ,vn,si,tB,zM,vc,u6,vt,uZ,xE,xD,tW,vk];rfl) (pM 0 7 0 u.2 (zL 1 (bB 22 19 (IY 7 .i64 10 λG Q=>UZ 2 1 false 10 w u.2.message 1 G Q (.int .i64 G.from_.index) (by rfl) (bB 3 28 bh (IY 8 .i64 10 λI S=>U4 1 10 w u.2.message 0 I S (⟨u.1,I.to_⟩:bD) u.1 rfl bh))) (bB 7 36 (IY 7 .i64 10 λJ T=>UZ 2 1 false 10 w u.2.message 3 J T (.int .i64 J.to_.index) (by rfl) (bB 3 45 bh (bG 12 λW _=>cZ 3 54 (IY 8 .i64 10 λL U=>U4 1 10 w u.2.message 2 L U (⟨L.from_,u.1⟩:bD) u.1 rfl bh) bh))) bh)))))) (λw=>aau 13 (bL [Pv 2,Pv 3,Pv 4] [(2,.box [.ptr 10 0]),Xb 3 (⟨0,0⟩:bf),(4,.box [iv 0]),Xb 10 w]) [.ptr 10 0,cv (⟨0,0⟩:bf),iv 0] (WM (d:=10) (x:=w) (vs:=[enc (⟨0,0⟩:bf),.int .i64 0]) Zae) Zae) (λx=>elim x) (λz=>bh)))))
namespace jK
def J1(D:cq 200 bD)(B:Sl bf)(J:Sl WF)(G:bf):a_ (Sl bf):=(idx J (wrap .i64 (G.index-1))).bind λu=>(bl (u.kind==2) ((cq.at D u.message).bind λw=>some (decide (w.to_.index>0))) (some false):a_ X').bind λz=>bl z ((cq.at D u.message).bind λC=>(gw B (C.to_:bf)).bind λI=>some I) (some B)
theorem qC(B:cq 200 bD)(D:Sl bf)(J:Sl WF)(G:bf):Le ((J1 B D J G).bind (λr=>some [enc r])) (cg Sy cL (qZ (tr Tx 173)) (uJ (tb Tx 173) [1,1,1,1,0,0] [] (bL [Kv 1 B,Pv 5,Ov 7,Cv 8 J] [Xb 5 G,Lb 2007 D]))):=bP 7 λu _=>pM 2 9 0 u (ck 8 10 [40] 50 (bB 8 40 (NZ 4 .i64 λw z=>Td 0 2 B u.message 0 w z (Td 0 1 B u.message 2 w z (Nw 0 1 false B u.message 3 w z (.int .i64 w.to_.index) (by rfl) (bF 2)))) (bF 10)) λL=>bB 2 50 (NZ 7 .i64 λC I=>Td 0 2 B u.message 0 C I (Nw 0 2 true B u.message 2 C I (enc C.to_) (by rfl) (ow 1 2007 59 60 λO _=>bh))) bh)
end jK
def jK(D:Z4)(B:cq 200 bD)(x2:bf):a_ (Sl bf):=(idx D.procs x2.proc).bind λu=>bl (decide (x2.index<(len u.events))) (jK.J1 B (Sl.row [⟨x2.proc,wrap .i64 (x2.index+1)⟩]:Sl bf) u.events x2) (jK.J1 B (Sl.nil:Sl bf) u.events x2)
open jK in
instance XI(D:Z4)(B:cq 200 bD)(x2:bf):Fc Sy cL (jK D B x2):=Fc.N 173 [enc D,.fptr (cells B),enc x2] (cu 2 3 D (bP 15 λu _=>bZ 11 u.events (bB 3 21 (Vf 10 29 30 .bO (⟨x2.proc,wrap .i64 (x2.index+1)⟩:bf) (zl 5 (qC B (Sl.row [⟨x2.proc,wrap .i64 (x2.index+1)⟩]:Sl bf) u.events x2))) (zl 5 (qC B (Sl.nil:Sl bf) u.events x2)))))
namespace ja
def fe(U:Z4)(W:Sl bf)(Y:Int)(a:Z4)(b:cq 200 bD)(c:bf)(d:X')(J:bf)(B:Sl bf)(G:Int)(D:Mo bf X'):a_ (Fw ((Sl bf)×Int×(Mo bf X')) ((Sl bf)×(Mo bf X')) Unit):=bl (decide (G<Y)) ((idx W G).bind λu=>bl (My u J) (some (.r ())) (bl (ov D u false) (some (.n (B,wrap .i64 (G+1),D))) ((gw B (u:bf)).bind λw=>some (.n (w,wrap .i64 (G+1),mP D u true))))) (some (.x (B,D)))
def W3(D:Sl bf)(B:Z4)(U:Sl bf)(W Y:Int)(a:Z4)(b:cq 200 bD)(c:bf)(d:X')(G:bf)(J:Mo bf X'):a_ (Fw ((Sl bf)×(Mo bf X')) Unit Unit):=(bS (λq:(Sl bf)×Int×(Mo bf X')=>fe B U W a b c d G q.1 q.2.1 q.2.2) (D,Y,J)).bind (Fw.elim (λe=>some (.n (e.1,e.2))) (λe=>some (.r ())))
def bT(D G:Z4)(J:cq 200 bD)(Y:bf)(a:X')(U:bf)(B:Sl bf)(W:Mo bf X'):a_ (Fw ((Sl bf)×(Mo bf X')) Unit Unit):=bl (decide ((len B)>0)) ((Sl.jR B (wrap .i64 ((len B)-1))).bind λw=>(Sl.get B w).bind λz=>(qa B none (some (wrap .i64 ((len B)-1)))).bind λC=>(jK G J z).bind λu=>W3 C D u (len u) 0 G J Y a U W) (some (.x ()))
def W2(G:Sl bf)(B U:Z4)(W:cq 200 bD)(Y:bf)(a:X')(D:bf)(J:Mo bf X'):a_ (Fw Unit Empty bf):=(bS (λq:(Sl bf)×(Mo bf X')=>bT B U W Y a D q.1 q.2) (G,J)).bind (Fw.elim (λe=>some (.n ())) (λe=>some (.r D)))
def kr(B D:Z4)(G:cq 200 bD)(J:bf)(U:X')(x:bf×WF):a_ (Fw Unit Empty bf):=W2 (Sl.row [x.1]:Sl bf) B D G J U x.1 []
def E1(B D:Z4)(G:cq 200 bD)(J:bf)(U:X'):a_ (bf×X'):=(jG B).bind λu=>(lq (λ(x:bf×WF)(q:Unit)=>kr B D G J U x) u ()).bind (Fw.rV (λq=>some (⟨0,0⟩,false)) (λe=>elim e) (λe=>some (e,true)))
end ja
def ja(B:Z4)(D:cq 200 bD):a_ (bf×X'):=(jS B).bind λu=>ja.E1 u B D (⟨0,0⟩:bf) false
open ja in
instance W9(B:Z4)(G:cq 200 bD):Fc Sy cL (ja B G):=Fc.M 132 [enc B,.fptr (cells G)] (cu 2 2 B (bG 9 λw _=>Gp λU Q=>Ct 4 [Pv 2,Pv 3,Pv 4,Pv 5,(13,.v (.clo 168 [] [.fptr (cells w)]))] (λS=>[Xb 2 B,(3,.box [cp G]),Xb 4 (⟨0,0⟩:bf),(5,.box [bv false])]) (λI=>elim I) (λI=>[Xb 2 B,(3,.box [cp G]),Xb 4 I,(5,.box [bv true])]) (AO w U Q) (λC S=>zL 4 (dZ 18 (λu=>⟨[Pv 2,Pv 3,Pv 4,Pv 5,Pv 6,(7,.mp 16),Ov 8,(13,.v (.clo 168 [] [.fptr (cells w)]))],[Xb 2 B,(3,.box [cp G]),Xb 4 (⟨0,0⟩:bf),(5,.box [bv false]),Xb 6 C.1,(16,vu u.2),Lb 2008 u.1],[2,3,4,5],[],true,0⟩) (λJ=>(2,⟨[Pv 2,Pv 3,Pv 4,Pv 5,(13,.v (.clo 168 [] [.fptr (cells w)]))],[Xb 2 B,(3,.box [cp G]),Xb 4 (⟨0,0⟩:bf),(5,.box [bv false])],[2,3,4,5],[],true,0⟩)) (λJ=>⟨[],[Xb 2 B,(3,.box [cp G]),Xb 4 C.1,(5,.box [bv true])],[2,3,4,5],[],true,0⟩) (λu=>Ed 6 2008 u.1 (bB 3 21 (Ed 8 2008 u.1 (kg .i64 1 2008 λW _=>qA 0 2008 0 2 true (λL=>.agg [.int .i64 L.proc,.int .i64 L.index]) λL _=>Ed 8 2008 u.1 (aay 1 false true 2008 32 [.int .i64 (wrap .i64 ((len u.1)-1))] λX _=>bG 8 λO _=>bZ 0 O (dZ 6 (λz=>⟨[Pv 2,Pv 3,Pv 4,Pv 5,Pv 6,(7,.mp 16),Ov 8,(13,.v (.clo 168 [] [.fptr (cells w)])),Cv 36 O,Iv 37 (len O),Iv 38 z.2.1],[Xb 2 B,(3,.box [cp G]),Xb 4 (⟨0,0⟩:bf),(5,.box [bv false]),Xb 6 C.1,(16,vu z.2.2),Lb 2008 z.1],[2,3,4,5],[],true,0⟩) (λD=>(4,⟨[Pv 2,Pv 3,Pv 4,Pv 5,Pv 6,(7,.mp 16),Ov 8,(13,.v (.clo 168 [] [.fptr (cells w)]))],[Xb 2 B,(3,.box [cp G]),Xb 4 (⟨0,0⟩:bf),(5,.box [bv false]),Xb 6 C.1,(16,vu D.2),Lb 2008 D.1],[2,3,4,5],[],true,0⟩)) (λD=>⟨[],[Xb 2 B,(3,.box [cp G]),Xb 4 C.1,(5,.box [bv true])],[2,3,4,5],[],true,0⟩) (λz=>bB 8 39 (bP 7 λT _=>bB 13 44 bh (ZM 7 16 z.2.2 T false (cZ 3 49 bh (Ya 5 16 z.2.2 T true (ow 6 2008 54 55 λY _=>bh))))) bh) (λD=>bh) (λD=>bh))))) bh)) (λJ=>bh) (λJ=>bh))) (λS=>bh) (λx=>elim x) (λI=>bh)))
namespace iE
def Mm(B D:Z4)(G:bf)(J:Int)(x:bf×WF):a_ (Fw Unit Empty (bf×Int)):=(dV D x.1 x.2).bind λu=>bl (u==0) (some (.n ())) (some (.r (x.1,u)))
def E2(B D:Z4)(G:bf)(J:Int):a_ (bf×Int):=(jG B).bind λz=>(lq (λ(x:bf×WF)(q:Unit)=>Mm B D G J x) z ()).bind (Fw.rV (λq=>(fm D).bind λu=>bl (u.2.2==0) ((u.1).bind λC=>(ja D C).bind λw=>bl w.2 (some (w.1,10)) (some (⟨0,0⟩,0))) (some (u.2.1,u.2.2))) (λe=>elim e) (λe=>some (e.1,e.2)))
def br(D:Int)(G:Z4)(J:bf)(U:Int)(B:Int):a_ (Fw Int Unit (bf×Int)):=bl (decide (B<D)) ((fh G B).bind λu=>bl (u==0) (some (.n (wrap .i64 (B+1)))) (some (.r ((⟨B,0⟩:bf),u)))) (some (.x ()))
def W1(J U:Int)(B:Z4)(D:bf)(G:Int):a_ (bf×Int):=(bS (λq:Int=>br J B D G q) U).bind (Fw.elim (λe=>(jS B).bind λu=>iE.E2 u B D G) (λe=>some (e.1,e.2)))
end iE
def iE(B:Z4):a_ (bf×Int):=(oF (len B.procs) 1 8).bind λu=>bl u (iE.W1 (len B.procs) 0 B (⟨0,0⟩:bf) 0) (some (⟨0,0⟩,1))
open iE in
instance XJ(B:Z4):Fc Sy cL (iE B):=Fc.M 97 [enc B] (cu 2 1 B (bZ 9 B.procs (bG 0 λO _=>cZ 3 18 (bZ 8 B.procs (dZ 5 (λC=>(bL [Pv 1,Pv 2,Pv 3,Iv 22 (len B.procs),Iv 23 C] [Xb 1 B,Xb 2 (⟨0,0⟩:bf),(3,.box [iv 0])])) (λu=>(0,(bL [Pv 1,Pv 2,Pv 3] [Xb 1 B,Xb 2 (⟨0,0⟩:bf),(3,.box [iv 0])]))) (λu=>(bL [Pv 2,Pv 3] [Xb 2 u.1,(3,.box [iv u.2])])) (λC=>bB 7 24 (bG 15 λQ _=>cZ 9 30 bh bh) bh) (λu=>bG 6 λz _=>Gp λJ D=>Ct 4 [Pv 1,Pv 2,Pv 3,(36,.v (.clo 168 [] [.fptr (cells z)]))] (λG=>[Xb 1 B,Xb 2 (⟨0,0⟩:bf),(3,.box [iv 0])]) (λw=>elim w) (λw=>[Xb 1 B,Xb 2 w.1,(3,.box [iv w.2])]) (AO z J D) (λL G=>pM 8 7 0 L.2 (zL 1 (bG 7 λS _=>cZ 9 44 bh bh))) (λG=>bG 5 λI _=>cZ 17 54 (F9 8 (λT=>(bL [Pv 2,Pv 3,(36,.v (.clo 168 [] [.fptr (cells z)])),Pv 10,Iv 11 I.2.2,Bv 54 false,Cv 58 B,Cv 59 T] [Xb 1 B,Xb 2 (⟨0,0⟩:bf),(3,.box [iv 0]),Xb 10 I.2.1])) λU _=>bG 0 λW _=>bB 13 63 bh bh) bh) (λx=>elim x) (λw=>bh)) (λu=>bh))) bh)))
def cH(B:Z4):a_ X':=(iE B).bind λu=>some (u.2==0)
instance XH(B:Z4):Fc Sy cL (cH B):=Fc.M 56 [enc B] (cu 2 1 B (bG 6 λu _=>bh))
def uX(B:Int):a_ X':=(bl (B==2) (some true) (some (B==3)):a_ X').bind λu=>(bl u (some true) (some (B==4)):a_ X').bind λw=>some w
instance Tp(B:Int):Fc Sy cL (uX B):=Fc.M 216 [.int .i64 B] (ck 10 3 [5] 8 (bB 10 5 (bF 3) (bF 3)) λu=>ck 1 3 [0,9] 12 (bB 1 9 (bF 3) (bF 3)) λw=>bh)
def kX(B:Pred):a_ X':=(bl (decide (B.kind<1)) (some true) (some (decide (B.kind>=22))):a_ X').bind λz=>(bl z (some true) ((cq.at AW B.kind).bind λC=>some (!((len B.l)==C))):a_ X').bind λD=>(bl D (some true) (some (decide (B.n<0))):a_ X').bind λG=>(bl G (some true) (some (decide (B.n>1125899906842624))):a_ X').bind λI=>(bl I (some true) ((bl (B.n==0) (some false) (some (!(B.kind==1))):a_ X').bind λJ=>some J):a_ X').bind λL=>bl L (some false) ((uX B.kind).bind λO=>(bl O (some true) ((bl (B.proc==0) (some (B.peer==0)) (some false):a_ X').bind λQ=>(bl Q (some (toList B.name==toList ByteArray.empty)) (some false):a_ X').bind λu=>some u):a_ X').bind λw=>some w)
instance Uy(B:Pred):Fc Sy cL (kX B):=Fc.M 179 [enc B] (cu 2 1 B (ck 10 4 [6] 10 (bB 10 6 (bF 4) (bF 4)) λD=>ck 1 9 [11] 20 (bB 1 11 (bF 9) (jF 2 13 (Pred.mC B.l) (bZ 0 B.l (NZ 2 .i64 λu w=>Nw 0 1 false AW B.kind 0 u w (.int .i64 u) (by rfl) (bF 2))))) λG=>ck 1 4 [21] 25 (bB 1 21 (bF 4) (bF 4)) λI=>ck 1 4 [26] 30 (bB 1 26 (bF 4) (bF 4)) λJ=>ck 1 9 [31] 40 (bB 1 31 (bF 9) (ck 4 4 [35] 39 (cZ 4 35 (bF 4) (bF 4)) λL=>bF 1)) λO=>bB 2 40 bh (bG 7 λQ _=>ck 1 14 [1,44] 58 (bB 1 44 (bF 14) (ck 4 4 [48] 52 (bB 4 48 (bF 4) (bF 4)) λS=>ck 1 4 [1,53] 57 (bB 1 53 (bF 4) (bF 4)) λz=>bF 1)) λC=>bh)))
def iS(D:Pred)(G B:Int)(r:(Pred×Int×Int)->a_ (X'×Int)):a_ (X'×Int):=(r (D,wrap .i64 (G+1),B)).bind λu=>some ((!u.1),u.2)
abbrev yq(r:(Pred×Int×Int)->a_ (Bool×Int))(a:yf Sy cL 178 (λz:Pred×Int×Int=>[cv z.1,iv z.2.1,.ptr 9004 0,.ptr 9003 0]) (λz:Pred×Int×Int=>[(9004,bx (z.2.2:Int)),(9003,.box [.clo 178 [] [.ptr 9004 0,.ptr 9003 0]])]) (λr:Bool×Int=>[.bool r.1]) (λ(z:Pred×Int×Int)(r:Bool×Int)=>[(9004,bx (r.2:Int)),(9003,.box [.clo 178 [] [.ptr 9004 0,.ptr 9003 0]])]) r)(D:Pred)(G B:Int):ou Sy cL (iS D G B r):=ou.mk' 180 [cv D,.ptr 9003 0,.v (.fptr (cells G))] [(9003,.box [.clo 178 [] [.ptr 9004 0,.ptr 9003 0]]),(9004,bx (B:Int))] (λr:Bool×Int=>[.bool r.1]) (λr:Bool×Int=>[(9003,.box [.clo 178 [] [.ptr 9004 0,.ptr 9003 0]]),(9004,bx (r.2:Int))]) (cu 2 3 D (uo 9 (ou.of (D,wrap .i64 (G+1),B) a) λu _=>bh))
def fc(G:Pred)(B D:Int)(r:(Pred×Int×Int)->a_ (X'×Int)):a_ (X'×Int):=(bl (decide ((wrap .i64 (D-1))<0)) (some true) (some (decide (B>20))):a_ X').bind λw=>(bl w (some true) ((kX G).bind λz=>some (!z)):a_ X').bind λC=>bl C (some (false,wrap .i64 (D-1))) ((AS G.l (λx s=>iS x B s r) (wrap .i64 (D-1))).bind λu=>some ((!u.1),u.2))
theorem yp(r:(Pred×Int×Int)->a_ (X'×Int))(a:yf Sy cL 178 (λz:Pred×Int×Int=>[cv z.1,iv z.2.1,.ptr 9004 0,.ptr 9003 0]) (λz:Pred×Int×Int=>[(9004,bx (z.2.2:Int)),(9003,.box [.clo 178 [] [.ptr 9004 0,.ptr 9003 0]])]) (λr:X'×Int=>[.bool r.1]) (λ(z:Pred×Int×Int)(r:X'×Int)=>[(9004,bx (r.2:Int)),(9003,.box [.clo 178 [] [.ptr 9004 0,.ptr 9003 0]])]) r)(D:Pred)(B G:Int):∀J,fc D B G r=some J->∃m',cL 178 [cv D,iv B,.ptr 9004 0,.ptr 9003 0] [(9004,bx (G:Int)),(9003,.box [.clo 178 [] [.ptr 9004 0,.ptr 9003 0]])]=some (((λr:X'×Int=>[.bool r.1]) J).map .v,m')/\∀U,lC m' ([(9004,bx (G:Int)),(9003,.box [.clo 178 [] [.ptr 9004 0,.ptr 9003 0]])].map (·.1)) U=some (pX U ((λr:X'×Int=>[(9004,bx (r.2:Int)),(9003,.box [.clo 178 [] [.ptr 9004 0,.ptr 9003 0]])]) J)):=(ou.mk' 178 [cv D,iv B,.ptr 9004 0,.ptr 9003 0] [(9004,bx (G:Int)),(9003,.box [.clo 178 [] [.ptr 9004 0,.ptr 9003 0]])] (λr:X'×Int=>[.bool r.1]) (λr:X'×Int=>[(9004,bx (r.2:Int)),(9003,.box [.clo 178 [] [.ptr 9004 0,.ptr 9003 0]])]) (cu 2 4 D (ck 17 3 [11] 14 (bB 17 11 (bF 3) (bF 3)) λu=>ck 1 4 [15] 19 (bB 1 15 (bF 4) (bG 1 λw _=>bF 2)) λC=>bB 2 19 bh (jF 7 21 (Pred.mC D.l) (uo 2 (qh (yC.ofK (σ:=Int) (g:=180) (e:=[.ptr 9003 0,cp B]) (os:=λs=>[(9003,.box [.clo 178 [] [.ptr 9004 0,.ptr 9003 0]]),(9004,bx (s:Int))]) (p:=(λx s=>iS x B s r)) (λx s=>yq r a x B s)) D.l (wrap .i64 (G-1))) λI _=>bh)))):ou Sy cL (fc D B G r)).h
def qU(D:Pred)(B G:Int):a_ (X'×Int):=iw (λr(z:Pred×Int×Int)=>fc z.1 z.2.1 z.2.2 r) 100000 (D,B,G)
abbrev Ab(D:Pred)(B G:Int):ou Sy cL (qU D B G):=ou.of (D,B,G) (yf.fix (A:=λz:Pred×Int×Int=>[cv z.1,iv z.2.1,.ptr 9004 0,.ptr 9003 0]) (O:=λz:Pred×Int×Int=>[(9004,bx (z.2.2:Int)),(9003,.box [.clo 178 [] [.ptr 9004 0,.ptr 9003 0]])]) (E:=λr:Bool×Int=>[.bool r.1]) (M:=λ(z:Pred×Int×Int)(r:Bool×Int)=>[(9004,bx (r.2:Int)),(9003,.box [.clo 178 [] [.ptr 9004 0,.ptr 9003 0]])]) (b:=(λr(z:Pred×Int×Int)=>fc z.1 z.2.1 z.2.2 r)) Zae Zae Zae (λr a z=>yp r a z.1 z.2.1 z.2.2) 100000)
def mh(B:Pred):a_ X':=(qU B 1 200).bind λu=>some u.1
instance RG(B:Pred):Fc Sy cL (mh B):=Fc.M 139 [enc B] (cu 2 1 B (uo 26 (Ab B 1 200) λu _=>bh))
def kQ(B:Z4)(p1:Int):a_ X':=(bl (decide (p1>=0)) (some (decide (p1<(len B.procs)))) (some false):a_ X').bind λu=>some u
instance RL(B:Z4)(p1:Int):Fc Sy cL (kQ B p1):=Fc.M 182 [enc B,.int .i64 p1] (cu 2 2 B (ck 8 6 [1,2,7] 13 (bB 8 7 (bZ 3 B.procs (bF 2)) (bF 6)) λu=>bh))
def oP(B:Var)(D:U'):a_ X':=some (toList B.name==toList D)
instance Pj(B:Var)(D:U'):Fc Sy cL (oP B D):=Fc.M 217 [enc B,.fptr (cells D)] (bh)
def rT(D:Z4)(p1:Int)(B:U'):a_ X':=(idx D.procs p1).bind λu=>(hU u.vars (λz=>oP z B)).bind λw=>some w
instance T4(D:Z4)(p1:Int)(B:U'):Fc Sy cL (rT D p1 B):=Fc.M 183 [enc D,.int .i64 p1,.str B] (cu 2 3 D (bP 9 λu _=>cV (F:=qJ 217 [.fptr (cells B)] (λz=>oP z B) lW.sw u.vars) 3 λw _=>bh))
def kK(B:Pred)(D:Z4):a_ X':=bl (B.kind==2) ((kQ D B.proc).bind λC=>(bl C (some (B.peer==0)) (some false):a_ X').bind λG=>(bl G ((rT D B.proc B.name).bind λI=>some I) (some false):a_ X').bind λJ=>some J) (bl (B.kind==3) ((kQ D B.proc).bind λL=>(bl L (some (B.peer==0)) (some false):a_ X').bind λO=>(bl O (some (toList B.name==toList ByteArray.empty)) (some false):a_ X').bind λQ=>some Q) (bl (B.kind==4) ((kQ D B.proc).bind λS=>(bl S ((kQ D B.peer).bind λT=>some T) (some false):a_ X').bind λu=>(bl u (some (!(B.proc==B.peer))) (some false):a_ X').bind λw=>(bl w (some (toList B.name==toList ByteArray.empty)) (some false):a_ X').bind λz=>some z) (some true)))
instance L5(B:Pred)(D:Z4):Fc Sy cL (kK B D):=Fc.M 181 [enc B,.fptr (cells D)] (cu 2 2 B (bB 17 6 (bG 6 λC _=>ck 1 4 [12] 16 (bB 1 12 (bF 4) (bF 4)) λG=>ck 1 7 [1,2,17] 24 (bB 1 17 (bG 5 λI _=>bF 1) (bF 7)) λJ=>bh) (bB 7 25 (bG 6 λL _=>ck 1 4 [31] 35 (bB 1 31 (bF 4) (bF 4)) λO=>ck 1 4 [2,36] 40 (bB 1 36 (bF 4) (bF 4)) λQ=>bh) (bB 7 41 (bG 6 λS _=>ck 1 5 [1,47] 52 (bB 1 47 (bG 3 λT _=>bF 1) (bF 5)) λu=>ck 1 6 [53] 59 (bB 1 53 (bF 6) (bF 6)) λw=>ck 1 4 [2,60] 64 (bB 1 60 (bF 4) (bF 4)) λz=>bh) bh))))
def tw(B:Pred)(p1:Pred->a_ X')(r:Pred->a_ X'):a_ X':=(r B).bind λu=>some (!u)
abbrev Bd(g1:FuncId)(e1:aZ V)(p1:Pred->a_ Bool)(b:lW Sy cL g1 [] e1 (λz:Pred=>[enc z]) (λr:Bool=>[.bool r]) p1 true)(r:Pred->a_ Bool)(a:hG Sy cL 144 (λz:Pred=>[enc z,.clo g1 [] e1]) (λr:Bool=>[.bool r]) r true)(B:Pred):Fc Sy cL (tw B p1 r):=Fc.M 190 [enc B,.fptr [.clo g1 [] e1]] (cu 2 2 B (bG (F:=Fc.of B a) 7 λu _=>bh))
def jA(D:Pred)(p1:Pred->a_ X')(r:Pred->a_ X'):a_ X':=(p1 D).bind λw=>(bl w ((AS D.l (λx u=>((λz=>tw z p1 r) x).map λb=>(b,u)) ()).bind λB=>some (!B.1)) (some false):a_ X').bind λC=>some C
theorem BC(g1:Y')(e1:T2)(p1:Pred->a_ X')(a:lW Sy cL g1 [] e1 (λz:Pred=>[enc z]) (λr:X'=>[.bool r]) p1 true)(r:Pred->a_ X')(b:hG Sy cL 144 (λz:Pred=>[enc z,.clo g1 [] e1]) (λr:X'=>[.bool r]) r true)(B:Pred):Le ((jA B p1 r).bind λr=>some [.bool r]) (jW cL 144 [enc B,.clo g1 [] e1]):=(Fc.M 144 [enc B,.clo g1 [] e1] (cu 2 2 B (yJ 8 a.f B λw _=>vI 1 6 [] (λu=>(bL [Bv 14 u] [Xb 2 B])) (bB 1 8 (jF 2 10 (Pred.mC B.l) (uo 2 (mB (yC.Zm (g:=190) (e:=[.fptr [.clo g1 [] e1]]) (p:=(λz=>tw z p1 r)) (lW.sw (F:=λz=>Bd g1 e1 p1 a r b z))) B.l ()) λC _=>bF 2)) (bF 7)) λu=>bh)):Fc Sy cL (jA B p1 r)).F.h ()
def nP(B:Pred)(p1:Pred->a_ X'):a_ X':=iw (λr(z:Pred)=>jA z p1 r) 100000 B
abbrev tZ(g1:FuncId)(e1:aZ V)(p1:Pred->a_ Bool)(a:lW Sy cL g1 [] e1 (λz:Pred=>[enc z]) (λr:Bool=>[.bool r]) p1 true)(B:Pred):Fc Sy cL (nP B p1):=Fc.of B (hG.fix (A:=λz:Pred=>[enc z,.clo g1 [] e1]) (E:=λr:Bool=>[.bool r]) (sc:=true) (b:=(λr(z:Pred)=>jA z p1 r)) Zae (λ_ _=>rfl) (λr c z=>BC g1 e1 p1 a r c z) 100000)
def oO(B:Z4)(p1:Pred):a_ X':=(nP p1 (λz=>kK z B)).bind λu=>some u
instance Pm(B:Z4)(p1:Pred):Fc Sy cL (oO B p1):=Fc.M 140 [enc B,enc p1] (cu 2 2 B (cu 0 3 p1 (cV (F:=tZ 181 [.fptr (cells B)] (λz=>kK z B) lW.sw p1) 7 λu _=>bh)))
def me(B:Int):QQ:=bl (decide (B<=8)) (some 1) (some 2)
instance RE(B:Int):Fc Sy cL (me B):=Fc.M 186 [.int .i64 B] (bB 12 4 bh bh)
def sO(B:Int):QQ:=bl (decide (B<=12)) (some 1) (some 2)
instance Uw(B:Int):Fc Sy cL (sO B):=Fc.M 187 [.int .i64 B] (bB 12 4 bh bh)
def mR(B D:Pred):a_ X':=(me B.kind).bind λu=>(sO D.kind).bind λw=>some (!(u==w))
instance LP(B D:Pred):Fc Sy cL (mR B D):=Fc.M 185 [enc B,.fptr (cells D)] (cu 2 2 B (cV 7 λu _=>cV 2 λw _=>bh))
def jt(B:Pred):a_ X':=(AS B.l (λx u=>((λz=>mR z B) x).map λb=>(b,u)) ()).bind λw=>some (!w.1)
instance Pe(B:Pred):Fc Sy cL (jt B):=Fc.M 184 [enc B] (cu 2 1 B (jF 7 4 (Pred.mC B.l) (uo 2 (mB (yC.Zm (g:=185) (e:=[.fptr (cells B)]) (p:=(λz=>mR z B)) lW.sw) B.l ()) λu _=>bh)))
def pz(B:Pred):a_ X':=(nP B (λz=>jt z)).bind λu=>some u
instance RT(B:Pred):Fc Sy cL (pz B):=Fc.M 141 [enc B] (cu 2 1 B (bG (F:=tZ 184 [] (λz=>jt z) lW.sw B) 6 λu _=>bh))
namespace dG
def bT(D:Zg)(B i4:Int):a_ (Fw (Int×Int) Int Empty):=bl (decide (i4<(len D))) ((idx D i4).bind λu=>some (.n ((if u<B then u else B),wrap .i64 (i4+1)))) (some (.x B))
def W2(B:Zg)(D i4:Int):QQ:=(bS (λq:Int×Int=>bT B q.1 q.2) (D,i4)).bind (Fw.elim (λe=>some e) (λe=>elim e))
def J1(B:Zg):QQ:=(idx B 0).bind λu=>dG.W2 B u 1
end dG
def dG(B:Zg):QQ:=bl (decide ((len B)<1)) (none) (dG.J1 B)
open dG in
instance SR(B:Zg):Fc Sy cL (dG B):=Fc.M 124 [enc B] (bZ 9 B (bB 3 7 ((Le.none _)) (ud 4 (bP 3 λz _=>ga 12 (λu=>(bL [Cv 0 B,Iv 3 u.1,Iv 4 u.2] [])) (λw=>(0,(bL [Iv 3 w] []))) (λu=>bZ 6 B (bB 3 15 (bP 9 λC _=>bh) bh)) (λw=>bh)))))
namespace fq
def bT(D:Zg)(B i4:Int):a_ (Fw (Int×Int) Int Empty):=bl (decide (i4<(len D))) ((idx D i4).bind λu=>some (.n ((if u>B then u else B),wrap .i64 (i4+1)))) (some (.x B))
def W2(B:Zg)(D i4:Int):QQ:=(bS (λq:Int×Int=>bT B q.1 q.2) (D,i4)).bind (Fw.elim (λe=>some e) (λe=>elim e))
def J1(B:Zg):QQ:=(idx B 0).bind λu=>fq.W2 B u 1
end fq
def fq(B:Zg):QQ:=bl (decide ((len B)<1)) (none) (fq.J1 B)
open fq in
instance RS(B:Zg):Fc Sy cL (fq B):=Fc.M 138 [enc B] (bZ 9 B (bB 3 7 ((Le.none _)) (ud 4 (bP 3 λz _=>ga 12 (λu=>(bL [Cv 0 B,Iv 3 u.1,Iv 4 u.2] [])) (λw=>(0,(bL [Iv 3 w] []))) (λu=>bZ 6 B (bB 3 15 (bP 9 λC _=>bh) bh)) (λw=>bh)))))
def mq(B:Zg):a_ bU:=(dG B).bind λu=>(fq B).bind λw=>some ⟨u,w⟩
instance U7(B:Zg):Fc Sy cL (mq B):=Fc.M 220 [enc B] (bG 8 λu _=>bG 1 λw _=>bh)
namespace fH
def br(U:Int)(D:Sl WF)(G:Int)(J B:Int):a_ (Fw (Int×Int) Int Empty):=bl (decide (B<G)) ((idx D B).bind λu=>(bl (u.kind==2) (some (u.peer==U)) (some false):a_ X').bind λw=>bl w (some (.n (wrap .i64 (J+1),wrap .i64 (B+1)))) (some (.n (J,wrap .i64 (B+1))))) (some (.x J))
def W1(J U:Int)(B:Sl WF)(D G:Int):QQ:=(bS (λq:Int×Int=>br J B D q.1 q.2) (U,G)).bind (Fw.elim (λe=>some e) (λe=>elim e))
end fH
def fH(B:Z4)(p1 D:Int):QQ:=(idx B.procs p1).bind λu=>fH.W1 D 0 u.events (len u.events) 0
open fH in
instance Pk(B:Z4)(p1 D:Int):Fc Sy cL (fH B p1 D):=Fc.M 232 [enc B,.int .i64 p1,.int .i64 D] (cu 2 3 B (bP 14 λu _=>bZ 2 u.events (ga 5 (λw=>(bL [Iv 2 D,Iv 7 w.1,Cv 15 u.events,Iv 16 (len u.events),Iv 17 w.2] [])) (λz=>(0,(bL [Iv 7 z] []))) (λw=>bB 7 18 (bP 7 λC _=>pM 2 9 0 C (ck 8 5 [9,24] 29 (bB 8 24 (bF 5) (bF 5)) λG=>bB 2 29 bh bh)) bh) (λz=>bh))))
def oV(B:Var)(D:U'):a_ X':=some (toList B.name==toList D)
instance Pd(B:Var)(D:U'):Fc Sy cL (oV B D):=Fc.M 259 [enc B,.fptr (cells D)] (bh)
def uO(D:bX)(B:U'):QQ:=(fL D.vars (λz=>oV z B)).bind λu=>some u
instance Si(D:bX)(B:U'):Fc Sy cL (uO D B):=Fc.M 257 [enc D,.str B] (cu 2 2 D (cV (F:=oJ 259 [.fptr (cells B)] (λz=>oV z B) lW.sw D.vars) 9 λu _=>bh))
def sU(D:Z4)(p1:Int)(B:U'):a_ (Int×Int):=(cH D).bind λw=>bl w ((bl (decide (p1<0)) (some true) (some (decide (p1>=(len D.procs)))):a_ X').bind λz=>bl z (some (0,2)) ((idx D.procs p1).bind λC=>(uO C B).bind λu=>bl (decide (u<0)) (some (0,13)) (some (u,0)))) (some (0,1))
instance Us(D:Z4)(p1:Int)(B:U'):Fc Sy cL (sU D p1 B):=Fc.M 250 [enc D,.int .i64 p1,.str B] (cu 2 3 D (bG 9 λu _=>cZ 4 9 (ck 6 6 [16] 22 (bB 6 16 (bF 6) (bZ 3 D.procs (bF 2))) λw=>bB 3 13 bh (bP 9 λz _=>bG 2 λC _=>bB 10 31 bh bh)) bh))
def dc(s0:Zg):a_ Zg:=(Sl.isNil s0).bind λu=>bl u (some Sl.nil) ((oH (Sl.row []:Zg) s0).bind λw=>some w)
theorem eo:B_ Sy cL 20 (λs0:Zg=>[enc s0]) (λz=>dc z):=B_.mk' (sq (Tx 20)) (λs0=>J6 9 λu _=>bB 2 4 bh (zO 7 5 7 λw _=>bh))
def og(B:bX):a_ bX:=some B
instance RJ(B:bX):Fc Sy cL (og B):=Fc.NE (λr:bX=>[(.clo 222 [] [.fptr (cells r)])]) 191 [enc B] (cu 2 1 B bh)
namespace gx
def kr(D:bX)(G:Int)(x:Int×(Zg))(B:Zg):a_ (Fw Zg Empty Empty):=(idx x.2 G).bind λu=>(gw B (u:Int)).bind λw=>some (.n w)
def E1(B:bX)(G:Int)(D:Zg):a_ Zg:=(jN B).bind λu=>(lq (λ(x:Int×(Zg))(q:Zg)=>kr B G x q) u D).bind (Fw.rV (λq=>some q) (λe=>elim e) (λe=>elim e))
end gx
def gx(B:bX)(i1:Int):a_ Zg:=(og B).bind λu=>gx.E1 u i1 (Sl.nil:Zg)
open gx in
instance RI(D:bX)(i1:Int):Fc Sy cL (gx D i1):=Fc.N 251 [enc D,.int .i64 i1] (cu 2 2 D (bG 13 λz _=>Gp λC B=>Ct 5 [Pv 3,Pv 5,(9,.v (.clo 222 [] [.fptr (cells z)]))] (λu=>[(3,.box [iv i1]),(5,.box [.own 4100]),Lb 4100 u]) (λw=>elim w) (λw=>elim w) (GS z C B) (λG u=>zL 3 (bP 7 λI _=>ow 2 4100 17 18 λJ _=>bh)) (λu=>bh) (λx=>elim x) (λx=>elim x)))
def rR(G:Z4)(p1:Int)(B:U'):a_ (Int×Int×Int):=(sU G p1 B).bind λu=>bl (u.2==0) ((idx G.procs p1).bind λz=>(gx z u.1).bind λw=>(dG w).bind λC=>(fq w).bind λD=>some (C,D,0)) (some (0,0,u.2))
instance SN(D:Z4)(p1:Int)(B:U'):Fc Sy cL (rR D p1 B):=Fc.M 233 [enc D,.int .i64 p1,.str B] (cu 2 3 D (bG 10 λu _=>cZ 14 19 (bP 8 λw _=>bG 2 λz _=>bG 6 λC _=>bG 1 λG _=>bh) bh))
def gJ(B:Z4)(p1:Pred):a_ bU:=bl (p1.kind==1) ((mq (Sl.row [p1.n]:Zg)).bind λw=>some w) (bl (p1.kind==3) ((idx B.procs p1.proc).bind λz=>some ⟨0,len z.events⟩) (bl (p1.kind==4) ((fH B p1.proc p1.peer).bind λC=>some ⟨0,C⟩) ((rR B p1.proc p1.name).bind λu=>some ⟨u.1,u.2.1⟩)))
instance Vb(B:Z4)(p1:Pred):Fc Sy cL (gJ B p1):=Fc.M 218 [enc B,enc p1] (cu 2 2 B (cu 0 3 p1 (bB 17 10 (cV 6 λw _=>bh) (bB 7 16 (bP 7 λu _=>bZ 2 u.events bh) (bB 7 27 (bG 8 λz _=>bh) (bG 11 λC _=>bh))))))
def jq(B:bU):a_ X':=(bl (decide (B.low<(-1125899906842624))) (some true) (some (decide (B.high>1125899906842624))):a_ X').bind λu=>some u
instance IV(B:bU):Fc Sy cL (jq B):=Fc.M 219 [enc B] (ck 12 4 [1,6] 10 (bB 12 6 (bF 4) (bF 4)) λu=>bh)
def qR(a0:Int):QQ:=some (if(wrap .i64 (0-a0))>a0 then(wrap .i64 (0-a0))else a0)
instance Ws(a0:Int):Fc Sy cL (qR a0):=Fc.M 234 [.int .i64 a0] (bh)
def ij(a0 B:Int):QQ:=(bl (a0==0) (some true) (some (B==0)):a_ X').bind λu=>bl u (some 0) ((qR a0).bind λw=>(qR B).bind λz=>(AB .i64 1125899906842624 z).bind λC=>bl (decide (w>C)) (bl ((decide (a0<0))==(decide (B<0))) (some 1125899906842625) (some (wrap .i64 (0-1125899906842625)))) (some (wrap .i64 (a0*B))))
instance PC(a0 B:Int):Fc Sy cL (ij a0 B):=Fc.M 221 [.int .i64 a0,.int .i64 B] (ck 11 3 [8] 11 (bB 11 8 (bF 3) (bF 3)) λu=>bB 2 11 bh (bG 15 λw _=>bG 1 λz _=>abu 0 λC _=>bB 3 20 (cZ 15 25 bh bh) bh))
namespace c6
def J2(D B:bU)(r:(Z4×Pred)->a_ (bU×X')):a_ (bU×X'):=(jq B).bind λu=>some (B,(!u))
def J1(W U:X')(J:Pred)(G B D:bU)(r:(Z4×Pred)->a_ (bU×X')):a_ (bU×X'):=(bl W (some (!U)) (some true):a_ X').bind λC=>bl C (some (⟨0,0⟩,false)) (bl (J.kind==5) (c6.J2 G (⟨wrap .i64 (0-B.high),wrap .i64 (0-B.low)⟩:bU) r) (bl (J.kind==6) (c6.J2 G (⟨wrap .i64 (B.low+D.low),wrap .i64 (B.high+D.high)⟩:bU) r) (bl (J.kind==7) (c6.J2 G (⟨wrap .i64 (B.low-D.high),wrap .i64 (B.high-D.low)⟩:bU) r) ((ij B.low D.low).bind λI=>(ij B.low D.high).bind λL=>(ij B.high D.low).bind λu=>(ij B.high D.high).bind λw=>(mq (Sl.row [I,L,u,w]:Zg)).bind λz=>c6.J2 G z r))))
theorem qC(r:(Z4×Pred)->a_ (bU×X'))(a:hG Sy cL 188 (λz:Z4×Pred=>[enc z.1,enc z.2]) (λr:bU×X'=>[enc r.1,.bool r.2]) r true)(D B:X')(G:Pred)(J U W:bU):Le ((J1 D B G J U W r).bind (λr=>some [enc r.1,.bool r.2])) (cg Sy cL (qZ (tr Tx 188)) (uJ (tb Tx 188) [1,1,1,1,1,0] [] (bL [Pv 3,Pv 4,Pv 7,Bv 8 D,Pv 9,Bv 10 B] [Xb 3 G,Xb 4 J,Xb 7 U,Xb 9 W]))):=ck 6 3 [10,48] 51 (cZ 6 48 (bF 3) (bF 3)) λQ=>bB 2 51 bh (bB 22 77 (ud 14 (cV 4 λu _=>bh)) (bB 7 86 (ud 18 (cV 4 λu _=>bh)) (bB 7 99 (ud 18 (cV 4 λu _=>bh)) (cV 6 λI _=>cV 4 λL _=>cV 4 λw _=>cV 4 λC _=>Yy 0 ([I,L,w,C]:ST) (.buildC 1 4 [.int .i64 0] [0,1,2,3]) [iv I,iv L,iv w,iv C] (cV 0 λO _=>ud 5 (cV 4 λu _=>bh))))))
end c6
def dy(B:Z4)(p1:Pred)(r:(Z4×Pred)->a_ (bU×X')):a_ (bU×X'):=bl ((len p1.l)==0) ((gJ B p1).bind λw=>(jq w).bind λC=>some (w,(!C))) ((idx p1.l 0).bind λD=>(r (B,D)).bind λu=>bl ((len p1.l)==2) ((idx p1.l 1).bind λG=>(r (B,G)).bind λz=>c6.J1 u.2 z.2 p1 (⟨0,0⟩:bU) u.1 z.1 r) (c6.J1 u.2 true p1 (⟨0,0⟩:bU) u.1 u.1 r))
open c6 in
theorem AA(r:(Z4×Pred)->a_ (bU×X'))(a:hG Sy cL 188 (λz:Z4×Pred=>[enc z.1,enc z.2]) (λr:bU×X'=>[enc r.1,.bool r.2]) r true)(B:Z4)(p1:Pred):Le ((dy B p1 r).bind λr=>some [enc r.1,.bool r.2]) (jW cL 188 [enc B,enc p1]):=(Fc.M 188 [enc B,enc p1] (cu 2 2 B (cu 0 3 p1 (jF 9 13 (Pred.mC p1.l) (bZ 0 p1.l (bB 3 15 (bG 5 λG _=>cV 8 λI _=>bh) (jF 8 26 (Pred.mC p1.l) (bP 0 λC _=>cV (F:=Fc.of (B,C) a) 1 λu _=>jF 21 34 (Pred.mC p1.l) (bZ 0 p1.l (bB 3 36 (jF 5 40 (Pred.mC p1.l) (bP 0 λD _=>cV (F:=Fc.of (B,D) a) 1 λw _=>zl 8 (qC r a u.2 w.2 p1 (⟨0,0⟩:bU) u.1 w.1))) (zl 4 (qC r a u.2 true p1 (⟨0,0⟩:bU) u.1 u.1))))))))))):Fc Sy cL (dy B p1 r)).F.h ()
def c6(B:Z4)(p1:Pred):a_ (bU×X'):=iw (λr(z:Z4×Pred)=>dy z.1 z.2 r) 100000 (B,p1)
instance RP(B:Z4)(p1:Pred):Fc Sy cL (c6 B p1):=Fc.of (B,p1) (hG.fix (A:=λz:Z4×Pred=>[enc z.1,enc z.2]) (E:=λr:bU×X'=>[enc r.1,.bool r.2]) (sc:=true) (b:=(λr(z:Z4×Pred)=>dy z.1 z.2 r)) Zae (λ_ _=>rfl) (λr a z=>AA r a z.1 z.2) 100000)
def oW(B:Pred)(D:Z4)(r:(Z4×Pred)->a_ X'):a_ X':=(r (D,B)).bind λu=>some (!u)
abbrev A3(r:(Trace×Pred)->a_ Bool)(a:hG Sy cL 142 (λz:Trace×Pred=>[enc z.1,enc z.2]) (λr:Bool=>[.bool r]) r true)(B:Pred)(D:Trace):Fc Sy cL (oW B D r):=Fc.M 189 [enc B,.fptr (cells D)] (cu 2 2 B (bG (F:=Fc.of (D,B) a) 7 λu _=>bh))
def ig(D:Z4)(p1:Pred)(r:(Z4×Pred)->a_ X'):a_ X':=(me p1.kind).bind λw=>bl (w==1) ((c6 D p1).bind λB=>some B.2) ((AS p1.l (λx u=>((λz=>oW z D r) x).map λb=>(b,u)) ()).bind λC=>some (!C.1))
theorem A5(r:(Z4×Pred)->a_ X')(a:hG Sy cL 142 (λz:Z4×Pred=>[enc z.1,enc z.2]) (λr:X'=>[.bool r]) r true)(B:Z4)(p1:Pred):Le ((ig B p1 r).bind λr=>some [.bool r]) (jW cL 142 [enc B,enc p1]):=(Fc.M 142 [enc B,enc p1] (cu 2 2 B (cu 0 3 p1 (bG 8 λu _=>bB 3 10 (bG 5 λw _=>bh) (jF 7 19 (Pred.mC p1.l) (uo 2 (mB (yC.Zm (g:=189) (e:=[.fptr (cells B)]) (p:=(λz=>oW z B r)) (lW.sw (F:=λz=>A3 r a z B))) p1.l ()) λC _=>bh))))):Fc Sy cL (ig B p1 r)).F.h ()
def vf(B:Z4)(p1:Pred):a_ X':=iw (λr(z:Z4×Pred)=>ig z.1 z.2 r) 100000 (B,p1)
instance Tr(B:Z4)(p1:Pred):Fc Sy cL (vf B p1):=Fc.of (B,p1) (hG.fix (A:=λz:Z4×Pred=>[enc z.1,enc z.2]) (E:=λr:X'=>[.bool r]) (sc:=true) (b:=(λr(z:Z4×Pred)=>ig z.1 z.2 r)) Zae (λ_ _=>rfl) (λr a z=>A5 r a z.1 z.2) 100000)
def rQ(B:Z4)(p1:Pred):QQ:=(cH B).bind λu=>(bl u ((mh p1).bind λw=>some (!w)) (some true):a_ X').bind λz=>bl z (some 1) ((oO B p1).bind λC=>bl C ((pz p1).bind λD=>bl D ((vf B p1).bind λG=>bl G (some 0) (some 9)) (some 14)) (some 13))
instance Su(B:Z4)(p1:Pred):Fc Sy cL (rQ B p1):=Fc.M 104 [enc B,enc p1] (cu 2 2 B (cu 0 3 p1 (bG 8 λu _=>ck 2 4 [9] 13 (cZ 2 9 (bG 1 λw _=>bF 2) (bF 4)) λz=>bB 3 5 bh (bG 5 λC _=>cZ 4 14 (bG 4 λD _=>cZ 4 19 (bG 5 λG _=>cZ 4 23 bh bh) bh) bh))))
def sP(B:Pred):a_ (Int×Int):=(mh B).bind λu=>bl u ((pz B).bind λw=>bl w ((me B.kind).bind λz=>some (z,0)) (some (0,14))) (some (0,1))
instance Uz(B:Pred):Fc Sy cL (sP B):=Fc.M 143 [enc B] (cu 2 1 B (bG 9 λu _=>cZ 4 4 (bG 4 λw _=>cZ 4 8 (bG 8 λz _=>bh) bh) bh))
def vr(D:Pred)(B:Int):QQ:=(sP D).bind λu=>(bl (u.2==0) (some (!(u.1==B))) (some true):a_ X').bind λw=>bl w (some 14) (some 0)
instance Sr(D:Pred)(B:Int):Fc Sy cL (vr D B):=Fc.M 105 [enc D,.int .i64 B] (cu 2 2 D (bG 7 λu _=>ck 12 4 [1,5,14] 18 (cZ 12 14 (bF 4) (bF 4)) λw=>bB 2 18 bh bh))
def sx(B:Int):a_ X':=(bl (decide (B>=18)) (some (decide (B<=21))) (some false):a_ X').bind λu=>some u
instance Pf(B:Int):Fc Sy cL (sx B):=Fc.M 146 [.int .i64 B] (ck 10 3 [0,5] 8 (bB 10 5 (bF 3) (bF 3)) λu=>bh)
def mM(B:Pred):a_ X':=(sx B.kind).bind λu=>some (!u)
instance LG(B:Pred):Fc Sy cL (mM B):=Fc.M 145 [enc B] (cu 2 1 B (bG 7 λu _=>bh))
def oU(D:Pred):a_ X':=(mh D).bind λu=>(bl u ((nP D (λz=>mM z)).bind λw=>some (!w)) (some false):a_ X').bind λB=>some B
instance Pc(B:Pred):Fc Sy cL (oU B):=Fc.M 106 [enc B] (cu 2 1 B (bG 6 λu _=>ck 1 4 [1,5] 9 (bB 1 5 (bG (F:=tZ 145 [] (λz=>mM z) lW.sw B) 1 λw _=>bF 2) (bF 4)) λC=>bh))
namespace iM
def kr(D:Z4)(B G:Int)(J:bf)(U:X')(x:bf×WF):a_ (Fw Unit Empty bf):=(bl (x.2.kind==B) (some (x.2.message==G)) (some false):a_ X').bind λu=>bl u (some (.r x.1)) (some (.n ()))
def E1(B:Z4)(D G:Int)(J:bf)(U:X'):a_ (bf×X'):=(jG B).bind λu=>(lq (λ(x:bf×WF)(q:Unit)=>kr B D G J U x) u ()).bind (Fw.rV (λq=>some (⟨0,0⟩,false)) (λe=>elim e) (λe=>some (e,true)))
end iM
def iM(D:Z4)(B G:Int):a_ (bf×X'):=(cH D).bind λu=>bl u ((jS D).bind λw=>iM.E1 w B G (⟨0,0⟩:bf) false) (some (⟨0,0⟩,false))
open iM in
instance Zp(G:Z4)(B D:Int):Fc Sy cL (iM G B D):=Fc.M 162 [enc G,.int .i64 B,.int .i64 D] (cu 2 3 G (bG 10 λL _=>cZ 3 12 (bG 7 λw _=>Gp λI z=>Ct 4 [Pv 4,Pv 5,Pv 6,Pv 7,(15,.v (.clo 168 [] [.fptr (cells w)]))] (λC=>[(4,.box [iv B]),(5,.box [iv D]),Xb 6 (⟨0,0⟩:bf),(7,.box [bv false])]) (λu=>elim u) (λu=>[(4,.box [iv B]),(5,.box [iv D]),Xb 6 u,(7,.box [bv true])]) (AO w I z) (λJ C=>pM 8 9 0 J.2 (zL 1 (ck 9 5 [9,22] 27 (bB 9 22 (bF 5) (bF 5)) λO=>bB 2 27 bh bh))) (λC=>bh) (λx=>elim x) (λu=>bh)) bh))
def rB(B:Z4)(m1:Int):a_ (bf×X'):=(iM B 2 m1).bind λu=>some (u.1,u.2)
instance WS(B:Z4)(m1:Int):Fc Sy cL (rB B m1):=Fc.M 126 [enc B,.int .i64 m1] (cu 2 2 B (bG 8 λu _=>bh))
namespace kW
def J3(B:Sl bf)(W:Sl bX)(Y a:Int)(b:Sl WF)(c G:Int)(J:Z4)(d U:cz)(e:bX)(D:bf):a_ (Fw ((Sl bf)×Int×Z4×cz×cz) ((Sl bf)×Z4×cz) Empty):=(gw B (D:bf)).bind λu=>some (.n (u,wrap .i64 (G+1),J,(⟨Sl.nil,Sl.nil⟩:cz),U))
def bT(Y:Sl bX)(a b:Int)(J:Sl WF)(U:Int)(c:bX)(B:Sl bf)(D:Int)(G:Z4)(d W:cz):a_ (Fw ((Sl bf)×Int×Z4×cz×cz) ((Sl bf)×Z4×cz) Empty):=bl (decide (D<U)) ((idx J D).bind λu=>bl (u.kind==3) ((rB G u.message).bind λw=>J3 B Y a b J U D G (⟨Sl.nil,Sl.nil⟩:cz) W c w.1) (J3 B Y a b J U D G (⟨Sl.nil,Sl.nil⟩:cz) W c (⟨0,0⟩:bf))) (some (.x (B,G,W)))
def W2(B:Sl bf)(J:Sl bX)(U D:Int)(W:Sl WF)(Y a:Int)(b:Z4)(c d:cz)(G:bX):a_ (Fw (Int×Z4×cz×cz) cz Empty):=(bS (λq:(Sl bf)×Int×Z4×cz×cz=>bT J U D W Y G q.1 q.2.1 q.2.2.1 q.2.2.2.1 q.2.2.2.2) (B,a,b,c,d)).bind (Fw.elim (λe=>(gw e.2.2.lengths (len G.events:Int)).bind λu=>(gw e.2.2.need (e.1:Sl bf)).bind λw=>some (.n (wrap .i64 (D+1),e.2.1,(⟨Sl.nil,Sl.nil⟩:cz),(⟨u,w⟩:cz)))) (λe=>elim e))
def br(D:Sl bX)(G:Int)(B:Int)(U:Z4)(W J:cz):a_ (Fw (Int×Z4×cz×cz) cz Empty):=bl (decide (B<G)) ((idx D B).bind λu=>W2 (Sl.nil:Sl bf) D G B u.events (len u.events) 0 U (⟨Sl.nil,Sl.nil⟩:cz) J u) (some (.x J))
def W1(B:Sl bX)(D G:Int)(J:Z4)(U W:cz):a_ cz:=(bS (λq:Int×Z4×cz×cz=>br B D q.1 q.2.1 q.2.2.1 q.2.2.2) (G,J,U,W)).bind (Fw.elim (λe=>some e) (λe=>elim e))
end kW
def kW(B:Z4):a_ cz:=kW.W1 B.procs (len B.procs) 0 B (⟨Sl.nil,Sl.nil⟩:cz) (⟨Sl.nil,Sl.nil⟩:cz)
open kW in
instance aa1(D:Z4):Fc Sy cL (kW D):=Fc.N 174 [enc D] (cu 2 1 D (bZ 13 D.procs (ga 7 (λu=>(bL [Pv 1,Pv 2,Pv 3,Cv 11 D.procs,Iv 12 (len D.procs),Iv 13 u.1] [Xb 1 u.2.1,Xb 2 (⟨Sl.nil,Sl.nil⟩:cz),(3,.box [.own 4060,.own 4061]),Lb 4060 u.2.2.2.lengths,Lb 4061 u.2.2.2.need])) (λC=>(0,(bL [Pv 2,Pv 3] [Xb 2 (⟨Sl.nil,Sl.nil⟩:cz),(3,.box [.own 4060,.own 4061]),Lb 4060 C.lengths,Lb 4061 C.need]))) (λu=>bB 9 14 (bP 7 λw _=>pM 2 5 0 w (bZ 12 w.events (ga 8 (λz=>(bL [Pv 1,Pv 2,Pv 3,Pv 5,Ov 6,Cv 11 D.procs,Iv 12 (len D.procs),Iv 13 u.1,Cv 18 w.events,Iv 19 (len w.events),Iv 20 z.2.1] [Xb 1 z.2.2.1,Xb 2 (⟨Sl.nil,Sl.nil⟩:cz),(3,.box [.own 4060,.own 4061]),Xb 5 w,Lb 2006 z.1,Lb 4060 z.2.2.2.2.lengths,Lb 4061 z.2.2.2.2.need])) (λB=>(2,(bL [Pv 1,Pv 2,Pv 3,Pv 5,Ov 6,Cv 11 D.procs,Iv 12 (len D.procs),Iv 13 u.1] [Xb 1 B.2.1,Xb 2 (⟨Sl.nil,Sl.nil⟩:cz),(3,.box [.own 4060,.own 4061]),Xb 5 w,Lb 2006 B.1,Lb 4060 B.2.2.lengths,Lb 4061 B.2.2.need]))) (λz=>bB 10 21 (bP 7 λG _=>pM 2 8 0 G (bB 15 26 (bG 5 λJ _=>ud 10 (ow 4 2006 36 37 λI _=>bh)) (ud 7 (ow 4 2006 36 37 λI _=>bh)))) bh) (λB=>bZ 8 w.events (ow 1 4060 44 45 λL _=>wQ 9 50 ([B.1]:aZ (Sl bf)) (ow 0 4061 50 51 λO _=>bh)))))) bh) (λC=>pM 7 2 0 C bh))))
def pZ(J:cz)(B:Zg)(p2:Int):a_ X':=(idx B p2).bind λw=>(idx J.lengths p2).bind λz=>bl (w==z) (some false) ((idx J.need p2).bind λC=>(idx B p2).bind λD=>(idx C D).bind λu=>(idx B u.proc).bind λG=>some (decide (u.index<=G)))
instance Qm(B:cz)(D:Zg)(p2:Int):Fc Sy cL (pZ B D p2):=Fc.M 210 [enc B,enc D,.int .i64 p2] (cu 2 3 B (bP 8 λu _=>bP 4 λw _=>bB 4 17 bh (bP 8 λz _=>bP 3 λC _=>bP 1 λG _=>bP 12 λI _=>bh)))
def sY(B:Int):a_ X':=some (!(B==B))
instance Vq(B:Int):Fc Sy cL (sY B):=Fc.M 249 [.int .i64 B] (bh)
def qB(B D:Int):QQ:=(sY B).bind λw=>(sY D).bind λu=>bl w (bl u (some 0) (some (-1))) (bl u (some 1) (bl (decide (B<D)) (some (-1)) (bl (decide (B>D)) (some 1) (some 0))))
instance RN(B D:Int):Fc Sy cL (qB B D):=Fc.M 231 [.int .i64 B,.int .i64 D] (bG 8 λu _=>bG 6 λw _=>bB 9 11 (bB 7 12 bh bh) (bB 9 13 bh (bB 11 16 bh (bB 11 19 bh bh))))
namespace fM
def br(J D U:Zg)(G:Int)(B:Int):a_ (Fw Int Unit Int):=bl (decide (B<G)) ((idx U B).bind λw=>bl (decide (B>=(len D))) (some (.r 1)) ((idx D B).bind λz=>(qB w z).bind λu=>bl (u==0) (some (.n (wrap .i64 (B+1)))) (some (.r u)))) (some (.x ()))
def W1(B D U:Zg)(G J:Int):QQ:=(bS (λq:Int=>br B D U G q) J).bind (Fw.elim (λe=>bl (decide ((len B)<(len D))) (some (-1)) (some 0)) (λe=>some e))
end fM
def fM(B D:Zg):QQ:=fM.W1 B D B (len B) 0
open fM in
instance OS(B D:Zg):Fc Sy cL (fM B D):=Fc.M 213 [enc B,enc D] (bZ 9 B (dZ 5 (λw=>(bL [Cv 0 B,Cv 1 D,Cv 9 B,Iv 10 (len B),Iv 11 w] [])) (λu=>(0,(bL [Cv 0 B,Cv 1 D] []))) (λu=>(bL [Iv 4 u] [])) (λw=>bB 7 12 (bP 8 λz _=>bZ 10 D (bB 3 19 bh (bP 7 λC _=>bG 8 λG _=>cZ 9 28 bh bh))) bh) (λu=>bZ 6 B (bZ 1 D (bB 3 35 bh bh))) (λu=>bh)))
def kz(a0 B:Zg):QQ:=(fM a0 B).bind λu=>some u
instance Nx(a0 B:Zg):Fc Sy cL (kz a0 B):=Fc.M 212 [enc a0,enc B] (bG 9 λu _=>bh)
namespace eF
def br(D G:Zg)(J:Int)(B:Int):a_ (Fw Int Unit Unit):=bl (decide (B<J)) ((idx D B).bind λu=>(idx G B).bind λw=>bl (u==w) (some (.n (wrap .i64 (B+1)))) (some (.r ()))) (some (.x ()))
def W1(B D:Zg)(G J:Int):a_ X':=(bS (λq:Int=>br B D G q) J).bind (Fw.elim (λe=>some true) (λe=>some false))
end eF
def eF(B D:Zg):a_ X':=bl ((len B)==(len D)) (eF.W1 B D (len B) 0) (some false)
open eF in
instance QV(B D:Zg):Fc Sy cL (eF B D):=Fc.M 16 [enc B,enc D] (bZ 9 B (bZ 1 D (cZ 3 10 (bZ 7 B (dZ 5 (λw=>(bL [Cv 0 B,Cv 1 D,Iv 12 (len B),Iv 13 w] [])) (λu=>(0,(bL [] []))) (λu=>(bL [Bv 4 false] [])) (λw=>bB 7 14 (bP 15 λz _=>bP 3 λC _=>cZ 4 24 bh bh) bh) (λu=>bh) (λu=>bh))) bh)))
def lU(a0 B:Zg):a_ X':=(eF a0 B).bind λu=>some u
instance N6(a0 B:Zg):Fc Sy cL (lU a0 B):=Fc.M 215 [enc a0,enc B] (bG 9 λu _=>bh)
namespace eT
def bT(U:Zg)(W:Zb)(Y a G:Int)(J:cz)(D:Zb)(B:Int):a_ (Fw ((Zb)×Int) Zb Empty):=bl (decide (B<G)) ((pZ J U B).bind λw=>bl w (((dc U).bind Sl.whole).bind λu=>(Sl.jR u B).bind λz=>(Sl.get u z).bind λC=>(Sl.jR u B).bind λI=>(Sl.put u I (wrap .i64 (C+1):Int)).bind λL=>(gw D (L:Zg)).bind λO=>some (.n (O,wrap .i64 (B+1)))) (some (.n (D,wrap .i64 (B+1))))) (some (.x D))
def W2(B:Zb)(a:Zg)(J:Zb)(D G U W:Int)(Y:cz):a_ (Fw ((Zb)×Int×Int) Zb Empty):=(bS (λq:(Zb)×Int=>bT a J D G U Y q.1 q.2) (B,W)).bind (Fw.elim (λe=>some (.n (e,D,wrap .i64 (G+1)))) (λe=>elim e))
def br(G:Zb)(U:cz)(B:Zb)(J D:Int):a_ (Fw ((Zb)×Int×Int) Zb Empty):=bl (decide (D<J)) ((idx G D).bind λu=>W2 B u G J D (len u) 0 U) (some (.x B))
def W1(B D:Zb)(G J:Int)(U:cz):a_ Zb:=(bS (λq:(Zb)×Int×Int=>br D U q.1 q.2.1 q.2.2) (B,G,J)).bind (Fw.elim (λe=>(Ae e kz).bind λw=>(y8 w lU).bind λu=>some u) (λe=>elim e))
end eT
def eT(D:cz)(B:Zb):a_ Zb:=eT.W1 (Sl.nil:Zb) B (len B) 0 D
open eT in
instance RK(G:cz)(B:Zb):Fc Sy cL (eT G B):=Fc.N 175 [enc G,enc B] (cu 2 2 G (bZ 12 B (ga 6 (λu=>(bL [Pv 2,Ov 5,Cv 10 B,Iv 11 u.2.1,Iv 12 u.2.2] [Xb 2 G,Lb 2005 u.1])) (λI=>(0,(bL [Ov 5] [Lb 2005 I]))) (λu=>bB 8 13 (bP 7 λw _=>bZ 7 w (ga 6 (λC=>(bL [Pv 2,Ov 5,Cv 7 w,Cv 10 B,Iv 11 u.2.1,Iv 12 u.2.2,Iv 17 (len w),Iv 18 C.2] [Xb 2 G,Lb 2005 C.1])) (λJ=>(2,(bL [Pv 2,Ov 5,Cv 10 B,Iv 11 u.2.1,Iv 12 u.2.2] [Xb 2 G,Lb 2005 J]))) (λC=>bB 8 19 (bG 16 λQ _=>bB 2 24 (Ce 4 26 eo w λS _=>kg .i64 7 26 λT _=>qA 0 26 0 1 false (λD=>.int .i64 D) λD _=>kg .i64 1 26 λU _=>AR 0 26 (.int .i64 (wrap .i64 (D+1))) λL _=>wQ 6 35 ([L]:aZ Zg) (ow 0 2005 35 36 λW _=>bh)) bh) bh) (λJ=>bh))) bh) (λI=>aan 5 2005 IU Cu Wt (hG.sw (λz=>inferInstanceAs (Fc Sy cL (kz z.1 z.2))) default (λ_=>rfl) (λ_=>rfl) (λ_=>rfl) (λ_=>rfl)) λX _=>ZU 5 2005 42 IU Cu V8 (hG.sw (λz=>inferInstanceAs (Fc Sy cL (lU z.1 z.2))) default (λ_=>rfl) (λ_=>rfl) (λ_=>rfl) (λ_=>rfl)) λO _=>bh))))
namespace kD
def br(J:cz)(B:Zb)(G:Sl Zb)(D:Int):a_ (Fw ((Zb)×(Sl Zb)×Int) (Sl Zb) Unit):=bl (decide ((len B)>0)) (bl (decide ((wrap .i64 (D+(len B)))>5000)) (some (.r ())) ((gw G (B:Zb)).bind λu=>(eT J B).bind λw=>some (.n (w,u,wrap .i64 (D+(len B)))))) (some (.x G))
def W1(B:Zb)(G:Sl Zb)(D:Int)(J:cz):a_ ((Sl Zb)×Int):=(bS (λq:(Zb)×(Sl Zb)×Int=>br J q.1 q.2.1 q.2.2) (B,G,D)).bind (Fw.elim (λe=>some (e,0)) (λe=>some ((Sl.nil:Sl Zb),16)))
end kD
def kD(B:Z4):a_ ((Sl Zb)×Int):=(cH B).bind λu=>bl u ((kW B).bind λw=>(oL (len B.procs) (0:Int)).bind λz=>kD.W1 (Sl.row [z]:Zb) (Sl.nil:Sl Zb) 0 w) (some ((Sl.nil:Sl Zb),1))
open kD in
instance XO(B:Z4):Fc Sy cL (kD B):=Fc.N 133 [enc B] (cu 2 1 B (bG 8 λD _=>cZ 3 10 (bG 6 λz _=>pM 1 4 0 z (bZ 6 B.procs (UT 0 16 λC _=>wQ 1 17 ([C]:aZ Zg) (dZ 18 (λu=>(bL [Pv 4,Cv 5 u.1,Ov 6,Iv 7 u.2.2] [Xb 4 z,Lb 2006 u.2.1])) (λw=>(0,(bL [Ov 6] [Lb 2006 w]))) (λw=>(bL [Ov 2,Iv 3 16] [Lb 2002 (Sl.nil:Sl Zb)])) (λu=>bZ 7 u.1 (bB 3 20 (bZ 10 u.1 (bB 10 29 bh (wQ 6 32 ([u.1]:aZ Zb) (ow 0 2006 32 33 λG _=>bG 7 λI _=>bh)))) bh)) (λw=>bh) (λw=>bh))))) bh))
def gy(s:Sl Zb):a_ Zb:=if s.l.length<=2147483648/\(s.l.flatMap Sl.l).length<=2147483648 then some (D_ s)else none
instance NN(s:Sl Zb):Fc Sy cL (gy s):=Fc.of (A:=λz:Sl Zb=>[enc z]) (E:=λr:Zb=>[enc r]) (p:=gy) (n:=134) (z:=s) (hG.X3 Zae Zae (λz r h=>by
 unfold gy at h;split at h
 next a=>cases h;exact BT (WQ (E:=Sy.E) (N:=λn=>n) (gid:=176) (nm:=some) (λ_ _ h=>(Option.some.inj h).symm) rfl Zae Zae (Ai Zae) (Ai Zae) rfl z a.1 a.2)
 cases h))
def tX(B:Z4):a_ ((Zb)×Int):=(kD B).bind λu=>(gy u.1).bind λw=>some (w,u.2)
instance Zr(B:Z4):Fc Sy cL (tX B):=Fc.N 98 [enc B] (cu 2 1 B (bG 7 λu _=>bG 10 λw _=>bh))
def pP(B:Z4):a_ ((Zb)×Int):=(tX B).bind λu=>some (u.1,u.2)
instance Zu(B:Z4):Fc Sy cL (pP B):=Fc.N 57 [enc B] (cu 2 1 B (bG 7 λu _=>bh))
def iD(B:Zg)(D:Z4):a_ X':=some (!((len B)==(len D.procs)))
instance V4(B:Zg)(D:Z4):Fc Sy cL (iD B D):=Fc.M 125 [enc B,.fptr (cells D)] (bZ 8 B (bZ 2 D.procs bh))
namespace gR
def br(s0:Zb)(D:Int)(B:Int)(p1:(Zg)->a_ X'):a_ (Fw Int Unit Int):=bl (decide (B<D)) ((idx s0 B).bind λu=>(p1 u).bind λw=>bl w (some (.r B)) (some (.n (wrap .i64 (B+1))))) (some (.x ()))
def W1(s0:Zb)(B D:Int)(p1:(Zg)->a_ X'):QQ:=(bS (λq:Int=>br s0 B q p1) D).bind (Fw.elim (λe=>some (-1)) (λe=>some e))
end gR
def gR(s0:Zb)(p1:(Zg)->a_ X'):QQ:=gR.W1 s0 (len s0) 0 p1
open gR in
abbrev ym(g1:FuncId)(e1:aZ V)(p1:(Sl Int)->a_ Bool)(a:lW Sy cL g1 [] e1 (λz:Sl Int=>[enc z]) (λr:Bool=>[.bool r]) p1 true)(s0:Sl (Sl Int)):Fc Sy cL (gR s0 p1):=Fc.M 69 [enc s0,.clo g1 [] e1] (bZ 9 s0 (dZ 5 (λw=>(bL [Cv 0 s0,(1,.v (.clo g1 [] e1)),Iv 7 (len s0),Iv 8 w] [])) (λu=>(0,(bL [] []))) (λu=>(bL [Iv 4 u] [])) (λw=>bB 7 9 (bP 16 λB _=>yJ 1 a.f B λC _=>bB 2 16 bh bh) bh) (λu=>bh) (λu=>bh)))
def jb(s0:Zb)(p1:(Zg)->a_ X'):a_ X':=(gR s0 p1).bind λu=>some (decide (u>=0))
abbrev qe(g1:FuncId)(e1:aZ V)(p1:(Sl Int)->a_ Bool)(a:lW Sy cL g1 [] e1 (λz:Sl Int=>[enc z]) (λr:Bool=>[.bool r]) p1 true)(s0:Sl (Sl Int)):Fc Sy cL (jb s0 p1):=Fc.M 31 [enc s0,.clo g1 [] e1] (bG (F:=ym g1 e1 p1 a s0) 9 λu _=>bh)
def tN(D:Z4)(G:Zb):a_ X':=(cH D).bind λu=>(bl u ((jb G (λz=>iD z D)).bind λw=>some (!w)) (some false):a_ X').bind λB=>some B
instance Zs(B:Z4)(D:Zb):Fc Sy cL (tN B D):=Fc.M 94 [enc B,enc D] (cu 2 2 B (bG 6 λu _=>ck 1 5 [1,2,7] 12 (bB 1 7 (cV (F:=qe 125 [.fptr (cells B)] (λz=>iD z B) lW.sw D) 2 λw _=>bF 2) (bF 5)) λC=>bh))
namespace jM
def br(G:Zg)(J:Int)(D:Z4)(B:Int):a_ (Fw Int Unit Unit):=bl (decide (B<J)) ((idx G B).bind λu=>(bl (decide (u<0)) (some true) ((idx D.procs B).bind λw=>some (decide (u>(len w.events)))):a_ X').bind λz=>bl z (some (.r ())) (some (.n (wrap .i64 (B+1))))) (some (.x ()))
def W1(D:Zg)(G J:Int)(B:Z4):a_ X':=(bS (λq:Int=>br D G B q) J).bind (Fw.elim (λe=>some true) (λe=>some false))
end jM
def jM(D:Z4)(B:Zg):a_ X':=jM.W1 B (len B) 0 D
open jM in
instance XR(D:Z4)(B:Zg):Fc Sy cL (jM D B):=Fc.M 95 [enc D,enc B] (cu 2 2 D (bZ 7 B (dZ 5 (λw=>(bL [Pv 2,Cv 7 B,Iv 8 (len B),Iv 9 w] [Xb 2 D])) (λu=>(0,(bL [] []))) (λu=>(bL [Bv 4 false] [])) (λw=>bB 7 10 (bP 8 λC _=>ck 10 10 [5,6,16] 26 (bB 10 16 (bF 10) (bP 4 λz _=>bZ 2 z.events (bF 2))) λG=>bB 2 26 bh bh) bh) (λu=>bh) (λu=>bh))))
def vQ(B:Z4)(p1:Int):a_ X':=(bl (decide (p1>=0)) (some (decide (p1<(len B.procs)))) (some false):a_ X').bind λu=>some u
instance Xw(B:Z4)(p1:Int):Fc Sy cL (vQ B p1):=Fc.M 150 [enc B,.int .i64 p1] (cu 2 2 B (ck 8 6 [1,2,7] 13 (bB 8 7 (bZ 3 B.procs (bF 2)) (bF 6)) λu=>bh))
namespace g_
def bT(Y:Zg)(p7:Int)(a:Zg)(b c:Int)(J:Sl WF)(U:Int)(W:Z4)(G D:bf)(B:Int):a_ (Fw Int Unit (bf×bf)):=bl (decide (B<U)) ((idx J B).bind λw=>bl (w.kind==3) ((rB W w.message).bind λu=>(idx Y u.1.proc).bind λz=>bl (decide (u.1.index>z)) (some (.r (u.1,(⟨p7,wrap .i64 (B+1)⟩:bf)))) (some (.n (wrap .i64 (B+1))))) (some (.n (wrap .i64 (B+1))))) (some (.x ()))
def W2(a:Zg)(p7:Int)(J:Zg)(U G:Int)(W:Sl WF)(Y b:Int)(c:Z4)(D B:bf):a_ (Fw Int Unit (bf×bf)):=(bS (λq:Int=>bT a p7 J U G W Y c D B q) b).bind (Fw.elim (λe=>some (.n (wrap .i64 (G+1)))) (λe=>some (.r (e.1,e.2))))
def br(Y J:Zg)(U:Int)(W:Z4)(G B:bf)(D:Int):a_ (Fw Int Unit (bf×bf)):=bl (decide (D<U)) ((idx J D).bind λw=>(idx W.procs D).bind λz=>(fZ z.events none (some w)).bind λu=>W2 Y D J U D u (len u) 0 W G B) (some (.x ()))
def W1(Y G:Zg)(J U:Int)(W:Z4)(D B:bf):a_ (bf×bf×X'):=(bS (λq:Int=>br Y G J W D B q) U).bind (Fw.elim (λe=>some (⟨0,0⟩,⟨0,0⟩,false)) (λe=>some (e.1,e.2,true)))
end g_
def g_(D:Z4)(B:Zg):a_ (bf×bf×X'):=g_.W1 B B (len B) 0 D (⟨0,0⟩:bf) (⟨0,0⟩:bf)
open g_ in
instance XG(D:Z4)(B:Zg):Fc Sy cL (g_ D B):=Fc.M 96 [enc D,enc B] (cu 2 2 D (bZ 9 B (dZ 5 (λu=>(bL [Cv 1 B,Pv 2,Pv 4,Pv 5,Cv 13 B,Iv 14 (len B),Iv 15 u] [Xb 2 D,Xb 4 (⟨0,0⟩:bf),Xb 5 (⟨0,0⟩:bf)])) (λw=>(0,(bL [Pv 4,Pv 5] [Xb 4 (⟨0,0⟩:bf),Xb 5 (⟨0,0⟩:bf)]))) (λw=>(bL [Pv 4,Pv 5,Bv 6 true] [Xb 4 w.1,Xb 5 w.2])) (λu=>bB 7 16 (bP 8 λI _=>bP 10 λL _=>AJ 3 false true [.int .i64 I] λC _=>bZ 0 C (dZ 5 (λG=>(bL [Cv 1 B,Pv 2,Pv 4,Pv 5,Iv 7 u,Cv 13 B,Iv 14 (len B),Iv 15 u,Cv 27 C,Iv 28 (len C),Iv 29 G] [Xb 2 D,Xb 4 (⟨0,0⟩:bf),Xb 5 (⟨0,0⟩:bf)])) (λz=>(2,(bL [Cv 1 B,Pv 2,Pv 4,Pv 5,Cv 13 B,Iv 14 (len B),Iv 15 u] [Xb 2 D,Xb 4 (⟨0,0⟩:bf),Xb 5 (⟨0,0⟩:bf)]))) (λz=>(bL [Pv 4,Pv 5,Bv 6 true] [Xb 4 z.1,Xb 5 z.2])) (λG=>bB 7 30 (bP 8 λJ _=>pM 3 10 0 J (cZ 10 36 (bG 8 λO _=>bP 15 λQ _=>bB 4 51 bh bh) bh)) bh) (λz=>bh) (λz=>bh))) bh) (λw=>bh) (λw=>bh))))
def w8(B:Z4)(D:Zg):a_ X':=(g_ B D).bind λu=>some (!u.2.2)
instance Zi(B:Z4)(D:Zg):Fc Sy cL (w8 B D):=Fc.M 151 [enc B,enc D] (cu 2 2 B (bG 7 λu _=>bh))
namespace dD
def fe(D:Zb)(G:Int)(J:Z4)(B:Int):a_ (Fw Int Unit Unit):=bl (decide (B<G)) ((idx D B).bind λu=>(w8 J u).bind λw=>bl w (some (.n (wrap .i64 (B+1)))) (some (.r ()))) (some (.x ()))
def W3(B:Zb)(D G:Int)(J:Z4):QQ:=(bS (λq:Int=>fe B D J q) G).bind (Fw.elim (λe=>some 0) (λe=>some 18))
def bT(U:Zb)(D:Zg)(G:Int)(J:Z4)(B:Int):a_ (Fw Int Unit Unit):=bl (decide (B<G)) ((idx D B).bind λu=>(vQ J u).bind λw=>bl w (some (.n (wrap .i64 (B+1)))) (some (.r ()))) (some (.x ()))
def W2(D:Zb)(G:Zg)(J U:Int)(B:Z4):QQ:=(bS (λq:Int=>bT D G J B q) U).bind (Fw.elim (λe=>dD.W3 D (len D) 0 B) (λe=>some 2))
def br(W:Zb)(D:Zg)(G:Zb)(J:Int)(U:Z4)(B:Int):a_ (Fw Int Unit Unit):=bl (decide (B<J)) ((idx G B).bind λu=>(jM U u).bind λw=>bl w (some (.n (wrap .i64 (B+1)))) (some (.r ()))) (some (.x ()))
def W1(W:Zb)(B:Zg)(G:Zb)(J U:Int)(D:Z4):QQ:=(bS (λq:Int=>br W B G J D q) U).bind (Fw.elim (λe=>dD.W2 W B (len B) 0 D) (λe=>some 2))
end dD
def dD(G:Z4)(D:Zb)(B:Zg):QQ:=(tN G D).bind λu=>bl u (dD.W1 D B D (len D) 0 G) (some 1)
open dD in
instance Zz(G:Z4)(D:Zb)(B:Zg):Fc Sy cL (dD G D B):=Fc.M 109 [enc G,enc D,enc B] (cu 2 3 G (bG 8 λL _=>cZ 3 16 (bZ 7 D (dZ 5 (λC=>(bL [Cv 1 D,Cv 2 B,Pv 3,Cv 17 D,Iv 18 (len D),Iv 19 C] [Xb 3 G])) (λu=>(0,(bL [Cv 1 D,Cv 2 B,Pv 3] [Xb 3 G]))) (λu=>(bL [Iv 6 2] [])) (λC=>bB 7 20 (bP 7 λO _=>bG 8 λQ _=>cZ 3 26 bh bh) bh) (λu=>bZ 6 B (dZ 5 (λI=>(bL [Cv 1 D,Pv 3,Cv 28 B,Iv 29 (len B),Iv 30 I] [Xb 3 G])) (λw=>(2,(bL [Cv 1 D,Pv 3] [Xb 3 G]))) (λw=>(bL [Iv 6 2] [])) (λI=>bB 7 31 (bP 7 λS _=>bG 8 λT _=>cZ 3 37 bh bh) bh) (λw=>bZ 6 D (dZ 5 (λJ=>(bL [Pv 3,Cv 39 D,Iv 40 (len D),Iv 41 J] [Xb 3 G])) (λz=>(4,(bL [] []))) (λz=>(bL [Iv 6 18] [])) (λJ=>bB 7 42 (bP 7 λU _=>bG 8 λW _=>cZ 3 48 bh bh) bh) (λz=>bh) (λz=>bh))) (λw=>bh))) (λu=>bh))) bh))
namespace jH
def br(G:Zg)(J:Int)(B:Sl bf)(D:Int):a_ (Fw ((Sl bf)×Int) (Sl bf) Empty):=bl (decide (D<J)) ((idx G D).bind λu=>bl (decide (u>0)) ((gw B (⟨D,u⟩:bf)).bind λw=>some (.n (w,wrap .i64 (D+1)))) (some (.n (B,wrap .i64 (D+1))))) (some (.x B))
def W1(B:Sl bf)(D:Zg)(G J:Int):a_ ((Sl bf)×Int):=(bS (λq:(Sl bf)×Int=>br D G q.1 q.2) (B,J)).bind (Fw.elim (λe=>some (e,0)) (λe=>elim e))
end jH
def jH(D:Z4)(B:Zg):a_ ((Sl bf)×Int):=(dD D (Sl.row [B]:Zb) (Sl.nil:Zg)).bind λu=>bl (u==0) (jH.W1 (Sl.nil:Sl bf) B (len B) 0) (some (Sl.nil,u))
open jH in
instance WR(D:Z4)(B:Zg):Fc Sy cL (jH D B):=Fc.N 147 [enc D,enc B] (cu 2 2 D (wQ 9 12 ([B]:aZ Zg) (cV 0 λz _=>cZ 9 15 (bZ 12 B (ga 6 (λu=>(bL [Ov 7,Cv 17 B,Iv 18 (len B),Iv 19 u.2] [Lb 2007 u.1])) (λw=>(0,(bL [Ov 7] [Lb 2007 w]))) (λu=>bB 8 20 (bP 8 λC _=>bB 11 25 (ow 7 2007 30 31 λG _=>bh) bh) bh) (λw=>bh))) bh)))
namespace gq
def kr(B:bX)(D:Int)(x:Int×(Zg))(G:Zg):a_ (Fw Zg Empty Zg):=bl (x.1==D) (some (.r x.2)) (some (.n (Sl.nil:Zg)))
def E1(B:bX)(D:Int)(G:Zg):a_ Zg:=(jN B).bind λu=>(lq (λ(x:Int×(Zg))(q:Zg)=>kr B D x q) u G).bind (Fw.rV (λq=>some Sl.nil) (λe=>elim e) (λe=>some e))
end gq
def gq(B:bX)(k1:Int):a_ Zg:=(og B).bind λu=>gq.E1 u k1 (Sl.nil:Zg)
open gq in
instance Se(D:bX)(k1:Int):Fc Sy cL (gq D k1):=Fc.N 148 [enc D,.int .i64 k1] (cu 2 2 D (bG 8 λw _=>Gp λC z=>Ct 4 [Pv 3,Pv 4,(8,.v (.clo 222 [] [.fptr (cells w)]))] (λB=>[(3,.box [iv k1]),(4,.box [.v .bO])]) (λu=>elim u) (λu=>[(3,.box [iv k1]),(4,.box [cv u])]) (GS w C z) (λG B=>zL 8 (bB 9 13 (pM 4 4 0 G.2 bh) bh)) (λB=>bh) (λx=>elim x) (λu=>bh)))
namespace jh
def br(G:Zg)(J:Int)(U:Z4)(D:Zb)(B:Int):a_ (Fw ((Zb)×Int) Zb Empty):=bl (decide (B<J)) ((idx G B).bind λu=>(idx U.procs B).bind λw=>(gq w u).bind λz=>(gw D (z:Zg)).bind λC=>some (.n (C,wrap .i64 (B+1)))) (some (.x D))
def W1(B:Zb)(D:Zg)(G J:Int)(U:Z4):a_ ((Zb)×Int):=(bS (λq:(Zb)×Int=>br D G U q.1 q.2) (B,J)).bind (Fw.elim (λe=>some (e,0)) (λe=>elim e))
end jh
def jh(D:Z4)(B:Zg):a_ ((Zb)×Int):=(jH D B).bind λu=>bl (u.2==0) (jh.W1 (Sl.nil:Zb) B (len B) 0 D) (some (Sl.nil,u.2))
open jh in
instance XK(D:Z4)(B:Zg):Fc Sy cL (jh D B):=Fc.N 107 [enc D,enc B] (cu 2 2 D (bG 9 λC _=>cZ 13 18 (bZ 12 B (ga 6 (λu=>(bL [Pv 2,Ov 8,Cv 20 B,Iv 21 (len B),Iv 22 u.2] [Xb 2 D,Lb 2008 u.1])) (λw=>(0,(bL [Ov 8] [Lb 2008 w]))) (λu=>bB 8 23 (bP 8 λG _=>bP 10 λI _=>bG 2 λz _=>wQ 0 35 ([z]:aZ Zg) (ow 0 2008 35 36 λJ _=>bh)) bh) (λw=>bh))) bh))
def kA(B:Var)(D:Pred):a_ X':=some (toList B.name==toList D.name)
instance G3(B:Var)(D:Pred):Fc Sy cL (kA B D):=Fc.M 223 [enc B,.fptr (cells D)] (bh)
def oA(D:cr)(p1:Pred):QQ:=(idx D.t.procs p1.proc).bind λu=>(fL u.vars (λz=>kA z p1)).bind λw=>(idx D.values p1.proc).bind λB=>(idx B w).bind λC=>some C
instance JU(B:cr)(p1:Pred):Fc Sy cL (oA B p1):=Fc.M 192 [enc B,enc p1] (cu 2 2 B (cu 0 3 p1 (bP 10 λu _=>cV (F:=oJ 223 [.fptr (cells p1)] (λz=>kA z p1) lW.sw u.vars) 3 λw _=>bP 9 λC _=>bP 2 λD _=>bh)))
def uU(B:Z4)(m1:Int):a_ (bf×X'):=(iM B 3 m1).bind λu=>some (u.1,u.2)
instance Sc(B:Z4)(m1:Int):Fc Sy cL (uU B m1):=Fc.M 235 [enc B,.int .i64 m1] (cu 2 2 B (bG 8 λu _=>bh))
namespace iX
def br(W:Zg)(Y:Int)(J:Sl WF)(U:Z4)(B:Zg)(G D:Int):a_ (Fw ((Zg)×Int×Int) Zg Empty):=bl (decide (D<G)) ((idx J D).bind λu=>(bl (u.kind==2) (some (!(u.peer==Y))) (some true):a_ X').bind λC=>bl C (some (.n (B,G,wrap .i64 (D+1)))) ((uU U u.message).bind λw=>(bl w.2 ((idx W w.1.proc).bind λI=>some (decide (w.1.index>I))) (some true):a_ X').bind λL=>bl L ((gw B (u.message:Int)).bind λz=>some (.n (z,G,wrap .i64 (D+1)))) (some (.n (B,G,wrap .i64 (D+1)))))) (some (.x B))
def W1(W:Zg)(Y:Int)(B:Zg)(D:Sl WF)(G J:Int)(U:Z4):a_ ((Zg)×Int):=(bS (λq:(Zg)×Int×Int=>br W Y D U q.1 q.2.1 q.2.2) (B,G,J)).bind (Fw.elim (λe=>some (e,0)) (λe=>elim e))
end iX
def iX(B:Z4)(D:Zg)(p2 G:Int):a_ ((Zg)×Int):=(dD B (Sl.row [D]:Zb) (Sl.row [p2,G]:Zg)).bind λu=>bl (u==0) ((idx B.procs p2).bind λz=>(idx D p2).bind λC=>(fZ z.events none (some C)).bind λw=>iX.W1 D G (Sl.nil:Zg) w (len w) 0 B) (some (Sl.nil,u))
open iX in
instance Xj(B:Z4)(D:Zg)(p2 G:Int):Fc Sy cL (iX B D p2 G):=Fc.N 224 [enc B,enc D,.int .i64 p2,.int .i64 G] (cu 2 4 B (wQ 9 18 ([D]:aZ Zg) (cV 3 λL _=>cZ 9 24 (bP 14 λO _=>bP 4 λC _=>AJ 1 false true [.int .i64 C] λw _=>bZ 0 w (ga 6 (λu=>(bL [Cv 1 D,Iv 3 G,Pv 4,Ov 11,Cv 36 w,Iv 37 u.2.1,Iv 38 u.2.2] [Xb 4 B,Lb 2011 u.1])) (λz=>(0,(bL [Ov 11] [Lb 2011 z]))) (λu=>bB 8 39 (bP 7 λI _=>pM 2 13 0 I (ck 9 5 [45] 50 (cZ 9 45 (bF 5) (bF 5)) λQ=>bB 2 50 bh (bG 8 λS _=>ck 13 9 [14,60] 69 (cZ 13 60 (bP 5 λT _=>bF 3) (bF 9)) λU=>bB 2 69 (ow 6 2011 73 74 λJ _=>bh) bh))) bh) (λz=>bh))) bh)))
def o6(B:cr)(p1:Pred):QQ:=(iX B.t B.counts p1.proc p1.peer).bind λu=>some (len u.1)
instance Lt(B:cr)(p1:Pred):Fc Sy cL (o6 B p1):=Fc.M 193 [enc B,enc p1] (cu 2 2 B (cu 0 3 p1 (bG 13 λu _=>bZ 10 u.1 bh)))
def cN(B:cr)(p1:Pred)(r:(cr×Pred)->QQ):QQ:=bl (p1.kind==1) (some p1.n) (bl (p1.kind==2) ((oA B p1).bind λL=>some L) (bl (p1.kind==3) ((idx B.counts p1.proc).bind λO=>some O) (bl (p1.kind==4) ((o6 B p1).bind λQ=>some Q) (bl (p1.kind==5) ((idx p1.l 0).bind λS=>(r (B,S)).bind λT=>some (wrap .i64 (0-T))) (bl (p1.kind==6) ((idx p1.l 0).bind λU=>(r (B,U)).bind λW=>(idx p1.l 1).bind λX=>(r (B,X)).bind λY=>some (wrap .i64 (W+Y))) (bl (p1.kind==7) ((idx p1.l 0).bind λu=>(r (B,u)).bind λw=>(idx p1.l 1).bind λz=>(r (B,z)).bind λC=>some (wrap .i64 (w-C))) ((idx p1.l 0).bind λD=>(r (B,D)).bind λG=>(idx p1.l 1).bind λI=>(r (B,I)).bind λJ=>some (wrap .i64 (G*J)))))))))
theorem wY(r:(cr×Pred)->QQ)(a:hG Sy cL 149 (λz:cr×Pred=>[enc z.1,enc z.2]) (λr:Int=>[.int .i64 r]) r true)(B:cr)(p1:Pred):Le ((cN B p1 r).bind λr=>some [.int .i64 r]) (jW cL 149 [enc B,enc p1]):=(Fc.M 149 [enc B,enc p1] (cu 2 2 B (cu 0 3 p1 (bB 17 7 bh (bB 7 11 (bG 5 λT _=>bh) (bB 7 16 (bP 7 λU _=>bh) (bB 7 24 (bG 5 λW _=>bh) (bB 7 29 (jF 6 33 (Pred.mC p1.l) (bP 0 λG _=>cV (F:=Fc.of (B,G) a) 1 λX _=>bh)) (bB 7 38 (jF 6 42 (Pred.mC p1.l) (bP 0 λI _=>cV (F:=Fc.of (B,I) a) 1 λY _=>jF 3 48 (Pred.mC p1.l) (bP 0 λJ _=>cV (F:=Fc.of (B,J) a) 1 λZ _=>bh))) (bB 7 53 (jF 6 57 (Pred.mC p1.l) (bP 0 λu _=>cV (F:=Fc.of (B,u) a) 1 λL _=>jF 3 63 (Pred.mC p1.l) (bP 0 λw _=>cV (F:=Fc.of (B,w) a) 1 λO _=>bh))) (jF 9 70 (Pred.mC p1.l) (bP 0 λC _=>cV (F:=Fc.of (B,C) a) 1 λQ _=>jF 3 76 (Pred.mC p1.l) (bP 0 λD _=>cV (F:=Fc.of (B,D) a) 1 λS _=>bh)))))))))))):Fc Sy cL (cN B p1 r)).F.h ()
def e_(B:cr)(p1:Pred):QQ:=iw (λr(z:cr×Pred)=>cN z.1 z.2 r) 100000 (B,p1)
instance LU(B:cr)(p1:Pred):Fc Sy cL (e_ B p1):=Fc.of (B,p1) (hG.fix (A:=λz:cr×Pred=>[enc z.1,enc z.2]) (E:=λr:Int=>[.int .i64 r]) (sc:=true) (b:=(λr(z:cr×Pred)=>cN z.1 z.2 r)) Zae (λ_ _=>rfl) (λr a z=>wY r a z.1 z.2) 100000)
namespace eP
def J1(W:Int)(U:X')(D:cr)(B:Pred)(r:(cr×Pred)->a_ X'):a_ X':=bl U (some (B.kind==13)) (bl (W==15) ((idx B.l 0).bind λu=>(r (D,u)).bind λw=>some (!w)) (bl (W==16) ((idx B.l 0).bind λz=>(r (D,z)).bind λC=>(bl C ((idx B.l 1).bind λG=>(r (D,G)).bind λI=>some I) (some false):a_ X').bind λJ=>some J) ((idx B.l 0).bind λL=>(r (D,L)).bind λO=>(bl O (some true) ((idx B.l 1).bind λQ=>(r (D,Q)).bind λS=>some S):a_ X').bind λT=>some T)))
theorem qC(r:(cr×Pred)->a_ X')(a:hG Sy cL 108 (λz:cr×Pred=>[enc z.1,enc z.2]) (λr:X'=>[.bool r]) r true)(U:Int)(G:X')(B:cr)(D:Pred):Le ((J1 U G B D r).bind (λr=>some [.bool r])) (cg Sy cL (qZ (tr Tx 108)) (uJ (tb Tx 108) [1,0,1,0,1,1,1,1,1,1,1,1,1,0] [] (bL [Pv 2,Pv 3,Iv 6 U,Bv 67 G] [Xb 2 B,Xb 3 D]))):=bB 0 67 bh (bB 7 73 (jF 6 77 (Pred.mC D.l) (bP 0 λC _=>cV (F:=Fc.of (B,C) a) 1 λQ _=>bh)) (bB 7 82 (jF 6 86 (Pred.mC D.l) (bP 0 λI _=>cV (F:=Fc.of (B,I) a) 1 λS _=>vI 1 7 [96,89] (λu=>(bL [Bv 67 false,Bv 73 false,Bv 82 true,Bv 97 u] [Xb 2 B,Xb 3 D])) (bB 1 90 (jF 3 93 (Pred.mC D.l) (bP 0 λJ _=>cV (F:=Fc.of (B,J) a) 1 λT _=>bF 1)) (bF 7)) λu=>bh)) (jF 9 100 (Pred.mC D.l) (bP 0 λL _=>cV (F:=Fc.of (B,L) a) 1 λW _=>vI 1 7 [110,103] (λw=>(bL [Bv 67 false,Bv 73 false,Bv 82 false,Bv 111 w] [Xb 2 B,Xb 3 D])) (bB 1 104 (bF 7) (jF 3 107 (Pred.mC D.l) (bP 0 λO _=>cV (F:=Fc.of (B,O) a) 1 λX _=>bF 1))) λw=>bh))))
end eP
def dS(B:cr)(p1:Pred)(r:(cr×Pred)->a_ X'):a_ X':=bl (p1.kind==9) ((idx p1.l 0).bind λJ=>(e_ B J).bind λL=>(idx p1.l 1).bind λO=>(e_ B O).bind λQ=>some (L==Q)) (bl (p1.kind==10) ((idx p1.l 0).bind λS=>(e_ B S).bind λT=>(idx p1.l 1).bind λU=>(e_ B U).bind λW=>some (!(T==W))) (bl (p1.kind==11) ((idx p1.l 0).bind λX=>(e_ B X).bind λu=>(idx p1.l 1).bind λw=>(e_ B w).bind λz=>some (decide (u<z))) (bl (p1.kind==12) ((idx p1.l 0).bind λC=>(e_ B C).bind λD=>(idx p1.l 1).bind λG=>(e_ B G).bind λI=>some (decide (D<=I))) (bl (p1.kind==13) (eP.J1 p1.kind true B p1 r) (eP.J1 p1.kind (p1.kind==14) B p1 r)))))
open eP in
theorem xX(r:(cr×Pred)->a_ X')(a:hG Sy cL 108 (λz:cr×Pred=>[enc z.1,enc z.2]) (λr:X'=>[.bool r]) r true)(B:cr)(p1:Pred):Le ((dS B p1 r).bind λr=>some [.bool r]) (jW cL 108 [enc B,enc p1]):=(Fc.M 108 [enc B,enc p1] (cu 2 2 B (cu 0 3 p1 (bB 17 7 (jF 6 11 (Pred.mC p1.l) (bP 0 λL _=>cV 1 λO _=>jF 3 17 (Pred.mC p1.l) (bP 0 λQ _=>cV 1 λS _=>bh))) (bB 7 22 (jF 6 26 (Pred.mC p1.l) (bP 0 λT _=>cV 1 λU _=>jF 3 32 (Pred.mC p1.l) (bP 0 λW _=>cV 1 λX _=>bh))) (bB 7 37 (jF 6 41 (Pred.mC p1.l) (bP 0 λY _=>cV 1 λu _=>jF 3 47 (Pred.mC p1.l) (bP 0 λw _=>cV 1 λC _=>bh))) (bB 7 52 (jF 6 56 (Pred.mC p1.l) (bP 0 λD _=>cV 1 λG _=>jF 3 62 (Pred.mC p1.l) (bP 0 λI _=>cV 1 λJ _=>bh))) (bB 8 67 (zl 4 (qC r a p1.kind true B p1)) (zl 7 (qC r a p1.kind (p1.kind==14) B p1))))))))):Fc Sy cL (dS B p1 r)).F.h ()
def eP(B:cr)(p1:Pred):a_ X':=iw (λr(z:cr×Pred)=>dS z.1 z.2 r) 100000 (B,p1)
instance MR(B:cr)(p1:Pred):Fc Sy cL (eP B p1):=Fc.of (B,p1) (hG.fix (A:=λz:cr×Pred=>[enc z.1,enc z.2]) (E:=λr:X'=>[.bool r]) (sc:=true) (b:=(λr(z:cr×Pred)=>dS z.1 z.2 r)) Zae (λ_ _=>rfl) (λr a z=>xX r a z.1 z.2) 100000)
namespace iB
def br(Y J:Zb)(U:Int)(G:Z4)(W:Pred)(B:Sl X')(D:Int):a_ (Fw ((Sl X')×Int) (Sl X') ((Zb)×(Sl X')×Int)):=bl (decide (D<U)) ((idx J D).bind λw=>(jh G w).bind λu=>bl (u.2==0) ((eP (⟨G,w,u.1⟩:cr) W).bind λz=>(gw B (z:X')).bind λC=>some (.n (C,wrap .i64 (D+1)))) (some (.r ((Sl.nil:Zb),(Sl.nil:Sl X'),u.2)))) (some (.x B))
def W1(Y:Zb)(B:Sl X')(D:Zb)(G J:Int)(U:Z4)(W:Pred):a_ ((Zb)×(Sl X')×Int):=(bS (λq:(Sl X')×Int=>br Y D G U W q.1 q.2) (B,J)).bind (Fw.elim (λe=>some (Y,e,0)) (λe=>some (e.1,e.2.1,e.2.2)))
end iB
def iB(B:Z4)(p1:Pred):a_ ((Zb)×(Sl X')×Int):=(rQ B p1).bind λw=>bl (w==0) ((vr p1 2).bind λz=>bl (z==0) ((oU p1).bind λC=>bl C (some (Sl.nil,(Sl.nil:Sl X'),15)) ((pP B).bind λu=>bl (u.2==0) (iB.W1 u.1 (Sl.nil:Sl X') u.1 (len u.1) 0 B p1) (some (Sl.nil,(Sl.nil:Sl X'),u.2)))) (some (Sl.nil,(Sl.nil:Sl X'),z))) (some (Sl.nil,(Sl.nil:Sl X'),w))
open iB in
instance V_(B:Z4)(p1:Pred):Fc Sy cL (iB B p1):=Fc.N 68 [enc B,enc p1] (cu 2 2 B (cu 0 3 p1 (bG 10 λG _=>cZ 9 20 (bG 7 λI _=>cZ 9 25 (bG 7 λJ _=>bB 2 28 bh (bG 6 λw _=>cZ 14 35 (bZ 12 w.1 (dZ 6 (λz=>(bL [Pv 2,Pv 3,Cv 9 w.1,Ov 11,Cv 37 w.1,Iv 38 (len w.1),Iv 39 z.2] [Xb 2 B,Xb 3 p1,Lb 2011 z.1])) (λu=>(0,(bL [Cv 9 w.1,Ov 11] [Lb 2011 u]))) (λu=>(bL [Cv 4 u.1,Ov 5,Iv 6 u.2.2] [Lb 2005 u.2.1])) (λz=>bB 8 40 (bP 7 λC _=>bG 8 λD _=>cZ 14 50 (abj 8 (⟨B,C,D.1⟩:cr) [enc B,enc C,enc D.1] [.bO,.bO,.bO] [(0,1),(1,1),(2,1)] (by simp only[Oa,QU,l_,Pq,Mr,QO,Rq];rfl) rfl (bG 1 λL _=>ow 1 2011 59 60 λO _=>bh)) bh) bh) (λu=>bh) (λu=>bh))) bh)) bh) bh)))
def rE(B:Z4)(p1:Pred):a_ ((Sl X')×Int):=(iB B p1).bind λu=>some (u.2.1,u.2.2)
instance R_(B:Z4)(p1:Pred):Fc Sy cL (rE B p1):=Fc.N 82 [enc B,enc p1] (cu 2 2 B (cu 0 3 p1 (bG 8 λu _=>bh)))
namespace iN
def br(J:Zg)(D:Int)(G:Sl U8)(B:Int):a_ (Fw ((Sl U8)×Int) (Sl U8) Empty):=bl (decide (B<D)) ((idx J B).bind λu=>(gw G (⟨wrap .u8 u⟩:U8)).bind λw=>some (.n (w,wrap .i64 (B+1)))) (some (.x G))
def W1(G:Sl U8)(J:Zg)(B D:Int):a_ U':=(bS (λq:(Sl U8)×Int=>br J B q.1 q.2) (G,D)).bind (Fw.elim (λe=>some (O7 e)) (λe=>elim e))
end iN
def iN(B:Zg):a_ U':=(v7 (len B) (⟨0⟩:U8)).bind λu=>iN.W1 u B (len B) 0
open iN in
instance Yj(B:Zg):Fc Sy cL (iN B):=Fc.M 84 [enc B] (bZ 8 B (abf (zero:=[.int .u8 0]) 0 8 λz _=>bZ 7 B (ga 6 (λu=>(bL [Ov 3,Cv 9 B,Iv 10 (len B),Iv 11 u.2] [Lb 2003 u.1])) (λw=>(0,(bL [Ov 3] [Lb 2003 w]))) (λu=>bB 8 12 (bP 7 λC _=>ow 9 2003 18 19 λD _=>bh) bh) (λw=>aaB 5 2003 w bh))))
namespace jJ
def br(J:Zb)(U:Int)(D:Int)(G:Mo ByteArray Int)(B:b_):a_ (Fw (Int×(Mo ByteArray Int)×b_) ((Mo ByteArray Int)×b_) Empty):=bl (decide (D<U)) ((idx J D).bind λu=>(iN u).bind λw=>some (.n (wrap .i64 (D+1),mP G w D,(⟨B.t,B.l,⟨none⟩,B.truth⟩:b_)))) (some (.x (G,(⟨B.t,B.l,⟨none⟩,B.truth⟩:b_))))
def W1(G:Zb)(J U:Int)(B:Mo ByteArray Int)(D:b_):a_ (a_ b_):=(bS (λq:Int×(Mo ByteArray Int)×b_=>br G J q.1 q.2.1 q.2.2) (U,B,D)).bind (Fw.elim (λe=>some (some (⟨e.2.t,e.2.l,⟨some e.1⟩,e.2.truth⟩:b_))) (λe=>elim e))
end jJ
def jJ(G:Z4)(D:Zb)(B:Sl X'):a_ (a_ b_):=jJ.W1 D (len D) 0 [] (⟨G,D,⟨none⟩,B⟩:b_)
open jJ in
instance XA(G:Z4)(D:Zb)(B:Sl X'):Fc Sy cL (jJ G D B):=Fc.N 58 [enc G,enc D,enc B] (cu 2 3 G (Z3 9 [cv G,cv D,.mp 12,cv B] [cv G.procs,cv D,.mp 12,cv B] [.bO,.bO,.gM,.bO] [(0,1),(1,1),(2,1),(3,1)] (by simp only[EU,Px,Tv,ND,Rl,NS,l_,Pq,Mr,QO,Rq];rfl) (Z_ 0 15 [cv G.procs,cv D,.mp 12,cv B] (by simp only[all_cons,YB,Ti,Wh,T0,nT,mo,nR,nC,Nd];rfl) (bZ 7 D (ga 5 (λu=>(bL [(7,.ptr 15 0),Cv 16 D,Iv 17 (len D),Iv 18 u.1] [(12,vu u.2.1),(15,.box [cv u.2.2.t.procs,cv u.2.2.l,.mp 12,cv u.2.2.truth])])) (λw=>(0,(bL [(7,.ptr 15 0)] [(12,vu w.1),(15,.box [cv w.2.t.procs,cv w.2.l,.mp 12,cv w.2.truth])]))) (λu=>bB 7 19 (bP 8 λC _=>cV 11 λz _=>Ya 1 12 u.2.1 z u.1 bh) bh) (λw=>bh))))))
def rm(B:Z4)(p1:Pred):a_ ((a_ b_)×Int):=(rE B p1).bind λu=>bl (u.2==0) ((pP B).bind λw=>bl (w.2==0) ((jJ B w.1 u.1).bind λz=>some (z,0)) (some (none,w.2))) (some (none,u.2))
instance Zy(B:Z4)(p1:Pred):Fc Sy cL (rm B p1):=Fc.N 46 [enc B,enc p1] (cu 2 2 B (cu 0 3 p1 (bG 8 λu _=>cZ 14 16 (bG 6 λw _=>cZ 14 24 (bG 8 λz _=>bh) bh) bh)))
def sj(B:Z4)(D:Zg):a_ X':=(dD B (Sl.row [D]:Zb) (Sl.nil:Zg)).bind λu=>some (u==0)
instance TF(B:Z4)(D:Zg):Fc Sy cL (sj B D):=Fc.M 83 [enc B,enc D] (cu 2 2 B (wQ 7 7 ([D]:aZ Zg) (cV 0 λu _=>bh)))
namespace fG
def br(G:b_)(i1 J U:Int)(B:Zg)(D:Int):a_ (Fw ((Zg)×Int) Zg Empty):=bl (decide (D<U)) ((idx G.l i1).bind λz=>((dc z).bind Sl.whole).bind λu=>(Sl.jR u D).bind λC=>(Sl.get u C).bind λI=>(Sl.jR u D).bind λL=>(Sl.put u L (wrap .i64 (I+J):Int)).bind λO=>(iN O).bind λw=>bl (uT (nF G.index) w) ((gw B (ov (nF G.index) w 0:Int)).bind λQ=>some (.n (Q,wrap .i64 (D+1)))) (some (.n (B,wrap .i64 (D+1))))) (some (.x B))
def W1(G:b_)(i1 B:Int)(D:Zg)(J U:Int):a_ Zg:=(bS (λq:(Zg)×Int=>br G i1 B J q.1 q.2) (D,U)).bind (Fw.elim (λe=>some e) (λe=>elim e))
end fG
def fG(s0:b_)(i1 B:Int):a_ Zg:=(idx s0.l i1).bind λu=>fG.W1 s0 i1 B (Sl.nil:Zg) (len u) 0
open fG in
instance Pb(s0:b_)(i1 B:Int):Fc Sy cL (fG s0 i1 B):=Fc.N 91 [.fptr (cells s0),.int .i64 i1,.int .i64 B] (bP 18 λz _=>bZ 1 z (ga 6 (λu=>(bL [Kv 0 s0,Iv 1 i1,Iv 2 B,Ov 7,Iv 19 (len z),Iv 20 u.2] [Lb 2007 u.1])) (λC=>(0,(bL [Ov 7] [Lb 2007 C]))) (λu=>bB 8 21 (bP 18 λD _=>Ce 1 30 eo D λI _=>kg .i64 7 30 λJ _=>qA 0 30 0 1 false (λw=>.int .i64 w) λw _=>kg .i64 2 30 λL _=>AR 0 30 (.int .i64 (wrap .i64 (w+B))) λO _=>cV 9 λG _=>Vs 0 s0.index G 0 (bB 12 48 (ow 5 2007 51 52 λQ _=>bh) bh)) bh) (λC=>bh)))
namespace gX
def bT(U:Zg)(W:Zb)(Y b G:Int)(B:Zg)(D:Int)(a:(Zg)->QQ):a_ (Fw ((Zg)×Int) Zg Empty):=bl (decide (D<G)) ((Sl.jR B D).bind λw=>(Sl.get B w).bind λz=>(idx U D).bind λC=>(a (Sl.row [z,C]:Zg)).bind λI=>(Sl.jR B D).bind λJ=>(Sl.put B J (I:Int)).bind λu=>some (.n (u,wrap .i64 (D+1)))) (some (.x B))
def W2(B Y:Zg)(G:Zb)(J D U W:Int)(a:(Zg)->QQ):a_ (Fw ((Zg)×Int) Zg Empty):=(bS (λq:(Zg)×Int=>bT Y G J D U q.1 q.2 a) (B,W)).bind (Fw.elim (λe=>some (.n (e,wrap .i64 (D+1)))) (λe=>elim e))
def br(G:Zb)(J:Int)(B:Zg)(D:Int)(U:(Zg)->QQ):a_ (Fw ((Zg)×Int) Zg Empty):=bl (decide (D<J)) ((idx G D).bind λu=>W2 B u G J D (len B) 0 U) (some (.x B))
def W1(B:Zg)(D:Zb)(G J:Int)(U:(Zg)->QQ):a_ Zg:=(bS (λq:(Zg)×Int=>br D G q.1 q.2 U) (B,J)).bind (Fw.elim (λe=>some e) (λe=>elim e))
end gX
def gX(B:Zb)(D:(Zg)->QQ):a_ Zg:=(idx B 0).bind λw=>((dc w).bind Sl.whole).bind λz=>(fZ B (some 1) none).bind λu=>gX.W1 z u (len u) 0 D
open gX in
abbrev Iu(G:FuncId)(e0:aZ V)(U:(Sl Int)->a_ Int)(a:lW Sy cL G [] e0 (λz:Sl Int=>[enc z]) (λr:Int=>[.int .i64 r]) U true)(W:Sl (Sl Int)):Fc Sy cL (gX W U):=Fc.N 92 [.clo G [] e0,enc W] (bP 8 λL _=>Ce 1 12 eo L λT _=>AJ 7 true false [.int .i64 1] λu _=>bZ 0 u (ga 6 (λw=>(bL [(0,.v (.clo G [] e0)),Ov 5,Cv 14 u,Iv 15 (len u),Iv 16 w.2] [Lb 2005 w.1])) (λI=>(0,(bL [Ov 5] [Lb 2005 I]))) (λw=>bB 8 17 (bP 7 λO _=>Ed 7 2005 w.1 (ga 6 (λC=>(bL [(0,.v (.clo G [] e0)),Ov 5,Cv 7 O,Cv 14 u,Iv 15 (len u),Iv 16 w.2,Iv 21 (len w.1),Iv 22 C.2] [Lb 2005 C.1])) (λJ=>(2,(bL [(0,.v (.clo G [] e0)),Ov 5,Cv 14 u,Iv 15 (len u),Iv 16 w.2] [Lb 2005 J]))) (λC=>bB 8 23 (kg .i64 17 2005 λX _=>qA 0 2005 0 1 false (λB=>.int .i64 B) λB _=>bP 2 λD _=>Yy 1 ([B,D]:aZ Int) (.buildC 1 2 [.int .i64 0] [0,1]) [iv B,iv D] (yJ 0 a.f (Sl.row [B,D]:Sl Int) λQ _=>kg .i64 0 2005 λY _=>AR 0 2005 (.int .i64 Q) λS _=>bh)) bh) (λJ=>bh))) bh) (λI=>bh)))
def pE(B:Zg):QQ:=(dG B).bind λu=>some u
instance VR(B:Zg):Fc Sy cL (pE B):=Fc.M 93 [enc B] (bG 8 λu _=>bh)
namespace dH
def bT(e:b_)(i4:Int)(a:Zg)(b:Int)(B:Zb)(D:Int):a_ (Fw ((Zb)×Int) Zb Empty):=bl (decide (D<b)) ((idx a D).bind λu=>(Sl.jR B u).bind λc=>(Sl.get B c).bind λd=>(Sl.isNil d).bind λw=>bl w (some (.n (B,wrap .i64 (D+1)))) ((Sl.jR B i4).bind λC=>(Sl.get B C).bind λG=>(Sl.isNil G).bind λI=>bl I ((Sl.jR B u).bind λJ=>(Sl.get B J).bind λL=>(Sl.jR B i4).bind λO=>(Sl.put B O (L:Zg)).bind λQ=>some (.n (Q,wrap .i64 (D+1)))) ((Sl.jR B i4).bind λS=>(Sl.get B S).bind λT=>(Sl.jR B u).bind λU=>(Sl.get B U).bind λW=>(gX (Sl.row [T,W]:Zb) (λz=>pE z)).bind λX=>(Sl.jR B i4).bind λY=>(Sl.put B Y (X:Zg)).bind λZ=>some (.n (Z,wrap .i64 (D+1)))))) (some (.x B))
def W2(D:b_)(B:Zb)(i4:Int)(G:Zg)(J U:Int):a_ (Fw ((Zb)×Int) Zb Empty):=(bS (λq:(Zb)×Int=>bT D i4 G J q.1 q.2) (B,U)).bind (Fw.elim (λe=>some (.n (e,wrap .i64 (i4-1)))) (λe=>elim e))
def br(D:b_)(B:Zb)(i4:Int):a_ (Fw ((Zb)×Int) Zb Empty):=bl (decide (i4>=0)) ((idx D.truth i4).bind λw=>bl w ((idx D.l i4).bind λz=>(Sl.jR B i4).bind λC=>(Sl.put B C (z:Zg)).bind λG=>some (.n (G,wrap .i64 (i4-1)))) ((fG D i4 1).bind λu=>W2 D B i4 u (len u) 0)) (some (.x B))
def W1(D:b_)(B:Zb)(i4:Int):a_ Zb:=(bS (λq:(Zb)×Int=>br D q.1 q.2) (B,i4)).bind (Fw.elim (λe=>some e) (λe=>elim e))
end dH
def dH(s0:b_):a_ Zb:=(oL (len s0.l) (Sl.nil:Zg)).bind λu=>dH.W1 s0 u (wrap .i64 ((len s0.l)-1))
open dH in
instance Mi(s0:b_):Fc Sy cL (dH s0):=Fc.N 53 [.fptr (cells s0)] (bZ 11 s0.l (UT 0 12 λa _=>bZ 10 s0.l (ga 7 (λB=>(bL [Kv 0 s0,Ov 3,Iv 4 B.2] [Lb 2003 B.1])) (λJ=>(0,(bL [Ov 3] [Lb 2003 J]))) (λB=>bB 9 20 (bP 13 λb _=>bB 3 29 (bP 10 λc _=>kg .i64 1 2003 λd _=>I4 0 2003 λe _=>bh) (bG 7 λG _=>bZ 0 G (ga 6 (λI=>(bL [Kv 0 s0,Ov 3,Iv 4 B.2,Cv 42 G,Iv 43 (len G),Iv 44 I.2] [Lb 2003 I.1])) (λL=>(2,(bL [Kv 0 s0,Ov 3,Iv 4 B.2] [Lb 2003 L]))) (λI=>bB 8 45 (bP 7 λf _=>kg .i64 9 2003 λg _=>qA 0 2003 0 1 false (λO=>enc O) λO _=>J6 0 λT _=>bB 3 61 bh (kg .i64 5 2003 λU _=>qA 0 2003 0 1 false (λC=>enc C) λC _=>J6 0 λW _=>bB 3 67 (kg .i64 6 2003 λX _=>qA 0 2003 0 1 false (λD=>enc D) λD _=>kg .i64 0 2003 λY _=>I4 0 2003 λZ _=>bh) (kg .i64 6 2003 λh _=>qA 0 2003 0 1 false (λu=>enc u) λu _=>kg .i64 2 2003 λi _=>qA 0 2003 0 1 false (λw=>enc w) λw _=>wQ 0 58 ([u,w]:aZ Zg) (Xs (F:=Iu 93 [] (λz=>pE z) lW.sw (Sl.row [u,w]:Zb)) 0 [58] λj _=>⟨kg .i64 0 2003 λQ _=>I4 0 2003 λS _=>bh,kg .i64 0 2003 λQ _=>I4 0 2003 λS _=>bh⟩)))) bh) (λL=>bh)))) bh) (λJ=>bh))))
def jO(G:Zg)(J:a_ b_):a_ X':=(Sl.isNil G).bind λu=>(bl u (some false) ((J).bind λw=>(J).bind λz=>(iN G).bind λB=>(idx w.truth (ov (nF z.index) B 0)).bind λC=>some (!C)):a_ X').bind λD=>some D
instance J5(B:Zg)(D:a_ b_):Fc Sy cL (jO B D):=Fc.M 123 [enc B,.fptr (cells D)] (aae 8 λI _=>vI 1 15 [16] (λu=>(bL [Bv 21 u] [])) (cZ 1 6 (bF 15) (F9 1 (λw=>(bL [Cv 0 B,Kv 1 D,Bv 6 true,Cv 7 w] [])) λz _=>F9 4 (λw=>(bL [Cv 0 B,Bv 6 true,Cv 10 z.truth,Cv 11 w] [])) λC _=>cV 4 λG _=>Qn 0 C.index G 0 (bP 0 λJ _=>bF 3))) λu=>bh)
def nK(s0:b_)(B:Zb):a_ X':=(jb B (λz=>jO z (some s0:a_ b_))).bind λu=>some (!u)
instance MF(s0:b_)(B:Zb):Fc Sy cL (nK s0 B):=Fc.M 90 [.fptr (cells s0),enc B] (cV (F:=qe 123 [.fptr (cells (some s0:a_ b_))] (λz=>jO z (some s0:a_ b_)) lW.sw B) 10 λu _=>bh)
def nH(s0:b_)(D:Zb)(B:Int):a_ ((Zg)×Int):=(nK s0 D).bind λu=>bl u ((idx D B).bind λw=>(Sl.isNil w).bind λz=>bl z (some (Sl.nil,7)) ((idx D B).bind λC=>((dc C).bind Sl.whole).bind λG=>some (G,0))) (some (Sl.nil,15))
instance MD(s0:b_)(D:Zb)(B:Int):Fc Sy cL (nH s0 D B):=Fc.N 52 [.fptr (cells s0),enc D,.int .i64 B] (bG 12 λw _=>cZ 4 8 (bP 5 λz _=>J6 1 λC _=>bB 3 13 bh (bP 8 λu _=>Ce 1 23 eo u λG _=>bh)) bh)
def gI(s0:b_)(D:Zg):a_ ((Zg)×Int):=(sj s0.t D).bind λw=>bl w ((dH s0).bind λz=>(iN D).bind λB=>(nH s0 z (ov (nF s0.index) B 0)).bind λu=>some (u.1,u.2)) (some (Sl.nil,18))
instance Ph(s0:b_)(B:Zg):Fc Sy cL (gI s0 B):=Fc.N 47 [.fptr (cells s0),enc B] (bG 14 λw _=>cZ 3 12 (bG 7 λz _=>cV 5 λu _=>Qn 0 s0.index u 0 (bG 0 λC _=>bh)) bh)
namespace kF
def br(D:Z4)(B:Zg)(p2:Zg->(bf×bf)->a_ Zg):a_ (Fw Zg Empty Zg):=(g_ D B).bind λu=>bl u.2.2 ((p2 B (u.1,u.2.1)).bind λw=>some (.n w)) (some (.r B))
def W1(B:Zg)(D:Z4)(p2:Zg->(bf×bf)->a_ Zg):a_ ((Zg)×Int):=(bS (λq:Zg=>br D q p2) B).bind (Fw.elim (λe=>elim e) (λe=>some (e,0)))
end kF
def kF(D:Z4)(B:Zg)(p2:Zg->(bf×bf)->a_ Zg):a_ ((Zg)×Int):=(tN D (Sl.row [B]:Zb)).bind λu=>bl u ((jM D B).bind λw=>bl w (((dc B).bind Sl.whole).bind λz=>kF.W1 z D p2) (some ((Sl.nil:Zg),2))) (some ((Sl.nil:Zg),1))
open kF in
abbrev Gk(g2:FuncId)(e2:aZ V)(p2:Sl Int->(bf×bf)->a_ (Sl Int))(G:PD Sy g2 e2 (λz:bf×bf=>[enc z.1,enc z.2]) p2)(D:Trace)(B:Sl Int):Fc Sy cL (kF D B p2):=Fc.N 54 [enc D,enc B,.clo g2 [] e2] (cu 2 3 D (wQ 10 15 ([B]:aZ (Sl Int)) (cV 0 λI _=>cZ 4 12 (bG 5 λJ _=>cZ 4 18 (Ce 7 24 eo B λL _=>Q2 6 (λu=>(bL [(2,.v (.clo g2 [] e2)),Pv 3,Ov 8] [Xb 3 D,Lb 2008 u])) (λw=>(bL [Ov 6,Iv 7 0] [Lb 2006 w])) (λu=>cV 7 λC _=>cZ 18 33 (XV 8 2008 G (C.1,C.2.1) λO _=>bh) bh) (λw=>bh)) bh) bh)))
def tS(D:Z4)(B:Zg):a_ ((Zg)×Int):=(kF D B (λs(z:bf×bf)=>s.setAt z.1.proc z.1.index)).bind λu=>some (u.1,u.2)
instance Zw(D:Z4)(B:Zg):Fc Sy cL (tS D B):=Fc.N 21 [enc D,enc B] (cu 2 2 D (bG (F:=Gk 55 [] (λs(z:bf×bf)=>s.setAt z.1.proc z.1.index) (PD.ze (op:=false) YQ Zae Zae) D B) 8 λu _=>bh))
namespace dN
def bT(U:b_)(G:Zg)(J:Zb)(D:Zg)(W:Z4)(B:Int):a_ (Fw Int Int Empty):=(bl (decide (B<(len G))) ((idx D B).bind λu=>(idx G B).bind λw=>some (u==w)) (some false):a_ X').bind λz=>bl z (some (.n (wrap .i64 (B+1)))) (some (.x B))
def W2(U:b_)(W:Zg)(B:Zb)(Y:Zg)(a:Int)(D:Z4):a_ (Fw ((Zg)×(Zb)) Empty ((Zb)×Int)):=(bS (λq:Int=>bT U W B Y D q) a).bind (Fw.elim (λe=>bl (e==(len W)) (some (.r (B,0))) (((dc W).bind Sl.whole).bind λw=>(Sl.jR w e).bind λz=>(Sl.get w z).bind λC=>(Sl.jR w e).bind λG=>(Sl.put w G (wrap .i64 (C+1):Int)).bind λI=>(tS D I).bind λu=>bl (u.2==0) ((gw B (u.1:Zg)).bind λJ=>some (.n (u.1,J))) (some (.r ((Sl.nil:Zb),u.2))))) (λe=>elim e))
def br(B:b_)(G:Z4)(J:Zg)(D:Zb):a_ (Fw ((Zg)×(Zb)) Empty ((Zb)×Int)):=(gI B J).bind λu=>bl (u.2==0) (W2 B J D u.1 0 G) (some (.r ((Sl.nil:Zb),u.2)))
def W1(D:b_)(J:Zg)(B:Zb)(G:Z4):a_ ((Zb)×Int):=(bS (λq:(Zg)×(Zb)=>br D G q.1 q.2) (J,B)).bind (Fw.elim (λe=>elim e) (λe=>some (e.1,e.2)))
end dN
def dN(D:Z4)(p1:Pred):a_ ((Zb)×Int):=(rm D p1).bind λu=>bl (u.2==0) ((u.1).bind λw=>(idx w.l 0).bind λB=>((dc B).bind Sl.whole).bind λz=>dN.W1 w z (Sl.row [z]:Zb) D) (some ((Sl.nil:Zb),u.2))
open dN in
instance XL(B:Z4)(p1:Pred):Fc Sy cL (dN B p1):=Fc.N 17 [enc B,enc p1] (cu 2 2 B (cu 0 3 p1 (bG 8 λJ _=>cZ 14 21 (F9 6 (λS=>(bL [Pv 2,Cv 6 S,Iv 7 J.2,Bv 21 false,Cv 23 S] [Xb 2 B,Xb 3 p1])) λz _=>bP 3 λL _=>Ce 1 29 eo L λO _=>wQ 7 31 ([O]:aZ Zg) (Q2 6 (λu=>(bL [Pv 2,Kv 6 z,Cv 8 u.1,Ov 9] [Xb 2 B,Lb 2009 u.2])) (λC=>(bL [Ov 4,Iv 5 C.2] [Lb 2004 C.1])) (λu=>bG 7 λQ _=>cZ 14 39 (ga 12 (λD=>(bL [Pv 2,Kv 6 z,Cv 8 u.1,Ov 9,Cv 10 Q.1,Iv 12 D] [Xb 2 B,Lb 2009 u.2])) (λG=>(2,(bL [Pv 2,Kv 6 z,Cv 8 u.1,Ov 9,Iv 12 G] [Xb 2 B,Lb 2009 u.2]))) (λD=>bZ 7 u.1 (ck 2 10 [45] 55 (bB 2 45 (bP 2 λY _=>bP 3 λZ _=>bF 3) (bF 10)) λa=>bB 2 55 bh bh)) (λG=>bZ 7 u.1 (bB 3 61 bh (Ce 6 64 eo u.1 λb _=>kg .i64 7 64 λT _=>qA 0 64 0 1 false (λw=>.int .i64 w) λw _=>kg .i64 1 64 λU _=>AR 0 64 (.int .i64 (wrap .i64 (w+1))) λW _=>bG 8 λI _=>cZ 13 78 (wQ 6 82 ([I.1]:aZ Zg) (ow 0 2009 82 83 λX _=>bh)) bh)))) bh) (λC=>bh))) bh)))
def um(D:Z4)(p1:Pred):a_ ((Zg)×Int):=(rm D p1).bind λu=>bl (u.2==0) ((u.1).bind λw=>(dH w).bind λB=>(nH w B 0).bind λz=>some (z.1,z.2)) (some (Sl.nil,u.2))
instance WJ(B:Z4)(p1:Pred):Fc Sy cL (um B p1):=Fc.N 18 [enc B,enc p1] (cu 2 2 B (cu 0 3 p1 (bG 8 λu _=>cZ 14 15 (F9 7 (λw=>(bL [Iv 7 u.2,Bv 15 false,Cv 17 w,Cv 18 w] [Xb 2 B,Xb 3 p1])) λz _=>bG 0 λC _=>bG 0 λD _=>bh) bh)))
def y_(B:Z4)(p1:Pred)(D:Zg):a_ ((Zg)×Int):=(rm B p1).bind λu=>bl (u.2==0) ((u.1).bind λz=>(gI z D).bind λw=>some (w.1,w.2)) (some (Sl.nil,u.2))
instance XD(B:Z4)(p1:Pred)(D:Zg):Fc Sy cL (y_ B p1 D):=Fc.N 12 [enc B,enc p1,enc D] (cu 2 3 B (cu 0 4 p1 (bG 8 λu _=>cZ 14 17 (F9 7 (λw=>(bL [Iv 9 u.2,Bv 17 false,Cv 19 w,Cv 20 D] [Xb 3 B,Xb 4 p1])) λz _=>bG 0 λC _=>bh) bh)))
namespace eX
def br(G J:Zg)(D:Int)(B:Int):a_ (Fw Int Unit Int):=bl (decide (B<D)) ((idx J B).bind λu=>(idx G B).bind λw=>bl (decide (u>w)) (some (.r B)) (some (.n (wrap .i64 (B+1))))) (some (.x ()))
def W1(G J:Zg)(B D:Int):a_ (Int×Int):=(bS (λq:Int=>br G J B q) D).bind (Fw.elim (λe=>some (0,7)) (λe=>some (e,0)))
end eX
def eX(D:Z4)(B:Zg)(p2:Pred):a_ (Int×Int):=(y_ D p2 B).bind λu=>bl (u.2==0) (eX.W1 B u.1 (len B) 0) (some (0,u.2))
open eX in
instance Rm(D:Z4)(B:Zg)(p2:Pred):Fc Sy cL (eX D B p2):=Fc.M 13 [enc D,enc B,enc p2] (cu 2 3 D (cu 0 5 p2 (bG 9 λz _=>cZ 14 19 (bZ 7 B (dZ 5 (λw=>(bL [Cv 1 B,Cv 8 z.1,Iv 22 (len B),Iv 23 w] [])) (λu=>(0,(bL [] []))) (λu=>(bL [Iv 6 u,Iv 7 0] [])) (λw=>bB 7 24 (bP 15 λC _=>bP 3 λG _=>bB 4 34 bh bh) bh) (λu=>bh) (λu=>bh))) bh)))
namespace vj
def br(a0 G:Zg)(D:Int)(B:Int):a_ (Fw Int Unit Unit):=bl (decide (B<D)) ((idx a0 B).bind λu=>(idx G B).bind λw=>bl (decide (u>w)) (some (.r ())) (some (.n (wrap .i64 (B+1))))) (some (.x ()))
def W1(a0 G:Zg)(B D:Int):a_ X':=(bS (λq:Int=>br a0 G B q) D).bind (Fw.elim (λe=>some true) (λe=>some false))
end vj
def vj(a0 B:Zg):a_ X':=bl ((len a0)==(len B)) (vj.W1 a0 B (len a0) 0) (some false)
open vj in
instance aaU(a0 B:Zg):Fc Sy cL (vj a0 B):=Fc.M 19 [enc a0,enc B] (bZ 9 a0 (bZ 1 B (cZ 3 10 (bZ 7 a0 (dZ 5 (λw=>(bL [Cv 0 a0,Cv 1 B,Iv 12 (len a0),Iv 13 w] [])) (λu=>(0,(bL [] []))) (λu=>(bL [Bv 4 false] [])) (λw=>bB 7 14 (bP 15 λz _=>bP 3 λC _=>bB 4 24 bh bh) bh) (λu=>bh) (λu=>bh))) bh)))
namespace dR
def br(a:Zb)(b:Zg)(Y:Zb)(c:Int)(D:Z4)(d:Pred)(B:Int):a_ (Fw Int Unit Unit):=bl (decide (B<c)) ((idx Y B).bind λw=>(eX D w d).bind λu=>(bl (u.2==0) (some (decide (u.1<0))) (some true):a_ X').bind λG=>(bl G (some true) (some (decide (u.1>=(len w)))):a_ X').bind λI=>(bl I (some true) ((vj w b).bind λJ=>some (!J)):a_ X').bind λL=>bl L (some (.r ())) (((dc w).bind Sl.whole).bind λz=>(Sl.jR z u.1).bind λO=>(Sl.get z O).bind λQ=>(Sl.jR z u.1).bind λS=>(Sl.put z S (wrap .i64 (Q+1):Int)).bind λT=>(tS D T).bind λC=>(bl (C.2==0) ((idx a (wrap .i64 (B+1))).bind λU=>(eF C.1 U).bind λW=>some (!W)) (some true):a_ X').bind λX=>bl X (some (.r ())) (some (.n (wrap .i64 (B+1)))))) (some (.x ()))
def W1(W:Zb)(Y:Zg)(B:Zb)(D G:Int)(J:Z4)(U:Pred):a_ X':=(bS (λq:Int=>br W Y B D J U q) G).bind (Fw.elim (λe=>some true) (λe=>some false))
end dR
def dR(B:Z4)(p1:Pred):a_ X':=(yg).bind λJ=>bl J ((rX B p1).bind λL=>bl L ((dN B p1).bind λu=>bl (u.2==0) ((um B p1).bind λz=>(bl (z.2==0) (some ((len u.1)==0)) (some true):a_ X').bind λO=>(bl O (some true) (some (decide ((len u.1)>30))):a_ X').bind λQ=>(bl Q (some true) ((idx u.1 0).bind λS=>(oL (len B.procs) (0:Int)).bind λT=>(eF S T).bind λU=>some (!U)):a_ X').bind λC=>(bl C (some true) ((idx u.1 (wrap .i64 ((len u.1)-1))).bind λD=>(eF D z.1).bind λG=>some (!G)):a_ X').bind λI=>bl I (some false) ((fZ u.1 none (some (wrap .i64 ((len u.1)-1)))).bind λw=>dR.W1 u.1 z.1 w (len w) 0 B p1)) (some ((len u.1)==0))) (some true)) (some false)
open dR in
instance yo(G:Z4)(p1:Pred):Fc Sy cL (dR G p1):=Fc.M 4 [enc G,enc p1] (cu 2 2 G (cu 0 3 p1 (bG 6 λa _=>cZ 3 17 (bG 8 λb _=>cZ 3 21 (bG 7 λu _=>cZ 14 29 (bG 7 λI _=>ck 13 4 [41] 45 (cZ 13 41 (bZ 1 u.1 (bF 2)) (bF 4)) λc=>ck 1 4 [46] 50 (bB 1 46 (bF 4) (bZ 1 u.1 (bF 2))) λd=>vI 1 10 [59] (λB=>(bL [Pv 2,Pv 3,Bv 17 false,Bv 21 false,Cv 5 u.1,Bv 29 false,Cv 7 I.1,Bv 61 B] [Xb 2 G,Xb 3 p1])) (bB 1 51 (bF 10) (bP 1 λe _=>bZ 3 G.procs (abr 0 λf _=>cV 0 λg _=>bF 2))) λB=>vI 1 10 [70,59] (λC=>(bL [Pv 2,Pv 3,Bv 17 false,Bv 21 false,Cv 5 u.1,Bv 29 false,Cv 7 I.1,Bv 72 C] [Xb 2 G,Xb 3 p1])) (bB 1 62 (bF 10) (bZ 2 u.1 (bP 1 λO _=>cV 2 λQ _=>bF 2))) λC=>bB 2 72 bh (bZ 8 u.1 (AJ 1 false true [.int .i64 (wrap .i64 ((len u.1)-1))] λw _=>bZ 0 w (dZ 5 (λL=>(bL [Pv 2,Pv 3,Cv 5 u.1,Cv 7 I.1,Cv 77 w,Iv 78 (len w),Iv 79 L] [Xb 2 G,Xb 3 p1])) (λJ=>(0,(bL [] []))) (λJ=>(bL [Bv 4 false] [])) (λL=>bB 7 80 (bP 8 λD _=>bG 10 λS _=>ck 13 3 [93] 96 (cZ 13 93 (bF 3) (bF 3)) λT=>ck 1 5 [97] 102 (bB 1 97 (bF 5) (bZ 2 D (bF 2))) λU=>ck 1 5 [103] 108 (bB 1 103 (bF 5) (bG 2 λW _=>bF 2)) λX=>bB 2 108 bh (Ce 6 110 eo D λY _=>kg .i64 7 110 λZ _=>qA 0 110 0 1 false (λz=>.int .i64 z) λz _=>kg .i64 1 110 λh _=>AR 0 110 (.int .i64 (wrap .i64 (z+1))) λi _=>bG 7 λj _=>ck 12 9 [9,14,125] 134 (cZ 12 125 (bP 4 λk _=>bG 1 λl _=>bF 2) (bF 9)) λm=>bB 2 134 bh bh)) bh) (λJ=>bh) (λJ=>bh))))) (bZ 4 u.1 bh)) bh) bh)))
end
end Go.VE
