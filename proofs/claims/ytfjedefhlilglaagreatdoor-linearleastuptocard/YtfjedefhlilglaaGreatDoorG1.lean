/-
 Each function of the program that the law reaches: its plain form, and that it comes to that.
-/
import Derived.Test.YtfjedefhlilglaaGreatDoorK1
import Derived.Test.YtfjedefhlilglaaGreatDoorT1
set_option linter.all false
open List(all_cons all_nil cons_append map_append map_cons map_nil mem_map mem_of_getElem? replicate)
open Go.IntKind(signed wrap)
open Nat(beq ble reduceEqDiff zero_add)
open Empty(elim)
open ByteArray(toList)
namespace Go.VE
theorem Zae{p:Prop}(h:p:=by kernel_rfl):p:=h
structure Var where
 name:ByteArray
 init_:Int
 deriving Inhabited
instance:bC Var where
 cells x:=[.str x.name,.int .i64 x.init_]
 agg:=true
 size:=2
 len _:=rfl
 good x:=by simp only[V.cH,V.good,j8,Bool.and_self]
 one x:=by simp only[all_cons,all_nil,nS,mC,nR,nE,Bool.and_self]
 plain h:=by cases h
structure Assign where
 var:Int
 value:Int
 deriving Inhabited
instance:bC Assign where
 cells x:=[.int .i64 x.var,.int .i64 x.value]
 agg:=true
 size:=2
 len _:=rfl
 good x:=by simp only[V.cH,V.good,j8,Bool.and_self]
 one x:=by simp only[all_cons,all_nil,nS,mC,nR,nE,Bool.and_self]
 plain h:=by cases h
structure Event where
 kind:Int
 peer:Int
 message:Int
 time:Int
 assign:Sl Assign
 deriving Inhabited
abbrev WF:=Event
instance:bC WF where
 cells x:=[.int .i64 x.kind,.int .i64 x.peer,.int .i64 x.message,.int .i64 x.time,enc x.assign]
 agg:=true
 size:=5
 len _:=rfl
 good x:=by simp only[V.cH,V.good,j8,Bool.and_self]
 one x:=by simp only[all_cons,all_nil,nS,mC,nR,nE,Bool.and_self]
 plain h:=by cases h
structure bX where
 name:ByteArray
 vars:Sl Var
 events:Sl Event
 deriving Inhabited
instance:bC bX where
 cells x:=[.str x.name,enc x.vars,enc x.events]
 agg:=true
 size:=3
 len _:=rfl
 good x:=by simp only[V.cH,V.good,j8,Bool.and_self]
 one x:=by simp only[all_cons,all_nil,nS,mC,nR,nE,Bool.and_self]
 plain h:=by cases h
structure Trace where
 procs:Sl bX
 deriving Inhabited
abbrev Z4:=Trace
instance:bC Z4 where
 cells x:=[enc x.procs]
 agg:=true
 size:=1
 len _:=rfl
 good x:=by simp only[V.cH,V.good,j8,Bool.and_self]
 one x:=by simp only[all_cons,all_nil,nS,mC,nR,nE,Bool.and_self]
 plain h:=by cases h
structure Pred where
 kind:Int
 n:Int
 proc:Int
 peer:Int
 name:ByteArray
 l:Sl Pred
mutual
def Pred.Uu:Pred->T2
 |⟨f0,f1,f2,f3,B,f5⟩=>[.int .i64 f0,.int .i64 f1,.int .i64 f2,.int .i64 f3,.str B,Pred.Hf f5]
def Pred.Hf:Sl Pred->V
 |.nil=>.bO|.emp=>.dQ|.row l=>.fsl 6 (Pred.EY l)|.part l=>.fsl 6 (Pred.EY l)
def Pred.EY:aZ Pred->T'
 |[]=>[]|x::r=>Pred.Uu x::Pred.EY r
end
instance:Inhabited Pred:=⟨⟨default,default,default,default,default,Sl.nil⟩⟩
mutual
theorem Pred.Vq:∀x:Pred,V.cH x.Uu=true
 |⟨f0,f1,f2,f3,B,f5⟩=>by simp only[Pred.Uu,V.cH,V.good,Pred.Lc,Bool.and_self]
theorem Pred.Lc:∀x:Sl Pred,V.good (Pred.Hf x)=true
 |.nil=>rfl|.emp=>rfl|.row l=>by simp only[Pred.Hf,V.good,Pred.D0]|.part l=>by simp only[Pred.Hf,V.good,Pred.D0]
theorem Pred.D0:∀x:aZ Pred,V.od (Pred.EY x)=true
 |[]=>rfl|x::r=>by simp only[Pred.EY,V.od,Pred.Vq,Pred.D0,Bool.and_self]
end
theorem Pred.VZ(s:Sl Pred):V.one (Pred.Hf s)=true:=by cases s<;>simp[Pred.Hf,V.one]
instance:bC Pred where
 cells x:=[.int .i64 x.kind,.int .i64 x.n,.int .i64 x.proc,.int .i64 x.peer,.str x.name,Pred.Hf x.l]
 agg:=true
 size:=6
 len _:=rfl
 good x:=by simp only[V.cH,V.good,Pred.Lc,Bool.and_self]
 one x:=by simp only[all_cons,all_nil,nS,mC,nR,Pred.VZ,Bool.and_self]
 plain h:=by cases h
theorem Pred.PX(x:Pred):Pred.Uu x=cells x:=by cases x;rfl
theorem Pred.DZ:∀l:aZ Pred,Pred.EY l=rows l
 |[]=>rfl|x::r=>by rw[Pred.EY,Pred.DZ r,Pred.PX];rfl
theorem Pred.mJ(s:Sl Pred):Pred.Hf s=enc s:=by cases s with|nil=>rfl|emp=>rfl|row l=>show V.fsl 6 (Pred.EY l)=V.fsl 6 (rows l);rw[Pred.DZ]|part l=>show V.fsl 6 (Pred.EY l)=V.fsl 6 (rows l);rw[Pred.DZ]
structure bF where
 from_:bf
 to_:bf
 deriving Inhabited
instance:bC bF where
 cells x:=[.int .i64 x.from_.proc,.int .i64 x.from_.index,.int .i64 x.to_.proc,.int .i64 x.to_.index]
 agg:=true
 size:=4
 len _:=rfl
 good x:=by simp only[V.cH,V.good,j8,Bool.and_self]
 one x:=by simp only[all_cons,all_nil,nS,mC,nR,nE,Bool.and_self]
 plain h:=by cases h
structure bT where
 low:Int
 high:Int
 deriving Inhabited
instance:bC bT where
 cells x:=[.int .i64 x.low,.int .i64 x.high]
 agg:=true
 size:=2
 len _:=rfl
 good x:=by simp only[V.cH,V.good,j8,Bool.and_self]
 one x:=by simp only[all_cons,all_nil,nS,mC,nR,nE,Bool.and_self]
 plain h:=by cases h
structure cz where
 lengths:Sl Int
 need:Sl (Sl bf)
 deriving Inhabited
instance:bC cz where
 cells x:=[enc x.lengths,enc x.need]
 agg:=true
 size:=2
 len _:=rfl
 good x:=by simp only[V.cH,V.good,j8,Bool.and_self]
 one x:=by simp only[all_cons,all_nil,nS,mC,nR,nE,Bool.and_self]
 plain h:=by cases h
structure cq where
 t:Trace
 counts:Sl Int
 values:Sl (Sl Int)
 deriving Inhabited
instance:bC cq where
 cells x:=[enc x.t.procs,enc x.counts,enc x.values]
 agg:=true
 size:=3
 len _:=rfl
 good x:=by simp only[V.cH,V.good,j8,Bool.and_self]
 one x:=by simp only[all_cons,all_nil,nS,mC,nR,nE,Bool.and_self]
 plain h:=by cases h
structure b9 where
 t:Trace
 l:Sl (Sl Int)
 index:EK ByteArray Int
 truth:Sl Bool
 deriving Inhabited
instance:bC b9 where
 cells x:=[enc x.t.procs,enc x.l,enc x.index,enc x.truth]
 agg:=true
 size:=4
 len _:=rfl
 good x:=by simp only[V.cH,V.good,j8,Bool.and_self]
 one x:=by simp only[all_cons,all_nil,nS,mC,nR,nE,L8,Bool.and_self]
 plain h:=by cases h
def jk(p:Int):Int->aZ WF->aZ (bf×WF)
 |_,[]=>[]|j,e::r=>(⟨p,j+1⟩,e)::jk p (j+1) r
def gx:Int->aZ bX->aZ (bf×WF)
 |_,[]=>[]|i,p::r=>jk i 0 p.events.l++gx (i+1) r
def pZ(n:Nat):X':=decide (n<9223372036854775807)
def jL(t:Z4):a_ (aZ (bf×WF)):=if pZ t.procs.l.length&&t.procs.l.all λp=>pZ p.events.l.length then some (gx 0 t.procs.l)else none
def Aq:cu 22 Int:=⟨Go.Proofs.YtfjedefhlilglaaGreatDoor.Fv,rfl⟩
end Go.VE
namespace Go.VE
def U3:Nat->Nat->Nat->S'
 |0,_,_=>[]|f+1,i,m=>bif m % 2==1 then i::U3 f (i+1) (m / 2)else U3 f (i+1) (m / 2)
def gK(g m:Nat)(l:S':=[]):Gh:=.keep (U3 128 0 g) (U3 128 0 m++l)
def g2(n g m:Nat)(l:S':=[]):Nat×QP×QP:=(n,[gK g m l],[gK g m l])
def g1(n g m:Nat)(l:S':=[]):Nat×QP×QP:=(n,[gK g m l],[])
def G2(n:Nat)(x:QP):Nat×QP×QP:=(n,x,x)
def G1(n:Nat)(x:QP):Nat×QP×QP:=(n,x,[])
def cS(i n:Nat):Gh:=.canon (.s i) (2000+i) n
def cC(i j n:Nat):Gh:=.canon (.c i j) (4000+20*i+j) n
def e0(n m:Nat):Nat×GD:=(n,⟨m,[],[]⟩)
def e1(n m:Nat)(l:aZ (Nat×QP×QP)):Nat×GD:=(n,⟨m,[],l⟩)
def Ns:aZ (Nat×GD):=[ e1 118 0x22226260002000201 [g2 6 387 0,g1 12 0 0,g1 22 16 0,g1 27 16 0],e0 79 0x226221,e0 80 0x2222212,e0 194 0x26c4444026402201,e0 195 0x26442201,e1 152 0x222064c002644c00222600620000644402644022201 [g1 8 4 0,g2 14 9 0,g1 20 0 0,g1 28 4 0,g1 33 4 0],e0 153 0x26442201,e1 110 0x2222222022226020222062260202260206000022226020622000022202220620226020600002220202602012 [g1 10 16 0,g2 16 102 36,g1 22 32 32,g1 30 16 0,g1 39 16 0,g2 45 160 32,g1 51 32 32,g1 60 16 0,g2 66 416 32,g1 72 160 32,g1 80 16 0,g1 88 16 0,g1 97 16 0,g1 101 16 0],e1 111 0x2222220620226020600006444026c444c04040222020260206220000222006cc44c4444c04040440264402220064402644026c04026c44040264402644022200644022202202026022602012 [g1 13 64 0,g1 20 64 0,g1 22 142 136,g1 28 64 0,g1 36 64 0,g2 42 394 136,g1 48 0 0,g1 59 64 0,g2 64 1930 648,g1 70 394 136,g1 78 64 0,g1 84 64 0],e0 154 0x2262222262022022,e1 100 0x20222222262226c0442602020260226020622260200062200002 [g2 6 206 72,g1 12 64 64,g2 18 462 72,g1 24 206 72,g1 34 64 64,g1 40 64 64],e1 112 0x2222226cc40444cc4040444022202602262020622262020000220060e20200022020600122 [g2 30 236 44,g1 36 64 0],e1 113 0x22206222602026006220002222203622000622262002062202202026260022602062226020260062200002222012 [G2 6 [cS 3 1,gK 10 2 [2003]],G2 14 [cS 3 1,gK 58 2 [2003]],G1 20 [cS 3 1,gK 26 2 [2003]],G2 24 [cS 3 1,gK 58 2 [2003]],G1 30 [cS 3 1,gK 58 2 [2003]],G1 43 [cS 3 1,gK 58 2 [2003]],G1 46 [cS 3 1,gK 42 2 [2003]],G1 53 [cS 3 1,gK 10 2 [2003]],G2 59 [cS 3 1,gK 266 2 [2003]],g1 65 0 0,g1 73 4 0,g1 78 4 0],e1 155 0x22262622222202062026262202022200122 [G1 10 [cS 5 2,gK 44 12 [2005]]],e1 73 0x202222220222620260600206200622260200062200002020222222222220260020620062226020006220002222222226222202e0006222602000622000222222222026006220000206444022220102 [g1 8 12 4,g2 14 22 6,g1 20 6 6,g1 30 12 4,g2 37 70 6,g1 43 6 6,g2 49 198 6,g1 55 70 6,g1 65 12 4,g2 73 518 6,g1 79 6 6,g2 85 1542 6,g1 91 518 6,g1 103 12 4,g1 113 12 4,g2 119 8198 6,g1 125 4 4,g2 131 24582 6,g1 137 8198 6,g1 147 12 4,g1 153 12 4],e0 39 0x2222302022212,e0 81 0x222212,e0 135 0x2236226200026201,e1 86 0x22206c444c0404c0022260062000062202012 [g1 8 16 0,g2 14 38 4,g1 20 0 0,g1 28 16 0,g1 33 16 0],e1 87 0x2222220626220202062202202026022602062600006200012 [g2 6 38 4,g1 12 0 0,g2 18 102 4,g1 24 38 4,g1 39 16 0,g1 46 16 0],e0 49 0x26c44260012,e1 101 0x2222226260026cc000262226020260062000012 [G2 8 [cS 5 1,gK 102 4 [2005]],G1 14 [cS 5 1,gK 32 0 [2005]]],e1 177 0x2222226260026200001 [g2 8 25 0,g1 14 8 0],e1 136 0x222262622260262600260062000262222620201 [g1 8 16 0,g2 14 35 0,g1 20 0 0,g1 28 16 0,g1 33 16 0],e1 137 0x2220626002600620000620201 [g1 8 16 0,g2 14 35 0,g1 20 0 0,g1 28 16 0,g1 33 16 0],e1 102 0x26622226222266000226c04c00262002226c04c002620001 [g2 6 35 0,g1 12 35 0],(62,⟨0x222222222226260026200026260006200000022026022200222220112,[(7,[.closeS (.s 13)])],[G2 8 [.closeS (.s 4),cS 5 1,gK 50 2 [2005]],G1 14 [cS 5 1,gK 32 0 [2005]],G1 24 [cS 2 1,gK 12 0 [2002]],G2 32 [.closeS (.s 4),cS 5 1,gK 242 2 [2005]],G1 38 [cS 5 1,gK 98 2 [2005]],G2 46 [.closeS (.s 4),cS 5 1,gK 1010 2 [2005]],G1 52 [.closeS (.s 4),cS 5 1,gK 242 2 [2005]],G1 61 [cS 2 1,gK 12 0 [2002]]]⟩),e1 45 0x2644422222202222222202222622202202000022022022002022064442222026220220200002000222012 [g1 8 4 0,g2 16 458762 2,g1 22 10 2,g1 34 4 0,g1 43 4 0,g1 51 4 0,g2 63 246290604621888 0,g1 69 64 0,g1 81 4 0,g1 86 4 0,g1 92 4 0],e0 75 0x22e222212,e0 74 0x226221,e1 115 0x22226260002000201 [G2 6 [.drop [2,3,4,5,6,9,10,11,12,13,14,15,16,17,18]],G1 12 [.drop [0,1,2,3,4,5,6,7,8,9,10,11,12,13,14,15,16,17,18]],G1 22 [.drop [0,1,2,3,5,6,7,8,9,10,11,12,13,14,15,16,17,18]],G1 27 [.drop [0,1,2,3,5,6,7,8,9,10,11,12,13,14,15,16,17,18]]],(40,⟨0x264cc442644402640222203222001222,[(27,[.canon (.s 4) 9001 0,.closeB 5])],[]⟩),e1 78 0x222222666202602006c002622000012 [g2 8 102 4,g1 14 32 0],e0 42 0x222212,(11,⟨0x26c444444026c022200122,[(9,[.canon (.s 5) 9002 0])],[]⟩),e0 127 0x26c4426201,e0 204 0x26c4444026402201,e0 205 0x26442201,e1 163 0x22064c402644c00222600200020064440264402201 [g1 8 4 0,g2 14 786433 0,g1 20 0 0,g1 30 4 0,g1 35 4 0],e0 165 0x26222212,e1 206 0x22226260002000201 [g2 6 387 0,g1 12 0 0,g1 22 16 0,g1 27 16 0],e0 164 0x226221,e0 167 0x26222212,e1 207 0x22226260002000201 [g2 6 387 0,g1 12 0 0,g1 22 16 0,g1 27 16 0],e0 166 0x226221,e1 128 0x222222022222026c0c4402222022020000020022220026c0c44422220202602012 [g1 11 16 0,g1 17 16 0,g2 23 30064771104 32,g1 29 32 32,g1 40 16 0,g1 46 16 0,g1 55 16 0,g1 59 16 0],e0 129 0x2212,e1 169 0x2644426c4402622222022202644422202020122 [g1 18 524330 40],e0 171 0x26222212,e1 208 0x22226260002000201 [g2 6 387 0,g1 12 0 0,g1 22 16 0,g1 27 16 0],e0 170 0x226221,e1 130 0x2202626220026444022622202022020000020022220026c44022220022e02222226220202200202620201222 [g1 12 440 184,g1 19 64 0,g1 25 64 0,g1 31 64 0,g2 37 31525197391593632 160,g1 43 0 0,g1 54 64 0,g1 60 64 0,g1 65 64 0],e0 209 0x26c44426c440222012,e0 172 0x2662262221222,e1 131 0x2202326222002202001ef200220022022226200223262220022022226200202022020202020200002 [(8,[gK 4158 1086],[gK 0 1086]),g1 27 0 1086,g1 39 0 1086,g1 47 0 1086,g1 53 28 1052],e1 173 0x222622262222264444c4400222020262222262622020262020222620220122 [G1 12 [cS 7 2,gK 418 32 [2007]]],e1 132 0x20222622230026000226002020000e200262220202622002202202020200022 [(6,[gK 8252 60],[gK 0 60]),G2 14 [cS 8 2,gK 8700 65660 [2008]],g1 20 8252 60,G2 29 [cS 8 2,gK 481036345852 65660 [2008]],G1 35 [cS 8 2,gK 8700 65660 [2008]],g1 46 0 60,g1 58 48 48],e1 97 0x20022222020262222222022202002202222202e2002020202222222202600200022002022220002 [g1 8 12 12,g2 14 12582926 14,g1 20 14 14,g1 32 12 12,(39,[gK 68719476750 14],[gK 0 14]),g1 51 0 14,g1 61 12 12,g1 71 12 12,g1 75 12 12],e0 56 0x2222302022212,e0 216 0x264426402201,e0 179 0x26c4444c4404440222006c4404440264402644026c444044026440222012,e0 180 0x22e222212,(178,⟨0x226622064402640222220122,[(20,[.closeB 5])],[]⟩),(139,⟨0x26222200012,[(5,[.canon (.s 3) 9004 0,.canon (.s 4) 9003 0])],[]⟩),e0 182 0x26c444422012,e0 217 0x2622212,e0 183 0x262226222122,e0 181 0x2644426c404026c40426200222644426440262022026001cf444042644026200202012,e0 190 0x2262212,(144,⟨0x264c4442600122,[(10,[.closeB 3])],[]⟩),e0 140 0x2622122,e0 186 0x221,e0 187 0x221,e0 185 0x2622222212,(184,⟨0x22622012,[(5,[.closeB 1])],[]⟩),e0 141 0x22212,e1 124 0x222222626002620002220012201 [g1 8 1 0,g2 14 25 0,g1 20 8 0],e1 138 0x222222626002620002220012201 [g1 8 1 0,g2 14 25 0,g1 20 8 0],e0 220 0x2622200,e1 232 0x22222226c04422202020000226222012 [g2 8 229508 0,g1 14 128 0],e0 259 0x2622212,e0 257 0x26222122,e0 250 0x220020262262220026c4400220002220112,e1 20 0x26200201 [G1 8 [.canon (.s 2) 4004 1],G1 12 [.canon (.s 2) 4004 1]],(222,⟨0x222e202202236222002020000222202000002226200222622222020000200,[(21,[.closeS (.s 25)]),(57,[.closeS (.s 54)])],[G2 6 [cS 3 1,gK 14347 0 [2003]],G1 12 [cS 3 1,gK 11 0 [2003]],g1 23 0 0,G2 28 [cS 3 1,gK 3758096393 0 [2003]],g1 34 0 0,G2 43 [cS 3 1,gK 965830770761 0 [2003]],G1 49 [cS 3 1,gK 3758096457 0 [2003]],g1 59 0 0]⟩),e0 191 0x2212,e1 251 0x22262260202220122 [(8,[cC 5 0 1,gK 552 40 [4100]],[cC 5 0 1,gK 0 40 [4100]])],e0 233 0x2222202622622220022022202e2001112,e0 218 0x26223222002e2220222e2220222222226222220222222020022,e0 219 0x26444222012,e0 234 0x262201,e0 221 0x22222622220622020260006402201,e1 188 0x22222022001ef622226202062020620202662222620202226622226202020262222202022002064422222202622202222002002202026222002222202062222201022 [g1 22 1944 664,g1 49 2064 2064],e0 189 0x2262212,(142,⟨0x226222222302026222220122,[(21,[.closeB 2])],[]⟩),e0 104 0x22622022200226000264402220122,e0 143 0x2222002220002220112,e0 105 0x6c44222222022212,e0 146 0x26442201,e0 145 0x2222212,e0 106 0x2644422012,e1 162 0x200226c0442602020202202022000222 [g1 8 192 192,(14,[gK 33008 240],[gK 0 240]),g1 24 0 240,g1 28 192 192],e0 126 0x2220622102,(174,⟨0x2222306222030622222022262222302622022002020000200202000020002,[(53,[.closeS (.s 49)]),(59,[.closeS (.c 3 0),.closeS (.c 3 1)])],[G2 8 [cC 3 0 1,cC 3 1 1,gK 14350 14 [4060,4061]],G1 14 [cC 3 0 1,cC 3 1 1,gK 12 12 [4060,4061]],G2 25 [cS 6 2,cC 3 0 1,cC 3 1 1,gK 1849454 46 [2006,4060,4061]],G1 31 [cS 6 2,cC 3 0 1,cC 3 1 1,gK 14446 46 [2006,4060,4061]],G1 44 [cS 6 2,cC 3 0 1,cC 3 1 1,gK 1849966 558 [2006,4060,4061]]]⟩),e0 210 0x26262222020262620260220626020260012,e0 249 0x26201,e0 231 0x62206000200222202201,e1 213 0x62222222220262222620062002220000001 [g2 6 3587 0,g1 12 3 0,g1 23 16 0,g1 34 16 0,g1 43 16 0,g1 47 16 0],e0 212 0x26221,e1 16 0x2206262026002000200620201 [g1 8 16 0,g2 14 12291 0,g1 20 0 0,g1 30 16 0,g1 35 16 0],e0 215 0x26221,(175,⟨0x222302222262223622020220e0002000202200002012,[(32,[.closeS (.s 34)])],[G2 8 [cS 5 1,gK 7204 4 [2005]],G1 14 [cS 5 1,gK 32 0 [2005]],G2 22 [cS 5 1,gK 400548 4 [2005]],G1 28 [cS 5 1,gK 7204 4 [2005]]]⟩),(133,⟨0x2226202620200202620222000222222202000220112,[(16,[.closeS (.s 16)])],[G1 8 [cS 2 1,gK 12 0 [2002]],G2 20 [.closeS (.s 5),cS 6 1,gK 240 16 [2006]],G1 26 [cS 6 1,gK 64 0 [2006]],G1 37 [cS 2 1,gK 12 0 [2002]],G1 43 [cS 2 1,gK 12 0 [2002]]]⟩),e0 98 0x222222220222112,e0 57 0x222022112,e0 125 0x26222221,e1 69 0x22226260002000201 [g2 6 387 0,g1 12 0 0,g1 22 16 0,g1 27 16 0],e0 31 0x226221,e0 94 0x264c4422012,e1 95 0x2206c444c440422022200000212 [g2 6 900 4,g1 12 0 0,g1 22 16 0,g1 27 16 0],e0 150 0x26c444422012,e1 96 0x2200222202262222626200203202026220220220200000622260202220000001002 [g2 6 57398 52,g1 12 48 48,g2 20 939581622 52,g1 26 57398 52,g1 44 112 48,g1 50 112 48],e0 151 0x22223300200262212,e1 109 0x2202620220000222026202200002220262022000000260012 [g1 8 64 0,g2 14 917518 8,g1 20 14 8,g1 30 64 0,g2 37 1879048202 8,g1 43 10 8,g1 53 64 0,g2 60 3848290697224 8,g1 66 0 0,g1 76 64 0,g1 81 64 0],e1 147 0x222226262222022200000202022026202112 [G2 18 [cS 7 2,gK 917632 0 [2007]],G1 24 [cS 7 2,gK 128 0 [2007]]],e1 148 0x226022222022 [(6,[gK 280 24],[gK 0 24]),g1 16 0 24,g1 20 16 16],e1 107 0x22222626226220222200000202022023202600112 [G2 18 [cS 8 1,gK 7340292 4 [2008]],G1 24 [cS 8 1,gK 256 0 [2008]]],e0 223 0x26222212,e0 192 0x226226222226022620220122,e0 235 0x2220622102,e1 224 0x22222622226c4c4404022222020262006c04022202020000626202260200202202e600200112 [G2 18 [cS 11 1,gK 481036339226 16 [2011]],G1 24 [cS 11 1,gK 2048 0 [2011]]],e0 193 0x22232202001ef22202220122,e0 149 0x266222226222002662222262220022266222226222002022622222202622202262222202622202222020122,e1 108 0x26c44444262220026c44444262220022226222222022222020266222226222002026622222622200202662222262220020266222226222002020122 [g1 36 147573952589676413004 12],e1 68 0x22222226260e22022002202220260022000000200220222022000020200220220200220260011122 [G1 10 [cS 5 1,gK 112 0 [2005]],G1 20 [cS 5 1,gK 112 0 [2005]],G1 28 [cS 5 1,gK 112 0 [2005]],G1 38 [cS 5 1,gK 112 0 [2005]],G2 46 [cS 11 1,gK 962072676876 12 [2011]],G1 52 [cS 11 1,gK 2560 0 [2011]],G1 65 [cS 5 1,gK 112 0 [2005]],G1 71 [cS 5 1,gK 112 0 [2005]]],e1 29 0x222226222262022200000202022022220026221122 [G2 18 [cS 9 1,gK 29360768 0 [2009]],G1 24 [cS 9 1,gK 512 0 [2009]]],e0 82 0x222222320026221122,e1 84 0x22222262222220000222201 [G2 8 [cS 3 1,gK 3592 0 [2003]],G1 14 [cS 3 1,gK 8 0 [2003]]],e1 58 0x22227222222022200000222001ef200212 [g2 8 458880 36864,g1 14 128 36864],e0 46 0x2e22220220222022020220222026201122,e1 91 0x22222622222220262222203660202022260222020002260222001 [G2 8 [cS 7 1,gK 1572999 0 [2007]],G1 14 [cS 7 1,gK 128 0 [2007]]],e1 92 0x22222236662620260000020002022000022222201 [G2 8 [cS 5 1,gK 114721 0 [2005]],G1 14 [cS 5 1,gK 32 0 [2005]],G2 22 [cS 5 1,gK 6406305 0 [2005]],G1 28 [cS 5 1,gK 114721 0 [2005]]],e0 93 0x2221,e1 53 0x2222222362626202600003626200022260022260022000060036260222000260222020222222022222201 [G2 8 [cS 3 1,gK 25 0 [2003]],G1 14 [cS 3 1,gK 8 0 [2003]],G2 28 [cS 3 1,gK 30786325577753 0 [2003]],G1 34 [cS 3 1,gK 25 0 [2003]]],e0 123 0x2644cc44444444402201,e0 90 0x2262212,e0 52 0x22262200222600002260211,e0 18 0x2220622020220222026221122,e0 103 0x2221,e1 65 0x222222362626202600003626200022260022260022000060036262222000260222020002222022222201 [G2 8 [cS 3 1,gK 393225 0 [2003]],G1 14 [cS 3 1,gK 8 0 [2003]],G2 30 [cS 3 1,gK 7696581787673 0 [2003]],G1 36 [cS 3 1,gK 393225 0 [2003]]],e0 26 0x2220e22222220020220222026221122,e0 32 0x26221,e0 30 0x262212,e1 19 0x2206262026002000200620201 [g1 8 16 0,g2 14 12291 0,g1 20 0 0,g1 30 16 0,g1 35 16 0],e0 33 0x226221,e0 34 0x226221,e0 7 0x26c44440264422006cc4444c0422006cc4044c0022020264422222022020262222020260022222222020260002600020122]
namespace trace_events_c1
def CZ:SW:=[o1 20 (.s 18) [],o2 21 (ix 5) [.s 16,.s 18] [],o2 22 (lD 5) [.s 21] [21],o2 6 (.a (.alloc 5 [.int .i64 0,.int .i64 0,.int .i64 0,.int .i64 0,.bO])) [] [],o1 5 (.s 20) [20],oz (.l (.store 5)) [.s 6,.s 22] [22]]
def AT:SW:=[o1 23 (.s 0) [],o1 24 (.s 3) [],o1 25 (.s 5) [5],o2 26 (bI .add) [.s 25,.k (.int .i64 1)] [25],o2 27 (.p (.build [.int .i64 0,.int .i64 0] [(0,1),(1,1)])) [.s 24,.s 26] [24,26],o2 28 (lD 5) [.s 6] [6],o2 29 .c [.s 23,.s 27,.s 28] [23,27,28],o2 30 (.p .not) [.s 29] [29]]
def yj:SW:=[o2 31 (bI .add) [.s 18,.k (.int .i64 1)] [],o1 18 (.s 31) [31]]
def GO:RC:=.hg (.seq (.ops [o2 19 (bI .lss) [.s 18,.s 17] []]) (.seq (.cond (.s 19) .skip (.exit 2)) (.seq (.block 3 (.seq (.ops CZ) (.seq (.ops AT) (.cond (.s 30) .ret .skip)))) (.ops yj)))) (.keep [0,3,8,9,10,16,17,18] [])
def L0:SW:=[o1 12 (.s 10) [],o2 13 (ix 3) [.s 8,.s 10] [],o2 14 (lD 3) [.s 13] [13],o2 4 (.a (.alloc 3 [.str ByteArray.empty,.bO,.bO])) [] [],o1 3 (.s 12) [12],oz (.l (.store 3)) [.s 4,.s 14] [14]]
def Kd:SW:=[o2 15 (fa 2) [.s 4] [],o2 16 (ld 1) [.s 15] [15],o2 17 ln [.s 16] [],o1 18 (.k (.int .i64 0)) []]
def HK:SW:=[o2 32 (bI .add) [.s 10,.k (.int .i64 1)] [],o1 10 (.s 32) [32]]
def U2:RC:=.block 2 (.gh (.keep [0,3,8,9,10,16,17,18] []) (.loop GO))
def Qp:RC:=.hg (.seq (.ops [o2 11 (bI .lss) [.s 10,.s 9] []]) (.seq (.cond (.s 11) .skip (.exit 0)) (.seq (.block 1 (.seq (.ops L0) (.seq (.ops Kd) U2))) (.ops HK)))) (.keep [0,8,9,10] [])
def Qa:SW:=[o2 7 (fa 0) [.s 1] [1],o2 8 (ld 1) [.s 7] [7],o2 9 ln [.s 8] [],o1 10 (.k (.int .i64 0)) []]
def U1:RC:=.block 0 (.gh (.keep [0,8,9,10] []) (.loop Qp))
def text:RF:=⟨33,[],.seq (.ops Qa) U1⟩
section
variable{S:Sys}
abbrev I1(ps:Sl bX)(i:Int)(B:aZ (aZ V))(more:Bool)(y:Nat):St:=⟨[(0,.yl y),Cv 8 ps,Iv 9 (len ps),Iv 10 i],[],[],B,more,y⟩
abbrev I2(ps:Sl bX)(i:Int)(es:Sl Event)(j:Int)(B:aZ (aZ V))(more:Bool)(y:Nat):St:=⟨[(0,.yl y),Iv 3 i,Cv 8 ps,Iv 9 (len ps),Iv 10 i,Cv 16 es,Iv 17 (len es),Iv 18 j],[],[],B,more,y⟩
abbrev S2(ps:Sl bX)(i:Int)(es:Sl Event)(j:Int)(b:Bool)(B:aZ (aZ V))(more:Bool)(y:Nat):St:=⟨[(0,.yl y),Iv 3 i,Cv 8 ps,Iv 9 (len ps),Iv 10 i,Cv 16 es,Iv 17 (len es),Iv 18 j,Bv 19 b],[],[],B,more,y⟩
theorem Yd(ps:Sl bX)(i:Int)(es:Sl WF)(j:Int)(B:T')(more:X')(y:Nat)(D:decide (j<len es)=false):
 rn S.bare oS some (.rc GO) [] (I2 ps i es j B more y)=some (.exit 2,S2 ps i es j false B more y):=by
 refine Le.get ?_;refine Kf (n:=7) (fo':=.rc (.cond (.s 19) .skip (.exit 2))) (fs':=[.seq (.seq (.block 3 (.seq (.ops CZ) (.seq (.ops AT) (.cond (.s 30) .ret .skip)))) (.ops yj)),.gst (.keep [0,3,8,9,10,16,17,18] [])]) (λb=>S2 ps i es j b B more y) D Zae ?_
 exact Le.of_eq Zae
theorem Zf(ps:Sl bX)(i:Int)(es:Sl WF)(j:Int)(e:WF)(B:T')(more:X')(y:Nat)(D:decide (j<len es)=true)(G:idx es j=some e)(J:(!(more|| !B.isEmpty))=false):
 rn S.bare oS some (.rc GO) [] (I2 ps i es j ([enc (⟨i,wrap .i64 (j+1)⟩:bf),enc e]::B) more y)=some (.norm,I2 ps i es (wrap .i64 (j+1)) B more y):=by
 refine Le.get ?_;refine Kt (n:=7) (fo':=.rc (.cond (.s 19) .skip (.exit 2))) (fs':=[.seq (.seq (.block 3 (.seq (.ops CZ) (.seq (.ops AT) (.cond (.s 30) .ret .skip)))) (.ops yj)),.gst (.keep [0,3,8,9,10,16,17,18] [])]) (λb=>S2 ps i es j b ([enc (⟨i,wrap .i64 (j+1)⟩:bf),enc e]::B) more y) D Zae ?_
 refine SA G ?_;refine Tk 8 false [] (CZ.drop 1) [.seq (.seq (.ops AT) (.cond (.s 30) .ret .skip)),.blk 3,.seq (.ops yj),.gst (.keep [0,3,8,9,10,16,17,18] [])] ⟨[(0,.yl y),Iv 3 i,Cv 8 ps,Iv 9 (len ps),Iv 10 i,Cv 16 es,Iv 17 (len es),Iv 18 j,Bv 19 true,Iv 20 j],[],[],([enc (⟨i,wrap .i64 (j+1)⟩:bf),enc e]::B),more,y⟩ .i64 rfl Zae λx a=>?_
 obtain rfl:x=e:=Zac
 refine X_ 1 false [] (CZ.drop 3) [.seq (.seq (.ops AT) (.cond (.s 30) .ret .skip)),.blk 3,.seq (.ops yj),.gst (.keep [0,3,8,9,10,16,17,18] [])] ⟨[(0,.yl y),Iv 3 i,Cv 8 ps,Iv 9 (len ps),Iv 10 i,Cv 16 es,Iv 17 (len es),Iv 18 j,Bv 19 true,Iv 20 j,Cv 22 x],[],[],([enc (⟨i,wrap .i64 (j+1)⟩:bf),enc x]::B),more,y⟩ [iv 0,iv 0,iv 0,iv 0,.v .bO] rfl (by simp only[bL,zU,rK,tP,si,tX,vh,tE,vo,rT,tQ,zI,uO,uW,uM,uT,xx,xB,tF,u9,SV.c8];rfl) Zae ?_
 refine Ast 1 false [] (CZ.drop 5) [.seq (.seq (.ops AT) (.cond (.s 30) .ret .skip)),.blk 3,.seq (.ops yj),.gst (.keep [0,3,8,9,10,16,17,18] [])] ⟨[(0,.yl y),Iv 3 i,Cv 8 ps,Iv 9 (len ps),Iv 10 i,Cv 16 es,Iv 17 (len es),Iv 18 j,Bv 19 true,Cv 22 x,Pv 6,Iv 5 j],[Xb 6 (⟨0,0,0,0,.nil⟩:WF)],[],([enc (⟨i,wrap .i64 (j+1)⟩:bf),enc x]::B),more,y⟩ 6 0 x [iv 0,iv 0,iv 0,iv 0,.v .bO] ((cells x).map .v) rfl Zae ?_
 refine Kyl (n:=10) (q:=AT.drop 6) (fs':=[.seq (.cond (.s 30) .ret .skip),.blk 3,.seq (.ops yj),.gst (.keep [0,3,8,9,10,16,17,18] [])]) (st:=⟨[(0,.yl y),Iv 3 i,Cv 8 ps,Iv 9 (len ps),Iv 10 i,Cv 16 es,Iv 17 (len es),Iv 18 j,Bv 19 true,(23,.yl y),Cv 27 (⟨i,wrap .i64 (j+1)⟩:bf),Cv 28 x],[Xb 6 x],[],([enc (⟨i,wrap .i64 (j+1)⟩:bf),enc x]::B),more,y⟩) (vs:=[cv (⟨i,wrap .i64 (j+1)⟩:bf),cv x]) Zae rfl Zae Zae rfl rfl ?_
 refine Kf (n:=3) (fo':=.rc (.cond (.s 30) .ret .skip)) (fs':=[.blk 3,.seq (.ops yj),.gst (.keep [0,3,8,9,10,16,17,18] [])]) (λb=>⟨[(0,.yl y),Iv 3 i,Cv 8 ps,Iv 9 (len ps),Iv 10 i,Cv 16 es,Iv 17 (len es),Iv 18 j,Bv 19 true,Bv 30 b],[Xb 6 x],[],B,more,y⟩) J Zae ?_
 exact Le.of_eq Zae
theorem Wz(ps:Sl bX)(i:Int)(es:Sl WF)(j:Int)(e:WF)(B:T')(more:X')(y:Nat)(D:decide (j<len es)=true)(G:idx es j=some e)(J:(!(more|| !B.isEmpty))=true):
 rn S.bare oS some (.rc GO) [] (I2 ps i es j ([enc (⟨i,wrap .i64 (j+1)⟩:bf),enc e]::B) more y)=some (.ret,⟨[(0,.yl y),Iv 3 i,Cv 8 ps,Iv 9 (len ps),Iv 10 i,Cv 16 es,Iv 17 (len es),Iv 18 j,Bv 19 true,Bv 30 true],[Xb 6 e],[],B,more,y⟩):=by
 refine Le.get ?_;refine Kt (n:=7) (fo':=.rc (.cond (.s 19) .skip (.exit 2))) (fs':=[.seq (.seq (.block 3 (.seq (.ops CZ) (.seq (.ops AT) (.cond (.s 30) .ret .skip)))) (.ops yj)),.gst (.keep [0,3,8,9,10,16,17,18] [])]) (λb=>S2 ps i es j b ([enc (⟨i,wrap .i64 (j+1)⟩:bf),enc e]::B) more y) D Zae ?_
 refine SA G ?_;refine Tk 8 false [] (CZ.drop 1) [.seq (.seq (.ops AT) (.cond (.s 30) .ret .skip)),.blk 3,.seq (.ops yj),.gst (.keep [0,3,8,9,10,16,17,18] [])] ⟨[(0,.yl y),Iv 3 i,Cv 8 ps,Iv 9 (len ps),Iv 10 i,Cv 16 es,Iv 17 (len es),Iv 18 j,Bv 19 true,Iv 20 j],[],[],([enc (⟨i,wrap .i64 (j+1)⟩:bf),enc e]::B),more,y⟩ .i64 rfl Zae λx a=>?_
 obtain rfl:x=e:=Zac
 refine X_ 1 false [] (CZ.drop 3) [.seq (.seq (.ops AT) (.cond (.s 30) .ret .skip)),.blk 3,.seq (.ops yj),.gst (.keep [0,3,8,9,10,16,17,18] [])] ⟨[(0,.yl y),Iv 3 i,Cv 8 ps,Iv 9 (len ps),Iv 10 i,Cv 16 es,Iv 17 (len es),Iv 18 j,Bv 19 true,Iv 20 j,Cv 22 x],[],[],([enc (⟨i,wrap .i64 (j+1)⟩:bf),enc x]::B),more,y⟩ [iv 0,iv 0,iv 0,iv 0,.v .bO] rfl (by simp only[bL,zU,rK,tP,si,tX,vh,tE,vo,rT,tQ,zI,uO,uW,uM,uT,xx,xB,tF,u9,SV.c8];rfl) Zae ?_
 refine Ast 1 false [] (CZ.drop 5) [.seq (.seq (.ops AT) (.cond (.s 30) .ret .skip)),.blk 3,.seq (.ops yj),.gst (.keep [0,3,8,9,10,16,17,18] [])] ⟨[(0,.yl y),Iv 3 i,Cv 8 ps,Iv 9 (len ps),Iv 10 i,Cv 16 es,Iv 17 (len es),Iv 18 j,Bv 19 true,Cv 22 x,Pv 6,Iv 5 j],[Xb 6 (⟨0,0,0,0,.nil⟩:WF)],[],([enc (⟨i,wrap .i64 (j+1)⟩:bf),enc x]::B),more,y⟩ 6 0 x [iv 0,iv 0,iv 0,iv 0,.v .bO] ((cells x).map .v) rfl Zae ?_
 refine Kyl (n:=10) (q:=AT.drop 6) (fs':=[.seq (.cond (.s 30) .ret .skip),.blk 3,.seq (.ops yj),.gst (.keep [0,3,8,9,10,16,17,18] [])]) (st:=⟨[(0,.yl y),Iv 3 i,Cv 8 ps,Iv 9 (len ps),Iv 10 i,Cv 16 es,Iv 17 (len es),Iv 18 j,Bv 19 true,(23,.yl y),Cv 27 (⟨i,wrap .i64 (j+1)⟩:bf),Cv 28 x],[Xb 6 x],[],([enc (⟨i,wrap .i64 (j+1)⟩:bf),enc x]::B),more,y⟩) (vs:=[cv (⟨i,wrap .i64 (j+1)⟩:bf),cv x]) Zae rfl Zae Zae rfl rfl ?_
 refine Kt (n:=3) (fo':=.rc (.cond (.s 30) .ret .skip)) (fs':=[.blk 3,.seq (.ops yj),.gst (.keep [0,3,8,9,10,16,17,18] [])]) (λb=>⟨[(0,.yl y),Iv 3 i,Cv 8 ps,Iv 9 (len ps),Iv 10 i,Cv 16 es,Iv 17 (len es),Iv 18 j,Bv 19 true,Bv 30 b],[Xb 6 x],[],B,more,y⟩) J Zae ?_
 exact Le.of_eq Zae
abbrev S1(ps:Sl bX)(i:Int)(b:Bool)(B:aZ (aZ V))(more:Bool)(y:Nat):St:=⟨[(0,.yl y),Cv 8 ps,Iv 9 (len ps),Iv 10 i,Bv 11 b],[],[],B,more,y⟩
theorem Yy(ps:Sl bX)(i:Int)(B:T')(more:X')(y:Nat)(D:decide (i<len ps)=false):
 rn S.bare oS some (.rc Qp) [] (I1 ps i B more y)=some (.exit 0,S1 ps i false B more y):=by
 refine Le.get ?_;refine Kf (n:=7) (fo':=.rc (.cond (.s 11) .skip (.exit 0))) (fs':=[.seq (.seq (.block 1 (.seq (.ops L0) (.seq (.ops Kd) U2))) (.ops HK)),.gst (.keep [0,8,9,10] [])]) (λb=>S1 ps i b B more y) D Zae ?_
 exact Le.of_eq Zae
def UC:Rd:=[.blk 2,.blk 1,.seq (.ops HK),.gst (.keep [0,8,9,10] [])]
theorem Up(ps:Sl bX)(i:Int)(p:bX)(B:T')(more:X')(y:Nat)(r:Out×St)(D:decide (i<len ps)=true)(G:idx ps i=some p)
 (h:rn S.bare oS some (.rc (.loop GO)) UC (I2 ps i p.events 0 B more y)=some r):rn S.bare oS some (.rc Qp) [] (I1 ps i B more y)=some r:=by
 refine Le.get ?_;refine Kt (n:=7) (fo':=.rc (.cond (.s 11) .skip (.exit 0))) (fs':=[.seq (.seq (.block 1 (.seq (.ops L0) (.seq (.ops Kd) U2))) (.ops HK)),.gst (.keep [0,8,9,10] [])]) (λb=>S1 ps i b B more y) D Zae ?_
 refine SA G ?_;refine Tk 8 false [] (L0.drop 1) [.seq (.seq (.ops Kd) U2),.blk 1,.seq (.ops HK),.gst (.keep [0,8,9,10] [])] ⟨[(0,.yl y),Cv 8 ps,Iv 9 (len ps),Iv 10 i,Bv 11 true,Iv 12 i],[],[],B,more,y⟩ .i64 rfl Zae λx a=>?_
 obtain rfl:x=p:=Zac
 refine X_ 1 false [] (L0.drop 3) [.seq (.seq (.ops Kd) U2),.blk 1,.seq (.ops HK),.gst (.keep [0,8,9,10] [])] ⟨[(0,.yl y),Cv 8 ps,Iv 9 (len ps),Iv 10 i,Bv 11 true,Iv 12 i,Cv 14 x],[],[],B,more,y⟩ [.v (.str ByteArray.empty),.v .bO,.v .bO] rfl (by simp only[bL,zU,rK,tP,si,tX,vh,tE,vo,rT,tQ,zI,uO,uW,uM,uT,xx,xB,tF,u9,SV.c8];rfl) Zae ?_
 refine Ast 1 false [] (L0.drop 5) [.seq (.seq (.ops Kd) U2),.blk 1,.seq (.ops HK),.gst (.keep [0,8,9,10] [])] ⟨[(0,.yl y),Cv 8 ps,Iv 9 (len ps),Iv 10 i,Bv 11 true,Cv 14 x,Pv 4,Iv 3 i],[Xb 4 (⟨ByteArray.empty,.nil,.nil⟩:bX)],[],B,more,y⟩ 4 0 x [.v (.str ByteArray.empty),.v .bO,.v .bO] ((cells x).map .v) rfl Zae ?_
 refine XJ 6 false [] (Kd.drop 2) [.seq U2,.blk 1,.seq (.ops HK),.gst (.keep [0,8,9,10] [])] ⟨[(0,.yl y),Cv 8 ps,Iv 9 (len ps),Iv 10 i,Bv 11 true,Pv 4,Iv 3 i,Cv 16 x.events],[Xb 4 x],[],B,more,y⟩ x.events rfl Zae ?_
 refine B7 (n:=5) (fo':=.rc (.loop GO)) (fs':=UC) (st':=I2 ps i x.events 0 B more y) Zae (Le.of_eq h)
theorem Wv(ps:Sl bX)(i:Int)(es:Sl WF)(j:Int)(B:T')(more:X')(y:Nat):
 rn S.bare oS some (.ex 2) UC (S2 ps i es j false B more y)=some (.norm,I1 ps (wrap .i64 (i+1)) B more y):=by kernel_rfl
theorem wrap_small(n:Nat)(h:n<9223372036854775807):wrap .i64 ((n:Int)+1)=((n+1:Nat):Int):=by simp[wrap,IntKind.bits,signed];omega
abbrev eI(x:bf×Event):aZ V:=[enc x.1,enc x.2]
theorem vX.step{x:T2}{D rest:T'}{more:X'}(h:vX D (x::rest) more):∃B,D=x::B/\((!(more|| !B.isEmpty))=false/\vX B rest more\/(!(more|| !B.isEmpty))=true/\B=[]):=by rcases h with⟨rfl,rfl⟩|⟨rfl,u,r,a⟩;exact⟨rest,rfl,.inl ⟨rfl,.inl ⟨rfl,rfl⟩⟩⟩;cases D with|nil=>grind|cons w D=>simp only[cons_append,List.cons.injEq]at a;obtain⟨rfl,rfl⟩:=a;refine⟨D,rfl,?_⟩;cases D with|nil=>grind|cons z C=>exact .inl ⟨rfl,.inr ⟨rfl,Zab,r,rfl⟩⟩
theorem vl{α:Type}{s:Sl α}{j:Nat}{x:α}{r:aZ α}(h:s.l.drop j=x::r):idx s (j:Int)=some x/\decide ((j:Int)<len s)=true/\s.l.drop (j+1)=r:=by
 have a:j<s.l.length:=by apply Classical.byContradiction;intro w;rw[List.drop_eq_nil_of_le Zaa]at h;cases h
 have u:=List.drop_eq_getElem_cons a;rw[u]at h;simp only[List.cons.injEq]at h;refine⟨?_,Zac,h.2⟩;unfold idx;simp_all
variable{Q:Out×St->a_ (Out×St)}{fs:Rd}
theorem inner(ps:Sl bX)(i:Int)(es:Sl WF)(J:es.l.length<9223372036854775807)(more:X')(y:Nat)(R:T'):∀(a:aZ WF)(j:Nat),es.l.drop j=a->∀D,vX D ((jk i j a).map eI++R) more->
 (∃(B:T')(U:Int),vX B R more/\rn S.bare oS Q (.rc (.loop GO)) fs (I2 ps i es j D more y)=rn S.bare oS Q (.ex 2) fs (S2 ps i es U false B more y))\/
 (∃st':St,st'.want=[]/\rn S.bare oS Q (.rc (.loop GO)) fs (I2 ps i es j D more y)=Q (.ret,st'))
 |[],j,hd,D,G=>by have b:decide ((j:Int)<len es)=false:=(by simp_all);exact .inl ⟨D,j,by simpa[jk]using G,HF (Yd ps i es j D more y b)⟩|e::a,j,hd,D,G=>by have⟨b,z,C⟩:=vl hd;have T:j<es.l.length:=Zac;simp only[jk,map_cons,cons_append]at G;obtain⟨B,rfl,u⟩:=vX.step G;have I:=wrap_small j Zaa;have w:((j:Int)+1)=wrap .i64 ((j:Int)+1):=Zac;rcases u with⟨u,L⟩|⟨u,rfl⟩;have k:=Zf (S:=S) ps i es j e B more y z b u;rw[<-w]at k;have k2:=GX (Q:=Q) (fs:=fs) k;have O:=inner ps i es J more y R a (j+1) C B Zac;rw[show((j+1:Nat):Int)=(j:Int)+1 from rfl]at O;grind;have k:=Wz (S:=S) ps i es j e [] more y z b u;rw[<-w]at k;exact .inr ⟨_,by rfl,G4 k⟩
theorem outer(ps:Sl bX)(J:ps.l.length<9223372036854775807)(D:∀p∈ps.l,p.events.l.length<9223372036854775807)(more:X')(y:Nat):∀(a:aZ bX)(i:Nat),ps.l.drop i=a->∀B,vX B ((gx i a).map eI) more->
 rn S.bare oS Qi (.rc (.loop Qp)) [.blk 0] (I1 ps i B more y)=some ()
 |[],i,hd,B,G=>by
  have b:decide ((i:Int)<len ps)=false:=by simp_all
  rw[HF (Yy ps i B more y b)];have:B=[]:=by
   rcases G with⟨_,rfl⟩|⟨_,L,r,c⟩;rfl;have:B=[]:=by cases B with
    |nil=>rfl|cons=>simp[gx]at c
   grind
  subst this;rfl
 |p::a,i,hd,B,G=>by have⟨b,z,C⟩:=vl hd;have hi:i<ps.l.length:=Zac;have I:p∈ps.l:=List.mem_of_mem_drop (i:=i) Zac;simp only[gx,map_append]at G;have u:=wrap_small i Zaa;rcases inner (S:=S) (Q:=some) (fs:=UC) ps i p.events (D p I) more y _ p.events.l 0 rfl B G with⟨w,O,g1,g2⟩|⟨st',g1,g2⟩;rw[Wv,u]at g2;rw[GX (Up ps i p B more y _ z b g2)];exact outer ps J D more y a (i+1) C w g1;rw[G4 (Up ps i p B more y _ z b g2)];simp[Qi,g1]
theorem all(t:Z4)(B:aZ (bf×WF))(h:jL t=some B)(D:T')(more:X')(G:vX D (B.map eI) more)(y:Nat):
 rn S.bare oS Qi (.rc text.body) [] ⟨wI 0 (([]:T2).map .v++.yl y::[V.fptr (cells t)].map .v),[],[],D,more,y⟩=some ():=by
 unfold jL at h;split at h
 .rename_i hk;cases h;simp only[ζh,List.all_eq_true,pZ,decide_eq_true_eq]at hk;refine Le.get ?_;refine XJ 4 false [] (Qa.drop 2) [.seq U1] ⟨[(0,.yl y),Cv 8 t.procs],[],[],D,more,y⟩ t.procs rfl Zae ?_
  refine B7 (n:=5) (fo':=.rc (.loop Qp)) (fs':=[.blk 0]) (st':=I1 t.procs 0 D more y) Zae (Le.of_eq ?_)
  exact outer t.procs hk.1 hk.2 more y t.procs.l 0 rfl D G
 simp_all
end
theorem xA{α:Type}[bC α]{a b:Sl α}(h:bZ a=bZ b):rows a.l=rows b.l:=by cases a<;>cases b<;>first|rfl|(simp only[bZ,Sl.k,o9,V.fsl.injEq,true_and,reduceCtorEq]at h;done)|(simp only[bZ,Sl.k,o9,V.fsl.injEq,true_and,reduceCtorEq]at h;omega)
theorem xY(p:Int):∀(es B:aZ WF)(j:Int),rows es=rows B->(jk p j es).map eI=(jk p j B).map eI
 |[],[],_,_=>rfl|[],_::_,_,h=>by simp[rows]at h|_::_,[],_,h=>by simp[rows]at h|e::es,D::B,j,h=>by simp only[rows,map_cons,List.cons.injEq]at h;have a:enc e=enc D:=(by show V.agg (cells e)=V.agg (cells D);rw[h.1]);simp only[jk,map_cons,eI,a,xY p es B (j+1) h.2]
theorem FC:∀(ps B:aZ bX)(i:Int),rows ps=rows B->(gx i ps).map eI=(gx i B).map eI
 |[],[],_,_=>rfl|[],_::_,_,h=>by simp[rows]at h|_::_,[],_,h=>by simp[rows]at h|p::ps,p'::B,i,h=>by simp only[rows,map_cons,List.cons.injEq]at h;have a:bZ p.events=bZ p'.events:=(by have:=h.1;change[V.str p.name,bZ p.vars,bZ p.events]=[V.str p'.name,bZ p'.vars,bZ p'.events]at this;grind);simp only[gx,map_append,xY i _ _ 0 (xA a),FC ps B (i+1) h.2]
def wW(f:Y')(g:Y')(a b:T2)(xs:T'):Prop:=∃(t:Z4)(u:aZ (bf×WF)),g=f/\a=[]/\b=[.fptr (cells t)]/\jL t=some u/\xs=u.map eI
theorem wW.uniq{f g:Y'}{a b:T2}{xs ys:T'}(h:wW f g a b xs)(k:wW f g a b ys):xs=ys:=by
 obtain⟨t,C,rfl,rfl,rfl,c,rfl⟩:=h;obtain⟨w,z,_,_,B,u,rfl⟩:=k;simp only[List.cons.injEq,V.fptr.injEq,and_true]at B;have D:bZ t.procs=bZ w.procs:=by change[bZ t.procs]=[bZ w.procs]at B;grind
 unfold jL at c u;split at c<;>split at u<;>simp only[ζa,reduceCtorEq]at c u;subst c u;exact FC _ _ 0 (xA D)
end trace_events_c1
end Go.VE
namespace Go.VE
open Go.Proofs.YtfjedefhlilglaaGreatDoor
noncomputable section
noncomputable def IM(f:Y'):a_ GK:=bif beq f 214 then some (uB E)else bif beq f 211 then some (uJ E)else none
noncomputable def Sb:Sys:=⟨E,λn=>n,λ_ _ _=>none,zq E,IM⟩
theorem K2:∀f q,IM f=some q->oL E f q:=by intro f q h;unfold IM at h;cases a:beq f 214 with|true=>rw[a]at h;cases h;have:=Nat.eq_of_beq_eq_true a;subst this;exact Ss xw Zae Zae (D6 Zae)|false=>rw[a]at h;cases a:beq f 211 with|true=>rw[a]at h;cases h;have:=Nat.eq_of_beq_eq_true a;subst this;exact S4 Zae Zae Zae Zae|false=>rw[a]at h;cases h
def Tx:qY:=SD E some (lk Ns)
abbrev cB:cm:=dg Sb Tx
theorem Yq:rR Sb Tx where
 fn f rf h:=let⟨u,a,w⟩:=DS h;⟨u,some,a,xw,w⟩
 yI f z y h:=Hr h
 prm:=K2
theorem Pf:∀f a b xs,Sb.items f a b=some xs->eT Sb f a b xs:=λf a b xs h=>by cases h
end
end Go.VE
namespace Go.VE
noncomputable section
namespace IB
def ec(s0:Zg):a_ Zg:=(Sl.isNil s0).bind λu=>bl u (some Sl.nil) ((oM (Sl.row []:Zg) s0).bind λw=>some w)
theorem gV:A6 Sb cB 20 (λs0:Zg=>[enc s0]) (λz=>ec z):=A6.mk' (sj (Tx 20)) (λs0=>DG 9 λu _=>bB 2 4 bh (zA 7 5 7 λw _=>bh))
namespace cD
def fq(k6:Int)(U:Sl WF)(W Y:Int)(G:Sl Assign)(J:Int)(a:T')(B:Zg)(D:Int)(more:X'):a_ (Fw ((Zg)×Int) Zg Empty):=bl (decide (D<J)) ((idx G D).bind λu=>(Sl.jg B u.var).bind λw=>(Sl.put B w (u.value:Int)).bind λz=>some (.n (z,wrap .i64 (D+1)))) (some (.x B))
def W3(B:Zg)(k6:Int)(J:Sl WF)(D G:Int)(U:Sl Assign)(W Y:Int)(a:T')(more:X'):a_ (Fw ((Zg)×Int×Int×(T')) T' T'):=(bW (λq:(Zg)×Int=>fq k6 J D G U W a q.1 q.2 more) (B,Y)).bind (Fw.elim (λe=>((ec e).bind Sl.whole).bind λw=>(yl a more [.int .i64 (wrap .i64 (k6+1)),enc w]).bind λu=>bl u.1 (some (.n (e,D,wrap .i64 (G+1),u.2))) (some (.r u.2))) (λe=>elim e))
def bU(D:Sl WF)(G:Zg)(J B:Int)(U:T')(more:X'):a_ (Fw ((Zg)×Int×Int×(T')) T' T'):=bl (decide (B<J)) ((idx D B).bind λu=>W3 G B D J B u.assign (len u.assign) 0 U more) (some (.x U))
def W2(B:Zg)(D:Sl WF)(G J:Int)(U:T')(more:X'):a_ T':=(bW (λq:(Zg)×Int×Int×(T')=>bU D q.1 q.2.1 q.2.2.1 q.2.2.2 more) (B,G,J,U)).bind (Fw.elim (λe=>some e) (λe=>some e))
def br(U:bX)(G:Sl Var)(J:Int)(W:T')(B:Zg)(D:Int)(more:X'):a_ (Fw ((Zg)×Int) Zg Empty):=bl (decide (D<J)) ((idx G D).bind λu=>(gy B (u.init_:Int)).bind λw=>some (.n (w,wrap .i64 (D+1)))) (some (.x B))
def W1(B:bX)(D:Zg)(G:Sl Var)(J U:Int)(W:T')(more:X'):a_ T':=(bW (λq:(Zg)×Int=>br B G J W q.1 q.2 more) (D,U)).bind (Fw.elim (λe=>((ec e).bind Sl.whole).bind λw=>(yl W more [.int .i64 0,enc w]).bind λu=>bl u.1 (cD.W2 e B.events (len B.events) 0 u.2 more) (some u.2)) (λe=>elim e))
end cD
def cD(D:T')(B:bX)(more:X'):a_ T':=cD.W1 B (Sl.nil:Zg) B.vars (len B.vars) 0 D more
open cD in
theorem zH(more:X')(y:Nat)(J:T')(B:bX):Le ((cD J B more).bind λr=>some r) (cg Sb cB Qw (.rc (tb Tx 222),[],⟨wI 0 (.yl y::[V.fptr (cells B)].map .v),[],[],J,more,y⟩)):=b8 10 B.vars (fM 6 (λC=>⟨[(0,.yl y),Kv 1 B,Ov 3,Cv 11 B.vars,Iv 12 (len B.vars),Iv 13 C.2],[Lb 2003 C.1],[],J,more,y⟩) (λD=>(0,⟨[(0,.yl y),Kv 1 B,Ov 3],[Lb 2003 D],[],J,more,y⟩)) (λC=>bB 8 14 (bQ 7 λT _=>oI 10 2003 20 21 λU _=>bh) bh) (λD=>Ut 7 25 gV D λL _=>Byl 1 [.int .i64 0,enc L] λS _=>dy 3 27 (b8 7 B.events (eA 6 (λu=>⟨[(0,.yl y),Ov 3,Cv 29 B.events,Iv 30 u.2.1,Iv 31 u.2.2.1],[Lb 2003 u.1],[],u.2.2.2,more,y⟩) (λw=>(2,⟨[],[],[],w,more,y⟩)) (λw=>⟨[],[],[],w,more,y⟩) (λu=>bB 8 32 (bQ 8 λz _=>nN 3 7 0 z (b8 7 z.assign (fM 6 (λG=>⟨[(0,.yl y),Ov 3,Iv 6 u.2.2.1,Cv 29 B.events,Iv 30 u.2.1,Iv 31 u.2.2.1,Cv 37 z.assign,Iv 38 (len z.assign),Iv 39 G.2],[Lb 2003 G.1],[],u.2.2.2,more,y⟩) (λI=>(4,⟨[(0,.yl y),Ov 3,Iv 6 u.2.2.1,Cv 29 B.events,Iv 30 u.2.1,Iv 31 u.2.2.1],[Lb 2003 I],[],u.2.2.2,more,y⟩)) (λG=>bB 8 40 (bQ 7 λO _=>iQ .i64 11 2003 λW _=>Dw 0 2003 (.int .i64 O.value) λX _=>bh) bh) (λI=>Ut 8 54 gV I λQ _=>Byl 1 [.int .i64 (wrap .i64 (u.2.2.1+1)),enc Q] λY _=>dy 3 56 bh bh)))) bh) (λw=>bh) (λw=>bh))) bh))
end IB
end
end Go.VE
namespace Go.VE
open IB
def wN:aZ Assign->Zg->a_ Zg
 |[],s=>some s|a::r,s=>(Sl.jg s a.var).bind λj=>(Sl.put s j a.value).bind (wN r)
def xh:aZ Var->Zg->a_ Zg
 |[],s=>some s|v::r,s=>(gy s v.init_).bind (xh r)
def Nj(s:Zg):a_ Zg:=(ec s).bind Sl.whole
def w_:Int->aZ WF->Zg->a_ (aZ (Int×Zg))
 |_,[],_=>some []|k,e::r,s=>(wN e.assign.l s).bind λn=>(Nj n).bind λc=>(w_ (k+1) r n).map ((k+1,c)::·)
def jM(p:bX):a_ (aZ (Int×Zg)):=if pZ p.vars.l.length&&(pZ p.events.l.length&&p.events.l.all λe=>pZ e.assign.l.length)then(xh p.vars.l .nil).bind λs=>(Nj s).bind λc=>(w_ 0 p.events.l s).map ((0,c)::·)else none
namespace IST
abbrev eI(x:Int×Sl Int):aZ V:=[enc x.1,enc x.2]
theorem D2{n:Nat}(h:pZ n=true):n<9223372036854775807:=by simpa[pZ]using h
theorem wrap_small(n:Nat)(h:n<9223372036854775807):wrap .i64 ((n:Int)+1)=((n+1:Nat):Int):=by simp[wrap,IntKind.bits,signed];omega
theorem vl{α:Type}{s:Sl α}{j:Nat}{x:α}{r:aZ α}(h:s.l.drop j=x::r):idx s (j:Int)=some x/\decide ((j:Int)<len s)=true/\s.l.drop (j+1)=r:=by
 have a:j<s.l.length:=by apply Classical.byContradiction;intro w;rw[List.drop_eq_nil_of_le Zaa]at h;cases h
 have u:=List.drop_eq_getElem_cons a;rw[u]at h;simp only[List.cons.injEq]at h;refine⟨?_,by simp[len,a],h.2⟩;unfold idx;rw[if_pos Zaa];simp[ζd a,h.1]
theorem JC{α:Type}{s:Sl α}{j:Nat}(h:s.l.drop j=[]):decide ((j:Int)<len s)=false:=by
 have:s.l.length<=j:=by simpa using h
 simp[len];omega
theorem ini(p:bX)(v:Sl Var)(J:v.l.length<9223372036854775807)(D:T')(more:X'):∀(a:aZ Var)(j:Nat),v.l.drop j=a->∀s B,xh a s=some B->
 bW (λq:Zg×Int=>cD.br p v (len v) D q.1 q.2 more) (s,(j:Int))=some (.x B)
 |[],j,hd,s,B,h=>by cases h;rw[eP];simp only[cD.br,JC hd,bl,ζb,Bool.false_eq_true,if_false]|x::a,j,hd,s,B,h=>by have⟨b,G,U⟩:=vl hd;have w:j<v.l.length:=(by simpa[len]using G);simp only[xh,ζg]at h;have⟨n,u,h⟩:=h;rw[eP];simp only[cD.br,b,G,u,bl,ζb,if_true,wrap_small j Zaa];exact ini p v J D more a (j+1) U n B h
theorem set(k:Int)(es:Sl WF)(a b:Int)(v:Sl Assign)(J:v.l.length<9223372036854775807)(D:T')(more:X'):∀(c:aZ Assign)(j:Nat),v.l.drop j=c->∀s B,wN c s=some B->
 bW (λq:Zg×Int=>cD.fq k es a b v (len v) D q.1 q.2 more) (s,(j:Int))=some (.x B)
 |[],j,hd,s,B,h=>by cases h;rw[eP];simp only[cD.fq,JC hd,bl,ζb,Bool.false_eq_true,if_false]|x::c,j,hd,s,B,h=>by have⟨d,G,U⟩:=vl hd;have w:j<v.l.length:=(by simpa[len]using G);simp only[wN,ζg]at h;have⟨i,hi,n,u,h⟩:=h;rw[eP];simp only[cD.fq,d,G,hi,u,bl,ζb,if_true,wrap_small j Zaa];exact set k es a b v J D more c (j+1) U n B h
theorem vX.step{x:T2}{D rest:T'}{more:X'}(h:vX D (x::rest) more):∃B,yl D more x=some ((more|| !B.isEmpty),B)/\((more|| !B.isEmpty)=true/\vX B rest more\/(more|| !B.isEmpty)=false/\B=[]):=by rcases h with⟨rfl,rfl⟩|⟨rfl,u,r,a⟩;exact⟨rest,by simp[yl],.inl ⟨rfl,.inl ⟨rfl,rfl⟩⟩⟩;cases D with|nil=>exact absurd rfl u|cons w D=>simp only[cons_append,List.cons.injEq]at a;obtain⟨rfl,rfl⟩:=a;refine⟨D,by simp[yl],?_⟩;cases D with|nil=>exact .inr ⟨rfl,rfl⟩|cons z C=>exact .inl ⟨rfl,.inr ⟨rfl,Zab,r,rfl⟩⟩
theorem fU(es:Sl WF)(W:es.l.length<9223372036854775807)(G:∀e∈es.l,e.assign.l.length<9223372036854775807)(more:X'):∀(a:aZ WF)(j:Nat),es.l.drop j=a->∀s B,w_ (j:Int) a s=some B->∀D,vX D (B.map eI) more->
 ∃J:T',J=[]/\(bW (λq:Zg×Int×Int×T'=>cD.bU es q.1 q.2.1 q.2.2.1 q.2.2.2 more) (s,len es,(j:Int),D)=some (.x J)\/bW (λq:Zg×Int×Int×T'=>cD.bU es q.1 q.2.1 q.2.2.1 q.2.2.2 more) (s,len es,(j:Int),D)=some (.r J))
 |[],j,hd,s,B,h,D,U=>by cases h;have:D=[]:=(by rcases U with⟨_,rfl⟩|⟨_,L,r,d⟩;rfl;cases D with|nil=>rfl|cons=>simp at d);subst this;refine⟨[],rfl,.inl ?_⟩;rw[eP];simp only[cD.bU,JC hd,bl,ζb,Bool.false_eq_true,if_false]
 |e::a,j,hd,s,B,h,D,U=>by have⟨f,I,O⟩:=vl hd;have Z:j<es.l.length:=(by simpa[len]using I);have Q:e∈es.l:=List.mem_of_mem_drop (i:=j) (by rw[hd];exact List.mem_cons_self ..);simp only[w_,ζg,ζf]at h;obtain⟨n,L,c,b,r,d,rfl⟩:=h;have b:(ec n).bind Sl.whole=some c:=b;have⟨w,z,S⟩:=vX.step U;have C:=wrap_small j Zaa;have z:yl D more [.int .i64 ((j+1:Nat):Int),enc c]=some ((more|| !w.isEmpty),w):=z;rw[eP];have u:=set j es (len es) j e.assign (G e Q) D more e.assign.l 0 rfl s n L;rw[show((0:Nat):Int)=0 from rfl]at u;rcases S with⟨g1,g2⟩|⟨g1,rfl⟩;have⟨T,X,Y⟩:=fU es W G more a (j+1) O n r d w g2;refine⟨T,X,?_⟩;rw[g1]at z;simp only[cD.bU,cD.W3,f,I,u,b,z,bl,ζb,if_true,Fw.elim,C];exact Y;refine⟨[],rfl,.inr ?_⟩;rw[g1]at z;simp only[cD.bU,cD.W3,f,I,u,b,C,z,bl,ζb,if_true,if_false,Bool.false_eq_true,Fw.elim]
theorem all(p:bX)(B:aZ (Int×Zg))(h:jM p=some B)(D:T')(more:X')(G:vX D (B.map eI) more):cD D p more=some []:=by unfold jM at h;split at h;rename_i b;simp only[ζh,List.all_eq_true]at b;have⟨k1,k2,k3⟩:=b;simp only[ζg,ζf]at h;obtain⟨s,C,c,a,r,d,rfl⟩:=h;have a:(ec s).bind Sl.whole=some c:=a;have⟨u,w,I⟩:=vX.step G;have hi:=ini p p.vars (D2 k1) D more p.vars.l 0 rfl .nil s C;rw[show((0:Nat):Int)=0 from rfl]at hi;have w:yl D more [.int .i64 0,enc c]=some ((more|| !u.isEmpty),u):=w;unfold cD cD.W1;simp only[hi,ζb,Fw.elim,a,w];rcases I with⟨g1,g2⟩|⟨g1,rfl⟩;obtain⟨L,rfl,z⟩:=fU p.events (D2 k2) (λe J=>D2 (k3 e J)) more p.events.l 0 rfl s r d u g2;rw[show((0:Nat):Int)=0 from rfl]at z;rw[g1];simp only[bl,if_true,cD.W2];rcases z with q|q<;>(rw[q];rfl);rw[g1];rfl;cases h
theorem xA{α:Type}[bC α]{a b:Sl α}(h:bZ a=bZ b):rows a.l=rows b.l:=by cases a<;>cases b<;>first|rfl|(simp only[bZ,Sl.k,o9,V.fsl.injEq,true_and,reduceCtorEq]at h;done)|(simp only[bZ,Sl.k,o9,V.fsl.injEq,true_and,reduceCtorEq]at h;exact h)
theorem K4:∀(a b:aZ Var),rows a=rows b->∀s,xh a s=xh b s
 |[],[],_,_=>rfl|[],_::_,h,_=>by simp[rows]at h|_::_,[],h,_=>by simp[rows]at h|x::a,y::b,h,s=>by simp only[rows,map_cons,List.cons.injEq]at h;have c:x.init_=y.init_:=(by have:=h.1;change[V.str x.name,V.int .i64 x.init_]=[V.str y.name,V.int .i64 y.init_]at this;simpa using(List.cons.inj (List.cons.inj this).2).1);simp only[xh,c,funext (K4 a b h.2)]
theorem Ks:∀(a b:aZ Assign),rows a=rows b->∀s,wN a s=wN b s
 |[],[],_,_=>rfl|[],_::_,h,_=>by simp[rows]at h|_::_,[],h,_=>by simp[rows]at h|x::a,y::b,h,s=>by simp only[rows,map_cons,List.cons.injEq]at h;have c:=h.1;change[V.int .i64 x.var,V.int .i64 x.value]=[V.int .i64 y.var,V.int .i64 y.value]at c;simp only[List.cons.injEq,V.int.injEq,true_and,and_true]at c;simp only[wN,c.1,c.2,funext (Ks a b h.2)]
theorem JN{x y:WF}(h:cells x=cells y):rows x.assign.l=rows y.assign.l:=by change[V.int .i64 x.kind,V.int .i64 x.peer,V.int .i64 x.message,V.int .i64 x.time,bZ x.assign]=[V.int .i64 y.kind,V.int .i64 y.peer,V.int .i64 y.message,V.int .i64 y.time,bZ y.assign]at h;simp only[List.cons.injEq]at h;exact xA h.2.2.2.2.1
theorem xY:∀(a b:aZ WF),rows a=rows b->∀k s,w_ k a s=w_ k b s
 |[],[],_,_,_=>rfl|[],_::_,h,_,_=>by simp[rows]at h|_::_,[],h,_,_=>by simp[rows]at h|x::a,y::b,h,k,s=>by simp only[rows,map_cons,List.cons.injEq]at h;simp only[w_,Ks _ _ (JN h.1),xY a b h.2]
theorem D3{α:Type}[bC α]{a b:aZ α}(h:rows a=rows b):a.length=b.length:=by have:=congrArg List.length h;simpa[rows]using this
theorem JS:∀(a b:aZ WF),rows a=rows b->(a.all λe=>pZ e.assign.l.length)=b.all λe=>pZ e.assign.l.length
 |[],[],_=>rfl|[],_::_,h=>by simp[rows]at h|_::_,[],h=>by simp[rows]at h|x::a,y::b,h=>by simp only[rows,map_cons,List.cons.injEq]at h;simp only[all_cons,D3 (JN h.1),JS a b h.2]
def wW(f:Y')(g:Y')(a b:T2)(xs:T'):Prop:=∃(p:bX)(u:aZ (Int×Zg)),g=f/\a=[]/\b=[.fptr (cells p)]/\jM p=some u/\xs=u.map eI
theorem wW.uniq{f g:Y'}{a b:T2}{xs ys:T'}(h:wW f g a b xs)(k:wW f g a b ys):xs=ys:=by obtain⟨p,C,rfl,rfl,rfl,c,rfl⟩:=h;obtain⟨w,z,_,_,u,B,rfl⟩:=k;simp only[List.cons.injEq,V.fptr.injEq,and_true]at u;change[V.str p.name,bZ p.vars,bZ p.events]=[V.str w.name,bZ w.vars,bZ w.events]at u;simp only[List.cons.injEq]at u;have r1:=xA u.2.1;have r2:=xA u.2.2.1;unfold jM at c B;rw[D3 r1,D3 r2,JS _ _ r2,K4 _ _ r1,funext (λs=>xY _ _ r2 0 s)]at c;have e:=c.symm.trans B;cases e;rfl
end IST
end Go.VE
namespace Go.VE
open Go.Proofs.YtfjedefhlilglaaGreatDoor
noncomputable section
def KC(f:Y')(a b:T2)(xs:T'):Prop:=trace_events_c1.wW 168 f a b xs\/IST.wW 222 f a b xs
noncomputable def Sy:Sys:=⟨E,λn=>n,zD KC,zq E,IM⟩
abbrev cL:cm:=dg Sy Tx
theorem VV:Sy.prm 214=some (uB Sy.E):=by kernel_rfl
theorem WH:Sy.prm 211=some (uJ Sy.E):=by kernel_rfl
theorem XE:∃fi,E.ft 168=some fi/\yV E some fi trace_events_c1.text:=Yu Zae
theorem IA:rR Sy Tx where
 fn f rf h:=let⟨u,a,w⟩:=DS h;⟨u,some,a,xw,w⟩
 yI f z y h:=Hr h
 prm:=K2
theorem KV(p:bX)(B:aZ (Int×Zg))(a:jM p=some B):eT Sy 222 [] [.fptr (cells p)] (B.map IST.eI):=by
 have w:Tx 222=some (sj (Tx 222)):=BM Zae;have⟨G,z,C⟩:=DS w;have e1:ble (([]:T2).length+1+[V.fptr (cells p)].length) (sj (Tx 222)).na=true:=by kernel_rfl
 have e2:(sj (Tx 222)).rs=[]:=by kernel_rfl
 have e3:Sy.E=Sb.E:=rfl;exact TC e3 K2 (vw Yq Pf) Pf z xw C (Nat.le_of_ble_eq_true e1) e2 λu more D y=>IB.zH more y u p [] (by rw[IST.all p B a u more D];rfl)
theorem CJ:∀f a b xs,Sy.items f a b=some xs->eT Sy f a b xs:=by intro f a b xs h;have h:KC f a b xs:=M9 h;rcases h with h|h;obtain⟨t,u,rfl,rfl,rfl,c,rfl⟩:=h;have⟨D,w,z⟩:=XE;exact T8 Sy w xw z (Nat.le_of_ble_eq_true rfl) rfl λB more C y=>trace_events_c1.all t u c B more C y;obtain⟨p,u,rfl,rfl,rfl,c,rfl⟩:=h;exact KV p u c
theorem z7(t:Z4)(B:aZ (bf×WF))(h:jL t=some B):Sy.items 168 [] [.fptr (cells t)]=some (B.map λx:bf×WF=>[enc x.1,enc x.2]):=Ff (.inl ⟨t,B,rfl,rfl,rfl,h,rfl⟩) (λu a=>by rcases a with a|a<;>first|exact a.uniq ⟨t,B,rfl,rfl,rfl,h,rfl⟩|(have⟨_,_,a,_⟩:=a;exact absurd a (by decide)))
theorem GS(p:bX)(B:aZ (Int×Zg))(h:jM p=some B):Sy.items 222 [] [.fptr (cells p)]=some (B.map λx:Int×Zg=>[enc x.1,enc x.2]):=Ff (.inr ⟨p,B,rfl,rfl,rfl,h,rfl⟩) (λu a=>by rcases a with a|a<;>first|exact a.uniq ⟨p,B,rfl,rfl,rfl,h,rfl⟩|(have⟨_,_,a,_⟩:=a;exact absurd a (by decide)))
theorem Rb:Sy.yI 10 []=some (.bool true):=BF (Lx rfl ⟨1,[],by kernel_rfl⟩)
end
end Go.VE
namespace Go.VE
noncomputable section
def vS(D:Z4)(B:bf):a_ WF:=(idx D.procs B.proc).bind λu=>(idx u.events (wrap .i64 (B.index-1))).bind λw=>some w
instance Y4(B:Z4)(D:bf):Fc Sy cL (vS B D):=Fc.N 154 [enc B,enc D] (cw 2 2 B (bQ 10 λw _=>bQ 5 λu _=>nN 1 4 0 u bh))
namespace eu
def bU(B G p7:Int)(D:Z4)(J:bf)(a:Int):a_ (Fw Int Unit bf):=(idx D.procs p7).bind λw=>bl (decide (a<(len w.events))) ((idx D.procs p7).bind λz=>(idx z.events a).bind λu=>(bl (u.kind==B) (some (u.message==G)) (some false):a_ X').bind λC=>bl C (some (.r (⟨p7,wrap .i64 (a+1)⟩:bf))) (some (.n (wrap .i64 (a+1))))) (some (.x ()))
def W2(B J p7 a:Int)(D:Z4)(G:bf):a_ (Fw Int Unit bf):=(bW (λq:Int=>bU B J p7 D G q) a).bind (Fw.elim (λe=>some (.n (wrap .i64 (p7+1)))) (λe=>some (.r e)))
def br(B J:Int)(D:Z4)(G:bf)(p7:Int):a_ (Fw Int Unit bf):=bl (decide (p7<(len D.procs))) (W2 B J p7 0 D G) (some (.x ()))
def W1(B J p7:Int)(D:Z4)(G:bf):a_ bf:=(bW (λq:Int=>br B J D G q) p7).bind (Fw.elim (λe=>some ⟨0,0⟩) (λe=>some e))
end eu
def eu(D:Z4)(B G:Int):a_ bf:=eu.W1 B G 0 D (⟨0,0⟩:bf)
open eu in
instance Xh(D:Z4)(B G:Int):Fc Sy cL (eu D B G):=Fc.M 100 [enc D,.int .i64 B,.int .i64 G] (cw 2 3 D (eA 11 (λu=>(bL [Iv 1 B,Iv 2 G,Pv 3,Pv 6,Iv 7 u] [Xb 3 D,Xb 6 (⟨0,0⟩:bf)])) (λw=>(0,(bL [Pv 6] [Xb 6 (⟨0,0⟩:bf)]))) (λw=>(bL [Pv 6] [Xb 6 w])) (λu=>b8 7 D.procs (bB 3 14 (eA 12 (λC=>(bL [Iv 1 B,Iv 2 G,Pv 3,Pv 6,Iv 7 u,Iv 8 C] [Xb 3 D,Xb 6 (⟨0,0⟩:bf)])) (λz=>(2,(bL [Iv 1 B,Iv 2 G,Pv 3,Pv 6,Iv 7 u] [Xb 3 D,Xb 6 (⟨0,0⟩:bf)]))) (λz=>(bL [Pv 6] [Xb 6 z])) (λC=>bQ 8 λI _=>b8 2 I.events (bB 3 25 (bQ 10 λL _=>bQ 3 λJ _=>nN 2 9 0 J (b_ 9 5 [9,41] 46 (bB 9 41 (bD 5) (bD 5)) λO=>bB 2 46 bh bh)) bh)) (λz=>bh) (λz=>bh)) bh)) (λw=>bh) (λw=>bh)))
namespace en
def J1(B:Sl bf)(D:Z4)(G:bf):a_ (Sl bf):=(vS D G).bind λu=>bl (u.kind==3) ((eu D 2 u.message).bind λw=>(gy B (w:bf)).bind λz=>some z) (some B)
end en
def en(D:Z4)(B:bf):a_ (Sl bf):=bl (decide (B.index>1)) (en.J1 (Sl.row [⟨B.proc,wrap .i64 (B.index-1)⟩]:Sl bf) D B) (en.J1 (Sl.nil:Sl bf) D B)
open en in
theorem AZ(D:Z4)(B:bf):Le ((en D B).bind λr=>some (cI r)) (cg Sy cL (Bg (tr Tx 155)) (.rc (tb Tx 155),[],start ([enc D,enc B].map .v) [])):=cw 2 2 D (bB 17 9 (UK 10 17 18 .bO (⟨B.proc,wrap .i64 (B.index-1)⟩:bf) (uf 5 (bG 4 λu _=>nN 1 6 0 u (bB 10 24 (bG 6 λw _=>oI 1 2005 30 31 λz _=>bh) bh)))) (uf 5 (bG 4 λu _=>nN 1 6 0 u (bB 10 24 (bG 6 λw _=>oI 1 2005 30 31 λz _=>bh) bh))))
def p_(a:bf->a_ (Sl bf)):aZ (aZ X')×aZ bf->a_ (Fw (aZ (aZ X')×aZ bf) (aZ (aZ X')) Empty)
 |(out,[])=>some (.x out)|(out,y::rest)=>if 0<=y.proc/\0<=y.index then(out[y.proc.toNat]?).bind λrow=>(row[y.index.toNat]?).bind λb=>bl b (some (.n (out,rest))) ((a y).bind λmore=>if rest.length+more.l.length<=2147483648 then some (.n (out.set y.proc.toNat (row.set y.index.toNat true),rest++more.l))else none)else none
def iq(t:Z4):aZ (aZ X'):=t.procs.l.map λP=>replicate (P.events.l.length+1) false
def B5(t:Z4):X':=decide (t.procs.l.length<=2147483648)&&t.procs.l.all λP=>decide (P.events.l.length+1<=2147483648)
def nested(out:aZ (aZ X')):Sl (Sl X'):=if out=[]then .nil else .row (out.map .row)
def oF(t:Z4)(x:bf):a_ (Sl (Sl X')):=if B5 t then(en t x).bind λs=>(bW (p_ (en t)) (iq t,s.l)).bind (Fw.elim (λout=>some (nested out)) (λe=>elim e))else none
end
namespace pastX
abbrev yD:Nat->FuncId:=λn=>n
def r1:SW:=[o2 2 (.a .box) [0] [],o2 3 (.a .box) [1] [],o1 4 (.k (.bO)) []]
def r2:SW:=[o1 5 (.k (.bO)) []]
def r3:SW:=[o1 6 (.k (.int .i64 0)) []]
def r4:SW:=[o1 11 6 [],o2 12 (fa 0) [2] [],o2 13 (ld 1) [12] [],o2 14 ln [13] [],o2 15 (bI .lss) [11,14] []]
def r5:SW:=[o1 18 5 [],o2 19 (fa 0) [2] [],o2 20 (ld 1) [19] [],o1 21 6 [],o2 22 (ix 3) [20,21] [],o2 23 (fa 2) [22] [],o2 24 (ld 1) [23] [],o2 25 ln [24] [],o2 26 (bI .add) [25,.k (.int .i64 1)] [],o2 27 (.a (.makeSl 1 [.bool false])) [26,26] [],o2 28 (.a (.buildSl 1 1 [.bO] [0])) [27] [],o2 29 (.l (.append 1)) [18,28] [],o1 5 29 []]
def r6:SW:=[o1 16 6 [],o2 17 (bI .add) [16,.k (.int .i64 1)] [],o1 6 17 []]
def L1:RC:=.seq (.seq (.ops r4) (.cond (.s 15) (.skip) (.exit 0))) (.seq (.block 1 (.ops r5)) (.ops r6))
def r7:SW:=[o2 30 (lD 1) [2] [],o2 31 (lD 2) [3] [],o2 32 .c [.f 155,30,31] [],o1 7 32 []]
def r8:SW:=[o1 33 7 [],o2 34 ln [33] [],o2 35 (bI .gtr) [34,.k (.int .i64 0)] []]
def r9:SW:=[o1 36 7 [],o2 37 (ix 2) [36,.k (.int .i64 0)] [],o2 38 (lD 2) [37] [],o2 8 (.a (.alloc 2 [.int .i64 0,.int .i64 0])) [] [],oz (su 2) [8,38] []]
def Eb:SW:=[o1 39 7 [],o2 40 (.p (.slice 2 true false)) [39,.k (.int .i64 1)] [],o1 7 40 []]
def HZ:SW:=[o1 41 5 [],o2 42 (fa 0) [8] [],o2 43 (ld 1) [42] [],o2 44 (ix 1) [41,43] [],o2 45 (ld 1) [44] [],o2 46 (fa 1) [8] [],o2 47 (ld 1) [46] [],on 48 (ix 1) [45,47] [],on 49 (ld 1) [48] []]
def Ht:SW:=[o1 50 5 [],o2 51 (fa 0) [8] [],o2 52 (ld 1) [51] [],o2 53 (ix 1) [50,52] [],o2 54 (ld 1) [53] [],o2 55 (fa 1) [8] [],o2 56 (ld 1) [55] [],on 57 (ix 1) [54,56] [],oy (su 1) [57,.k (.bool true)] []]
def HD:SW:=[o2 58 (lD 1) [2] [],o2 59 (lD 2) [8] [],o2 60 .c [.f 155,58,59] [],o1 9 60 []]
def Fu:SW:=[o1 10 (.k (.int .i64 0)) []]
def HS:SW:=[o1 61 10 [],o1 62 9 [],o2 63 ln [62] [],o2 64 (bI .lss) [61,63] []]
def r16:SW:=[o1 67 7 [],o1 68 9 [],o1 69 10 [],o2 70 (ix 2) [68,69] [],o2 71 (lD 2) [70] [],o2 72 (.a (.buildSl 2 1 [.int .i64 0,.int .i64 0] [0])) [71] [],o2 73 (.l (.append 2)) [67,72] [],o1 7 73 []]
def Px:SW:=[o1 65 10 [],o2 66 (bI .add) [65,.k (.int .i64 1)] [],o1 10 66 []]
def L3:RC:=.seq (.seq (.ops HS) (.cond (.s 64) (.skip) (.exit 4))) (.seq (.block 5 (.ops r16)) (.ops Px))
def L2:RC:=.seq (.seq (.ops r8) (.cond (.s 35) (.skip) (.exit 2))) (.block 3 (.seq (.ops r9) (.seq (.ops Eb) (.seq (.seq (.qG HZ) (.cond (.s 49) (.exit 3) (.skip))) (.seq (.qG Ht) (.seq (.ops HD) (.seq (.ops Fu) (.block 4 (.loop L3)))))))))
def r18:SW:=[o1 74 5 [],o1 4 74 []]
def code:RC:=.seq (.ops r1) (.seq (.ops r2) (.seq (.seq (.ops r3) (.block 0 (.loop L1))) (.seq (.ops r7) (.seq (.block 2 (.loop L2)) (.seq (.ops r18) (.ret))))))
noncomputable abbrev xP:=Go.Proofs.YtfjedefhlilglaaGreatDoor.E
def kL(out:aZ (aZ X')):T':=out.map λr=>r.map V.bool
theorem shape:∃fi,xP.ft (yD 114)=some fi/\bV ⟨xP,some,fi.ntmps⟩ false fi.body=some code/\2<=fi.ntmps/\fi.results=[.tmp 4]:=by
 have h:((xP.ft (yD 114)).map λfi=>(bV ⟨xP,some,fi.ntmps⟩ false fi.body,ble 2 fi.ntmps,fi.results))=some (some code,true,[.tmp 4]):=by kernel_rfl
 have⟨fi,a,u⟩:=ζf.1 h;simp only[ζc]at u;exact⟨fi,a,u.1,Nat.le_of_ble_eq_true u.2.1,u.2.2⟩
section
variable{E:Env}{N:Nat->Y'}{t:Z4}{x:bf}{k:Nat}{F:WP}{H H1:bp}{call:dL}{b:a_ Nat}
theorem kC{o:RO}{l:SW}{v:V}{r:WP×bp}(a:o.gd=none)(c:bK E N call b o.now o.k (o.az.map (bz N F)) H=some (v,H1))(h:cK E N call b l (bu F o.dst v) H1=some r):cK E N call b (o::l) F H=some r:=by simp[cK,a,c];omega
theorem vp{o:RO}{l:SW}{v:V}{r:WP×bp}(a:o.gd=none)(c:bK E N call b o.now o.k (o.az.map (bz N F)) H=some (v,H))(h:cK E N call b l (bu F o.dst v) H=some r):cK E N call b (o::l) F H=some r:=kC a c h
theorem eC:cK E N call b [] F H=some (F,H):=rfl
theorem ld1(h:H[0]?=some (.row 1 [cells t])):fD H (.load 1 false) [.hptr 0 0 0]=some (bZ t.procs):=by simp[fD,eM,h];rfl
theorem aaV{s:Sl bX}{p:bX}{i:Nat}(h:s.l[i]?=some p):mN 3 (bZ s) (i:Int)=some (.fptr (cells p)):=by have:=FU (N:=λn=>n) s .i64 i 3 rfl;simp[bq]at this;rw[this,show idx s i=some p from by unfold idx;grind];rfl
theorem x4(a:get F 2=.hptr 0 0 0)(f6:get F 6=.int .i64 k)(b:H[0]?=some (.row 1 [cells t])):
 ∃F',cK E N call none r4 F H=some (F',H)/\get F' 15=.bool (decide (k<t.procs.l.length))/\(∀s,s<11->get F' s=get F s):=by
 refine⟨_,vp (v:=.int .i64 k) rfl ?_<|vp (v:=.hptr 0 0 0) rfl ?_<|vp (v:=bZ t.procs) rfl ?_<|vp (v:=.int .i64 t.procs.l.length) rfl ?_<|vp (v:=.bool (decide (k<t.procs.l.length))) rfl ?_ eC,?_,?_⟩
 .simp[bK,bz,bq,f6]
 .simp[bK,bz,bq,bu,a,iM]
 .simp only[bK,map_cons,map_nil,bz,bu,bA,if_true];rw[ld1 b];rfl
 .simp only[bK,map_cons,map_nil,bz,bu,bA,if_true];rw[AJ];rfl
 .simp[bK,bz,bq,bu,iu,pe]
 .simp[bu]
 simp[bu,bA]
 grind
theorem zB{n:Nat}(h:n<=2147483648):wrap .i64 ((n:Int)+1)=((n+1:Nat):Int):=by simp[wrap,IntKind.bits];omega
theorem x5{P:bX}{o:Nat}{ids:S'}{rows:T'}(a:get F 2=.hptr 0 0 0)(f6:get F 6=.int .i64 k)(b:H[0]?=some (.row 1 [cells t]))(B:t.procs.l[k]?=some P)(G:P.events.l.length+1<=2147483648)
 (D:nF H (get F 5) o ids rows)(c:rows.length+1<=2147483648):
 ∃F' H',cK E N call none r5 F H=some (F',H')/\nF H' (get F' 5) (H.length+2) (ids++[H.length]) (rows++[replicate (P.events.l.length+1) (.bool false)])/\H.length<=H'.length/\(∀id,id<H.length->id≠o\/rows=[]->H'[id]?=H[id]?)/\(∀s,s<11->s≠5->get F' s=get F s):=by
 have⟨H',p1,p2,p3,p4⟩:=D.push (replicate (P.events.l.length+1) (.bool false)) c;have u:jQ (replicate (P.events.l.length+1) (V.bool false))=replicate (P.events.l.length+1) [.bool false]:=by simp[jQ]
 rw[u,List.length_replicate]at p1;have w:=zB (n:=P.events.l.length) Zaa
 refine⟨_,H',vp (v:=get F 5) rfl ?_<|vp (v:=.hptr 0 0 0) rfl ?_<|vp (v:=bZ t.procs) rfl ?_<|vp (v:=.int .i64 k) rfl ?_<|vp (v:=.fptr (cells P)) rfl ?_<|vp (v:=.fptr [bZ P.events]) rfl ?_<|vp (v:=bZ P.events) rfl ?_<|
  vp (v:=.int .i64 P.events.l.length) rfl ?_<|vp (v:=.int .i64 (P.events.l.length+1:Nat)) rfl ?_<|kC (v:=.hsl H.length 1 0 (P.events.l.length+1)) (H1:=H++[.row 1 (replicate (P.events.l.length+1) [.bool false])]) rfl ?_<|
  kC (v:=.hsl (H.length+1) 1 0 1) (H1:=H++[.row 1 (replicate (P.events.l.length+1) [.bool false])]++[.row 1 [[.hsl H.length 1 0 (P.events.l.length+1)]]]) rfl ?_<|
  kC (v:=.hsl (H.length+2) 1 0 (rows.length+1)) rfl ?_<|vp (v:=.hsl (H.length+2) 1 0 (rows.length+1)) rfl ?_ eC,?_,p3,p4,?_⟩
 .simp[bK,bz,bq]
 .simp[bK,bz,bq,bu,a,iM]
 .simp only[bK,map_cons,map_nil,bz,bu,bA,if_true];rw[ld1 b];rfl
 .simp[bK,bz,bq,bu,f6]
 .simp only[bK,map_cons,map_nil,bz,bu,bA,reduceEqDiff,if_true,if_false,bq];rw[aaV B];rfl
 .simp[bK,bz,bu,bA,bq];rfl
 .simp[bK,bz,bu,bA];rfl
 .simp only[bK,map_cons,map_nil,bz,bu,bA,if_true];rw[AJ];rfl
 .simp[bK,bz,bu,bA,bq,iu];grind
 .simp only[bK,map_cons,map_nil,bz,bu,bA,if_true,iU];rw[if_pos ⟨trivial,trivial,Zaa,Zaa,Zaa⟩]
  simp[Mk.val]
 .simp[bK,bz,bu,bA,iU];simp[fR,V.cells,V.one,Mk.val]
 .simp only[bK,map_cons,map_nil,bz,bu,bA,reduceEqDiff,if_true,if_false];omega
 .simp[bK,bz,bq,bu]
 .simp[bu,bA];omega
 intro s z C;simp[bu,bA]
 repeat (rw[if_neg Zaa])
theorem x6(f6:get F 6=.int .i64 k)(a:k<=2147483648):∃F',cK E N call none r6 F H=some (F',H)/\get F' 6=.int .i64 ((k+1:Nat):Int)/\(∀s,s<11->s≠6->get F' s=get F s):=by have u:=zB a;refine⟨_,vp (v:=.int .i64 k) rfl ?_<|vp (v:=.int .i64 (k+1:Nat)) rfl ?_<|vp (v:=.int .i64 (k+1:Nat)) rfl ?_ eC,?_,?_⟩;simp[bK,bz,bq,f6];simp[bK,bz,bu,bA,bq,iu];grind;simp[bK,bz,bq,bu];simp[bu];simp[bu,bA];grind
end
structure P1(t:Trace)(x:bf)(k:Nat)(F:Frame)(H:bp):Prop where
 f2:get F 2=.hptr 0 0 0
 f3:get F 3=.hptr 1 0 0
 f6:get F 6=.int .i64 k
 h0:H[0]?=some (.row 1 [cells t])
 h1:H[1]?=some (.row 2 [cells x])
 ns:∃o ids,nF H (get F 5) o ids (kL ((iq t).take k))/\(k≠0->2<=o)/\∀id∈ids,2<=id
theorem xT(out:aZ (aZ X')):(kL out).length=out.length:=by simp[kL]
theorem NM {E:Env} {N:Nat->FuncId} {t:Trace} {x:bf} (J:B5 t=true):∀(m k:Nat) (F:Frame) (H:bp),k+m=t.procs.l.length->P1 t x k F H->∃F' H',ng E N L1 F H (.exit 0) F' H'/\P1 t x t.procs.l.length F' H':=by
 have B:t.procs.l.length<=2147483648/\∀P∈t.procs.l,P.events.l.length+1<=2147483648:=by
  simpa [B5]using J
 intro m
 induction m with
 | zero=>
  intro k F H hk p;have C:k=t.procs.l.length:=by omega
  obtain⟨F1,e1,e2,e3⟩:=x4 (E:=E)  (call:=⟨0,λ_ _ _=>none⟩) p.f2 p.f6 p.h0
  refine⟨F1,H,ng.stop (Ex.ve (Ex.seq (Ex.di λc=>?_) (Ex.qJ ?_ Ex.exit)) Zab) Zab,?_⟩
  .have:cK E N c none r4 F H=cK E N ⟨0,λ_ _ _=>none⟩ none r4 F H:=rfl
   exact e1
  .show get F1 15=_;rw[e2];simp[C]
  subst C;exact⟨by rw[e3 2 Zaa];exact p.f2,by rw[e3 3 Zaa];exact p.f3,by rw[e3 6 Zaa];exact p.f6,p.h0,p.h1,by rw[e3 5 Zaa];exact p.ns⟩
 | succ m Z=>
  intro k F H hk p;have w:k<t.procs.l.length:=by omega
  obtain⟨o,ids,U,n2,n3⟩:=p.ns;obtain⟨F1,e1,e2,e3⟩:=x4 (E:=E) (N:=N) (call:=⟨0,λ_ _ _=>none⟩) p.f2 p.f6 p.h0
  have W:=ζd w;have D:((iq t).take k).length=k:=by simp[iq];omega
  have I:nF H (get F1 5) o ids (kL ((iq t).take k)):=by rw[e3 5 Zaa];exact U
  obtain⟨F2,H2,g1,g2,g3,g4,g5⟩:=x5 (E:=E) (N:=N) (call:=⟨0,λ_ _ _=>none⟩) (by rw[e3 2 Zaa];exact p.f2) (by rw[e3 6 Zaa];exact p.f6) p.h0 W (B.2 _ (List.getElem_mem w)) I (by rw[xT,D];omega)
  obtain⟨X,q1,q2,L⟩:=x6 (E:=E) (N:=N) (call:=⟨0,λ_ _ _=>none⟩) (H:=H2)   (by rw[g5 6 Zaa Zaa,e3 6 Zaa];exact p.f6) Zaa
  have Y:=U.lt;have O:=(ζe.1 p.h0).1;have Q:=(ζe.1 p.h1).1;have u:∀i,i<2->i<H.length->H2[i]? = H[i]? := λi hi Y=>g4 i Y (by
   by_cases G:k=0
   .subst G;right;simp[kL]
   left;have:=n2 G;omega)
  have S:P1 t x (k+1) X H2:=by
   refine⟨by rw[L 2 Zaa Zaa,g5 2 Zaa Zaa,e3 2 Zaa];exact p.f2,by rw[L 3 Zaa Zaa,g5 3 Zaa Zaa,e3 3 Zaa];exact p.f3,q2,
    by rw[u 0 Zaa O];exact p.h0,by rw[u 1 Zaa Q];exact p.h1,H.length+2,ids++[H.length],?_,λ_=>by omega,λid T=>?_⟩
   .rw[L 5 Zaa Zaa]
    have z:kL ((iq t).take (k+1))=kL ((iq t).take k)++[List.replicate (t.procs.l[k].events.l.length+1) (.bool false)]:=by
     rw[List.take_add_one];have:(iq t)[k]? = some (List.replicate (t.procs.l[k].events.l.length+1) false):=by simp[iq,W]
     rw[this];simp[kL]
    rw[z];exact g2
   rcases List.mem_append.1 T with h|h
   .exact n3 id h
   simp at h;omega
  obtain⟨F',H',r1,r2⟩:=Z (k+1) X H2 Zaa S
  refine⟨F',H',ng.step (Ex.seq (Ex.seq (Ex.di λc=>e1) (Ex.oh ?_ Ex.skip)) (Ex.seq (Ex.block (Ex.di λc=>g1)) (Ex.di λc=>q1))) r1,r2⟩
  show get F1 15=_;rw[e2];simp[w]
section
variable{E:Env}{N:Nat->Y'}{t:Z4}{x y:bf}{F:WP}{H:bp}{call:dL}
theorem x8{l:T'}{id:Nat}(h:lB H (get F 7) l id):∃F',cK E N call none r8 F H=some (F',H)/\get F' 35=.bool (decide (0<l.length))/\(∀s,s<11->get F' s=get F s):=by refine⟨_,vp (v:=get F 7) rfl ?_<|vp (v:=.int .i64 l.length) rfl ?_<|vp (v:=.bool (decide (0<l.length))) rfl ?_ eC,?_,?_⟩;simp[bK,bz,bq];simp[bK,bz,bu,bA,bq,h.len];simp[bK,bz,bq,bu,iu,pe];simp[bu];simp[bu,bA];grind
theorem x9{l:T'}{id:Nat}(h:lB H (get F 7) (cells y::l) id):∃F',cK E N call none r9 F H=some (F',H++[.row 2 [cells y]])/\get F' 8=.hptr H.length 0 0/\(∀s,s<11->s≠8->get F' s=get F s):=by have⟨p,p1,p2⟩:=h.get (i:=0) rfl;refine⟨_,vp (v:=get F 7) rfl ?_<|vp (v:=p) rfl ?_<|vp (v:=.agg (cells y)) rfl ?_<|kC (v:=.hptr H.length 0 0) (H1:=H++[.row 2 [[.int .i64 0,.int .i64 0]]]) rfl ?_<|kC (v:=.undef) rfl ?_ eC,?_,?_⟩;simp[bK,bz,bq];simp[bK,bz,bu,bA,bq];grind;simp only[bK,map_cons,bz,bu,bA,if_false];grind;simp[bK,bz,bu,bA,iU,Mk.val];simp[bK,bz,bu,bA];simp[fQ,V.cells,V.one];simp[bu];simp[bu,bA];grind
theorem x10{c:T2}{l:T'}{id:Nat}(h:lB H (get F 7) (c::l) id):∃F',cK E N call none Eb F H=some (F',H)/\lB H (get F' 7) l id/\(∃off m B,get F 7=.hsl id 2 off m/\get F' 7=.hsl id 2 B l.length)/\(∀s,s<11->s≠7->get F' s=get F s):=by have⟨w',p1,p2,off,m,B,p3,p4⟩:=h.tail;refine⟨_,vp (v:=get F 7) rfl ?_<|vp (v:=w') rfl ?_<|vp (v:=w') rfl ?_ eC,?_,⟨off,m,B,p3,?_⟩,?_⟩;simp[bK,bz,bq];simp[bK,bz,bu,bA,bq,mP,p1];simp[bK,bz,bq,bu];simp[bu,bA];omega;simp[bu,bA];omega;simp[bu,bA];grind
theorem kS(H:bp):H.take H.length=H:=List.take_length ..
theorem XZ{c:Nat}(a:H[c]?=some (.row 2 [cells y])):fD H (.load 1 false) [.hptr c 0 0]=some (.int .i64 y.proc)/\fD H (.load 1 false) [.hptr c 0 1]=some (.int .i64 y.index)/\fD H (.load 2 true) [.hptr c 0 0]=some (enc y):=by refine⟨?_,?_,?_⟩<;>simp[fD,eM,a,cut]<;>rfl
theorem XV{c o:Nat}{ids:S'}{rows:T'}{p j:Nat}{r:T2}{u:V}(B:get F 8=.hptr c 0 0)(a:H[c]?=some (.row 2 [cells y]))(D:nF H (get F 5) o ids rows)(hp:y.proc=p)(G:y.index=j)(b:rows[p]?=some r)(d:r[j]?=some u):
 ∃F',cK E N call (some H.length) HZ F H=some (F',H)/\get F' 49=u/\(∀s,s<11->get F' s=get F s):=by
 have⟨id,w,z,C,I,J⟩:=D.cell b d;have⟨L,O,_⟩:=XZ a;refine⟨_,vp (v:=get F 5) rfl ?_<|vp (v:=.hptr c 0 0) rfl ?_<|vp (v:=.int .i64 p) rfl ?_<|vp (v:=.hptr o p 0) rfl ?_<|vp (v:=.hsl id 1 0 r.length) rfl ?_<|vp (v:=.hptr c 0 1) rfl ?_<|vp (v:=.int .i64 j) rfl ?_<|vp (v:=.hptr id j 0) rfl ?_<|vp (v:=u) rfl ?_ eC,?_,?_⟩
 .simp[bK,bz,bq]
 .simp[bK,bz,bq,bu,B,iM]
 .simp[bK,bz,bu,bA,kS];grind
 .simp[bK,bz,bu,bA,bq];grind
 .simp[bK,bz,bu,bA,kS];grind
 .simp[bK,bz,bq,bu,B,iM]
 .simp[bK,bz,bu,bA,kS];grind
 .simp[bK,bz,bu,bA,bq];grind
 .simp[bK,bz,bu,bA,kS];simp_all
 .simp[bu]
 simp[bu,bA]
 grind
theorem x12{c o:Nat}{ids:S'}{rows:T'}{p j:Nat}{r:T2}{u:V}(B:get F 8=.hptr c 0 0)(d:H[c]?=some (.row 2 [cells y]))(D:nF H (get F 5) o ids rows)(hp:y.proc=p)(J:y.index=j)(a:rows[p]?=some r)(b:r[j]?=some u):
 ∃F' H',cK E N call (some H.length) Ht F H=some (F',H')/\nF H' (get F' 5) o ids (rows.set p (r.set j (.bool true)))/\H'.length=H.length/\(∀i,i∉ids->H'[i]?=H[i]?)/\(∀s,s<11->get F' s=get F s):=by
 have⟨id,w,L,O,z,Q⟩:=D.cell a b;have⟨S,T,_⟩:=XZ d;have⟨H',C,U,G,I⟩:=D.set a (ζe.1 b).1 w (u:=.bool true) rfl rfl;refine⟨_,H',vp (v:=get F 5) rfl ?_<|vp (v:=.hptr c 0 0) rfl ?_<|vp (v:=.int .i64 p) rfl ?_<|vp (v:=.hptr o p 0) rfl ?_<|vp (v:=.hsl id 1 0 r.length) rfl ?_<|vp (v:=.hptr c 0 1) rfl ?_<|vp (v:=.int .i64 j) rfl ?_<|vp (v:=.hptr id j 0) rfl ?_<|kC (v:=.undef) rfl ?_ eC,?_,G,λi hi=>I i λe=>hi (e▸mem_of_getElem? w),?_⟩
 .simp[bK,bz,bq]
 .simp[bK,bz,bq,bu,B,iM]
 .simp[bK,bz,bu,bA,kS];grind
 .simp[bK,bz,bu,bA,bq];grind
 .simp[bK,bz,bu,bA,kS];grind
 .simp[bK,bz,bq,bu,B,iM]
 .simp[bK,bz,bu,bA,kS];grind
 .simp only[bK,map_cons,map_nil,bz,bu,bA,reduceEqDiff,if_true,if_false,bq];rw[z];rfl
 .simp[bK,bz,bu,bA,C]
 .simp[bu,bA];omega
 simp[bu,bA]
 grind
def II(E:Env)(N:Nat->Y')(t:Z4)(a:bf->a_ (Sl bf)):Prop:=∀(y:bf)(s:Sl bf)(H:bp),a y=some s->∃w X id,(∃n,∀k,n<=k->fI E (run E k) (N 155) [enc t,enc y] H=some (w,H++X))/\lB (H++X) w (s.l.map cells) id/\(∀off m,w=.hsl id 2 off m->id=H.length)
theorem x13{a d:Nat}(hd:E.keep (N 155)=true){b:bf->a_ (Sl bf)}(D:II E N t b){s:Sl bf}(B:b y=some s)(f:get F 2=.hptr 0 0 0)(g:H[0]?=some (.row 1 [cells t])){c:Nat}(h:H[c]?=some (.row 2 [cells y])):
 ∃w X id,lB (H++X) w (s.l.map cells) id/\(∀off m,w=.hsl id 2 off m->id=H.length)/\
  (get F 8=.hptr c 0 0->∃F',(∃n,∀k,n<=k->cK E N (run E k) none HD F H=some (F',H++X))/\get F' 9=w/\(∀s,s<11->s≠9->get F' s=get F s))/\
  (get F 3=.hptr c 0 0->∃F',(∃n,∀k,n<=k->cK E N (run E k) none r7 F H=some (F',H++X))/\get F' 7=w/\(∀s,s<11->s≠7->get F' s=get F s)):=by
 have⟨w,X,id,⟨n,e1⟩,e2,e3⟩:=D y s H B;have z:fD H (.load 1 true) [.hptr 0 0 0]=some (enc t):=by simp[fD,eM,g,Ob.rows,cut];rfl
 have⟨_,_,C⟩:=XZ h;refine⟨w,X,id,e2,e3,λG=>⟨_,⟨n,λk e=>vp (v:=enc t) rfl ?_<|vp (v:=enc y) rfl ?_<|kC (v:=w) (H1:=H++X) rfl ?_<|vp (v:=w) rfl ?_ eC⟩,?_,?_⟩,λi=>⟨_,⟨n,λk e=>vp (v:=enc t) rfl ?_<|vp (v:=enc y) rfl ?_<|kC (v:=w) (H1:=H++X) rfl ?_<|vp (v:=w) rfl ?_ eC⟩,?_,?_⟩⟩
 .simp only[bK,map_cons,map_nil,bz,f];rw[z];rfl
 .simp only[bK,map_cons,map_nil,bz,bu,bA,reduceEqDiff,if_true,if_false,G];rw[C];rfl
 .simp only[bK,map_cons,map_nil,bz,bu,bA,reduceEqDiff,if_true,if_false,hd,List.nil_append,List.append_nil];exact e1 k e
 .simp[bK,bz,bq,bu]
 .simp[bu]
 .intro s B u;simp only[bu,bA];rw[if_neg (Ne.symm u)]
  repeat (rw[if_neg Zaa])
 .simp only[bK,map_cons,map_nil,bz,f];rw[z];rfl
 .simp only[bK,map_cons,map_nil,bz,bu,bA,reduceEqDiff,if_true,if_false,i];rw[C];rfl
 .simp only[bK,map_cons,map_nil,bz,bu,bA,reduceEqDiff,if_true,if_false,hd,List.nil_append,List.append_nil];exact e1 k e
 .simp[bK,bz,bq,bu]
 .simp[bu]
 intro s B u;simp only[bu,bA];rw[if_neg (Ne.symm u)]
 repeat (rw[if_neg Zaa])
end
section
variable{E:Env}{N:Nat->Y'}{F:WP}{H:bp}{call:dL}{i:Nat}
theorem UP{l:T'}{id:Nat}(a:get F 10=.int .i64 i)(h:lB H (get F 9) l id):∃F',cK E N call none HS F H=some (F',H)/\get F' 64=.bool (decide (i<l.length))/\(∀s,s<11->get F' s=get F s):=by refine⟨_,vp (v:=.int .i64 i) rfl ?_<|vp (v:=get F 9) rfl ?_<|vp (v:=.int .i64 l.length) rfl ?_<|vp (v:=.bool (decide (i<l.length))) rfl ?_ eC,?_,?_⟩;simp[bK,bz,bq,a];simp[bK,bz,bq,bu];simp[bK,bz,bu,bA,bq,h.len];simp[bK,bz,bq,bu,iu,pe];simp[bu];simp[bu,bA];grind
theorem x16{l D:T'}{id B:Nat}{c:T2}(a:get F 10=.int .i64 i)(h:lB H (get F 7) l id)(G:lB H (get F 9) D B)(b:D[i]?=some c)(J:l.length+1<=2147483648):
 ∃F' H',cK E N call none r16 F H=some (F',H')/\lB H' (get F' 7) (l++[c]) (H.length+1)/\H'.length=H.length+2/\(∀i,i<H.length->(∀off m,get F 7=.hsl id 2 off m->i≠id)->H'[i]?=H[i]?)/\(∀s,s<11->s≠7->get F' s=get F s):=by
 have u:=G.c c (mem_of_getElem? b);have⟨p,p1,p2⟩:=G.get b;have⟨H',C,I,w,z⟩:=h.push u J;refine⟨_,H',vp (v:=get F 7) rfl ?_<|vp (v:=get F 9) rfl ?_<|vp (v:=.int .i64 i) rfl ?_<|vp (v:=p) rfl ?_<|vp (v:=.agg c) rfl ?_<|kC (v:=.hsl H.length 2 0 1) (H1:=H++[.row 2 [c]]) rfl ?_<|kC (v:=.hsl (H.length+1) 2 0 (l.length+1)) rfl ?_<|vp (v:=.hsl (H.length+1) 2 0 (l.length+1)) rfl ?_ eC,?_,w,z,?_⟩
 .simp[bK,bz,bq]
 .simp[bK,bz,bq,bu]
 .simp[bK,bz,bq,bu,a]
 .simp[bK,bz,bu,bA,bq];grind
 .simp[bK,bz,bu,bA];grind
 .simp[bK,bz,bu,bA,iU];simp[fR,V.cells,Mk.val]
  grind
 .simp[bK,bz,bu,bA];omega
 .simp[bK,bz,bq,bu]
 .simp[bu,bA];omega
 simp[bu,bA]
 grind
theorem x17(a:get F 10=.int .i64 i)(b:i<=2147483648):∃F',cK E N call none Px F H=some (F',H)/\get F' 10=.int .i64 ((i+1:Nat):Int)/\(∀s,s<11->s≠10->get F' s=get F s):=by have u:=zB b;refine⟨_,vp (v:=.int .i64 i) rfl ?_<|vp (v:=.int .i64 (i+1:Nat)) rfl ?_<|vp (v:=.int .i64 (i+1:Nat)) rfl ?_ eC,?_,?_⟩;simp[bK,bz,bq,a];simp[bK,bz,bu,bA,bq,iu];grind;simp[bK,bz,bq,bu];simp[bu];simp[bu,bA];grind
structure P3(l l9:List (List V))(B i:Nat)(F:Frame)(H:bp):Prop where
 f10:get F 10=.int .i64 i
 t9:∃id9,lB H (get F 9) l9 id9/\∃id,lB H (get F 7) l id/\(∀off m,get F 7=.hsl id 2 off m->B<=id/\∀off' m',get F 9=.hsl id9 2 off' m'->id≠id9)
 len:B<=H.length
theorem Zt (D:aZ (aZ V)) (B:Nat) (Y:D.length<=2147483648):∀(m i:Nat) (l:aZ (aZ V)) (F:Frame) (H:bp),i+m=D.length->l.length+m<=2147483648->P3 l D B i F H ->
 ∃F' H',ng E N L3 F H (.exit 4) F' H'/\(∃id,lB H' (get F' 7) (l++D.drop i) id/\∀off m,get F' 7=.hsl id 2 off m->B<=id)/\(∀s,s<7->get F' s=get F s)/\(∀j,j<B->H'[j]? = H[j]?)/\H.length<=H'.length:=by
 intro m
 induction m with
 | zero=>
  intro i l F H hi Z p;obtain⟨u,t9,id,t7,C⟩:=p.t9;obtain⟨F1,e1,e2,e3⟩:=UP (E:=E)  (call:=⟨0,λ_ _ _=>none⟩) p.f10 t9
  refine⟨F1,H,ng.stop (Ex.ve (Ex.seq (Ex.di λc=>e1) (Ex.qJ ?_ Ex.exit)) Zab) Zab,⟨id,?_,λoff m h=>?_⟩,λs T=>e3 s Zaa,λ_ _=>rfl,Nat.le_refl _⟩
  .show get F1 64=_
   grind
  .grind
  grind
 | succ m ih=>
  intro i l F H hi Z p;have z:i<D.length:=by omega
  obtain⟨u,t9,id,t7,C⟩:=p.t9;obtain⟨F1,e1,e2,e3⟩:=UP (E:=E)  (call:=⟨0,λ_ _ _=>none⟩) p.f10 t9
  have hc:=ζd z;have G:lB H (get F1 7) l id:=by grind
  have I:lB H (get F1 9) D u:=by grind
  obtain⟨F2,H2,g1,g2,g3,g4,g5⟩:=x16 (E:=E)  (call:=⟨0,λ_ _ _=>none⟩) (by rw[e3 10 Zaa];exact p.f10) G I hc Zaa
  obtain⟨U,q1,q2,J⟩:=x17 (E:=E)  (call:=⟨0,λ_ _ _=>none⟩)    (by rw[g5 10 Zaa Zaa,e3 10 Zaa];exact p.f10) Zaa
  have keep:∀j,j<H.length->(∀off m,get F 7=.hsl id 2 off m->j≠id)->H2[j]? = H[j]? := λj L h=>g4 j L Zac
  have O:P3 (l++[D[i]]) D B (i+1) U H2:=by
   refine⟨q2,⟨u,?_,H.length+1,by grind,λoff m h=>⟨by have:=p.len;omega,λw m' W=>?_⟩⟩,by have:=p.len;omega⟩
   .rw[J 9 Zaa Zaa,g5 9 Zaa Zaa,e3 9 Zaa]
    exact t9.heap λoff n X=>keep u (t9.lt X) λw m' Q=>Ne.symm ((C w m' Q).2 off n X)
   rw[J 9 Zaa Zaa,g5 9 Zaa Zaa,e3 9 Zaa]at W
   have:=t9.lt W;omega
  obtain⟨F',H',r1,⟨S,r2,r3⟩,r4,r5,r6⟩:=ih (i+1) (l++[D[i]]) U H2 Zaa (by simp;omega) O
  refine⟨F',H',ng.step (Ex.seq (Ex.seq (Ex.di λc=>e1) (Ex.oh ?_ Ex.skip)) (Ex.seq (Ex.block (Ex.di λc=>g1)) (Ex.di λc=>q1))) r1,⟨S,?_,r3⟩,λs T=>?_,λj L=>?_,by omega⟩
  .show get F1 64=_
   grind
  .rw[List.append_assoc]at r2;rw[List.drop_eq_getElem_cons z];exact r2
  .rw[r4 s T,J s Zaa Zaa,g5 s Zaa Zaa,e3 s Zaa]
  have:=p.len;rw[r5 j L,keep j Zaa λoff m h=>by have:=(C off m h).1;omega]
end
structure P2(t:Trace)(out:List (List Bool))(l:List bf)(F:Frame)(H:bp):Prop where
 f2:get F 2=.hptr 0 0 0
 h0:H[0]?=some (.row 1 [cells t])
 ns:∃B o ids id,nF H (get F 5) o ids (kL out)/\(out≠[]->1<=o/\o<B)/\(∀id∈ids,1<=id/\id<B)/\1<=B/\B<=H.length/\lB H (get F 7) (l.map cells) id/\∀off m,get F 7=.hsl id 2 off m->B<=id
theorem S3(out:aZ (aZ X'))(p j:Nat)(row:aZ X'):kL (out.set p (row.set j true))=(kL out).set p ((row.map V.bool).set j (.bool true)):=by simp[kL]
theorem Jo{out:aZ (aZ X')}:kL out=[]↔out=[]:=by simp[kL]
theorem Tp{a:bf->a_ (Sl bf)}{out:aZ (aZ X')}{y:bf}{rest:aZ bf}{w:Fw (aZ (aZ X')×aZ bf) (aZ (aZ X')) Empty}(h:p_ a (out,y::rest)=some w):
 ∃(p j:Nat)(row:aZ X')(b:X'),y.proc=p/\y.index=j/\out[p]?=some row/\row[j]?=some b/\((b=true/\w=.n (out,rest))\/(b=false/\∃more,a y=some more/\rest.length+more.l.length<=2147483648/\w=.n (out.set p (row.set j true),rest++more.l))):=by
 simp only[p_]at h;split at h
 .have⟨row,h1,h⟩:=ζg.1 h;have⟨b,u,h⟩:=ζg.1 h;refine⟨y.proc.toNat,y.index.toNat,row,b,Zaa,Zaa,h1,u,?_⟩
  cases b with
  |true=>simp[bl]at h;grind|false=>
   have⟨more,z,h⟩:=ζg.1 h
   grind
 simp_all
theorem OV{E:Env}{N:Nat->Y'}{t:Z4}{f:bf->a_ (Sl bf)}(hd:E.keep (N 155)=true)(hD:II E N t f):∀(k:Nat)(out:aZ (aZ X'))(l:aZ bf)(D:aZ (aZ X'))(F:WP)(H:bp),
 kA (p_ f) k (out,l)=some (.x D)->P2 t out l F H->∃F' H',ng E N L2 F H (.exit 2) F' H'/\P2 t D [] F' H':=by
 intro k
 induction k with
 |zero=>intro out l D F H h;simp[kA]at h|succ k ih=>
  intro out l D F H h p;have⟨B,o,ids,id,n1,n2,Y,n4,n5,t7,t8⟩:=p.ns;have⟨F1,e1,e2,e3⟩:=x8 (E:=E) (N:=N) (call:=⟨0,λ_ _ _=>none⟩) t7
  rw[List.length_map]at e2
  cases l with
  |nil=>
   simp only[kA,p_]at h;cases h;refine⟨F1,H,ng.stop (Ex.ve (Ex.seq (Ex.di λc=>e1) (Ex.qJ ?_ Ex.exit)) Zab) Zab,?_⟩
   .show get F1 35=_;rw[e2];simp
   exact⟨by rw[e3 2 Zaa];exact p.f2,p.h0,B,o,ids,id,by rw[e3 5 Zaa];exact n1,n2,Y,n4,n5,by rw[e3 7 Zaa];exact t7,by rw[e3 7 Zaa];exact t8⟩
  |cons y rest=>
   simp only[kA]at h
   cases J:p_ f (out,y::rest)with
   |none=>rw[J]at h;cases h|some w=>
   rw[J]at h;have⟨q,j,row,b,hq,hj,u,hb,L⟩:=Tp J;have O:lB H (get F1 7) (cells y::rest.map cells) id:=by rw[e3 7 Zaa];exact t7
   have⟨F2,g1,g2,g3⟩:=x9 (E:=E) (N:=N) (call:=⟨0,λ_ _ _=>none⟩) O
   have aa:lB (H++[.row 2 [cells y]]) (get F2 7) (cells y::rest.map cells) id:=by rw[g3 7 Zaa Zaa];exact O.more _
   have⟨r,i1,i2,⟨G,m1,ab,i3,i4⟩,K⟩:=x10 (E:=E) (N:=N) (call:=⟨0,λ_ _ _=>none⟩) aa
   have Q:(H++[Ob.row 2 [cells y]])[H.length]?=some (.row 2 [cells y]):=Zab
   have M:get r 8=.hptr H.length 0 0:=by rw[K 8 Zaa Zaa];exact g2
   have f5:get r 5=get F 5:=by rw[K 5 Zaa Zaa,g3 5 Zaa Zaa,e3 5 Zaa]
   have P:get r 2=.hptr 0 0 0:=by rw[K 2 Zaa Zaa,g3 2 Zaa Zaa,e3 2 Zaa];exact p.f2
   have S:nF (H++[.row 2 [cells y]]) (get r 5) o ids (kL out):=by rw[f5];exact n1.more _
   have hr:(kL out)[q]?=some (row.map V.bool):=by simp[kL,u]
   have hu:(row.map V.bool)[j]?=some (.bool b):=by simp[hb]
   have T:B<=id:=by have:get F 7=.hsl id 2 G m1:=(by rw[<-i3,g3 7 Zaa Zaa,e3 7 Zaa]);exact t8 _ _ this
   have⟨R,j1,j2,z⟩:=XV (E:=E) (N:=N) (call:=⟨0,λ_ _ _=>none⟩) M Q S hq hj hr hu
   have ad:bz N F1 (.s 35)=.bool true:=by show get F1 35=_;rw[e2];simp
   rcases L with⟨rfl,rfl⟩|⟨rfl,more,v,aq,rfl⟩
   .simp only at h;have U:P2 t out rest R (H++[.row 2 [cells y]]):=by
     refine⟨by rw[z 2 Zaa];exact P,by rw[List.getElem?_append_left (ζe.1 p.h0).1];exact p.h0,B,o,ids,id,by rw[z 5 Zaa];exact S,n2,Y,n4,by simp;omega,by rw[z 7 Zaa];exact i2,λoff m _=>T⟩
    have⟨F',H',r1,r2⟩:=ih out rest D R _ h U;exact⟨F',H',ng.step (Ex.seq (Ex.seq (Ex.di λc=>e1) (Ex.oh ad Ex.skip)) (Ex.wq (Ex.seq (Ex.di λc=>g1) (Ex.seq (Ex.di λc=>i1) (Ex.ve (Ex.seq (Ex.qG rfl λc=>j1) (Ex.oh j2 Ex.exit)) Zab))))) r1,r2⟩
   simp only at h;have n6:nF (H++[.row 2 [cells y]]) (get R 5) o ids (kL out):=by rw[z 5 Zaa];exact S
   have⟨F5,C,k1,k2,k3,k4,k5⟩:=x12 (E:=E) (N:=N) (call:=⟨0,λ_ _ _=>none⟩) (by rw[z 8 Zaa];exact M) Q n6 hq hj hr hu
   have I:∀i,B<=i->i∉ids:=λi hi v=>by have:=(Y i v).2;omega
   have ah:C[H.length]?=some (.row 2 [cells y]):=by rw[k4 _ (I _ n5)];exact Q
   have W:C[0]?=some (.row 1 [cells t]):=by rw[k4 0 (λv=>by have:=(Y 0 v).1;omega),List.getElem?_append_left (ζe.1 p.h0).1];exact p.h0
   have⟨w9,X,ai,aj,m2,m3,_⟩:=x13 (a:=0) (d:=0) (F:=F5) hd hD v (by rw[k5 2 Zaa,z 2 Zaa];exact P) W ah
   have⟨Z,⟨nn,ak⟩,ae,o3⟩:=m3 (by rw[k5 8 Zaa,z 8 Zaa];exact M)
   have au:C.length=H.length+1:=by rw[k3];simp
   have i7:get Z 7=.hsl id 2 ab (rest.map cells).length:=by rw[o3 7 Zaa Zaa,k5 7 Zaa,z 7 Zaa];exact i4
   have ar:id<H.length:=by have:=O.lt (off:=G) (m:=m1) (by rw[<-i3,g3 7 Zaa Zaa]);exact this
   have t6:lB (C++X) (get Z 7) (rest.map cells) id:=by have:get Z 7=get r 7:=(by rw[o3 7 Zaa Zaa,k5 7 Zaa,z 7 Zaa]);rw[this];refine(i2.heap (H':=C) λoff n _=>k4 id (I id T)).more X
   have al:∃g,(∀c,cK E N c none Fu Z (C++X)=some (g,C++X))/\get g 10=.int .i64 ((0:Nat):Int)/\∀s,s<10->get g s=get Z s:=⟨set Z 10 (.int .i64 0),λc=>by simp[Fu,cK,bK,bz,bq,bu],Zab,λs hs=>by rw[bA,if_neg Zaa]⟩
   have⟨g,u1,u2,x⟩:=al;have am:P3 (rest.map cells) (more.l.map cells) B 0 g (C++X):=by refine⟨u2,⟨ai,by rw[x 9 Zaa,ae];exact aj,id,by rw[x 7 Zaa];exact t6,λoff m hh=>⟨T,λaf m' h'=>?_⟩⟩,by simp;omega⟩;rw[x 9 Zaa,ae]at h';have:=m2 af m' h';omega
   have⟨A,H8,v1,⟨an,v2,v3⟩,v4,v5,v6⟩:=Zt (E:=E) (N:=N) (more.l.map cells) B (by simp;omega) (more.l.map cells).length 0 (rest.map cells) g (C++X) Zaa (by simp;omega) am
   have ao:nF H8 (get A 5) o ids (kL (out.set q (row.set j true))):=by have h5:get A 5=get F5 5:=(by rw[v4 5 Zaa,x 5 Zaa,o3 5 Zaa Zaa]);rw[h5,S3];refine(k2.more X).heap (λap=>v5 o ?_) λi hi=>v5 i (Y i hi).2;have:out≠[]:=(by intro e;subst e;simp at u);exact(n2 this).2
   have U:P2 t (out.set q (row.set j true)) (rest++more.l) A H8:=by refine⟨by rw[v4 2 Zaa,x 2 Zaa,o3 2 Zaa Zaa,k5 2 Zaa,z 2 Zaa];exact P,?_,B,o,ids,an,ao,λap=>n2 (by intro e;subst e;simp at u),Y,n4,by simp at v6;omega,?_,v3⟩;rw[v5 0 Zaa,List.getElem?_append_left (ζe.1 W).1];exact W;rw[List.drop_zero]at v2;rw[map_append];exact v2
   have⟨F',H',w1,w2⟩:=ih _ _ D A H8 h U;exact⟨F',H',ng.step (Ex.seq (Ex.seq (Ex.di λc=>e1) (Ex.oh ad Ex.skip)) (Ex.block (Ex.seq (Ex.di λc=>g1) (Ex.seq (Ex.di λc=>i1) (Ex.seq (Ex.seq (Ex.qG rfl λc=>j1) (Ex.qJ j2 Ex.skip)) (Ex.seq (Ex.qG rfl λc=>k1)
    (Ex.seq (Ex.ops ⟨nn,ak⟩) (Ex.seq (Ex.di u1) (Ex.wq (Ex.loop v1)))))))))) w1,w2⟩
theorem Uf{H:bp}{Z:Nat->Prop}{id:Nat}{r:aZ X'}(D:Z id)(h:H[id]?=some (.row 1 (jQ (r.map V.bool)))):FR H Z (enc (Sl.row r)) (.hsl id 1 0 r.length):=by
 have e:bt H id=some (1,jQ (r.map V.bool)):=by simp[bt,h,Ob.rows]
 have C:enc (Sl.row r)=.fsl 1 (rows r):=rfl;have G:(rows r).length=r.length:=by simp[rows]
 have f:jQ (r.map V.bool)=rows r:=by simp[jQ,rows,Function.comp_def]
 rw[f]at e;rw[C,<-G];refine .fsl 1 (rows r) id 0 (rows r) D e Zaa (λi a b d w=>?_) (λi j a b u v d w z B=>?_);grind;rw[zero_add,d]at w;cases w;rw[z]at B;cases B;refine .same u ?_;obtain⟨c,I,rfl⟩:∃c∈r,a=[V.bool c]:=by have:=mem_of_getElem? d;simp only[rows,mem_map]at this;obtain⟨c,f,rfl⟩:=this;simp_all
 have:=mem_of_getElem? z;simp at this;subst this;rfl
theorem TM{H:bp}{w:V}{o:Nat}{ids:S'}{out:aZ (aZ X')}(n:nF H w o ids (kL out)):∃Z,FR H Z (enc (nested out)) w/\(∀id,Z id->(bt H id).isSome=true)/\Deep H Z:=by
 have f:=n.v;by_cases O:out=[];subst O;rw[if_pos (show kL []=[]from rfl)]at f;subst f;exact⟨λ_=>False,.same _ rfl,λ_ h=>h.elim,⟨λ_ _ _ h=>h.elim⟩⟩;have G:kL out≠[]:=λh=>O (Jo.1 h);rw[if_neg G,xT]at f;subst f;have Q:=n.ob G;have I:=n.len;rw[xT]at I;have B:∀(i id:Nat)(r:aZ X'),ids[i]?=some id->out[i]?=some r->H[id]?=some (.row 1 (jQ (r.map V.bool))):=λi id r e D=>n.r i id _ e (by simp[kL,D]);have C:∀(i:Nat)(c:T2),(refs ids (kL out))[i]?=some c->∃id r,ids[i]?=some id/\out[i]?=some r/\c=[.hsl id 1 0 r.length]:=λi c h=>by have hi:=(ζe.1 h).1;rw[uQ n.len,xT]at hi;have e:=ζd (show i<ids.length from Zaa);have D:=ζd hi;have S:=Ds (rows:=kL out) (r:=out[i].map V.bool) e (by simp[kL,D]);grind
 have J:bt H o=some (1,refs ids (kL out)):=by simp[bt,Q,Ob.rows]
 have L:∀id∈ids,∃(r:aZ X'),H[id]?=some (.row 1 (jQ (r.map V.bool))):=λid z=>by have⟨i,hi⟩:=List.getElem?_of_mem z;have T:=(ζe.1 hi).1;exact⟨_,B i id _ hi (ζd (show i<out.length from Zaa))⟩
 refine⟨λid=>id=o\/id∈ids,?_,λid h=>?_,⟨λid es ys h d c hc u hu=>?_⟩⟩;have Y:enc (nested out)=.fsl 1 (rows (out.map Sl.row)):=by rw[nested,if_neg O];rfl
 have T:(rows (out.map Sl.row)).length=out.length:=by simp[rows]
 rw[Y,<-T];refine .fsl 1 _ o 0 (refs ids (kL out)) (.inl rfl) J (by rw[T,uQ n.len,xT];omega) (λi a b e D=>?_) (λi j a b u v e D S X=>?_);rw[zero_add]at D;obtain⟨id,r,_,d,rfl⟩:=C i b D;simp[rows,d]at e;subst e;rfl;rw[zero_add]at D;obtain⟨id,r,z,d,rfl⟩:=C i b D;have g:a=[enc (Sl.row r)]:=by simp[rows,d]at e;exact e.symm
 subst g;cases j with|zero=>simp at S X;subst S X;exact Uf (.inr (mem_of_getElem? z)) (B i id r z d)|succ j=>simp_all
 rcases h with rfl|h;simp_all;have⟨r,d⟩:=L id h;simp[bt,d,Ob.rows];rcases h with rfl|h;rw[J]at d;cases d;have⟨i,hi⟩:=List.getElem?_of_mem hc;obtain⟨id,r,z,U,rfl⟩:=C i c hi;simp at hu;subst hu;exact⟨_,Uf (.inr (mem_of_getElem? z)) (B i id r z U)⟩;have⟨r,W⟩:=L id h;have:bt H id=some (1,jQ (r.map V.bool)):=by simp[bt,W,Ob.rows]
 rw[this]at d;cases d;simp only[jQ,mem_map]at hc;obtain⟨_,⟨c',_,rfl⟩,rfl⟩:=hc;simp at hu;subst hu;exact⟨_,.same _ rfl⟩
theorem V5{t:Z4}{x:bf}{out:aZ (aZ X')}{s:Sl bf}{b:bf->a_ (Sl bf)}(hd:xP.keep (yD 155)=true)(W:II xP yD t b)(U:B5 t=true)(f:b x=some s)(g:bW (p_ b) (iq t,s.l)=some (.x out)):
 Br xP (yD 114) [enc t,enc x] (enc (nested out)):=by
 have⟨fi,g1,g2,g3,g4⟩:=shape;have⟨k,j⟩:=pP.1 g;have l:∃F1,(∀c,cK xP yD c none r1 [enc t,enc x] []=some (F1,[.row 1 [cells t],.row 2 [cells x]]))/\get F1 2=.hptr 0 0 0/\get F1 3=.hptr 1 0 0:=by refine⟨_,λc=>kC (v:=.hptr 0 0 0) (H1:=[.row 1 [cells t]]) rfl ?_<|kC (v:=.hptr 1 0 0) (H1:=[.row 1 [cells t],.row 2 [cells x]]) rfl ?_<|vp (v:=.bO) rfl ?_ eC,?_,?_⟩;show(iU .box [enc t]).map _=_;simp only[iU,lY,rU,if_true,Option.map_some,gI];rfl;simp only[bK,map_cons,map_nil,bz,bu,bA,reduceEqDiff,if_false];show(iU .box [enc x]).map _=_;simp only[iU,lY,rU,if_true,Option.map_some,gI];rfl;simp[bK,bz,bq];simp[bu];simp[bu]
 have⟨F1,p,q,r⟩:=l;have y:∃I,(∀c,cK xP yD c none r2 F1 [.row 1 [cells t],.row 2 [cells x]]=some (set F1 5 .bO,[.row 1 [cells t],.row 2 [cells x]]))/\(∀c,cK xP yD c none r3 (set F1 5 .bO) [.row 1 [cells t],.row 2 [cells x]]=some (I,[.row 1 [cells t],.row 2 [cells x]]))/\P1 t x 0 I [.row 1 [cells t],.row 2 [cells x]]:=by refine⟨set (set F1 5 .bO) 6 (.int .i64 0),λc=>by simp[r2,cK,bK,bz,bq,bu],λc=>by simp[r3,cK,bK,bz,bq,bu],by simp[q],by simp[r],Zab,rfl,rfl,0,[],?_,λh=>absurd rfl h,λid h=>by simp at h⟩;have:get (set (set F1 5 .bO) 6 (.int .i64 0)) 5=.bO:=Zab;rw[this,List.take_zero];exact nF.nil _ 0
 have⟨I,A,H,K⟩:=y;have⟨M,Q,e1,e2⟩:=NM (E:=xP) (N:=yD) U t.procs.l.length 0 I _ Zaa K
 have⟨o,ids,J,P,R⟩:=e2.ns;have S:(iq t).length=t.procs.l.length:=by simp[iq]
 rw[List.take_of_length_le Zaa]at J
 have⟨w,X,id,m1,m2,_,m4⟩:=x13 (a:=0) (d:=0) (F:=M) (E:=xP) (N:=yD) hd W f e2.f2 e2.h0 (c:=1) e2.h1;have⟨T,o1,o2,o3⟩:=m4 e2.f3;have O:P2 t (iq t) s.l T (Q++X):=by refine⟨by rw[o3 2 Zaa Zaa];exact e2.f2,by rw[List.getElem?_append_left (ζe.1 e2.h0).1];exact e2.h0,Q.length,o,ids,id,by rw[o3 5 Zaa Zaa];exact J.more X,λu=>?_,λi hi=>⟨by have:=R i hi;omega,J.lt.2 i hi⟩,?_,Zab,by rw[o2];exact m1,λoff m h=>?_⟩;have z:kL (iq t)≠[]:=λh=>u (Jo.1 h);have:t.procs.l.length≠0:=(by intro h;apply u;exact List.eq_nil_of_length_eq_zero Zaa);have:=P this;exact⟨Zaa,J.lt.1 z⟩;have:=(ζe.1 e2.h0).1;omega;rw[o2]at h;have:=m2 off m h;omega
 have⟨C,L,p1,p2⟩:=OV hd W k _ _ out T _ j O;have⟨B,o',Y,aa,V,_⟩:=p2.ns;have l1:∃D,(∀c,cK xP yD c none r18 C L=some (D,L))/\get D 4=get C 5:=by refine⟨_,λc=>vp (v:=get C 5) rfl ?_<|vp (v:=get C 5) rfl ?_ eC,?_⟩;simp[bK,bz,bq];simp[bK,bz,bq,bu];simp[bu]
 have⟨D,y1,y2⟩:=l1;have e:Ex xP yD code [enc t,enc x] [] .ret D L:=Ex.seq (Ex.di p) (Ex.seq (Ex.di A) (Ex.seq (Ex.seq (Ex.di H) (Ex.wq (Ex.loop e1))) (Ex.seq (Ex.ops o1) (Ex.seq (Ex.wq (Ex.loop p1)) (Ex.seq (Ex.di y1) Ex.ret)))))
 have⟨n,G⟩:=e.run (nm:=some) xw g1 g2 (show[enc t,enc x].length<=fi.ntmps from g3) (vs:=[get D 4]) (by rw[g4];rfl)
 have⟨Z,z1,z2,z3⟩:=TM V;exact⟨n,get C 5,L,Z,by rw[G,y2];rfl,z1,z2,z3⟩
theorem Yj(l:aZ bf):∀c∈l.map (cells (α:=bf)),c.length=2/\c.all V.one=true/\c.all V.scalar=true:=λc a=>by obtain⟨e,_,rfl⟩:=mem_map.1 a;exact⟨rfl,rfl,rfl⟩
theorem ZT(t:Z4):II xP yD t (en t):=by
 intro y s H B;have d:=AZ t y;have I:=d (cI s) (by rw[B];rfl);have b:V.cH [enc t,enc y]=true:=by simp only[V.cH,j8,Bool.and_self]
 have w:s.k=.row\/s.k=.nil/\rows s.l=[]:=by have D:∀o z,(∃l,o=.row l)\/o=.nil->en.J1 o t y=some z->(∃l,z=.row l)\/z=.nil:=λo z J u=>(by unfold en.J1 at u;have⟨e,_,u⟩:=ζg.1 u;cases G:e.kind==3 with|true=>rw[G]at u;have⟨f,_,u⟩:=ζg.1 u;have⟨q,C,u⟩:=ζg.1 u;cases u;unfold gy at C;split at C;cases C;exact .inl ⟨_,rfl⟩;cases C|false=>rw[G]at u;cases u;exact J);have:(∃l,s=.row l)\/s=.nil:=(by unfold en at B;cases a:decide (y.index>1)with|true=>rw[a]at B;exact D _ s (.inl ⟨_,rfl⟩) B|false=>rw[a]at B;exact D _ s (.inr rfl) B);rcases this with⟨l,rfl⟩|rfl;exact .inl rfl;exact .inr ⟨rfl,rfl⟩
 have⟨n,z,H',r1,r2⟩:=YC IA CJ (T:=Tx) (f:=yD 155) (rf:=sj (Tx 155)) Zae b (Nat.le_of_ble_eq_true Zae) (k:=s.k) (es:=2) (xs:=rows s.l) (λc a=>(Yj s.l c a).2.2) w I;refine J8 (l:=s.l.map cells) (y:=z) (H1:=H') Zae b (Yj s.l) ⟨n,λk g=>(pJ _ g).go _ _ _ _ r1⟩ ?_ H;rcases r2 with⟨L,rfl⟩|⟨id,rfl,O⟩;left;cases s<;>simp[Sl.k]at L;exact⟨rfl,rfl⟩;right;exact⟨id,by simp[rows],O⟩
end pastX
theorem Sc(t:Z4)(x:bf)(r:Sl (Sl X'))(h:oF t x=some r):Sy.yI 114 [enc t,enc x]=some (enc r):=by
 unfold oF at h;split at h;rename_i u;have⟨s,z,h⟩:=ζg.1 h;have⟨w,B,h⟩:=ζg.1 h;cases w with|n a=>exact elim a|r e=>exact elim e|x out=>cases h;exact BF (pastX.V5 Zae (pastX.ZT t) u z B)
 cases h
noncomputable section
def xH:a_ X':=some true
instance WC:Fc Sy cL xH:=⟨10,[],λr:X'=>[.bool r],true,hG.yI Zae Zae Rb⟩
namespace gC
def br(s0:Sl WF)(D:Int)(B:Int)(p1:WF->a_ X'):a_ (Fw Int Unit Int):=bl (decide (B<D)) ((idx s0 B).bind λu=>(p1 u).bind λw=>bl w (some (.r B)) (some (.n (wrap .i64 (B+1))))) (some (.x ()))
def W1(s0:Sl WF)(B D:Int)(p1:WF->a_ X'):QQ:=(bW (λq:Int=>br s0 B q p1) D).bind (Fw.elim (λe=>some (-1)) (λe=>some e))
end gC
def gC(s0:Sl WF)(p1:WF->a_ X'):QQ:=gC.W1 s0 (len s0) 0 p1
open gC in
abbrev xV(g1:FuncId)(e1:aZ V)(p1:Event->a_ Bool)(a:kQ Sy cL g1 [] e1 (λz:Event=>[enc z]) (λr:Bool=>[.bool r]) p1 true)(s0:Sl Event):Fc Sy cL (gC s0 p1):=Fc.M 118 [enc s0,.clo g1 [] e1] (b8 9 s0 (eA 5 (λw=>(bL [Cv 0 s0,(1,.v (.clo g1 [] e1)),Iv 7 (len s0),Iv 8 w] [])) (λu=>(0,(bL [] []))) (λu=>(bL [Iv 4 u] [])) (λw=>bB 7 9 (bQ 16 λB _=>yU 1 a.f B λC _=>bB 2 16 bh bh) bh) (λu=>bh) (λu=>bh)))
def gF(s0:Sl WF)(p1:WF->a_ X'):a_ X':=(gC s0 p1).bind λu=>some (decide (u>=0))
abbrev mb(g1:FuncId)(e1:aZ V)(p1:Event->a_ Bool)(a:kQ Sy cL g1 [] e1 (λz:Event=>[enc z]) (λr:Bool=>[.bool r]) p1 true)(s0:Sl Event):Fc Sy cL (gF s0 p1):=Fc.M 79 [enc s0,.clo g1 [] e1] (bG (F:=xV g1 e1 p1 a s0) 9 λu _=>bh)
def qE(B:WF):a_ X':=some (decide ((len B.assign)>12))
instance Rm(B:WF):Fc Sy cL (qE B):=Fc.M 80 [enc B] (cw 2 1 B (b8 7 B.assign bh))
def qg(B:Int):a_ X':=(bl (decide (B>=65)) (some (decide (B<=90))) (some false):a_ X').bind λu=>(bl u (some true) ((bl (decide (B>=97)) (some (decide (B<=122))) (some false):a_ X').bind λw=>some w):a_ X').bind λz=>some z
instance Uo(B:Int):Fc Sy cL (qg B):=Fc.M 194 [.int .u8 B] (b_ 10 3 [5] 8 (bB 10 5 (bD 3) (bD 3)) λu=>b_ 1 7 [0,9] 16 (bB 1 9 (bD 7) (b_ 3 3 [0,12] 15 (bB 3 12 (bD 3) (bD 3)) λw=>bD 1)) λz=>bh)
def uE(B:Int):a_ X':=(bl (decide (B>=48)) (some (decide (B<=57))) (some false):a_ X').bind λu=>some u
instance Wg(B:Int):Fc Sy cL (uE B):=Fc.M 195 [.int .u8 B] (b_ 10 3 [0,5] 8 (bB 10 5 (bD 3) (bD 3)) λu=>bh)
namespace iF
def br(s0:U')(i3:Int):a_ (Fw Int Unit Unit):=bl (decide (i3<((ByteArray.size s0:Nat):Int))) ((me s0 i3).bind λz=>(qg z).bind λB=>(bl B (some false) ((me s0 i3).bind λC=>(uE C).bind λD=>some (!D)):a_ X').bind λG=>(bl G ((me s0 i3).bind λu=>some (!(u==95))) (some false):a_ X').bind λw=>bl w (some (.r ())) (some (.n (wrap .i64 (i3+1))))) (some (.x ()))
def W1(s0:U')(i3:Int):a_ X':=(bW (λq:Int=>br s0 q) i3).bind (Fw.elim (λe=>some true) (λe=>some false))
end iF
def iF(s0:U'):a_ X':=(bl (decide (((ByteArray.size s0:Nat):Int)<1)) (some true) (some (decide (((ByteArray.size s0:Nat):Int)>16))):a_ X').bind λu=>(bl u (some true) ((me s0 0).bind λw=>(qg w).bind λz=>some (!z)):a_ X').bind λB=>bl B (some false) (iF.W1 s0 1)
open iF in
instance Xd(s0:U'):Fc Sy cL (iF s0):=Fc.M 152 [.str s0] (b_ 12 4 [7] 11 (bB 12 7 (bD 4) (bD 4)) λC=>b_ 1 5 [12] 17 (bB 1 12 (bD 5) (BE 1 .i64 λD _=>bG 0 λG _=>bD 2)) λI=>bB 2 17 bh (eA 11 (λw=>(bL [(0,.v (.str s0)),Iv 3 w] [])) (λu=>(0,(bL [] []))) (λu=>(bL [Bv 2 false] [])) (λw=>bB 10 21 (BE 9 .i64 λJ _=>bG 0 λL _=>b_ 2 6 [29] 35 (dy 2 29 (bD 6) (BE 2 .i64 λO _=>bG 0 λQ _=>bD 2)) λS=>b_ 1 5 [36] 41 (bB 1 36 (BE 2 .i64 λz _=>bD 2) (bD 5)) λB=>bB 2 41 bh bh) bh) (λu=>bh) (λu=>bh)))
def qQ(B:Int):a_ X':=(bl (decide (B>=(-1073741824))) (some (decide (B<=1073741824))) (some false):a_ X').bind λu=>some u
instance WL(B:Int):Fc Sy cL (qQ B):=Fc.M 153 [.int .i64 B] (b_ 10 3 [0,5] 8 (bB 10 5 (bD 3) (bD 3)) λu=>bh)
namespace eN
def fq(G:Int)(B:bX)(D:Int):a_ (Fw Int Unit Unit):=bl (decide (D<G)) ((idx B.vars D).bind λu=>(idx B.vars G).bind λw=>bl (toList u.name==toList w.name) (some (.r ())) (some (.n (wrap .i64 (D+1))))) (some (.x ()))
def W3(D G:Int)(B:bX):a_ (Fw Int Unit Int):=(bW (λq:Int=>fq D B q) G).bind (Fw.elim (λe=>(idx B.vars D).bind λu=>(qQ u.init_).bind λw=>bl w (some (.n (wrap .i64 (D+1)))) (some (.r 2))) (λe=>some (.r 13)))
def bU(B:bX)(D:Int):a_ (Fw Int Unit Int):=bl (decide (D<(len B.vars))) ((idx B.vars D).bind λu=>(iF u.name).bind λw=>bl w (W3 D 0 B) (some (.r 13))) (some (.x ()))
def W2(D:Int)(B:bX):QQ:=(bW (λq:Int=>bU B q) D).bind (Fw.elim (λe=>bl (decide ((len B.events)>64)) (some 5) (some 0)) (λe=>some e))
def br(p1:Int)(B:Z4)(D:bX)(G:Int):a_ (Fw Int Unit Unit):=bl (decide (G<p1)) ((idx B.procs G).bind λu=>bl (toList u.name==toList D.name) (some (.r ())) (some (.n (wrap .i64 (G+1))))) (some (.x ()))
def W1(p1 G:Int)(D:Z4)(B:bX):QQ:=(bW (λq:Int=>br p1 D B q) G).bind (Fw.elim (λe=>bl (decide ((len B.vars)>8)) (some 5) (eN.W2 0 B)) (λe=>some 13))
end eN
def eN(B:Z4)(p1:Int):QQ:=(idx B.procs p1).bind λu=>(iF u.name).bind λw=>bl w (eN.W1 p1 0 B u) (some 13)
open eN in
instance Xe(J:Z4)(p1:Int):Fc Sy cL (eN J p1):=Fc.M 110 [enc J,.int .i64 p1] (cw 2 2 J (bQ 8 λu _=>nN 2 5 0 u (bG 7 λI _=>dy 3 17 (eA 11 (λD=>(bL [Iv 1 p1,Pv 2,Pv 5,Iv 6 D] [Xb 2 J,Xb 5 u])) (λB=>(0,(bL [Pv 5] [Xb 5 u]))) (λB=>(bL [Iv 4 13] [])) (λD=>bB 9 20 (bQ 10 λL _=>bB 7 31 bh bh) bh) (λB=>b8 7 u.vars (bB 3 35 bh (eA 11 (λw=>(bL [Pv 5,Iv 7 w] [Xb 5 u])) (λz=>(2,(bL [Pv 5] [Xb 5 u]))) (λz=>(bL [Iv 4 z] [])) (λw=>b8 7 u.vars (bB 3 40 (bQ 11 λO _=>bG 2 λQ _=>dy 3 50 (eA 11 (λG=>(bL [Pv 5,Iv 7 w,Iv 8 G] [Xb 5 u])) (λC=>(4,(bL [Pv 5,Iv 7 w] [Xb 5 u]))) (λC=>(bL [Iv 4 13] [])) (λG=>bB 9 53 (bQ 10 λS _=>bQ 5 λT _=>bB 5 68 bh bh) bh) (λC=>bQ 7 λU _=>bG 2 λW _=>dy 3 76 bh bh) (λC=>bh)) bh) bh)) (λz=>b8 7 u.events (bB 3 80 bh bh)) (λz=>bh)))) (λB=>bh)) bh)))
namespace eH
def fq(p1 k8:Int)(J:Z4)(D:WF)(G:Assign)(B:Int):a_ (Fw Int Unit Unit):=bl (decide (B<k8)) ((idx D.assign B).bind λu=>bl (u.var==G.var) (some (.r ())) (some (.n (wrap .i64 (B+1))))) (some (.x ()))
def W3(p1 k8 B:Int)(D:Z4)(G:WF)(J:Assign):a_ (Fw Int Unit Int):=(bW (λq:Int=>fq p1 k8 D G J q) B).bind (Fw.elim (λe=>some (.n (wrap .i64 (k8+1)))) (λe=>some (.r 8)))
def bU(p1:Int)(D:Z4)(B:WF)(k8:Int):a_ (Fw Int Unit Int):=bl (decide (k8<(len B.assign))) ((idx B.assign k8).bind λu=>(bl (decide (u.var<0)) (some true) ((idx D.procs p1).bind λw=>some (decide (u.var>=(len w.vars)))):a_ X').bind λz=>(bl z (some true) ((qQ u.value).bind λC=>some (!C)):a_ X').bind λG=>bl G (some (.r 2)) (W3 p1 k8 0 D B u)) (some (.x ()))
def W2(p1 k8:Int)(B:Z4)(D:WF):QQ:=(bW (λq:Int=>bU p1 B D q) k8).bind (Fw.elim (λe=>some 0) (λe=>some e))
def J1(p1 i2:Int)(D:Z4)(B:WF):QQ:=(bl (decide (B.time<0)) (some true) (some (decide (B.time>1099511627776))):a_ X').bind λu=>(bl u (some true) ((bl (decide (i2>0)) ((idx D.procs p1).bind λw=>(idx w.events (wrap .i64 (i2-1))).bind λz=>some (decide (B.time<z.time))) (some false):a_ X').bind λC=>some C):a_ X').bind λG=>bl G (some 11) (bl (decide ((len B.assign)>8)) (some 5) (eH.W2 p1 0 D B))
theorem qN(p1 i2:Int)(D:Z4)(B:WF):Le ((J1 p1 i2 D B).bind (λr=>some [.int .i64 r])) (cg Sy cL (qR (tr Tx 111)) (uF (tb Tx 111) [1,1,1,0] [] (bL [Iv 1 p1,Iv 2 i2,Pv 3,Pv 7] [Xb 3 D,Xb 7 B]))):=b_ 7 4 [71] 75 (bB 7 71 (bD 4) (bD 4)) λL=>b_ 1 19 [2,76] 95 (bB 1 76 (bD 19) (b_ 3 15 [2,79] 94 (bB 3 79 (bQ 5 λO _=>bQ 4 λQ _=>bD 4) (bD 15)) λS=>bD 1)) λT=>bB 2 95 bh (b8 8 B.assign (bB 3 99 bh (eA 11 (λu=>(bL [Iv 1 p1,Pv 3,Pv 7,Iv 8 u] [Xb 3 D,Xb 7 B])) (λw=>(0,(bL [] []))) (λw=>(bL [Iv 6 w] [])) (λu=>b8 7 B.assign (bB 3 104 (bQ 10 λz _=>b_ 12 11 [115] 126 (bB 12 115 (bD 11) (bQ 5 λI _=>b8 2 I.vars (bD 2))) λU=>yo 1 5 [130] (λC=>(bL [Iv 1 p1,Pv 3,Pv 7,Iv 8 u,Bv 104 true,Pv 9,Bv 132 C] [Xb 3 D,Xb 7 B,Xb 9 z])) (bB 1 127 (bD 5) (cU 2 λW _=>bD 2)) λC=>bB 2 132 bh (eA 10 (λJ=>(bL [Iv 1 p1,Pv 3,Pv 7,Iv 8 u,Pv 9,Iv 10 J] [Xb 3 D,Xb 7 B,Xb 9 z])) (λG=>(2,(bL [Iv 1 p1,Pv 3,Pv 7,Iv 8 u] [Xb 3 D,Xb 7 B]))) (λG=>(bL [Iv 6 8] [])) (λJ=>bB 9 135 (bQ 10 λX _=>bB 7 146 bh bh) bh) (λG=>bh) (λG=>bh))) bh)) (λw=>bh) (λw=>bh))))
end eH
def eH(B:Z4)(p1 i2:Int):QQ:=(idx B.procs p1).bind λw=>(idx w.events i2).bind λu=>bl (u.kind==1) ((bl (u.peer==0) (some (!(u.message==0))) (some true):a_ X').bind λz=>bl z (some 3) (eH.J1 p1 i2 B u)) ((bl (u.kind==2) (some false) (some (!(u.kind==3))):a_ X').bind λC=>(bl C (some true) (some (decide (u.peer<0))):a_ X').bind λD=>(bl D (some true) (some (decide (u.peer>=(len B.procs)))):a_ X').bind λG=>(bl G (some true) (some (u.peer==p1)):a_ X').bind λI=>(bl I (some true) (some (decide (u.message<0))):a_ X').bind λJ=>(bl J (some true) (some (decide (u.message>199))):a_ X').bind λL=>bl L (some 3) (eH.J1 p1 i2 B u))
open eH in
instance Xo(B:Z4)(p1 i2:Int):Fc Sy cL (eH B p1 i2):=Fc.M 111 [enc B,.int .i64 p1,.int .i64 i2] (cw 2 3 B (bQ 8 λw _=>bQ 3 λu _=>nN 2 7 0 u (bB 10 22 (b_ 7 4 [26] 30 (dy 7 26 (bD 4) (bD 4)) λz=>bB 2 30 bh (za 4 (qN p1 i2 B u))) (b_ 7 4 [34] 38 (dy 7 34 (bD 4) (bD 4)) λC=>b_ 1 4 [39] 43 (bB 1 39 (bD 4) (bD 4)) λD=>b_ 1 7 [44] 51 (bB 1 44 (bD 7) (b8 4 B.procs (bD 2))) λG=>b_ 1 5 [52] 57 (bB 1 52 (bD 5) (bD 5)) λI=>b_ 1 4 [58] 62 (bB 1 58 (bD 4) (bD 4)) λJ=>b_ 1 4 [63] 67 (bB 1 63 (bD 4) (bD 4)) λL=>bB 2 67 bh (za 4 (qN p1 i2 B u))))))
namespace jd
def br(G:Z4)(J:bf)(D:WF)(B:X')(U:Int):a_ (Fw (X'×Int) Bool Empty):=(idx G.procs D.peer).bind λw=>bl (decide (U<(len w.events))) ((idx G.procs D.peer).bind λz=>(idx z.events U).bind λu=>(bl B (some true) ((bl (u.kind==2) (some (u.message==D.message)) (some false):a_ X').bind λC=>(bl C (some (u.peer==J.proc)) (some false):a_ X').bind λI=>some I):a_ X').bind λL=>some (.n (L,wrap .i64 (U+1)))) (some (.x B))
def W1(B:X')(U:Int)(D:Z4)(G:bf)(J:WF):QQ:=(bW (λq:X'×Int=>br D G J q.1 q.2) (B,U)).bind (Fw.elim (λe=>bl e (some 0) (some 7)) (λe=>elim e))
end jd
def jd(B:Z4)(D:bf):QQ:=(vS B D).bind λu=>bl (u.kind==1) (some 0) ((eu B u.kind u.message).bind λw=>bl (MG w D) (bl (u.kind==3) (jd.W1 false 0 B D u) (some 0)) (some 8))
open jd in
instance UB(B:Z4)(D:bf):Fc Sy cL (jd B D):=Fc.M 112 [enc B,enc D] (cw 2 2 B (bG 8 λw _=>nN 1 5 0 w (bB 10 14 bh (cU 11 λI _=>dy 4 22 (bB 11 25 (fM 14 (λu=>(bL [Pv 2,Pv 3,Pv 5,Bv 6 u.1,Iv 7 u.2] [Xb 2 B,Xb 3 D,Xb 5 w])) (λz=>(0,(bL [Bv 6 z] []))) (λu=>bQ 9 λC _=>b8 2 C.events (bB 3 35 (bQ 11 λJ _=>bQ 3 λG _=>nN 2 8 0 G (b_ 5 18 [8,49] 67 (bB 5 49 (bD 18) (b_ 4 6 [53] 59 (bB 4 53 (bD 6) (bD 6)) λL=>b_ 1 6 [8,60] 66 (bB 1 60 (bD 6) (bD 6)) λO=>bD 1)) λQ=>bh)) bh)) (λz=>dy 8 69 bh bh)) bh) bh))))
namespace eW
def J4(B:Zg)(p5:Int)(D:Z4):a_ (Fw ((Zg)×X') ((Zg)×X') Empty):=(Sl.jg B p5).bind λu=>(Sl.get B u).bind λw=>(Sl.jg B p5).bind λz=>(Sl.put B z (wrap .i64 (w+1):Int)).bind λC=>some (.n (C,true))
def fq(p5:Int)(G:Z4)(B:Zg)(D:X'):a_ (Fw ((Zg)×X') ((Zg)×X') Empty):=(Sl.jg B p5).bind λI=>(Sl.get B I).bind λJ=>(idx G.procs p5).bind λL=>bl (decide (J<(len L.events))) ((idx G.procs p5).bind λO=>(Sl.jg B p5).bind λQ=>(Sl.get B Q).bind λS=>(idx O.events S).bind λu=>bl (u.kind==3) ((eu G 2 u.message).bind λw=>(Sl.jg B w.proc).bind λz=>(Sl.get B z).bind λC=>bl (decide (C<w.index)) (some (.x (B,D))) (J4 B p5 G)) (J4 B p5 G)) (some (.x (B,D)))
def W3(D:Zg)(B:X')(p5:Int)(G:Z4):a_ (Fw ((Zg)×X'×Int) ((Zg)×X') Empty):=(bW (λq:(Zg)×X'=>fq p5 G q.1 q.2) (D,B)).bind (Fw.elim (λe=>some (.n (e.1,e.2,wrap .i64 (p5+1)))) (λe=>elim e))
def bU(G:Z4)(D:Zg)(B:X')(p5:Int):a_ (Fw ((Zg)×X'×Int) ((Zg)×X') Empty):=bl (decide (p5<(len G.procs))) (W3 D B p5 G) (some (.x (D,B)))
def W2(D:Zg)(B:X')(p5:Int)(G:Z4):a_ (Fw Zg Zg Empty):=(bW (λq:(Zg)×X'×Int=>bU G q.1 q.2.1 q.2.2) (D,B,p5)).bind (Fw.elim (λe=>bl e.2 (some (.n e.1)) (some (.x e.1))) (λe=>elim e))
def zN(B:Zg)(D:Z4)(G:Int):a_ (Fw Int Unit Unit):=bl (decide (G<(len D.procs))) ((Sl.jg B G).bind λu=>(Sl.get B u).bind λw=>(idx D.procs G).bind λz=>bl (decide (w<(len z.events))) (some (.r ())) (some (.n (wrap .i64 (G+1))))) (some (.x ()))
def W5(B:Zg)(G:Int)(D:Z4):a_ X':=(bW (λq:Int=>zN B D q) G).bind (Fw.elim (λe=>some true) (λe=>some false))
def br(D:Z4)(B:Zg):a_ (Fw Zg Zg Empty):=W2 B false 0 D
def W1(B:Zg)(D:Z4):a_ X':=(bW (λq:Zg=>br D q) B).bind (Fw.elim (λe=>eW.W5 e 0 D) (λe=>elim e))
end eW
def eW(B:Z4):a_ X':=(qX (len B.procs) (0:Int)).bind λu=>eW.W1 u B
open eW in
instance R1(B:Z4):Fc Sy cL (eW B):=Fc.M 113 [enc B] (cw 2 1 B (b8 7 B.procs (PV 0 12 λb _=>fM 7 (λO=>(bL [Pv 1,Ov 3] [Xb 1 B,Lb 2003 O])) (λD=>(0,(bL [Pv 1,Ov 3] [Xb 1 B,Lb 2003 D]))) (λO=>fM 17 (λw=>(bL [Pv 1,Ov 3,Bv 4 w.2.1,Iv 5 w.2.2] [Xb 1 B,Lb 2003 w.1])) (λG=>(2,(bL [Pv 1,Ov 3,Bv 4 G.2] [Xb 1 B,Lb 2003 G.1]))) (λw=>b8 8 B.procs (bB 3 17 (fM 8 (λI=>(bL [Pv 1,Ov 3,Bv 4 I.2,Iv 5 w.2.2] [Xb 1 B,Lb 2003 I.1])) (λJ=>(4,(bL [Pv 1,Ov 3,Bv 4 J.2,Iv 5 w.2.2] [Xb 1 B,Lb 2003 J.1]))) (λI=>iQ .i64 7 2003 λc _=>ow 0 2003 0 1 false (λQ=>.int .i64 Q) λQ _=>bQ 3 λZ _=>b8 2 Z.events (bB 3 31 (bQ 9 λd _=>iQ .i64 4 2003 λe _=>ow 0 2003 0 1 false (λS=>.int .i64 S) λS _=>bQ 0 λa _=>nN 2 6 0 a (bB 10 46 (bG 6 λf _=>iQ .i64 9 2003 λg _=>ow 0 2003 0 1 false (λz=>.int .i64 z) λz _=>bB 5 58 bh (uf 5 (iQ .i64 4 2003 λT _=>ow 0 2003 0 1 false (λu=>.int .i64 u) λu _=>iQ .i64 1 2003 λU _=>Dw 0 2003 (.int .i64 (wrap .i64 (u+1))) λW _=>bh))) (uf 5 (iQ .i64 4 2003 λT _=>ow 0 2003 0 1 false (λu=>.int .i64 u) λu _=>iQ .i64 1 2003 λU _=>Dw 0 2003 (.int .i64 (wrap .i64 (u+1))) λW _=>bh)))) bh)) (λJ=>bh)) bh)) (λG=>dy 8 66 bh bh)) (λD=>eA 11 (λX=>(bL [Pv 1,Ov 3,Iv 8 X] [Xb 1 B,Lb 2003 D])) (λL=>(6,(bL [] []))) (λL=>(bL [Bv 2 false] [])) (λX=>b8 8 B.procs (bB 3 71 (iQ .i64 9 2003 λh _=>ow 0 2003 0 1 false (λC=>.int .i64 C) λC _=>bQ 3 λY _=>b8 2 Y.events (bB 3 85 bh bh)) bh)) (λL=>bh) (λL=>bh)))))
instance Xc(t:Z4)(x:bf):Fc Sy cL (oF t x):=Fc.of (A:=λz:Z4×bf=>[enc z.1,enc z.2]) (E:=λr:Sl (Sl X')=>[enc r]) (p:=λz=>oF z.1 z.2) (n:=114) (z:=(t,x)) (hG.YT Zae Zae (λz r a=>Sc z.1 z.2 r a))
namespace dh
def fq(p6:Int)(B:Z4)(G:bf)(D:Int):a_ (Fw Int Unit (Int×bf)):=(idx B.procs p6).bind λw=>bl (decide (D<(len w.events))) ((eH B p6 D).bind λu=>bl (u==0) (some (.n (wrap .i64 (D+1)))) (some (.r (u,(⟨p6,wrap .i64 (D+1)⟩:bf))))) (some (.x ()))
def W3(p6 G:Int)(B:Z4)(D:bf):a_ (Fw Int Unit (Int×bf)):=(bW (λq:Int=>fq p6 B D q) G).bind (Fw.elim (λe=>some (.n (wrap .i64 (p6+1)))) (λe=>some (.r (e.1,e.2))))
def zN(G:Int)(D:Z4)(J:bf)(B:Int):a_ (Fw Int Unit (Int×bf)):=(idx D.procs G).bind λw=>bl (decide (B<(len w.events))) ((jd D (⟨G,wrap .i64 (B+1)⟩:bf)).bind λu=>bl (u==0) (some (.n (wrap .i64 (B+1)))) (some (.r (u,(⟨G,wrap .i64 (B+1)⟩:bf))))) (some (.x ()))
def W5(J B:Int)(D:Z4)(G:bf):a_ (Fw Int Unit (Int×bf)):=(bW (λq:Int=>zN J D G q) B).bind (Fw.elim (λe=>some (.n (wrap .i64 (J+1)))) (λe=>some (.r (e.1,e.2))))
def MP(D:Int)(G:Z4)(J:bf)(B:Int):a_ (Fw Int Unit bf):=(idx G.procs D).bind λw=>bl (decide (B<(len w.events))) ((oF G (⟨D,wrap .i64 (B+1)⟩:bf)).bind λz=>(idx z D).bind λC=>(idx C (wrap .i64 (B+1))).bind λu=>bl u (some (.r (⟨D,wrap .i64 (B+1)⟩:bf))) (some (.n (wrap .i64 (B+1))))) (some (.x ()))
def W7(B D:Int)(G:Z4)(J:bf):a_ (Fw Int Unit bf):=(bW (λq:Int=>MP B G J q) D).bind (Fw.elim (λe=>some (.n (wrap .i64 (B+1)))) (λe=>some (.r e)))
def MQ(B:Z4)(G:bf)(D:Int):a_ (Fw Int Unit bf):=bl (decide (D<(len B.procs))) (W7 D 0 B G) (some (.x ()))
def W6(B:Int)(D:Z4)(G:bf):a_ (bf×Int):=(bW (λq:Int=>MQ D G q) B).bind (Fw.elim (λe=>some (⟨0,0⟩,0)) (λe=>some (e,10)))
def Mj(B:Z4)(D:bf)(G:Int):a_ (Fw Int Unit (Int×bf)):=bl (decide (G<(len B.procs))) (W5 G 0 B D) (some (.x ()))
def W4(G:Int)(B:Z4)(D:bf):a_ (bf×Int):=(bW (λq:Int=>Mj B D q) G).bind (Fw.elim (λe=>(eW B).bind λu=>bl u (some (⟨0,0⟩,0)) (dh.W6 0 B D)) (λe=>some (e.2,e.1)))
def bU(B:Z4)(D:bf)(p6:Int):a_ (Fw Int Unit (Int×bf)):=bl (decide (p6<(len B.procs))) (W3 p6 0 B D) (some (.x ()))
def W2(p6:Int)(B:Z4)(D:bf):a_ (bf×Int):=(bW (λq:Int=>bU B D q) p6).bind (Fw.elim (λe=>dh.W4 0 B D) (λe=>some (e.2,e.1)))
def br(B:Z4)(D:bf)(p4:Int):a_ (Fw Int Unit (Int×bf)):=bl (decide (p4<(len B.procs))) ((eN B p4).bind λu=>bl (u==0) (some (.n (wrap .i64 (p4+1)))) (some (.r (u,(⟨p4,0⟩:bf))))) (some (.x ()))
def W1(p4:Int)(B:Z4)(D:bf):a_ (bf×Int):=(bW (λq:Int=>br B D q) p4).bind (Fw.elim (λe=>dh.W2 0 B D) (λe=>some (e.2,e.1)))
end dh
def dh(B:Z4):a_ (bf×Int):=(bl (decide ((len B.procs)<1)) (some true) (some (decide ((len B.procs)>8))):a_ X').bind λu=>bl u (some (⟨0,0⟩,1)) (dh.W1 0 B (⟨0,0⟩:bf))
open dh in
instance V3(B:Z4):Fc Sy cL (dh B):=Fc.M 73 [enc B] (cw 2 1 B (b8 9 B.procs (b_ 2 5 [20] 25 (bB 2 20 (bD 5) (b8 2 B.procs (bD 2))) λa=>bB 2 25 bh (eA 11 (λQ=>(bL [Pv 1,Pv 2,Iv 4 Q] [Xb 1 B,Xb 2 (⟨0,0⟩:bf)])) (λu=>(0,(bL [Pv 1,Pv 2] [Xb 1 B,Xb 2 (⟨0,0⟩:bf)]))) (λu=>(bL [Pv 2,Iv 3 u.1] [Xb 2 u.2])) (λQ=>b8 7 B.procs (bB 3 31 (bG 9 λb _=>dy 9 38 bh bh) bh)) (λu=>eA 10 (λG=>(bL [Pv 1,Pv 2,Iv 6 G] [Xb 1 B,Xb 2 (⟨0,0⟩:bf)])) (λw=>(2,(bL [Pv 1,Pv 2] [Xb 1 B,Xb 2 (⟨0,0⟩:bf)]))) (λw=>(bL [Pv 2,Iv 3 w.1] [Xb 2 w.2])) (λG=>b8 7 B.procs (bB 3 46 (eA 12 (λS=>(bL [Pv 1,Pv 2,Iv 6 G,Iv 7 S] [Xb 1 B,Xb 2 (⟨0,0⟩:bf)])) (λz=>(4,(bL [Pv 1,Pv 2,Iv 6 G] [Xb 1 B,Xb 2 (⟨0,0⟩:bf)]))) (λz=>(bL [Pv 2,Iv 3 z.1] [Xb 2 z.2])) (λS=>bQ 8 λW _=>b8 2 W.events (bB 3 57 (bG 10 λc _=>dy 9 65 bh bh) bh)) (λz=>bh) (λz=>bh)) bh)) (λw=>eA 10 (λI=>(bL [Pv 1,Pv 2,Iv 9 I] [Xb 1 B,Xb 2 (⟨0,0⟩:bf)])) (λC=>(6,(bL [Pv 1,Pv 2] [Xb 1 B,Xb 2 (⟨0,0⟩:bf)]))) (λC=>(bL [Pv 2,Iv 3 C.1] [Xb 2 C.2])) (λI=>b8 7 B.procs (bB 3 75 (eA 12 (λT=>(bL [Pv 1,Pv 2,Iv 9 I,Iv 10 T] [Xb 1 B,Xb 2 (⟨0,0⟩:bf)])) (λD=>(8,(bL [Pv 1,Pv 2,Iv 9 I] [Xb 1 B,Xb 2 (⟨0,0⟩:bf)]))) (λD=>(bL [Pv 2,Iv 3 D.1] [Xb 2 D.2])) (λT=>bQ 8 λX _=>b8 2 X.events (bB 3 86 (bG 19 λd _=>dy 9 97 bh bh) bh)) (λD=>bh) (λD=>bh)) bh)) (λC=>bG 6 λZ _=>bB 2 101 bh (eA 11 (λJ=>(bL [Pv 1,Pv 2,Iv 13 J] [Xb 1 B,Xb 2 (⟨0,0⟩:bf)])) (λL=>(10,(bL [Pv 2] [Xb 2 (⟨0,0⟩:bf)]))) (λL=>(bL [Pv 2,Iv 3 10] [Xb 2 L])) (λJ=>b8 7 B.procs (bB 3 107 (eA 12 (λU=>(bL [Pv 1,Pv 2,Iv 13 J,Iv 14 U] [Xb 1 B,Xb 2 (⟨0,0⟩:bf)])) (λO=>(12,(bL [Pv 1,Pv 2,Iv 13 J] [Xb 1 B,Xb 2 (⟨0,0⟩:bf)]))) (λO=>(bL [Pv 2,Iv 3 10] [Xb 2 O])) (λU=>bQ 8 λY _=>b8 2 Y.events (bB 3 118 (bG 19 λe _=>bQ 1 λf _=>bQ 3 λg _=>bB 3 134 bh bh) bh)) (λO=>bh) (λO=>bh)) bh)) (λL=>bh) (λL=>bh))) (λC=>bh)) (λw=>bh)) (λu=>bh)))))
def ug(B:Z4):a_ X':=(dh B).bind λu=>some (u.2==0)
instance VR(B:Z4):Fc Sy cL (ug B):=Fc.M 39 [enc B] (cw 2 1 B (bG 6 λu _=>bh))
def qD(B:WF):a_ X':=some (B.kind==3)
instance Rs(B:WF):Fc Sy cL (qD B):=Fc.M 81 [enc B] (cw 2 1 B bh)
def sK(D:Zg)(p1:Int):a_ Zg:=(oM (Sl.row []:Zg) D).bind λu=>(Sl.jg u p1).bind λw=>(Sl.get u w).bind λz=>(Sl.jg u p1).bind λB=>(Sl.put u B (wrap .i64 (z+1):Int)).bind λC=>some C
instance Xi(B:Zg)(p1:Int):Fc Sy cL (sK B p1):=Fc.N 135 [enc B,.int .i64 p1] (zA 9 6 8 λw _=>iQ .i64 9 8 λz _=>ow 0 8 0 1 false (λu=>.int .i64 u) λu _=>iQ .i64 1 8 λC _=>Dw 0 8 (.int .i64 (wrap .i64 (u+1))) λD _=>bh)
namespace oc
def br(B:Zg)(D:Z4)(p5:Int):a_ (Fw Int Unit Unit):=bl (decide (p5<(len B))) ((idx B p5).bind λu=>(bl (decide (u<0)) (some true) ((idx B p5).bind λw=>(idx D.procs p5).bind λz=>some (decide (w>(len z.events)))):a_ X').bind λC=>bl C (some (.r ())) (some (.n (wrap .i64 (p5+1))))) (some (.x ()))
def W1(B:Zg)(p5:Int)(D:Z4):a_ X':=(bW (λq:Int=>br B D q) p5).bind (Fw.elim (λe=>some true) (λe=>some false))
end oc
def oc(D:Z4)(B:Zg):a_ X':=bl ((len B)==(len D.procs)) (oc.W1 B 0 D) (some false)
open oc in
instance YW(D:Z4)(B:Zg):Fc Sy cL (oc D B):=Fc.M 86 [enc D,enc B] (cw 2 2 D (b8 7 B (b8 2 D.procs (dy 3 11 (eA 11 (λw=>(bL [Cv 1 B,Pv 2,Iv 5 w] [Xb 2 D])) (λu=>(0,(bL [] []))) (λu=>(bL [Bv 4 false] [])) (λw=>b8 6 B (bB 3 15 (bQ 9 λC _=>b_ 3 13 [23] 36 (bB 3 23 (bD 13) (bQ 2 λG _=>bQ 4 λz _=>b8 2 z.events (bD 2))) λI=>bB 2 36 bh bh) bh)) (λu=>bh) (λu=>bh)) bh))))
namespace eo
def bU(B:Zg)(p5:Int)(D:Z4)(G:Int):a_ (Fw Int Unit Unit):=(idx B p5).bind λz=>bl (decide (G<z)) ((idx D.procs p5).bind λC=>(idx C.events G).bind λu=>bl (u.kind==3) ((eu D 2 u.message).bind λw=>(idx B w.proc).bind λI=>bl (decide (w.index>I)) (some (.r ())) (some (.n (wrap .i64 (G+1))))) (some (.n (wrap .i64 (G+1))))) (some (.x ()))
def W2(B:Zg)(p5 G:Int)(D:Z4):a_ (Fw Int Unit Unit):=(bW (λq:Int=>bU B p5 D q) G).bind (Fw.elim (λe=>some (.n (wrap .i64 (p5+1)))) (λe=>some (.r ())))
def br(B:Zg)(D:Z4)(p5:Int):a_ (Fw Int Unit Unit):=bl (decide (p5<(len B))) (W2 B p5 0 D) (some (.x ()))
def W1(B:Zg)(p5:Int)(D:Z4):a_ X':=(bW (λq:Int=>br B D q) p5).bind (Fw.elim (λe=>some true) (λe=>some false))
end eo
def eo(D:Z4)(B:Zg):a_ X':=eo.W1 B 0 D
open eo in
instance O9(D:Z4)(B:Zg):Fc Sy cL (eo D B):=Fc.M 87 [enc D,enc B] (cw 2 2 D (eA 11 (λu=>(bL [Cv 1 B,Pv 2,Iv 5 u] [Xb 2 D])) (λw=>(0,(bL [] []))) (λw=>(bL [Bv 4 false] [])) (λu=>b8 6 B (bB 3 12 (eA 12 (λC=>(bL [Cv 1 B,Pv 2,Iv 5 u,Iv 6 C] [Xb 2 D])) (λz=>(2,(bL [Cv 1 B,Pv 2,Iv 5 u] [Xb 2 D]))) (λz=>(bL [Bv 4 false] [])) (λC=>bQ 7 λI _=>bB 4 20 (bQ 10 λJ _=>bQ 3 λG _=>nN 2 7 0 G (bB 9 34 (bG 6 λL _=>bQ 11 λO _=>bB 4 46 bh bh) bh)) bh) (λz=>bh) (λz=>bh)) bh)) (λw=>bh) (λw=>bh)))
def yA(B:Z4)(D:Zg):a_ X':=(oc B D).bind λu=>(bl u ((eo B D).bind λw=>some w) (some false):a_ X').bind λz=>some z
instance Y8(B:Z4)(D:Zg):Fc Sy cL (yA B D):=Fc.M 49 [enc B,enc D] (cw 2 2 B (bG 7 λu _=>b_ 1 4 [1,2,8] 12 (bB 1 8 (bG 2 λw _=>bD 1) (bD 4)) λz=>bh))
namespace jF
def br(G:Zg)(D:Z4)(B:Zb)(p6:Int):a_ (Fw ((Zb)×Int) Zb Empty):=bl (decide (p6<(len G))) ((idx G p6).bind λu=>(idx D.procs p6).bind λw=>(bl (decide (u<(len w.events))) ((sK G p6).bind λz=>(yA D z).bind λC=>some C) (some false):a_ X').bind λI=>bl I ((sK G p6).bind λJ=>(gy B (J:Zg)).bind λL=>some (.n (L,wrap .i64 (p6+1)))) (some (.n (B,wrap .i64 (p6+1))))) (some (.x B))
def W1(G:Zg)(B:Zb)(p6:Int)(D:Z4):a_ Zb:=(bW (λq:(Zb)×Int=>br G D q.1 q.2) (B,p6)).bind (Fw.elim (λe=>some e) (λe=>elim e))
end jF
def jF(B:Z4)(D:Zg):a_ Zb:=jF.W1 D (Sl.nil:Zb) 0 B
open jF in
instance Xq(B:Z4)(D:Zg):Fc Sy cL (jF B D):=Fc.N 101 [enc B,enc D] (cw 2 2 B (fM 17 (λu=>(bL [Cv 1 D,Pv 2,Ov 5,Iv 6 u.2] [Xb 2 B,Lb 2005 u.1])) (λw=>(0,(bL [Ov 5] [Lb 2005 w]))) (λu=>b8 7 D (bB 3 10 (bQ 9 λI _=>bQ 4 λC _=>b8 2 C.events (yo 2 6 [30,29] (λz=>(bL [Cv 1 D,Pv 2,Ov 5,Iv 6 u.2,Bv 10 true,Bv 31 z] [Xb 2 B,Lb 2005 u.1])) (bB 2 25 (bG 3 λJ _=>cU 0 λL _=>bD 1) (bD 6)) λz=>bB 2 31 (bG 5 λG _=>yw 0 36 ([G]:aZ Zg) (oI 0 2005 36 37 λO _=>bh)) bh)) bh)) (λw=>bh)))
namespace gY
def br(B:Zg)(D i4:Int):a_ (Fw (Int×Int) Int Empty):=bl (decide (i4<(len B))) ((idx B i4).bind λu=>some (.n (wrap .i64 (D+u),wrap .i64 (i4+1)))) (some (.x D))
def W1(B:Zg)(D i4:Int):QQ:=(bW (λq:Int×Int=>br B q.1 q.2) (D,i4)).bind (Fw.elim (λe=>some e) (λe=>elim e))
end gY
def gY(B:Zg):QQ:=gY.W1 B 0 0
open gY in
instance Xm(B:Zg):Fc Sy cL (gY B):=Fc.M 177 [enc B] (fM 18 (λu=>(bL [Cv 0 B,Iv 3 u.1,Iv 4 u.2] [])) (λw=>(0,(bL [Iv 3 w] []))) (λu=>b8 6 B (bB 3 8 (bQ 9 λz _=>bh) bh)) (λw=>bh))
namespace iz
def br(a0 D:Zg)(B:Int):a_ (Fw Int Unit X'):=bl (decide (B<(len a0))) ((idx a0 B).bind λu=>(idx D B).bind λw=>bl (u==w) (some (.n (wrap .i64 (B+1)))) ((idx a0 B).bind λz=>(idx D B).bind λC=>some (.r (decide (z<C))))) (some (.x ()))
def W1(a0 B:Zg)(D:Int):a_ X':=(bW (λq:Int=>br a0 B q) D).bind (Fw.elim (λe=>some false) (λe=>some e))
end iz
def iz(a0 B:Zg):a_ X':=(gY a0).bind λu=>(gY B).bind λw=>bl (u==w) (iz.W1 a0 B 0) ((gY a0).bind λz=>(gY B).bind λC=>some (decide (z<C)))
open iz in
instance US(a0 B:Zg):Fc Sy cL (iz a0 B):=Fc.M 136 [enc a0,enc B] (bG 9 λz _=>bG 1 λC _=>dy 3 10 (eA 11 (λw=>(bL [Cv 0 a0,Cv 1 B,Iv 5 w] [])) (λu=>(0,(bL [] []))) (λu=>(bL [Bv 4 u] [])) (λw=>b8 6 a0 (bB 3 19 (bQ 9 λD _=>bQ 3 λG _=>dy 4 30 bh (bQ 5 λI _=>bQ 3 λJ _=>bh)) bh)) (λu=>bh) (λu=>bh)) (bG 4 λL _=>bG 1 λO _=>bh))
namespace fP
def br(a0 D:Zg)(B:Int):a_ (Fw Int Unit Unit):=bl (decide (B<(len a0))) ((idx a0 B).bind λu=>(idx D B).bind λw=>bl (u==w) (some (.n (wrap .i64 (B+1)))) (some (.r ()))) (some (.x ()))
def W1(a0 B:Zg)(D:Int):a_ X':=(bW (λq:Int=>br a0 B q) D).bind (Fw.elim (λe=>some true) (λe=>some false))
end fP
def fP(a0 B:Zg):a_ X':=bl ((len a0)==(len B)) (fP.W1 a0 B 0) (some false)
open fP in
instance Rw(a0 B:Zg):Fc Sy cL (fP a0 B):=Fc.M 137 [enc a0,enc B] (b8 9 a0 (b8 1 B (dy 3 10 (eA 11 (λw=>(bL [Cv 0 a0,Cv 1 B,Iv 5 w] [])) (λu=>(0,(bL [] []))) (λu=>(bL [Bv 4 false] [])) (λw=>b8 6 a0 (bB 3 14 (bQ 9 λz _=>bQ 3 λC _=>dy 4 25 bh bh) bh)) (λu=>bh) (λu=>bh)) bh)))
namespace iy
def br(D:Zb)(G:Zg)(B:Int):a_ (Fw Int Int Empty):=(bl (decide (B<(len D))) ((idx D B).bind λu=>(iz u G).bind λw=>some w) (some false):a_ X').bind λz=>bl z (some (.n (wrap .i64 (B+1)))) (some (.x B))
def W1(B:Zb)(G:Zg)(D:Int):a_ Zb:=(bW (λq:Int=>br B G q) D).bind (Fw.elim (λe=>(bl (decide (e<(len B))) ((idx B e).bind λz=>(fP z G).bind λC=>some C) (some false):a_ X').bind λI=>bl I (some B) ((fZ B none (some e)).bind λJ=>(oM (Sl.row []:Zb) J).bind λL=>(gy L (G:Zg)).bind λO=>(fZ B (some e) none).bind λu=>(oM O u).bind λw=>some w)) (λe=>elim e))
end iy
def iy(B:Zb)(D:Zg):a_ Zb:=iy.W1 B D 0
open iy in
instance UU(B:Zb)(D:Zg):Fc Sy cL (iy B D):=Fc.N 102 [enc B,enc D] (fM 13 (λw=>(bL [Cv 0 B,Cv 1 D,Iv 5 w] [])) (λu=>(0,(bL [Cv 0 B,Cv 1 D,Iv 5 u] []))) (λw=>b8 6 B (b_ 2 7 [11] 18 (bB 2 11 (bQ 2 λG _=>bG 2 λI _=>bD 1) (bD 7)) λJ=>bB 2 18 bh bh)) (λu=>b8 7 B (b_ 2 7 [25] 32 (bB 2 25 (bQ 2 λL _=>bG 2 λO _=>bD 1) (bD 7)) λQ=>bB 2 32 bh (yw 5 34 ([]:aZ Zg) (BD 2 false true [.int .i64 u] λS _=>zA 0 34 38 λT _=>yw 7 41 ([D]:aZ Zg) (oI 0 38 41 42 λU _=>BD 8 true false [.int .i64 u] λz _=>zA 0 42 47 λC _=>bh))))))
namespace fm
def fq(D G:Zb)(W:Int)(J:Zb)(U:Z4)(B:Zb)(k9:Int):a_ (Fw ((Zb)×Int) Zb Empty):=bl (decide (k9<(len J))) ((idx J k9).bind λu=>(iy B u).bind λw=>some (.n (w,wrap .i64 (k9+1)))) (some (.x B))
def W3(B G D:Zb)(U:Int)(W:Zb)(k9:Int)(J:Z4):a_ (Fw ((Zb)×Int) Zb Empty):=(bW (λq:(Zb)×Int=>fq B G U W J q.1 q.2) (D,k9)).bind (Fw.elim (λe=>some (.n (e,wrap .i64 (U+1)))) (λe=>elim e))
def bU(B G:Zb)(J:Z4)(D:Zb)(U:Int):a_ (Fw ((Zb)×Int) Zb Empty):=bl (decide (U<(len B))) ((idx B U).bind λu=>(jF J u).bind λw=>W3 B G D U w 0 J) (some (.x D))
def W2(B D G:Zb)(U:Int)(J:Z4):a_ (Fw ((Zb)×(Zb)) Zb Unit):=(bW (λq:(Zb)×Int=>bU B D J q.1 q.2) (G,U)).bind (Fw.elim (λe=>some (.n (e,D))) (λe=>elim e))
def br(G:Z4)(B D:Zb):a_ (Fw ((Zb)×(Zb)) Zb Unit):=bl (decide ((len B)>0)) ((oM D B).bind λu=>bl (decide ((len u)>5000)) (some (.r ())) (W2 B u (Sl.nil:Zb) 0 G)) (some (.x D))
def W1(B D:Zb)(G:Z4):a_ ((Zb)×X'):=(bW (λq:(Zb)×(Zb)=>br G q.1 q.2) (B,D)).bind (Fw.elim (λe=>some (e,true)) (λe=>some ((Sl.nil:Zb),false)))
end fm
def fm(B:Z4):a_ ((Zb)×X'):=(qX (len B.procs) (0:Int)).bind λu=>fm.W1 (Sl.row [u]:Zb) (Sl.nil:Zb) B
open fm in
instance Xa(B:Z4):Fc Sy cL (fm B):=Fc.N 62 [enc B] (cw 2 1 B (b8 8 B.procs (PV 0 13 λL _=>yw 1 14 ([L]:aZ Zg) (eA 13 (λu=>(bL [Pv 1,Cv 4 u.1,Ov 5] [Xb 1 B,Lb 2005 u.2])) (λC=>(0,(bL [Ov 5] [Lb 2005 C]))) (λC=>(bL [Ov 2,Bv 3 false] [Lb 2002 (Sl.nil:Zb)])) (λu=>b8 7 u.1 (bB 3 17 (zA 8 2005 20 λw _=>Ez 7 20 w (bB 3 23 bh (fM 18 (λz=>(bL [Pv 1,Cv 4 u.1,Ov 5,Cv 6 z.1,Iv 7 z.2] [Xb 1 B,Lb 2005 w])) (λG=>(2,(bL [Pv 1,Ov 5,Cv 6 G] [Xb 1 B,Lb 2005 w]))) (λz=>b8 8 u.1 (bB 3 27 (bQ 10 λO _=>bG 1 λI _=>fM 12 (λD=>(bL [Pv 1,Cv 4 u.1,Ov 5,Cv 6 D.1,Iv 7 z.2,Cv 8 I,Iv 9 D.2] [Xb 1 B,Lb 2005 w])) (λJ=>(4,(bL [Pv 1,Cv 4 u.1,Ov 5,Cv 6 J,Iv 7 z.2] [Xb 1 B,Lb 2005 w]))) (λD=>b8 8 I (bB 3 39 (bQ 9 λQ _=>bG 1 λS _=>bh) bh)) (λJ=>bh)) bh)) (λG=>bh)))) bh)) (λC=>bh) (λC=>bh)))))
namespace fF
def bU(G:Sl bX)(J:Int)(B D:Int):a_ (Fw (Int×Int) Int Unit):=bl (decide (D<J)) ((idx G D).bind λu=>(gF u.events (λz=>qD z)).bind λw=>bl w (some (.r ())) (some (.n (wrap .i64 (B*(wrap .i64 ((len u.events)+1))),wrap .i64 (D+1))))) (some (.x B))
def W2(B:Int)(D:Sl bX)(G J:Int):a_ X':=(bW (λq:Int×Int=>bU D G q.1 q.2) (B,J)).bind (Fw.elim (λe=>some (decide (e>5000))) (λe=>some false))
def br(D:Sl bX)(G:Int)(U:Z4)(J B:Int):a_ (Fw (Int×Int) Int Unit):=bl (decide (B<G)) ((idx D B).bind λu=>(bl (decide ((len u.vars)>12)) (some true) ((gF u.events (λz=>qE z)).bind λw=>some w):a_ X').bind λC=>bl C (some (.r ())) (some (.n (wrap .i64 (J+(len u.events)),wrap .i64 (B+1))))) (some (.x J))
def W1(U:Int)(D:Sl bX)(G J:Int)(B:Z4):a_ X':=(bW (λq:Int×Int=>br D G B q.1 q.2) (U,J)).bind (Fw.elim (λe=>bl (decide (e>60)) (some false) ((ug B).bind λw=>bl w (bl (decide (e>24)) (fF.W2 1 B.procs (len B.procs) 0) ((fm B).bind λu=>(bl u.2 (some (decide ((len u.1)<=250))) (some true):a_ X').bind λz=>some z)) (some true))) (λe=>some false))
end fF
def fF(B:Z4):a_ X':=bl (decide ((len B.procs)>10)) (some false) (fF.W1 0 B.procs (len B.procs) 0 B)
open fF in
instance Wt(B:Z4):Fc Sy cL (fF B):=Fc.M 45 [enc B] (cw 2 1 B (b8 8 B.procs (bB 3 14 bh (b8 13 B.procs (eA 5 (λD=>(bL [Pv 1,Iv 3 D.1,Cv 16 B.procs,Iv 17 (len B.procs),Iv 18 D.2] [Xb 1 B])) (λu=>(0,(bL [Pv 1,Iv 3 u] [Xb 1 B]))) (λu=>(bL [Bv 2 false] [])) (λD=>bB 7 19 (bQ 7 λw _=>nN 2 5 0 w (b8 7 w.events (b8 8 w.vars (b_ 2 4 [5,31] 35 (bB 2 31 (bD 4) (bG (F:=mb 80 [] (λz=>qE z) kQ.pQ w.events) 2 λL _=>bD 1)) λO=>bB 2 35 bh bh)))) bh) (λu=>bB 9 38 bh (bG 7 λQ _=>dy 3 41 (bB 10 43 (b8 11 B.procs (eA 5 (λG=>(bL [Iv 6 G.1,Cv 45 B.procs,Iv 46 (len B.procs),Iv 47 G.2] [])) (λC=>(2,(bL [Iv 6 C] []))) (λC=>(bL [Bv 2 false] [])) (λG=>bB 7 48 (bQ 7 λI _=>nN 2 8 0 I (b8 7 I.events (bG (F:=mb 81 [] (λz=>qD z) kQ.pQ I.events) 9 λS _=>bB 2 59 bh bh))) bh) (λC=>bh) (λC=>bh))) (bG 6 λJ _=>b_ 12 4 [9,70] 74 (dy 12 70 (b8 1 J.1 (bD 2)) (bD 4)) λT=>bh)) bh)) (λu=>bh))))))
def ki(D:Pred)(G B:Int)(r:(Pred×Int×Int)->a_ (X'×Int)):a_ (X'×Int):=(r (D,B,wrap .i64 (G+1))).bind λu=>some ((!u.1),u.2)
abbrev D1(r:(Pred×Int×Int)->a_ (Bool×Int))(a:xR Sy cL 40 (λz:Pred×Int×Int=>[cv z.1,.ptr 9002 0,iv z.2.2]) (λz:Pred×Int×Int=>[(9002,bx (z.2.1:Int))]) (λr:Bool×Int=>[.bool r.1]) (λ(z:Pred×Int×Int)(r:Bool×Int)=>[(9002,bx (r.2:Int))]) r)(D:Pred)(G B:Int):oa Sy cL (ki D G B r):=oa.mk' 75 [cv D,.ptr 9001 0,.v (.fptr (cells G))] [(9001,.box [.ptr 9002 0]),(9002,bx (B:Int))] (λr:Bool×Int=>[.bool r.1]) (λr:Bool×Int=>[(9001,.box [.ptr 9002 0]),(9002,bx (r.2:Int))]) (cw 2 3 D (ud 9 (oa.of (D,B,wrap .i64 (G+1)) a) λu _=>bh))
section
variable{σ:Type}{gf:Y'}{ex:So}{os:σ->dK}{p:Pred->σ->a_ (X'×σ)}(h:yF Sy cL (.clo gf [] ex) gf ex os p)(s0:Sl Pred)(x:σ)
abbrev wo:oa Sy cL (Tw s0 p x):=oa.mk' 115 [cv s0,(.clo gf [] ex)] (os x) (λr=>[.int .i64 r.1]) (λr=>os r.2) (b8 9 s0 (eA 5 (λq=>⟨[Cv 0 s0,(1,(.clo gf [] ex)),Iv 7 (len s0),Iv 8 q.1],os q.2,(os x).map (·.1),[],true,0⟩) (λe=>(0,⟨[],os e,(os x).map (·.1),[],true,0⟩)) (λe=>⟨[Iv 4 e.1],os e.2,(os x).map (·.1),[],true,0⟩) (λq=>bB 7 9 (bQ 16 λy _=>Ri 1 h y q.2 λr _=>bB 2 16 bh bh) bh) (λe=>IF 9 h [.int .i64 (-1)] rfl) (λe=>Le.of_eq (KL h (ys:=[.int .i64 e.1]) Zae rfl)))) (hp:=λr=>h.wi x r.2)
abbrev qd:oa Sy cL (AS s0 p x):=oa.mk' 74 [cv s0,(.clo gf [] ex)] (os x) (λr=>[.bool r.1]) (λr=>os r.2) (M7 9 (wo h s0 x) (h.hd x (enc s0)) (λr=>h.put x r.2) λy _=>IF 5 h [.bool (decide (y.1>=0))] rfl) (hp:=λr=>h.wi x r.2)
end
section
variable{σ:Type}{gf:Y'}{ex:T2}{os:σ->dK}{p:Pred->σ->a_ (X'×σ)}(h:yF Sy cL (.v (.clo gf [] ex)) gf (ex.map .v) os p)(s0:Sl Pred)(x:σ)
abbrev vY:oa Sy cL (Tw s0 p x):=oa.mk' 115 [cv s0,(.v (.clo gf [] ex))] (os x) (λr=>[.int .i64 r.1]) (λr=>os r.2) (b8 9 s0 (eA 5 (λq=>⟨[Cv 0 s0,(1,(.v (.clo gf [] ex))),Iv 7 (len s0),Iv 8 q.1],os q.2,(os x).map (·.1),[],true,0⟩) (λe=>(0,⟨[],os e,(os x).map (·.1),[],true,0⟩)) (λe=>⟨[Iv 4 e.1],os e.2,(os x).map (·.1),[],true,0⟩) (λq=>bB 7 9 (bQ 16 λy _=>Ri 1 h y q.2 λr _=>bB 2 16 bh bh) bh) (λe=>IF 9 h [.int .i64 (-1)] rfl) (λe=>Le.of_eq (KL h (ys:=[.int .i64 e.1]) Zae rfl)))) (hp:=λr=>h.wi x r.2)
abbrev mD:oa Sy cL (AS s0 p x):=oa.mk' 74 [cv s0,(.v (.clo gf [] ex))] (os x) (λr=>[.bool r.1]) (λr=>os r.2) (M7 9 (vY h s0 x) (h.hd x (enc s0)) (λr=>h.put x r.2) λy _=>IF 5 h [.bool (decide (y.1>=0))] rfl) (hp:=λr=>h.wi x r.2)
end
def jZ(G:Pred)(B D:Int)(r:(Pred×Int×Int)->a_ (X'×Int)):a_ (X'×Int):=(bl (decide ((wrap .i64 (B-1))>=0)) (some (decide (D<=60))) (some false):a_ X').bind λz=>(bl z (some (decide (((ByteArray.size G.name:Nat):Int)<=100))) (some false):a_ X').bind λC=>(bl C ((AS G.l (λx s=>ki x D s r) (wrap .i64 (B-1))).bind λu=>some ((!u.1),u.2)) (some (false,wrap .i64 (B-1))):a_ (X'×Int)).bind λw=>some (w.1,w.2)
theorem DN(r:(Pred×Int×Int)->a_ (X'×Int))(a:xR Sy cL 40 (λz:Pred×Int×Int=>[cv z.1,.ptr 9002 0,iv z.2.2]) (λz:Pred×Int×Int=>[(9002,bx (z.2.1:Int))]) (λr:X'×Int=>[.bool r.1]) (λ(z:Pred×Int×Int)(r:X'×Int)=>[(9002,bx (r.2:Int))]) r)(G:Pred)(D B:Int):∀J,jZ G D B r=some J->∃m',cL 40 [cv G,.ptr 9002 0,iv B] [(9002,bx (D:Int))]=some (((λr:X'×Int=>[.bool r.1]) J).map .v,m')/\∀U,lP m' ([(9002,bx (D:Int))].map (·.1)) U=some (pX U ((λr:X'×Int=>[(9002,bx (r.2:Int))]) J)):=(oa.mk' 40 [cv G,.ptr 9002 0,iv B] [(9002,bx (D:Int))] (λr:X'×Int=>[.bool r.1]) (λr:X'×Int=>[(9002,bx (r.2:Int))]) (cw 2 3 G (b_ 22 3 [16] 19 (bB 22 16 (bD 3) (bD 3)) λw=>b_ 1 5 [20] 25 (bB 1 20 (bD 5) (bD 5)) λC=>yo 1 6 [] (λu=>⟨[Bv 32 u.1],[(9002,.box [iv u.2]),Xb 3 G,(9001,.box [.ptr 9002 0])],[9002],[],true,0⟩) (bB 1 26 (jI 2 28 (Pred.mJ G.l) (ud 3 (qd (yF.ofK (σ:=Int) (g:=75) (e:=[.ptr 9001 0,cp B]) (os:=λs=>[(9001,.box [.ptr 9002 0]),(9002,bx (s:Int))]) (p:=(λx s=>ki x B s r)) (λx s=>D1 r a x B s)) G.l (wrap .i64 (D-1))) λI _=>bD 2)) (bD 8)) λu=>bh)):oa Sy cL (jZ G D B r)).h
def zm(G:Pred)(D B:Int):a_ (X'×Int):=iw (λr(z:Pred×Int×Int)=>jZ z.1 z.2.1 z.2.2 r) 100000 (G,D,B)
abbrev Ip(G:Pred)(D B:Int):oa Sy cL (zm G D B):=oa.of (G,D,B) (xR.fix (A:=λz:Pred×Int×Int=>[cv z.1,.ptr 9002 0,iv z.2.2]) (O:=λz:Pred×Int×Int=>[(9002,bx (z.2.1:Int))]) (E:=λr:Bool×Int=>[.bool r.1]) (M:=λ(z:Pred×Int×Int)(r:Bool×Int)=>[(9002,bx (r.2:Int))]) (b:=(λr(z:Pred×Int×Int)=>jZ z.1 z.2.1 z.2.2 r)) Zae Zae Zae (λr a z=>DN r a z.1 z.2.1 z.2.2) 100000)
namespace kU
def br(B:Int)(D:Pred)(G J:Int)(r:(Pred×Int)->QQ):a_ (Fw (Int×Int) Int Empty):=(bl (decide (J<(len D.l))) (some (decide (G<=B))) (some false):a_ X').bind λu=>bl u ((idx D.l J).bind λw=>(r (w,wrap .i64 (B-G))).bind λz=>some (.n (wrap .i64 (G+z),wrap .i64 (J+1)))) (some (.x G))
def W1(B G J:Int)(D:Pred)(r:(Pred×Int)->QQ):QQ:=(bW (λq:Int×Int=>br B D q.1 q.2 r) (G,J)).bind (Fw.elim (λe=>some e) (λe=>elim e))
end kU
def jl(D:Pred)(B:Int)(r:(Pred×Int)->QQ):QQ:=kU.W1 B 1 0 D r
open kU in
theorem CW(r:(Pred×Int)->QQ)(a:hG Sy cL 78 (λz:Pred×Int=>[enc z.1,.int .i64 z.2]) (λr:Int=>[.int .i64 r]) r true)(D:Pred)(B:Int):Le ((jl D B r).bind λr=>some [.int .i64 r]) (jT cL 78 [enc D,.int .i64 B]):=(Fc.M 78 [enc D,.int .i64 B] (cw 2 2 D (fM 16 (λu=>(bL [Iv 1 B,Pv 2,Iv 5 u.1,Iv 6 u.2] [Xb 2 D])) (λw=>(0,(bL [Iv 5 w] []))) (λu=>jI 7 9 (Pred.mJ D.l) (b8 0 D.l (b_ 2 4 [12] 16 (bB 2 12 (bD 4) (bD 4)) λG=>bB 2 16 (jI 9 21 (Pred.mJ D.l) (bQ 1 λC _=>bG (F:=Fc.of (C,wrap .i64 (B-u.1)) a) 4 λI _=>bh)) bh))) (λw=>bh))):Fc Sy cL (jl D B r)).F.h ()
def kU(D:Pred)(B:Int):QQ:=iw (λr(z:Pred×Int)=>jl z.1 z.2 r) 100000 (D,B)
instance Wu(D:Pred)(B:Int):Fc Sy cL (kU D B):=Fc.of (D,B) (hG.fix (A:=λz:Pred×Int=>[enc z.1,.int .i64 z.2]) (E:=λr:Int=>[.int .i64 r]) (sc:=true) (b:=(λr(z:Pred×Int)=>jl z.1 z.2 r)) Zae (λ_ _=>rfl) (λr a z=>CW r a z.1 z.2) 100000)
def sG(B:Pred):QQ:=(kU B 200).bind λu=>some (if 201<u then 201 else u)
instance Xg(B:Pred):Fc Sy cL (sG B):=Fc.M 42 [enc B] (cw 2 1 B (bG 6 λu _=>bh))
def xo(J:Z4)(p1:Pred):a_ X':=(fF J).bind λw=>(bl w ((zm p1 300 0).bind λu=>some (u.1,u.2)) (some (false,300)):a_ (X'×Int)).bind λz=>(bl z.1 ((sG p1).bind λB=>(bl (decide (B<=100)) (some true) ((sG p1).bind λC=>some (decide (C>200))):a_ X').bind λD=>some D) (some false):a_ X').bind λG=>some G
instance YD(B:Z4)(p1:Pred):Fc Sy cL (xo B p1):=Fc.M 11 [enc B,enc p1] (cw 2 2 B (cw 0 3 p1 (bG 12 λw _=>yo 1 3 [] (λu=>(bL [Pv 3,Bv 11 u.1] [Xb 2 B,Xb 3 p1,(9002,.box [iv u.2])])) (bB 1 8 (ud 2 (Ip p1 300 0) λz _=>bD 1) (bD 4)) λu=>b_ 1 9 [3,12] 21 (bB 1 12 (bG 1 λC _=>b_ 2 4 [3,16] 20 (bB 2 16 (bD 4) (bG 1 λD _=>bD 2)) λG=>bD 1) (bD 9)) λI=>bh)))
def oN(G D B:Int):a_ X':=(bl (decide (G>=D)) (some (decide (G<=B))) (some false):a_ X').bind λu=>some u
instance ZY(G D B:Int):Fc Sy cL (oN G D B):=Fc.M 127 [.int .i64 G,.int .i64 D,.int .i64 B] (b_ 11 4 [0,2,10] 14 (bB 11 10 (bD 4) (bD 4)) λu=>bh)
def qW(B:Int):a_ X':=(bl (decide (B>=97)) (some (decide (B<=122))) (some false):a_ X').bind λu=>(bl u (some true) ((bl (decide (B>=65)) (some (decide (B<=90))) (some false):a_ X').bind λw=>some w):a_ X').bind λz=>some z
instance V1(B:Int):Fc Sy cL (qW B):=Fc.M 204 [.int .u8 B] (b_ 10 3 [5] 8 (bB 10 5 (bD 3) (bD 3)) λu=>b_ 1 7 [0,9] 16 (bB 1 9 (bD 7) (b_ 3 3 [0,12] 15 (bB 3 12 (bD 3) (bD 3)) λw=>bD 1)) λz=>bh)
def vA(B:Int):a_ X':=(bl (decide (B>=48)) (some (decide (B<=57))) (some false):a_ X').bind λu=>some u
instance Xk(B:Int):Fc Sy cL (vA B):=Fc.M 205 [.int .u8 B] (b_ 10 3 [0,5] 8 (bB 10 5 (bD 3) (bD 3)) λu=>bh)
namespace gO
def br(s0:U')(D:Int)(B:Int):a_ (Fw Int Unit Unit):=bl (decide (B<D)) ((me s0 B).bind λz=>(qW z).bind λC=>(bl C (some false) ((me s0 B).bind λG=>(vA G).bind λI=>some (!I)):a_ X').bind λJ=>(bl J ((me s0 B).bind λu=>some (!(u==95))) (some false):a_ X').bind λw=>bl w (some (.r ())) (some (.n (wrap .i64 (B+1))))) (some (.x ()))
def W1(s0:U')(B D:Int):a_ X':=(bW (λq:Int=>br s0 B q) D).bind (Fw.elim (λe=>some true) (λe=>some false))
end gO
def gO(s0:U'):a_ X':=(bl (toList s0==toList ByteArray.empty) (some true) (some (decide (((ByteArray.size s0:Nat):Int)>16))):a_ X').bind λu=>(bl u (some true) ((me s0 0).bind λw=>(qW w).bind λz=>some (!z)):a_ X').bind λB=>bl B (some false) (gO.W1 s0 ((ByteArray.size s0:Nat):Int) 0)
open gO in
instance VL(s0:U'):Fc Sy cL (gO s0):=Fc.M 163 [.str s0] (b_ 11 4 [6] 10 (bB 11 6 (bD 4) (bD 4)) λC=>b_ 1 5 [11] 16 (bB 1 11 (bD 5) (BE 1 .i64 λD _=>bG 0 λG _=>bD 2)) λI=>bB 2 16 bh (eA 13 (λw=>(bL [(0,.v (.str s0)),Iv 18 ((ByteArray.size s0:Nat):Int),Iv 19 w] [])) (λu=>(0,(bL [] []))) (λu=>(bL [Bv 2 false] [])) (λw=>bB 7 20 (BE 15 .i64 λJ _=>bG 0 λL _=>b_ 2 6 [27] 33 (dy 2 27 (bD 6) (BE 2 .i64 λO _=>bG 0 λQ _=>bD 2)) λS=>b_ 1 5 [3,34] 39 (bB 1 34 (BE 2 .i64 λz _=>bD 2) (bD 5)) λB=>bB 2 39 bh bh) bh) (λu=>bh) (λu=>bh)))
def ku(B D:bX):a_ X':=some (toList B.name==toList D.name)
instance Ld(B D:bX):Fc Sy cL (ku B D):=Fc.M 165 [enc B,.fptr (cells D)] (cw 2 2 B bh)
namespace gQ
def br(s0:Sl bX)(D:Int)(B:Int)(p1:bX->a_ X'):a_ (Fw Int Unit Int):=bl (decide (B<D)) ((idx s0 B).bind λu=>(p1 u).bind λw=>bl w (some (.r B)) (some (.n (wrap .i64 (B+1))))) (some (.x ()))
def W1(s0:Sl bX)(B D:Int)(p1:bX->a_ X'):QQ:=(bW (λq:Int=>br s0 B q p1) D).bind (Fw.elim (λe=>some (-1)) (λe=>some e))
end gQ
def gQ(s0:Sl bX)(p1:bX->a_ X'):QQ:=gQ.W1 s0 (len s0) 0 p1
open gQ in
abbrev yh(g1:FuncId)(e1:aZ V)(p1:bX->a_ Bool)(a:kQ Sy cL g1 [] e1 (λz:bX=>[enc z]) (λr:Bool=>[.bool r]) p1 true)(s0:Sl bX):Fc Sy cL (gQ s0 p1):=Fc.M 206 [enc s0,.clo g1 [] e1] (b8 9 s0 (eA 5 (λw=>(bL [Cv 0 s0,(1,.v (.clo g1 [] e1)),Iv 7 (len s0),Iv 8 w] [])) (λu=>(0,(bL [] []))) (λu=>(bL [Iv 4 u] [])) (λw=>bB 7 9 (bQ 16 λB _=>yU 1 a.f B λC _=>bB 2 16 bh bh) bh) (λu=>bh) (λu=>bh)))
def iZ(s0:Sl bX)(p1:bX->a_ X'):a_ X':=(gQ s0 p1).bind λu=>some (decide (u>=0))
abbrev wD(g1:FuncId)(e1:aZ V)(p1:bX->a_ Bool)(a:kQ Sy cL g1 [] e1 (λz:bX=>[enc z]) (λr:Bool=>[.bool r]) p1 true)(s0:Sl bX):Fc Sy cL (iZ s0 p1):=Fc.M 164 [enc s0,.clo g1 [] e1] (bG (F:=yh g1 e1 p1 a s0) 9 λu _=>bh)
def kn(B D:Var):a_ X':=some (toList B.name==toList D.name)
instance Lh(B D:Var):Fc Sy cL (kn B D):=Fc.M 167 [enc B,.fptr (cells D)] (bh)
namespace fJ
def br(s0:Sl Var)(D:Int)(B:Int)(p1:Var->a_ X'):a_ (Fw Int Unit Int):=bl (decide (B<D)) ((idx s0 B).bind λu=>(p1 u).bind λw=>bl w (some (.r B)) (some (.n (wrap .i64 (B+1))))) (some (.x ()))
def W1(s0:Sl Var)(B D:Int)(p1:Var->a_ X'):QQ:=(bW (λq:Int=>br s0 B q p1) D).bind (Fw.elim (λe=>some (-1)) (λe=>some e))
end fJ
def fJ(s0:Sl Var)(p1:Var->a_ X'):QQ:=fJ.W1 s0 (len s0) 0 p1
open fJ in
abbrev oA(g1:FuncId)(e1:aZ V)(p1:Var->a_ Bool)(a:kQ Sy cL g1 [] e1 (λz:Var=>[enc z]) (λr:Bool=>[.bool r]) p1 true)(s0:Sl Var):Fc Sy cL (fJ s0 p1):=Fc.M 207 [enc s0,.clo g1 [] e1] (b8 9 s0 (eA 5 (λw=>(bL [Cv 0 s0,(1,.v (.clo g1 [] e1)),Iv 7 (len s0),Iv 8 w] [])) (λu=>(0,(bL [] []))) (λu=>(bL [Iv 4 u] [])) (λw=>bB 7 9 (bQ 16 λB _=>yU 1 a.f B λC _=>bB 2 16 bh bh) bh) (λu=>bh) (λu=>bh)))
def hU(s0:Sl Var)(p1:Var->a_ X'):a_ X':=(fJ s0 p1).bind λu=>some (decide (u>=0))
abbrev qI(g1:FuncId)(e1:aZ V)(p1:Var->a_ Bool)(a:kQ Sy cL g1 [] e1 (λz:Var=>[enc z]) (λr:Bool=>[.bool r]) p1 true)(s0:Sl Var):Fc Sy cL (hU s0 p1):=Fc.M 166 [enc s0,.clo g1 [] e1] (bG (F:=oA g1 e1 p1 a s0) 9 λu _=>bh)
namespace fu
def br(D:Sl Var)(G:Int)(J:bX)(B:Int):a_ (Fw Int Unit Int):=bl (decide (B<G)) ((idx D B).bind λu=>(gO u.name).bind λI=>(bl I ((fZ J.vars none (some B)).bind λL=>(hU L (λz=>kn z u)).bind λO=>some O) (some true):a_ X').bind λw=>bl w (some (.r 13)) ((oN u.init_ (-1073741824) 1073741824).bind λC=>bl C (some (.n (wrap .i64 (B+1)))) (some (.r 2)))) (some (.x ()))
def W1(D:Sl Var)(G J:Int)(B:bX):QQ:=(bW (λq:Int=>br D G B q) J).bind (Fw.elim (λe=>bl (decide ((len B.events)>64)) (some 5) (some 0)) (λe=>some e))
end fu
def fu(G:Z4)(p1:Int):QQ:=(idx G.procs p1).bind λu=>(gO u.name).bind λw=>(bl w ((fZ G.procs none (some p1)).bind λB=>(iZ B (λz=>ku z u)).bind λC=>some C) (some true):a_ X').bind λD=>bl D (some 13) (bl (decide ((len u.vars)>8)) (some 5) (fu.W1 u.vars (len u.vars) 0 u))
open fu in
instance OU(D:Z4)(p1:Int):Fc Sy cL (fu D p1):=Fc.M 128 [enc D,.int .i64 p1] (cw 2 2 D (bQ 8 λu _=>nN 2 5 0 u (bG 8 λO _=>b_ 2 7 [1,2,18] 25 (dy 2 18 (BD 3 false true [.int .i64 p1] λG _=>cU (F:=wD 165 [.fptr (cells u)] (λz=>ku z u) kQ.pQ G) 1 λQ _=>bD 1) (bD 7)) λS=>bB 3 13 bh (b8 5 u.vars (bB 4 26 bh (b8 9 u.vars (eA 5 (λB=>(bL [Pv 5,Cv 32 u.vars,Iv 33 (len u.vars),Iv 34 B] [Xb 5 u])) (λw=>(1,(bL [Pv 5] [Xb 5 u]))) (λw=>(bL [Iv 4 w] [])) (λB=>bB 7 35 (bQ 8 λC _=>bG 11 λT _=>b_ 2 7 [6,44] 51 (dy 2 44 (BD 3 false true [.int .i64 B] λI _=>cU (F:=qI 167 [.fptr (cells C)] (λz=>kn z C) kQ.pQ I) 1 λU _=>bD 1) (bD 7)) λJ=>bB 3 39 bh (bG 5 λL _=>dy 4 52 bh bh)) bh) (λw=>b8 7 u.events (bB 3 61 bh bh)) (λw=>bh))))))))
def jP(B:Z4):a_ Z4:=some B
instance WJ(B:Z4):Fc Sy cL (jP B):=Fc.NE (λr:Z4=>[(.clo 168 [] [.fptr (cells r)])]) 129 [enc B] (cw 2 1 B bh)
namespace jb
def J1(p1:Int)(D:X')(G:Z4)(B:WF):a_ X':=bl D ((oN B.peer 0 (wrap .i64 ((len G.procs)-1))).bind λu=>(bl u (some (!(B.peer==p1))) (some false):a_ X').bind λw=>(bl w ((oN B.message 0 199).bind λz=>some z) (some false):a_ X').bind λC=>some C) (some false)
end jb
def jb(B:Z4)(p1:Int)(e2:WF):a_ X':=bl (e2.kind==1) ((bl (e2.peer==0) (some (e2.message==0)) (some false):a_ X').bind λu=>some u) (bl (e2.kind==2) (jb.J1 p1 true B e2) (jb.J1 p1 (e2.kind==3) B e2))
open jb in
instance VO(B:Z4)(p1:Int)(e2:WF):Fc Sy cL (jb B p1 e2):=Fc.M 169 [enc B,.int .i64 p1,enc e2] (cw 2 3 B (cw 0 5 e2 (bB 17 9 (b_ 7 4 [5,14] 18 (bB 7 14 (bD 4) (bD 4)) λD=>bh) (bB 8 19 (uf 4 (bB 0 19 (b8 7 B.procs (bG 1 λu _=>b_ 1 5 [1,29] 34 (bB 1 29 (bD 5) (bD 5)) λw=>b_ 1 4 [5,35] 39 (bB 1 35 (bG 2 λz _=>bD 1) (bD 4)) λC=>bh)) bh)) (uf 7 (bB 0 19 (b8 7 B.procs (bG 1 λu _=>b_ 1 5 [1,29] 34 (bB 1 29 (bD 5) (bD 5)) λw=>b_ 1 4 [5,35] 39 (bB 1 35 (bG 2 λz _=>bD 1) (bD 4)) λC=>bh)) bh))))))
def lI(B D:Assign):a_ X':=some (B.var==D.var)
instance Mc(B D:Assign):Fc Sy cL (lI B D):=Fc.M 171 [enc B,.fptr (cells D)] (bh)
namespace gb
def br(s0:Sl Assign)(D:Int)(B:Int)(p1:Assign->a_ X'):a_ (Fw Int Unit Int):=bl (decide (B<D)) ((idx s0 B).bind λu=>(p1 u).bind λw=>bl w (some (.r B)) (some (.n (wrap .i64 (B+1))))) (some (.x ()))
def W1(s0:Sl Assign)(B D:Int)(p1:Assign->a_ X'):QQ:=(bW (λq:Int=>br s0 B q p1) D).bind (Fw.elim (λe=>some (-1)) (λe=>some e))
end gb
def gb(s0:Sl Assign)(p1:Assign->a_ X'):QQ:=gb.W1 s0 (len s0) 0 p1
open gb in
abbrev wT(g1:FuncId)(e1:aZ V)(p1:Assign->a_ Bool)(a:kQ Sy cL g1 [] e1 (λz:Assign=>[enc z]) (λr:Bool=>[.bool r]) p1 true)(s0:Sl Assign):Fc Sy cL (gb s0 p1):=Fc.M 208 [enc s0,.clo g1 [] e1] (b8 9 s0 (eA 5 (λw=>(bL [Cv 0 s0,(1,.v (.clo g1 [] e1)),Iv 7 (len s0),Iv 8 w] [])) (λu=>(0,(bL [] []))) (λu=>(bL [Iv 4 u] [])) (λw=>bB 7 9 (bQ 16 λB _=>yU 1 a.f B λC _=>bB 2 16 bh bh) bh) (λu=>bh) (λu=>bh)))
def iB(s0:Sl Assign)(p1:Assign->a_ X'):a_ X':=(gb s0 p1).bind λu=>some (decide (u>=0))
abbrev u7(g1:FuncId)(e1:aZ V)(p1:Assign->a_ Bool)(a:kQ Sy cL g1 [] e1 (λz:Assign=>[enc z]) (λr:Bool=>[.bool r]) p1 true)(s0:Sl Assign):Fc Sy cL (iB s0 p1):=Fc.M 170 [enc s0,.clo g1 [] e1] (bG (F:=wT g1 e1 p1 a s0) 9 λu _=>bh)
namespace dU
def bU(D:Sl Assign)(G:Int)(J:WF)(U:bX)(B:Int):a_ (Fw Int Unit Int):=bl (decide (B<G)) ((idx D B).bind λu=>(oN u.var 0 (wrap .i64 ((len U.vars)-1))).bind λI=>(bl I ((oN u.value (-1073741824) 1073741824).bind λL=>some (!L)) (some true):a_ X').bind λO=>bl O (some (.r 2)) ((fZ J.assign none (some B)).bind λw=>(iB w (λz=>lI z u)).bind λC=>bl C (some (.r 8)) (some (.n (wrap .i64 (B+1)))))) (some (.x ()))
def W2(B:Sl Assign)(D G:Int)(J:WF)(U:bX):QQ:=(bW (λq:Int=>bU B D J U q) G).bind (Fw.elim (λe=>some 0) (λe=>some e))
def J1(D:Int)(J:Z4)(G:bf)(B:WF)(U:bX):QQ:=(jb J G.proc B).bind λu=>bl u ((oN B.time 0 1099511627776).bind λw=>(bl w (some (decide (B.time<D))) (some true):a_ X').bind λz=>bl z (some 11) (bl (decide ((len B.assign)>8)) (some 5) (dU.W2 B.assign (len B.assign) 0 B U))) (some 3)
theorem qN(D:Int)(U:Z4)(J:bf)(B:WF)(G:bX):Le ((J1 D U J B G).bind (λr=>some [.int .i64 r])) (cg Sy cL (qR (tr Tx 130)) (uF (tb Tx 130) [1,1,1,1,0] [] (bL [Pv 3,Pv 4,Pv 5,Pv 7,Iv 8 D] [Xb 3 U,Xb 4 J,Xb 5 B,Xb 7 G]))):=bG 8 λO _=>dy 4 28 (bG 5 λQ _=>b_ 2 5 [8,40] 45 (dy 2 40 (bD 5) (bD 5)) λS=>bB 3 35 bh (b8 5 B.assign (bB 4 46 bh (b8 9 B.assign (eA 5 (λw=>(bL [Pv 5,Pv 7,Cv 52 B.assign,Iv 53 (len B.assign),Iv 54 w] [Xb 5 B,Xb 7 G])) (λu=>(1,(bL [] []))) (λu=>(bL [Iv 6 u] [])) (λw=>bB 7 55 (bQ 8 λC _=>b8 13 G.vars (bG 1 λT _=>b_ 2 5 [68] 73 (dy 2 68 (bG 2 λW _=>bD 2) (bD 5)) λX=>bB 3 59 bh (BD 6 false true [.int .i64 w] λI _=>cU (F:=u7 171 [.fptr (cells C)] (λz=>lI z C) kQ.pQ I) 1 λL _=>bB 3 74 bh bh))) bh) (λu=>bh) (λu=>bh)))))) bh
end dU
def dU(D:Z4)(B:bf)(e2:WF):QQ:=(idx D.procs B.proc).bind λu=>bl (decide (B.index>1)) ((idx u.events (wrap .i64 (B.index-2))).bind λw=>dU.J1 w.time D B e2 u) (dU.J1 0 D B e2 u)
open dU in
instance Pb(D:Z4)(B:bf)(e2:WF):Fc Sy cL (dU D B e2):=Fc.M 130 [enc D,enc B,enc e2] (cw 2 3 D (cw 1 5 e2 (bQ 9 λu _=>nN 2 7 0 u (bB 15 19 (bQ 7 λw _=>za 6 (qN w.time D B e2 u)) (za 4 (qN 0 D B e2 u))))))
def rH(e0:WF)(B D:Int):a_ X':=(bl (e0.kind==2) (some (e0.message==B)) (some false):a_ X').bind λu=>(bl u (some (e0.peer==D)) (some false):a_ X').bind λw=>some w
instance SE(e0:WF)(B D:Int):Fc Sy cL (rH e0 B D):=Fc.M 209 [enc e0,.fptr (cells B),.fptr (cells D)] (cw 2 3 e0 (b_ 9 5 [1,8] 13 (bB 9 8 (bD 5) (bD 5)) λu=>b_ 1 5 [2,3,14] 19 (bB 1 14 (bD 5) (bD 5)) λw=>bh))
def vB(D:Z4)(p1 G B:Int):a_ X':=(idx D.procs p1).bind λu=>(gF u.events (λz=>rH z G B)).bind λw=>some w
instance Xu(G:Z4)(p1 D B:Int):Fc Sy cL (vB G p1 D B):=Fc.M 172 [enc G,.int .i64 p1,.int .i64 D,.int .i64 B] (cw 2 4 G (bQ 10 λu _=>cU (F:=mb 209 [.fptr (cells D),.fptr (cells B)] (λz=>rH z D B) kQ.pQ u.events) 3 λw _=>bh))
namespace fA
def kz(D G:Z4)(J:a_ (cu 200 bF))(U:bf)(W:Int)(x:bf×WF)(B:cu 200 bF):a_ (Fw (cu 200 bF) Empty (bf×Int×(cu 200 bF))):=bl (x.2.kind==2) ((cu.at B x.2.message).bind λu=>bl (decide (u.from_.index>0)) (some (.r (x.1,8,B))) ((cu.at B x.2.message).bind λw=>some (.n (cu.set B x.2.message (⟨x.1,w.to_⟩:bF))))) (bl (x.2.kind==3) ((cu.at B x.2.message).bind λz=>bl (decide (z.to_.index>0)) (some (.r (x.1,8,B))) ((vB G x.2.peer x.2.message x.1.proc).bind λC=>bl C ((cu.at B x.2.message).bind λI=>some (.n (cu.set B x.2.message (⟨I.from_,x.1⟩:bF)))) (some (.r (x.1,7,B))))) (some (.n B)))
def E1(B G:Z4)(J:a_ (cu 200 bF))(U:bf)(W:Int)(D:cu 200 bF):a_ ((a_ (cu 200 bF))×bf×Int):=(jL B).bind λu=>(lE (λ(x:bf×WF)(q:cu 200 bF)=>kz B G J U W x q) u D).bind (Fw.rI (λq=>some (some q,⟨0,0⟩,0)) (λe=>elim e) (λe=>some ((none:a_ (cu 200 bF)),e.1,e.2.1)))
end fA
def fA(B:Z4):a_ ((a_ (cu 200 bF))×bf×Int):=(jP B).bind λu=>fA.E1 u B (none:a_ (cu 200 bF)) (⟨0,0⟩:bf) 0 (cu.Pc 200 (⟨⟨0,0⟩,⟨0,0⟩⟩:bF))
open fA in
instance N9(D:Z4):Fc Sy cL (fA D):=Fc.N 131 [enc D] (cw 2 1 D (cw 8 10 (cu.Pc 200 (⟨⟨0,0⟩,⟨0,0⟩⟩:bF)) (YU 0 5 (bL [Pv 1,Pv 2,Pv 3,Pv 4,Pv 10] [Xb 1 D,(2,.box [cv (none:a_ (cu 200 bF))]),Xb 3 (⟨0,0⟩:bf),(4,.box [iv 0]),Xb 10 (cu.Pc 200 (⟨⟨0,0⟩,⟨0,0⟩⟩:bF))]) [cv (none:a_ (cu 200 bF))] (by simp only[bL,zU,rK,tP,si,tX,vh,tE,vo,rT,tQ,zI,uO,uW,uM,uT,xx,xB,tF,u9];rfl) (bG 7 λB _=>GA λO C=>CT 4 [Pv 1,Pv 2,Pv 3,Pv 4,Pv 5,(12,.v (.clo 168 [] [.fptr (cells B)]))] (λw=>[Xb 1 D,(2,.box [cv (none:a_ (cu 200 bF))]),Xb 3 (⟨0,0⟩:bf),(4,.box [iv 0]),(5,.box [.ptr 10 0]),Xb 10 w]) (λz=>elim z) (λz=>[Xb 1 D,(2,.box [cv (none:a_ (cu 200 bF))]),Xb 3 z.1,(4,.box [iv z.2.1]),(5,.box [.ptr 10 0]),Xb 10 z.2.2]) (z7 B O C) (λu w=>YU 2 6 ⟨[Pv 1,Pv 2,Pv 3,Pv 4,Pv 5,(12,.v (.clo 168 [] [.fptr (cells B)])),Cv 13 u.1,Cv 14 u.2],[Xb 1 D,(2,.box [cv (none:a_ (cu 200 bF))]),Xb 3 (⟨0,0⟩:bf),(4,.box [iv 0]),(5,.box [.ptr 10 0]),Xb 10 w],[1,2,3,4,5],[],true,0⟩ [iv 0,iv 0] (by simp only[bL,zU,rK,tP,si,tX,vh,tE,vo,rT,tQ,zI,uO,uW,uM,uT,xx,xB,tF,u9];rfl) (YU 4 7 ⟨[Pv 1,Pv 2,Pv 3,Pv 4,Pv 5,(12,.v (.clo 168 [] [.fptr (cells B)])),Cv 14 u.2,Pv 6],[Xb 1 D,(2,.box [cv (none:a_ (cu 200 bF))]),Xb 3 (⟨0,0⟩:bf),(4,.box [iv 0]),(5,.box [.ptr 10 0]),Xb 10 w,Xb 6 u.1],[1,2,3,4,5],[],true,0⟩ [iv 0,iv 0,iv 0,iv 0,.v .bO] (by simp only[bL,zU,rK,tP,si,tX,vh,tE,vo,rT,tQ,zI,uO,uW,uM,uT,xx,xB,tF,u9];rfl) (nN 0 7 0 u.2 (zC 1 (bB 22 19 (Ix 7 .i64 10 λG Q=>Uh 2 1 false 10 w u.2.message 1 G Q (.int .i64 G.from_.index) (by rfl) (bB 3 28 bh (Ix 8 .i64 10 λI S=>U0 1 10 w u.2.message 0 I S (⟨u.1,I.to_⟩:bF) u.1 rfl bh))) (bB 7 36 (Ix 7 .i64 10 λJ T=>Uh 2 1 false 10 w u.2.message 3 J T (.int .i64 J.to_.index) (by rfl) (bB 3 45 bh (bG 12 λW _=>dy 3 54 (Ix 8 .i64 10 λL U=>U0 1 10 w u.2.message 2 L U (⟨L.from_,u.1⟩:bF) u.1 rfl bh) bh))) bh)))))) (λw=>ZM 13 (bL [Pv 2,Pv 3,Pv 4] [(2,.box [.ptr 10 0]),Xb 3 (⟨0,0⟩:bf),(4,.box [iv 0]),Xb 10 w]) [.ptr 10 0,cv (⟨0,0⟩:bf),iv 0] (WR (d:=10) (x:=w) (vs:=[enc (⟨0,0⟩:bf),.int .i64 0]) Zae) Zae) (λx=>elim x) (λz=>bh)))))
namespace jJ
def J1(D:cu 200 bF)(B:Sl bf)(J:Sl WF)(G:bf):a_ (Sl bf):=(idx J (wrap .i64 (G.index-1))).bind λu=>(bl (u.kind==2) ((cu.at D u.message).bind λw=>some (decide (w.to_.index>0))) (some false):a_ X').bind λz=>bl z ((cu.at D u.message).bind λC=>(gy B (C.to_:bf)).bind λI=>some I) (some B)
theorem qN(B:cu 200 bF)(D:Sl bf)(J:Sl WF)(G:bf):Le ((J1 B D J G).bind (λr=>some [enc r])) (cg Sy cL (qR (tr Tx 173)) (uF (tb Tx 173) [1,1,1,1,0,0] [] (bL [Kv 1 B,Pv 5,Ov 7,Cv 8 J] [Xb 5 G,Lb 2007 D]))):=bQ 7 λu _=>nN 2 9 0 u (b_ 8 10 [40] 50 (bB 8 40 (Oo 4 .i64 λw z=>SP 0 2 B u.message 0 w z (SP 0 1 B u.message 2 w z (NO 0 1 false B u.message 3 w z (.int .i64 w.to_.index) (by rfl) (bD 2)))) (bD 10)) λL=>bB 2 50 (Oo 7 .i64 λC I=>SP 0 2 B u.message 0 C I (NO 0 2 true B u.message 2 C I (enc C.to_) (by rfl) (oI 1 2007 59 60 λO _=>bh))) bh)
end jJ
def jJ(D:Z4)(B:cu 200 bF)(x2:bf):a_ (Sl bf):=(idx D.procs x2.proc).bind λu=>bl (decide (x2.index<(len u.events))) (jJ.J1 B (Sl.row [⟨x2.proc,wrap .i64 (x2.index+1)⟩]:Sl bf) u.events x2) (jJ.J1 B (Sl.nil:Sl bf) u.events x2)
open jJ in
instance Xt(D:Z4)(B:cu 200 bF)(x2:bf):Fc Sy cL (jJ D B x2):=Fc.N 173 [enc D,.fptr (cells B),enc x2] (cw 2 3 D (bQ 15 λu _=>b8 11 u.events (bB 3 21 (UK 10 29 30 .bO (⟨x2.proc,wrap .i64 (x2.index+1)⟩:bf) (za 5 (qN B (Sl.row [⟨x2.proc,wrap .i64 (x2.index+1)⟩]:Sl bf) u.events x2))) (za 5 (qN B (Sl.nil:Sl bf) u.events x2)))))
namespace i_
def fq(U:Z4)(W:Sl bf)(Y:Int)(a:Z4)(b:cu 200 bF)(c:bf)(d:X')(J:bf)(B:Sl bf)(G:Int)(D:Mo bf X'):a_ (Fw ((Sl bf)×Int×(Mo bf X')) ((Sl bf)×(Mo bf X')) Unit):=bl (decide (G<Y)) ((idx W G).bind λu=>bl (MG u J) (some (.r ())) (bl (oJ D u false) (some (.n (B,wrap .i64 (G+1),D))) ((gy B (u:bf)).bind λw=>some (.n (w,wrap .i64 (G+1),mU D u true))))) (some (.x (B,D)))
def W3(D:Sl bf)(B:Z4)(U:Sl bf)(W Y:Int)(a:Z4)(b:cu 200 bF)(c:bf)(d:X')(G:bf)(J:Mo bf X'):a_ (Fw ((Sl bf)×(Mo bf X')) Unit Unit):=(bW (λq:(Sl bf)×Int×(Mo bf X')=>fq B U W a b c d G q.1 q.2.1 q.2.2) (D,Y,J)).bind (Fw.elim (λe=>some (.n (e.1,e.2))) (λe=>some (.r ())))
def bU(D G:Z4)(J:cu 200 bF)(Y:bf)(a:X')(U:bf)(B:Sl bf)(W:Mo bf X'):a_ (Fw ((Sl bf)×(Mo bf X')) Unit Unit):=bl (decide ((len B)>0)) ((Sl.jg B (wrap .i64 ((len B)-1))).bind λw=>(Sl.get B w).bind λz=>(qf B none (some (wrap .i64 ((len B)-1)))).bind λC=>(jJ G J z).bind λu=>W3 C D u (len u) 0 G J Y a U W) (some (.x ()))
def W2(G:Sl bf)(B U:Z4)(W:cu 200 bF)(Y:bf)(a:X')(D:bf)(J:Mo bf X'):a_ (Fw Unit Empty bf):=(bW (λq:(Sl bf)×(Mo bf X')=>bU B U W Y a D q.1 q.2) (G,J)).bind (Fw.elim (λe=>some (.n ())) (λe=>some (.r D)))
def kz(B D:Z4)(G:cu 200 bF)(J:bf)(U:X')(x:bf×WF):a_ (Fw Unit Empty bf):=W2 (Sl.row [x.1]:Sl bf) B D G J U x.1 []
def E1(B D:Z4)(G:cu 200 bF)(J:bf)(U:X'):a_ (bf×X'):=(jL B).bind λu=>(lE (λ(x:bf×WF)(q:Unit)=>kz B D G J U x) u ()).bind (Fw.rI (λq=>some (⟨0,0⟩,false)) (λe=>elim e) (λe=>some (e,true)))
end i_
def i_(B:Z4)(D:cu 200 bF):a_ (bf×X'):=(jP B).bind λu=>i_.E1 u B D (⟨0,0⟩:bf) false
open i_ in
instance V8(B:Z4)(G:cu 200 bF):Fc Sy cL (i_ B G):=Fc.M 132 [enc B,.fptr (cells G)] (cw 2 2 B (bG 9 λw _=>GA λU Q=>CT 4 [Pv 2,Pv 3,Pv 4,Pv 5,(13,.v (.clo 168 [] [.fptr (cells w)]))] (λS=>[Xb 2 B,(3,.box [cp G]),Xb 4 (⟨0,0⟩:bf),(5,.box [bv false])]) (λI=>elim I) (λI=>[Xb 2 B,(3,.box [cp G]),Xb 4 I,(5,.box [bv true])]) (z7 w U Q) (λC S=>zC 4 (eA 18 (λu=>⟨[Pv 2,Pv 3,Pv 4,Pv 5,Pv 6,(7,.mp 16),Ov 8,(13,.v (.clo 168 [] [.fptr (cells w)]))],[Xb 2 B,(3,.box [cp G]),Xb 4 (⟨0,0⟩:bf),(5,.box [bv false]),Xb 6 C.1,(16,uV u.2),Lb 2008 u.1],[2,3,4,5],[],true,0⟩) (λJ=>(2,⟨[Pv 2,Pv 3,Pv 4,Pv 5,(13,.v (.clo 168 [] [.fptr (cells w)]))],[Xb 2 B,(3,.box [cp G]),Xb 4 (⟨0,0⟩:bf),(5,.box [bv false])],[2,3,4,5],[],true,0⟩)) (λJ=>⟨[],[Xb 2 B,(3,.box [cp G]),Xb 4 C.1,(5,.box [bv true])],[2,3,4,5],[],true,0⟩) (λu=>Ez 6 2008 u.1 (bB 3 21 (Ez 8 2008 u.1 (iQ .i64 1 2008 λW _=>ow 0 2008 0 2 true (λL=>.agg [.int .i64 L.proc,.int .i64 L.index]) λL _=>Ez 8 2008 u.1 (Zv 1 false true 2008 32 [.int .i64 (wrap .i64 ((len u.1)-1))] λX _=>bG 8 λO _=>b8 0 O (eA 6 (λz=>⟨[Pv 2,Pv 3,Pv 4,Pv 5,Pv 6,(7,.mp 16),Ov 8,(13,.v (.clo 168 [] [.fptr (cells w)])),Cv 36 O,Iv 37 (len O),Iv 38 z.2.1],[Xb 2 B,(3,.box [cp G]),Xb 4 (⟨0,0⟩:bf),(5,.box [bv false]),Xb 6 C.1,(16,uV z.2.2),Lb 2008 z.1],[2,3,4,5],[],true,0⟩) (λD=>(4,⟨[Pv 2,Pv 3,Pv 4,Pv 5,Pv 6,(7,.mp 16),Ov 8,(13,.v (.clo 168 [] [.fptr (cells w)]))],[Xb 2 B,(3,.box [cp G]),Xb 4 (⟨0,0⟩:bf),(5,.box [bv false]),Xb 6 C.1,(16,uV D.2),Lb 2008 D.1],[2,3,4,5],[],true,0⟩)) (λD=>⟨[],[Xb 2 B,(3,.box [cp G]),Xb 4 C.1,(5,.box [bv true])],[2,3,4,5],[],true,0⟩) (λz=>bB 8 39 (bQ 7 λT _=>bB 13 44 bh (ZA 7 16 z.2.2 T false (dy 3 49 bh (XW 5 16 z.2.2 T true (oI 6 2008 54 55 λY _=>bh))))) bh) (λD=>bh) (λD=>bh))))) bh)) (λJ=>bh) (λJ=>bh))) (λS=>bh) (λx=>elim x) (λI=>bh)))
namespace iE
def MW(B D:Z4)(G:bf)(J:Int)(x:bf×WF):a_ (Fw Unit Empty (bf×Int)):=(dU D x.1 x.2).bind λu=>bl (u==0) (some (.n ())) (some (.r (x.1,u)))
def E2(B D:Z4)(G:bf)(J:Int):a_ (bf×Int):=(jL B).bind λz=>(lE (λ(x:bf×WF)(q:Unit)=>MW B D G J x) z ()).bind (Fw.rI (λq=>(fA D).bind λu=>bl (u.2.2==0) ((u.1).bind λC=>(i_ D C).bind λw=>bl w.2 (some (w.1,10)) (some (⟨0,0⟩,0))) (some (u.2.1,u.2.2))) (λe=>elim e) (λe=>some (e.1,e.2)))
def br(D:Int)(G:Z4)(J:bf)(U:Int)(B:Int):a_ (Fw Int Unit (bf×Int)):=bl (decide (B<D)) ((fu G B).bind λu=>bl (u==0) (some (.n (wrap .i64 (B+1)))) (some (.r ((⟨B,0⟩:bf),u)))) (some (.x ()))
def W1(J U:Int)(B:Z4)(D:bf)(G:Int):a_ (bf×Int):=(bW (λq:Int=>br J B D G q) U).bind (Fw.elim (λe=>(jP B).bind λu=>iE.E2 u B D G) (λe=>some (e.1,e.2)))
end iE
def iE(B:Z4):a_ (bf×Int):=(oN (len B.procs) 1 8).bind λu=>bl u (iE.W1 (len B.procs) 0 B (⟨0,0⟩:bf) 0) (some (⟨0,0⟩,1))
open iE in
instance Xs(B:Z4):Fc Sy cL (iE B):=Fc.M 97 [enc B] (cw 2 1 B (b8 9 B.procs (bG 0 λO _=>dy 3 18 (b8 8 B.procs (eA 5 (λC=>(bL [Pv 1,Pv 2,Pv 3,Iv 22 (len B.procs),Iv 23 C] [Xb 1 B,Xb 2 (⟨0,0⟩:bf),(3,.box [iv 0])])) (λu=>(0,(bL [Pv 1,Pv 2,Pv 3] [Xb 1 B,Xb 2 (⟨0,0⟩:bf),(3,.box [iv 0])]))) (λu=>(bL [Pv 2,Pv 3] [Xb 2 u.1,(3,.box [iv u.2])])) (λC=>bB 7 24 (bG 15 λQ _=>dy 9 30 bh bh) bh) (λu=>bG 6 λz _=>GA λJ D=>CT 4 [Pv 1,Pv 2,Pv 3,(36,.v (.clo 168 [] [.fptr (cells z)]))] (λG=>[Xb 1 B,Xb 2 (⟨0,0⟩:bf),(3,.box [iv 0])]) (λw=>elim w) (λw=>[Xb 1 B,Xb 2 w.1,(3,.box [iv w.2])]) (z7 z J D) (λL G=>nN 8 7 0 L.2 (zC 1 (bG 7 λS _=>dy 9 44 bh bh))) (λG=>bG 5 λI _=>dy 17 54 (Kj 8 (λT=>(bL [Pv 2,Pv 3,(36,.v (.clo 168 [] [.fptr (cells z)])),Pv 10,Iv 11 I.2.2,Bv 54 false,Cv 58 B,Cv 59 T] [Xb 1 B,Xb 2 (⟨0,0⟩:bf),(3,.box [iv 0]),Xb 10 I.2.1])) λU _=>bG 0 λW _=>bB 13 63 bh bh) bh) (λx=>elim x) (λw=>bh)) (λu=>bh))) bh)))
def dw(B:Z4):a_ X':=(iE B).bind λu=>some (u.2==0)
instance Xl(B:Z4):Fc Sy cL (dw B):=Fc.M 56 [enc B] (cw 2 1 B (bG 6 λu _=>bh))
def uP(B:Int):a_ X':=(bl (B==2) (some true) (some (B==3)):a_ X').bind λu=>(bl u (some true) (some (B==4)):a_ X').bind λw=>some w
instance Ub(B:Int):Fc Sy cL (uP B):=Fc.M 216 [.int .i64 B] (b_ 10 3 [5] 8 (bB 10 5 (bD 3) (bD 3)) λu=>b_ 1 3 [0,9] 12 (bB 1 9 (bD 3) (bD 3)) λw=>bh)
def lq(B:Pred):a_ X':=(bl (decide (B.kind<1)) (some true) (some (decide (B.kind>=22))):a_ X').bind λz=>(bl z (some true) ((cu.at Aq B.kind).bind λC=>some (!((len B.l)==C))):a_ X').bind λD=>(bl D (some true) (some (decide (B.n<0))):a_ X').bind λG=>(bl G (some true) (some (decide (B.n>1125899906842624))):a_ X').bind λI=>(bl I (some true) ((bl (B.n==0) (some false) (some (!(B.kind==1))):a_ X').bind λJ=>some J):a_ X').bind λL=>bl L (some false) ((uP B.kind).bind λO=>(bl O (some true) ((bl (B.proc==0) (some (B.peer==0)) (some false):a_ X').bind λQ=>(bl Q (some (toList B.name==toList ByteArray.empty)) (some false):a_ X').bind λu=>some u):a_ X').bind λw=>some w)
instance UO(B:Pred):Fc Sy cL (lq B):=Fc.M 179 [enc B] (cw 2 1 B (b_ 10 4 [6] 10 (bB 10 6 (bD 4) (bD 4)) λD=>b_ 1 9 [11] 20 (bB 1 11 (bD 9) (jI 2 13 (Pred.mJ B.l) (b8 0 B.l (Oo 2 .i64 λu w=>NO 0 1 false Aq B.kind 0 u w (.int .i64 u) (by rfl) (bD 2))))) λG=>b_ 1 4 [21] 25 (bB 1 21 (bD 4) (bD 4)) λI=>b_ 1 4 [26] 30 (bB 1 26 (bD 4) (bD 4)) λJ=>b_ 1 9 [31] 40 (bB 1 31 (bD 9) (b_ 4 4 [35] 39 (dy 4 35 (bD 4) (bD 4)) λL=>bD 1)) λO=>bB 2 40 bh (bG 7 λQ _=>b_ 1 14 [1,44] 58 (bB 1 44 (bD 14) (b_ 4 4 [48] 52 (bB 4 48 (bD 4) (bD 4)) λS=>b_ 1 4 [1,53] 57 (bB 1 53 (bD 4) (bD 4)) λz=>bD 1)) λC=>bh)))
def iR(D:Pred)(G B:Int)(r:(Pred×Int×Int)->a_ (X'×Int)):a_ (X'×Int):=(r (D,wrap .i64 (G+1),B)).bind λu=>some ((!u.1),u.2)
abbrev ye(r:(Pred×Int×Int)->a_ (Bool×Int))(a:xR Sy cL 178 (λz:Pred×Int×Int=>[cv z.1,iv z.2.1,.ptr 9004 0,.ptr 9003 0]) (λz:Pred×Int×Int=>[(9004,bx (z.2.2:Int)),(9003,.box [.clo 178 [] [.ptr 9004 0,.ptr 9003 0]])]) (λr:Bool×Int=>[.bool r.1]) (λ(z:Pred×Int×Int)(r:Bool×Int)=>[(9004,bx (r.2:Int)),(9003,.box [.clo 178 [] [.ptr 9004 0,.ptr 9003 0]])]) r)(D:Pred)(G B:Int):oa Sy cL (iR D G B r):=oa.mk' 180 [cv D,.ptr 9003 0,.v (.fptr (cells G))] [(9003,.box [.clo 178 [] [.ptr 9004 0,.ptr 9003 0]]),(9004,bx (B:Int))] (λr:Bool×Int=>[.bool r.1]) (λr:Bool×Int=>[(9003,.box [.clo 178 [] [.ptr 9004 0,.ptr 9003 0]]),(9004,bx (r.2:Int))]) (cw 2 3 D (ud 9 (oa.of (D,wrap .i64 (G+1),B) a) λu _=>bh))
def e_(G:Pred)(B D:Int)(r:(Pred×Int×Int)->a_ (X'×Int)):a_ (X'×Int):=(bl (decide ((wrap .i64 (D-1))<0)) (some true) (some (decide (B>20))):a_ X').bind λw=>(bl w (some true) ((lq G).bind λz=>some (!z)):a_ X').bind λC=>bl C (some (false,wrap .i64 (D-1))) ((AS G.l (λx s=>iR x B s r) (wrap .i64 (D-1))).bind λu=>some ((!u.1),u.2))
theorem yf(r:(Pred×Int×Int)->a_ (X'×Int))(a:xR Sy cL 178 (λz:Pred×Int×Int=>[cv z.1,iv z.2.1,.ptr 9004 0,.ptr 9003 0]) (λz:Pred×Int×Int=>[(9004,bx (z.2.2:Int)),(9003,.box [.clo 178 [] [.ptr 9004 0,.ptr 9003 0]])]) (λr:X'×Int=>[.bool r.1]) (λ(z:Pred×Int×Int)(r:X'×Int)=>[(9004,bx (r.2:Int)),(9003,.box [.clo 178 [] [.ptr 9004 0,.ptr 9003 0]])]) r)(D:Pred)(B G:Int):∀J,e_ D B G r=some J->∃m',cL 178 [cv D,iv B,.ptr 9004 0,.ptr 9003 0] [(9004,bx (G:Int)),(9003,.box [.clo 178 [] [.ptr 9004 0,.ptr 9003 0]])]=some (((λr:X'×Int=>[.bool r.1]) J).map .v,m')/\∀U,lP m' ([(9004,bx (G:Int)),(9003,.box [.clo 178 [] [.ptr 9004 0,.ptr 9003 0]])].map (·.1)) U=some (pX U ((λr:X'×Int=>[(9004,bx (r.2:Int)),(9003,.box [.clo 178 [] [.ptr 9004 0,.ptr 9003 0]])]) J)):=(oa.mk' 178 [cv D,iv B,.ptr 9004 0,.ptr 9003 0] [(9004,bx (G:Int)),(9003,.box [.clo 178 [] [.ptr 9004 0,.ptr 9003 0]])] (λr:X'×Int=>[.bool r.1]) (λr:X'×Int=>[(9004,bx (r.2:Int)),(9003,.box [.clo 178 [] [.ptr 9004 0,.ptr 9003 0]])]) (cw 2 4 D (b_ 17 3 [11] 14 (bB 17 11 (bD 3) (bD 3)) λu=>b_ 1 4 [15] 19 (bB 1 15 (bD 4) (bG 1 λw _=>bD 2)) λC=>bB 2 19 bh (jI 7 21 (Pred.mJ D.l) (ud 2 (qd (yF.ofK (σ:=Int) (g:=180) (e:=[.ptr 9003 0,cp B]) (os:=λs=>[(9003,.box [.clo 178 [] [.ptr 9004 0,.ptr 9003 0]]),(9004,bx (s:Int))]) (p:=(λx s=>iR x B s r)) (λx s=>ye r a x B s)) D.l (wrap .i64 (G-1))) λI _=>bh)))):oa Sy cL (e_ D B G r)).h
def qS(D:Pred)(B G:Int):a_ (X'×Int):=iw (λr(z:Pred×Int×Int)=>e_ z.1 z.2.1 z.2.2 r) 100000 (D,B,G)
abbrev Ak(D:Pred)(B G:Int):oa Sy cL (qS D B G):=oa.of (D,B,G) (xR.fix (A:=λz:Pred×Int×Int=>[cv z.1,iv z.2.1,.ptr 9004 0,.ptr 9003 0]) (O:=λz:Pred×Int×Int=>[(9004,bx (z.2.2:Int)),(9003,.box [.clo 178 [] [.ptr 9004 0,.ptr 9003 0]])]) (E:=λr:Bool×Int=>[.bool r.1]) (M:=λ(z:Pred×Int×Int)(r:Bool×Int)=>[(9004,bx (r.2:Int)),(9003,.box [.clo 178 [] [.ptr 9004 0,.ptr 9003 0]])]) (b:=(λr(z:Pred×Int×Int)=>e_ z.1 z.2.1 z.2.2 r)) Zae Zae Zae (λr a z=>yf r a z.1 z.2.1 z.2.2) 100000)
def mo(B:Pred):a_ X':=(qS B 1 200).bind λu=>some u.1
instance Rq(B:Pred):Fc Sy cL (mo B):=Fc.M 139 [enc B] (cw 2 1 B (ud 26 (Ak B 1 200) λu _=>bh))
def kI(B:Z4)(p1:Int):a_ X':=(bl (decide (p1>=0)) (some (decide (p1<(len B.procs)))) (some false):a_ X').bind λu=>some u
instance Rt(B:Z4)(p1:Int):Fc Sy cL (kI B p1):=Fc.M 182 [enc B,.int .i64 p1] (cw 2 2 B (b_ 8 6 [1,2,7] 13 (bB 8 7 (b8 3 B.procs (bD 2)) (bD 6)) λu=>bh))
def o4(B:Var)(D:U'):a_ X':=some (toList B.name==toList D)
instance O5(B:Var)(D:U'):Fc Sy cL (o4 B D):=Fc.M 217 [enc B,.fptr (cells D)] (bh)
def rV(D:Z4)(p1:Int)(B:U'):a_ X':=(idx D.procs p1).bind λu=>(hU u.vars (λz=>o4 z B)).bind λw=>some w
instance TE(D:Z4)(p1:Int)(B:U'):Fc Sy cL (rV D p1 B):=Fc.M 183 [enc D,.int .i64 p1,.str B] (cw 2 3 D (bQ 9 λu _=>cU (F:=qI 217 [.fptr (cells B)] (λz=>o4 z B) kQ.pQ u.vars) 3 λw _=>bh))
def kW(B:Pred)(D:Z4):a_ X':=bl (B.kind==2) ((kI D B.proc).bind λC=>(bl C (some (B.peer==0)) (some false):a_ X').bind λG=>(bl G ((rV D B.proc B.name).bind λI=>some I) (some false):a_ X').bind λJ=>some J) (bl (B.kind==3) ((kI D B.proc).bind λL=>(bl L (some (B.peer==0)) (some false):a_ X').bind λO=>(bl O (some (toList B.name==toList ByteArray.empty)) (some false):a_ X').bind λQ=>some Q) (bl (B.kind==4) ((kI D B.proc).bind λS=>(bl S ((kI D B.peer).bind λT=>some T) (some false):a_ X').bind λu=>(bl u (some (!(B.proc==B.peer))) (some false):a_ X').bind λw=>(bl w (some (toList B.name==toList ByteArray.empty)) (some false):a_ X').bind λz=>some z) (some true)))
instance Lp(B:Pred)(D:Z4):Fc Sy cL (kW B D):=Fc.M 181 [enc B,.fptr (cells D)] (cw 2 2 B (bB 17 6 (bG 6 λC _=>b_ 1 4 [12] 16 (bB 1 12 (bD 4) (bD 4)) λG=>b_ 1 7 [1,2,17] 24 (bB 1 17 (bG 5 λI _=>bD 1) (bD 7)) λJ=>bh) (bB 7 25 (bG 6 λL _=>b_ 1 4 [31] 35 (bB 1 31 (bD 4) (bD 4)) λO=>b_ 1 4 [2,36] 40 (bB 1 36 (bD 4) (bD 4)) λQ=>bh) (bB 7 41 (bG 6 λS _=>b_ 1 5 [1,47] 52 (bB 1 47 (bG 3 λT _=>bD 1) (bD 5)) λu=>b_ 1 6 [53] 59 (bB 1 53 (bD 6) (bD 6)) λw=>b_ 1 4 [2,60] 64 (bB 1 60 (bD 4) (bD 4)) λz=>bh) bh))))
def tg(B:Pred)(p1:Pred->a_ X')(r:Pred->a_ X'):a_ X':=(r B).bind λu=>some (!u)
abbrev Bs(g1:FuncId)(e1:aZ V)(p1:Pred->a_ Bool)(b:kQ Sy cL g1 [] e1 (λz:Pred=>[enc z]) (λr:Bool=>[.bool r]) p1 true)(r:Pred->a_ Bool)(a:hG Sy cL 144 (λz:Pred=>[enc z,.clo g1 [] e1]) (λr:Bool=>[.bool r]) r true)(B:Pred):Fc Sy cL (tg B p1 r):=Fc.M 190 [enc B,.fptr [.clo g1 [] e1]] (cw 2 2 B (bG (F:=Fc.of B a) 7 λu _=>bh))
def jB(D:Pred)(p1:Pred->a_ X')(r:Pred->a_ X'):a_ X':=(p1 D).bind λw=>(bl w ((AS D.l (λx u=>((λz=>tg z p1 r) x).map λb=>(b,u)) ()).bind λB=>some (!B.1)) (some false):a_ X').bind λC=>some C
theorem A5(g1:Y')(e1:T2)(p1:Pred->a_ X')(a:kQ Sy cL g1 [] e1 (λz:Pred=>[enc z]) (λr:X'=>[.bool r]) p1 true)(r:Pred->a_ X')(b:hG Sy cL 144 (λz:Pred=>[enc z,.clo g1 [] e1]) (λr:X'=>[.bool r]) r true)(B:Pred):Le ((jB B p1 r).bind λr=>some [.bool r]) (jT cL 144 [enc B,.clo g1 [] e1]):=(Fc.M 144 [enc B,.clo g1 [] e1] (cw 2 2 B (yU 8 a.f B λw _=>yo 1 6 [] (λu=>(bL [Bv 14 u] [Xb 2 B])) (bB 1 8 (jI 2 10 (Pred.mJ B.l) (ud 2 (mD (yF.Xz (g:=190) (e:=[.fptr [.clo g1 [] e1]]) (p:=(λz=>tg z p1 r)) (kQ.pQ (F:=λz=>Bs g1 e1 p1 a r b z))) B.l ()) λC _=>bD 2)) (bD 7)) λu=>bh)):Fc Sy cL (jB B p1 r)).F.h ()
def nT(B:Pred)(p1:Pred->a_ X'):a_ X':=iw (λr(z:Pred)=>jB z p1 r) 100000 B
abbrev um(g1:FuncId)(e1:aZ V)(p1:Pred->a_ Bool)(a:kQ Sy cL g1 [] e1 (λz:Pred=>[enc z]) (λr:Bool=>[.bool r]) p1 true)(B:Pred):Fc Sy cL (nT B p1):=Fc.of B (hG.fix (A:=λz:Pred=>[enc z,.clo g1 [] e1]) (E:=λr:Bool=>[.bool r]) (sc:=true) (b:=(λr(z:Pred)=>jB z p1 r)) Zae (λ_ _=>rfl) (λr c z=>A5 g1 e1 p1 a r c z) 100000)
def oW(B:Z4)(p1:Pred):a_ X':=(nT p1 (λz=>kW z B)).bind λu=>some u
instance O4(B:Z4)(p1:Pred):Fc Sy cL (oW B p1):=Fc.M 140 [enc B,enc p1] (cw 2 2 B (cw 0 3 p1 (cU (F:=um 181 [.fptr (cells B)] (λz=>kW z B) kQ.pQ p1) 7 λu _=>bh)))
def mz(B:Int):QQ:=bl (decide (B<=8)) (some 1) (some 2)
instance Ru(B:Int):Fc Sy cL (mz B):=Fc.M 186 [.int .i64 B] (bB 12 4 bh bh)
def sY(B:Int):QQ:=bl (decide (B<=12)) (some 1) (some 2)
instance Uv(B:Int):Fc Sy cL (sY B):=Fc.M 187 [.int .i64 B] (bB 12 4 bh bh)
def mM(B D:Pred):a_ X':=(mz B.kind).bind λu=>(sY D.kind).bind λw=>some (!(u==w))
instance LV(B D:Pred):Fc Sy cL (mM B D):=Fc.M 185 [enc B,.fptr (cells D)] (cw 2 2 B (cU 7 λu _=>cU 2 λw _=>bh))
def jw(B:Pred):a_ X':=(AS B.l (λx u=>((λz=>mM z B) x).map λb=>(b,u)) ()).bind λw=>some (!w.1)
instance O2(B:Pred):Fc Sy cL (jw B):=Fc.M 184 [enc B] (cw 2 1 B (jI 7 4 (Pred.mJ B.l) (ud 2 (mD (yF.Xz (g:=185) (e:=[.fptr (cells B)]) (p:=(λz=>mM z B)) kQ.pQ) B.l ()) λu _=>bh)))
def o8(B:Pred):a_ X':=(nT B (λz=>jw z)).bind λu=>some u
instance RI(B:Pred):Fc Sy cL (o8 B):=Fc.M 141 [enc B] (cw 2 1 B (bG (F:=um 184 [] (λz=>jw z) kQ.pQ B) 6 λu _=>bh))
namespace dD
def bU(D:Zg)(B i4:Int):a_ (Fw (Int×Int) Int Empty):=bl (decide (i4<(len D))) ((idx D i4).bind λu=>some (.n ((if u<B then u else B),wrap .i64 (i4+1)))) (some (.x B))
def W2(B:Zg)(D i4:Int):QQ:=(bW (λq:Int×Int=>bU B q.1 q.2) (D,i4)).bind (Fw.elim (λe=>some e) (λe=>elim e))
def J1(B:Zg):QQ:=(idx B 0).bind λu=>dD.W2 B u 1
end dD
def dD(B:Zg):QQ:=bl (decide ((len B)<1)) (none) (dD.J1 B)
open dD in
instance Uc(B:Zg):Fc Sy cL (dD B):=Fc.M 124 [enc B] (b8 9 B (bB 3 7 ((Le.none _)) (uf 4 (bQ 3 λz _=>fM 12 (λu=>(bL [Cv 0 B,Iv 3 u.1,Iv 4 u.2] [])) (λw=>(0,(bL [Iv 3 w] []))) (λu=>b8 6 B (bB 3 15 (bQ 9 λC _=>bh) bh)) (λw=>bh)))))
namespace dB
def bU(D:Zg)(B i4:Int):a_ (Fw (Int×Int) Int Empty):=bl (decide (i4<(len D))) ((idx D i4).bind λu=>some (.n ((if u>B then u else B),wrap .i64 (i4+1)))) (some (.x B))
def W2(B:Zg)(D i4:Int):QQ:=(bW (λq:Int×Int=>bU B q.1 q.2) (D,i4)).bind (Fw.elim (λe=>some e) (λe=>elim e))
def J1(B:Zg):QQ:=(idx B 0).bind λu=>dB.W2 B u 1
end dB
def dB(B:Zg):QQ:=bl (decide ((len B)<1)) (none) (dB.J1 B)
open dB in
instance Rz(B:Zg):Fc Sy cL (dB B):=Fc.M 138 [enc B] (b8 9 B (bB 3 7 ((Le.none _)) (uf 4 (bQ 3 λz _=>fM 12 (λu=>(bL [Cv 0 B,Iv 3 u.1,Iv 4 u.2] [])) (λw=>(0,(bL [Iv 3 w] []))) (λu=>b8 6 B (bB 3 15 (bQ 9 λC _=>bh) bh)) (λw=>bh)))))
def mG(B:Zg):a_ bT:=(dD B).bind λu=>(dB B).bind λw=>some ⟨u,w⟩
instance Ud(B:Zg):Fc Sy cL (mG B):=Fc.M 220 [enc B] (bG 8 λu _=>bG 1 λw _=>bh)
namespace fG
def br(U:Int)(D:Sl WF)(G:Int)(J B:Int):a_ (Fw (Int×Int) Int Empty):=bl (decide (B<G)) ((idx D B).bind λu=>(bl (u.kind==2) (some (u.peer==U)) (some false):a_ X').bind λw=>bl w (some (.n (wrap .i64 (J+1),wrap .i64 (B+1)))) (some (.n (J,wrap .i64 (B+1))))) (some (.x J))
def W1(J U:Int)(B:Sl WF)(D G:Int):QQ:=(bW (λq:Int×Int=>br J B D q.1 q.2) (U,G)).bind (Fw.elim (λe=>some e) (λe=>elim e))
end fG
def fG(B:Z4)(p1 D:Int):QQ:=(idx B.procs p1).bind λu=>fG.W1 D 0 u.events (len u.events) 0
open fG in
instance O6(B:Z4)(p1 D:Int):Fc Sy cL (fG B p1 D):=Fc.M 232 [enc B,.int .i64 p1,.int .i64 D] (cw 2 3 B (bQ 14 λu _=>b8 2 u.events (fM 5 (λw=>(bL [Iv 2 D,Iv 7 w.1,Cv 15 u.events,Iv 16 (len u.events),Iv 17 w.2] [])) (λz=>(0,(bL [Iv 7 z] []))) (λw=>bB 7 18 (bQ 7 λC _=>nN 2 9 0 C (b_ 8 5 [9,24] 29 (bB 8 24 (bD 5) (bD 5)) λG=>bB 2 29 bh bh)) bh) (λz=>bh))))
def oZ(B:Var)(D:U'):a_ X':=some (toList B.name==toList D)
instance O3(B:Var)(D:U'):Fc Sy cL (oZ B D):=Fc.M 259 [enc B,.fptr (cells D)] (bh)
def uR(D:bX)(B:U'):QQ:=(fJ D.vars (λz=>oZ z B)).bind λu=>some u
instance Ta(D:bX)(B:U'):Fc Sy cL (uR D B):=Fc.M 257 [enc D,.str B] (cw 2 2 D (cU (F:=oA 259 [.fptr (cells B)] (λz=>oZ z B) kQ.pQ D.vars) 9 λu _=>bh))
def sX(D:Z4)(p1:Int)(B:U'):a_ (Int×Int):=(dw D).bind λw=>bl w ((bl (decide (p1<0)) (some true) (some (decide (p1>=(len D.procs)))):a_ X').bind λz=>bl z (some (0,2)) ((idx D.procs p1).bind λC=>(uR C B).bind λu=>bl (decide (u<0)) (some (0,13)) (some (u,0)))) (some (0,1))
instance UL(D:Z4)(p1:Int)(B:U'):Fc Sy cL (sX D p1 B):=Fc.M 250 [enc D,.int .i64 p1,.str B] (cw 2 3 D (bG 9 λu _=>dy 4 9 (b_ 6 6 [16] 22 (bB 6 16 (bD 6) (b8 3 D.procs (bD 2))) λw=>bB 3 13 bh (bQ 9 λz _=>bG 2 λC _=>bB 10 31 bh bh)) bh))
def ec(s0:Zg):a_ Zg:=(Sl.isNil s0).bind λu=>bl u (some Sl.nil) ((oM (Sl.row []:Zg) s0).bind λw=>some w)
theorem gV:A6 Sy cL 20 (λs0:Zg=>[enc s0]) (λz=>ec z):=A6.mk' (sj (Tx 20)) (λs0=>DG 9 λu _=>bB 2 4 bh (zA 7 5 7 λw _=>bh))
def ov(B:bX):a_ bX:=some B
instance Rr(B:bX):Fc Sy cL (ov B):=Fc.NE (λr:bX=>[(.clo 222 [] [.fptr (cells r)])]) 191 [enc B] (cw 2 1 B bh)
namespace gz
def kz(D:bX)(G:Int)(x:Int×(Zg))(B:Zg):a_ (Fw Zg Empty Empty):=(idx x.2 G).bind λu=>(gy B (u:Int)).bind λw=>some (.n w)
def E1(B:bX)(G:Int)(D:Zg):a_ Zg:=(jM B).bind λu=>(lE (λ(x:Int×(Zg))(q:Zg)=>kz B G x q) u D).bind (Fw.rI (λq=>some q) (λe=>elim e) (λe=>elim e))
end gz
def gz(B:bX)(i1:Int):a_ Zg:=(ov B).bind λu=>gz.E1 u i1 (Sl.nil:Zg)
open gz in
instance Rp(D:bX)(i1:Int):Fc Sy cL (gz D i1):=Fc.N 251 [enc D,.int .i64 i1] (cw 2 2 D (bG 13 λz _=>GA λC B=>CT 5 [Pv 3,Pv 5,(9,.v (.clo 222 [] [.fptr (cells z)]))] (λu=>[(3,.box [iv i1]),(5,.box [.own 4100]),Lb 4100 u]) (λw=>elim w) (λw=>elim w) (GS z C B) (λG u=>zC 3 (bQ 7 λI _=>oI 2 4100 17 18 λJ _=>bh)) (λu=>bh) (λx=>elim x) (λx=>elim x)))
def rP(G:Z4)(p1:Int)(B:U'):a_ (Int×Int×Int):=(sX G p1 B).bind λu=>bl (u.2==0) ((idx G.procs p1).bind λz=>(gz z u.1).bind λw=>(dD w).bind λC=>(dB w).bind λD=>some (C,D,0)) (some (0,0,u.2))
instance TO(D:Z4)(p1:Int)(B:U'):Fc Sy cL (rP D p1 B):=Fc.M 233 [enc D,.int .i64 p1,.str B] (cw 2 3 D (bG 10 λu _=>dy 14 19 (bQ 8 λw _=>bG 2 λz _=>bG 6 λC _=>bG 1 λG _=>bh) bh))
def gJ(B:Z4)(p1:Pred):a_ bT:=bl (p1.kind==1) ((mG (Sl.row [p1.n]:Zg)).bind λw=>some w) (bl (p1.kind==3) ((idx B.procs p1.proc).bind λz=>some ⟨0,len z.events⟩) (bl (p1.kind==4) ((fG B p1.proc p1.peer).bind λC=>some ⟨0,C⟩) ((rP B p1.proc p1.name).bind λu=>some ⟨u.1,u.2.1⟩)))
instance Uw(B:Z4)(p1:Pred):Fc Sy cL (gJ B p1):=Fc.M 218 [enc B,enc p1] (cw 2 2 B (cw 0 3 p1 (bB 17 10 (cU 6 λw _=>bh) (bB 7 16 (bQ 7 λu _=>b8 2 u.events bh) (bB 7 27 (bG 8 λz _=>bh) (bG 11 λC _=>bh))))))
def jo(B:bT):a_ X':=(bl (decide (B.low<(-1125899906842624))) (some true) (some (decide (B.high>1125899906842624))):a_ X').bind λu=>some u
instance Iz(B:bT):Fc Sy cL (jo B):=Fc.M 219 [enc B] (b_ 12 4 [1,6] 10 (bB 12 6 (bD 4) (bD 4)) λu=>bh)
def qT(a0:Int):QQ:=some (if(wrap .i64 (0-a0))>a0 then(wrap .i64 (0-a0))else a0)
instance Vg(a0:Int):Fc Sy cL (qT a0):=Fc.M 234 [.int .i64 a0] (bh)
def h_(a0 B:Int):QQ:=(bl (a0==0) (some true) (some (B==0)):a_ X').bind λu=>bl u (some 0) ((qT a0).bind λw=>(qT B).bind λz=>(AN .i64 1125899906842624 z).bind λC=>bl (decide (w>C)) (bl ((decide (a0<0))==(decide (B<0))) (some 1125899906842625) (some (wrap .i64 (0-1125899906842625)))) (some (wrap .i64 (a0*B))))
instance Pr(a0 B:Int):Fc Sy cL (h_ a0 B):=Fc.M 221 [.int .i64 a0,.int .i64 B] (b_ 11 3 [8] 11 (bB 11 8 (bD 3) (bD 3)) λu=>bB 2 11 bh (bG 15 λw _=>bG 1 λz _=>aaS 0 λC _=>bB 3 20 (dy 15 25 bh bh) bh))
namespace cW
def J2(D B:bT)(r:(Z4×Pred)->a_ (bT×X')):a_ (bT×X'):=(jo B).bind λu=>some (B,(!u))
def J1(W U:X')(J:Pred)(G B D:bT)(r:(Z4×Pred)->a_ (bT×X')):a_ (bT×X'):=(bl W (some (!U)) (some true):a_ X').bind λC=>bl C (some (⟨0,0⟩,false)) (bl (J.kind==5) (cW.J2 G (⟨wrap .i64 (0-B.high),wrap .i64 (0-B.low)⟩:bT) r) (bl (J.kind==6) (cW.J2 G (⟨wrap .i64 (B.low+D.low),wrap .i64 (B.high+D.high)⟩:bT) r) (bl (J.kind==7) (cW.J2 G (⟨wrap .i64 (B.low-D.high),wrap .i64 (B.high-D.low)⟩:bT) r) ((h_ B.low D.low).bind λI=>(h_ B.low D.high).bind λL=>(h_ B.high D.low).bind λu=>(h_ B.high D.high).bind λw=>(mG (Sl.row [I,L,u,w]:Zg)).bind λz=>cW.J2 G z r))))
theorem qN(r:(Z4×Pred)->a_ (bT×X'))(a:hG Sy cL 188 (λz:Z4×Pred=>[enc z.1,enc z.2]) (λr:bT×X'=>[enc r.1,.bool r.2]) r true)(D B:X')(G:Pred)(J U W:bT):Le ((J1 D B G J U W r).bind (λr=>some [enc r.1,.bool r.2])) (cg Sy cL (qR (tr Tx 188)) (uF (tb Tx 188) [1,1,1,1,1,0] [] (bL [Pv 3,Pv 4,Pv 7,Bv 8 D,Pv 9,Bv 10 B] [Xb 3 G,Xb 4 J,Xb 7 U,Xb 9 W]))):=b_ 6 3 [10,48] 51 (dy 6 48 (bD 3) (bD 3)) λQ=>bB 2 51 bh (bB 22 77 (uf 14 (cU 4 λu _=>bh)) (bB 7 86 (uf 18 (cU 4 λu _=>bh)) (bB 7 99 (uf 18 (cU 4 λu _=>bh)) (cU 6 λI _=>cU 4 λL _=>cU 4 λw _=>cU 4 λC _=>X5 0 ([I,L,w,C]:ST) (.buildC 1 4 [.int .i64 0] [0,1,2,3]) [iv I,iv L,iv w,iv C] (cU 0 λO _=>uf 5 (cU 4 λu _=>bh))))))
end cW
def dm(B:Z4)(p1:Pred)(r:(Z4×Pred)->a_ (bT×X')):a_ (bT×X'):=bl ((len p1.l)==0) ((gJ B p1).bind λw=>(jo w).bind λC=>some (w,(!C))) ((idx p1.l 0).bind λD=>(r (B,D)).bind λu=>bl ((len p1.l)==2) ((idx p1.l 1).bind λG=>(r (B,G)).bind λz=>cW.J1 u.2 z.2 p1 (⟨0,0⟩:bT) u.1 z.1 r) (cW.J1 u.2 true p1 (⟨0,0⟩:bT) u.1 u.1 r))
open cW in
theorem AP(r:(Z4×Pred)->a_ (bT×X'))(a:hG Sy cL 188 (λz:Z4×Pred=>[enc z.1,enc z.2]) (λr:bT×X'=>[enc r.1,.bool r.2]) r true)(B:Z4)(p1:Pred):Le ((dm B p1 r).bind λr=>some [enc r.1,.bool r.2]) (jT cL 188 [enc B,enc p1]):=(Fc.M 188 [enc B,enc p1] (cw 2 2 B (cw 0 3 p1 (jI 9 13 (Pred.mJ p1.l) (b8 0 p1.l (bB 3 15 (bG 5 λG _=>cU 8 λI _=>bh) (jI 8 26 (Pred.mJ p1.l) (bQ 0 λC _=>cU (F:=Fc.of (B,C) a) 1 λu _=>jI 21 34 (Pred.mJ p1.l) (b8 0 p1.l (bB 3 36 (jI 5 40 (Pred.mJ p1.l) (bQ 0 λD _=>cU (F:=Fc.of (B,D) a) 1 λw _=>za 8 (qN r a u.2 w.2 p1 (⟨0,0⟩:bT) u.1 w.1))) (za 4 (qN r a u.2 true p1 (⟨0,0⟩:bT) u.1 u.1))))))))))):Fc Sy cL (dm B p1 r)).F.h ()
def cW(B:Z4)(p1:Pred):a_ (bT×X'):=iw (λr(z:Z4×Pred)=>dm z.1 z.2 r) 100000 (B,p1)
instance Rn(B:Z4)(p1:Pred):Fc Sy cL (cW B p1):=Fc.of (B,p1) (hG.fix (A:=λz:Z4×Pred=>[enc z.1,enc z.2]) (E:=λr:bT×X'=>[enc r.1,.bool r.2]) (sc:=true) (b:=(λr(z:Z4×Pred)=>dm z.1 z.2 r)) Zae (λ_ _=>rfl) (λr a z=>AP r a z.1 z.2) 100000)
def oP(B:Pred)(D:Z4)(r:(Z4×Pred)->a_ X'):a_ X':=(r (D,B)).bind λu=>some (!u)
abbrev A1(r:(Trace×Pred)->a_ Bool)(a:hG Sy cL 142 (λz:Trace×Pred=>[enc z.1,enc z.2]) (λr:Bool=>[.bool r]) r true)(B:Pred)(D:Trace):Fc Sy cL (oP B D r):=Fc.M 189 [enc B,.fptr (cells D)] (cw 2 2 B (bG (F:=Fc.of (D,B) a) 7 λu _=>bh))
def ij(D:Z4)(p1:Pred)(r:(Z4×Pred)->a_ X'):a_ X':=(mz p1.kind).bind λw=>bl (w==1) ((cW D p1).bind λB=>some B.2) ((AS p1.l (λx u=>((λz=>oP z D r) x).map λb=>(b,u)) ()).bind λC=>some (!C.1))
theorem A0(r:(Z4×Pred)->a_ X')(a:hG Sy cL 142 (λz:Z4×Pred=>[enc z.1,enc z.2]) (λr:X'=>[.bool r]) r true)(B:Z4)(p1:Pred):Le ((ij B p1 r).bind λr=>some [.bool r]) (jT cL 142 [enc B,enc p1]):=(Fc.M 142 [enc B,enc p1] (cw 2 2 B (cw 0 3 p1 (bG 8 λu _=>bB 3 10 (bG 5 λw _=>bh) (jI 7 19 (Pred.mJ p1.l) (ud 2 (mD (yF.Xz (g:=189) (e:=[.fptr (cells B)]) (p:=(λz=>oP z B r)) (kQ.pQ (F:=λz=>A1 r a z B))) p1.l ()) λC _=>bh))))):Fc Sy cL (ij B p1 r)).F.h ()
def vf(B:Z4)(p1:Pred):a_ X':=iw (λr(z:Z4×Pred)=>ij z.1 z.2 r) 100000 (B,p1)
instance Se(B:Z4)(p1:Pred):Fc Sy cL (vf B p1):=Fc.of (B,p1) (hG.fix (A:=λz:Z4×Pred=>[enc z.1,enc z.2]) (E:=λr:X'=>[.bool r]) (sc:=true) (b:=(λr(z:Z4×Pred)=>ij z.1 z.2 r)) Zae (λ_ _=>rfl) (λr a z=>A0 r a z.1 z.2) 100000)
def rF(B:Z4)(p1:Pred):QQ:=(dw B).bind λu=>(bl u ((mo p1).bind λw=>some (!w)) (some true):a_ X').bind λz=>bl z (some 1) ((oW B p1).bind λC=>bl C ((o8 p1).bind λD=>bl D ((vf B p1).bind λG=>bl G (some 0) (some 9)) (some 14)) (some 13))
instance RT(B:Z4)(p1:Pred):Fc Sy cL (rF B p1):=Fc.M 104 [enc B,enc p1] (cw 2 2 B (cw 0 3 p1 (bG 8 λu _=>b_ 2 4 [9] 13 (dy 2 9 (bG 1 λw _=>bD 2) (bD 4)) λz=>bB 3 5 bh (bG 5 λC _=>dy 4 14 (bG 4 λD _=>dy 4 19 (bG 5 λG _=>dy 4 23 bh bh) bh) bh))))
def s6(B:Pred):a_ (Int×Int):=(mo B).bind λu=>bl u ((o8 B).bind λw=>bl w ((mz B.kind).bind λz=>some (z,0)) (some (0,14))) (some (0,1))
instance U_(B:Pred):Fc Sy cL (s6 B):=Fc.M 143 [enc B] (cw 2 1 B (bG 9 λu _=>dy 4 4 (bG 4 λw _=>dy 4 8 (bG 8 λz _=>bh) bh) bh))
def u_(D:Pred)(B:Int):QQ:=(s6 D).bind λu=>(bl (u.2==0) (some (!(u.1==B))) (some true):a_ X').bind λw=>bl w (some 14) (some 0)
instance Td(D:Pred)(B:Int):Fc Sy cL (u_ D B):=Fc.M 105 [enc D,.int .i64 B] (cw 2 2 D (bG 7 λu _=>b_ 12 4 [1,5,14] 18 (dy 12 14 (bD 4) (bD 4)) λw=>bB 2 18 bh bh))
def sx(B:Int):a_ X':=(bl (decide (B>=18)) (some (decide (B<=21))) (some false):a_ X').bind λu=>some u
instance O_(B:Int):Fc Sy cL (sx B):=Fc.M 146 [.int .i64 B] (b_ 10 3 [0,5] 8 (bB 10 5 (bD 3) (bD 3)) λu=>bh)
def mV(B:Pred):a_ X':=(sx B.kind).bind λu=>some (!u)
instance LG(B:Pred):Fc Sy cL (mV B):=Fc.M 145 [enc B] (cw 2 1 B (bG 7 λu _=>bh))
def oQ(D:Pred):a_ X':=(mo D).bind λu=>(bl u ((nT D (λz=>mV z)).bind λw=>some (!w)) (some false):a_ X').bind λB=>some B
instance O7(B:Pred):Fc Sy cL (oQ B):=Fc.M 106 [enc B] (cw 2 1 B (bG 6 λu _=>b_ 1 4 [1,5] 9 (bB 1 5 (bG (F:=um 145 [] (λz=>mV z) kQ.pQ B) 1 λw _=>bD 2) (bD 4)) λC=>bh))
namespace iL
def kz(D:Z4)(B G:Int)(J:bf)(U:X')(x:bf×WF):a_ (Fw Unit Empty bf):=(bl (x.2.kind==B) (some (x.2.message==G)) (some false):a_ X').bind λu=>bl u (some (.r x.1)) (some (.n ()))
def E1(B:Z4)(D G:Int)(J:bf)(U:X'):a_ (bf×X'):=(jL B).bind λu=>(lE (λ(x:bf×WF)(q:Unit)=>kz B D G J U x) u ()).bind (Fw.rI (λq=>some (⟨0,0⟩,false)) (λe=>elim e) (λe=>some (e,true)))
end iL
def iL(D:Z4)(B G:Int):a_ (bf×X'):=(dw D).bind λu=>bl u ((jP D).bind λw=>iL.E1 w B G (⟨0,0⟩:bf) false) (some (⟨0,0⟩,false))
open iL in
instance YJ(G:Z4)(B D:Int):Fc Sy cL (iL G B D):=Fc.M 162 [enc G,.int .i64 B,.int .i64 D] (cw 2 3 G (bG 10 λL _=>dy 3 12 (bG 7 λw _=>GA λI z=>CT 4 [Pv 4,Pv 5,Pv 6,Pv 7,(15,.v (.clo 168 [] [.fptr (cells w)]))] (λC=>[(4,.box [iv B]),(5,.box [iv D]),Xb 6 (⟨0,0⟩:bf),(7,.box [bv false])]) (λu=>elim u) (λu=>[(4,.box [iv B]),(5,.box [iv D]),Xb 6 u,(7,.box [bv true])]) (z7 w I z) (λJ C=>nN 8 9 0 J.2 (zC 1 (b_ 9 5 [9,22] 27 (bB 9 22 (bD 5) (bD 5)) λO=>bB 2 27 bh bh))) (λC=>bh) (λx=>elim x) (λu=>bh)) bh))
def qZ(B:Z4)(m1:Int):a_ (bf×X'):=(iL B 2 m1).bind λu=>some (u.1,u.2)
instance VI(B:Z4)(m1:Int):Fc Sy cL (qZ B m1):=Fc.M 126 [enc B,.int .i64 m1] (cw 2 2 B (bG 8 λu _=>bh))
namespace kY
def J3(B:Sl bf)(W:Sl bX)(Y a:Int)(b:Sl WF)(c G:Int)(J:Z4)(d U:cz)(e:bX)(D:bf):a_ (Fw ((Sl bf)×Int×Z4×cz×cz) ((Sl bf)×Z4×cz) Empty):=(gy B (D:bf)).bind λu=>some (.n (u,wrap .i64 (G+1),J,(⟨Sl.nil,Sl.nil⟩:cz),U))
def bU(Y:Sl bX)(a b:Int)(J:Sl WF)(U:Int)(c:bX)(B:Sl bf)(D:Int)(G:Z4)(d W:cz):a_ (Fw ((Sl bf)×Int×Z4×cz×cz) ((Sl bf)×Z4×cz) Empty):=bl (decide (D<U)) ((idx J D).bind λu=>bl (u.kind==3) ((qZ G u.message).bind λw=>J3 B Y a b J U D G (⟨Sl.nil,Sl.nil⟩:cz) W c w.1) (J3 B Y a b J U D G (⟨Sl.nil,Sl.nil⟩:cz) W c (⟨0,0⟩:bf))) (some (.x (B,G,W)))
def W2(B:Sl bf)(J:Sl bX)(U D:Int)(W:Sl WF)(Y a:Int)(b:Z4)(c d:cz)(G:bX):a_ (Fw (Int×Z4×cz×cz) cz Empty):=(bW (λq:(Sl bf)×Int×Z4×cz×cz=>bU J U D W Y G q.1 q.2.1 q.2.2.1 q.2.2.2.1 q.2.2.2.2) (B,a,b,c,d)).bind (Fw.elim (λe=>(gy e.2.2.lengths (len G.events:Int)).bind λu=>(gy e.2.2.need (e.1:Sl bf)).bind λw=>some (.n (wrap .i64 (D+1),e.2.1,(⟨Sl.nil,Sl.nil⟩:cz),(⟨u,w⟩:cz)))) (λe=>elim e))
def br(D:Sl bX)(G:Int)(B:Int)(U:Z4)(W J:cz):a_ (Fw (Int×Z4×cz×cz) cz Empty):=bl (decide (B<G)) ((idx D B).bind λu=>W2 (Sl.nil:Sl bf) D G B u.events (len u.events) 0 U (⟨Sl.nil,Sl.nil⟩:cz) J u) (some (.x J))
def W1(B:Sl bX)(D G:Int)(J:Z4)(U W:cz):a_ cz:=(bW (λq:Int×Z4×cz×cz=>br B D q.1 q.2.1 q.2.2.1 q.2.2.2) (G,J,U,W)).bind (Fw.elim (λe=>some e) (λe=>elim e))
end kY
def kY(B:Z4):a_ cz:=kY.W1 B.procs (len B.procs) 0 B (⟨Sl.nil,Sl.nil⟩:cz) (⟨Sl.nil,Sl.nil⟩:cz)
open kY in
instance aaw(D:Z4):Fc Sy cL (kY D):=Fc.N 174 [enc D] (cw 2 1 D (b8 13 D.procs (fM 7 (λu=>(bL [Pv 1,Pv 2,Pv 3,Cv 11 D.procs,Iv 12 (len D.procs),Iv 13 u.1] [Xb 1 u.2.1,Xb 2 (⟨Sl.nil,Sl.nil⟩:cz),(3,.box [.own 4060,.own 4061]),Lb 4060 u.2.2.2.lengths,Lb 4061 u.2.2.2.need])) (λC=>(0,(bL [Pv 2,Pv 3] [Xb 2 (⟨Sl.nil,Sl.nil⟩:cz),(3,.box [.own 4060,.own 4061]),Lb 4060 C.lengths,Lb 4061 C.need]))) (λu=>bB 9 14 (bQ 7 λw _=>nN 2 5 0 w (b8 12 w.events (fM 8 (λz=>(bL [Pv 1,Pv 2,Pv 3,Pv 5,Ov 6,Cv 11 D.procs,Iv 12 (len D.procs),Iv 13 u.1,Cv 18 w.events,Iv 19 (len w.events),Iv 20 z.2.1] [Xb 1 z.2.2.1,Xb 2 (⟨Sl.nil,Sl.nil⟩:cz),(3,.box [.own 4060,.own 4061]),Xb 5 w,Lb 2006 z.1,Lb 4060 z.2.2.2.2.lengths,Lb 4061 z.2.2.2.2.need])) (λB=>(2,(bL [Pv 1,Pv 2,Pv 3,Pv 5,Ov 6,Cv 11 D.procs,Iv 12 (len D.procs),Iv 13 u.1] [Xb 1 B.2.1,Xb 2 (⟨Sl.nil,Sl.nil⟩:cz),(3,.box [.own 4060,.own 4061]),Xb 5 w,Lb 2006 B.1,Lb 4060 B.2.2.lengths,Lb 4061 B.2.2.need]))) (λz=>bB 10 21 (bQ 7 λG _=>nN 2 8 0 G (bB 15 26 (bG 5 λJ _=>uf 10 (oI 4 2006 36 37 λI _=>bh)) (uf 7 (oI 4 2006 36 37 λI _=>bh)))) bh) (λB=>b8 8 w.events (oI 1 4060 44 45 λL _=>yw 9 50 ([B.1]:aZ (Sl bf)) (oI 0 4061 50 51 λO _=>bh)))))) bh) (λC=>nN 7 2 0 C bh))))
def pU(J:cz)(B:Zg)(p2:Int):a_ X':=(idx B p2).bind λw=>(idx J.lengths p2).bind λz=>bl (w==z) (some false) ((idx J.need p2).bind λC=>(idx B p2).bind λD=>(idx C D).bind λu=>(idx B u.proc).bind λG=>some (decide (u.index<=G)))
instance Q_(B:cz)(D:Zg)(p2:Int):Fc Sy cL (pU B D p2):=Fc.M 210 [enc B,enc D,.int .i64 p2] (cw 2 3 B (bQ 8 λu _=>bQ 4 λw _=>bB 4 17 bh (bQ 8 λz _=>bQ 3 λC _=>bQ 1 λG _=>bQ 12 λI _=>bh)))
def sS(B:Int):a_ X':=some (!(B==B))
instance U6(B:Int):Fc Sy cL (sS B):=Fc.M 249 [.int .i64 B] (bh)
def qO(B D:Int):QQ:=(sS B).bind λw=>(sS D).bind λu=>bl w (bl u (some 0) (some (-1))) (bl u (some 1) (bl (decide (B<D)) (some (-1)) (bl (decide (B>D)) (some 1) (some 0))))
instance Ry(B D:Int):Fc Sy cL (qO B D):=Fc.M 231 [.int .i64 B,.int .i64 D] (bG 8 λu _=>bG 6 λw _=>bB 9 11 (bB 7 12 bh bh) (bB 9 13 bh (bB 11 16 bh (bB 11 19 bh bh))))
namespace fL
def br(J D U:Zg)(G:Int)(B:Int):a_ (Fw Int Unit Int):=bl (decide (B<G)) ((idx U B).bind λw=>bl (decide (B>=(len D))) (some (.r 1)) ((idx D B).bind λz=>(qO w z).bind λu=>bl (u==0) (some (.n (wrap .i64 (B+1)))) (some (.r u)))) (some (.x ()))
def W1(B D U:Zg)(G J:Int):QQ:=(bW (λq:Int=>br B D U G q) J).bind (Fw.elim (λe=>bl (decide ((len B)<(len D))) (some (-1)) (some 0)) (λe=>some e))
end fL
def fL(B D:Zg):QQ:=fL.W1 B D B (len B) 0
open fL in
instance NG(B D:Zg):Fc Sy cL (fL B D):=Fc.M 213 [enc B,enc D] (b8 9 B (eA 5 (λw=>(bL [Cv 0 B,Cv 1 D,Cv 9 B,Iv 10 (len B),Iv 11 w] [])) (λu=>(0,(bL [Cv 0 B,Cv 1 D] []))) (λu=>(bL [Iv 4 u] [])) (λw=>bB 7 12 (bQ 8 λz _=>b8 10 D (bB 3 19 bh (bQ 7 λC _=>bG 8 λG _=>dy 9 28 bh bh))) bh) (λu=>b8 6 B (b8 1 D (bB 3 35 bh bh))) (λu=>bh)))
def ko(a0 B:Zg):QQ:=(fL a0 B).bind λu=>some u
instance Nq(a0 B:Zg):Fc Sy cL (ko a0 B):=Fc.M 212 [enc a0,enc B] (bG 9 λu _=>bh)
namespace eZ
def br(D G:Zg)(J:Int)(B:Int):a_ (Fw Int Unit Unit):=bl (decide (B<J)) ((idx D B).bind λu=>(idx G B).bind λw=>bl (u==w) (some (.n (wrap .i64 (B+1)))) (some (.r ()))) (some (.x ()))
def W1(B D:Zg)(G J:Int):a_ X':=(bW (λq:Int=>br B D G q) J).bind (Fw.elim (λe=>some true) (λe=>some false))
end eZ
def eZ(B D:Zg):a_ X':=bl ((len B)==(len D)) (eZ.W1 B D (len B) 0) (some false)
open eZ in
instance PG(B D:Zg):Fc Sy cL (eZ B D):=Fc.M 16 [enc B,enc D] (b8 9 B (b8 1 D (dy 3 10 (b8 7 B (eA 5 (λw=>(bL [Cv 0 B,Cv 1 D,Iv 12 (len B),Iv 13 w] [])) (λu=>(0,(bL [] []))) (λu=>(bL [Bv 4 false] [])) (λw=>bB 7 14 (bQ 15 λz _=>bQ 3 λC _=>dy 4 24 bh bh) bh) (λu=>bh) (λu=>bh))) bh)))
def lZ(a0 B:Zg):a_ X':=(eZ a0 B).bind λu=>some u
instance M_(a0 B:Zg):Fc Sy cL (lZ a0 B):=Fc.M 215 [enc a0,enc B] (bG 9 λu _=>bh)
namespace eS
def bU(U:Zg)(W:Zb)(Y a G:Int)(J:cz)(D:Zb)(B:Int):a_ (Fw ((Zb)×Int) Zb Empty):=bl (decide (B<G)) ((pU J U B).bind λw=>bl w (((ec U).bind Sl.whole).bind λu=>(Sl.jg u B).bind λz=>(Sl.get u z).bind λC=>(Sl.jg u B).bind λI=>(Sl.put u I (wrap .i64 (C+1):Int)).bind λL=>(gy D (L:Zg)).bind λO=>some (.n (O,wrap .i64 (B+1)))) (some (.n (D,wrap .i64 (B+1))))) (some (.x D))
def W2(B:Zb)(a:Zg)(J:Zb)(D G U W:Int)(Y:cz):a_ (Fw ((Zb)×Int×Int) Zb Empty):=(bW (λq:(Zb)×Int=>bU a J D G U Y q.1 q.2) (B,W)).bind (Fw.elim (λe=>some (.n (e,D,wrap .i64 (G+1)))) (λe=>elim e))
def br(G:Zb)(U:cz)(B:Zb)(J D:Int):a_ (Fw ((Zb)×Int×Int) Zb Empty):=bl (decide (D<J)) ((idx G D).bind λu=>W2 B u G J D (len u) 0 U) (some (.x B))
def W1(B D:Zb)(G J:Int)(U:cz):a_ Zb:=(bW (λq:(Zb)×Int×Int=>br D U q.1 q.2.1 q.2.2) (B,G,J)).bind (Fw.elim (λe=>(Ab e ko).bind λw=>(yY w lZ).bind λu=>some u) (λe=>elim e))
end eS
def eS(D:cz)(B:Zb):a_ Zb:=eS.W1 (Sl.nil:Zb) B (len B) 0 D
open eS in
instance Ro(G:cz)(B:Zb):Fc Sy cL (eS G B):=Fc.N 175 [enc G,enc B] (cw 2 2 G (b8 12 B (fM 6 (λu=>(bL [Pv 2,Ov 5,Cv 10 B,Iv 11 u.2.1,Iv 12 u.2.2] [Xb 2 G,Lb 2005 u.1])) (λI=>(0,(bL [Ov 5] [Lb 2005 I]))) (λu=>bB 8 13 (bQ 7 λw _=>b8 7 w (fM 6 (λC=>(bL [Pv 2,Ov 5,Cv 7 w,Cv 10 B,Iv 11 u.2.1,Iv 12 u.2.2,Iv 17 (len w),Iv 18 C.2] [Xb 2 G,Lb 2005 C.1])) (λJ=>(2,(bL [Pv 2,Ov 5,Cv 10 B,Iv 11 u.2.1,Iv 12 u.2.2] [Xb 2 G,Lb 2005 J]))) (λC=>bB 8 19 (bG 16 λQ _=>bB 2 24 (NH 4 26 gV w λS _=>iQ .i64 7 26 λT _=>ow 0 26 0 1 false (λD=>.int .i64 D) λD _=>iQ .i64 1 26 λU _=>Dw 0 26 (.int .i64 (wrap .i64 (D+1))) λL _=>yw 6 35 ([L]:aZ Zg) (oI 0 2005 35 36 λW _=>bh)) bh) bh) (λJ=>bh))) bh) (λI=>ZZ 5 2005 IA CJ WH (hG.pQ (λz=>inferInstanceAs (Fc Sy cL (ko z.1 z.2))) default (λ_=>rfl) (λ_=>rfl) (λ_=>rfl) (λ_=>rfl)) λX _=>ZO 5 2005 42 IA CJ VV (hG.pQ (λz=>inferInstanceAs (Fc Sy cL (lZ z.1 z.2))) default (λ_=>rfl) (λ_=>rfl) (λ_=>rfl) (λ_=>rfl)) λO _=>bh))))
namespace kF
def br(J:cz)(B:Zb)(G:Sl Zb)(D:Int):a_ (Fw ((Zb)×(Sl Zb)×Int) (Sl Zb) Unit):=bl (decide ((len B)>0)) (bl (decide ((wrap .i64 (D+(len B)))>5000)) (some (.r ())) ((gy G (B:Zb)).bind λu=>(eS J B).bind λw=>some (.n (w,u,wrap .i64 (D+(len B)))))) (some (.x G))
def W1(B:Zb)(G:Sl Zb)(D:Int)(J:cz):a_ ((Sl Zb)×Int):=(bW (λq:(Zb)×(Sl Zb)×Int=>br J q.1 q.2.1 q.2.2) (B,G,D)).bind (Fw.elim (λe=>some (e,0)) (λe=>some ((Sl.nil:Sl Zb),16)))
end kF
def kF(B:Z4):a_ ((Sl Zb)×Int):=(dw B).bind λu=>bl u ((kY B).bind λw=>(qX (len B.procs) (0:Int)).bind λz=>kF.W1 (Sl.row [z]:Zb) (Sl.nil:Sl Zb) 0 w) (some ((Sl.nil:Sl Zb),1))
open kF in
instance Xw(B:Z4):Fc Sy cL (kF B):=Fc.N 133 [enc B] (cw 2 1 B (bG 8 λD _=>dy 3 10 (bG 6 λz _=>nN 1 4 0 z (b8 6 B.procs (PV 0 16 λC _=>yw 1 17 ([C]:aZ Zg) (eA 18 (λu=>(bL [Pv 4,Cv 5 u.1,Ov 6,Iv 7 u.2.2] [Xb 4 z,Lb 2006 u.2.1])) (λw=>(0,(bL [Ov 6] [Lb 2006 w]))) (λw=>(bL [Ov 2,Iv 3 16] [Lb 2002 (Sl.nil:Sl Zb)])) (λu=>b8 7 u.1 (bB 3 20 (b8 10 u.1 (bB 10 29 bh (yw 6 32 ([u.1]:aZ Zb) (oI 0 2006 32 33 λG _=>bG 7 λI _=>bh)))) bh)) (λw=>bh) (λw=>bh))))) bh))
def gA(s:Sl Zb):a_ Zb:=if s.l.length<=2147483648/\(s.l.flatMap Sl.l).length<=2147483648 then some (D5 s)else none
instance N8(s:Sl Zb):Fc Sy cL (gA s):=Fc.of (A:=λz:Sl Zb=>[enc z]) (E:=λr:Zb=>[enc r]) (p:=gA) (n:=134) (z:=s) (hG.YT Zae Zae (λz r h=>by
 unfold gA at h;split at h
 next a=>cases h;exact BF (WV (E:=Sy.E) (N:=λn=>n) (gid:=176) (nm:=some) (λ_ _ h=>(Option.some.inj h).symm) rfl Zae Zae (D6 Zae) (D6 Zae) rfl z a.1 a.2)
 cases h))
def tI(B:Z4):a_ ((Zb)×Int):=(kF B).bind λu=>(gA u.1).bind λw=>some (w,u.2)
instance Y3(B:Z4):Fc Sy cL (tI B):=Fc.N 98 [enc B] (cw 2 1 B (bG 7 λu _=>bG 10 λw _=>bh))
def ou(B:Z4):a_ ((Zb)×Int):=(tI B).bind λu=>some (u.1,u.2)
instance Y9(B:Z4):Fc Sy cL (ou B):=Fc.N 57 [enc B] (cw 2 1 B (bG 7 λu _=>bh))
def kJ(B:Zg)(D:Z4):a_ X':=some (!((len B)==(len D.procs)))
instance VW(B:Zg)(D:Z4):Fc Sy cL (kJ B D):=Fc.M 125 [enc B,.fptr (cells D)] (b8 8 B (b8 2 D.procs bh))
namespace gR
def br(s0:Zb)(D:Int)(B:Int)(p1:(Zg)->a_ X'):a_ (Fw Int Unit Int):=bl (decide (B<D)) ((idx s0 B).bind λu=>(p1 u).bind λw=>bl w (some (.r B)) (some (.n (wrap .i64 (B+1))))) (some (.x ()))
def W1(s0:Zb)(B D:Int)(p1:(Zg)->a_ X'):QQ:=(bW (λq:Int=>br s0 B q p1) D).bind (Fw.elim (λe=>some (-1)) (λe=>some e))
end gR
def gR(s0:Zb)(p1:(Zg)->a_ X'):QQ:=gR.W1 s0 (len s0) 0 p1
open gR in
abbrev yg(g1:FuncId)(e1:aZ V)(p1:(Sl Int)->a_ Bool)(a:kQ Sy cL g1 [] e1 (λz:Sl Int=>[enc z]) (λr:Bool=>[.bool r]) p1 true)(s0:Sl (Sl Int)):Fc Sy cL (gR s0 p1):=Fc.M 69 [enc s0,.clo g1 [] e1] (b8 9 s0 (eA 5 (λw=>(bL [Cv 0 s0,(1,.v (.clo g1 [] e1)),Iv 7 (len s0),Iv 8 w] [])) (λu=>(0,(bL [] []))) (λu=>(bL [Iv 4 u] [])) (λw=>bB 7 9 (bQ 16 λB _=>yU 1 a.f B λC _=>bB 2 16 bh bh) bh) (λu=>bh) (λu=>bh)))
def dY(s0:Zb)(p1:(Zg)->a_ X'):a_ X':=(gR s0 p1).bind λu=>some (decide (u>=0))
abbrev iA(g1:FuncId)(e1:aZ V)(p1:(Sl Int)->a_ Bool)(a:kQ Sy cL g1 [] e1 (λz:Sl Int=>[enc z]) (λr:Bool=>[.bool r]) p1 true)(s0:Sl (Sl Int)):Fc Sy cL (dY s0 p1):=Fc.M 31 [enc s0,.clo g1 [] e1] (bG (F:=yg g1 e1 p1 a s0) 9 λu _=>bh)
def yz(D:Z4)(G:Zb):a_ X':=(dw D).bind λu=>(bl u ((dY G (λz=>kJ z D)).bind λw=>some (!w)) (some false):a_ X').bind λB=>some B
instance Y_(B:Z4)(D:Zb):Fc Sy cL (yz B D):=Fc.M 94 [enc B,enc D] (cw 2 2 B (bG 6 λu _=>b_ 1 5 [1,2,7] 12 (bB 1 7 (cU (F:=iA 125 [.fptr (cells B)] (λz=>kJ z B) kQ.pQ D) 2 λw _=>bD 2) (bD 5)) λC=>bh))
namespace kE
def br(G:Zg)(J:Int)(D:Z4)(B:Int):a_ (Fw Int Unit Unit):=bl (decide (B<J)) ((idx G B).bind λu=>(bl (decide (u<0)) (some true) ((idx D.procs B).bind λw=>some (decide (u>(len w.events)))):a_ X').bind λz=>bl z (some (.r ())) (some (.n (wrap .i64 (B+1))))) (some (.x ()))
def W1(D:Zg)(G J:Int)(B:Z4):a_ X':=(bW (λq:Int=>br D G B q) J).bind (Fw.elim (λe=>some true) (λe=>some false))
end kE
def kE(D:Z4)(B:Zg):a_ X':=kE.W1 B (len B) 0 D
open kE in
instance Xr(D:Z4)(B:Zg):Fc Sy cL (kE D B):=Fc.M 95 [enc D,enc B] (cw 2 2 D (b8 7 B (eA 5 (λw=>(bL [Pv 2,Cv 7 B,Iv 8 (len B),Iv 9 w] [Xb 2 D])) (λu=>(0,(bL [] []))) (λu=>(bL [Bv 4 false] [])) (λw=>bB 7 10 (bQ 8 λC _=>b_ 10 10 [5,6,16] 26 (bB 10 16 (bD 10) (bQ 4 λz _=>b8 2 z.events (bD 2))) λG=>bB 2 26 bh bh) bh) (λu=>bh) (λu=>bh))))
def vL(B:Z4)(p1:Int):a_ X':=(bl (decide (p1>=0)) (some (decide (p1<(len B.procs)))) (some false):a_ X').bind λu=>some u
instance Xp(B:Z4)(p1:Int):Fc Sy cL (vL B p1):=Fc.M 150 [enc B,.int .i64 p1] (cw 2 2 B (b_ 8 6 [1,2,7] 13 (bB 8 7 (b8 3 B.procs (bD 2)) (bD 6)) λu=>bh))
namespace iH
def bU(Y:Zg)(p7:Int)(a:Zg)(b c:Int)(J:Sl WF)(U:Int)(W:Z4)(G D:bf)(B:Int):a_ (Fw Int Unit (bf×bf)):=bl (decide (B<U)) ((idx J B).bind λw=>bl (w.kind==3) ((qZ W w.message).bind λu=>(idx Y u.1.proc).bind λz=>bl (decide (u.1.index>z)) (some (.r (u.1,(⟨p7,wrap .i64 (B+1)⟩:bf)))) (some (.n (wrap .i64 (B+1))))) (some (.n (wrap .i64 (B+1))))) (some (.x ()))
def W2(a:Zg)(p7:Int)(J:Zg)(U G:Int)(W:Sl WF)(Y b:Int)(c:Z4)(D B:bf):a_ (Fw Int Unit (bf×bf)):=(bW (λq:Int=>bU a p7 J U G W Y c D B q) b).bind (Fw.elim (λe=>some (.n (wrap .i64 (G+1)))) (λe=>some (.r (e.1,e.2))))
def br(Y J:Zg)(U:Int)(W:Z4)(G B:bf)(D:Int):a_ (Fw Int Unit (bf×bf)):=bl (decide (D<U)) ((idx J D).bind λw=>(idx W.procs D).bind λz=>(fZ z.events none (some w)).bind λu=>W2 Y D J U D u (len u) 0 W G B) (some (.x ()))
def W1(Y G:Zg)(J U:Int)(W:Z4)(D B:bf):a_ (bf×bf×X'):=(bW (λq:Int=>br Y G J W D B q) U).bind (Fw.elim (λe=>some (⟨0,0⟩,⟨0,0⟩,false)) (λe=>some (e.1,e.2,true)))
end iH
def iH(D:Z4)(B:Zg):a_ (bf×bf×X'):=iH.W1 B B (len B) 0 D (⟨0,0⟩:bf) (⟨0,0⟩:bf)
open iH in
instance Xn(D:Z4)(B:Zg):Fc Sy cL (iH D B):=Fc.M 96 [enc D,enc B] (cw 2 2 D (b8 9 B (eA 5 (λu=>(bL [Cv 1 B,Pv 2,Pv 4,Pv 5,Cv 13 B,Iv 14 (len B),Iv 15 u] [Xb 2 D,Xb 4 (⟨0,0⟩:bf),Xb 5 (⟨0,0⟩:bf)])) (λw=>(0,(bL [Pv 4,Pv 5] [Xb 4 (⟨0,0⟩:bf),Xb 5 (⟨0,0⟩:bf)]))) (λw=>(bL [Pv 4,Pv 5,Bv 6 true] [Xb 4 w.1,Xb 5 w.2])) (λu=>bB 7 16 (bQ 8 λI _=>bQ 10 λL _=>BD 3 false true [.int .i64 I] λC _=>b8 0 C (eA 5 (λG=>(bL [Cv 1 B,Pv 2,Pv 4,Pv 5,Iv 7 u,Cv 13 B,Iv 14 (len B),Iv 15 u,Cv 27 C,Iv 28 (len C),Iv 29 G] [Xb 2 D,Xb 4 (⟨0,0⟩:bf),Xb 5 (⟨0,0⟩:bf)])) (λz=>(2,(bL [Cv 1 B,Pv 2,Pv 4,Pv 5,Cv 13 B,Iv 14 (len B),Iv 15 u] [Xb 2 D,Xb 4 (⟨0,0⟩:bf),Xb 5 (⟨0,0⟩:bf)]))) (λz=>(bL [Pv 4,Pv 5,Bv 6 true] [Xb 4 z.1,Xb 5 z.2])) (λG=>bB 7 30 (bQ 8 λJ _=>nN 3 10 0 J (dy 10 36 (bG 8 λO _=>bQ 15 λQ _=>bB 4 51 bh bh) bh)) bh) (λz=>bh) (λz=>bh))) bh) (λw=>bh) (λw=>bh))))
def wP(B:Z4)(D:Zg):a_ X':=(iH B D).bind λu=>some (!u.2.2)
instance XC(B:Z4)(D:Zg):Fc Sy cL (wP B D):=Fc.M 151 [enc B,enc D] (cw 2 2 B (bG 7 λu _=>bh))
namespace dI
def fq(D:Zb)(G:Int)(J:Z4)(B:Int):a_ (Fw Int Unit Unit):=bl (decide (B<G)) ((idx D B).bind λu=>(wP J u).bind λw=>bl w (some (.n (wrap .i64 (B+1)))) (some (.r ()))) (some (.x ()))
def W3(B:Zb)(D G:Int)(J:Z4):QQ:=(bW (λq:Int=>fq B D J q) G).bind (Fw.elim (λe=>some 0) (λe=>some 18))
def bU(U:Zb)(D:Zg)(G:Int)(J:Z4)(B:Int):a_ (Fw Int Unit Unit):=bl (decide (B<G)) ((idx D B).bind λu=>(vL J u).bind λw=>bl w (some (.n (wrap .i64 (B+1)))) (some (.r ()))) (some (.x ()))
def W2(D:Zb)(G:Zg)(J U:Int)(B:Z4):QQ:=(bW (λq:Int=>bU D G J B q) U).bind (Fw.elim (λe=>dI.W3 D (len D) 0 B) (λe=>some 2))
def br(W:Zb)(D:Zg)(G:Zb)(J:Int)(U:Z4)(B:Int):a_ (Fw Int Unit Unit):=bl (decide (B<J)) ((idx G B).bind λu=>(kE U u).bind λw=>bl w (some (.n (wrap .i64 (B+1)))) (some (.r ()))) (some (.x ()))
def W1(W:Zb)(B:Zg)(G:Zb)(J U:Int)(D:Z4):QQ:=(bW (λq:Int=>br W B G J D q) U).bind (Fw.elim (λe=>dI.W2 W B (len B) 0 D) (λe=>some 2))
end dI
def dI(G:Z4)(D:Zb)(B:Zg):QQ:=(yz G D).bind λu=>bl u (dI.W1 D B D (len D) 0 G) (some 1)
open dI in
instance Y6(G:Z4)(D:Zb)(B:Zg):Fc Sy cL (dI G D B):=Fc.M 109 [enc G,enc D,enc B] (cw 2 3 G (bG 8 λL _=>dy 3 16 (b8 7 D (eA 5 (λC=>(bL [Cv 1 D,Cv 2 B,Pv 3,Cv 17 D,Iv 18 (len D),Iv 19 C] [Xb 3 G])) (λu=>(0,(bL [Cv 1 D,Cv 2 B,Pv 3] [Xb 3 G]))) (λu=>(bL [Iv 6 2] [])) (λC=>bB 7 20 (bQ 7 λO _=>bG 8 λQ _=>dy 3 26 bh bh) bh) (λu=>b8 6 B (eA 5 (λI=>(bL [Cv 1 D,Pv 3,Cv 28 B,Iv 29 (len B),Iv 30 I] [Xb 3 G])) (λw=>(2,(bL [Cv 1 D,Pv 3] [Xb 3 G]))) (λw=>(bL [Iv 6 2] [])) (λI=>bB 7 31 (bQ 7 λS _=>bG 8 λT _=>dy 3 37 bh bh) bh) (λw=>b8 6 D (eA 5 (λJ=>(bL [Pv 3,Cv 39 D,Iv 40 (len D),Iv 41 J] [Xb 3 G])) (λz=>(4,(bL [] []))) (λz=>(bL [Iv 6 18] [])) (λJ=>bB 7 42 (bQ 7 λU _=>bG 8 λW _=>dy 3 48 bh bh) bh) (λz=>bh) (λz=>bh))) (λw=>bh))) (λu=>bh))) bh))
namespace jS
def br(G:Zg)(J:Int)(B:Sl bf)(D:Int):a_ (Fw ((Sl bf)×Int) (Sl bf) Empty):=bl (decide (D<J)) ((idx G D).bind λu=>bl (decide (u>0)) ((gy B (⟨D,u⟩:bf)).bind λw=>some (.n (w,wrap .i64 (D+1)))) (some (.n (B,wrap .i64 (D+1))))) (some (.x B))
def W1(B:Sl bf)(D:Zg)(G J:Int):a_ ((Sl bf)×Int):=(bW (λq:(Sl bf)×Int=>br D G q.1 q.2) (B,J)).bind (Fw.elim (λe=>some (e,0)) (λe=>elim e))
end jS
def jS(D:Z4)(B:Zg):a_ ((Sl bf)×Int):=(dI D (Sl.row [B]:Zb) (Sl.nil:Zg)).bind λu=>bl (u==0) (jS.W1 (Sl.nil:Sl bf) B (len B) 0) (some (Sl.nil,u))
open jS in
instance Vf(D:Z4)(B:Zg):Fc Sy cL (jS D B):=Fc.N 147 [enc D,enc B] (cw 2 2 D (yw 9 12 ([B]:aZ Zg) (cU 0 λz _=>dy 9 15 (b8 12 B (fM 6 (λu=>(bL [Ov 7,Cv 17 B,Iv 18 (len B),Iv 19 u.2] [Lb 2007 u.1])) (λw=>(0,(bL [Ov 7] [Lb 2007 w]))) (λu=>bB 8 20 (bQ 8 λC _=>bB 11 25 (oI 7 2007 30 31 λG _=>bh) bh) bh) (λw=>bh))) bh)))
namespace gu
def kz(B:bX)(D:Int)(x:Int×(Zg))(G:Zg):a_ (Fw Zg Empty Zg):=bl (x.1==D) (some (.r x.2)) (some (.n (Sl.nil:Zg)))
def E1(B:bX)(D:Int)(G:Zg):a_ Zg:=(jM B).bind λu=>(lE (λ(x:Int×(Zg))(q:Zg)=>kz B D x q) u G).bind (Fw.rI (λq=>some Sl.nil) (λe=>elim e) (λe=>some e))
end gu
def gu(B:bX)(k1:Int):a_ Zg:=(ov B).bind λu=>gu.E1 u k1 (Sl.nil:Zg)
open gu in
instance T3(D:bX)(k1:Int):Fc Sy cL (gu D k1):=Fc.N 148 [enc D,.int .i64 k1] (cw 2 2 D (bG 8 λw _=>GA λC z=>CT 4 [Pv 3,Pv 4,(8,.v (.clo 222 [] [.fptr (cells w)]))] (λB=>[(3,.box [iv k1]),(4,.box [.v .bO])]) (λu=>elim u) (λu=>[(3,.box [iv k1]),(4,.box [cv u])]) (GS w C z) (λG B=>zC 8 (bB 9 13 (nN 4 4 0 G.2 bh) bh)) (λB=>bh) (λx=>elim x) (λu=>bh)))
namespace jf
def br(G:Zg)(J:Int)(U:Z4)(D:Zb)(B:Int):a_ (Fw ((Zb)×Int) Zb Empty):=bl (decide (B<J)) ((idx G B).bind λu=>(idx U.procs B).bind λw=>(gu w u).bind λz=>(gy D (z:Zg)).bind λC=>some (.n (C,wrap .i64 (B+1)))) (some (.x D))
def W1(B:Zb)(D:Zg)(G J:Int)(U:Z4):a_ ((Zb)×Int):=(bW (λq:(Zb)×Int=>br D G U q.1 q.2) (B,J)).bind (Fw.elim (λe=>some (e,0)) (λe=>elim e))
end jf
def jf(D:Z4)(B:Zg):a_ ((Zb)×Int):=(jS D B).bind λu=>bl (u.2==0) (jf.W1 (Sl.nil:Zb) B (len B) 0 D) (some (Sl.nil,u.2))
open jf in
instance Xf(D:Z4)(B:Zg):Fc Sy cL (jf D B):=Fc.N 107 [enc D,enc B] (cw 2 2 D (bG 9 λC _=>dy 13 18 (b8 12 B (fM 6 (λu=>(bL [Pv 2,Ov 8,Cv 20 B,Iv 21 (len B),Iv 22 u.2] [Xb 2 D,Lb 2008 u.1])) (λw=>(0,(bL [Ov 8] [Lb 2008 w]))) (λu=>bB 8 23 (bQ 8 λG _=>bQ 10 λI _=>bG 2 λz _=>yw 0 35 ([z]:aZ Zg) (oI 0 2008 35 36 λJ _=>bh)) bh) (λw=>bh))) bh))
def kB(B:Var)(D:Pred):a_ X':=some (toList B.name==toList D.name)
instance HU(B:Var)(D:Pred):Fc Sy cL (kB B D):=Fc.M 223 [enc B,.fptr (cells D)] (bh)
def oB(D:cq)(p1:Pred):QQ:=(idx D.t.procs p1.proc).bind λu=>(fJ u.vars (λz=>kB z p1)).bind λw=>(idx D.values p1.proc).bind λB=>(idx B w).bind λC=>some C
instance KB(B:cq)(p1:Pred):Fc Sy cL (oB B p1):=Fc.M 192 [enc B,enc p1] (cw 2 2 B (cw 0 3 p1 (bQ 10 λu _=>cU (F:=oA 223 [.fptr (cells p1)] (λz=>kB z p1) kQ.pQ u.vars) 3 λw _=>bQ 9 λC _=>bQ 2 λD _=>bh)))
def vn(B:Z4)(m1:Int):a_ (bf×X'):=(iL B 3 m1).bind λu=>some (u.1,u.2)
instance To(B:Z4)(m1:Int):Fc Sy cL (vn B m1):=Fc.M 235 [enc B,.int .i64 m1] (cw 2 2 B (bG 8 λu _=>bh))
namespace iX
def br(W:Zg)(Y:Int)(J:Sl WF)(U:Z4)(B:Zg)(G D:Int):a_ (Fw ((Zg)×Int×Int) Zg Empty):=bl (decide (D<G)) ((idx J D).bind λu=>(bl (u.kind==2) (some (!(u.peer==Y))) (some true):a_ X').bind λC=>bl C (some (.n (B,G,wrap .i64 (D+1)))) ((vn U u.message).bind λw=>(bl w.2 ((idx W w.1.proc).bind λI=>some (decide (w.1.index>I))) (some true):a_ X').bind λL=>bl L ((gy B (u.message:Int)).bind λz=>some (.n (z,G,wrap .i64 (D+1)))) (some (.n (B,G,wrap .i64 (D+1)))))) (some (.x B))
def W1(W:Zg)(Y:Int)(B:Zg)(D:Sl WF)(G J:Int)(U:Z4):a_ ((Zg)×Int):=(bW (λq:(Zg)×Int×Int=>br W Y D U q.1 q.2.1 q.2.2) (B,G,J)).bind (Fw.elim (λe=>some (e,0)) (λe=>elim e))
end iX
def iX(B:Z4)(D:Zg)(p2 G:Int):a_ ((Zg)×Int):=(dI B (Sl.row [D]:Zb) (Sl.row [p2,G]:Zg)).bind λu=>bl (u==0) ((idx B.procs p2).bind λz=>(idx D p2).bind λC=>(fZ z.events none (some C)).bind λw=>iX.W1 D G (Sl.nil:Zg) w (len w) 0 B) (some (Sl.nil,u))
open iX in
instance WD(B:Z4)(D:Zg)(p2 G:Int):Fc Sy cL (iX B D p2 G):=Fc.N 224 [enc B,enc D,.int .i64 p2,.int .i64 G] (cw 2 4 B (yw 9 18 ([D]:aZ Zg) (cU 3 λL _=>dy 9 24 (bQ 14 λO _=>bQ 4 λC _=>BD 1 false true [.int .i64 C] λw _=>b8 0 w (fM 6 (λu=>(bL [Cv 1 D,Iv 3 G,Pv 4,Ov 11,Cv 36 w,Iv 37 u.2.1,Iv 38 u.2.2] [Xb 4 B,Lb 2011 u.1])) (λz=>(0,(bL [Ov 11] [Lb 2011 z]))) (λu=>bB 8 39 (bQ 7 λI _=>nN 2 13 0 I (b_ 9 5 [45] 50 (dy 9 45 (bD 5) (bD 5)) λQ=>bB 2 50 bh (bG 8 λS _=>b_ 13 9 [14,60] 69 (dy 13 60 (bQ 5 λT _=>bD 3) (bD 9)) λU=>bB 2 69 (oI 6 2011 73 74 λJ _=>bh) bh))) bh) (λz=>bh))) bh)))
def o5(B:cq)(p1:Pred):QQ:=(iX B.t B.counts p1.proc p1.peer).bind λu=>some (len u.1)
instance Lg(B:cq)(p1:Pred):Fc Sy cL (o5 B p1):=Fc.M 193 [enc B,enc p1] (cw 2 2 B (cw 0 3 p1 (bG 13 λu _=>b8 10 u.1 bh)))
def cM(B:cq)(p1:Pred)(r:(cq×Pred)->QQ):QQ:=bl (p1.kind==1) (some p1.n) (bl (p1.kind==2) ((oB B p1).bind λL=>some L) (bl (p1.kind==3) ((idx B.counts p1.proc).bind λO=>some O) (bl (p1.kind==4) ((o5 B p1).bind λQ=>some Q) (bl (p1.kind==5) ((idx p1.l 0).bind λS=>(r (B,S)).bind λT=>some (wrap .i64 (0-T))) (bl (p1.kind==6) ((idx p1.l 0).bind λU=>(r (B,U)).bind λW=>(idx p1.l 1).bind λX=>(r (B,X)).bind λY=>some (wrap .i64 (W+Y))) (bl (p1.kind==7) ((idx p1.l 0).bind λu=>(r (B,u)).bind λw=>(idx p1.l 1).bind λz=>(r (B,z)).bind λC=>some (wrap .i64 (w-C))) ((idx p1.l 0).bind λD=>(r (B,D)).bind λG=>(idx p1.l 1).bind λI=>(r (B,I)).bind λJ=>some (wrap .i64 (G*J)))))))))
theorem xd(r:(cq×Pred)->QQ)(a:hG Sy cL 149 (λz:cq×Pred=>[enc z.1,enc z.2]) (λr:Int=>[.int .i64 r]) r true)(B:cq)(p1:Pred):Le ((cM B p1 r).bind λr=>some [.int .i64 r]) (jT cL 149 [enc B,enc p1]):=(Fc.M 149 [enc B,enc p1] (cw 2 2 B (cw 0 3 p1 (bB 17 7 bh (bB 7 11 (bG 5 λT _=>bh) (bB 7 16 (bQ 7 λU _=>bh) (bB 7 24 (bG 5 λW _=>bh) (bB 7 29 (jI 6 33 (Pred.mJ p1.l) (bQ 0 λG _=>cU (F:=Fc.of (B,G) a) 1 λX _=>bh)) (bB 7 38 (jI 6 42 (Pred.mJ p1.l) (bQ 0 λI _=>cU (F:=Fc.of (B,I) a) 1 λY _=>jI 3 48 (Pred.mJ p1.l) (bQ 0 λJ _=>cU (F:=Fc.of (B,J) a) 1 λZ _=>bh))) (bB 7 53 (jI 6 57 (Pred.mJ p1.l) (bQ 0 λu _=>cU (F:=Fc.of (B,u) a) 1 λL _=>jI 3 63 (Pred.mJ p1.l) (bQ 0 λw _=>cU (F:=Fc.of (B,w) a) 1 λO _=>bh))) (jI 9 70 (Pred.mJ p1.l) (bQ 0 λC _=>cU (F:=Fc.of (B,C) a) 1 λQ _=>jI 3 76 (Pred.mJ p1.l) (bQ 0 λD _=>cU (F:=Fc.of (B,D) a) 1 λS _=>bh)))))))))))):Fc Sy cL (cM B p1 r)).F.h ()
def fe(B:cq)(p1:Pred):QQ:=iw (λr(z:cq×Pred)=>cM z.1 z.2 r) 100000 (B,p1)
instance Lm(B:cq)(p1:Pred):Fc Sy cL (fe B p1):=Fc.of (B,p1) (hG.fix (A:=λz:cq×Pred=>[enc z.1,enc z.2]) (E:=λr:Int=>[.int .i64 r]) (sc:=true) (b:=(λr(z:cq×Pred)=>cM z.1 z.2 r)) Zae (λ_ _=>rfl) (λr a z=>xd r a z.1 z.2) 100000)
namespace eR
def J1(W:Int)(U:X')(D:cq)(B:Pred)(r:(cq×Pred)->a_ X'):a_ X':=bl U (some (B.kind==13)) (bl (W==15) ((idx B.l 0).bind λu=>(r (D,u)).bind λw=>some (!w)) (bl (W==16) ((idx B.l 0).bind λz=>(r (D,z)).bind λC=>(bl C ((idx B.l 1).bind λG=>(r (D,G)).bind λI=>some I) (some false):a_ X').bind λJ=>some J) ((idx B.l 0).bind λL=>(r (D,L)).bind λO=>(bl O (some true) ((idx B.l 1).bind λQ=>(r (D,Q)).bind λS=>some S):a_ X').bind λT=>some T)))
theorem qN(r:(cq×Pred)->a_ X')(a:hG Sy cL 108 (λz:cq×Pred=>[enc z.1,enc z.2]) (λr:X'=>[.bool r]) r true)(U:Int)(G:X')(B:cq)(D:Pred):Le ((J1 U G B D r).bind (λr=>some [.bool r])) (cg Sy cL (qR (tr Tx 108)) (uF (tb Tx 108) [1,0,1,0,1,1,1,1,1,1,1,1,1,0] [] (bL [Pv 2,Pv 3,Iv 6 U,Bv 67 G] [Xb 2 B,Xb 3 D]))):=bB 0 67 bh (bB 7 73 (jI 6 77 (Pred.mJ D.l) (bQ 0 λC _=>cU (F:=Fc.of (B,C) a) 1 λQ _=>bh)) (bB 7 82 (jI 6 86 (Pred.mJ D.l) (bQ 0 λI _=>cU (F:=Fc.of (B,I) a) 1 λS _=>yo 1 7 [96,89] (λu=>(bL [Bv 67 false,Bv 73 false,Bv 82 true,Bv 97 u] [Xb 2 B,Xb 3 D])) (bB 1 90 (jI 3 93 (Pred.mJ D.l) (bQ 0 λJ _=>cU (F:=Fc.of (B,J) a) 1 λT _=>bD 1)) (bD 7)) λu=>bh)) (jI 9 100 (Pred.mJ D.l) (bQ 0 λL _=>cU (F:=Fc.of (B,L) a) 1 λW _=>yo 1 7 [110,103] (λw=>(bL [Bv 67 false,Bv 73 false,Bv 82 false,Bv 111 w] [Xb 2 B,Xb 3 D])) (bB 1 104 (bD 7) (jI 3 107 (Pred.mJ D.l) (bQ 0 λO _=>cU (F:=Fc.of (B,O) a) 1 λX _=>bD 1))) λw=>bh))))
end eR
def dS(B:cq)(p1:Pred)(r:(cq×Pred)->a_ X'):a_ X':=bl (p1.kind==9) ((idx p1.l 0).bind λJ=>(fe B J).bind λL=>(idx p1.l 1).bind λO=>(fe B O).bind λQ=>some (L==Q)) (bl (p1.kind==10) ((idx p1.l 0).bind λS=>(fe B S).bind λT=>(idx p1.l 1).bind λU=>(fe B U).bind λW=>some (!(T==W))) (bl (p1.kind==11) ((idx p1.l 0).bind λX=>(fe B X).bind λu=>(idx p1.l 1).bind λw=>(fe B w).bind λz=>some (decide (u<z))) (bl (p1.kind==12) ((idx p1.l 0).bind λC=>(fe B C).bind λD=>(idx p1.l 1).bind λG=>(fe B G).bind λI=>some (decide (D<=I))) (bl (p1.kind==13) (eR.J1 p1.kind true B p1 r) (eR.J1 p1.kind (p1.kind==14) B p1 r)))))
open eR in
theorem xK(r:(cq×Pred)->a_ X')(a:hG Sy cL 108 (λz:cq×Pred=>[enc z.1,enc z.2]) (λr:X'=>[.bool r]) r true)(B:cq)(p1:Pred):Le ((dS B p1 r).bind λr=>some [.bool r]) (jT cL 108 [enc B,enc p1]):=(Fc.M 108 [enc B,enc p1] (cw 2 2 B (cw 0 3 p1 (bB 17 7 (jI 6 11 (Pred.mJ p1.l) (bQ 0 λL _=>cU 1 λO _=>jI 3 17 (Pred.mJ p1.l) (bQ 0 λQ _=>cU 1 λS _=>bh))) (bB 7 22 (jI 6 26 (Pred.mJ p1.l) (bQ 0 λT _=>cU 1 λU _=>jI 3 32 (Pred.mJ p1.l) (bQ 0 λW _=>cU 1 λX _=>bh))) (bB 7 37 (jI 6 41 (Pred.mJ p1.l) (bQ 0 λY _=>cU 1 λu _=>jI 3 47 (Pred.mJ p1.l) (bQ 0 λw _=>cU 1 λC _=>bh))) (bB 7 52 (jI 6 56 (Pred.mJ p1.l) (bQ 0 λD _=>cU 1 λG _=>jI 3 62 (Pred.mJ p1.l) (bQ 0 λI _=>cU 1 λJ _=>bh))) (bB 8 67 (za 4 (qN r a p1.kind true B p1)) (za 7 (qN r a p1.kind (p1.kind==14) B p1))))))))):Fc Sy cL (dS B p1 r)).F.h ()
def eR(B:cq)(p1:Pred):a_ X':=iw (λr(z:cq×Pred)=>dS z.1 z.2 r) 100000 (B,p1)
instance Mn(B:cq)(p1:Pred):Fc Sy cL (eR B p1):=Fc.of (B,p1) (hG.fix (A:=λz:cq×Pred=>[enc z.1,enc z.2]) (E:=λr:X'=>[.bool r]) (sc:=true) (b:=(λr(z:cq×Pred)=>dS z.1 z.2 r)) Zae (λ_ _=>rfl) (λr a z=>xK r a z.1 z.2) 100000)
namespace gW
def br(Y J:Zb)(U:Int)(G:Z4)(W:Pred)(B:Sl X')(D:Int):a_ (Fw ((Sl X')×Int) (Sl X') ((Zb)×(Sl X')×Int)):=bl (decide (D<U)) ((idx J D).bind λw=>(jf G w).bind λu=>bl (u.2==0) ((eR (⟨G,w,u.1⟩:cq) W).bind λz=>(gy B (z:X')).bind λC=>some (.n (C,wrap .i64 (D+1)))) (some (.r ((Sl.nil:Zb),(Sl.nil:Sl X'),u.2)))) (some (.x B))
def W1(Y:Zb)(B:Sl X')(D:Zb)(G J:Int)(U:Z4)(W:Pred):a_ ((Zb)×(Sl X')×Int):=(bW (λq:(Sl X')×Int=>br Y D G U W q.1 q.2) (B,J)).bind (Fw.elim (λe=>some (Y,e,0)) (λe=>some (e.1,e.2.1,e.2.2)))
end gW
def gW(B:Z4)(p1:Pred):a_ ((Zb)×(Sl X')×Int):=(rF B p1).bind λw=>bl (w==0) ((u_ p1 2).bind λz=>bl (z==0) ((oQ p1).bind λC=>bl C (some (Sl.nil,(Sl.nil:Sl X'),15)) ((ou B).bind λu=>bl (u.2==0) (gW.W1 u.1 (Sl.nil:Sl X') u.1 (len u.1) 0 B p1) (some (Sl.nil,(Sl.nil:Sl X'),u.2)))) (some (Sl.nil,(Sl.nil:Sl X'),z))) (some (Sl.nil,(Sl.nil:Sl X'),w))
open gW in
instance WI(B:Z4)(p1:Pred):Fc Sy cL (gW B p1):=Fc.N 68 [enc B,enc p1] (cw 2 2 B (cw 0 3 p1 (bG 10 λG _=>dy 9 20 (bG 7 λI _=>dy 9 25 (bG 7 λJ _=>bB 2 28 bh (bG 6 λw _=>dy 14 35 (b8 12 w.1 (eA 6 (λz=>(bL [Pv 2,Pv 3,Cv 9 w.1,Ov 11,Cv 37 w.1,Iv 38 (len w.1),Iv 39 z.2] [Xb 2 B,Xb 3 p1,Lb 2011 z.1])) (λu=>(0,(bL [Cv 9 w.1,Ov 11] [Lb 2011 u]))) (λu=>(bL [Cv 4 u.1,Ov 5,Iv 6 u.2.2] [Lb 2005 u.2.1])) (λz=>bB 8 40 (bQ 7 λC _=>bG 8 λD _=>dy 14 50 (aaO 8 (⟨B,C,D.1⟩:cq) [enc B,enc C,enc D.1] [.bO,.bO,.bO] [(0,1),(1,1),(2,1)] (by simp only[N4,Pa,lY,P6,ME,Qb,Q1];rfl) rfl (bG 1 λL _=>oI 1 2011 59 60 λO _=>bh)) bh) bh) (λu=>bh) (λu=>bh))) bh)) bh) bh)))
namespace eX
def br(B:Sl X')(J:Zb)(U:Int)(D:Zb)(G:Int):a_ (Fw ((Zb)×Int) Zb Empty):=bl (decide (G<U)) ((idx J G).bind λu=>(idx B G).bind λw=>bl w ((gy D (u:Zg)).bind λz=>some (.n (z,wrap .i64 (G+1)))) (some (.n (D,wrap .i64 (G+1))))) (some (.x D))
def W1(B:Sl X')(D G:Zb)(J U:Int):a_ ((Zb)×Int):=(bW (λq:(Zb)×Int=>br B G J q.1 q.2) (D,U)).bind (Fw.elim (λe=>some (e,0)) (λe=>elim e))
end eX
def eX(B:Z4)(p1:Pred):a_ ((Zb)×Int):=(gW B p1).bind λu=>bl (u.2.2==0) (eX.W1 u.2.1 (Sl.nil:Zb) u.1 (len u.1) 0) (some (Sl.nil,u.2.2))
open eX in
instance Tj(B:Z4)(p1:Pred):Fc Sy cL (eX B p1):=Fc.N 29 [enc B,enc p1] (cw 2 2 B (cw 0 3 p1 (bG 8 λu _=>dy 16 20 (b8 12 u.1 (fM 6 (λw=>(bL [Cv 7 u.2.1,Ov 9,Cv 22 u.1,Iv 23 (len u.1),Iv 24 w.2] [Lb 2009 w.1])) (λz=>(0,(bL [Ov 9] [Lb 2009 z]))) (λw=>bB 8 25 (bQ 8 λC _=>bQ 9 λD _=>bB 3 32 (yw 4 35 ([C]:aZ Zg) (oI 0 2009 35 36 λG _=>bh)) bh) bh) (λz=>bh))) bh)))
def o_(B:Z4)(p1:Pred):a_ ((Sl X')×Int):=(gW B p1).bind λu=>some (u.2.1,u.2.2)
instance TT(B:Z4)(p1:Pred):Fc Sy cL (o_ B p1):=Fc.N 82 [enc B,enc p1] (cw 2 2 B (cw 0 3 p1 (bG 8 λu _=>bh)))
namespace fS
def br(J:Zg)(D:Int)(G:Sl U8)(B:Int):a_ (Fw ((Sl U8)×Int) (Sl U8) Empty):=bl (decide (B<D)) ((idx J B).bind λu=>(gy G (⟨wrap .u8 u⟩:U8)).bind λw=>some (.n (w,wrap .i64 (B+1)))) (some (.x G))
def W1(G:Sl U8)(J:Zg)(B D:Int):a_ U':=(bW (λq:(Sl U8)×Int=>br J B q.1 q.2) (G,D)).bind (Fw.elim (λe=>some (K9 e)) (λe=>elim e))
end fS
def fS(B:Zg):a_ U':=(sB (len B) (⟨0⟩:U8)).bind λu=>fS.W1 u B (len B) 0
open fS in
instance YA(B:Zg):Fc Sy cL (fS B):=Fc.M 84 [enc B] (b8 8 B (aaY (zero:=[.int .u8 0]) 0 8 λz _=>b8 7 B (fM 6 (λu=>(bL [Ov 3,Cv 9 B,Iv 10 (len B),Iv 11 u.2] [Lb 2003 u.1])) (λw=>(0,(bL [Ov 3] [Lb 2003 w]))) (λu=>bB 8 12 (bQ 7 λC _=>oI 9 2003 18 19 λD _=>bh) bh) (λw=>Zw 5 2003 w bh))))
namespace jR
def br(J:Zb)(U:Int)(D:Int)(G:Mo ByteArray Int)(B:b9):a_ (Fw (Int×(Mo ByteArray Int)×b9) ((Mo ByteArray Int)×b9) Empty):=bl (decide (D<U)) ((idx J D).bind λu=>(fS u).bind λw=>some (.n (wrap .i64 (D+1),mU G w D,(⟨B.t,B.l,⟨none⟩,B.truth⟩:b9)))) (some (.x (G,(⟨B.t,B.l,⟨none⟩,B.truth⟩:b9))))
def W1(G:Zb)(J U:Int)(B:Mo ByteArray Int)(D:b9):a_ (a_ b9):=(bW (λq:Int×(Mo ByteArray Int)×b9=>br G J q.1 q.2.1 q.2.2) (U,B,D)).bind (Fw.elim (λe=>some (some (⟨e.2.t,e.2.l,⟨some e.1⟩,e.2.truth⟩:b9))) (λe=>elim e))
end jR
def jR(G:Z4)(D:Zb)(B:Sl X'):a_ (a_ b9):=jR.W1 D (len D) 0 [] (⟨G,D,⟨none⟩,B⟩:b9)
open jR in
instance Xv(G:Z4)(D:Zb)(B:Sl X'):Fc Sy cL (jR G D B):=Fc.N 58 [enc G,enc D,enc B] (cw 2 3 G (ZD 9 [cv G,cv D,.mp 12,cv B] [cv G.procs,cv D,.mp 12,cv B] [.bO,.bO,.gU,.bO] [(0,1),(1,1),(2,1),(3,1)] (by simp only[EL,PI,SU,NX,PD,Ow,lY,P6,ME,Qb,Q1];rfl) (Zn 0 15 [cv G.procs,cv D,.mp 12,cv B] (by simp only[all_cons,YH,RM,Wb,RP,nS,mC,nR,nE,L8];rfl) (b8 7 D (fM 5 (λu=>(bL [(7,.ptr 15 0),Cv 16 D,Iv 17 (len D),Iv 18 u.1] [(12,uV u.2.1),(15,.box [cv u.2.2.t.procs,cv u.2.2.l,.mp 12,cv u.2.2.truth])])) (λw=>(0,(bL [(7,.ptr 15 0)] [(12,uV w.1),(15,.box [cv w.2.t.procs,cv w.2.l,.mp 12,cv w.2.truth])]))) (λu=>bB 7 19 (bQ 8 λC _=>cU 11 λz _=>XW 1 12 u.2.1 z u.1 bh) bh) (λw=>bh))))))
def vW(B:Z4)(p1:Pred):a_ ((a_ b9)×Int):=(o_ B p1).bind λu=>bl (u.2==0) ((ou B).bind λw=>bl (w.2==0) ((jR B w.1 u.1).bind λz=>some (z,0)) (some (none,w.2))) (some (none,u.2))
instance Y2(B:Z4)(p1:Pred):Fc Sy cL (vW B p1):=Fc.N 46 [enc B,enc p1] (cw 2 2 B (cw 0 3 p1 (bG 8 λu _=>dy 14 16 (bG 6 λw _=>dy 14 24 (bG 8 λz _=>bh) bh) bh)))
namespace dF
def br(G:b9)(i1 J U:Int)(B:Zg)(D:Int):a_ (Fw ((Zg)×Int) Zg Empty):=bl (decide (D<U)) ((idx G.l i1).bind λz=>((ec z).bind Sl.whole).bind λu=>(Sl.jg u D).bind λC=>(Sl.get u C).bind λI=>(Sl.jg u D).bind λL=>(Sl.put u L (wrap .i64 (I+J):Int)).bind λO=>(fS O).bind λw=>bl (s8 (lN G.index) w) ((gy B (oJ (lN G.index) w 0:Int)).bind λQ=>some (.n (Q,wrap .i64 (D+1)))) (some (.n (B,wrap .i64 (D+1))))) (some (.x B))
def W1(G:b9)(i1 B:Int)(D:Zg)(J U:Int):a_ Zg:=(bW (λq:(Zg)×Int=>br G i1 B J q.1 q.2) (D,U)).bind (Fw.elim (λe=>some e) (λe=>elim e))
end dF
def dF(s0:b9)(i1 B:Int):a_ Zg:=(idx s0.l i1).bind λu=>dF.W1 s0 i1 B (Sl.nil:Zg) (len u) 0
open dF in
instance O8(s0:b9)(i1 B:Int):Fc Sy cL (dF s0 i1 B):=Fc.N 91 [.fptr (cells s0),.int .i64 i1,.int .i64 B] (bQ 18 λz _=>b8 1 z (fM 6 (λu=>(bL [Kv 0 s0,Iv 1 i1,Iv 2 B,Ov 7,Iv 19 (len z),Iv 20 u.2] [Lb 2007 u.1])) (λC=>(0,(bL [Ov 7] [Lb 2007 C]))) (λu=>bB 8 21 (bQ 18 λD _=>NH 1 30 gV D λI _=>iQ .i64 7 30 λJ _=>ow 0 30 0 1 false (λw=>.int .i64 w) λw _=>iQ .i64 2 30 λL _=>Dw 0 30 (.int .i64 (wrap .i64 (w+B))) λO _=>cU 9 λG _=>Wk 0 s0.index G 0 (bB 12 48 (oI 5 2007 51 52 λQ _=>bh) bh)) bh) (λC=>bh)))
namespace dX
def bU(U:Zg)(W:Zb)(Y b G:Int)(B:Zg)(D:Int)(a:(Zg)->QQ):a_ (Fw ((Zg)×Int) Zg Empty):=bl (decide (D<G)) ((Sl.jg B D).bind λw=>(Sl.get B w).bind λz=>(idx U D).bind λC=>(a (Sl.row [z,C]:Zg)).bind λI=>(Sl.jg B D).bind λJ=>(Sl.put B J (I:Int)).bind λu=>some (.n (u,wrap .i64 (D+1)))) (some (.x B))
def W2(B Y:Zg)(G:Zb)(J D U W:Int)(a:(Zg)->QQ):a_ (Fw ((Zg)×Int) Zg Empty):=(bW (λq:(Zg)×Int=>bU Y G J D U q.1 q.2 a) (B,W)).bind (Fw.elim (λe=>some (.n (e,wrap .i64 (D+1)))) (λe=>elim e))
def br(G:Zb)(J:Int)(B:Zg)(D:Int)(U:(Zg)->QQ):a_ (Fw ((Zg)×Int) Zg Empty):=bl (decide (D<J)) ((idx G D).bind λu=>W2 B u G J D (len B) 0 U) (some (.x B))
def W1(B:Zg)(D:Zb)(G J:Int)(U:(Zg)->QQ):a_ Zg:=(bW (λq:(Zg)×Int=>br D G q.1 q.2 U) (B,J)).bind (Fw.elim (λe=>some e) (λe=>elim e))
end dX
def dX(B:Zb)(D:(Zg)->QQ):a_ Zg:=(idx B 0).bind λw=>((ec w).bind Sl.whole).bind λz=>(fZ B (some 1) none).bind λu=>dX.W1 z u (len u) 0 D
open dX in
abbrev AU(G:FuncId)(e0:aZ V)(U:(Sl Int)->a_ Int)(a:kQ Sy cL G [] e0 (λz:Sl Int=>[enc z]) (λr:Int=>[.int .i64 r]) U true)(W:Sl (Sl Int)):Fc Sy cL (dX W U):=Fc.N 92 [.clo G [] e0,enc W] (bQ 8 λL _=>NH 1 12 gV L λT _=>BD 7 true false [.int .i64 1] λu _=>b8 0 u (fM 6 (λw=>(bL [(0,.v (.clo G [] e0)),Ov 5,Cv 14 u,Iv 15 (len u),Iv 16 w.2] [Lb 2005 w.1])) (λI=>(0,(bL [Ov 5] [Lb 2005 I]))) (λw=>bB 8 17 (bQ 7 λO _=>Ez 7 2005 w.1 (fM 6 (λC=>(bL [(0,.v (.clo G [] e0)),Ov 5,Cv 7 O,Cv 14 u,Iv 15 (len u),Iv 16 w.2,Iv 21 (len w.1),Iv 22 C.2] [Lb 2005 C.1])) (λJ=>(2,(bL [(0,.v (.clo G [] e0)),Ov 5,Cv 14 u,Iv 15 (len u),Iv 16 w.2] [Lb 2005 J]))) (λC=>bB 8 23 (iQ .i64 17 2005 λX _=>ow 0 2005 0 1 false (λB=>.int .i64 B) λB _=>bQ 2 λD _=>X5 1 ([B,D]:aZ Int) (.buildC 1 2 [.int .i64 0] [0,1]) [iv B,iv D] (yU 0 a.f (Sl.row [B,D]:Sl Int) λQ _=>iQ .i64 0 2005 λY _=>Dw 0 2005 (.int .i64 Q) λS _=>bh)) bh) (λJ=>bh))) bh) (λI=>bh)))
def pH(B:Zg):QQ:=(dD B).bind λu=>some u
instance WZ(B:Zg):Fc Sy cL (pH B):=Fc.M 93 [enc B] (bG 8 λu _=>bh)
namespace dN
def bU(e:b9)(i4:Int)(a:Zg)(b:Int)(B:Zb)(D:Int):a_ (Fw ((Zb)×Int) Zb Empty):=bl (decide (D<b)) ((idx a D).bind λu=>(Sl.jg B u).bind λc=>(Sl.get B c).bind λd=>(Sl.isNil d).bind λw=>bl w (some (.n (B,wrap .i64 (D+1)))) ((Sl.jg B i4).bind λC=>(Sl.get B C).bind λG=>(Sl.isNil G).bind λI=>bl I ((Sl.jg B u).bind λJ=>(Sl.get B J).bind λL=>(Sl.jg B i4).bind λO=>(Sl.put B O (L:Zg)).bind λQ=>some (.n (Q,wrap .i64 (D+1)))) ((Sl.jg B i4).bind λS=>(Sl.get B S).bind λT=>(Sl.jg B u).bind λU=>(Sl.get B U).bind λW=>(dX (Sl.row [T,W]:Zb) (λz=>pH z)).bind λX=>(Sl.jg B i4).bind λY=>(Sl.put B Y (X:Zg)).bind λZ=>some (.n (Z,wrap .i64 (D+1)))))) (some (.x B))
def W2(D:b9)(B:Zb)(i4:Int)(G:Zg)(J U:Int):a_ (Fw ((Zb)×Int) Zb Empty):=(bW (λq:(Zb)×Int=>bU D i4 G J q.1 q.2) (B,U)).bind (Fw.elim (λe=>some (.n (e,wrap .i64 (i4-1)))) (λe=>elim e))
def br(D:b9)(B:Zb)(i4:Int):a_ (Fw ((Zb)×Int) Zb Empty):=bl (decide (i4>=0)) ((idx D.truth i4).bind λw=>bl w ((idx D.l i4).bind λz=>(Sl.jg B i4).bind λC=>(Sl.put B C (z:Zg)).bind λG=>some (.n (G,wrap .i64 (i4-1)))) ((dF D i4 1).bind λu=>W2 D B i4 u (len u) 0)) (some (.x B))
def W1(D:b9)(B:Zb)(i4:Int):a_ Zb:=(bW (λq:(Zb)×Int=>br D q.1 q.2) (B,i4)).bind (Fw.elim (λe=>some e) (λe=>elim e))
end dN
def dN(s0:b9):a_ Zb:=(qX (len s0.l) (Sl.nil:Zg)).bind λu=>dN.W1 s0 u (wrap .i64 ((len s0.l)-1))
open dN in
instance My(s0:b9):Fc Sy cL (dN s0):=Fc.N 53 [.fptr (cells s0)] (b8 11 s0.l (PV 0 12 λa _=>b8 10 s0.l (fM 7 (λB=>(bL [Kv 0 s0,Ov 3,Iv 4 B.2] [Lb 2003 B.1])) (λJ=>(0,(bL [Ov 3] [Lb 2003 J]))) (λB=>bB 9 20 (bQ 13 λb _=>bB 3 29 (bQ 10 λc _=>iQ .i64 1 2003 λd _=>yE 0 2003 λe _=>bh) (bG 7 λG _=>b8 0 G (fM 6 (λI=>(bL [Kv 0 s0,Ov 3,Iv 4 B.2,Cv 42 G,Iv 43 (len G),Iv 44 I.2] [Lb 2003 I.1])) (λL=>(2,(bL [Kv 0 s0,Ov 3,Iv 4 B.2] [Lb 2003 L]))) (λI=>bB 8 45 (bQ 7 λf _=>iQ .i64 9 2003 λg _=>ow 0 2003 0 1 false (λO=>enc O) λO _=>DG 0 λT _=>bB 3 61 bh (iQ .i64 5 2003 λU _=>ow 0 2003 0 1 false (λC=>enc C) λC _=>DG 0 λW _=>bB 3 67 (iQ .i64 6 2003 λX _=>ow 0 2003 0 1 false (λD=>enc D) λD _=>iQ .i64 0 2003 λY _=>yE 0 2003 λZ _=>bh) (iQ .i64 6 2003 λh _=>ow 0 2003 0 1 false (λu=>enc u) λu _=>iQ .i64 2 2003 λi _=>ow 0 2003 0 1 false (λw=>enc w) λw _=>yw 0 58 ([u,w]:aZ Zg) (MF (F:=AU 93 [] (λz=>pH z) kQ.pQ (Sl.row [u,w]:Zb)) 0 [58] λj _=>⟨iQ .i64 0 2003 λQ _=>yE 0 2003 λS _=>bh,iQ .i64 0 2003 λQ _=>yE 0 2003 λS _=>bh⟩)))) bh) (λL=>bh)))) bh) (λJ=>bh))))
def jH(G:Zg)(J:a_ b9):a_ X':=(Sl.isNil G).bind λu=>(bl u (some false) ((J).bind λw=>(J).bind λz=>(fS G).bind λB=>(idx w.truth (oJ (lN z.index) B 0)).bind λC=>some (!C)):a_ X').bind λD=>some D
instance Kc(B:Zg)(D:a_ b9):Fc Sy cL (jH B D):=Fc.M 123 [enc B,.fptr (cells D)] (Zs 8 λI _=>yo 1 15 [16] (λu=>(bL [Bv 21 u] [])) (dy 1 6 (bD 15) (Kj 1 (λw=>(bL [Cv 0 B,Kv 1 D,Bv 6 true,Cv 7 w] [])) λz _=>Kj 4 (λw=>(bL [Cv 0 B,Bv 6 true,Cv 10 z.truth,Cv 11 w] [])) λC _=>cU 4 λG _=>YI 0 C.index G 0 (bQ 0 λJ _=>bD 3))) λu=>bh)
def nM(s0:b9)(B:Zb):a_ X':=(dY B (λz=>jH z (some s0:a_ b9))).bind λu=>some (!u)
instance MV(s0:b9)(B:Zb):Fc Sy cL (nM s0 B):=Fc.M 90 [.fptr (cells s0),enc B] (cU (F:=iA 123 [.fptr (cells (some s0:a_ b9))] (λz=>jH z (some s0:a_ b9)) kQ.pQ B) 10 λu _=>bh)
def lG(s0:b9)(D:Zb)(B:Int):a_ ((Zg)×Int):=(nM s0 D).bind λu=>bl u ((idx D B).bind λw=>(Sl.isNil w).bind λz=>bl z (some (Sl.nil,7)) ((idx D B).bind λC=>((ec C).bind Sl.whole).bind λG=>some (G,0))) (some (Sl.nil,15))
instance MU(s0:b9)(D:Zb)(B:Int):Fc Sy cL (lG s0 D B):=Fc.N 52 [.fptr (cells s0),enc D,.int .i64 B] (bG 12 λw _=>dy 4 8 (bQ 5 λz _=>DG 1 λC _=>bB 3 13 bh (bQ 8 λu _=>NH 1 23 gV u λG _=>bh)) bh)
def uG(D:Z4)(p1:Pred):a_ ((Zg)×Int):=(vW D p1).bind λu=>bl (u.2==0) ((u.1).bind λw=>(dN w).bind λB=>(lG w B 0).bind λz=>some (z.1,z.2)) (some (Sl.nil,u.2))
instance W9(B:Z4)(p1:Pred):Fc Sy cL (uG B p1):=Fc.N 18 [enc B,enc p1] (cw 2 2 B (cw 0 3 p1 (bG 8 λu _=>dy 14 15 (Kj 7 (λw=>(bL [Iv 7 u.2,Bv 15 false,Cv 17 w,Cv 18 w] [Xb 2 B,Xb 3 p1])) λz _=>bG 0 λC _=>bG 0 λD _=>bh) bh)))
def qx(B:Zg):QQ:=(dB B).bind λu=>some u
instance Xj(B:Zg):Fc Sy cL (qx B):=Fc.M 103 [enc B] (bG 8 λu _=>bh)
namespace dH
def bU(e:b9)(i4 f g:Int)(a:Zg)(b:Int)(B:Zb)(D:Int):a_ (Fw ((Zb)×Int) Zb Empty):=bl (decide (D<b)) ((idx a D).bind λu=>(Sl.jg B u).bind λc=>(Sl.get B c).bind λd=>(Sl.isNil d).bind λw=>bl w (some (.n (B,wrap .i64 (D+1)))) ((Sl.jg B i4).bind λC=>(Sl.get B C).bind λG=>(Sl.isNil G).bind λI=>bl I ((Sl.jg B u).bind λJ=>(Sl.get B J).bind λL=>(Sl.jg B i4).bind λO=>(Sl.put B O (L:Zg)).bind λQ=>some (.n (Q,wrap .i64 (D+1)))) ((Sl.jg B i4).bind λS=>(Sl.get B S).bind λT=>(Sl.jg B u).bind λU=>(Sl.get B U).bind λW=>(dX (Sl.row [T,W]:Zb) (λz=>qx z)).bind λX=>(Sl.jg B i4).bind λY=>(Sl.put B Y (X:Zg)).bind λZ=>some (.n (Z,wrap .i64 (D+1)))))) (some (.x B))
def W2(G:b9)(B:Zb)(i4 J D:Int)(U:Zg)(W Y:Int):a_ (Fw ((Zb)×Int) Zb Empty):=(bW (λq:(Zb)×Int=>bU G i4 J D U W q.1 q.2) (B,Y)).bind (Fw.elim (λe=>some (.n (e,wrap .i64 (D+1)))) (λe=>elim e))
def br(G:b9)(J:Int)(D:Zb)(B:Int):a_ (Fw ((Zb)×Int) Zb Empty):=bl (decide (B<J)) ((idx G.truth B).bind λw=>bl w ((idx G.l B).bind λz=>(Sl.jg D B).bind λC=>(Sl.put D C (z:Zg)).bind λI=>some (.n (I,wrap .i64 (B+1)))) ((dF G B (-1)).bind λu=>W2 G D B J B u (len u) 0)) (some (.x D))
def W1(D:b9)(B:Zb)(G J:Int):a_ Zb:=(bW (λq:(Zb)×Int=>br D G q.1 q.2) (B,J)).bind (Fw.elim (λe=>some e) (λe=>elim e))
end dH
def dH(s0:b9):a_ Zb:=(qX (len s0.l) (Sl.nil:Zg)).bind λu=>dH.W1 s0 u (len s0.l) 0
open dH in
instance LH(s0:b9):Fc Sy cL (dH s0):=Fc.N 65 [.fptr (cells s0)] (b8 11 s0.l (PV 0 12 λa _=>b8 10 s0.l (fM 6 (λB=>(bL [Kv 0 s0,Ov 3,Iv 17 (len s0.l),Iv 18 B.2] [Lb 2003 B.1])) (λJ=>(0,(bL [Ov 3] [Lb 2003 J]))) (λB=>bB 8 19 (bQ 19 λb _=>bB 3 27 (bQ 10 λc _=>iQ .i64 1 2003 λd _=>yE 0 2003 λe _=>bh) (bG 7 λG _=>b8 0 G (fM 6 (λI=>(bL [Kv 0 s0,Ov 3,Iv 4 B.2,Iv 17 (len s0.l),Iv 18 B.2,Cv 40 G,Iv 41 (len G),Iv 42 I.2] [Lb 2003 I.1])) (λL=>(2,(bL [Kv 0 s0,Ov 3,Iv 17 (len s0.l),Iv 18 B.2] [Lb 2003 L]))) (λI=>bB 8 43 (bQ 7 λf _=>iQ .i64 9 2003 λg _=>ow 0 2003 0 1 false (λO=>enc O) λO _=>DG 0 λT _=>bB 3 59 bh (iQ .i64 5 2003 λU _=>ow 0 2003 0 1 false (λC=>enc C) λC _=>DG 0 λW _=>bB 3 65 (iQ .i64 6 2003 λX _=>ow 0 2003 0 1 false (λD=>enc D) λD _=>iQ .i64 0 2003 λY _=>yE 0 2003 λZ _=>bh) (iQ .i64 6 2003 λh _=>ow 0 2003 0 1 false (λu=>enc u) λu _=>iQ .i64 2 2003 λi _=>ow 0 2003 0 1 false (λw=>enc w) λw _=>yw 0 56 ([u,w]:aZ Zg) (MF (F:=AU 103 [] (λz=>qx z) kQ.pQ (Sl.row [u,w]:Zb)) 0 [56] λj _=>⟨iQ .i64 0 2003 λQ _=>yE 0 2003 λS _=>bh,iQ .i64 0 2003 λQ _=>yE 0 2003 λS _=>bh⟩)))) bh) (λL=>bh)))) bh) (λJ=>bh))))
def qB(D:Z4)(p1:Pred):a_ ((Zg)×Int):=(vW D p1).bind λu=>bl (u.2==0) ((u.1).bind λw=>(dH w).bind λB=>(lG w B (wrap .i64 ((len w.l)-1))).bind λz=>some (z.1,z.2)) (some (Sl.nil,u.2))
instance Rx(B:Z4)(p1:Pred):Fc Sy cL (qB B p1):=Fc.N 26 [enc B,enc p1] (cw 2 2 B (cw 0 3 p1 (bG 8 λu _=>dy 14 15 (Kj 7 (λw=>(bL [Cv 6 w,Iv 7 u.2,Bv 15 false,Cv 17 w,Cv 18 w] [Xb 2 B,Xb 3 p1])) λz _=>bG 0 λC _=>b8 4 z.l (bG 1 λD _=>bh)) bh)))
def kH(B D:Zg):a_ X':=(eZ D B).bind λu=>some u
instance Is(B D:Zg):Fc Sy cL (kH B D):=Fc.M 32 [enc B,.fptr (cells D)] (bG 9 λu _=>bh)
def gT(B:Zg)(D:Zb):a_ X':=(dY D (λz=>kH z B)).bind λu=>some u
instance Lf(B:Zg)(D:Zb):Fc Sy cL (gT B D):=Fc.M 30 [enc B,.fptr (cells D)] (cw 2 2 B (cU (F:=iA 32 [.fptr (cells B)] (λz=>kH z B) kQ.pQ D) 7 λu _=>bh))
namespace qj
def br(a0 G:Zg)(D:Int)(B:Int):a_ (Fw Int Unit Unit):=bl (decide (B<D)) ((idx a0 B).bind λu=>(idx G B).bind λw=>bl (decide (u>w)) (some (.r ())) (some (.n (wrap .i64 (B+1))))) (some (.x ()))
def W1(a0 G:Zg)(B D:Int):a_ X':=(bW (λq:Int=>br a0 G B q) D).bind (Fw.elim (λe=>some true) (λe=>some false))
end qj
def qj(a0 B:Zg):a_ X':=bl ((len a0)==(len B)) (qj.W1 a0 B (len a0) 0) (some false)
open qj in
instance aaI(a0 B:Zg):Fc Sy cL (qj a0 B):=Fc.M 19 [enc a0,enc B] (b8 9 a0 (b8 1 B (dy 3 10 (b8 7 a0 (eA 5 (λw=>(bL [Cv 0 a0,Cv 1 B,Iv 12 (len a0),Iv 13 w] [])) (λu=>(0,(bL [] []))) (λu=>(bL [Bv 4 false] [])) (λw=>bB 7 14 (bQ 15 λz _=>bQ 3 λC _=>bB 4 24 bh bh) bh) (λu=>bh) (λu=>bh))) bh)))
def kr(B D:Zg):a_ X':=(qj D B).bind λu=>some (!u)
instance Lj(B D:Zg):Fc Sy cL (kr B D):=Fc.M 33 [enc B,.fptr (cells D)] (bG 9 λu _=>bh)
def kq(B D:Zg):a_ X':=(qj B D).bind λu=>some (!u)
instance Li(B D:Zg):Fc Sy cL (kq B D):=Fc.M 34 [enc B,.fptr (cells D)] (bG 9 λu _=>bh)
def nX(U:Z4)(p1:Pred):a_ X':=(xH).bind λS=>bl S ((xo U p1).bind λT=>bl T ((eX U p1).bind λu=>bl (u.2==0) ((uG U p1).bind λw=>(qB U p1).bind λB=>bl ((len u.1)==0) ((bl (w.2==7) (some (B.2==7)) (some false):a_ X').bind λW=>some W) ((bl (w.2==0) ((gT w.1 u.1).bind λX=>(bl X ((dY u.1 (λz=>kr z w.1)).bind λY=>some Y) (some true):a_ X').bind λZ=>some Z) (some false):a_ X').bind λC=>bl C (some false) ((bl (B.2==0) ((gT B.1 u.1).bind λD=>(bl D ((dY u.1 (λz=>kq z B.1)).bind λG=>some G) (some true):a_ X').bind λI=>some I) (some false):a_ X').bind λJ=>bl J (some false) ((bl (w.2==0) (some true) (some (w.2==15)):a_ X').bind λL=>(bl L ((bl (B.2==0) (some true) (some (B.2==15)):a_ X').bind λO=>some O) (some false):a_ X').bind λQ=>some Q)))) (some ((len u.1)==0))) (some true)) (some false)
instance Ad(D:Z4)(p1:Pred):Fc Sy cL (nX D p1):=Fc.M 7 [enc D,enc p1] (cw 2 2 D (cw 0 3 p1 (bG 6 λT _=>dy 3 13 (bG 8 λU _=>dy 3 17 (bG 7 λu _=>nN 4 5 0 u.1 (dy 10 25 (bG 7 λw _=>nN 4 7 0 w.1 (bG 7 λB _=>nN 4 9 0 B.1 (b8 7 u.1 (bB 3 43 (b_ 6 3 [10,46] 49 (bB 6 46 (bD 3) (bD 3)) λW=>bh) (b_ 15 10 [7,53] 63 (bB 15 53 (cU 2 λX _=>b_ 2 4 [7,58] 62 (dy 2 58 (cU (F:=iA 33 [.fptr (cells w.1)] (λz=>kr z w.1) kQ.pQ u.1) 2 λY _=>bD 1) (bD 4)) λZ=>bD 1) (bD 10)) λC=>bB 2 63 bh (b_ 9 10 [5,9,11,66] 76 (bB 9 66 (cU 2 λG _=>b_ 2 4 [5,9,71] 75 (dy 2 71 (cU (F:=iA 34 [.fptr (cells B.1)] (λz=>kq z B.1) kQ.pQ u.1) 2 λI _=>bD 1) (bD 4)) λJ=>bD 1) (bD 10)) λL=>bB 2 76 bh (b_ 8 3 [8,79] 82 (bB 8 79 (bD 3) (bD 3)) λO=>b_ 1 7 [10,83] 90 (bB 1 83 (b_ 3 3 [10,86] 89 (bB 3 86 (bD 3) (bD 3)) λQ=>bD 1) (bD 7)) λS=>bh))))))) (b8 4 u.1 bh))) bh) bh)))
end
end Go.VE
