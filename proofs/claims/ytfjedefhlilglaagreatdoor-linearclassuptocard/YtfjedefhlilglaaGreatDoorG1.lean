/-
 Each function of the program that the law reaches: its plain form, and that it comes to that.
-/
import Derived.Test.YtfjedefhlilglaaGreatDoorK1
import Derived.Test.YtfjedefhlilglaaGreatDoorT1
set_option linter.all false
open List(all_cons all_nil cons_append map_append map_cons map_nil mem_map mem_of_getElem? replicate)
open Go.IntKind(signed wrap)
open Nat(beq ble reduceEqDiff zero_add)
open Empty(elim)
open ByteArray(toList)
namespace Go.VE
theorem Zae{p:Prop}(h:p:=by kernel_rfl):p:=h
structure Var where
 name:ByteArray
 init_:Int
 deriving Inhabited
instance:bD Var where
 cells x:=[.str x.name,.int .i64 x.init_]
 agg:=true
 size:=2
 len _:=rfl
 good x:=by simp only[V.cI,V.good,kf,Bool.and_self]
 one x:=by simp only[all_cons,all_nil,nT,mH,nU,nH,Bool.and_self]
 plain h:=by cases h
structure Assign where
 var:Int
 value:Int
 deriving Inhabited
instance:bD Assign where
 cells x:=[.int .i64 x.var,.int .i64 x.value]
 agg:=true
 size:=2
 len _:=rfl
 good x:=by simp only[V.cI,V.good,kf,Bool.and_self]
 one x:=by simp only[all_cons,all_nil,nT,mH,nU,nH,Bool.and_self]
 plain h:=by cases h
structure Event where
 kind:Int
 peer:Int
 message:Int
 time:Int
 assign:Sl Assign
 deriving Inhabited
abbrev WF:=Event
instance:bD WF where
 cells x:=[.int .i64 x.kind,.int .i64 x.peer,.int .i64 x.message,.int .i64 x.time,enc x.assign]
 agg:=true
 size:=5
 len _:=rfl
 good x:=by simp only[V.cI,V.good,kf,Bool.and_self]
 one x:=by simp only[all_cons,all_nil,nT,mH,nU,nH,Bool.and_self]
 plain h:=by cases h
structure bX where
 name:ByteArray
 vars:Sl Var
 events:Sl Event
 deriving Inhabited
instance:bD bX where
 cells x:=[.str x.name,enc x.vars,enc x.events]
 agg:=true
 size:=3
 len _:=rfl
 good x:=by simp only[V.cI,V.good,kf,Bool.and_self]
 one x:=by simp only[all_cons,all_nil,nT,mH,nU,nH,Bool.and_self]
 plain h:=by cases h
structure Trace where
 procs:Sl bX
 deriving Inhabited
abbrev Z4:=Trace
instance:bD Z4 where
 cells x:=[enc x.procs]
 agg:=true
 size:=1
 len _:=rfl
 good x:=by simp only[V.cI,V.good,kf,Bool.and_self]
 one x:=by simp only[all_cons,all_nil,nT,mH,nU,nH,Bool.and_self]
 plain h:=by cases h
structure Pred where
 kind:Int
 n:Int
 proc:Int
 peer:Int
 name:ByteArray
 l:Sl Pred
mutual
def Pred.U6:Pred->T2
 |⟨f0,f1,f2,f3,B,f5⟩=>[.int .i64 f0,.int .i64 f1,.int .i64 f2,.int .i64 f3,.str B,Pred.H_ f5]
def Pred.H_:Sl Pred->V
 |.nil=>.bO|.emp=>.dS|.row l=>.fsl 6 (Pred.Ff l)|.part l=>.fsl 6 (Pred.Ff l)
def Pred.Ff:aZ Pred->T'
 |[]=>[]|x::r=>Pred.U6 x::Pred.Ff r
end
instance:Inhabited Pred:=⟨⟨default,default,default,default,default,Sl.nil⟩⟩
mutual
theorem Pred.WW:∀x:Pred,V.cI x.U6=true
 |⟨f0,f1,f2,f3,B,f5⟩=>by simp only[Pred.U6,V.cI,V.good,Pred.JM,Bool.and_self]
theorem Pred.JM:∀x:Sl Pred,V.good (Pred.H_ x)=true
 |.nil=>rfl|.emp=>rfl|.row l=>by simp only[Pred.H_,V.good,Pred.Eb]|.part l=>by simp only[Pred.H_,V.good,Pred.Eb]
theorem Pred.Eb:∀x:aZ Pred,V.oq (Pred.Ff x)=true
 |[]=>rfl|x::r=>by simp only[Pred.Ff,V.oq,Pred.WW,Pred.Eb,Bool.and_self]
end
theorem Pred.VF(s:Sl Pred):V.one (Pred.H_ s)=true:=by cases s<;>simp[Pred.H_,V.one]
instance:bD Pred where
 cells x:=[.int .i64 x.kind,.int .i64 x.n,.int .i64 x.proc,.int .i64 x.peer,.str x.name,Pred.H_ x.l]
 agg:=true
 size:=6
 len _:=rfl
 good x:=by simp only[V.cI,V.good,Pred.JM,Bool.and_self]
 one x:=by simp only[all_cons,all_nil,nT,mH,nU,Pred.VF,Bool.and_self]
 plain h:=by cases h
theorem Pred.QA(x:Pred):Pred.U6 x=cells x:=by cases x;rfl
theorem Pred.DM:∀l:aZ Pred,Pred.Ff l=rows l
 |[]=>rfl|x::r=>by rw[Pred.Ff,Pred.DM r,Pred.QA];rfl
theorem Pred.mN(s:Sl Pred):Pred.H_ s=enc s:=by cases s with|nil=>rfl|emp=>rfl|row l=>show V.fsl 6 (Pred.Ff l)=V.fsl 6 (rows l);rw[Pred.DM]|part l=>show V.fsl 6 (Pred.Ff l)=V.fsl 6 (rows l);rw[Pred.DM]
structure bF where
 from_:bf
 to_:bf
 deriving Inhabited
instance:bD bF where
 cells x:=[.int .i64 x.from_.proc,.int .i64 x.from_.index,.int .i64 x.to_.proc,.int .i64 x.to_.index]
 agg:=true
 size:=4
 len _:=rfl
 good x:=by simp only[V.cI,V.good,kf,Bool.and_self]
 one x:=by simp only[all_cons,all_nil,nT,mH,nU,nH,Bool.and_self]
 plain h:=by cases h
structure bT where
 low:Int
 high:Int
 deriving Inhabited
instance:bD bT where
 cells x:=[.int .i64 x.low,.int .i64 x.high]
 agg:=true
 size:=2
 len _:=rfl
 good x:=by simp only[V.cI,V.good,kf,Bool.and_self]
 one x:=by simp only[all_cons,all_nil,nT,mH,nU,nH,Bool.and_self]
 plain h:=by cases h
structure cz where
 lengths:Sl Int
 need:Sl (Sl bf)
 deriving Inhabited
instance:bD cz where
 cells x:=[enc x.lengths,enc x.need]
 agg:=true
 size:=2
 len _:=rfl
 good x:=by simp only[V.cI,V.good,kf,Bool.and_self]
 one x:=by simp only[all_cons,all_nil,nT,mH,nU,nH,Bool.and_self]
 plain h:=by cases h
structure cq where
 t:Trace
 counts:Sl Int
 values:Sl (Sl Int)
 deriving Inhabited
instance:bD cq where
 cells x:=[enc x.t.procs,enc x.counts,enc x.values]
 agg:=true
 size:=3
 len _:=rfl
 good x:=by simp only[V.cI,V.good,kf,Bool.and_self]
 one x:=by simp only[all_cons,all_nil,nT,mH,nU,nH,Bool.and_self]
 plain h:=by cases h
structure b9 where
 t:Trace
 l:Sl (Sl Int)
 index:Ef ByteArray Int
 truth:Sl Bool
 deriving Inhabited
instance:bD b9 where
 cells x:=[enc x.t.procs,enc x.l,enc x.index,enc x.truth]
 agg:=true
 size:=4
 len _:=rfl
 good x:=by simp only[V.cI,V.good,kf,Bool.and_self]
 one x:=by simp only[all_cons,all_nil,nT,mH,nU,nH,M0,Bool.and_self]
 plain h:=by cases h
def jl(p:Int):Int->aZ WF->aZ (bf×WF)
 |_,[]=>[]|j,e::r=>(⟨p,j+1⟩,e)::jl p (j+1) r
def gA:Int->aZ bX->aZ (bf×WF)
 |_,[]=>[]|i,p::r=>jl i 0 p.events.l++gA (i+1) r
def pX(n:Nat):X':=decide (n<9223372036854775807)
def jQ(t:Z4):a_ (aZ (bf×WF)):=if pX t.procs.l.length&&t.procs.l.all λp=>pX p.events.l.length then some (gA 0 t.procs.l)else none
def AJ:cu 22 Int:=⟨Go.Proofs.YtfjedefhlilglaaGreatDoor.EZ,rfl⟩
end Go.VE
namespace Go.VE
def Ut:Nat->Nat->Nat->S'
 |0,_,_=>[]|f+1,i,m=>bif m % 2==1 then i::Ut f (i+1) (m / 2)else Ut f (i+1) (m / 2)
def gK(g m:Nat)(l:S':=[]):Gh:=.keep (Ut 128 0 g) (Ut 128 0 m++l)
def g2(n g m:Nat)(l:S':=[]):Nat×QP×QP:=(n,[gK g m l],[gK g m l])
def g1(n g m:Nat)(l:S':=[]):Nat×QP×QP:=(n,[gK g m l],[])
def G2(n:Nat)(x:QP):Nat×QP×QP:=(n,x,x)
def G1(n:Nat)(x:QP):Nat×QP×QP:=(n,x,[])
def cS(i n:Nat):Gh:=.canon (.s i) (2000+i) n
def cC(i j n:Nat):Gh:=.canon (.c i j) (4000+20*i+j) n
def e0(n m:Nat):Nat×GD:=(n,⟨m,[],[]⟩)
def e1(n m:Nat)(l:aZ (Nat×QP×QP)):Nat×GD:=(n,⟨m,[],l⟩)
def NY:aZ (Nat×GD):=[ e1 118 0x22226260002000201 [g2 6 387 0,g1 12 0 0,g1 22 16 0,g1 27 16 0],e0 79 0x226221,e0 80 0x2222212,e0 194 0x26c4444026402201,e0 195 0x26442201,e1 152 0x222064c002644c00222600620000644402644022201 [g1 8 4 0,g2 14 9 0,g1 20 0 0,g1 28 4 0,g1 33 4 0],e0 153 0x26442201,e1 110 0x2222222022226020222062260202260206000022226020622000022202220620226020600002220202602012 [g1 10 16 0,g2 16 102 36,g1 22 32 32,g1 30 16 0,g1 39 16 0,g2 45 160 32,g1 51 32 32,g1 60 16 0,g2 66 416 32,g1 72 160 32,g1 80 16 0,g1 88 16 0,g1 97 16 0,g1 101 16 0],e1 111 0x2222220620226020600006444026c444c04040222020260206220000222006cc44c4444c04040440264402220064402644026c04026c44040264402644022200644022202202026022602012 [g1 13 64 0,g1 20 64 0,g1 22 142 136,g1 28 64 0,g1 36 64 0,g2 42 394 136,g1 48 0 0,g1 59 64 0,g2 64 1930 648,g1 70 394 136,g1 78 64 0,g1 84 64 0],e0 154 0x2262222262022022,e1 100 0x20222222262226c0442602020260226020622260200062200002 [g2 6 206 72,g1 12 64 64,g2 18 462 72,g1 24 206 72,g1 34 64 64,g1 40 64 64],e1 112 0x2222226cc40444cc4040444022202602262020622262020000220060e20200022020600122 [g2 30 236 44,g1 36 64 0],e1 113 0x22206222602026006220002222203622000622262002062202202026260022602062226020260062200002222012 [G2 6 [cS 3 1,gK 10 2 [2003]],G2 14 [cS 3 1,gK 58 2 [2003]],G1 20 [cS 3 1,gK 26 2 [2003]],G2 24 [cS 3 1,gK 58 2 [2003]],G1 30 [cS 3 1,gK 58 2 [2003]],G1 43 [cS 3 1,gK 58 2 [2003]],G1 46 [cS 3 1,gK 42 2 [2003]],G1 53 [cS 3 1,gK 10 2 [2003]],G2 59 [cS 3 1,gK 266 2 [2003]],g1 65 0 0,g1 73 4 0,g1 78 4 0],e1 155 0x22262622222202062026262202022200122 [G1 10 [cS 5 2,gK 44 12 [2005]]],e1 73 0x202222220222620260600206200622260200062200002020222222222220260020620062226020006220002222222226222202e0006222602000622000222222222026006220000206444022220102 [g1 8 12 4,g2 14 22 6,g1 20 6 6,g1 30 12 4,g2 37 70 6,g1 43 6 6,g2 49 198 6,g1 55 70 6,g1 65 12 4,g2 73 518 6,g1 79 6 6,g2 85 1542 6,g1 91 518 6,g1 103 12 4,g1 113 12 4,g2 119 8198 6,g1 125 4 4,g2 131 24582 6,g1 137 8198 6,g1 147 12 4,g1 153 12 4],e0 39 0x2222302022212,e0 81 0x222212,e0 135 0x2236226200026201,e1 86 0x22206c444c0404c0022260062000062202012 [g1 8 16 0,g2 14 38 4,g1 20 0 0,g1 28 16 0,g1 33 16 0],e1 87 0x2222220626220202062202202026022602062600006200012 [g2 6 38 4,g1 12 0 0,g2 18 102 4,g1 24 38 4,g1 39 16 0,g1 46 16 0],e0 49 0x26c44260012,e1 101 0x2222226260026cc000262226020260062000012 [G2 8 [cS 5 1,gK 102 4 [2005]],G1 14 [cS 5 1,gK 32 0 [2005]]],e1 177 0x2222226260026200001 [g2 8 25 0,g1 14 8 0],e1 136 0x222262622260262600260062000262222620201 [g1 8 16 0,g2 14 35 0,g1 20 0 0,g1 28 16 0,g1 33 16 0],e1 137 0x2220626002600620000620201 [g1 8 16 0,g2 14 35 0,g1 20 0 0,g1 28 16 0,g1 33 16 0],e1 102 0x26622226222266000226c04c00262002226c04c002620001 [g2 6 35 0,g1 12 35 0],(62,⟨0x222222222226260026200026260006200000022026022200222220112,[(7,[.closeS (.s 13)])],[G2 8 [.closeS (.s 4),cS 5 1,gK 50 2 [2005]],G1 14 [cS 5 1,gK 32 0 [2005]],G1 24 [cS 2 1,gK 12 0 [2002]],G2 32 [.closeS (.s 4),cS 5 1,gK 242 2 [2005]],G1 38 [cS 5 1,gK 98 2 [2005]],G2 46 [.closeS (.s 4),cS 5 1,gK 1010 2 [2005]],G1 52 [.closeS (.s 4),cS 5 1,gK 242 2 [2005]],G1 61 [cS 2 1,gK 12 0 [2002]]]⟩),e1 45 0x2644422222202222222202222622202202000022022022002022064442222026220220200002000222012 [g1 8 4 0,g2 16 458762 2,g1 22 10 2,g1 34 4 0,g1 43 4 0,g1 51 4 0,g2 63 246290604621888 0,g1 69 64 0,g1 81 4 0,g1 86 4 0,g1 92 4 0],e0 75 0x22e222212,e0 74 0x226221,e1 115 0x22226260002000201 [G2 6 [.drop [2,3,4,5,6,9,10,11,12,13,14,15,16,17,18]],G1 12 [.drop [0,1,2,3,4,5,6,7,8,9,10,11,12,13,14,15,16,17,18]],G1 22 [.drop [0,1,2,3,5,6,7,8,9,10,11,12,13,14,15,16,17,18]],G1 27 [.drop [0,1,2,3,5,6,7,8,9,10,11,12,13,14,15,16,17,18]]],(40,⟨0x264cc442644402640222203222001222,[(27,[.canon (.s 4) 9001 0,.closeB 5])],[]⟩),e1 78 0x222222666202602006c002622000012 [g2 8 102 4,g1 14 32 0],e0 42 0x222212,(11,⟨0x26c444444026c022200122,[(9,[.canon (.s 5) 9002 0])],[]⟩),e0 127 0x26c4426201,e0 204 0x26c4444026402201,e0 205 0x26442201,e1 163 0x22064c402644c00222600200020064440264402201 [g1 8 4 0,g2 14 786433 0,g1 20 0 0,g1 30 4 0,g1 35 4 0],e0 165 0x26222212,e1 206 0x22226260002000201 [g2 6 387 0,g1 12 0 0,g1 22 16 0,g1 27 16 0],e0 164 0x226221,e0 167 0x26222212,e1 207 0x22226260002000201 [g2 6 387 0,g1 12 0 0,g1 22 16 0,g1 27 16 0],e0 166 0x226221,e1 128 0x222222022222026c0c4402222022020000020022220026c0c44422220202602012 [g1 11 16 0,g1 17 16 0,g2 23 30064771104 32,g1 29 32 32,g1 40 16 0,g1 46 16 0,g1 55 16 0,g1 59 16 0],e0 129 0x2212,e1 169 0x2644426c4402622222022202644422202020122 [g1 18 524330 40],e0 171 0x26222212,e1 208 0x22226260002000201 [g2 6 387 0,g1 12 0 0,g1 22 16 0,g1 27 16 0],e0 170 0x226221,e1 130 0x2202626220026444022622202022020000020022220026c44022220022e02222226220202200202620201222 [g1 12 440 184,g1 19 64 0,g1 25 64 0,g1 31 64 0,g2 37 31525197391593632 160,g1 43 0 0,g1 54 64 0,g1 60 64 0,g1 65 64 0],e0 209 0x26c44426c440222012,e0 172 0x2662262221222,e1 131 0x2202326222002202001ef200220022022226200223262220022022226200202022020202020200002 [(8,[gK 4158 1086],[gK 0 1086]),g1 27 0 1086,g1 39 0 1086,g1 47 0 1086,g1 53 28 1052],e1 173 0x222622262222264444c4400222020262222262622020262020222620220122 [G1 12 [cS 7 2,gK 418 32 [2007]]],e1 132 0x20222622230026000226002020000e200262220202622002202202020200022 [(6,[gK 8252 60],[gK 0 60]),G2 14 [cS 8 2,gK 8700 65660 [2008]],g1 20 8252 60,G2 29 [cS 8 2,gK 481036345852 65660 [2008]],G1 35 [cS 8 2,gK 8700 65660 [2008]],g1 46 0 60,g1 58 48 48],e1 97 0x20022222020262222222022202002202222202e2002020202222222202600200022002022220002 [g1 8 12 12,g2 14 12582926 14,g1 20 14 14,g1 32 12 12,(39,[gK 68719476750 14],[gK 0 14]),g1 51 0 14,g1 61 12 12,g1 71 12 12,g1 75 12 12],e0 56 0x2222302022212,e0 216 0x264426402201,e0 179 0x26c4444c4404440222006c4404440264402644026c444044026440222012,e0 180 0x22e222212,(178,⟨0x226622064402640222220122,[(20,[.closeB 5])],[]⟩),(139,⟨0x26222200012,[(5,[.canon (.s 3) 9004 0,.canon (.s 4) 9003 0])],[]⟩),e0 182 0x26c444422012,e0 217 0x2622212,e0 183 0x262226222122,e0 181 0x2644426c404026c40426200222644426440262022026001cf444042644026200202012,e0 190 0x2262212,(144,⟨0x264c4442600122,[(10,[.closeB 3])],[]⟩),e0 140 0x2622122,e0 186 0x221,e0 187 0x221,e0 185 0x2622222212,(184,⟨0x22622012,[(5,[.closeB 1])],[]⟩),e0 141 0x22212,e1 124 0x222222626002620002220012201 [g1 8 1 0,g2 14 25 0,g1 20 8 0],e1 138 0x222222626002620002220012201 [g1 8 1 0,g2 14 25 0,g1 20 8 0],e0 220 0x2622200,e1 232 0x22222226c04422202020000226222012 [g2 8 229508 0,g1 14 128 0],e0 259 0x2622212,e0 257 0x26222122,e0 250 0x220020262262220026c4400220002220112,e1 20 0x26200201 [G1 8 [.canon (.s 2) 4004 1],G1 12 [.canon (.s 2) 4004 1]],(222,⟨0x222e202202236222002020000222202000002226200222622222020000200,[(21,[.closeS (.s 25)]),(57,[.closeS (.s 54)])],[G2 6 [cS 3 1,gK 14347 0 [2003]],G1 12 [cS 3 1,gK 11 0 [2003]],g1 23 0 0,G2 28 [cS 3 1,gK 3758096393 0 [2003]],g1 34 0 0,G2 43 [cS 3 1,gK 965830770761 0 [2003]],G1 49 [cS 3 1,gK 3758096457 0 [2003]],g1 59 0 0]⟩),e0 191 0x2212,e1 251 0x22262260202220122 [(8,[cC 5 0 1,gK 552 40 [4100]],[cC 5 0 1,gK 0 40 [4100]])],e0 233 0x2222202622622220022022202e2001112,e0 218 0x26223222002e2220222e2220222222226222220222222020022,e0 219 0x26444222012,e0 234 0x262201,e0 221 0x22222622220622020260006402201,e1 188 0x22222022001ef622226202062020620202662222620202226622226202020262222202022002064422222202622202222002002202026222002222202062222201022 [g1 22 1944 664,g1 49 2064 2064],e0 189 0x2262212,(142,⟨0x226222222302026222220122,[(21,[.closeB 2])],[]⟩),e0 104 0x22622022200226000264402220122,e0 143 0x2222002220002220112,e0 105 0x6c44222222022212,e0 146 0x26442201,e0 145 0x2222212,e0 106 0x2644422012,e1 162 0x200226c0442602020202202022000222 [g1 8 192 192,(14,[gK 33008 240],[gK 0 240]),g1 24 0 240,g1 28 192 192],e0 126 0x2220622102,(174,⟨0x2222306222030622222022262222302622022002020000200202000020002,[(53,[.closeS (.s 49)]),(59,[.closeS (.c 3 0),.closeS (.c 3 1)])],[G2 8 [cC 3 0 1,cC 3 1 1,gK 14350 14 [4060,4061]],G1 14 [cC 3 0 1,cC 3 1 1,gK 12 12 [4060,4061]],G2 25 [cS 6 2,cC 3 0 1,cC 3 1 1,gK 1849454 46 [2006,4060,4061]],G1 31 [cS 6 2,cC 3 0 1,cC 3 1 1,gK 14446 46 [2006,4060,4061]],G1 44 [cS 6 2,cC 3 0 1,cC 3 1 1,gK 1849966 558 [2006,4060,4061]]]⟩),e0 210 0x26262222020262620260220626020260012,e0 249 0x26201,e0 231 0x62206000200222202201,e1 213 0x62222222220262222620062002220000001 [g2 6 3587 0,g1 12 3 0,g1 23 16 0,g1 34 16 0,g1 43 16 0,g1 47 16 0],e0 212 0x26221,e1 16 0x2206262026002000200620201 [g1 8 16 0,g2 14 12291 0,g1 20 0 0,g1 30 16 0,g1 35 16 0],e0 215 0x26221,(175,⟨0x222302222262223622020220e0002000202200002012,[(32,[.closeS (.s 34)])],[G2 8 [cS 5 1,gK 7204 4 [2005]],G1 14 [cS 5 1,gK 32 0 [2005]],G2 22 [cS 5 1,gK 400548 4 [2005]],G1 28 [cS 5 1,gK 7204 4 [2005]]]⟩),(133,⟨0x2226202620200202620222000222222202000220112,[(16,[.closeS (.s 16)])],[G1 8 [cS 2 1,gK 12 0 [2002]],G2 20 [.closeS (.s 5),cS 6 1,gK 240 16 [2006]],G1 26 [cS 6 1,gK 64 0 [2006]],G1 37 [cS 2 1,gK 12 0 [2002]],G1 43 [cS 2 1,gK 12 0 [2002]]]⟩),e0 98 0x222222220222112,e0 57 0x222022112,e0 125 0x26222221,e1 69 0x22226260002000201 [g2 6 387 0,g1 12 0 0,g1 22 16 0,g1 27 16 0],e0 31 0x226221,e0 94 0x264c4422012,e1 95 0x2206c444c440422022200000212 [g2 6 900 4,g1 12 0 0,g1 22 16 0,g1 27 16 0],e0 150 0x26c444422012,e1 96 0x2200222202262222626200203202026220220220200000622260202220000001002 [g2 6 57398 52,g1 12 48 48,g2 20 939581622 52,g1 26 57398 52,g1 44 112 48,g1 50 112 48],e0 151 0x22223300200262212,e1 109 0x2202620220000222026202200002220262022000000260012 [g1 8 64 0,g2 14 917518 8,g1 20 14 8,g1 30 64 0,g2 37 1879048202 8,g1 43 10 8,g1 53 64 0,g2 60 3848290697224 8,g1 66 0 0,g1 76 64 0,g1 81 64 0],e1 147 0x222226262222022200000202022026202112 [G2 18 [cS 7 2,gK 917632 0 [2007]],G1 24 [cS 7 2,gK 128 0 [2007]]],e1 148 0x226022222022 [(6,[gK 280 24],[gK 0 24]),g1 16 0 24,g1 20 16 16],e1 107 0x22222626226220222200000202022023202600112 [G2 18 [cS 8 1,gK 7340292 4 [2008]],G1 24 [cS 8 1,gK 256 0 [2008]]],e0 223 0x26222212,e0 192 0x226226222226022620220122,e0 235 0x2220622102,e1 224 0x22222622226c4c4404022222020262006c04022202020000626202260200202202e600200112 [G2 18 [cS 11 1,gK 481036339226 16 [2011]],G1 24 [cS 11 1,gK 2048 0 [2011]]],e0 193 0x22232202001ef22202220122,e0 149 0x266222226222002662222262220022266222226222002022622222202622202262222202622202222020122,e1 108 0x26c44444262220026c44444262220022226222222022222020266222226222002026622222622200202662222262220020266222226222002020122 [g1 36 147573952589676413004 12],e1 68 0x22222226260e22022002202220260022000000200220222022000020200220220200220260011122 [G1 10 [cS 5 1,gK 112 0 [2005]],G1 20 [cS 5 1,gK 112 0 [2005]],G1 28 [cS 5 1,gK 112 0 [2005]],G1 38 [cS 5 1,gK 112 0 [2005]],G2 46 [cS 11 1,gK 962072676876 12 [2011]],G1 52 [cS 11 1,gK 2560 0 [2011]],G1 65 [cS 5 1,gK 112 0 [2005]],G1 71 [cS 5 1,gK 112 0 [2005]]],e1 29 0x222226222262022200000202022022220026221122 [G2 18 [cS 9 1,gK 29360768 0 [2009]],G1 24 [cS 9 1,gK 512 0 [2009]]],e0 36 0x26221,e0 35 0x262212,e1 70 0x222236e26202600000200020222020220266002112 [G2 18 [cS 11 1,gK 100665358 0 [2011]],G1 24 [cS 11 1,gK 2048 0 [2011]]],e0 71 0x26221,e0 37 0x2220e222112,e0 72 0x26221,e0 38 0x2220e222112,e0 82 0x222222320026221122,e1 84 0x22222262222220000222201 [G2 8 [cS 3 1,gK 3592 0 [2003]],G1 14 [cS 3 1,gK 8 0 [2003]]],e1 58 0x22227222222022200000222001ef200212 [g2 8 458880 36864,g1 14 128 36864],e0 46 0x2e22220220222022020220222026201122,e1 91 0x22222622222220262222203660202022260222020002260222001 [G2 8 [cS 7 1,gK 1572999 0 [2007]],G1 14 [cS 7 1,gK 128 0 [2007]]],e1 92 0x22222236662620260000020002022000022222201 [G2 8 [cS 5 1,gK 114721 0 [2005]],G1 14 [cS 5 1,gK 32 0 [2005]],G2 22 [cS 5 1,gK 6406305 0 [2005]],G1 28 [cS 5 1,gK 114721 0 [2005]]],e0 93 0x2221,e1 53 0x2222222362626202600003626200022260022260022000060036260222000260222020222222022222201 [G2 8 [cS 3 1,gK 25 0 [2003]],G1 14 [cS 3 1,gK 8 0 [2003]],G2 28 [cS 3 1,gK 30786325577753 0 [2003]],G1 34 [cS 3 1,gK 25 0 [2003]]],e0 123 0x2644cc44444444402201,e0 90 0x2262212,e0 52 0x22262200222600002260211,e0 18 0x2220622020220222026221122,e0 103 0x2221,e1 65 0x222222362626202600003626200022260022260022000060036262222000260222020002222022222201 [G2 8 [cS 3 1,gK 393225 0 [2003]],G1 14 [cS 3 1,gK 8 0 [2003]],G2 30 [cS 3 1,gK 7696581787673 0 [2003]],G1 36 [cS 3 1,gK 393225 0 [2003]]],e0 26 0x2220e22222220020220222026221122,e1 8 0x26c444426222223202622232026002222226c40226c4022064422222202e20022202e000220000620222000000002026444222644022022020260002600020122 [g1 8 16 0,g1 16 16 0,g1 26 16 0,g2 36 3940649673950124 44,g1 42 780 12,g2 50 2021553282735934380 44,g1 56 3940649673950124 44,g1 71 16 0,g1 82 16 0]]
namespace trace_events_c1
def Dh:SW:=[o1 20 (.s 18) [],o2 21 (ix 5) [.s 16,.s 18] [],o2 22 (lD 5) [.s 21] [21],o2 6 (.a (.alloc 5 [.int .i64 0,.int .i64 0,.int .i64 0,.int .i64 0,.bO])) [] [],o1 5 (.s 20) [20],oz (.l (.store 5)) [.s 6,.s 22] [22]]
def A5:SW:=[o1 23 (.s 0) [],o1 24 (.s 3) [],o1 25 (.s 5) [5],o2 26 (bI .add) [.s 25,.k (.int .i64 1)] [25],o2 27 (.p (.build [.int .i64 0,.int .i64 0] [(0,1),(1,1)])) [.s 24,.s 26] [24,26],o2 28 (lD 5) [.s 6] [6],o2 29 .c [.s 23,.s 27,.s 28] [23,27,28],o2 30 (.p .not) [.s 29] [29]]
def yN:SW:=[o2 31 (bI .add) [.s 18,.k (.int .i64 1)] [],o1 18 (.s 31) [31]]
def HW:RC:=.hg (.seq (.ops [o2 19 (bI .lss) [.s 18,.s 17] []]) (.seq (.cond (.s 19) .skip (.exit 2)) (.seq (.block 3 (.seq (.ops Dh) (.seq (.ops A5) (.cond (.s 30) .ret .skip)))) (.ops yN)))) (.keep [0,3,8,9,10,16,17,18] [])
def M7:SW:=[o1 12 (.s 10) [],o2 13 (ix 3) [.s 8,.s 10] [],o2 14 (lD 3) [.s 13] [13],o2 4 (.a (.alloc 3 [.str ByteArray.empty,.bO,.bO])) [] [],o1 3 (.s 12) [12],oz (.l (.store 3)) [.s 4,.s 14] [14]]
def JD:SW:=[o2 15 (fa 2) [.s 4] [],o2 16 (ld 1) [.s 15] [15],o2 17 ln [.s 16] [],o1 18 (.k (.int .i64 0)) []]
def G_:SW:=[o2 32 (bI .add) [.s 10,.k (.int .i64 1)] [],o1 10 (.s 32) [32]]
def U2:RC:=.block 2 (.gh (.keep [0,3,8,9,10,16,17,18] []) (.loop HW))
def PC:RC:=.hg (.seq (.ops [o2 11 (bI .lss) [.s 10,.s 9] []]) (.seq (.cond (.s 11) .skip (.exit 0)) (.seq (.block 1 (.seq (.ops M7) (.seq (.ops JD) U2))) (.ops G_)))) (.keep [0,8,9,10] [])
def Qa:SW:=[o2 7 (fa 0) [.s 1] [1],o2 8 (ld 1) [.s 7] [7],o2 9 ln [.s 8] [],o1 10 (.k (.int .i64 0)) []]
def U1:RC:=.block 0 (.gh (.keep [0,8,9,10] []) (.loop PC))
def text:RF:=⟨33,[],.seq (.ops Qa) U1⟩
section
variable{S:Sys}
abbrev I1(ps:Sl bX)(i:Int)(B:aZ (aZ V))(more:Bool)(y:Nat):St:=⟨[(0,.yl y),Cv 8 ps,Iv 9 (len ps),Iv 10 i],[],[],B,more,y⟩
abbrev I2(ps:Sl bX)(i:Int)(es:Sl Event)(j:Int)(B:aZ (aZ V))(more:Bool)(y:Nat):St:=⟨[(0,.yl y),Iv 3 i,Cv 8 ps,Iv 9 (len ps),Iv 10 i,Cv 16 es,Iv 17 (len es),Iv 18 j],[],[],B,more,y⟩
abbrev S2(ps:Sl bX)(i:Int)(es:Sl Event)(j:Int)(b:Bool)(B:aZ (aZ V))(more:Bool)(y:Nat):St:=⟨[(0,.yl y),Iv 3 i,Cv 8 ps,Iv 9 (len ps),Iv 10 i,Cv 16 es,Iv 17 (len es),Iv 18 j,Bv 19 b],[],[],B,more,y⟩
theorem Yg(ps:Sl bX)(i:Int)(es:Sl WF)(j:Int)(B:T')(more:X')(y:Nat)(D:decide (j<len es)=false):
 rn S.bare oV some (.rc HW) [] (I2 ps i es j B more y)=some (.exit 2,S2 ps i es j false B more y):=by
 refine Le.get ?_;refine Kf (n:=7) (fo':=.rc (.cond (.s 19) .skip (.exit 2))) (fs':=[.seq (.seq (.block 3 (.seq (.ops Dh) (.seq (.ops A5) (.cond (.s 30) .ret .skip)))) (.ops yN)),.gst (.keep [0,3,8,9,10,16,17,18] [])]) (λb=>S2 ps i es j b B more y) D Zae ?_
 exact Le.of_eq Zae
theorem Z7(ps:Sl bX)(i:Int)(es:Sl WF)(j:Int)(e:WF)(B:T')(more:X')(y:Nat)(D:decide (j<len es)=true)(G:idx es j=some e)(J:(!(more|| !B.isEmpty))=false):
 rn S.bare oV some (.rc HW) [] (I2 ps i es j ([enc (⟨i,wrap .i64 (j+1)⟩:bf),enc e]::B) more y)=some (.norm,I2 ps i es (wrap .i64 (j+1)) B more y):=by
 refine Le.get ?_;refine Kt (n:=7) (fo':=.rc (.cond (.s 19) .skip (.exit 2))) (fs':=[.seq (.seq (.block 3 (.seq (.ops Dh) (.seq (.ops A5) (.cond (.s 30) .ret .skip)))) (.ops yN)),.gst (.keep [0,3,8,9,10,16,17,18] [])]) (λb=>S2 ps i es j b ([enc (⟨i,wrap .i64 (j+1)⟩:bf),enc e]::B) more y) D Zae ?_
 refine SH G ?_;refine SZ 8 false [] (Dh.drop 1) [.seq (.seq (.ops A5) (.cond (.s 30) .ret .skip)),.blk 3,.seq (.ops yN),.gst (.keep [0,3,8,9,10,16,17,18] [])] ⟨[(0,.yl y),Iv 3 i,Cv 8 ps,Iv 9 (len ps),Iv 10 i,Cv 16 es,Iv 17 (len es),Iv 18 j,Bv 19 true,Iv 20 j],[],[],([enc (⟨i,wrap .i64 (j+1)⟩:bf),enc e]::B),more,y⟩ .i64 rfl Zae λx a=>?_
 obtain rfl:x=e:=Zac
 refine Yp 1 false [] (Dh.drop 3) [.seq (.seq (.ops A5) (.cond (.s 30) .ret .skip)),.blk 3,.seq (.ops yN),.gst (.keep [0,3,8,9,10,16,17,18] [])] ⟨[(0,.yl y),Iv 3 i,Cv 8 ps,Iv 9 (len ps),Iv 10 i,Cv 16 es,Iv 17 (len es),Iv 18 j,Bv 19 true,Iv 20 j,Cv 22 x],[],[],([enc (⟨i,wrap .i64 (j+1)⟩:bf),enc x]::B),more,y⟩ [iv 0,iv 0,iv 0,iv 0,.v .bO] rfl (by simp only[bL,zz,rW,tL,rZ,tI,uY,tO,u5,rI,tG,zu,uP,uO,vq,u7,xA,xG,tM,vm,SV.c_];rfl) Zae ?_
 refine Ast 1 false [] (Dh.drop 5) [.seq (.seq (.ops A5) (.cond (.s 30) .ret .skip)),.blk 3,.seq (.ops yN),.gst (.keep [0,3,8,9,10,16,17,18] [])] ⟨[(0,.yl y),Iv 3 i,Cv 8 ps,Iv 9 (len ps),Iv 10 i,Cv 16 es,Iv 17 (len es),Iv 18 j,Bv 19 true,Cv 22 x,Pv 6,Iv 5 j],[Xb 6 (⟨0,0,0,0,.nil⟩:WF)],[],([enc (⟨i,wrap .i64 (j+1)⟩:bf),enc x]::B),more,y⟩ 6 0 x [iv 0,iv 0,iv 0,iv 0,.v .bO] ((cells x).map .v) rfl Zae ?_
 refine Kyl (n:=10) (q:=A5.drop 6) (fs':=[.seq (.cond (.s 30) .ret .skip),.blk 3,.seq (.ops yN),.gst (.keep [0,3,8,9,10,16,17,18] [])]) (st:=⟨[(0,.yl y),Iv 3 i,Cv 8 ps,Iv 9 (len ps),Iv 10 i,Cv 16 es,Iv 17 (len es),Iv 18 j,Bv 19 true,(23,.yl y),Cv 27 (⟨i,wrap .i64 (j+1)⟩:bf),Cv 28 x],[Xb 6 x],[],([enc (⟨i,wrap .i64 (j+1)⟩:bf),enc x]::B),more,y⟩) (vs:=[cv (⟨i,wrap .i64 (j+1)⟩:bf),cv x]) Zae rfl Zae Zae rfl rfl ?_
 refine Kf (n:=3) (fo':=.rc (.cond (.s 30) .ret .skip)) (fs':=[.blk 3,.seq (.ops yN),.gst (.keep [0,3,8,9,10,16,17,18] [])]) (λb=>⟨[(0,.yl y),Iv 3 i,Cv 8 ps,Iv 9 (len ps),Iv 10 i,Cv 16 es,Iv 17 (len es),Iv 18 j,Bv 19 true,Bv 30 b],[Xb 6 x],[],B,more,y⟩) J Zae ?_
 exact Le.of_eq Zae
theorem Xc(ps:Sl bX)(i:Int)(es:Sl WF)(j:Int)(e:WF)(B:T')(more:X')(y:Nat)(D:decide (j<len es)=true)(G:idx es j=some e)(J:(!(more|| !B.isEmpty))=true):
 rn S.bare oV some (.rc HW) [] (I2 ps i es j ([enc (⟨i,wrap .i64 (j+1)⟩:bf),enc e]::B) more y)=some (.ret,⟨[(0,.yl y),Iv 3 i,Cv 8 ps,Iv 9 (len ps),Iv 10 i,Cv 16 es,Iv 17 (len es),Iv 18 j,Bv 19 true,Bv 30 true],[Xb 6 e],[],B,more,y⟩):=by
 refine Le.get ?_;refine Kt (n:=7) (fo':=.rc (.cond (.s 19) .skip (.exit 2))) (fs':=[.seq (.seq (.block 3 (.seq (.ops Dh) (.seq (.ops A5) (.cond (.s 30) .ret .skip)))) (.ops yN)),.gst (.keep [0,3,8,9,10,16,17,18] [])]) (λb=>S2 ps i es j b ([enc (⟨i,wrap .i64 (j+1)⟩:bf),enc e]::B) more y) D Zae ?_
 refine SH G ?_;refine SZ 8 false [] (Dh.drop 1) [.seq (.seq (.ops A5) (.cond (.s 30) .ret .skip)),.blk 3,.seq (.ops yN),.gst (.keep [0,3,8,9,10,16,17,18] [])] ⟨[(0,.yl y),Iv 3 i,Cv 8 ps,Iv 9 (len ps),Iv 10 i,Cv 16 es,Iv 17 (len es),Iv 18 j,Bv 19 true,Iv 20 j],[],[],([enc (⟨i,wrap .i64 (j+1)⟩:bf),enc e]::B),more,y⟩ .i64 rfl Zae λx a=>?_
 obtain rfl:x=e:=Zac
 refine Yp 1 false [] (Dh.drop 3) [.seq (.seq (.ops A5) (.cond (.s 30) .ret .skip)),.blk 3,.seq (.ops yN),.gst (.keep [0,3,8,9,10,16,17,18] [])] ⟨[(0,.yl y),Iv 3 i,Cv 8 ps,Iv 9 (len ps),Iv 10 i,Cv 16 es,Iv 17 (len es),Iv 18 j,Bv 19 true,Iv 20 j,Cv 22 x],[],[],([enc (⟨i,wrap .i64 (j+1)⟩:bf),enc x]::B),more,y⟩ [iv 0,iv 0,iv 0,iv 0,.v .bO] rfl (by simp only[bL,zz,rW,tL,rZ,tI,uY,tO,u5,rI,tG,zu,uP,uO,vq,u7,xA,xG,tM,vm,SV.c_];rfl) Zae ?_
 refine Ast 1 false [] (Dh.drop 5) [.seq (.seq (.ops A5) (.cond (.s 30) .ret .skip)),.blk 3,.seq (.ops yN),.gst (.keep [0,3,8,9,10,16,17,18] [])] ⟨[(0,.yl y),Iv 3 i,Cv 8 ps,Iv 9 (len ps),Iv 10 i,Cv 16 es,Iv 17 (len es),Iv 18 j,Bv 19 true,Cv 22 x,Pv 6,Iv 5 j],[Xb 6 (⟨0,0,0,0,.nil⟩:WF)],[],([enc (⟨i,wrap .i64 (j+1)⟩:bf),enc x]::B),more,y⟩ 6 0 x [iv 0,iv 0,iv 0,iv 0,.v .bO] ((cells x).map .v) rfl Zae ?_
 refine Kyl (n:=10) (q:=A5.drop 6) (fs':=[.seq (.cond (.s 30) .ret .skip),.blk 3,.seq (.ops yN),.gst (.keep [0,3,8,9,10,16,17,18] [])]) (st:=⟨[(0,.yl y),Iv 3 i,Cv 8 ps,Iv 9 (len ps),Iv 10 i,Cv 16 es,Iv 17 (len es),Iv 18 j,Bv 19 true,(23,.yl y),Cv 27 (⟨i,wrap .i64 (j+1)⟩:bf),Cv 28 x],[Xb 6 x],[],([enc (⟨i,wrap .i64 (j+1)⟩:bf),enc x]::B),more,y⟩) (vs:=[cv (⟨i,wrap .i64 (j+1)⟩:bf),cv x]) Zae rfl Zae Zae rfl rfl ?_
 refine Kt (n:=3) (fo':=.rc (.cond (.s 30) .ret .skip)) (fs':=[.blk 3,.seq (.ops yN),.gst (.keep [0,3,8,9,10,16,17,18] [])]) (λb=>⟨[(0,.yl y),Iv 3 i,Cv 8 ps,Iv 9 (len ps),Iv 10 i,Cv 16 es,Iv 17 (len es),Iv 18 j,Bv 19 true,Bv 30 b],[Xb 6 x],[],B,more,y⟩) J Zae ?_
 exact Le.of_eq Zae
abbrev S1(ps:Sl bX)(i:Int)(b:Bool)(B:aZ (aZ V))(more:Bool)(y:Nat):St:=⟨[(0,.yl y),Cv 8 ps,Iv 9 (len ps),Iv 10 i,Bv 11 b],[],[],B,more,y⟩
theorem X2(ps:Sl bX)(i:Int)(B:T')(more:X')(y:Nat)(D:decide (i<len ps)=false):
 rn S.bare oV some (.rc PC) [] (I1 ps i B more y)=some (.exit 0,S1 ps i false B more y):=by
 refine Le.get ?_;refine Kf (n:=7) (fo':=.rc (.cond (.s 11) .skip (.exit 0))) (fs':=[.seq (.seq (.block 1 (.seq (.ops M7) (.seq (.ops JD) U2))) (.ops G_)),.gst (.keep [0,8,9,10] [])]) (λb=>S1 ps i b B more y) D Zae ?_
 exact Le.of_eq Zae
def U7:Rd:=[.blk 2,.blk 1,.seq (.ops G_),.gst (.keep [0,8,9,10] [])]
theorem Um(ps:Sl bX)(i:Int)(p:bX)(B:T')(more:X')(y:Nat)(r:Out×St)(D:decide (i<len ps)=true)(G:idx ps i=some p)
 (h:rn S.bare oV some (.rc (.loop HW)) U7 (I2 ps i p.events 0 B more y)=some r):rn S.bare oV some (.rc PC) [] (I1 ps i B more y)=some r:=by
 refine Le.get ?_;refine Kt (n:=7) (fo':=.rc (.cond (.s 11) .skip (.exit 0))) (fs':=[.seq (.seq (.block 1 (.seq (.ops M7) (.seq (.ops JD) U2))) (.ops G_)),.gst (.keep [0,8,9,10] [])]) (λb=>S1 ps i b B more y) D Zae ?_
 refine SH G ?_;refine SZ 8 false [] (M7.drop 1) [.seq (.seq (.ops JD) U2),.blk 1,.seq (.ops G_),.gst (.keep [0,8,9,10] [])] ⟨[(0,.yl y),Cv 8 ps,Iv 9 (len ps),Iv 10 i,Bv 11 true,Iv 12 i],[],[],B,more,y⟩ .i64 rfl Zae λx a=>?_
 obtain rfl:x=p:=Zac
 refine Yp 1 false [] (M7.drop 3) [.seq (.seq (.ops JD) U2),.blk 1,.seq (.ops G_),.gst (.keep [0,8,9,10] [])] ⟨[(0,.yl y),Cv 8 ps,Iv 9 (len ps),Iv 10 i,Bv 11 true,Iv 12 i,Cv 14 x],[],[],B,more,y⟩ [.v (.str ByteArray.empty),.v .bO,.v .bO] rfl (by simp only[bL,zz,rW,tL,rZ,tI,uY,tO,u5,rI,tG,zu,uP,uO,vq,u7,xA,xG,tM,vm,SV.c_];rfl) Zae ?_
 refine Ast 1 false [] (M7.drop 5) [.seq (.seq (.ops JD) U2),.blk 1,.seq (.ops G_),.gst (.keep [0,8,9,10] [])] ⟨[(0,.yl y),Cv 8 ps,Iv 9 (len ps),Iv 10 i,Bv 11 true,Cv 14 x,Pv 4,Iv 3 i],[Xb 4 (⟨ByteArray.empty,.nil,.nil⟩:bX)],[],B,more,y⟩ 4 0 x [.v (.str ByteArray.empty),.v .bO,.v .bO] ((cells x).map .v) rfl Zae ?_
 refine YP 6 false [] (JD.drop 2) [.seq U2,.blk 1,.seq (.ops G_),.gst (.keep [0,8,9,10] [])] ⟨[(0,.yl y),Cv 8 ps,Iv 9 (len ps),Iv 10 i,Bv 11 true,Pv 4,Iv 3 i,Cv 16 x.events],[Xb 4 x],[],B,more,y⟩ x.events rfl Zae ?_
 refine Bi (n:=5) (fo':=.rc (.loop HW)) (fs':=U7) (st':=I2 ps i x.events 0 B more y) Zae (Le.of_eq h)
theorem WE(ps:Sl bX)(i:Int)(es:Sl WF)(j:Int)(B:T')(more:X')(y:Nat):
 rn S.bare oV some (.ex 2) U7 (S2 ps i es j false B more y)=some (.norm,I1 ps (wrap .i64 (i+1)) B more y):=by kernel_rfl
theorem wrap_small(n:Nat)(h:n<9223372036854775807):wrap .i64 ((n:Int)+1)=((n+1:Nat):Int):=by simp[wrap,IntKind.bits,signed];omega
abbrev eI(x:bf×Event):aZ V:=[enc x.1,enc x.2]
theorem wA.step{x:T2}{D rest:T'}{more:X'}(h:wA D (x::rest) more):∃B,D=x::B/\((!(more|| !B.isEmpty))=false/\wA B rest more\/(!(more|| !B.isEmpty))=true/\B=[]):=by rcases h with⟨rfl,rfl⟩|⟨rfl,u,r,a⟩;exact⟨rest,rfl,.inl ⟨rfl,.inl ⟨rfl,rfl⟩⟩⟩;cases D with|nil=>grind|cons w D=>simp only[cons_append,List.cons.injEq]at a;obtain⟨rfl,rfl⟩:=a;refine⟨D,rfl,?_⟩;cases D with|nil=>grind|cons z C=>exact .inl ⟨rfl,.inr ⟨rfl,Zab,r,rfl⟩⟩
theorem uS{α:Type}{s:Sl α}{j:Nat}{x:α}{r:aZ α}(h:s.l.drop j=x::r):idx s (j:Int)=some x/\decide ((j:Int)<len s)=true/\s.l.drop (j+1)=r:=by
 have a:j<s.l.length:=by apply Classical.byContradiction;intro w;rw[List.drop_eq_nil_of_le Zaa]at h;cases h
 have u:=List.drop_eq_getElem_cons a;rw[u]at h;simp only[List.cons.injEq]at h;refine⟨?_,Zac,h.2⟩;unfold idx;simp_all
variable{Q:Out×St->a_ (Out×St)}{fs:Rd}
theorem inner(ps:Sl bX)(i:Int)(es:Sl WF)(J:es.l.length<9223372036854775807)(more:X')(y:Nat)(R:T'):∀(a:aZ WF)(j:Nat),es.l.drop j=a->∀D,wA D ((jl i j a).map eI++R) more->
 (∃(B:T')(U:Int),wA B R more/\rn S.bare oV Q (.rc (.loop HW)) fs (I2 ps i es j D more y)=rn S.bare oV Q (.ex 2) fs (S2 ps i es U false B more y))\/
 (∃st':St,st'.want=[]/\rn S.bare oV Q (.rc (.loop HW)) fs (I2 ps i es j D more y)=Q (.ret,st'))
 |[],j,hd,D,G=>by have b:decide ((j:Int)<len es)=false:=(by simp_all);exact .inl ⟨D,j,by simpa[jl]using G,GW (Yg ps i es j D more y b)⟩|e::a,j,hd,D,G=>by have⟨b,z,C⟩:=uS hd;have T:j<es.l.length:=Zac;simp only[jl,map_cons,cons_append]at G;obtain⟨B,rfl,u⟩:=wA.step G;have I:=wrap_small j Zaa;have w:((j:Int)+1)=wrap .i64 ((j:Int)+1):=Zac;rcases u with⟨u,L⟩|⟨u,rfl⟩;have k:=Z7 (S:=S) ps i es j e B more y z b u;rw[<-w]at k;have k2:=Ik (Q:=Q) (fs:=fs) k;have O:=inner ps i es J more y R a (j+1) C B Zac;rw[show((j+1:Nat):Int)=(j:Int)+1 from rfl]at O;grind;have k:=Xc (S:=S) ps i es j e [] more y z b u;rw[<-w]at k;exact .inr ⟨_,by rfl,GL k⟩
theorem outer(ps:Sl bX)(J:ps.l.length<9223372036854775807)(D:∀p∈ps.l,p.events.l.length<9223372036854775807)(more:X')(y:Nat):∀(a:aZ bX)(i:Nat),ps.l.drop i=a->∀B,wA B ((gA i a).map eI) more->
 rn S.bare oV Qi (.rc (.loop PC)) [.blk 0] (I1 ps i B more y)=some ()
 |[],i,hd,B,G=>by
  have b:decide ((i:Int)<len ps)=false:=by simp_all
  rw[GW (X2 ps i B more y b)];have:B=[]:=by
   rcases G with⟨_,rfl⟩|⟨_,L,r,c⟩;rfl;have:B=[]:=by cases B with
    |nil=>rfl|cons=>simp[gA]at c
   grind
  subst this;rfl
 |p::a,i,hd,B,G=>by have⟨b,z,C⟩:=uS hd;have hi:i<ps.l.length:=Zac;have I:p∈ps.l:=List.mem_of_mem_drop (i:=i) Zac;simp only[gA,map_append]at G;have u:=wrap_small i Zaa;rcases inner (S:=S) (Q:=some) (fs:=U7) ps i p.events (D p I) more y _ p.events.l 0 rfl B G with⟨w,O,g1,g2⟩|⟨st',g1,g2⟩;rw[WE,u]at g2;rw[Ik (Um ps i p B more y _ z b g2)];exact outer ps J D more y a (i+1) C w g1;rw[GL (Um ps i p B more y _ z b g2)];simp[Qi,g1]
theorem all(t:Z4)(B:aZ (bf×WF))(h:jQ t=some B)(D:T')(more:X')(G:wA D (B.map eI) more)(y:Nat):
 rn S.bare oV Qi (.rc text.body) [] ⟨wI 0 (([]:T2).map .v++.yl y::[V.fptr (cells t)].map .v),[],[],D,more,y⟩=some ():=by
 unfold jQ at h;split at h
 .rename_i hk;cases h;simp only[ζh,List.all_eq_true,pX,decide_eq_true_eq]at hk;refine Le.get ?_;refine YP 4 false [] (Qa.drop 2) [.seq U1] ⟨[(0,.yl y),Cv 8 t.procs],[],[],D,more,y⟩ t.procs rfl Zae ?_
  refine Bi (n:=5) (fo':=.rc (.loop PC)) (fs':=[.blk 0]) (st':=I1 t.procs 0 D more y) Zae (Le.of_eq ?_)
  exact outer t.procs hk.1 hk.2 more y t.procs.l 0 rfl D G
 simp_all
end
theorem xz{α:Type}[bD α]{a b:Sl α}(h:bZ a=bZ b):rows a.l=rows b.l:=by cases a<;>cases b<;>first|rfl|(simp only[bZ,Sl.k,pI,V.fsl.injEq,true_and,reduceCtorEq]at h;done)|(simp only[bZ,Sl.k,pI,V.fsl.injEq,true_and,reduceCtorEq]at h;omega)
theorem xV(p:Int):∀(es B:aZ WF)(j:Int),rows es=rows B->(jl p j es).map eI=(jl p j B).map eI
 |[],[],_,_=>rfl|[],_::_,_,h=>by simp[rows]at h|_::_,[],_,h=>by simp[rows]at h|e::es,D::B,j,h=>by simp only[rows,map_cons,List.cons.injEq]at h;have a:enc e=enc D:=(by show V.agg (cells e)=V.agg (cells D);rw[h.1]);simp only[jl,map_cons,eI,a,xV p es B (j+1) h.2]
theorem Fk:∀(ps B:aZ bX)(i:Int),rows ps=rows B->(gA i ps).map eI=(gA i B).map eI
 |[],[],_,_=>rfl|[],_::_,_,h=>by simp[rows]at h|_::_,[],_,h=>by simp[rows]at h|p::ps,p'::B,i,h=>by simp only[rows,map_cons,List.cons.injEq]at h;have a:bZ p.events=bZ p'.events:=(by have:=h.1;change[V.str p.name,bZ p.vars,bZ p.events]=[V.str p'.name,bZ p'.vars,bZ p'.events]at this;grind);simp only[gA,map_append,xV i _ _ 0 (xz a),Fk ps B (i+1) h.2]
def wU(f:Y')(g:Y')(a b:T2)(xs:T'):Prop:=∃(t:Z4)(u:aZ (bf×WF)),g=f/\a=[]/\b=[.fptr (cells t)]/\jQ t=some u/\xs=u.map eI
theorem wU.uniq{f g:Y'}{a b:T2}{xs ys:T'}(h:wU f g a b xs)(k:wU f g a b ys):xs=ys:=by
 obtain⟨t,C,rfl,rfl,rfl,c,rfl⟩:=h;obtain⟨w,z,_,_,B,u,rfl⟩:=k;simp only[List.cons.injEq,V.fptr.injEq,and_true]at B;have D:bZ t.procs=bZ w.procs:=by change[bZ t.procs]=[bZ w.procs]at B;grind
 unfold jQ at c u;split at c<;>split at u<;>simp only[ζa,reduceCtorEq]at c u;subst c u;exact Fk _ _ 0 (xz D)
end trace_events_c1
end Go.VE
namespace Go.VE
open Go.Proofs.YtfjedefhlilglaaGreatDoor
noncomputable section
noncomputable def IJ(f:Y'):a_ GP:=bif beq f 214 then some (tY E)else bif beq f 211 then some (uA E)else none
noncomputable def Sb:Sys:=⟨E,λn=>n,λ_ _ _=>none,zW E,IJ⟩
theorem Lh:∀f q,IJ f=some q->oM E f q:=by intro f q h;unfold IJ at h;cases a:beq f 214 with|true=>rw[a]at h;cases h;have:=Nat.eq_of_beq_eq_true a;subst this;exact Sa xx Zae Zae (DX Zae)|false=>rw[a]at h;cases a:beq f 211 with|true=>rw[a]at h;cases h;have:=Nat.eq_of_beq_eq_true a;subst this;exact RM Zae Zae Zae Zae|false=>rw[a]at h;cases h
def Tx:rC:=Tm E some (lk NY)
abbrev cB:cm:=di Sb Tx
theorem XS:rF Sb Tx where
 fn f rf h:=let⟨u,a,w⟩:=D0 h;⟨u,some,a,xx,w⟩
 yV f z y h:=HP h
 prm:=Lh
theorem Qj:∀f a b xs,Sb.items f a b=some xs->eT Sb f a b xs:=λf a b xs h=>by cases h
end
end Go.VE
namespace Go.VE
noncomputable section
namespace IB
def ec(s0:Zg):a_ Zg:=(Sl.isNil s0).bind λu=>bl u (some Sl.nil) ((oI (Sl.row []:Zg) s0).bind λw=>some w)
theorem gT:BW Sb cB 20 (λs0:Zg=>[enc s0]) (λz=>ec z):=BW.mk' (sw (Tx 20)) (λs0=>Dy 9 λu _=>bB 2 4 bh (zx 7 5 7 λw _=>bh))
namespace cD
def eM(k6:Int)(U:Sl WF)(W Y:Int)(G:Sl Assign)(J:Int)(a:T')(B:Zg)(D:Int)(more:X'):a_ (Fw ((Zg)×Int) Zg Empty):=bl (decide (D<J)) ((idx G D).bind λu=>(Sl.jc B u.var).bind λw=>(Sl.put B w (u.value:Int)).bind λz=>some (.n (z,wrap .i64 (D+1)))) (some (.x B))
def W3(B:Zg)(k6:Int)(J:Sl WF)(D G:Int)(U:Sl Assign)(W Y:Int)(a:T')(more:X'):a_ (Fw ((Zg)×Int×Int×(T')) T' T'):=(bW (λq:(Zg)×Int=>eM k6 J D G U W a q.1 q.2 more) (B,Y)).bind (Fw.elim (λe=>((ec e).bind Sl.whole).bind λw=>(yl a more [.int .i64 (wrap .i64 (k6+1)),enc w]).bind λu=>bl u.1 (some (.n (e,D,wrap .i64 (G+1),u.2))) (some (.r u.2))) (λe=>elim e))
def bP(D:Sl WF)(G:Zg)(J B:Int)(U:T')(more:X'):a_ (Fw ((Zg)×Int×Int×(T')) T' T'):=bl (decide (B<J)) ((idx D B).bind λu=>W3 G B D J B u.assign (len u.assign) 0 U more) (some (.x U))
def W2(B:Zg)(D:Sl WF)(G J:Int)(U:T')(more:X'):a_ T':=(bW (λq:(Zg)×Int×Int×(T')=>bP D q.1 q.2.1 q.2.2.1 q.2.2.2 more) (B,G,J,U)).bind (Fw.elim (λe=>some e) (λe=>some e))
def br(U:bX)(G:Sl Var)(J:Int)(W:T')(B:Zg)(D:Int)(more:X'):a_ (Fw ((Zg)×Int) Zg Empty):=bl (decide (D<J)) ((idx G D).bind λu=>(gC B (u.init_:Int)).bind λw=>some (.n (w,wrap .i64 (D+1)))) (some (.x B))
def W1(B:bX)(D:Zg)(G:Sl Var)(J U:Int)(W:T')(more:X'):a_ T':=(bW (λq:(Zg)×Int=>br B G J W q.1 q.2 more) (D,U)).bind (Fw.elim (λe=>((ec e).bind Sl.whole).bind λw=>(yl W more [.int .i64 0,enc w]).bind λu=>bl u.1 (cD.W2 e B.events (len B.events) 0 u.2 more) (some u.2)) (λe=>elim e))
end cD
def cD(D:T')(B:bX)(more:X'):a_ T':=cD.W1 B (Sl.nil:Zg) B.vars (len B.vars) 0 D more
open cD in
theorem zN(more:X')(y:Nat)(J:T')(B:bX):Le ((cD J B more).bind λr=>some r) (b_ Sb cB Qw (.rc (tb Tx 222),[],⟨wI 0 (.yl y::[V.fptr (cells B)].map .v),[],[],J,more,y⟩)):=b7 10 B.vars (fH 6 (λC=>⟨[(0,.yl y),Kv 1 B,Ov 3,Cv 11 B.vars,Iv 12 (len B.vars),Iv 13 C.2],[Lb 2003 C.1],[],J,more,y⟩) (λD=>(0,⟨[(0,.yl y),Kv 1 B,Ov 3],[Lb 2003 D],[],J,more,y⟩)) (λC=>bB 8 14 (bQ 7 λT _=>oD 10 2003 20 21 λU _=>bh) bh) (λD=>UM 7 25 gT D λL _=>Byl 1 [.int .i64 0,enc L] λS _=>dB 3 27 (b7 7 B.events (eo 6 (λu=>⟨[(0,.yl y),Ov 3,Cv 29 B.events,Iv 30 u.2.1,Iv 31 u.2.2.1],[Lb 2003 u.1],[],u.2.2.2,more,y⟩) (λw=>(2,⟨[],[],[],w,more,y⟩)) (λw=>⟨[],[],[],w,more,y⟩) (λu=>bB 8 32 (bQ 8 λz _=>oQ 3 7 0 z (b7 7 z.assign (fH 6 (λG=>⟨[(0,.yl y),Ov 3,Iv 6 u.2.2.1,Cv 29 B.events,Iv 30 u.2.1,Iv 31 u.2.2.1,Cv 37 z.assign,Iv 38 (len z.assign),Iv 39 G.2],[Lb 2003 G.1],[],u.2.2.2,more,y⟩) (λI=>(4,⟨[(0,.yl y),Ov 3,Iv 6 u.2.2.1,Cv 29 B.events,Iv 30 u.2.1,Iv 31 u.2.2.1],[Lb 2003 I],[],u.2.2.2,more,y⟩)) (λG=>bB 8 40 (bQ 7 λO _=>iM .i64 11 2003 λW _=>BA 0 2003 (.int .i64 O.value) λX _=>bh) bh) (λI=>UM 8 54 gT I λQ _=>Byl 1 [.int .i64 (wrap .i64 (u.2.2.1+1)),enc Q] λY _=>dB 3 56 bh bh)))) bh) (λw=>bh) (λw=>bh))) bh))
end IB
end
end Go.VE
namespace Go.VE
open IB
def wS:aZ Assign->Zg->a_ Zg
 |[],s=>some s|a::r,s=>(Sl.jc s a.var).bind λj=>(Sl.put s j a.value).bind (wS r)
def wT:aZ Var->Zg->a_ Zg
 |[],s=>some s|v::r,s=>(gC s v.init_).bind (wT r)
def NT(s:Zg):a_ Zg:=(ec s).bind Sl.whole
def xw:Int->aZ WF->Zg->a_ (aZ (Int×Zg))
 |_,[],_=>some []|k,e::r,s=>(wS e.assign.l s).bind λn=>(NT n).bind λc=>(xw (k+1) r n).map ((k+1,c)::·)
def jM(p:bX):a_ (aZ (Int×Zg)):=if pX p.vars.l.length&&(pX p.events.l.length&&p.events.l.all λe=>pX e.assign.l.length)then(wT p.vars.l .nil).bind λs=>(NT s).bind λc=>(xw 0 p.events.l s).map ((0,c)::·)else none
namespace IST
abbrev eI(x:Int×Sl Int):aZ V:=[enc x.1,enc x.2]
theorem DN{n:Nat}(h:pX n=true):n<9223372036854775807:=by simpa[pX]using h
theorem wrap_small(n:Nat)(h:n<9223372036854775807):wrap .i64 ((n:Int)+1)=((n+1:Nat):Int):=by simp[wrap,IntKind.bits,signed];omega
theorem uS{α:Type}{s:Sl α}{j:Nat}{x:α}{r:aZ α}(h:s.l.drop j=x::r):idx s (j:Int)=some x/\decide ((j:Int)<len s)=true/\s.l.drop (j+1)=r:=by
 have a:j<s.l.length:=by apply Classical.byContradiction;intro w;rw[List.drop_eq_nil_of_le Zaa]at h;cases h
 have u:=List.drop_eq_getElem_cons a;rw[u]at h;simp only[List.cons.injEq]at h;refine⟨?_,by simp[len,a],h.2⟩;unfold idx;rw[if_pos Zaa];simp[ζd a,h.1]
theorem Lf{α:Type}{s:Sl α}{j:Nat}(h:s.l.drop j=[]):decide ((j:Int)<len s)=false:=by
 have:s.l.length<=j:=by simpa using h
 simp[len];omega
theorem ini(p:bX)(v:Sl Var)(J:v.l.length<9223372036854775807)(D:T')(more:X'):∀(a:aZ Var)(j:Nat),v.l.drop j=a->∀s B,wT a s=some B->
 bW (λq:Zg×Int=>cD.br p v (len v) D q.1 q.2 more) (s,(j:Int))=some (.x B)
 |[],j,hd,s,B,h=>by cases h;rw[fA];simp only[cD.br,Lf hd,bl,ζb,Bool.false_eq_true,if_false]|x::a,j,hd,s,B,h=>by have⟨b,G,U⟩:=uS hd;have w:j<v.l.length:=(by simpa[len]using G);simp only[wT,ζg]at h;have⟨n,u,h⟩:=h;rw[fA];simp only[cD.br,b,G,u,bl,ζb,if_true,wrap_small j Zaa];exact ini p v J D more a (j+1) U n B h
theorem set(k:Int)(es:Sl WF)(a b:Int)(v:Sl Assign)(J:v.l.length<9223372036854775807)(D:T')(more:X'):∀(c:aZ Assign)(j:Nat),v.l.drop j=c->∀s B,wS c s=some B->
 bW (λq:Zg×Int=>cD.eM k es a b v (len v) D q.1 q.2 more) (s,(j:Int))=some (.x B)
 |[],j,hd,s,B,h=>by cases h;rw[fA];simp only[cD.eM,Lf hd,bl,ζb,Bool.false_eq_true,if_false]|x::c,j,hd,s,B,h=>by have⟨d,G,U⟩:=uS hd;have w:j<v.l.length:=(by simpa[len]using G);simp only[wS,ζg]at h;have⟨i,hi,n,u,h⟩:=h;rw[fA];simp only[cD.eM,d,G,hi,u,bl,ζb,if_true,wrap_small j Zaa];exact set k es a b v J D more c (j+1) U n B h
theorem wA.step{x:T2}{D rest:T'}{more:X'}(h:wA D (x::rest) more):∃B,yl D more x=some ((more|| !B.isEmpty),B)/\((more|| !B.isEmpty)=true/\wA B rest more\/(more|| !B.isEmpty)=false/\B=[]):=by rcases h with⟨rfl,rfl⟩|⟨rfl,u,r,a⟩;exact⟨rest,by simp[yl],.inl ⟨rfl,.inl ⟨rfl,rfl⟩⟩⟩;cases D with|nil=>exact absurd rfl u|cons w D=>simp only[cons_append,List.cons.injEq]at a;obtain⟨rfl,rfl⟩:=a;refine⟨D,by simp[yl],?_⟩;cases D with|nil=>exact .inr ⟨rfl,rfl⟩|cons z C=>exact .inl ⟨rfl,.inr ⟨rfl,Zab,r,rfl⟩⟩
theorem fW(es:Sl WF)(W:es.l.length<9223372036854775807)(G:∀e∈es.l,e.assign.l.length<9223372036854775807)(more:X'):∀(a:aZ WF)(j:Nat),es.l.drop j=a->∀s B,xw (j:Int) a s=some B->∀D,wA D (B.map eI) more->
 ∃J:T',J=[]/\(bW (λq:Zg×Int×Int×T'=>cD.bP es q.1 q.2.1 q.2.2.1 q.2.2.2 more) (s,len es,(j:Int),D)=some (.x J)\/bW (λq:Zg×Int×Int×T'=>cD.bP es q.1 q.2.1 q.2.2.1 q.2.2.2 more) (s,len es,(j:Int),D)=some (.r J))
 |[],j,hd,s,B,h,D,U=>by cases h;have:D=[]:=(by rcases U with⟨_,rfl⟩|⟨_,L,r,d⟩;rfl;cases D with|nil=>rfl|cons=>simp at d);subst this;refine⟨[],rfl,.inl ?_⟩;rw[fA];simp only[cD.bP,Lf hd,bl,ζb,Bool.false_eq_true,if_false]
 |e::a,j,hd,s,B,h,D,U=>by have⟨f,I,O⟩:=uS hd;have Z:j<es.l.length:=(by simpa[len]using I);have Q:e∈es.l:=List.mem_of_mem_drop (i:=j) (by rw[hd];exact List.mem_cons_self ..);simp only[xw,ζg,ζf]at h;obtain⟨n,L,c,b,r,d,rfl⟩:=h;have b:(ec n).bind Sl.whole=some c:=b;have⟨w,z,S⟩:=wA.step U;have C:=wrap_small j Zaa;have z:yl D more [.int .i64 ((j+1:Nat):Int),enc c]=some ((more|| !w.isEmpty),w):=z;rw[fA];have u:=set j es (len es) j e.assign (G e Q) D more e.assign.l 0 rfl s n L;rw[show((0:Nat):Int)=0 from rfl]at u;rcases S with⟨g1,g2⟩|⟨g1,rfl⟩;have⟨T,X,Y⟩:=fW es W G more a (j+1) O n r d w g2;refine⟨T,X,?_⟩;rw[g1]at z;simp only[cD.bP,cD.W3,f,I,u,b,z,bl,ζb,if_true,Fw.elim,C];exact Y;refine⟨[],rfl,.inr ?_⟩;rw[g1]at z;simp only[cD.bP,cD.W3,f,I,u,b,C,z,bl,ζb,if_true,if_false,Bool.false_eq_true,Fw.elim]
theorem all(p:bX)(B:aZ (Int×Zg))(h:jM p=some B)(D:T')(more:X')(G:wA D (B.map eI) more):cD D p more=some []:=by unfold jM at h;split at h;rename_i b;simp only[ζh,List.all_eq_true]at b;have⟨k1,k2,k3⟩:=b;simp only[ζg,ζf]at h;obtain⟨s,C,c,a,r,d,rfl⟩:=h;have a:(ec s).bind Sl.whole=some c:=a;have⟨u,w,I⟩:=wA.step G;have hi:=ini p p.vars (DN k1) D more p.vars.l 0 rfl .nil s C;rw[show((0:Nat):Int)=0 from rfl]at hi;have w:yl D more [.int .i64 0,enc c]=some ((more|| !u.isEmpty),u):=w;unfold cD cD.W1;simp only[hi,ζb,Fw.elim,a,w];rcases I with⟨g1,g2⟩|⟨g1,rfl⟩;obtain⟨L,rfl,z⟩:=fW p.events (DN k2) (λe J=>DN (k3 e J)) more p.events.l 0 rfl s r d u g2;rw[show((0:Nat):Int)=0 from rfl]at z;rw[g1];simp only[bl,if_true,cD.W2];rcases z with q|q<;>(rw[q];rfl);rw[g1];rfl;cases h
theorem xz{α:Type}[bD α]{a b:Sl α}(h:bZ a=bZ b):rows a.l=rows b.l:=by cases a<;>cases b<;>first|rfl|(simp only[bZ,Sl.k,pI,V.fsl.injEq,true_and,reduceCtorEq]at h;done)|(simp only[bZ,Sl.k,pI,V.fsl.injEq,true_and,reduceCtorEq]at h;exact h)
theorem Kl:∀(a b:aZ Var),rows a=rows b->∀s,wT a s=wT b s
 |[],[],_,_=>rfl|[],_::_,h,_=>by simp[rows]at h|_::_,[],h,_=>by simp[rows]at h|x::a,y::b,h,s=>by simp only[rows,map_cons,List.cons.injEq]at h;have c:x.init_=y.init_:=(by have:=h.1;change[V.str x.name,V.int .i64 x.init_]=[V.str y.name,V.int .i64 y.init_]at this;simpa using(List.cons.inj (List.cons.inj this).2).1);simp only[wT,c,funext (Kl a b h.2)]
theorem JJ:∀(a b:aZ Assign),rows a=rows b->∀s,wS a s=wS b s
 |[],[],_,_=>rfl|[],_::_,h,_=>by simp[rows]at h|_::_,[],h,_=>by simp[rows]at h|x::a,y::b,h,s=>by simp only[rows,map_cons,List.cons.injEq]at h;have c:=h.1;change[V.int .i64 x.var,V.int .i64 x.value]=[V.int .i64 y.var,V.int .i64 y.value]at c;simp only[List.cons.injEq,V.int.injEq,true_and,and_true]at c;simp only[wS,c.1,c.2,funext (JJ a b h.2)]
theorem Kq{x y:WF}(h:cells x=cells y):rows x.assign.l=rows y.assign.l:=by change[V.int .i64 x.kind,V.int .i64 x.peer,V.int .i64 x.message,V.int .i64 x.time,bZ x.assign]=[V.int .i64 y.kind,V.int .i64 y.peer,V.int .i64 y.message,V.int .i64 y.time,bZ y.assign]at h;simp only[List.cons.injEq]at h;exact xz h.2.2.2.2.1
theorem xV:∀(a b:aZ WF),rows a=rows b->∀k s,xw k a s=xw k b s
 |[],[],_,_,_=>rfl|[],_::_,h,_,_=>by simp[rows]at h|_::_,[],h,_,_=>by simp[rows]at h|x::a,y::b,h,k,s=>by simp only[rows,map_cons,List.cons.injEq]at h;simp only[xw,JJ _ _ (Kq h.1),xV a b h.2]
theorem D4{α:Type}[bD α]{a b:aZ α}(h:rows a=rows b):a.length=b.length:=by have:=congrArg List.length h;simpa[rows]using this
theorem Ld:∀(a b:aZ WF),rows a=rows b->(a.all λe=>pX e.assign.l.length)=b.all λe=>pX e.assign.l.length
 |[],[],_=>rfl|[],_::_,h=>by simp[rows]at h|_::_,[],h=>by simp[rows]at h|x::a,y::b,h=>by simp only[rows,map_cons,List.cons.injEq]at h;simp only[all_cons,D4 (Kq h.1),Ld a b h.2]
def wU(f:Y')(g:Y')(a b:T2)(xs:T'):Prop:=∃(p:bX)(u:aZ (Int×Zg)),g=f/\a=[]/\b=[.fptr (cells p)]/\jM p=some u/\xs=u.map eI
theorem wU.uniq{f g:Y'}{a b:T2}{xs ys:T'}(h:wU f g a b xs)(k:wU f g a b ys):xs=ys:=by obtain⟨p,C,rfl,rfl,rfl,c,rfl⟩:=h;obtain⟨w,z,_,_,u,B,rfl⟩:=k;simp only[List.cons.injEq,V.fptr.injEq,and_true]at u;change[V.str p.name,bZ p.vars,bZ p.events]=[V.str w.name,bZ w.vars,bZ w.events]at u;simp only[List.cons.injEq]at u;have r1:=xz u.2.1;have r2:=xz u.2.2.1;unfold jM at c B;rw[D4 r1,D4 r2,Ld _ _ r2,Kl _ _ r1,funext (λs=>xV _ _ r2 0 s)]at c;have e:=c.symm.trans B;cases e;rfl
end IST
end Go.VE
namespace Go.VE
open Go.Proofs.YtfjedefhlilglaaGreatDoor
noncomputable section
def JO(f:Y')(a b:T2)(xs:T'):Prop:=trace_events_c1.wU 168 f a b xs\/IST.wU 222 f a b xs
noncomputable def Sy:Sys:=⟨E,λn=>n,zY JO,zW E,IJ⟩
abbrev cL:cm:=di Sy Tx
theorem Xk:Sy.prm 214=some (tY Sy.E):=by kernel_rfl
theorem Wx:Sy.prm 211=some (uA Sy.E):=by kernel_rfl
theorem Yo:∃fi,E.ft 168=some fi/\yH E some fi trace_events_c1.text:=X_ Zae
theorem IV:rF Sy Tx where
 fn f rf h:=let⟨u,a,w⟩:=D0 h;⟨u,some,a,xx,w⟩
 yV f z y h:=HP h
 prm:=Lh
theorem Ka(p:bX)(B:aZ (Int×Zg))(a:jM p=some B):eT Sy 222 [] [.fptr (cells p)] (B.map IST.eI):=by
 have w:Tx 222=some (sw (Tx 222)):=BJ Zae;have⟨G,z,C⟩:=D0 w;have e1:ble (([]:T2).length+1+[V.fptr (cells p)].length) (sw (Tx 222)).na=true:=by kernel_rfl
 have e2:(sw (Tx 222)).rs=[]:=by kernel_rfl
 have e3:Sy.E=Sb.E:=rfl;exact SA e3 Lh (vz XS Qj) Qj z xx C (Nat.le_of_ble_eq_true e1) e2 λu more D y=>IB.zN more y u p [] (by rw[IST.all p B a u more D];rfl)
theorem CW:∀f a b xs,Sy.items f a b=some xs->eT Sy f a b xs:=by intro f a b xs h;have h:JO f a b xs:=NW h;rcases h with h|h;obtain⟨t,u,rfl,rfl,rfl,c,rfl⟩:=h;have⟨D,w,z⟩:=Yo;exact To Sy w xx z (Nat.le_of_ble_eq_true rfl) rfl λB more C y=>trace_events_c1.all t u c B more C y;obtain⟨p,u,rfl,rfl,rfl,c,rfl⟩:=h;exact Ka p u c
theorem AP(t:Z4)(B:aZ (bf×WF))(h:jQ t=some B):Sy.items 168 [] [.fptr (cells t)]=some (B.map λx:bf×WF=>[enc x.1,enc x.2]):=Fa (.inl ⟨t,B,rfl,rfl,rfl,h,rfl⟩) (λu a=>by rcases a with a|a<;>first|exact a.uniq ⟨t,B,rfl,rfl,rfl,h,rfl⟩|(have⟨_,_,a,_⟩:=a;exact absurd a (by decide)))
theorem Hi(p:bX)(B:aZ (Int×Zg))(h:jM p=some B):Sy.items 222 [] [.fptr (cells p)]=some (B.map λx:Int×Zg=>[enc x.1,enc x.2]):=Fa (.inr ⟨p,B,rfl,rfl,rfl,h,rfl⟩) (λu a=>by rcases a with a|a<;>first|exact a.uniq ⟨p,B,rfl,rfl,rfl,h,rfl⟩|(have⟨_,_,a,_⟩:=a;exact absurd a (by decide)))
theorem Q9:Sy.yV 10 []=some (.bool true):=BI (L5 rfl ⟨1,[],by kernel_rfl⟩)
end
end Go.VE
namespace Go.VE
noncomputable section
def vP(D:Z4)(B:bf):a_ WF:=(idx D.procs B.proc).bind λu=>(idx u.events (wrap .i64 (B.index-1))).bind λw=>some w
instance Zk(B:Z4)(D:bf):Fc Sy cL (vP B D):=Fc.N 154 [enc B,enc D] (ct 2 2 B (bQ 10 λw _=>bQ 5 λu _=>oQ 1 4 0 u bh))
namespace ez
def bP(B G p7:Int)(D:Z4)(J:bf)(a:Int):a_ (Fw Int Unit bf):=(idx D.procs p7).bind λw=>bl (decide (a<(len w.events))) ((idx D.procs p7).bind λz=>(idx z.events a).bind λu=>(bl (u.kind==B) (some (u.message==G)) (some false):a_ X').bind λC=>bl C (some (.r (⟨p7,wrap .i64 (a+1)⟩:bf))) (some (.n (wrap .i64 (a+1))))) (some (.x ()))
def W2(B J p7 a:Int)(D:Z4)(G:bf):a_ (Fw Int Unit bf):=(bW (λq:Int=>bP B J p7 D G q) a).bind (Fw.elim (λe=>some (.n (wrap .i64 (p7+1)))) (λe=>some (.r e)))
def br(B J:Int)(D:Z4)(G:bf)(p7:Int):a_ (Fw Int Unit bf):=bl (decide (p7<(len D.procs))) (W2 B J p7 0 D G) (some (.x ()))
def W1(B J p7:Int)(D:Z4)(G:bf):a_ bf:=(bW (λq:Int=>br B J D G q) p7).bind (Fw.elim (λe=>some ⟨0,0⟩) (λe=>some e))
end ez
def ez(D:Z4)(B G:Int):a_ bf:=ez.W1 B G 0 D (⟨0,0⟩:bf)
open ez in
instance Xq(D:Z4)(B G:Int):Fc Sy cL (ez D B G):=Fc.M 100 [enc D,.int .i64 B,.int .i64 G] (ct 2 3 D (eo 11 (λu=>(bL [Iv 1 B,Iv 2 G,Pv 3,Pv 6,Iv 7 u] [Xb 3 D,Xb 6 (⟨0,0⟩:bf)])) (λw=>(0,(bL [Pv 6] [Xb 6 (⟨0,0⟩:bf)]))) (λw=>(bL [Pv 6] [Xb 6 w])) (λu=>b7 7 D.procs (bB 3 14 (eo 12 (λC=>(bL [Iv 1 B,Iv 2 G,Pv 3,Pv 6,Iv 7 u,Iv 8 C] [Xb 3 D,Xb 6 (⟨0,0⟩:bf)])) (λz=>(2,(bL [Iv 1 B,Iv 2 G,Pv 3,Pv 6,Iv 7 u] [Xb 3 D,Xb 6 (⟨0,0⟩:bf)]))) (λz=>(bL [Pv 6] [Xb 6 z])) (λC=>bQ 8 λI _=>b7 2 I.events (bB 3 25 (bQ 10 λL _=>bQ 3 λJ _=>oQ 2 9 0 J (cg 9 5 [9,41] 46 (bB 9 41 (bH 5) (bH 5)) λO=>bB 2 46 bh bh)) bh)) (λz=>bh) (λz=>bh)) bh)) (λw=>bh) (λw=>bh)))
namespace en
def J1(B:Sl bf)(D:Z4)(G:bf):a_ (Sl bf):=(vP D G).bind λu=>bl (u.kind==3) ((ez D 2 u.message).bind λw=>(gC B (w:bf)).bind λz=>some z) (some B)
end en
def en(D:Z4)(B:bf):a_ (Sl bf):=bl (decide (B.index>1)) (en.J1 (Sl.row [⟨B.proc,wrap .i64 (B.index-1)⟩]:Sl bf) D B) (en.J1 (Sl.nil:Sl bf) D B)
open en in
theorem A7(D:Z4)(B:bf):Le ((en D B).bind λr=>some (cK r)) (b_ Sy cL (Cb (tr Tx 155)) (.rc (tb Tx 155),[],start ([enc D,enc B].map .v) [])):=ct 2 2 D (bB 17 9 (Uo 10 17 18 .bO (⟨B.proc,wrap .i64 (B.index-1)⟩:bf) (uc 5 (bG 4 λu _=>oQ 1 6 0 u (bB 10 24 (bG 6 λw _=>oD 1 2005 30 31 λz _=>bh) bh)))) (uc 5 (bG 4 λu _=>oQ 1 6 0 u (bB 10 24 (bG 6 λw _=>oD 1 2005 30 31 λz _=>bh) bh))))
def pY(a:bf->a_ (Sl bf)):aZ (aZ X')×aZ bf->a_ (Fw (aZ (aZ X')×aZ bf) (aZ (aZ X')) Empty)
 |(out,[])=>some (.x out)|(out,y::rest)=>if 0<=y.proc/\0<=y.index then(out[y.proc.toNat]?).bind λrow=>(row[y.index.toNat]?).bind λb=>bl b (some (.n (out,rest))) ((a y).bind λmore=>if rest.length+more.l.length<=2147483648 then some (.n (out.set y.proc.toNat (row.set y.index.toNat true),rest++more.l))else none)else none
def iu(t:Z4):aZ (aZ X'):=t.procs.l.map λP=>replicate (P.events.l.length+1) false
def BB(t:Z4):X':=decide (t.procs.l.length<=2147483648)&&t.procs.l.all λP=>decide (P.events.l.length+1<=2147483648)
def nested(out:aZ (aZ X')):Sl (Sl X'):=if out=[]then .nil else .row (out.map .row)
def oP(t:Z4)(x:bf):a_ (Sl (Sl X')):=if BB t then(en t x).bind λs=>(bW (pY (en t)) (iu t,s.l)).bind (Fw.elim (λout=>some (nested out)) (λe=>elim e))else none
end
namespace pastX
abbrev yF:Nat->FuncId:=λn=>n
def r1:SW:=[o2 2 (.a .box) [0] [],o2 3 (.a .box) [1] [],o1 4 (.k (.bO)) []]
def r2:SW:=[o1 5 (.k (.bO)) []]
def r3:SW:=[o1 6 (.k (.int .i64 0)) []]
def r4:SW:=[o1 11 6 [],o2 12 (fa 0) [2] [],o2 13 (ld 1) [12] [],o2 14 ln [13] [],o2 15 (bI .lss) [11,14] []]
def r5:SW:=[o1 18 5 [],o2 19 (fa 0) [2] [],o2 20 (ld 1) [19] [],o1 21 6 [],o2 22 (ix 3) [20,21] [],o2 23 (fa 2) [22] [],o2 24 (ld 1) [23] [],o2 25 ln [24] [],o2 26 (bI .add) [25,.k (.int .i64 1)] [],o2 27 (.a (.makeSl 1 [.bool false])) [26,26] [],o2 28 (.a (.buildSl 1 1 [.bO] [0])) [27] [],o2 29 (.l (.append 1)) [18,28] [],o1 5 29 []]
def r6:SW:=[o1 16 6 [],o2 17 (bI .add) [16,.k (.int .i64 1)] [],o1 6 17 []]
def L1:RC:=.seq (.seq (.ops r4) (.cond (.s 15) (.skip) (.exit 0))) (.seq (.block 1 (.ops r5)) (.ops r6))
def r7:SW:=[o2 30 (lD 1) [2] [],o2 31 (lD 2) [3] [],o2 32 .c [.f 155,30,31] [],o1 7 32 []]
def r8:SW:=[o1 33 7 [],o2 34 ln [33] [],o2 35 (bI .gtr) [34,.k (.int .i64 0)] []]
def r9:SW:=[o1 36 7 [],o2 37 (ix 2) [36,.k (.int .i64 0)] [],o2 38 (lD 2) [37] [],o2 8 (.a (.alloc 2 [.int .i64 0,.int .i64 0])) [] [],oz (su 2) [8,38] []]
def EX:SW:=[o1 39 7 [],o2 40 (.p (.slice 2 true false)) [39,.k (.int .i64 1)] [],o1 7 40 []]
def GR:SW:=[o1 41 5 [],o2 42 (fa 0) [8] [],o2 43 (ld 1) [42] [],o2 44 (ix 1) [41,43] [],o2 45 (ld 1) [44] [],o2 46 (fa 1) [8] [],o2 47 (ld 1) [46] [],on 48 (ix 1) [45,47] [],on 49 (ld 1) [48] []]
def GM:SW:=[o1 50 5 [],o2 51 (fa 0) [8] [],o2 52 (ld 1) [51] [],o2 53 (ix 1) [50,52] [],o2 54 (ld 1) [53] [],o2 55 (fa 1) [8] [],o2 56 (ld 1) [55] [],on 57 (ix 1) [54,56] [],oy (su 1) [57,.k (.bool true)] []]
def HH:SW:=[o2 58 (lD 1) [2] [],o2 59 (lD 2) [8] [],o2 60 .c [.f 155,58,59] [],o1 9 60 []]
def E7:SW:=[o1 10 (.k (.int .i64 0)) []]
def Ic:SW:=[o1 61 10 [],o1 62 9 [],o2 63 ln [62] [],o2 64 (bI .lss) [61,63] []]
def r16:SW:=[o1 67 7 [],o1 68 9 [],o1 69 10 [],o2 70 (ix 2) [68,69] [],o2 71 (lD 2) [70] [],o2 72 (.a (.buildSl 2 1 [.int .i64 0,.int .i64 0] [0])) [71] [],o2 73 (.l (.append 2)) [67,72] [],o1 7 73 []]
def PS:SW:=[o1 65 10 [],o2 66 (bI .add) [65,.k (.int .i64 1)] [],o1 10 66 []]
def L3:RC:=.seq (.seq (.ops Ic) (.cond (.s 64) (.skip) (.exit 4))) (.seq (.block 5 (.ops r16)) (.ops PS))
def L2:RC:=.seq (.seq (.ops r8) (.cond (.s 35) (.skip) (.exit 2))) (.block 3 (.seq (.ops r9) (.seq (.ops EX) (.seq (.seq (.qO GR) (.cond (.s 49) (.exit 3) (.skip))) (.seq (.qO GM) (.seq (.ops HH) (.seq (.ops E7) (.block 4 (.loop L3)))))))))
def r18:SW:=[o1 74 5 [],o1 4 74 []]
def code:RC:=.seq (.ops r1) (.seq (.ops r2) (.seq (.seq (.ops r3) (.block 0 (.loop L1))) (.seq (.ops r7) (.seq (.block 2 (.loop L2)) (.seq (.ops r18) (.ret))))))
noncomputable abbrev ye:=Go.Proofs.YtfjedefhlilglaaGreatDoor.E
def kT(out:aZ (aZ X')):T':=out.map λr=>r.map V.bool
theorem shape:∃fi,ye.ft (yF 114)=some fi/\bV ⟨ye,some,fi.ntmps⟩ false fi.body=some code/\2<=fi.ntmps/\fi.results=[.tmp 4]:=by
 have h:((ye.ft (yF 114)).map λfi=>(bV ⟨ye,some,fi.ntmps⟩ false fi.body,ble 2 fi.ntmps,fi.results))=some (some code,true,[.tmp 4]):=by kernel_rfl
 have⟨fi,a,u⟩:=ζf.1 h;simp only[ζc]at u;exact⟨fi,a,u.1,Nat.le_of_ble_eq_true u.2.1,u.2.2⟩
section
variable{E:Env}{N:Nat->Y'}{t:Z4}{x:bf}{k:Nat}{F:WP}{H H1:bp}{call:dL}{b:a_ Nat}
theorem kF{o:RO}{l:SW}{v:V}{r:WP×bp}(a:o.gd=none)(c:bK E N call b o.now o.k (o.az.map (bz N F)) H=some (v,H1))(h:cM E N call b l (bu F o.dst v) H1=some r):cM E N call b (o::l) F H=some r:=by simp[cM,a,c];omega
theorem vp{o:RO}{l:SW}{v:V}{r:WP×bp}(a:o.gd=none)(c:bK E N call b o.now o.k (o.az.map (bz N F)) H=some (v,H))(h:cM E N call b l (bu F o.dst v) H=some r):cM E N call b (o::l) F H=some r:=kF a c h
theorem eC:cM E N call b [] F H=some (F,H):=rfl
theorem ld1(h:H[0]?=some (.row 1 [cells t])):fD H (.load 1 false) [.hptr 0 0 0]=some (bZ t.procs):=by simp[fD,eP,h];rfl
theorem aa4{s:Sl bX}{p:bX}{i:Nat}(h:s.l[i]?=some p):mV 3 (bZ s) (i:Int)=some (.fptr (cells p)):=by have:=Gx (N:=λn=>n) s .i64 i 3 rfl;simp[bq]at this;rw[this,show idx s i=some p from by unfold idx;grind];rfl
theorem x4(a:get F 2=.hptr 0 0 0)(f6:get F 6=.int .i64 k)(b:H[0]?=some (.row 1 [cells t])):
 ∃F',cM E N call none r4 F H=some (F',H)/\get F' 15=.bool (decide (k<t.procs.l.length))/\(∀s,s<11->get F' s=get F s):=by
 refine⟨_,vp (v:=.int .i64 k) rfl ?_<|vp (v:=.hptr 0 0 0) rfl ?_<|vp (v:=bZ t.procs) rfl ?_<|vp (v:=.int .i64 t.procs.l.length) rfl ?_<|vp (v:=.bool (decide (k<t.procs.l.length))) rfl ?_ eC,?_,?_⟩
 .simp[bK,bz,bq,f6]
 .simp[bK,bz,bq,bu,a,iS]
 .simp only[bK,map_cons,map_nil,bz,bu,bA,if_true];rw[ld1 b];rfl
 .simp only[bK,map_cons,map_nil,bz,bu,bA,if_true];rw[AT];rfl
 .simp[bK,bz,bq,bu,iy,pg]
 .simp[bu]
 simp[bu,bA]
 grind
theorem zq{n:Nat}(h:n<=2147483648):wrap .i64 ((n:Int)+1)=((n+1:Nat):Int):=by simp[wrap,IntKind.bits];omega
theorem x5{P:bX}{o:Nat}{ids:S'}{rows:T'}(a:get F 2=.hptr 0 0 0)(f6:get F 6=.int .i64 k)(b:H[0]?=some (.row 1 [cells t]))(B:t.procs.l[k]?=some P)(G:P.events.l.length+1<=2147483648)
 (D:nM H (get F 5) o ids rows)(c:rows.length+1<=2147483648):
 ∃F' H',cM E N call none r5 F H=some (F',H')/\nM H' (get F' 5) (H.length+2) (ids++[H.length]) (rows++[replicate (P.events.l.length+1) (.bool false)])/\H.length<=H'.length/\(∀id,id<H.length->id≠o\/rows=[]->H'[id]?=H[id]?)/\(∀s,s<11->s≠5->get F' s=get F s):=by
 have⟨H',p1,p2,p3,p4⟩:=D.push (replicate (P.events.l.length+1) (.bool false)) c;have u:jJ (replicate (P.events.l.length+1) (V.bool false))=replicate (P.events.l.length+1) [.bool false]:=by simp[jJ]
 rw[u,List.length_replicate]at p1;have w:=zq (n:=P.events.l.length) Zaa
 refine⟨_,H',vp (v:=get F 5) rfl ?_<|vp (v:=.hptr 0 0 0) rfl ?_<|vp (v:=bZ t.procs) rfl ?_<|vp (v:=.int .i64 k) rfl ?_<|vp (v:=.fptr (cells P)) rfl ?_<|vp (v:=.fptr [bZ P.events]) rfl ?_<|vp (v:=bZ P.events) rfl ?_<|
  vp (v:=.int .i64 P.events.l.length) rfl ?_<|vp (v:=.int .i64 (P.events.l.length+1:Nat)) rfl ?_<|kF (v:=.hsl H.length 1 0 (P.events.l.length+1)) (H1:=H++[.row 1 (replicate (P.events.l.length+1) [.bool false])]) rfl ?_<|
  kF (v:=.hsl (H.length+1) 1 0 1) (H1:=H++[.row 1 (replicate (P.events.l.length+1) [.bool false])]++[.row 1 [[.hsl H.length 1 0 (P.events.l.length+1)]]]) rfl ?_<|
  kF (v:=.hsl (H.length+2) 1 0 (rows.length+1)) rfl ?_<|vp (v:=.hsl (H.length+2) 1 0 (rows.length+1)) rfl ?_ eC,?_,p3,p4,?_⟩
 .simp[bK,bz,bq]
 .simp[bK,bz,bq,bu,a,iS]
 .simp only[bK,map_cons,map_nil,bz,bu,bA,if_true];rw[ld1 b];rfl
 .simp[bK,bz,bq,bu,f6]
 .simp only[bK,map_cons,map_nil,bz,bu,bA,reduceEqDiff,if_true,if_false,bq];rw[aa4 B];rfl
 .simp[bK,bz,bu,bA,bq];rfl
 .simp[bK,bz,bu,bA];rfl
 .simp only[bK,map_cons,map_nil,bz,bu,bA,if_true];rw[AT];rfl
 .simp[bK,bz,bu,bA,bq,iy];grind
 .simp only[bK,map_cons,map_nil,bz,bu,bA,if_true,iX];rw[if_pos ⟨trivial,trivial,Zaa,Zaa,Zaa⟩]
  simp[Mk.val]
 .simp[bK,bz,bu,bA,iX];simp[fT,V.cells,V.one,Mk.val]
 .simp only[bK,map_cons,map_nil,bz,bu,bA,reduceEqDiff,if_true,if_false];omega
 .simp[bK,bz,bq,bu]
 .simp[bu,bA];omega
 intro s z C;simp[bu,bA]
 repeat (rw[if_neg Zaa])
theorem x6(f6:get F 6=.int .i64 k)(a:k<=2147483648):∃F',cM E N call none r6 F H=some (F',H)/\get F' 6=.int .i64 ((k+1:Nat):Int)/\(∀s,s<11->s≠6->get F' s=get F s):=by have u:=zq a;refine⟨_,vp (v:=.int .i64 k) rfl ?_<|vp (v:=.int .i64 (k+1:Nat)) rfl ?_<|vp (v:=.int .i64 (k+1:Nat)) rfl ?_ eC,?_,?_⟩;simp[bK,bz,bq,f6];simp[bK,bz,bu,bA,bq,iy];grind;simp[bK,bz,bq,bu];simp[bu];simp[bu,bA];grind
end
structure P1(t:Trace)(x:bf)(k:Nat)(F:Frame)(H:bp):Prop where
 f2:get F 2=.hptr 0 0 0
 f3:get F 3=.hptr 1 0 0
 f6:get F 6=.int .i64 k
 h0:H[0]?=some (.row 1 [cells t])
 h1:H[1]?=some (.row 2 [cells x])
 ns:∃o ids,nM H (get F 5) o ids (kT ((iu t).take k))/\(k≠0->2<=o)/\∀id∈ids,2<=id
theorem ya(out:aZ (aZ X')):(kT out).length=out.length:=by simp[kT]
theorem O1 {E:Env} {N:Nat->FuncId} {t:Trace} {x:bf} (J:BB t=true):∀(m k:Nat) (F:Frame) (H:bp),k+m=t.procs.l.length->P1 t x k F H->∃F' H',nk E N L1 F H (.exit 0) F' H'/\P1 t x t.procs.l.length F' H':=by
 have B:t.procs.l.length<=2147483648/\∀P∈t.procs.l,P.events.l.length+1<=2147483648:=by
  simpa [BB]using J
 intro m
 induction m with
 | zero=>
  intro k F H hk p;have C:k=t.procs.l.length:=by omega
  obtain⟨F1,e1,e2,e3⟩:=x4 (E:=E)  (call:=⟨0,λ_ _ _=>none⟩) p.f2 p.f6 p.h0
  refine⟨F1,H,nk.stop (Ex.uW (Ex.seq (Ex.dm λc=>?_) (Ex.qM ?_ Ex.exit)) Zab) Zab,?_⟩
  .have:cM E N c none r4 F H=cM E N ⟨0,λ_ _ _=>none⟩ none r4 F H:=rfl
   exact e1
  .show get F1 15=_;rw[e2];simp[C]
  subst C;exact⟨by rw[e3 2 Zaa];exact p.f2,by rw[e3 3 Zaa];exact p.f3,by rw[e3 6 Zaa];exact p.f6,p.h0,p.h1,by rw[e3 5 Zaa];exact p.ns⟩
 | succ m Z=>
  intro k F H hk p;have w:k<t.procs.l.length:=by omega
  obtain⟨o,ids,U,n2,n3⟩:=p.ns;obtain⟨F1,e1,e2,e3⟩:=x4 (E:=E) (N:=N) (call:=⟨0,λ_ _ _=>none⟩) p.f2 p.f6 p.h0
  have W:=ζd w;have D:((iu t).take k).length=k:=by simp[iu];omega
  have I:nM H (get F1 5) o ids (kT ((iu t).take k)):=by rw[e3 5 Zaa];exact U
  obtain⟨F2,H2,g1,g2,g3,g4,g5⟩:=x5 (E:=E) (N:=N) (call:=⟨0,λ_ _ _=>none⟩) (by rw[e3 2 Zaa];exact p.f2) (by rw[e3 6 Zaa];exact p.f6) p.h0 W (B.2 _ (List.getElem_mem w)) I (by rw[ya,D];omega)
  obtain⟨X,q1,q2,L⟩:=x6 (E:=E) (N:=N) (call:=⟨0,λ_ _ _=>none⟩) (H:=H2)   (by rw[g5 6 Zaa Zaa,e3 6 Zaa];exact p.f6) Zaa
  have Y:=U.lt;have O:=(ζe.1 p.h0).1;have Q:=(ζe.1 p.h1).1;have u:∀i,i<2->i<H.length->H2[i]? = H[i]? := λi hi Y=>g4 i Y (by
   by_cases G:k=0
   .subst G;right;simp[kT]
   left;have:=n2 G;omega)
  have S:P1 t x (k+1) X H2:=by
   refine⟨by rw[L 2 Zaa Zaa,g5 2 Zaa Zaa,e3 2 Zaa];exact p.f2,by rw[L 3 Zaa Zaa,g5 3 Zaa Zaa,e3 3 Zaa];exact p.f3,q2,
    by rw[u 0 Zaa O];exact p.h0,by rw[u 1 Zaa Q];exact p.h1,H.length+2,ids++[H.length],?_,λ_=>by omega,λid T=>?_⟩
   .rw[L 5 Zaa Zaa]
    have z:kT ((iu t).take (k+1))=kT ((iu t).take k)++[List.replicate (t.procs.l[k].events.l.length+1) (.bool false)]:=by
     rw[List.take_add_one];have:(iu t)[k]? = some (List.replicate (t.procs.l[k].events.l.length+1) false):=by simp[iu,W]
     rw[this];simp[kT]
    rw[z];exact g2
   rcases List.mem_append.1 T with h|h
   .exact n3 id h
   simp at h;omega
  obtain⟨F',H',r1,r2⟩:=Z (k+1) X H2 Zaa S
  refine⟨F',H',nk.step (Ex.seq (Ex.seq (Ex.dm λc=>e1) (Ex.om ?_ Ex.skip)) (Ex.seq (Ex.block (Ex.dm λc=>g1)) (Ex.dm λc=>q1))) r1,r2⟩
  show get F1 15=_;rw[e2];simp[w]
section
variable{E:Env}{N:Nat->Y'}{t:Z4}{x y:bf}{F:WP}{H:bp}{call:dL}
theorem x8{l:T'}{id:Nat}(h:lC H (get F 7) l id):∃F',cM E N call none r8 F H=some (F',H)/\get F' 35=.bool (decide (0<l.length))/\(∀s,s<11->get F' s=get F s):=by refine⟨_,vp (v:=get F 7) rfl ?_<|vp (v:=.int .i64 l.length) rfl ?_<|vp (v:=.bool (decide (0<l.length))) rfl ?_ eC,?_,?_⟩;simp[bK,bz,bq];simp[bK,bz,bu,bA,bq,h.len];simp[bK,bz,bq,bu,iy,pg];simp[bu];simp[bu,bA];grind
theorem x9{l:T'}{id:Nat}(h:lC H (get F 7) (cells y::l) id):∃F',cM E N call none r9 F H=some (F',H++[.row 2 [cells y]])/\get F' 8=.hptr H.length 0 0/\(∀s,s<11->s≠8->get F' s=get F s):=by have⟨p,p1,p2⟩:=h.get (i:=0) rfl;refine⟨_,vp (v:=get F 7) rfl ?_<|vp (v:=p) rfl ?_<|vp (v:=.agg (cells y)) rfl ?_<|kF (v:=.hptr H.length 0 0) (H1:=H++[.row 2 [[.int .i64 0,.int .i64 0]]]) rfl ?_<|kF (v:=.undef) rfl ?_ eC,?_,?_⟩;simp[bK,bz,bq];simp[bK,bz,bu,bA,bq];grind;simp only[bK,map_cons,bz,bu,bA,if_false];grind;simp[bK,bz,bu,bA,iX,Mk.val];simp[bK,bz,bu,bA];simp[fN,V.cells,V.one];simp[bu];simp[bu,bA];grind
theorem x10{c:T2}{l:T'}{id:Nat}(h:lC H (get F 7) (c::l) id):∃F',cM E N call none EX F H=some (F',H)/\lC H (get F' 7) l id/\(∃off m B,get F 7=.hsl id 2 off m/\get F' 7=.hsl id 2 B l.length)/\(∀s,s<11->s≠7->get F' s=get F s):=by have⟨w',p1,p2,off,m,B,p3,p4⟩:=h.tail;refine⟨_,vp (v:=get F 7) rfl ?_<|vp (v:=w') rfl ?_<|vp (v:=w') rfl ?_ eC,?_,⟨off,m,B,p3,?_⟩,?_⟩;simp[bK,bz,bq];simp[bK,bz,bu,bA,bq,mP,p1];simp[bK,bz,bq,bu];simp[bu,bA];omega;simp[bu,bA];omega;simp[bu,bA];grind
theorem k_(H:bp):H.take H.length=H:=List.take_length ..
theorem Y3{c:Nat}(a:H[c]?=some (.row 2 [cells y])):fD H (.load 1 false) [.hptr c 0 0]=some (.int .i64 y.proc)/\fD H (.load 1 false) [.hptr c 0 1]=some (.int .i64 y.index)/\fD H (.load 2 true) [.hptr c 0 0]=some (enc y):=by refine⟨?_,?_,?_⟩<;>simp[fD,eP,a,cut]<;>rfl
theorem YY{c o:Nat}{ids:S'}{rows:T'}{p j:Nat}{r:T2}{u:V}(B:get F 8=.hptr c 0 0)(a:H[c]?=some (.row 2 [cells y]))(D:nM H (get F 5) o ids rows)(hp:y.proc=p)(G:y.index=j)(b:rows[p]?=some r)(d:r[j]?=some u):
 ∃F',cM E N call (some H.length) GR F H=some (F',H)/\get F' 49=u/\(∀s,s<11->get F' s=get F s):=by
 have⟨id,w,z,C,I,J⟩:=D.cell b d;have⟨L,O,_⟩:=Y3 a;refine⟨_,vp (v:=get F 5) rfl ?_<|vp (v:=.hptr c 0 0) rfl ?_<|vp (v:=.int .i64 p) rfl ?_<|vp (v:=.hptr o p 0) rfl ?_<|vp (v:=.hsl id 1 0 r.length) rfl ?_<|vp (v:=.hptr c 0 1) rfl ?_<|vp (v:=.int .i64 j) rfl ?_<|vp (v:=.hptr id j 0) rfl ?_<|vp (v:=u) rfl ?_ eC,?_,?_⟩
 .simp[bK,bz,bq]
 .simp[bK,bz,bq,bu,B,iS]
 .simp[bK,bz,bu,bA,k_];grind
 .simp[bK,bz,bu,bA,bq];grind
 .simp[bK,bz,bu,bA,k_];grind
 .simp[bK,bz,bq,bu,B,iS]
 .simp[bK,bz,bu,bA,k_];grind
 .simp[bK,bz,bu,bA,bq];grind
 .simp[bK,bz,bu,bA,k_];simp_all
 .simp[bu]
 simp[bu,bA]
 grind
theorem x12{c o:Nat}{ids:S'}{rows:T'}{p j:Nat}{r:T2}{u:V}(B:get F 8=.hptr c 0 0)(d:H[c]?=some (.row 2 [cells y]))(D:nM H (get F 5) o ids rows)(hp:y.proc=p)(J:y.index=j)(a:rows[p]?=some r)(b:r[j]?=some u):
 ∃F' H',cM E N call (some H.length) GM F H=some (F',H')/\nM H' (get F' 5) o ids (rows.set p (r.set j (.bool true)))/\H'.length=H.length/\(∀i,i∉ids->H'[i]?=H[i]?)/\(∀s,s<11->get F' s=get F s):=by
 have⟨id,w,L,O,z,Q⟩:=D.cell a b;have⟨S,T,_⟩:=Y3 d;have⟨H',C,U,G,I⟩:=D.set a (ζe.1 b).1 w (u:=.bool true) rfl rfl;refine⟨_,H',vp (v:=get F 5) rfl ?_<|vp (v:=.hptr c 0 0) rfl ?_<|vp (v:=.int .i64 p) rfl ?_<|vp (v:=.hptr o p 0) rfl ?_<|vp (v:=.hsl id 1 0 r.length) rfl ?_<|vp (v:=.hptr c 0 1) rfl ?_<|vp (v:=.int .i64 j) rfl ?_<|vp (v:=.hptr id j 0) rfl ?_<|kF (v:=.undef) rfl ?_ eC,?_,G,λi hi=>I i λe=>hi (e▸mem_of_getElem? w),?_⟩
 .simp[bK,bz,bq]
 .simp[bK,bz,bq,bu,B,iS]
 .simp[bK,bz,bu,bA,k_];grind
 .simp[bK,bz,bu,bA,bq];grind
 .simp[bK,bz,bu,bA,k_];grind
 .simp[bK,bz,bq,bu,B,iS]
 .simp[bK,bz,bu,bA,k_];grind
 .simp only[bK,map_cons,map_nil,bz,bu,bA,reduceEqDiff,if_true,if_false,bq];rw[z];rfl
 .simp[bK,bz,bu,bA,C]
 .simp[bu,bA];omega
 simp[bu,bA]
 grind
def IQ(E:Env)(N:Nat->Y')(t:Z4)(a:bf->a_ (Sl bf)):Prop:=∀(y:bf)(s:Sl bf)(H:bp),a y=some s->∃w X id,(∃n,∀k,n<=k->fI E (run E k) (N 155) [enc t,enc y] H=some (w,H++X))/\lC (H++X) w (s.l.map cells) id/\(∀off m,w=.hsl id 2 off m->id=H.length)
theorem x13{a d:Nat}(hd:E.keep (N 155)=true){b:bf->a_ (Sl bf)}(D:IQ E N t b){s:Sl bf}(B:b y=some s)(f:get F 2=.hptr 0 0 0)(g:H[0]?=some (.row 1 [cells t])){c:Nat}(h:H[c]?=some (.row 2 [cells y])):
 ∃w X id,lC (H++X) w (s.l.map cells) id/\(∀off m,w=.hsl id 2 off m->id=H.length)/\
  (get F 8=.hptr c 0 0->∃F',(∃n,∀k,n<=k->cM E N (run E k) none HH F H=some (F',H++X))/\get F' 9=w/\(∀s,s<11->s≠9->get F' s=get F s))/\
  (get F 3=.hptr c 0 0->∃F',(∃n,∀k,n<=k->cM E N (run E k) none r7 F H=some (F',H++X))/\get F' 7=w/\(∀s,s<11->s≠7->get F' s=get F s)):=by
 have⟨w,X,id,⟨n,e1⟩,e2,e3⟩:=D y s H B;have z:fD H (.load 1 true) [.hptr 0 0 0]=some (enc t):=by simp[fD,eP,g,Ob.rows,cut];rfl
 have⟨_,_,C⟩:=Y3 h;refine⟨w,X,id,e2,e3,λG=>⟨_,⟨n,λk e=>vp (v:=enc t) rfl ?_<|vp (v:=enc y) rfl ?_<|kF (v:=w) (H1:=H++X) rfl ?_<|vp (v:=w) rfl ?_ eC⟩,?_,?_⟩,λi=>⟨_,⟨n,λk e=>vp (v:=enc t) rfl ?_<|vp (v:=enc y) rfl ?_<|kF (v:=w) (H1:=H++X) rfl ?_<|vp (v:=w) rfl ?_ eC⟩,?_,?_⟩⟩
 .simp only[bK,map_cons,map_nil,bz,f];rw[z];rfl
 .simp only[bK,map_cons,map_nil,bz,bu,bA,reduceEqDiff,if_true,if_false,G];rw[C];rfl
 .simp only[bK,map_cons,map_nil,bz,bu,bA,reduceEqDiff,if_true,if_false,hd,List.nil_append,List.append_nil];exact e1 k e
 .simp[bK,bz,bq,bu]
 .simp[bu]
 .intro s B u;simp only[bu,bA];rw[if_neg (Ne.symm u)]
  repeat (rw[if_neg Zaa])
 .simp only[bK,map_cons,map_nil,bz,f];rw[z];rfl
 .simp only[bK,map_cons,map_nil,bz,bu,bA,reduceEqDiff,if_true,if_false,i];rw[C];rfl
 .simp only[bK,map_cons,map_nil,bz,bu,bA,reduceEqDiff,if_true,if_false,hd,List.nil_append,List.append_nil];exact e1 k e
 .simp[bK,bz,bq,bu]
 .simp[bu]
 intro s B u;simp only[bu,bA];rw[if_neg (Ne.symm u)]
 repeat (rw[if_neg Zaa])
end
section
variable{E:Env}{N:Nat->Y'}{F:WP}{H:bp}{call:dL}{i:Nat}
theorem Uy{l:T'}{id:Nat}(a:get F 10=.int .i64 i)(h:lC H (get F 9) l id):∃F',cM E N call none Ic F H=some (F',H)/\get F' 64=.bool (decide (i<l.length))/\(∀s,s<11->get F' s=get F s):=by refine⟨_,vp (v:=.int .i64 i) rfl ?_<|vp (v:=get F 9) rfl ?_<|vp (v:=.int .i64 l.length) rfl ?_<|vp (v:=.bool (decide (i<l.length))) rfl ?_ eC,?_,?_⟩;simp[bK,bz,bq,a];simp[bK,bz,bq,bu];simp[bK,bz,bu,bA,bq,h.len];simp[bK,bz,bq,bu,iy,pg];simp[bu];simp[bu,bA];grind
theorem x16{l D:T'}{id B:Nat}{c:T2}(a:get F 10=.int .i64 i)(h:lC H (get F 7) l id)(G:lC H (get F 9) D B)(b:D[i]?=some c)(J:l.length+1<=2147483648):
 ∃F' H',cM E N call none r16 F H=some (F',H')/\lC H' (get F' 7) (l++[c]) (H.length+1)/\H'.length=H.length+2/\(∀i,i<H.length->(∀off m,get F 7=.hsl id 2 off m->i≠id)->H'[i]?=H[i]?)/\(∀s,s<11->s≠7->get F' s=get F s):=by
 have u:=G.c c (mem_of_getElem? b);have⟨p,p1,p2⟩:=G.get b;have⟨H',C,I,w,z⟩:=h.push u J;refine⟨_,H',vp (v:=get F 7) rfl ?_<|vp (v:=get F 9) rfl ?_<|vp (v:=.int .i64 i) rfl ?_<|vp (v:=p) rfl ?_<|vp (v:=.agg c) rfl ?_<|kF (v:=.hsl H.length 2 0 1) (H1:=H++[.row 2 [c]]) rfl ?_<|kF (v:=.hsl (H.length+1) 2 0 (l.length+1)) rfl ?_<|vp (v:=.hsl (H.length+1) 2 0 (l.length+1)) rfl ?_ eC,?_,w,z,?_⟩
 .simp[bK,bz,bq]
 .simp[bK,bz,bq,bu]
 .simp[bK,bz,bq,bu,a]
 .simp[bK,bz,bu,bA,bq];grind
 .simp[bK,bz,bu,bA];grind
 .simp[bK,bz,bu,bA,iX];simp[fT,V.cells,Mk.val]
  grind
 .simp[bK,bz,bu,bA];omega
 .simp[bK,bz,bq,bu]
 .simp[bu,bA];omega
 simp[bu,bA]
 grind
theorem x17(a:get F 10=.int .i64 i)(b:i<=2147483648):∃F',cM E N call none PS F H=some (F',H)/\get F' 10=.int .i64 ((i+1:Nat):Int)/\(∀s,s<11->s≠10->get F' s=get F s):=by have u:=zq b;refine⟨_,vp (v:=.int .i64 i) rfl ?_<|vp (v:=.int .i64 (i+1:Nat)) rfl ?_<|vp (v:=.int .i64 (i+1:Nat)) rfl ?_ eC,?_,?_⟩;simp[bK,bz,bq,a];simp[bK,bz,bu,bA,bq,iy];grind;simp[bK,bz,bq,bu];simp[bu];simp[bu,bA];grind
structure P3(l l9:List (List V))(B i:Nat)(F:Frame)(H:bp):Prop where
 f10:get F 10=.int .i64 i
 t9:∃id9,lC H (get F 9) l9 id9/\∃id,lC H (get F 7) l id/\(∀off m,get F 7=.hsl id 2 off m->B<=id/\∀off' m',get F 9=.hsl id9 2 off' m'->id≠id9)
 len:B<=H.length
theorem ZQ (D:aZ (aZ V)) (B:Nat) (Y:D.length<=2147483648):∀(m i:Nat) (l:aZ (aZ V)) (F:Frame) (H:bp),i+m=D.length->l.length+m<=2147483648->P3 l D B i F H ->
 ∃F' H',nk E N L3 F H (.exit 4) F' H'/\(∃id,lC H' (get F' 7) (l++D.drop i) id/\∀off m,get F' 7=.hsl id 2 off m->B<=id)/\(∀s,s<7->get F' s=get F s)/\(∀j,j<B->H'[j]? = H[j]?)/\H.length<=H'.length:=by
 intro m
 induction m with
 | zero=>
  intro i l F H hi Z p;obtain⟨u,t9,id,t7,C⟩:=p.t9;obtain⟨F1,e1,e2,e3⟩:=Uy (E:=E)  (call:=⟨0,λ_ _ _=>none⟩) p.f10 t9
  refine⟨F1,H,nk.stop (Ex.uW (Ex.seq (Ex.dm λc=>e1) (Ex.qM ?_ Ex.exit)) Zab) Zab,⟨id,?_,λoff m h=>?_⟩,λs T=>e3 s Zaa,λ_ _=>rfl,Nat.le_refl _⟩
  .show get F1 64=_
   grind
  .grind
  grind
 | succ m ih=>
  intro i l F H hi Z p;have z:i<D.length:=by omega
  obtain⟨u,t9,id,t7,C⟩:=p.t9;obtain⟨F1,e1,e2,e3⟩:=Uy (E:=E)  (call:=⟨0,λ_ _ _=>none⟩) p.f10 t9
  have hc:=ζd z;have G:lC H (get F1 7) l id:=by grind
  have I:lC H (get F1 9) D u:=by grind
  obtain⟨F2,H2,g1,g2,g3,g4,g5⟩:=x16 (E:=E)  (call:=⟨0,λ_ _ _=>none⟩) (by rw[e3 10 Zaa];exact p.f10) G I hc Zaa
  obtain⟨U,q1,q2,J⟩:=x17 (E:=E)  (call:=⟨0,λ_ _ _=>none⟩)    (by rw[g5 10 Zaa Zaa,e3 10 Zaa];exact p.f10) Zaa
  have keep:∀j,j<H.length->(∀off m,get F 7=.hsl id 2 off m->j≠id)->H2[j]? = H[j]? := λj L h=>g4 j L Zac
  have O:P3 (l++[D[i]]) D B (i+1) U H2:=by
   refine⟨q2,⟨u,?_,H.length+1,by grind,λoff m h=>⟨by have:=p.len;omega,λw m' W=>?_⟩⟩,by have:=p.len;omega⟩
   .rw[J 9 Zaa Zaa,g5 9 Zaa Zaa,e3 9 Zaa]
    exact t9.heap λoff n X=>keep u (t9.lt X) λw m' Q=>Ne.symm ((C w m' Q).2 off n X)
   rw[J 9 Zaa Zaa,g5 9 Zaa Zaa,e3 9 Zaa]at W
   have:=t9.lt W;omega
  obtain⟨F',H',r1,⟨S,r2,r3⟩,r4,r5,r6⟩:=ih (i+1) (l++[D[i]]) U H2 Zaa (by simp;omega) O
  refine⟨F',H',nk.step (Ex.seq (Ex.seq (Ex.dm λc=>e1) (Ex.om ?_ Ex.skip)) (Ex.seq (Ex.block (Ex.dm λc=>g1)) (Ex.dm λc=>q1))) r1,⟨S,?_,r3⟩,λs T=>?_,λj L=>?_,by omega⟩
  .show get F1 64=_
   grind
  .rw[List.append_assoc]at r2;rw[List.drop_eq_getElem_cons z];exact r2
  .rw[r4 s T,J s Zaa Zaa,g5 s Zaa Zaa,e3 s Zaa]
  have:=p.len;rw[r5 j L,keep j Zaa λoff m h=>by have:=(C off m h).1;omega]
end
structure P2(t:Trace)(out:List (List Bool))(l:List bf)(F:Frame)(H:bp):Prop where
 f2:get F 2=.hptr 0 0 0
 h0:H[0]?=some (.row 1 [cells t])
 ns:∃B o ids id,nM H (get F 5) o ids (kT out)/\(out≠[]->1<=o/\o<B)/\(∀id∈ids,1<=id/\id<B)/\1<=B/\B<=H.length/\lC H (get F 7) (l.map cells) id/\∀off m,get F 7=.hsl id 2 off m->B<=id
theorem RU(out:aZ (aZ X'))(p j:Nat)(row:aZ X'):kT (out.set p (row.set j true))=(kT out).set p ((row.map V.bool).set j (.bool true)):=by simp[kT]
theorem K8{out:aZ (aZ X')}:kT out=[]↔out=[]:=by simp[kT]
theorem TH{a:bf->a_ (Sl bf)}{out:aZ (aZ X')}{y:bf}{rest:aZ bf}{w:Fw (aZ (aZ X')×aZ bf) (aZ (aZ X')) Empty}(h:pY a (out,y::rest)=some w):
 ∃(p j:Nat)(row:aZ X')(b:X'),y.proc=p/\y.index=j/\out[p]?=some row/\row[j]?=some b/\((b=true/\w=.n (out,rest))\/(b=false/\∃more,a y=some more/\rest.length+more.l.length<=2147483648/\w=.n (out.set p (row.set j true),rest++more.l))):=by
 simp only[pY]at h;split at h
 .have⟨row,h1,h⟩:=ζg.1 h;have⟨b,u,h⟩:=ζg.1 h;refine⟨y.proc.toNat,y.index.toNat,row,b,Zaa,Zaa,h1,u,?_⟩
  cases b with
  |true=>simp[bl]at h;grind|false=>
   have⟨more,z,h⟩:=ζg.1 h
   grind
 simp_all
theorem OG{E:Env}{N:Nat->Y'}{t:Z4}{f:bf->a_ (Sl bf)}(hd:E.keep (N 155)=true)(hD:IQ E N t f):∀(k:Nat)(out:aZ (aZ X'))(l:aZ bf)(D:aZ (aZ X'))(F:WP)(H:bp),
 kC (pY f) k (out,l)=some (.x D)->P2 t out l F H->∃F' H',nk E N L2 F H (.exit 2) F' H'/\P2 t D [] F' H':=by
 intro k
 induction k with
 |zero=>intro out l D F H h;simp[kC]at h|succ k ih=>
  intro out l D F H h p;have⟨B,o,ids,id,n1,n2,Y,n4,n5,t7,t8⟩:=p.ns;have⟨F1,e1,e2,e3⟩:=x8 (E:=E) (N:=N) (call:=⟨0,λ_ _ _=>none⟩) t7
  rw[List.length_map]at e2
  cases l with
  |nil=>
   simp only[kC,pY]at h;cases h;refine⟨F1,H,nk.stop (Ex.uW (Ex.seq (Ex.dm λc=>e1) (Ex.qM ?_ Ex.exit)) Zab) Zab,?_⟩
   .show get F1 35=_;rw[e2];simp
   exact⟨by rw[e3 2 Zaa];exact p.f2,p.h0,B,o,ids,id,by rw[e3 5 Zaa];exact n1,n2,Y,n4,n5,by rw[e3 7 Zaa];exact t7,by rw[e3 7 Zaa];exact t8⟩
  |cons y rest=>
   simp only[kC]at h
   cases J:pY f (out,y::rest)with
   |none=>rw[J]at h;cases h|some w=>
   rw[J]at h;have⟨q,j,row,b,hq,hj,u,hb,L⟩:=TH J;have O:lC H (get F1 7) (cells y::rest.map cells) id:=by rw[e3 7 Zaa];exact t7
   have⟨F2,g1,g2,g3⟩:=x9 (E:=E) (N:=N) (call:=⟨0,λ_ _ _=>none⟩) O
   have aa:lC (H++[.row 2 [cells y]]) (get F2 7) (cells y::rest.map cells) id:=by rw[g3 7 Zaa Zaa];exact O.more _
   have⟨r,i1,i2,⟨G,m1,ab,i3,i4⟩,K⟩:=x10 (E:=E) (N:=N) (call:=⟨0,λ_ _ _=>none⟩) aa
   have Q:(H++[Ob.row 2 [cells y]])[H.length]?=some (.row 2 [cells y]):=Zab
   have M:get r 8=.hptr H.length 0 0:=by rw[K 8 Zaa Zaa];exact g2
   have f5:get r 5=get F 5:=by rw[K 5 Zaa Zaa,g3 5 Zaa Zaa,e3 5 Zaa]
   have P:get r 2=.hptr 0 0 0:=by rw[K 2 Zaa Zaa,g3 2 Zaa Zaa,e3 2 Zaa];exact p.f2
   have S:nM (H++[.row 2 [cells y]]) (get r 5) o ids (kT out):=by rw[f5];exact n1.more _
   have hr:(kT out)[q]?=some (row.map V.bool):=by simp[kT,u]
   have hu:(row.map V.bool)[j]?=some (.bool b):=by simp[hb]
   have T:B<=id:=by have:get F 7=.hsl id 2 G m1:=(by rw[<-i3,g3 7 Zaa Zaa,e3 7 Zaa]);exact t8 _ _ this
   have⟨R,j1,j2,z⟩:=YY (E:=E) (N:=N) (call:=⟨0,λ_ _ _=>none⟩) M Q S hq hj hr hu
   have ad:bz N F1 (.s 35)=.bool true:=by show get F1 35=_;rw[e2];simp
   rcases L with⟨rfl,rfl⟩|⟨rfl,more,v,aq,rfl⟩
   .simp only at h;have U:P2 t out rest R (H++[.row 2 [cells y]]):=by
     refine⟨by rw[z 2 Zaa];exact P,by rw[List.getElem?_append_left (ζe.1 p.h0).1];exact p.h0,B,o,ids,id,by rw[z 5 Zaa];exact S,n2,Y,n4,by simp;omega,by rw[z 7 Zaa];exact i2,λoff m _=>T⟩
    have⟨F',H',r1,r2⟩:=ih out rest D R _ h U;exact⟨F',H',nk.step (Ex.seq (Ex.seq (Ex.dm λc=>e1) (Ex.om ad Ex.skip)) (Ex.vT (Ex.seq (Ex.dm λc=>g1) (Ex.seq (Ex.dm λc=>i1) (Ex.uW (Ex.seq (Ex.qO rfl λc=>j1) (Ex.om j2 Ex.exit)) Zab))))) r1,r2⟩
   simp only at h;have n6:nM (H++[.row 2 [cells y]]) (get R 5) o ids (kT out):=by rw[z 5 Zaa];exact S
   have⟨F5,C,k1,k2,k3,k4,k5⟩:=x12 (E:=E) (N:=N) (call:=⟨0,λ_ _ _=>none⟩) (by rw[z 8 Zaa];exact M) Q n6 hq hj hr hu
   have I:∀i,B<=i->i∉ids:=λi hi v=>by have:=(Y i v).2;omega
   have ah:C[H.length]?=some (.row 2 [cells y]):=by rw[k4 _ (I _ n5)];exact Q
   have W:C[0]?=some (.row 1 [cells t]):=by rw[k4 0 (λv=>by have:=(Y 0 v).1;omega),List.getElem?_append_left (ζe.1 p.h0).1];exact p.h0
   have⟨w9,X,ai,aj,m2,m3,_⟩:=x13 (a:=0) (d:=0) (F:=F5) hd hD v (by rw[k5 2 Zaa,z 2 Zaa];exact P) W ah
   have⟨Z,⟨nn,ak⟩,ae,o3⟩:=m3 (by rw[k5 8 Zaa,z 8 Zaa];exact M)
   have au:C.length=H.length+1:=by rw[k3];simp
   have i7:get Z 7=.hsl id 2 ab (rest.map cells).length:=by rw[o3 7 Zaa Zaa,k5 7 Zaa,z 7 Zaa];exact i4
   have ar:id<H.length:=by have:=O.lt (off:=G) (m:=m1) (by rw[<-i3,g3 7 Zaa Zaa]);exact this
   have t6:lC (C++X) (get Z 7) (rest.map cells) id:=by have:get Z 7=get r 7:=(by rw[o3 7 Zaa Zaa,k5 7 Zaa,z 7 Zaa]);rw[this];refine(i2.heap (H':=C) λoff n _=>k4 id (I id T)).more X
   have al:∃g,(∀c,cM E N c none E7 Z (C++X)=some (g,C++X))/\get g 10=.int .i64 ((0:Nat):Int)/\∀s,s<10->get g s=get Z s:=⟨set Z 10 (.int .i64 0),λc=>by simp[E7,cM,bK,bz,bq,bu],Zab,λs hs=>by rw[bA,if_neg Zaa]⟩
   have⟨g,u1,u2,x⟩:=al;have am:P3 (rest.map cells) (more.l.map cells) B 0 g (C++X):=by refine⟨u2,⟨ai,by rw[x 9 Zaa,ae];exact aj,id,by rw[x 7 Zaa];exact t6,λoff m hh=>⟨T,λaf m' h'=>?_⟩⟩,by simp;omega⟩;rw[x 9 Zaa,ae]at h';have:=m2 af m' h';omega
   have⟨A,H8,v1,⟨an,v2,v3⟩,v4,v5,v6⟩:=ZQ (E:=E) (N:=N) (more.l.map cells) B (by simp;omega) (more.l.map cells).length 0 (rest.map cells) g (C++X) Zaa (by simp;omega) am
   have ao:nM H8 (get A 5) o ids (kT (out.set q (row.set j true))):=by have h5:get A 5=get F5 5:=(by rw[v4 5 Zaa,x 5 Zaa,o3 5 Zaa Zaa]);rw[h5,RU];refine(k2.more X).heap (λap=>v5 o ?_) λi hi=>v5 i (Y i hi).2;have:out≠[]:=(by intro e;subst e;simp at u);exact(n2 this).2
   have U:P2 t (out.set q (row.set j true)) (rest++more.l) A H8:=by refine⟨by rw[v4 2 Zaa,x 2 Zaa,o3 2 Zaa Zaa,k5 2 Zaa,z 2 Zaa];exact P,?_,B,o,ids,an,ao,λap=>n2 (by intro e;subst e;simp at u),Y,n4,by simp at v6;omega,?_,v3⟩;rw[v5 0 Zaa,List.getElem?_append_left (ζe.1 W).1];exact W;rw[List.drop_zero]at v2;rw[map_append];exact v2
   have⟨F',H',w1,w2⟩:=ih _ _ D A H8 h U;exact⟨F',H',nk.step (Ex.seq (Ex.seq (Ex.dm λc=>e1) (Ex.om ad Ex.skip)) (Ex.block (Ex.seq (Ex.dm λc=>g1) (Ex.seq (Ex.dm λc=>i1) (Ex.seq (Ex.seq (Ex.qO rfl λc=>j1) (Ex.qM j2 Ex.skip)) (Ex.seq (Ex.qO rfl λc=>k1)
    (Ex.seq (Ex.ops ⟨nn,ak⟩) (Ex.seq (Ex.dm u1) (Ex.vT (Ex.loop v1)))))))))) w1,w2⟩
theorem UT{H:bp}{Z:Nat->Prop}{id:Nat}{r:aZ X'}(D:Z id)(h:H[id]?=some (.row 1 (jJ (r.map V.bool)))):FR H Z (enc (Sl.row r)) (.hsl id 1 0 r.length):=by
 have e:bt H id=some (1,jJ (r.map V.bool)):=by simp[bt,h,Ob.rows]
 have C:enc (Sl.row r)=.fsl 1 (rows r):=rfl;have G:(rows r).length=r.length:=by simp[rows]
 have f:jJ (r.map V.bool)=rows r:=by simp[jJ,rows,Function.comp_def]
 rw[f]at e;rw[C,<-G];refine .fsl 1 (rows r) id 0 (rows r) D e Zaa (λi a b d w=>?_) (λi j a b u v d w z B=>?_);grind;rw[zero_add,d]at w;cases w;rw[z]at B;cases B;refine .same u ?_;obtain⟨c,I,rfl⟩:∃c∈r,a=[V.bool c]:=by have:=mem_of_getElem? d;simp only[rows,mem_map]at this;obtain⟨c,f,rfl⟩:=this;simp_all
 have:=mem_of_getElem? z;simp at this;subst this;rfl
theorem RP{H:bp}{w:V}{o:Nat}{ids:S'}{out:aZ (aZ X')}(n:nM H w o ids (kT out)):∃Z,FR H Z (enc (nested out)) w/\(∀id,Z id->(bt H id).isSome=true)/\Deep H Z:=by
 have f:=n.v;by_cases O:out=[];subst O;rw[if_pos (show kT []=[]from rfl)]at f;subst f;exact⟨λ_=>False,.same _ rfl,λ_ h=>h.elim,⟨λ_ _ _ h=>h.elim⟩⟩;have G:kT out≠[]:=λh=>O (K8.1 h);rw[if_neg G,ya]at f;subst f;have Q:=n.ob G;have I:=n.len;rw[ya]at I;have B:∀(i id:Nat)(r:aZ X'),ids[i]?=some id->out[i]?=some r->H[id]?=some (.row 1 (jJ (r.map V.bool))):=λi id r e D=>n.r i id _ e (by simp[kT,D]);have C:∀(i:Nat)(c:T2),(refs ids (kT out))[i]?=some c->∃id r,ids[i]?=some id/\out[i]?=some r/\c=[.hsl id 1 0 r.length]:=λi c h=>by have hi:=(ζe.1 h).1;rw[uU n.len,ya]at hi;have e:=ζd (show i<ids.length from Zaa);have D:=ζd hi;have S:=DY (rows:=kT out) (r:=out[i].map V.bool) e (by simp[kT,D]);grind
 have J:bt H o=some (1,refs ids (kT out)):=by simp[bt,Q,Ob.rows]
 have L:∀id∈ids,∃(r:aZ X'),H[id]?=some (.row 1 (jJ (r.map V.bool))):=λid z=>by have⟨i,hi⟩:=List.getElem?_of_mem z;have T:=(ζe.1 hi).1;exact⟨_,B i id _ hi (ζd (show i<out.length from Zaa))⟩
 refine⟨λid=>id=o\/id∈ids,?_,λid h=>?_,⟨λid es ys h d c hc u hu=>?_⟩⟩;have Y:enc (nested out)=.fsl 1 (rows (out.map Sl.row)):=by rw[nested,if_neg O];rfl
 have T:(rows (out.map Sl.row)).length=out.length:=by simp[rows]
 rw[Y,<-T];refine .fsl 1 _ o 0 (refs ids (kT out)) (.inl rfl) J (by rw[T,uU n.len,ya];omega) (λi a b e D=>?_) (λi j a b u v e D S X=>?_);rw[zero_add]at D;obtain⟨id,r,_,d,rfl⟩:=C i b D;simp[rows,d]at e;subst e;rfl;rw[zero_add]at D;obtain⟨id,r,z,d,rfl⟩:=C i b D;have g:a=[enc (Sl.row r)]:=by simp[rows,d]at e;exact e.symm
 subst g;cases j with|zero=>simp at S X;subst S X;exact UT (.inr (mem_of_getElem? z)) (B i id r z d)|succ j=>simp_all
 rcases h with rfl|h;simp_all;have⟨r,d⟩:=L id h;simp[bt,d,Ob.rows];rcases h with rfl|h;rw[J]at d;cases d;have⟨i,hi⟩:=List.getElem?_of_mem hc;obtain⟨id,r,z,U,rfl⟩:=C i c hi;simp at hu;subst hu;exact⟨_,UT (.inr (mem_of_getElem? z)) (B i id r z U)⟩;have⟨r,W⟩:=L id h;have:bt H id=some (1,jJ (r.map V.bool)):=by simp[bt,W,Ob.rows]
 rw[this]at d;cases d;simp only[jJ,mem_map]at hc;obtain⟨_,⟨c',_,rfl⟩,rfl⟩:=hc;simp at hu;subst hu;exact⟨_,.same _ rfl⟩
theorem W0{t:Z4}{x:bf}{out:aZ (aZ X')}{s:Sl bf}{b:bf->a_ (Sl bf)}(hd:ye.keep (yF 155)=true)(W:IQ ye yF t b)(U:BB t=true)(f:b x=some s)(g:bW (pY b) (iu t,s.l)=some (.x out)):
 Ba ye (yF 114) [enc t,enc x] (enc (nested out)):=by
 have⟨fi,g1,g2,g3,g4⟩:=shape;have⟨k,j⟩:=pW.1 g;have l:∃F1,(∀c,cM ye yF c none r1 [enc t,enc x] []=some (F1,[.row 1 [cells t],.row 2 [cells x]]))/\get F1 2=.hptr 0 0 0/\get F1 3=.hptr 1 0 0:=by refine⟨_,λc=>kF (v:=.hptr 0 0 0) (H1:=[.row 1 [cells t]]) rfl ?_<|kF (v:=.hptr 1 0 0) (H1:=[.row 1 [cells t],.row 2 [cells x]]) rfl ?_<|vp (v:=.bO) rfl ?_ eC,?_,?_⟩;show(iX .box [enc t]).map _=_;simp only[iX,me,rM,if_true,Option.map_some,gL];rfl;simp only[bK,map_cons,map_nil,bz,bu,bA,reduceEqDiff,if_false];show(iX .box [enc x]).map _=_;simp only[iX,me,rM,if_true,Option.map_some,gL];rfl;simp[bK,bz,bq];simp[bu];simp[bu]
 have⟨F1,p,q,r⟩:=l;have y:∃I,(∀c,cM ye yF c none r2 F1 [.row 1 [cells t],.row 2 [cells x]]=some (set F1 5 .bO,[.row 1 [cells t],.row 2 [cells x]]))/\(∀c,cM ye yF c none r3 (set F1 5 .bO) [.row 1 [cells t],.row 2 [cells x]]=some (I,[.row 1 [cells t],.row 2 [cells x]]))/\P1 t x 0 I [.row 1 [cells t],.row 2 [cells x]]:=by refine⟨set (set F1 5 .bO) 6 (.int .i64 0),λc=>by simp[r2,cM,bK,bz,bq,bu],λc=>by simp[r3,cM,bK,bz,bq,bu],by simp[q],by simp[r],Zab,rfl,rfl,0,[],?_,λh=>absurd rfl h,λid h=>by simp at h⟩;have:get (set (set F1 5 .bO) 6 (.int .i64 0)) 5=.bO:=Zab;rw[this,List.take_zero];exact nM.nil _ 0
 have⟨I,A,H,K⟩:=y;have⟨M,Q,e1,e2⟩:=O1 (E:=ye) (N:=yF) U t.procs.l.length 0 I _ Zaa K
 have⟨o,ids,J,P,R⟩:=e2.ns;have S:(iu t).length=t.procs.l.length:=by simp[iu]
 rw[List.take_of_length_le Zaa]at J
 have⟨w,X,id,m1,m2,_,m4⟩:=x13 (a:=0) (d:=0) (F:=M) (E:=ye) (N:=yF) hd W f e2.f2 e2.h0 (c:=1) e2.h1;have⟨T,o1,o2,o3⟩:=m4 e2.f3;have O:P2 t (iu t) s.l T (Q++X):=by refine⟨by rw[o3 2 Zaa Zaa];exact e2.f2,by rw[List.getElem?_append_left (ζe.1 e2.h0).1];exact e2.h0,Q.length,o,ids,id,by rw[o3 5 Zaa Zaa];exact J.more X,λu=>?_,λi hi=>⟨by have:=R i hi;omega,J.lt.2 i hi⟩,?_,Zab,by rw[o2];exact m1,λoff m h=>?_⟩;have z:kT (iu t)≠[]:=λh=>u (K8.1 h);have:t.procs.l.length≠0:=(by intro h;apply u;exact List.eq_nil_of_length_eq_zero Zaa);have:=P this;exact⟨Zaa,J.lt.1 z⟩;have:=(ζe.1 e2.h0).1;omega;rw[o2]at h;have:=m2 off m h;omega
 have⟨C,L,p1,p2⟩:=OG hd W k _ _ out T _ j O;have⟨B,o',Y,aa,V,_⟩:=p2.ns;have l1:∃D,(∀c,cM ye yF c none r18 C L=some (D,L))/\get D 4=get C 5:=by refine⟨_,λc=>vp (v:=get C 5) rfl ?_<|vp (v:=get C 5) rfl ?_ eC,?_⟩;simp[bK,bz,bq];simp[bK,bz,bq,bu];simp[bu]
 have⟨D,y1,y2⟩:=l1;have e:Ex ye yF code [enc t,enc x] [] .ret D L:=Ex.seq (Ex.dm p) (Ex.seq (Ex.dm A) (Ex.seq (Ex.seq (Ex.dm H) (Ex.vT (Ex.loop e1))) (Ex.seq (Ex.ops o1) (Ex.seq (Ex.vT (Ex.loop p1)) (Ex.seq (Ex.dm y1) Ex.ret)))))
 have⟨n,G⟩:=e.run (nm:=some) xx g1 g2 (show[enc t,enc x].length<=fi.ntmps from g3) (vs:=[get D 4]) (by rw[g4];rfl)
 have⟨Z,z1,z2,z3⟩:=RP V;exact⟨n,get C 5,L,Z,by rw[G,y2];rfl,z1,z2,z3⟩
theorem XY(l:aZ bf):∀c∈l.map (cells (α:=bf)),c.length=2/\c.all V.one=true/\c.all V.scalar=true:=λc a=>by obtain⟨e,_,rfl⟩:=mem_map.1 a;exact⟨rfl,rfl,rfl⟩
theorem ZX(t:Z4):IQ ye yF t (en t):=by
 intro y s H B;have d:=A7 t y;have I:=d (cK s) (by rw[B];rfl);have b:V.cI [enc t,enc y]=true:=by simp only[V.cI,kf,Bool.and_self]
 have w:s.k=.row\/s.k=.nil/\rows s.l=[]:=by have D:∀o z,(∃l,o=.row l)\/o=.nil->en.J1 o t y=some z->(∃l,z=.row l)\/z=.nil:=λo z J u=>(by unfold en.J1 at u;have⟨e,_,u⟩:=ζg.1 u;cases G:e.kind==3 with|true=>rw[G]at u;have⟨f,_,u⟩:=ζg.1 u;have⟨q,C,u⟩:=ζg.1 u;cases u;unfold gC at C;split at C;cases C;exact .inl ⟨_,rfl⟩;cases C|false=>rw[G]at u;cases u;exact J);have:(∃l,s=.row l)\/s=.nil:=(by unfold en at B;cases a:decide (y.index>1)with|true=>rw[a]at B;exact D _ s (.inl ⟨_,rfl⟩) B|false=>rw[a]at B;exact D _ s (.inr rfl) B);rcases this with⟨l,rfl⟩|rfl;exact .inl rfl;exact .inr ⟨rfl,rfl⟩
 have⟨n,z,H',r1,r2⟩:=XO IV CW (T:=Tx) (f:=yF 155) (rf:=sw (Tx 155)) Zae b (Nat.le_of_ble_eq_true Zae) (k:=s.k) (es:=2) (xs:=rows s.l) (λc a=>(XY s.l c a).2.2) w I;refine KH (l:=s.l.map cells) (y:=z) (H1:=H') Zae b (XY s.l) ⟨n,λk g=>(pE _ g).go _ _ _ _ r1⟩ ?_ H;rcases r2 with⟨L,rfl⟩|⟨id,rfl,O⟩;left;cases s<;>simp[Sl.k]at L;exact⟨rfl,rfl⟩;right;exact⟨id,by simp[rows],O⟩
end pastX
theorem SK(t:Z4)(x:bf)(r:Sl (Sl X'))(h:oP t x=some r):Sy.yV 114 [enc t,enc x]=some (enc r):=by
 unfold oP at h;split at h;rename_i u;have⟨s,z,h⟩:=ζg.1 h;have⟨w,B,h⟩:=ζg.1 h;cases w with|n a=>exact elim a|r e=>exact elim e|x out=>cases h;exact BI (pastX.W0 Zae (pastX.ZX t) u z B)
 cases h
noncomputable section
def xY:a_ X':=some true
instance Wq:Fc Sy cL xY:=⟨10,[],λr:X'=>[.bool r],true,h_.yV Zae Zae Q9⟩
namespace gF
def br(s0:Sl WF)(D:Int)(B:Int)(p1:WF->a_ X'):a_ (Fw Int Unit Int):=bl (decide (B<D)) ((idx s0 B).bind λu=>(p1 u).bind λw=>bl w (some (.r B)) (some (.n (wrap .i64 (B+1))))) (some (.x ()))
def W1(s0:Sl WF)(B D:Int)(p1:WF->a_ X'):QQ:=(bW (λq:Int=>br s0 B q p1) D).bind (Fw.elim (λe=>some (-1)) (λe=>some e))
end gF
def gF(s0:Sl WF)(p1:WF->a_ X'):QQ:=gF.W1 s0 (len s0) 0 p1
open gF in
abbrev xK(g1:FuncId)(e1:aZ V)(p1:Event->a_ Bool)(a:kH Sy cL g1 [] e1 (λz:Event=>[enc z]) (λr:Bool=>[.bool r]) p1 true)(s0:Sl Event):Fc Sy cL (gF s0 p1):=Fc.M 118 [enc s0,.clo g1 [] e1] (b7 9 s0 (eo 5 (λw=>(bL [Cv 0 s0,(1,.v (.clo g1 [] e1)),Iv 7 (len s0),Iv 8 w] [])) (λu=>(0,(bL [] []))) (λu=>(bL [Iv 4 u] [])) (λw=>bB 7 9 (bQ 16 λB _=>wQ 1 a.f B λC _=>bB 2 16 bh bh) bh) (λu=>bh) (λu=>bh)))
def gH(s0:Sl WF)(p1:WF->a_ X'):a_ X':=(gF s0 p1).bind λu=>some (decide (u>=0))
abbrev mg(g1:FuncId)(e1:aZ V)(p1:Event->a_ Bool)(a:kH Sy cL g1 [] e1 (λz:Event=>[enc z]) (λr:Bool=>[.bool r]) p1 true)(s0:Sl Event):Fc Sy cL (gH s0 p1):=Fc.M 79 [enc s0,.clo g1 [] e1] (bG (F:=xK g1 e1 p1 a s0) 9 λu _=>bh)
def qI(B:WF):a_ X':=some (decide ((len B.assign)>12))
instance RJ(B:WF):Fc Sy cL (qI B):=Fc.M 80 [enc B] (ct 2 1 B (b7 7 B.assign bh))
def qi(B:Int):a_ X':=(bl (decide (B>=65)) (some (decide (B<=90))) (some false):a_ X').bind λu=>(bl u (some true) ((bl (decide (B>=97)) (some (decide (B<=122))) (some false):a_ X').bind λw=>some w):a_ X').bind λz=>some z
instance UI(B:Int):Fc Sy cL (qi B):=Fc.M 194 [.int .u8 B] (cg 10 3 [5] 8 (bB 10 5 (bH 3) (bH 3)) λu=>cg 1 7 [0,9] 16 (bB 1 9 (bH 7) (cg 3 3 [0,12] 15 (bB 3 12 (bH 3) (bH 3)) λw=>bH 1)) λz=>bh)
def tX(B:Int):a_ X':=(bl (decide (B>=48)) (some (decide (B<=57))) (some false):a_ X').bind λu=>some u
instance Ww(B:Int):Fc Sy cL (tX B):=Fc.M 195 [.int .u8 B] (cg 10 3 [0,5] 8 (bB 10 5 (bH 3) (bH 3)) λu=>bh)
namespace iJ
def br(s0:U')(i3:Int):a_ (Fw Int Unit Unit):=bl (decide (i3<((ByteArray.size s0:Nat):Int))) ((mj s0 i3).bind λz=>(qi z).bind λB=>(bl B (some false) ((mj s0 i3).bind λC=>(tX C).bind λD=>some (!D)):a_ X').bind λG=>(bl G ((mj s0 i3).bind λu=>some (!(u==95))) (some false):a_ X').bind λw=>bl w (some (.r ())) (some (.n (wrap .i64 (i3+1))))) (some (.x ()))
def W1(s0:U')(i3:Int):a_ X':=(bW (λq:Int=>br s0 q) i3).bind (Fw.elim (λe=>some true) (λe=>some false))
end iJ
def iJ(s0:U'):a_ X':=(bl (decide (((ByteArray.size s0:Nat):Int)<1)) (some true) (some (decide (((ByteArray.size s0:Nat):Int)>16))):a_ X').bind λu=>(bl u (some true) ((mj s0 0).bind λw=>(qi w).bind λz=>some (!z)):a_ X').bind λB=>bl B (some false) (iJ.W1 s0 1)
open iJ in
instance Xs(s0:U'):Fc Sy cL (iJ s0):=Fc.M 152 [.str s0] (cg 12 4 [7] 11 (bB 12 7 (bH 4) (bH 4)) λC=>cg 1 5 [12] 17 (bB 1 12 (bH 5) (Cl 1 .i64 λD _=>bG 0 λG _=>bH 2)) λI=>bB 2 17 bh (eo 11 (λw=>(bL [(0,.v (.str s0)),Iv 3 w] [])) (λu=>(0,(bL [] []))) (λu=>(bL [Bv 2 false] [])) (λw=>bB 10 21 (Cl 9 .i64 λJ _=>bG 0 λL _=>cg 2 6 [29] 35 (dB 2 29 (bH 6) (Cl 2 .i64 λO _=>bG 0 λQ _=>bH 2)) λS=>cg 1 5 [36] 41 (bB 1 36 (Cl 2 .i64 λz _=>bH 2) (bH 5)) λB=>bB 2 41 bh bh) bh) (λu=>bh) (λu=>bh)))
def qV(B:Int):a_ X':=(bl (decide (B>=(-1073741824))) (some (decide (B<=1073741824))) (some false):a_ X').bind λu=>some u
instance WY(B:Int):Fc Sy cL (qV B):=Fc.M 153 [.int .i64 B] (cg 10 3 [0,5] 8 (bB 10 5 (bH 3) (bH 3)) λu=>bh)
namespace eO
def eM(G:Int)(B:bX)(D:Int):a_ (Fw Int Unit Unit):=bl (decide (D<G)) ((idx B.vars D).bind λu=>(idx B.vars G).bind λw=>bl (toList u.name==toList w.name) (some (.r ())) (some (.n (wrap .i64 (D+1))))) (some (.x ()))
def W3(D G:Int)(B:bX):a_ (Fw Int Unit Int):=(bW (λq:Int=>eM D B q) G).bind (Fw.elim (λe=>(idx B.vars D).bind λu=>(qV u.init_).bind λw=>bl w (some (.n (wrap .i64 (D+1)))) (some (.r 2))) (λe=>some (.r 13)))
def bP(B:bX)(D:Int):a_ (Fw Int Unit Int):=bl (decide (D<(len B.vars))) ((idx B.vars D).bind λu=>(iJ u.name).bind λw=>bl w (W3 D 0 B) (some (.r 13))) (some (.x ()))
def W2(D:Int)(B:bX):QQ:=(bW (λq:Int=>bP B q) D).bind (Fw.elim (λe=>bl (decide ((len B.events)>64)) (some 5) (some 0)) (λe=>some e))
def br(p1:Int)(B:Z4)(D:bX)(G:Int):a_ (Fw Int Unit Unit):=bl (decide (G<p1)) ((idx B.procs G).bind λu=>bl (toList u.name==toList D.name) (some (.r ())) (some (.n (wrap .i64 (G+1))))) (some (.x ()))
def W1(p1 G:Int)(D:Z4)(B:bX):QQ:=(bW (λq:Int=>br p1 D B q) G).bind (Fw.elim (λe=>bl (decide ((len B.vars)>8)) (some 5) (eO.W2 0 B)) (λe=>some 13))
end eO
def eO(B:Z4)(p1:Int):QQ:=(idx B.procs p1).bind λu=>(iJ u.name).bind λw=>bl w (eO.W1 p1 0 B u) (some 13)
open eO in
instance XJ(J:Z4)(p1:Int):Fc Sy cL (eO J p1):=Fc.M 110 [enc J,.int .i64 p1] (ct 2 2 J (bQ 8 λu _=>oQ 2 5 0 u (bG 7 λI _=>dB 3 17 (eo 11 (λD=>(bL [Iv 1 p1,Pv 2,Pv 5,Iv 6 D] [Xb 2 J,Xb 5 u])) (λB=>(0,(bL [Pv 5] [Xb 5 u]))) (λB=>(bL [Iv 4 13] [])) (λD=>bB 9 20 (bQ 10 λL _=>bB 7 31 bh bh) bh) (λB=>b7 7 u.vars (bB 3 35 bh (eo 11 (λw=>(bL [Pv 5,Iv 7 w] [Xb 5 u])) (λz=>(2,(bL [Pv 5] [Xb 5 u]))) (λz=>(bL [Iv 4 z] [])) (λw=>b7 7 u.vars (bB 3 40 (bQ 11 λO _=>bG 2 λQ _=>dB 3 50 (eo 11 (λG=>(bL [Pv 5,Iv 7 w,Iv 8 G] [Xb 5 u])) (λC=>(4,(bL [Pv 5,Iv 7 w] [Xb 5 u]))) (λC=>(bL [Iv 4 13] [])) (λG=>bB 9 53 (bQ 10 λS _=>bQ 5 λT _=>bB 5 68 bh bh) bh) (λC=>bQ 7 λU _=>bG 2 λW _=>dB 3 76 bh bh) (λC=>bh)) bh) bh)) (λz=>b7 7 u.events (bB 3 80 bh bh)) (λz=>bh)))) (λB=>bh)) bh)))
namespace eR
def eM(p1 k8:Int)(J:Z4)(D:WF)(G:Assign)(B:Int):a_ (Fw Int Unit Unit):=bl (decide (B<k8)) ((idx D.assign B).bind λu=>bl (u.var==G.var) (some (.r ())) (some (.n (wrap .i64 (B+1))))) (some (.x ()))
def W3(p1 k8 B:Int)(D:Z4)(G:WF)(J:Assign):a_ (Fw Int Unit Int):=(bW (λq:Int=>eM p1 k8 D G J q) B).bind (Fw.elim (λe=>some (.n (wrap .i64 (k8+1)))) (λe=>some (.r 8)))
def bP(p1:Int)(D:Z4)(B:WF)(k8:Int):a_ (Fw Int Unit Int):=bl (decide (k8<(len B.assign))) ((idx B.assign k8).bind λu=>(bl (decide (u.var<0)) (some true) ((idx D.procs p1).bind λw=>some (decide (u.var>=(len w.vars)))):a_ X').bind λz=>(bl z (some true) ((qV u.value).bind λC=>some (!C)):a_ X').bind λG=>bl G (some (.r 2)) (W3 p1 k8 0 D B u)) (some (.x ()))
def W2(p1 k8:Int)(B:Z4)(D:WF):QQ:=(bW (λq:Int=>bP p1 B D q) k8).bind (Fw.elim (λe=>some 0) (λe=>some e))
def J1(p1 i2:Int)(D:Z4)(B:WF):QQ:=(bl (decide (B.time<0)) (some true) (some (decide (B.time>1099511627776))):a_ X').bind λu=>(bl u (some true) ((bl (decide (i2>0)) ((idx D.procs p1).bind λw=>(idx w.events (wrap .i64 (i2-1))).bind λz=>some (decide (B.time<z.time))) (some false):a_ X').bind λC=>some C):a_ X').bind λG=>bl G (some 11) (bl (decide ((len B.assign)>8)) (some 5) (eR.W2 p1 0 D B))
theorem qP(p1 i2:Int)(D:Z4)(B:WF):Le ((J1 p1 i2 D B).bind (λr=>some [.int .i64 r])) (b_ Sy cL (q_ (tr Tx 111)) (uI (tb Tx 111) [1,1,1,0] [] (bL [Iv 1 p1,Iv 2 i2,Pv 3,Pv 7] [Xb 3 D,Xb 7 B]))):=cg 7 4 [71] 75 (bB 7 71 (bH 4) (bH 4)) λL=>cg 1 19 [2,76] 95 (bB 1 76 (bH 19) (cg 3 15 [2,79] 94 (bB 3 79 (bQ 5 λO _=>bQ 4 λQ _=>bH 4) (bH 15)) λS=>bH 1)) λT=>bB 2 95 bh (b7 8 B.assign (bB 3 99 bh (eo 11 (λu=>(bL [Iv 1 p1,Pv 3,Pv 7,Iv 8 u] [Xb 3 D,Xb 7 B])) (λw=>(0,(bL [] []))) (λw=>(bL [Iv 6 w] [])) (λu=>b7 7 B.assign (bB 3 104 (bQ 10 λz _=>cg 12 11 [115] 126 (bB 12 115 (bH 11) (bQ 5 λI _=>b7 2 I.vars (bH 2))) λU=>yI 1 5 [130] (λC=>(bL [Iv 1 p1,Pv 3,Pv 7,Iv 8 u,Bv 104 true,Pv 9,Bv 132 C] [Xb 3 D,Xb 7 B,Xb 9 z])) (bB 1 127 (bH 5) (cZ 2 λW _=>bH 2)) λC=>bB 2 132 bh (eo 10 (λJ=>(bL [Iv 1 p1,Pv 3,Pv 7,Iv 8 u,Pv 9,Iv 10 J] [Xb 3 D,Xb 7 B,Xb 9 z])) (λG=>(2,(bL [Iv 1 p1,Pv 3,Pv 7,Iv 8 u] [Xb 3 D,Xb 7 B]))) (λG=>(bL [Iv 6 8] [])) (λJ=>bB 9 135 (bQ 10 λX _=>bB 7 146 bh bh) bh) (λG=>bh) (λG=>bh))) bh)) (λw=>bh) (λw=>bh))))
end eR
def eR(B:Z4)(p1 i2:Int):QQ:=(idx B.procs p1).bind λw=>(idx w.events i2).bind λu=>bl (u.kind==1) ((bl (u.peer==0) (some (!(u.message==0))) (some true):a_ X').bind λz=>bl z (some 3) (eR.J1 p1 i2 B u)) ((bl (u.kind==2) (some false) (some (!(u.kind==3))):a_ X').bind λC=>(bl C (some true) (some (decide (u.peer<0))):a_ X').bind λD=>(bl D (some true) (some (decide (u.peer>=(len B.procs)))):a_ X').bind λG=>(bl G (some true) (some (u.peer==p1)):a_ X').bind λI=>(bl I (some true) (some (decide (u.message<0))):a_ X').bind λJ=>(bl J (some true) (some (decide (u.message>199))):a_ X').bind λL=>bl L (some 3) (eR.J1 p1 i2 B u))
open eR in
instance XC(B:Z4)(p1 i2:Int):Fc Sy cL (eR B p1 i2):=Fc.M 111 [enc B,.int .i64 p1,.int .i64 i2] (ct 2 3 B (bQ 8 λw _=>bQ 3 λu _=>oQ 2 7 0 u (bB 10 22 (cg 7 4 [26] 30 (dB 7 26 (bH 4) (bH 4)) λz=>bB 2 30 bh (y8 4 (qP p1 i2 B u))) (cg 7 4 [34] 38 (dB 7 34 (bH 4) (bH 4)) λC=>cg 1 4 [39] 43 (bB 1 39 (bH 4) (bH 4)) λD=>cg 1 7 [44] 51 (bB 1 44 (bH 7) (b7 4 B.procs (bH 2))) λG=>cg 1 5 [52] 57 (bB 1 52 (bH 5) (bH 5)) λI=>cg 1 4 [58] 62 (bB 1 58 (bH 4) (bH 4)) λJ=>cg 1 4 [63] 67 (bB 1 63 (bH 4) (bH 4)) λL=>bB 2 67 bh (y8 4 (qP p1 i2 B u))))))
namespace ji
def br(G:Z4)(J:bf)(D:WF)(B:X')(U:Int):a_ (Fw (X'×Int) Bool Empty):=(idx G.procs D.peer).bind λw=>bl (decide (U<(len w.events))) ((idx G.procs D.peer).bind λz=>(idx z.events U).bind λu=>(bl B (some true) ((bl (u.kind==2) (some (u.message==D.message)) (some false):a_ X').bind λC=>(bl C (some (u.peer==J.proc)) (some false):a_ X').bind λI=>some I):a_ X').bind λL=>some (.n (L,wrap .i64 (U+1)))) (some (.x B))
def W1(B:X')(U:Int)(D:Z4)(G:bf)(J:WF):QQ:=(bW (λq:X'×Int=>br D G J q.1 q.2) (B,U)).bind (Fw.elim (λe=>bl e (some 0) (some 7)) (λe=>elim e))
end ji
def ji(B:Z4)(D:bf):QQ:=(vP B D).bind λu=>bl (u.kind==1) (some 0) ((ez B u.kind u.message).bind λw=>bl (Ml w D) (bl (u.kind==3) (ji.W1 false 0 B D u) (some 0)) (some 8))
open ji in
instance Un(B:Z4)(D:bf):Fc Sy cL (ji B D):=Fc.M 112 [enc B,enc D] (ct 2 2 B (bG 8 λw _=>oQ 1 5 0 w (bB 10 14 bh (cZ 11 λI _=>dB 4 22 (bB 11 25 (fH 14 (λu=>(bL [Pv 2,Pv 3,Pv 5,Bv 6 u.1,Iv 7 u.2] [Xb 2 B,Xb 3 D,Xb 5 w])) (λz=>(0,(bL [Bv 6 z] []))) (λu=>bQ 9 λC _=>b7 2 C.events (bB 3 35 (bQ 11 λJ _=>bQ 3 λG _=>oQ 2 8 0 G (cg 5 18 [8,49] 67 (bB 5 49 (bH 18) (cg 4 6 [53] 59 (bB 4 53 (bH 6) (bH 6)) λL=>cg 1 6 [8,60] 66 (bB 1 60 (bH 6) (bH 6)) λO=>bH 1)) λQ=>bh)) bh)) (λz=>dB 8 69 bh bh)) bh) bh))))
namespace e9
def J4(B:Zg)(p5:Int)(D:Z4):a_ (Fw ((Zg)×X') ((Zg)×X') Empty):=(Sl.jc B p5).bind λu=>(Sl.get B u).bind λw=>(Sl.jc B p5).bind λz=>(Sl.put B z (wrap .i64 (w+1):Int)).bind λC=>some (.n (C,true))
def eM(p5:Int)(G:Z4)(B:Zg)(D:X'):a_ (Fw ((Zg)×X') ((Zg)×X') Empty):=(Sl.jc B p5).bind λI=>(Sl.get B I).bind λJ=>(idx G.procs p5).bind λL=>bl (decide (J<(len L.events))) ((idx G.procs p5).bind λO=>(Sl.jc B p5).bind λQ=>(Sl.get B Q).bind λS=>(idx O.events S).bind λu=>bl (u.kind==3) ((ez G 2 u.message).bind λw=>(Sl.jc B w.proc).bind λz=>(Sl.get B z).bind λC=>bl (decide (C<w.index)) (some (.x (B,D))) (J4 B p5 G)) (J4 B p5 G)) (some (.x (B,D)))
def W3(D:Zg)(B:X')(p5:Int)(G:Z4):a_ (Fw ((Zg)×X'×Int) ((Zg)×X') Empty):=(bW (λq:(Zg)×X'=>eM p5 G q.1 q.2) (D,B)).bind (Fw.elim (λe=>some (.n (e.1,e.2,wrap .i64 (p5+1)))) (λe=>elim e))
def bP(G:Z4)(D:Zg)(B:X')(p5:Int):a_ (Fw ((Zg)×X'×Int) ((Zg)×X') Empty):=bl (decide (p5<(len G.procs))) (W3 D B p5 G) (some (.x (D,B)))
def W2(D:Zg)(B:X')(p5:Int)(G:Z4):a_ (Fw Zg Zg Empty):=(bW (λq:(Zg)×X'×Int=>bP G q.1 q.2.1 q.2.2) (D,B,p5)).bind (Fw.elim (λe=>bl e.2 (some (.n e.1)) (some (.x e.1))) (λe=>elim e))
def zG(B:Zg)(D:Z4)(G:Int):a_ (Fw Int Unit Unit):=bl (decide (G<(len D.procs))) ((Sl.jc B G).bind λu=>(Sl.get B u).bind λw=>(idx D.procs G).bind λz=>bl (decide (w<(len z.events))) (some (.r ())) (some (.n (wrap .i64 (G+1))))) (some (.x ()))
def W5(B:Zg)(G:Int)(D:Z4):a_ X':=(bW (λq:Int=>zG B D q) G).bind (Fw.elim (λe=>some true) (λe=>some false))
def br(D:Z4)(B:Zg):a_ (Fw Zg Zg Empty):=W2 B false 0 D
def W1(B:Zg)(D:Z4):a_ X':=(bW (λq:Zg=>br D q) B).bind (Fw.elim (λe=>e9.W5 e 0 D) (λe=>elim e))
end e9
def e9(B:Z4):a_ X':=(pe (len B.procs) (0:Int)).bind λu=>e9.W1 u B
open e9 in
instance TR(B:Z4):Fc Sy cL (e9 B):=Fc.M 113 [enc B] (ct 2 1 B (b7 7 B.procs (MI 0 12 λb _=>fH 7 (λO=>(bL [Pv 1,Ov 3] [Xb 1 B,Lb 2003 O])) (λD=>(0,(bL [Pv 1,Ov 3] [Xb 1 B,Lb 2003 D]))) (λO=>fH 17 (λw=>(bL [Pv 1,Ov 3,Bv 4 w.2.1,Iv 5 w.2.2] [Xb 1 B,Lb 2003 w.1])) (λG=>(2,(bL [Pv 1,Ov 3,Bv 4 G.2] [Xb 1 B,Lb 2003 G.1]))) (λw=>b7 8 B.procs (bB 3 17 (fH 8 (λI=>(bL [Pv 1,Ov 3,Bv 4 I.2,Iv 5 w.2.2] [Xb 1 B,Lb 2003 I.1])) (λJ=>(4,(bL [Pv 1,Ov 3,Bv 4 J.2,Iv 5 w.2.2] [Xb 1 B,Lb 2003 J.1]))) (λI=>iM .i64 7 2003 λc _=>oO 0 2003 0 1 false (λQ=>.int .i64 Q) λQ _=>bQ 3 λZ _=>b7 2 Z.events (bB 3 31 (bQ 9 λd _=>iM .i64 4 2003 λe _=>oO 0 2003 0 1 false (λS=>.int .i64 S) λS _=>bQ 0 λa _=>oQ 2 6 0 a (bB 10 46 (bG 6 λf _=>iM .i64 9 2003 λg _=>oO 0 2003 0 1 false (λz=>.int .i64 z) λz _=>bB 5 58 bh (uc 5 (iM .i64 4 2003 λT _=>oO 0 2003 0 1 false (λu=>.int .i64 u) λu _=>iM .i64 1 2003 λU _=>BA 0 2003 (.int .i64 (wrap .i64 (u+1))) λW _=>bh))) (uc 5 (iM .i64 4 2003 λT _=>oO 0 2003 0 1 false (λu=>.int .i64 u) λu _=>iM .i64 1 2003 λU _=>BA 0 2003 (.int .i64 (wrap .i64 (u+1))) λW _=>bh)))) bh)) (λJ=>bh)) bh)) (λG=>dB 8 66 bh bh)) (λD=>eo 11 (λX=>(bL [Pv 1,Ov 3,Iv 8 X] [Xb 1 B,Lb 2003 D])) (λL=>(6,(bL [] []))) (λL=>(bL [Bv 2 false] [])) (λX=>b7 8 B.procs (bB 3 71 (iM .i64 9 2003 λh _=>oO 0 2003 0 1 false (λC=>.int .i64 C) λC _=>bQ 3 λY _=>b7 2 Y.events (bB 3 85 bh bh)) bh)) (λL=>bh) (λL=>bh)))))
instance Xy(t:Z4)(x:bf):Fc Sy cL (oP t x):=Fc.of (A:=λz:Z4×bf=>[enc z.1,enc z.2]) (E:=λr:Sl (Sl X')=>[enc r]) (p:=λz=>oP z.1 z.2) (n:=114) (z:=(t,x)) (h_.X5 Zae Zae (λz r a=>SK z.1 z.2 r a))
namespace dn
def eM(p6:Int)(B:Z4)(G:bf)(D:Int):a_ (Fw Int Unit (Int×bf)):=(idx B.procs p6).bind λw=>bl (decide (D<(len w.events))) ((eR B p6 D).bind λu=>bl (u==0) (some (.n (wrap .i64 (D+1)))) (some (.r (u,(⟨p6,wrap .i64 (D+1)⟩:bf))))) (some (.x ()))
def W3(p6 G:Int)(B:Z4)(D:bf):a_ (Fw Int Unit (Int×bf)):=(bW (λq:Int=>eM p6 B D q) G).bind (Fw.elim (λe=>some (.n (wrap .i64 (p6+1)))) (λe=>some (.r (e.1,e.2))))
def zG(G:Int)(D:Z4)(J:bf)(B:Int):a_ (Fw Int Unit (Int×bf)):=(idx D.procs G).bind λw=>bl (decide (B<(len w.events))) ((ji D (⟨G,wrap .i64 (B+1)⟩:bf)).bind λu=>bl (u==0) (some (.n (wrap .i64 (B+1)))) (some (.r (u,(⟨G,wrap .i64 (B+1)⟩:bf))))) (some (.x ()))
def W5(J B:Int)(D:Z4)(G:bf):a_ (Fw Int Unit (Int×bf)):=(bW (λq:Int=>zG J D G q) B).bind (Fw.elim (λe=>some (.n (wrap .i64 (J+1)))) (λe=>some (.r (e.1,e.2))))
def MS(D:Int)(G:Z4)(J:bf)(B:Int):a_ (Fw Int Unit bf):=(idx G.procs D).bind λw=>bl (decide (B<(len w.events))) ((oP G (⟨D,wrap .i64 (B+1)⟩:bf)).bind λz=>(idx z D).bind λC=>(idx C (wrap .i64 (B+1))).bind λu=>bl u (some (.r (⟨D,wrap .i64 (B+1)⟩:bf))) (some (.n (wrap .i64 (B+1))))) (some (.x ()))
def W7(B D:Int)(G:Z4)(J:bf):a_ (Fw Int Unit bf):=(bW (λq:Int=>MS B G J q) D).bind (Fw.elim (λe=>some (.n (wrap .i64 (B+1)))) (λe=>some (.r e)))
def Me(B:Z4)(G:bf)(D:Int):a_ (Fw Int Unit bf):=bl (decide (D<(len B.procs))) (W7 D 0 B G) (some (.x ()))
def W6(B:Int)(D:Z4)(G:bf):a_ (bf×Int):=(bW (λq:Int=>Me D G q) B).bind (Fw.elim (λe=>some (⟨0,0⟩,0)) (λe=>some (e,10)))
def Ng(B:Z4)(D:bf)(G:Int):a_ (Fw Int Unit (Int×bf)):=bl (decide (G<(len B.procs))) (W5 G 0 B D) (some (.x ()))
def W4(G:Int)(B:Z4)(D:bf):a_ (bf×Int):=(bW (λq:Int=>Ng B D q) G).bind (Fw.elim (λe=>(e9 B).bind λu=>bl u (some (⟨0,0⟩,0)) (dn.W6 0 B D)) (λe=>some (e.2,e.1)))
def bP(B:Z4)(D:bf)(p6:Int):a_ (Fw Int Unit (Int×bf)):=bl (decide (p6<(len B.procs))) (W3 p6 0 B D) (some (.x ()))
def W2(p6:Int)(B:Z4)(D:bf):a_ (bf×Int):=(bW (λq:Int=>bP B D q) p6).bind (Fw.elim (λe=>dn.W4 0 B D) (λe=>some (e.2,e.1)))
def br(B:Z4)(D:bf)(p4:Int):a_ (Fw Int Unit (Int×bf)):=bl (decide (p4<(len B.procs))) ((eO B p4).bind λu=>bl (u==0) (some (.n (wrap .i64 (p4+1)))) (some (.r (u,(⟨p4,0⟩:bf))))) (some (.x ()))
def W1(p4:Int)(B:Z4)(D:bf):a_ (bf×Int):=(bW (λq:Int=>br B D q) p4).bind (Fw.elim (λe=>dn.W2 0 B D) (λe=>some (e.2,e.1)))
end dn
def dn(B:Z4):a_ (bf×Int):=(bl (decide ((len B.procs)<1)) (some true) (some (decide ((len B.procs)>8))):a_ X').bind λu=>bl u (some (⟨0,0⟩,1)) (dn.W1 0 B (⟨0,0⟩:bf))
open dn in
instance Wj(B:Z4):Fc Sy cL (dn B):=Fc.M 73 [enc B] (ct 2 1 B (b7 9 B.procs (cg 2 5 [20] 25 (bB 2 20 (bH 5) (b7 2 B.procs (bH 2))) λa=>bB 2 25 bh (eo 11 (λQ=>(bL [Pv 1,Pv 2,Iv 4 Q] [Xb 1 B,Xb 2 (⟨0,0⟩:bf)])) (λu=>(0,(bL [Pv 1,Pv 2] [Xb 1 B,Xb 2 (⟨0,0⟩:bf)]))) (λu=>(bL [Pv 2,Iv 3 u.1] [Xb 2 u.2])) (λQ=>b7 7 B.procs (bB 3 31 (bG 9 λb _=>dB 9 38 bh bh) bh)) (λu=>eo 10 (λG=>(bL [Pv 1,Pv 2,Iv 6 G] [Xb 1 B,Xb 2 (⟨0,0⟩:bf)])) (λw=>(2,(bL [Pv 1,Pv 2] [Xb 1 B,Xb 2 (⟨0,0⟩:bf)]))) (λw=>(bL [Pv 2,Iv 3 w.1] [Xb 2 w.2])) (λG=>b7 7 B.procs (bB 3 46 (eo 12 (λS=>(bL [Pv 1,Pv 2,Iv 6 G,Iv 7 S] [Xb 1 B,Xb 2 (⟨0,0⟩:bf)])) (λz=>(4,(bL [Pv 1,Pv 2,Iv 6 G] [Xb 1 B,Xb 2 (⟨0,0⟩:bf)]))) (λz=>(bL [Pv 2,Iv 3 z.1] [Xb 2 z.2])) (λS=>bQ 8 λW _=>b7 2 W.events (bB 3 57 (bG 10 λc _=>dB 9 65 bh bh) bh)) (λz=>bh) (λz=>bh)) bh)) (λw=>eo 10 (λI=>(bL [Pv 1,Pv 2,Iv 9 I] [Xb 1 B,Xb 2 (⟨0,0⟩:bf)])) (λC=>(6,(bL [Pv 1,Pv 2] [Xb 1 B,Xb 2 (⟨0,0⟩:bf)]))) (λC=>(bL [Pv 2,Iv 3 C.1] [Xb 2 C.2])) (λI=>b7 7 B.procs (bB 3 75 (eo 12 (λT=>(bL [Pv 1,Pv 2,Iv 9 I,Iv 10 T] [Xb 1 B,Xb 2 (⟨0,0⟩:bf)])) (λD=>(8,(bL [Pv 1,Pv 2,Iv 9 I] [Xb 1 B,Xb 2 (⟨0,0⟩:bf)]))) (λD=>(bL [Pv 2,Iv 3 D.1] [Xb 2 D.2])) (λT=>bQ 8 λX _=>b7 2 X.events (bB 3 86 (bG 19 λd _=>dB 9 97 bh bh) bh)) (λD=>bh) (λD=>bh)) bh)) (λC=>bG 6 λZ _=>bB 2 101 bh (eo 11 (λJ=>(bL [Pv 1,Pv 2,Iv 13 J] [Xb 1 B,Xb 2 (⟨0,0⟩:bf)])) (λL=>(10,(bL [Pv 2] [Xb 2 (⟨0,0⟩:bf)]))) (λL=>(bL [Pv 2,Iv 3 10] [Xb 2 L])) (λJ=>b7 7 B.procs (bB 3 107 (eo 12 (λU=>(bL [Pv 1,Pv 2,Iv 13 J,Iv 14 U] [Xb 1 B,Xb 2 (⟨0,0⟩:bf)])) (λO=>(12,(bL [Pv 1,Pv 2,Iv 13 J] [Xb 1 B,Xb 2 (⟨0,0⟩:bf)]))) (λO=>(bL [Pv 2,Iv 3 10] [Xb 2 O])) (λU=>bQ 8 λY _=>b7 2 Y.events (bB 3 118 (bG 19 λe _=>bQ 1 λf _=>bQ 3 λg _=>bB 3 134 bh bh) bh)) (λO=>bh) (λO=>bh)) bh)) (λL=>bh) (λL=>bh))) (λC=>bh)) (λw=>bh)) (λu=>bh)))))
def uF(B:Z4):a_ X':=(dn B).bind λu=>some (u.2==0)
instance VW(B:Z4):Fc Sy cL (uF B):=Fc.M 39 [enc B] (ct 2 1 B (bG 6 λu _=>bh))
def qF(B:WF):a_ X':=some (B.kind==3)
instance Rx(B:WF):Fc Sy cL (qF B):=Fc.M 81 [enc B] (ct 2 1 B bh)
def sG(D:Zg)(p1:Int):a_ Zg:=(oI (Sl.row []:Zg) D).bind λu=>(Sl.jc u p1).bind λw=>(Sl.get u w).bind λz=>(Sl.jc u p1).bind λB=>(Sl.put u B (wrap .i64 (z+1):Int)).bind λC=>some C
instance XH(B:Zg)(p1:Int):Fc Sy cL (sG B p1):=Fc.N 135 [enc B,.int .i64 p1] (zx 9 6 8 λw _=>iM .i64 9 8 λz _=>oO 0 8 0 1 false (λu=>.int .i64 u) λu _=>iM .i64 1 8 λC _=>BA 0 8 (.int .i64 (wrap .i64 (u+1))) λD _=>bh)
namespace oc
def br(B:Zg)(D:Z4)(p5:Int):a_ (Fw Int Unit Unit):=bl (decide (p5<(len B))) ((idx B p5).bind λu=>(bl (decide (u<0)) (some true) ((idx B p5).bind λw=>(idx D.procs p5).bind λz=>some (decide (w>(len z.events)))):a_ X').bind λC=>bl C (some (.r ())) (some (.n (wrap .i64 (p5+1))))) (some (.x ()))
def W1(B:Zg)(p5:Int)(D:Z4):a_ X':=(bW (λq:Int=>br B D q) p5).bind (Fw.elim (λe=>some true) (λe=>some false))
end oc
def oc(D:Z4)(B:Zg):a_ X':=bl ((len B)==(len D.procs)) (oc.W1 B 0 D) (some false)
open oc in
instance Yi(D:Z4)(B:Zg):Fc Sy cL (oc D B):=Fc.M 86 [enc D,enc B] (ct 2 2 D (b7 7 B (b7 2 D.procs (dB 3 11 (eo 11 (λw=>(bL [Cv 1 B,Pv 2,Iv 5 w] [Xb 2 D])) (λu=>(0,(bL [] []))) (λu=>(bL [Bv 4 false] [])) (λw=>b7 6 B (bB 3 15 (bQ 9 λC _=>cg 3 13 [23] 36 (bB 3 23 (bH 13) (bQ 2 λG _=>bQ 4 λz _=>b7 2 z.events (bH 2))) λI=>bB 2 36 bh bh) bh)) (λu=>bh) (λu=>bh)) bh))))
namespace ey
def bP(B:Zg)(p5:Int)(D:Z4)(G:Int):a_ (Fw Int Unit Unit):=(idx B p5).bind λz=>bl (decide (G<z)) ((idx D.procs p5).bind λC=>(idx C.events G).bind λu=>bl (u.kind==3) ((ez D 2 u.message).bind λw=>(idx B w.proc).bind λI=>bl (decide (w.index>I)) (some (.r ())) (some (.n (wrap .i64 (G+1))))) (some (.n (wrap .i64 (G+1))))) (some (.x ()))
def W2(B:Zg)(p5 G:Int)(D:Z4):a_ (Fw Int Unit Unit):=(bW (λq:Int=>bP B p5 D q) G).bind (Fw.elim (λe=>some (.n (wrap .i64 (p5+1)))) (λe=>some (.r ())))
def br(B:Zg)(D:Z4)(p5:Int):a_ (Fw Int Unit Unit):=bl (decide (p5<(len B))) (W2 B p5 0 D) (some (.x ()))
def W1(B:Zg)(p5:Int)(D:Z4):a_ X':=(bW (λq:Int=>br B D q) p5).bind (Fw.elim (λe=>some true) (λe=>some false))
end ey
def ey(D:Z4)(B:Zg):a_ X':=ey.W1 B 0 D
open ey in
instance Pb(D:Z4)(B:Zg):Fc Sy cL (ey D B):=Fc.M 87 [enc D,enc B] (ct 2 2 D (eo 11 (λu=>(bL [Cv 1 B,Pv 2,Iv 5 u] [Xb 2 D])) (λw=>(0,(bL [] []))) (λw=>(bL [Bv 4 false] [])) (λu=>b7 6 B (bB 3 12 (eo 12 (λC=>(bL [Cv 1 B,Pv 2,Iv 5 u,Iv 6 C] [Xb 2 D])) (λz=>(2,(bL [Cv 1 B,Pv 2,Iv 5 u] [Xb 2 D]))) (λz=>(bL [Bv 4 false] [])) (λC=>bQ 7 λI _=>bB 4 20 (bQ 10 λJ _=>bQ 3 λG _=>oQ 2 7 0 G (bB 9 34 (bG 6 λL _=>bQ 11 λO _=>bB 4 46 bh bh) bh)) bh) (λz=>bh) (λz=>bh)) bh)) (λw=>bh) (λw=>bh)))
def yP(B:Z4)(D:Zg):a_ X':=(oc B D).bind λu=>(bl u ((ey B D).bind λw=>some w) (some false):a_ X').bind λz=>some z
instance Zi(B:Z4)(D:Zg):Fc Sy cL (yP B D):=Fc.M 49 [enc B,enc D] (ct 2 2 B (bG 7 λu _=>cg 1 4 [1,2,8] 12 (bB 1 8 (bG 2 λw _=>bH 1) (bH 4)) λz=>bh))
namespace jP
def br(G:Zg)(D:Z4)(B:Zb)(p6:Int):a_ (Fw ((Zb)×Int) Zb Empty):=bl (decide (p6<(len G))) ((idx G p6).bind λu=>(idx D.procs p6).bind λw=>(bl (decide (u<(len w.events))) ((sG G p6).bind λz=>(yP D z).bind λC=>some C) (some false):a_ X').bind λI=>bl I ((sG G p6).bind λJ=>(gC B (J:Zg)).bind λL=>some (.n (L,wrap .i64 (p6+1)))) (some (.n (B,wrap .i64 (p6+1))))) (some (.x B))
def W1(G:Zg)(B:Zb)(p6:Int)(D:Z4):a_ Zb:=(bW (λq:(Zb)×Int=>br G D q.1 q.2) (B,p6)).bind (Fw.elim (λe=>some e) (λe=>elim e))
end jP
def jP(B:Z4)(D:Zg):a_ Zb:=jP.W1 D (Sl.nil:Zb) 0 B
open jP in
instance Xm(B:Z4)(D:Zg):Fc Sy cL (jP B D):=Fc.N 101 [enc B,enc D] (ct 2 2 B (fH 17 (λu=>(bL [Cv 1 D,Pv 2,Ov 5,Iv 6 u.2] [Xb 2 B,Lb 2005 u.1])) (λw=>(0,(bL [Ov 5] [Lb 2005 w]))) (λu=>b7 7 D (bB 3 10 (bQ 9 λI _=>bQ 4 λC _=>b7 2 C.events (yI 2 6 [30,29] (λz=>(bL [Cv 1 D,Pv 2,Ov 5,Iv 6 u.2,Bv 10 true,Bv 31 z] [Xb 2 B,Lb 2005 u.1])) (bB 2 25 (bG 3 λJ _=>cZ 0 λL _=>bH 1) (bH 6)) λz=>bB 2 31 (bG 5 λG _=>xW 0 36 ([G]:aZ Zg) (oD 0 2005 36 37 λO _=>bh)) bh)) bh)) (λw=>bh)))
namespace hU
def br(B:Zg)(D i4:Int):a_ (Fw (Int×Int) Int Empty):=bl (decide (i4<(len B))) ((idx B i4).bind λu=>some (.n (wrap .i64 (D+u),wrap .i64 (i4+1)))) (some (.x D))
def W1(B:Zg)(D i4:Int):QQ:=(bW (λq:Int×Int=>br B q.1 q.2) (D,i4)).bind (Fw.elim (λe=>some e) (λe=>elim e))
end hU
def hU(B:Zg):QQ:=hU.W1 B 0 0
open hU in
instance Xv(B:Zg):Fc Sy cL (hU B):=Fc.M 177 [enc B] (fH 18 (λu=>(bL [Cv 0 B,Iv 3 u.1,Iv 4 u.2] [])) (λw=>(0,(bL [Iv 3 w] []))) (λu=>b7 6 B (bB 3 8 (bQ 9 λz _=>bh) bh)) (λw=>bh))
namespace iB
def br(a0 D:Zg)(B:Int):a_ (Fw Int Unit X'):=bl (decide (B<(len a0))) ((idx a0 B).bind λu=>(idx D B).bind λw=>bl (u==w) (some (.n (wrap .i64 (B+1)))) ((idx a0 B).bind λz=>(idx D B).bind λC=>some (.r (decide (z<C))))) (some (.x ()))
def W1(a0 B:Zg)(D:Int):a_ X':=(bW (λq:Int=>br a0 B q) D).bind (Fw.elim (λe=>some false) (λe=>some e))
end iB
def iB(a0 B:Zg):a_ X':=(hU a0).bind λu=>(hU B).bind λw=>bl (u==w) (iB.W1 a0 B 0) ((hU a0).bind λz=>(hU B).bind λC=>some (decide (z<C)))
open iB in
instance Vb(a0 B:Zg):Fc Sy cL (iB a0 B):=Fc.M 136 [enc a0,enc B] (bG 9 λz _=>bG 1 λC _=>dB 3 10 (eo 11 (λw=>(bL [Cv 0 a0,Cv 1 B,Iv 5 w] [])) (λu=>(0,(bL [] []))) (λu=>(bL [Bv 4 u] [])) (λw=>b7 6 a0 (bB 3 19 (bQ 9 λD _=>bQ 3 λG _=>dB 4 30 bh (bQ 5 λI _=>bQ 3 λJ _=>bh)) bh)) (λu=>bh) (λu=>bh)) (bG 4 λL _=>bG 1 λO _=>bh))
namespace fP
def br(a0 D:Zg)(B:Int):a_ (Fw Int Unit Unit):=bl (decide (B<(len a0))) ((idx a0 B).bind λu=>(idx D B).bind λw=>bl (u==w) (some (.n (wrap .i64 (B+1)))) (some (.r ()))) (some (.x ()))
def W1(a0 B:Zg)(D:Int):a_ X':=(bW (λq:Int=>br a0 B q) D).bind (Fw.elim (λe=>some true) (λe=>some false))
end fP
def fP(a0 B:Zg):a_ X':=bl ((len a0)==(len B)) (fP.W1 a0 B 0) (some false)
open fP in
instance RA(a0 B:Zg):Fc Sy cL (fP a0 B):=Fc.M 137 [enc a0,enc B] (b7 9 a0 (b7 1 B (dB 3 10 (eo 11 (λw=>(bL [Cv 0 a0,Cv 1 B,Iv 5 w] [])) (λu=>(0,(bL [] []))) (λu=>(bL [Bv 4 false] [])) (λw=>b7 6 a0 (bB 3 14 (bQ 9 λz _=>bQ 3 λC _=>dB 4 25 bh bh) bh)) (λu=>bh) (λu=>bh)) bh)))
namespace iA
def br(D:Zb)(G:Zg)(B:Int):a_ (Fw Int Int Empty):=(bl (decide (B<(len D))) ((idx D B).bind λu=>(iB u G).bind λw=>some w) (some false):a_ X').bind λz=>bl z (some (.n (wrap .i64 (B+1)))) (some (.x B))
def W1(B:Zb)(G:Zg)(D:Int):a_ Zb:=(bW (λq:Int=>br B G q) D).bind (Fw.elim (λe=>(bl (decide (e<(len B))) ((idx B e).bind λz=>(fP z G).bind λC=>some C) (some false):a_ X').bind λI=>bl I (some B) ((fS B none (some e)).bind λJ=>(oI (Sl.row []:Zb) J).bind λL=>(gC L (G:Zg)).bind λO=>(fS B (some e) none).bind λu=>(oI O u).bind λw=>some w)) (λe=>elim e))
end iA
def iA(B:Zb)(D:Zg):a_ Zb:=iA.W1 B D 0
open iA in
instance U_(B:Zb)(D:Zg):Fc Sy cL (iA B D):=Fc.N 102 [enc B,enc D] (fH 13 (λw=>(bL [Cv 0 B,Cv 1 D,Iv 5 w] [])) (λu=>(0,(bL [Cv 0 B,Cv 1 D,Iv 5 u] []))) (λw=>b7 6 B (cg 2 7 [11] 18 (bB 2 11 (bQ 2 λG _=>bG 2 λI _=>bH 1) (bH 7)) λJ=>bB 2 18 bh bh)) (λu=>b7 7 B (cg 2 7 [25] 32 (bB 2 25 (bQ 2 λL _=>bG 2 λO _=>bH 1) (bH 7)) λQ=>bB 2 32 bh (xW 5 34 ([]:aZ Zg) (AB 2 false true [.int .i64 u] λS _=>zx 0 34 38 λT _=>xW 7 41 ([D]:aZ Zg) (oD 0 38 41 42 λU _=>AB 8 true false [.int .i64 u] λz _=>zx 0 42 47 λC _=>bh))))))
namespace fe
def eM(D G:Zb)(W:Int)(J:Zb)(U:Z4)(B:Zb)(k9:Int):a_ (Fw ((Zb)×Int) Zb Empty):=bl (decide (k9<(len J))) ((idx J k9).bind λu=>(iA B u).bind λw=>some (.n (w,wrap .i64 (k9+1)))) (some (.x B))
def W3(B G D:Zb)(U:Int)(W:Zb)(k9:Int)(J:Z4):a_ (Fw ((Zb)×Int) Zb Empty):=(bW (λq:(Zb)×Int=>eM B G U W J q.1 q.2) (D,k9)).bind (Fw.elim (λe=>some (.n (e,wrap .i64 (U+1)))) (λe=>elim e))
def bP(B G:Zb)(J:Z4)(D:Zb)(U:Int):a_ (Fw ((Zb)×Int) Zb Empty):=bl (decide (U<(len B))) ((idx B U).bind λu=>(jP J u).bind λw=>W3 B G D U w 0 J) (some (.x D))
def W2(B D G:Zb)(U:Int)(J:Z4):a_ (Fw ((Zb)×(Zb)) Zb Unit):=(bW (λq:(Zb)×Int=>bP B D J q.1 q.2) (G,U)).bind (Fw.elim (λe=>some (.n (e,D))) (λe=>elim e))
def br(G:Z4)(B D:Zb):a_ (Fw ((Zb)×(Zb)) Zb Unit):=bl (decide ((len B)>0)) ((oI D B).bind λu=>bl (decide ((len u)>5000)) (some (.r ())) (W2 B u (Sl.nil:Zb) 0 G)) (some (.x D))
def W1(B D:Zb)(G:Z4):a_ ((Zb)×X'):=(bW (λq:(Zb)×(Zb)=>br G q.1 q.2) (B,D)).bind (Fw.elim (λe=>some (e,true)) (λe=>some ((Sl.nil:Zb),false)))
end fe
def fe(B:Z4):a_ ((Zb)×X'):=(pe (len B.procs) (0:Int)).bind λu=>fe.W1 (Sl.row [u]:Zb) (Sl.nil:Zb) B
open fe in
instance Xw(B:Z4):Fc Sy cL (fe B):=Fc.N 62 [enc B] (ct 2 1 B (b7 8 B.procs (MI 0 13 λL _=>xW 1 14 ([L]:aZ Zg) (eo 13 (λu=>(bL [Pv 1,Cv 4 u.1,Ov 5] [Xb 1 B,Lb 2005 u.2])) (λC=>(0,(bL [Ov 5] [Lb 2005 C]))) (λC=>(bL [Ov 2,Bv 3 false] [Lb 2002 (Sl.nil:Zb)])) (λu=>b7 7 u.1 (bB 3 17 (zx 8 2005 20 λw _=>Ez 7 20 w (bB 3 23 bh (fH 18 (λz=>(bL [Pv 1,Cv 4 u.1,Ov 5,Cv 6 z.1,Iv 7 z.2] [Xb 1 B,Lb 2005 w])) (λG=>(2,(bL [Pv 1,Ov 5,Cv 6 G] [Xb 1 B,Lb 2005 w]))) (λz=>b7 8 u.1 (bB 3 27 (bQ 10 λO _=>bG 1 λI _=>fH 12 (λD=>(bL [Pv 1,Cv 4 u.1,Ov 5,Cv 6 D.1,Iv 7 z.2,Cv 8 I,Iv 9 D.2] [Xb 1 B,Lb 2005 w])) (λJ=>(4,(bL [Pv 1,Cv 4 u.1,Ov 5,Cv 6 J,Iv 7 z.2] [Xb 1 B,Lb 2005 w]))) (λD=>b7 8 I (bB 3 39 (bQ 9 λQ _=>bG 1 λS _=>bh) bh)) (λJ=>bh)) bh)) (λG=>bh)))) bh)) (λC=>bh) (λC=>bh)))))
namespace fF
def bP(G:Sl bX)(J:Int)(B D:Int):a_ (Fw (Int×Int) Int Unit):=bl (decide (D<J)) ((idx G D).bind λu=>(gH u.events (λz=>qF z)).bind λw=>bl w (some (.r ())) (some (.n (wrap .i64 (B*(wrap .i64 ((len u.events)+1))),wrap .i64 (D+1))))) (some (.x B))
def W2(B:Int)(D:Sl bX)(G J:Int):a_ X':=(bW (λq:Int×Int=>bP D G q.1 q.2) (B,J)).bind (Fw.elim (λe=>some (decide (e>5000))) (λe=>some false))
def br(D:Sl bX)(G:Int)(U:Z4)(J B:Int):a_ (Fw (Int×Int) Int Unit):=bl (decide (B<G)) ((idx D B).bind λu=>(bl (decide ((len u.vars)>12)) (some true) ((gH u.events (λz=>qI z)).bind λw=>some w):a_ X').bind λC=>bl C (some (.r ())) (some (.n (wrap .i64 (J+(len u.events)),wrap .i64 (B+1))))) (some (.x J))
def W1(U:Int)(D:Sl bX)(G J:Int)(B:Z4):a_ X':=(bW (λq:Int×Int=>br D G B q.1 q.2) (U,J)).bind (Fw.elim (λe=>bl (decide (e>60)) (some false) ((uF B).bind λw=>bl w (bl (decide (e>24)) (fF.W2 1 B.procs (len B.procs) 0) ((fe B).bind λu=>(bl u.2 (some (decide ((len u.1)<=250))) (some true):a_ X').bind λz=>some z)) (some true))) (λe=>some false))
end fF
def fF(B:Z4):a_ X':=bl (decide ((len B.procs)>10)) (some false) (fF.W1 0 B.procs (len B.procs) 0 B)
open fF in
instance V3(B:Z4):Fc Sy cL (fF B):=Fc.M 45 [enc B] (ct 2 1 B (b7 8 B.procs (bB 3 14 bh (b7 13 B.procs (eo 5 (λD=>(bL [Pv 1,Iv 3 D.1,Cv 16 B.procs,Iv 17 (len B.procs),Iv 18 D.2] [Xb 1 B])) (λu=>(0,(bL [Pv 1,Iv 3 u] [Xb 1 B]))) (λu=>(bL [Bv 2 false] [])) (λD=>bB 7 19 (bQ 7 λw _=>oQ 2 5 0 w (b7 7 w.events (b7 8 w.vars (cg 2 4 [5,31] 35 (bB 2 31 (bH 4) (bG (F:=mg 80 [] (λz=>qI z) kH.pT w.events) 2 λL _=>bH 1)) λO=>bB 2 35 bh bh)))) bh) (λu=>bB 9 38 bh (bG 7 λQ _=>dB 3 41 (bB 10 43 (b7 11 B.procs (eo 5 (λG=>(bL [Iv 6 G.1,Cv 45 B.procs,Iv 46 (len B.procs),Iv 47 G.2] [])) (λC=>(2,(bL [Iv 6 C] []))) (λC=>(bL [Bv 2 false] [])) (λG=>bB 7 48 (bQ 7 λI _=>oQ 2 8 0 I (b7 7 I.events (bG (F:=mg 81 [] (λz=>qF z) kH.pT I.events) 9 λS _=>bB 2 59 bh bh))) bh) (λC=>bh) (λC=>bh))) (bG 6 λJ _=>cg 12 4 [9,70] 74 (dB 12 70 (b7 1 J.1 (bH 2)) (bH 4)) λT=>bh)) bh)) (λu=>bh))))))
def kr(D:Pred)(G B:Int)(r:(Pred×Int×Int)->a_ (X'×Int)):a_ (X'×Int):=(r (D,B,wrap .i64 (G+1))).bind λu=>some ((!u.1),u.2)
abbrev DA(r:(Pred×Int×Int)->a_ (Bool×Int))(a:xO Sy cL 40 (λz:Pred×Int×Int=>[cv z.1,.ptr 9002 0,iv z.2.2]) (λz:Pred×Int×Int=>[(9002,bx (z.2.1:Int))]) (λr:Bool×Int=>[.bool r.1]) (λ(z:Pred×Int×Int)(r:Bool×Int)=>[(9002,bx (r.2:Int))]) r)(D:Pred)(G B:Int):oe Sy cL (kr D G B r):=oe.mk' 75 [cv D,.ptr 9001 0,.v (.fptr (cells G))] [(9001,.box [.ptr 9002 0]),(9002,bx (B:Int))] (λr:Bool×Int=>[.bool r.1]) (λr:Bool×Int=>[(9001,.box [.ptr 9002 0]),(9002,bx (r.2:Int))]) (ct 2 3 D (um 9 (oe.of (D,B,wrap .i64 (G+1)) a) λu _=>bh))
section
variable{σ:Type}{gf:Y'}{ex:So}{os:σ->dK}{p:Pred->σ->a_ (X'×σ)}(h:yz Sy cL (.clo gf [] ex) gf ex os p)(s0:Sl Pred)(x:σ)
abbrev wq:oe Sy cL (TP s0 p x):=oe.mk' 115 [cv s0,(.clo gf [] ex)] (os x) (λr=>[.int .i64 r.1]) (λr=>os r.2) (b7 9 s0 (eo 5 (λq=>⟨[Cv 0 s0,(1,(.clo gf [] ex)),Iv 7 (len s0),Iv 8 q.1],os q.2,(os x).map (·.1),[],true,0⟩) (λe=>(0,⟨[],os e,(os x).map (·.1),[],true,0⟩)) (λe=>⟨[Iv 4 e.1],os e.2,(os x).map (·.1),[],true,0⟩) (λq=>bB 7 9 (bQ 16 λy _=>PF 1 h y q.2 λr _=>bB 2 16 bh bh) bh) (λe=>IN 9 h [.int .i64 (-1)] rfl) (λe=>Le.of_eq (J8 h (ys:=[.int .i64 e.1]) Zae rfl)))) (hp:=λr=>h.wi x r.2)
abbrev qe:oe Sy cL (Aq s0 p x):=oe.mk' 74 [cv s0,(.clo gf [] ex)] (os x) (λr=>[.bool r.1]) (λr=>os r.2) (MB 9 (wq h s0 x) (h.hd x (enc s0)) (λr=>h.put x r.2) λy _=>IN 5 h [.bool (decide (y.1>=0))] rfl) (hp:=λr=>h.wi x r.2)
end
section
variable{σ:Type}{gf:Y'}{ex:T2}{os:σ->dK}{p:Pred->σ->a_ (X'×σ)}(h:yz Sy cL (.v (.clo gf [] ex)) gf (ex.map .v) os p)(s0:Sl Pred)(x:σ)
abbrev wv:oe Sy cL (TP s0 p x):=oe.mk' 115 [cv s0,(.v (.clo gf [] ex))] (os x) (λr=>[.int .i64 r.1]) (λr=>os r.2) (b7 9 s0 (eo 5 (λq=>⟨[Cv 0 s0,(1,(.v (.clo gf [] ex))),Iv 7 (len s0),Iv 8 q.1],os q.2,(os x).map (·.1),[],true,0⟩) (λe=>(0,⟨[],os e,(os x).map (·.1),[],true,0⟩)) (λe=>⟨[Iv 4 e.1],os e.2,(os x).map (·.1),[],true,0⟩) (λq=>bB 7 9 (bQ 16 λy _=>PF 1 h y q.2 λr _=>bB 2 16 bh bh) bh) (λe=>IN 9 h [.int .i64 (-1)] rfl) (λe=>Le.of_eq (J8 h (ys:=[.int .i64 e.1]) Zae rfl)))) (hp:=λr=>h.wi x r.2)
abbrev mJ:oe Sy cL (Aq s0 p x):=oe.mk' 74 [cv s0,(.v (.clo gf [] ex))] (os x) (λr=>[.bool r.1]) (λr=>os r.2) (MB 9 (wv h s0 x) (h.hd x (enc s0)) (λr=>h.put x r.2) λy _=>IN 5 h [.bool (decide (y.1>=0))] rfl) (hp:=λr=>h.wi x r.2)
end
def j7(G:Pred)(B D:Int)(r:(Pred×Int×Int)->a_ (X'×Int)):a_ (X'×Int):=(bl (decide ((wrap .i64 (B-1))>=0)) (some (decide (D<=60))) (some false):a_ X').bind λz=>(bl z (some (decide (((ByteArray.size G.name:Nat):Int)<=100))) (some false):a_ X').bind λC=>(bl C ((Aq G.l (λx s=>kr x D s r) (wrap .i64 (B-1))).bind λu=>some ((!u.1),u.2)) (some (false,wrap .i64 (B-1))):a_ (X'×Int)).bind λw=>some (w.1,w.2)
theorem DQ(r:(Pred×Int×Int)->a_ (X'×Int))(a:xO Sy cL 40 (λz:Pred×Int×Int=>[cv z.1,.ptr 9002 0,iv z.2.2]) (λz:Pred×Int×Int=>[(9002,bx (z.2.1:Int))]) (λr:X'×Int=>[.bool r.1]) (λ(z:Pred×Int×Int)(r:X'×Int)=>[(9002,bx (r.2:Int))]) r)(G:Pred)(D B:Int):∀J,j7 G D B r=some J->∃m',cL 40 [cv G,.ptr 9002 0,iv B] [(9002,bx (D:Int))]=some (((λr:X'×Int=>[.bool r.1]) J).map .v,m')/\∀U,lW m' ([(9002,bx (D:Int))].map (·.1)) U=some (p_ U ((λr:X'×Int=>[(9002,bx (r.2:Int))]) J)):=(oe.mk' 40 [cv G,.ptr 9002 0,iv B] [(9002,bx (D:Int))] (λr:X'×Int=>[.bool r.1]) (λr:X'×Int=>[(9002,bx (r.2:Int))]) (ct 2 3 G (cg 22 3 [16] 19 (bB 22 16 (bH 3) (bH 3)) λw=>cg 1 5 [20] 25 (bB 1 20 (bH 5) (bH 5)) λC=>yI 1 6 [] (λu=>⟨[Bv 32 u.1],[(9002,.box [iv u.2]),Xb 3 G,(9001,.box [.ptr 9002 0])],[9002],[],true,0⟩) (bB 1 26 (jK 2 28 (Pred.mN G.l) (um 3 (qe (yz.ofK (σ:=Int) (g:=75) (e:=[.ptr 9001 0,cp B]) (os:=λs=>[(9001,.box [.ptr 9002 0]),(9002,bx (s:Int))]) (p:=(λx s=>kr x B s r)) (λx s=>DA r a x B s)) G.l (wrap .i64 (D-1))) λI _=>bH 2)) (bH 8)) λu=>bh)):oe Sy cL (j7 G D B r)).h
def za(G:Pred)(D B:Int):a_ (X'×Int):=iz (λr(z:Pred×Int×Int)=>j7 z.1 z.2.1 z.2.2 r) 100000 (G,D,B)
abbrev Ir(G:Pred)(D B:Int):oe Sy cL (za G D B):=oe.of (G,D,B) (xO.fix (A:=λz:Pred×Int×Int=>[cv z.1,.ptr 9002 0,iv z.2.2]) (O:=λz:Pred×Int×Int=>[(9002,bx (z.2.1:Int))]) (E:=λr:Bool×Int=>[.bool r.1]) (M:=λ(z:Pred×Int×Int)(r:Bool×Int)=>[(9002,bx (r.2:Int))]) (b:=(λr(z:Pred×Int×Int)=>j7 z.1 z.2.1 z.2.2 r)) Zae Zae Zae (λr a z=>DQ r a z.1 z.2.1 z.2.2) 100000)
namespace kO
def br(B:Int)(D:Pred)(G J:Int)(r:(Pred×Int)->QQ):a_ (Fw (Int×Int) Int Empty):=(bl (decide (J<(len D.l))) (some (decide (G<=B))) (some false):a_ X').bind λu=>bl u ((idx D.l J).bind λw=>(r (w,wrap .i64 (B-G))).bind λz=>some (.n (wrap .i64 (G+z),wrap .i64 (J+1)))) (some (.x G))
def W1(B G J:Int)(D:Pred)(r:(Pred×Int)->QQ):QQ:=(bW (λq:Int×Int=>br B D q.1 q.2 r) (G,J)).bind (Fw.elim (λe=>some e) (λe=>elim e))
end kO
def jo(D:Pred)(B:Int)(r:(Pred×Int)->QQ):QQ:=kO.W1 B 1 0 D r
open kO in
theorem C2(r:(Pred×Int)->QQ)(a:h_ Sy cL 78 (λz:Pred×Int=>[enc z.1,.int .i64 z.2]) (λr:Int=>[.int .i64 r]) r true)(D:Pred)(B:Int):Le ((jo D B r).bind λr=>some [.int .i64 r]) (jX cL 78 [enc D,.int .i64 B]):=(Fc.M 78 [enc D,.int .i64 B] (ct 2 2 D (fH 16 (λu=>(bL [Iv 1 B,Pv 2,Iv 5 u.1,Iv 6 u.2] [Xb 2 D])) (λw=>(0,(bL [Iv 5 w] []))) (λu=>jK 7 9 (Pred.mN D.l) (b7 0 D.l (cg 2 4 [12] 16 (bB 2 12 (bH 4) (bH 4)) λG=>bB 2 16 (jK 9 21 (Pred.mN D.l) (bQ 1 λC _=>bG (F:=Fc.of (C,wrap .i64 (B-u.1)) a) 4 λI _=>bh)) bh))) (λw=>bh))):Fc Sy cL (jo D B r)).F.h ()
def kO(D:Pred)(B:Int):QQ:=iz (λr(z:Pred×Int)=>jo z.1 z.2 r) 100000 (D,B)
instance Vx(D:Pred)(B:Int):Fc Sy cL (kO D B):=Fc.of (D,B) (h_.fix (A:=λz:Pred×Int=>[enc z.1,.int .i64 z.2]) (E:=λr:Int=>[.int .i64 r]) (sc:=true) (b:=(λr(z:Pred×Int)=>jo z.1 z.2 r)) Zae (λ_ _=>rfl) (λr a z=>C2 r a z.1 z.2) 100000)
def sE(B:Pred):QQ:=(kO B 200).bind λu=>some (if 201<u then 201 else u)
instance XG(B:Pred):Fc Sy cL (sE B):=Fc.M 42 [enc B] (ct 2 1 B (bG 6 λu _=>bh))
def xu(J:Z4)(p1:Pred):a_ X':=(fF J).bind λw=>(bl w ((za p1 300 0).bind λu=>some (u.1,u.2)) (some (false,300)):a_ (X'×Int)).bind λz=>(bl z.1 ((sE p1).bind λB=>(bl (decide (B<=100)) (some true) ((sE p1).bind λC=>some (decide (C>200))):a_ X').bind λD=>some D) (some false):a_ X').bind λG=>some G
instance YS(B:Z4)(p1:Pred):Fc Sy cL (xu B p1):=Fc.M 11 [enc B,enc p1] (ct 2 2 B (ct 0 3 p1 (bG 12 λw _=>yI 1 3 [] (λu=>(bL [Pv 3,Bv 11 u.1] [Xb 2 B,Xb 3 p1,(9002,.box [iv u.2])])) (bB 1 8 (um 2 (Ir p1 300 0) λz _=>bH 1) (bH 4)) λu=>cg 1 9 [3,12] 21 (bB 1 12 (bG 1 λC _=>cg 2 4 [3,16] 20 (bB 2 16 (bH 4) (bG 1 λD _=>bH 2)) λG=>bH 1) (bH 9)) λI=>bh)))
def oN(G D B:Int):a_ X':=(bl (decide (G>=D)) (some (decide (G<=B))) (some false):a_ X').bind λu=>some u
instance ZM(G D B:Int):Fc Sy cL (oN G D B):=Fc.M 127 [.int .i64 G,.int .i64 D,.int .i64 B] (cg 11 4 [0,2,10] 14 (bB 11 10 (bH 4) (bH 4)) λu=>bh)
def qQ(B:Int):a_ X':=(bl (decide (B>=97)) (some (decide (B<=122))) (some false):a_ X').bind λu=>(bl u (some true) ((bl (decide (B>=65)) (some (decide (B<=90))) (some false):a_ X').bind λw=>some w):a_ X').bind λz=>some z
instance VO(B:Int):Fc Sy cL (qQ B):=Fc.M 204 [.int .u8 B] (cg 10 3 [5] 8 (bB 10 5 (bH 3) (bH 3)) λu=>cg 1 7 [0,9] 16 (bB 1 9 (bH 7) (cg 3 3 [0,12] 15 (bB 3 12 (bH 3) (bH 3)) λw=>bH 1)) λz=>bh)
def vv(B:Int):a_ X':=(bl (decide (B>=48)) (some (decide (B<=57))) (some false):a_ X').bind λu=>some u
instance Xt(B:Int):Fc Sy cL (vv B):=Fc.M 205 [.int .u8 B] (cg 10 3 [0,5] 8 (bB 10 5 (bH 3) (bH 3)) λu=>bh)
namespace gY
def br(s0:U')(D:Int)(B:Int):a_ (Fw Int Unit Unit):=bl (decide (B<D)) ((mj s0 B).bind λz=>(qQ z).bind λC=>(bl C (some false) ((mj s0 B).bind λG=>(vv G).bind λI=>some (!I)):a_ X').bind λJ=>(bl J ((mj s0 B).bind λu=>some (!(u==95))) (some false):a_ X').bind λw=>bl w (some (.r ())) (some (.n (wrap .i64 (B+1))))) (some (.x ()))
def W1(s0:U')(B D:Int):a_ X':=(bW (λq:Int=>br s0 B q) D).bind (Fw.elim (λe=>some true) (λe=>some false))
end gY
def gY(s0:U'):a_ X':=(bl (toList s0==toList ByteArray.empty) (some true) (some (decide (((ByteArray.size s0:Nat):Int)>16))):a_ X').bind λu=>(bl u (some true) ((mj s0 0).bind λw=>(qQ w).bind λz=>some (!z)):a_ X').bind λB=>bl B (some false) (gY.W1 s0 ((ByteArray.size s0:Nat):Int) 0)
open gY in
instance VX(s0:U'):Fc Sy cL (gY s0):=Fc.M 163 [.str s0] (cg 11 4 [6] 10 (bB 11 6 (bH 4) (bH 4)) λC=>cg 1 5 [11] 16 (bB 1 11 (bH 5) (Cl 1 .i64 λD _=>bG 0 λG _=>bH 2)) λI=>bB 2 16 bh (eo 13 (λw=>(bL [(0,.v (.str s0)),Iv 18 ((ByteArray.size s0:Nat):Int),Iv 19 w] [])) (λu=>(0,(bL [] []))) (λu=>(bL [Bv 2 false] [])) (λw=>bB 7 20 (Cl 15 .i64 λJ _=>bG 0 λL _=>cg 2 6 [27] 33 (dB 2 27 (bH 6) (Cl 2 .i64 λO _=>bG 0 λQ _=>bH 2)) λS=>cg 1 5 [3,34] 39 (bB 1 34 (Cl 2 .i64 λz _=>bH 2) (bH 5)) λB=>bB 2 39 bh bh) bh) (λu=>bh) (λu=>bh)))
def kq(B D:bX):a_ X':=some (toList B.name==toList D.name)
instance Lr(B D:bX):Fc Sy cL (kq B D):=Fc.M 165 [enc B,.fptr (cells D)] (ct 2 2 B bh)
namespace gP
def br(s0:Sl bX)(D:Int)(B:Int)(p1:bX->a_ X'):a_ (Fw Int Unit Int):=bl (decide (B<D)) ((idx s0 B).bind λu=>(p1 u).bind λw=>bl w (some (.r B)) (some (.n (wrap .i64 (B+1))))) (some (.x ()))
def W1(s0:Sl bX)(B D:Int)(p1:bX->a_ X'):QQ:=(bW (λq:Int=>br s0 B q p1) D).bind (Fw.elim (λe=>some (-1)) (λe=>some e))
end gP
def gP(s0:Sl bX)(p1:bX->a_ X'):QQ:=gP.W1 s0 (len s0) 0 p1
open gP in
abbrev ym(g1:FuncId)(e1:aZ V)(p1:bX->a_ Bool)(a:kH Sy cL g1 [] e1 (λz:bX=>[enc z]) (λr:Bool=>[.bool r]) p1 true)(s0:Sl bX):Fc Sy cL (gP s0 p1):=Fc.M 206 [enc s0,.clo g1 [] e1] (b7 9 s0 (eo 5 (λw=>(bL [Cv 0 s0,(1,.v (.clo g1 [] e1)),Iv 7 (len s0),Iv 8 w] [])) (λu=>(0,(bL [] []))) (λu=>(bL [Iv 4 u] [])) (λw=>bB 7 9 (bQ 16 λB _=>wQ 1 a.f B λC _=>bB 2 16 bh bh) bh) (λu=>bh) (λu=>bh)))
def jf(s0:Sl bX)(p1:bX->a_ X'):a_ X':=(gP s0 p1).bind λu=>some (decide (u>=0))
abbrev wC(g1:FuncId)(e1:aZ V)(p1:bX->a_ Bool)(a:kH Sy cL g1 [] e1 (λz:bX=>[enc z]) (λr:Bool=>[.bool r]) p1 true)(s0:Sl bX):Fc Sy cL (jf s0 p1):=Fc.M 164 [enc s0,.clo g1 [] e1] (bG (F:=ym g1 e1 p1 a s0) 9 λu _=>bh)
def kz(B D:Var):a_ X':=some (toList B.name==toList D.name)
instance Lp(B D:Var):Fc Sy cL (kz B D):=Fc.M 167 [enc B,.fptr (cells D)] (bh)
namespace fL
def br(s0:Sl Var)(D:Int)(B:Int)(p1:Var->a_ X'):a_ (Fw Int Unit Int):=bl (decide (B<D)) ((idx s0 B).bind λu=>(p1 u).bind λw=>bl w (some (.r B)) (some (.n (wrap .i64 (B+1))))) (some (.x ()))
def W1(s0:Sl Var)(B D:Int)(p1:Var->a_ X'):QQ:=(bW (λq:Int=>br s0 B q p1) D).bind (Fw.elim (λe=>some (-1)) (λe=>some e))
end fL
def fL(s0:Sl Var)(p1:Var->a_ X'):QQ:=fL.W1 s0 (len s0) 0 p1
open fL in
abbrev oJ(g1:FuncId)(e1:aZ V)(p1:Var->a_ Bool)(a:kH Sy cL g1 [] e1 (λz:Var=>[enc z]) (λr:Bool=>[.bool r]) p1 true)(s0:Sl Var):Fc Sy cL (fL s0 p1):=Fc.M 207 [enc s0,.clo g1 [] e1] (b7 9 s0 (eo 5 (λw=>(bL [Cv 0 s0,(1,.v (.clo g1 [] e1)),Iv 7 (len s0),Iv 8 w] [])) (λu=>(0,(bL [] []))) (λu=>(bL [Iv 4 u] [])) (λw=>bB 7 9 (bQ 16 λB _=>wQ 1 a.f B λC _=>bB 2 16 bh bh) bh) (λu=>bh) (λu=>bh)))
def ig(s0:Sl Var)(p1:Var->a_ X'):a_ X':=(fL s0 p1).bind λu=>some (decide (u>=0))
abbrev qG(g1:FuncId)(e1:aZ V)(p1:Var->a_ Bool)(a:kH Sy cL g1 [] e1 (λz:Var=>[enc z]) (λr:Bool=>[.bool r]) p1 true)(s0:Sl Var):Fc Sy cL (ig s0 p1):=Fc.M 166 [enc s0,.clo g1 [] e1] (bG (F:=oJ g1 e1 p1 a s0) 9 λu _=>bh)
namespace fu
def br(D:Sl Var)(G:Int)(J:bX)(B:Int):a_ (Fw Int Unit Int):=bl (decide (B<G)) ((idx D B).bind λu=>(gY u.name).bind λI=>(bl I ((fS J.vars none (some B)).bind λL=>(ig L (λz=>kz z u)).bind λO=>some O) (some true):a_ X').bind λw=>bl w (some (.r 13)) ((oN u.init_ (-1073741824) 1073741824).bind λC=>bl C (some (.n (wrap .i64 (B+1)))) (some (.r 2)))) (some (.x ()))
def W1(D:Sl Var)(G J:Int)(B:bX):QQ:=(bW (λq:Int=>br D G B q) J).bind (Fw.elim (λe=>bl (decide ((len B.events)>64)) (some 5) (some 0)) (λe=>some e))
end fu
def fu(G:Z4)(p1:Int):QQ:=(idx G.procs p1).bind λu=>(gY u.name).bind λw=>(bl w ((fS G.procs none (some p1)).bind λB=>(jf B (λz=>kq z u)).bind λC=>some C) (some true):a_ X').bind λD=>bl D (some 13) (bl (decide ((len u.vars)>8)) (some 5) (fu.W1 u.vars (len u.vars) 0 u))
open fu in
instance OH(D:Z4)(p1:Int):Fc Sy cL (fu D p1):=Fc.M 128 [enc D,.int .i64 p1] (ct 2 2 D (bQ 8 λu _=>oQ 2 5 0 u (bG 8 λO _=>cg 2 7 [1,2,18] 25 (dB 2 18 (AB 3 false true [.int .i64 p1] λG _=>cZ (F:=wC 165 [.fptr (cells u)] (λz=>kq z u) kH.pT G) 1 λQ _=>bH 1) (bH 7)) λS=>bB 3 13 bh (b7 5 u.vars (bB 4 26 bh (b7 9 u.vars (eo 5 (λB=>(bL [Pv 5,Cv 32 u.vars,Iv 33 (len u.vars),Iv 34 B] [Xb 5 u])) (λw=>(1,(bL [Pv 5] [Xb 5 u]))) (λw=>(bL [Iv 4 w] [])) (λB=>bB 7 35 (bQ 8 λC _=>bG 11 λT _=>cg 2 7 [6,44] 51 (dB 2 44 (AB 3 false true [.int .i64 B] λI _=>cZ (F:=qG 167 [.fptr (cells C)] (λz=>kz z C) kH.pT I) 1 λU _=>bH 1) (bH 7)) λJ=>bB 3 39 bh (bG 5 λL _=>dB 4 52 bh bh)) bh) (λw=>b7 7 u.events (bB 3 61 bh bh)) (λw=>bh))))))))
def jT(B:Z4):a_ Z4:=some B
instance Xe(B:Z4):Fc Sy cL (jT B):=Fc.NE (λr:Z4=>[(.clo 168 [] [.fptr (cells r)])]) 129 [enc B] (ct 2 1 B bh)
namespace jg
def J1(p1:Int)(D:X')(G:Z4)(B:WF):a_ X':=bl D ((oN B.peer 0 (wrap .i64 ((len G.procs)-1))).bind λu=>(bl u (some (!(B.peer==p1))) (some false):a_ X').bind λw=>(bl w ((oN B.message 0 199).bind λz=>some z) (some false):a_ X').bind λC=>some C) (some false)
end jg
def jg(B:Z4)(p1:Int)(e2:WF):a_ X':=bl (e2.kind==1) ((bl (e2.peer==0) (some (e2.message==0)) (some false):a_ X').bind λu=>some u) (bl (e2.kind==2) (jg.J1 p1 true B e2) (jg.J1 p1 (e2.kind==3) B e2))
open jg in
instance VZ(B:Z4)(p1:Int)(e2:WF):Fc Sy cL (jg B p1 e2):=Fc.M 169 [enc B,.int .i64 p1,enc e2] (ct 2 3 B (ct 0 5 e2 (bB 17 9 (cg 7 4 [5,14] 18 (bB 7 14 (bH 4) (bH 4)) λD=>bh) (bB 8 19 (uc 4 (bB 0 19 (b7 7 B.procs (bG 1 λu _=>cg 1 5 [1,29] 34 (bB 1 29 (bH 5) (bH 5)) λw=>cg 1 4 [5,35] 39 (bB 1 35 (bG 2 λz _=>bH 1) (bH 4)) λC=>bh)) bh)) (uc 7 (bB 0 19 (b7 7 B.procs (bG 1 λu _=>cg 1 5 [1,29] 34 (bB 1 29 (bH 5) (bH 5)) λw=>cg 1 4 [5,35] 39 (bB 1 35 (bG 2 λz _=>bH 1) (bH 4)) λC=>bh)) bh))))))
def lK(B D:Assign):a_ X':=some (B.var==D.var)
instance Mq(B D:Assign):Fc Sy cL (lK B D):=Fc.M 171 [enc B,.fptr (cells D)] (bh)
namespace gj
def br(s0:Sl Assign)(D:Int)(B:Int)(p1:Assign->a_ X'):a_ (Fw Int Unit Int):=bl (decide (B<D)) ((idx s0 B).bind λu=>(p1 u).bind λw=>bl w (some (.r B)) (some (.n (wrap .i64 (B+1))))) (some (.x ()))
def W1(s0:Sl Assign)(B D:Int)(p1:Assign->a_ X'):QQ:=(bW (λq:Int=>br s0 B q p1) D).bind (Fw.elim (λe=>some (-1)) (λe=>some e))
end gj
def gj(s0:Sl Assign)(p1:Assign->a_ X'):QQ:=gj.W1 s0 (len s0) 0 p1
open gj in
abbrev wV(g1:FuncId)(e1:aZ V)(p1:Assign->a_ Bool)(a:kH Sy cL g1 [] e1 (λz:Assign=>[enc z]) (λr:Bool=>[.bool r]) p1 true)(s0:Sl Assign):Fc Sy cL (gj s0 p1):=Fc.M 208 [enc s0,.clo g1 [] e1] (b7 9 s0 (eo 5 (λw=>(bL [Cv 0 s0,(1,.v (.clo g1 [] e1)),Iv 7 (len s0),Iv 8 w] [])) (λu=>(0,(bL [] []))) (λu=>(bL [Iv 4 u] [])) (λw=>bB 7 9 (bQ 16 λB _=>wQ 1 a.f B λC _=>bB 2 16 bh bh) bh) (λu=>bh) (λu=>bh)))
def iC(s0:Sl Assign)(p1:Assign->a_ X'):a_ X':=(gj s0 p1).bind λu=>some (decide (u>=0))
abbrev uT(g1:FuncId)(e1:aZ V)(p1:Assign->a_ Bool)(a:kH Sy cL g1 [] e1 (λz:Assign=>[enc z]) (λr:Bool=>[.bool r]) p1 true)(s0:Sl Assign):Fc Sy cL (iC s0 p1):=Fc.M 170 [enc s0,.clo g1 [] e1] (bG (F:=wV g1 e1 p1 a s0) 9 λu _=>bh)
namespace dW
def bP(D:Sl Assign)(G:Int)(J:WF)(U:bX)(B:Int):a_ (Fw Int Unit Int):=bl (decide (B<G)) ((idx D B).bind λu=>(oN u.var 0 (wrap .i64 ((len U.vars)-1))).bind λI=>(bl I ((oN u.value (-1073741824) 1073741824).bind λL=>some (!L)) (some true):a_ X').bind λO=>bl O (some (.r 2)) ((fS J.assign none (some B)).bind λw=>(iC w (λz=>lK z u)).bind λC=>bl C (some (.r 8)) (some (.n (wrap .i64 (B+1)))))) (some (.x ()))
def W2(B:Sl Assign)(D G:Int)(J:WF)(U:bX):QQ:=(bW (λq:Int=>bP B D J U q) G).bind (Fw.elim (λe=>some 0) (λe=>some e))
def J1(D:Int)(J:Z4)(G:bf)(B:WF)(U:bX):QQ:=(jg J G.proc B).bind λu=>bl u ((oN B.time 0 1099511627776).bind λw=>(bl w (some (decide (B.time<D))) (some true):a_ X').bind λz=>bl z (some 11) (bl (decide ((len B.assign)>8)) (some 5) (dW.W2 B.assign (len B.assign) 0 B U))) (some 3)
theorem qP(D:Int)(U:Z4)(J:bf)(B:WF)(G:bX):Le ((J1 D U J B G).bind (λr=>some [.int .i64 r])) (b_ Sy cL (q_ (tr Tx 130)) (uI (tb Tx 130) [1,1,1,1,0] [] (bL [Pv 3,Pv 4,Pv 5,Pv 7,Iv 8 D] [Xb 3 U,Xb 4 J,Xb 5 B,Xb 7 G]))):=bG 8 λO _=>dB 4 28 (bG 5 λQ _=>cg 2 5 [8,40] 45 (dB 2 40 (bH 5) (bH 5)) λS=>bB 3 35 bh (b7 5 B.assign (bB 4 46 bh (b7 9 B.assign (eo 5 (λw=>(bL [Pv 5,Pv 7,Cv 52 B.assign,Iv 53 (len B.assign),Iv 54 w] [Xb 5 B,Xb 7 G])) (λu=>(1,(bL [] []))) (λu=>(bL [Iv 6 u] [])) (λw=>bB 7 55 (bQ 8 λC _=>b7 13 G.vars (bG 1 λT _=>cg 2 5 [68] 73 (dB 2 68 (bG 2 λW _=>bH 2) (bH 5)) λX=>bB 3 59 bh (AB 6 false true [.int .i64 w] λI _=>cZ (F:=uT 171 [.fptr (cells C)] (λz=>lK z C) kH.pT I) 1 λL _=>bB 3 74 bh bh))) bh) (λu=>bh) (λu=>bh)))))) bh
end dW
def dW(D:Z4)(B:bf)(e2:WF):QQ:=(idx D.procs B.proc).bind λu=>bl (decide (B.index>1)) ((idx u.events (wrap .i64 (B.index-2))).bind λw=>dW.J1 w.time D B e2 u) (dW.J1 0 D B e2 u)
open dW in
instance Q2(D:Z4)(B:bf)(e2:WF):Fc Sy cL (dW D B e2):=Fc.M 130 [enc D,enc B,enc e2] (ct 2 3 D (ct 1 5 e2 (bQ 9 λu _=>oQ 2 7 0 u (bB 15 19 (bQ 7 λw _=>y8 6 (qP w.time D B e2 u)) (y8 4 (qP 0 D B e2 u))))))
def rV(e0:WF)(B D:Int):a_ X':=(bl (e0.kind==2) (some (e0.message==B)) (some false):a_ X').bind λu=>(bl u (some (e0.peer==D)) (some false):a_ X').bind λw=>some w
instance T_(e0:WF)(B D:Int):Fc Sy cL (rV e0 B D):=Fc.M 209 [enc e0,.fptr (cells B),.fptr (cells D)] (ct 2 3 e0 (cg 9 5 [1,8] 13 (bB 9 8 (bH 5) (bH 5)) λu=>cg 1 5 [2,3,14] 19 (bB 1 14 (bH 5) (bH 5)) λw=>bh))
def vK(D:Z4)(p1 G B:Int):a_ X':=(idx D.procs p1).bind λu=>(gH u.events (λz=>rV z G B)).bind λw=>some w
instance Xu(G:Z4)(p1 D B:Int):Fc Sy cL (vK G p1 D B):=Fc.M 172 [enc G,.int .i64 p1,.int .i64 D,.int .i64 B] (ct 2 4 G (bQ 10 λu _=>cZ (F:=mg 209 [.fptr (cells D),.fptr (cells B)] (λz=>rV z D B) kH.pT u.events) 3 λw _=>bh))
namespace fq
def kB(D G:Z4)(J:a_ (cu 200 bF))(U:bf)(W:Int)(x:bf×WF)(B:cu 200 bF):a_ (Fw (cu 200 bF) Empty (bf×Int×(cu 200 bF))):=bl (x.2.kind==2) ((cu.at B x.2.message).bind λu=>bl (decide (u.from_.index>0)) (some (.r (x.1,8,B))) ((cu.at B x.2.message).bind λw=>some (.n (cu.set B x.2.message (⟨x.1,w.to_⟩:bF))))) (bl (x.2.kind==3) ((cu.at B x.2.message).bind λz=>bl (decide (z.to_.index>0)) (some (.r (x.1,8,B))) ((vK G x.2.peer x.2.message x.1.proc).bind λC=>bl C ((cu.at B x.2.message).bind λI=>some (.n (cu.set B x.2.message (⟨I.from_,x.1⟩:bF)))) (some (.r (x.1,7,B))))) (some (.n B)))
def E1(B G:Z4)(J:a_ (cu 200 bF))(U:bf)(W:Int)(D:cu 200 bF):a_ ((a_ (cu 200 bF))×bf×Int):=(jQ B).bind λu=>(lH (λ(x:bf×WF)(q:cu 200 bF)=>kB B G J U W x q) u D).bind (Fw.rK (λq=>some (some q,⟨0,0⟩,0)) (λe=>elim e) (λe=>some ((none:a_ (cu 200 bF)),e.1,e.2.1)))
end fq
def fq(B:Z4):a_ ((a_ (cu 200 bF))×bf×Int):=(jT B).bind λu=>fq.E1 u B (none:a_ (cu 200 bF)) (⟨0,0⟩:bf) 0 (cu.P9 200 (⟨⟨0,0⟩,⟨0,0⟩⟩:bF))
open fq in
instance OJ(D:Z4):Fc Sy cL (fq D):=Fc.N 131 [enc D] (ct 2 1 D (ct 8 10 (cu.P9 200 (⟨⟨0,0⟩,⟨0,0⟩⟩:bF)) (Yk 0 5 (bL [Pv 1,Pv 2,Pv 3,Pv 4,Pv 10] [Xb 1 D,(2,.box [cv (none:a_ (cu 200 bF))]),Xb 3 (⟨0,0⟩:bf),(4,.box [iv 0]),Xb 10 (cu.P9 200 (⟨⟨0,0⟩,⟨0,0⟩⟩:bF))]) [cv (none:a_ (cu 200 bF))] (by simp only[bL,zz,rW,tL,rZ,tI,uY,tO,u5,rI,tG,zu,uP,uO,vq,u7,xA,xG,tM,vm];rfl) (bG 7 λB _=>FL λO C=>CH 4 [Pv 1,Pv 2,Pv 3,Pv 4,Pv 5,(12,.v (.clo 168 [] [.fptr (cells B)]))] (λw=>[Xb 1 D,(2,.box [cv (none:a_ (cu 200 bF))]),Xb 3 (⟨0,0⟩:bf),(4,.box [iv 0]),(5,.box [.ptr 10 0]),Xb 10 w]) (λz=>elim z) (λz=>[Xb 1 D,(2,.box [cv (none:a_ (cu 200 bF))]),Xb 3 z.1,(4,.box [iv z.2.1]),(5,.box [.ptr 10 0]),Xb 10 z.2.2]) (AP B O C) (λu w=>Yk 2 6 ⟨[Pv 1,Pv 2,Pv 3,Pv 4,Pv 5,(12,.v (.clo 168 [] [.fptr (cells B)])),Cv 13 u.1,Cv 14 u.2],[Xb 1 D,(2,.box [cv (none:a_ (cu 200 bF))]),Xb 3 (⟨0,0⟩:bf),(4,.box [iv 0]),(5,.box [.ptr 10 0]),Xb 10 w],[1,2,3,4,5],[],true,0⟩ [iv 0,iv 0] (by simp only[bL,zz,rW,tL,rZ,tI,uY,tO,u5,rI,tG,zu,uP,uO,vq,u7,xA,xG,tM,vm];rfl) (Yk 4 7 ⟨[Pv 1,Pv 2,Pv 3,Pv 4,Pv 5,(12,.v (.clo 168 [] [.fptr (cells B)])),Cv 14 u.2,Pv 6],[Xb 1 D,(2,.box [cv (none:a_ (cu 200 bF))]),Xb 3 (⟨0,0⟩:bf),(4,.box [iv 0]),(5,.box [.ptr 10 0]),Xb 10 w,Xb 6 u.1],[1,2,3,4,5],[],true,0⟩ [iv 0,iv 0,iv 0,iv 0,.v .bO] (by simp only[bL,zz,rW,tL,rZ,tI,uY,tO,u5,rI,tG,zu,uP,uO,vq,u7,xA,xG,tM,vm];rfl) (oQ 0 7 0 u.2 (zy 1 (bB 22 19 (IU 7 .i64 10 λG Q=>UD 2 1 false 10 w u.2.message 1 G Q (.int .i64 G.from_.index) (by rfl) (bB 3 28 bh (IU 8 .i64 10 λI S=>UY 1 10 w u.2.message 0 I S (⟨u.1,I.to_⟩:bF) u.1 rfl bh))) (bB 7 36 (IU 7 .i64 10 λJ T=>UD 2 1 false 10 w u.2.message 3 J T (.int .i64 J.to_.index) (by rfl) (bB 3 45 bh (bG 12 λW _=>dB 3 54 (IU 8 .i64 10 λL U=>UY 1 10 w u.2.message 2 L U (⟨L.from_,u.1⟩:bF) u.1 rfl bh) bh))) bh)))))) (λw=>aai 13 (bL [Pv 2,Pv 3,Pv 4] [(2,.box [.ptr 10 0]),Xb 3 (⟨0,0⟩:bf),(4,.box [iv 0]),Xb 10 w]) [.ptr 10 0,cv (⟨0,0⟩:bf),iv 0] (Wb (d:=10) (x:=w) (vs:=[enc (⟨0,0⟩:bf),.int .i64 0]) Zae) Zae) (λx=>elim x) (λz=>bh)))))
namespace jR
def J1(D:cu 200 bF)(B:Sl bf)(J:Sl WF)(G:bf):a_ (Sl bf):=(idx J (wrap .i64 (G.index-1))).bind λu=>(bl (u.kind==2) ((cu.at D u.message).bind λw=>some (decide (w.to_.index>0))) (some false):a_ X').bind λz=>bl z ((cu.at D u.message).bind λC=>(gC B (C.to_:bf)).bind λI=>some I) (some B)
theorem qP(B:cu 200 bF)(D:Sl bf)(J:Sl WF)(G:bf):Le ((J1 B D J G).bind (λr=>some [enc r])) (b_ Sy cL (q_ (tr Tx 173)) (uI (tb Tx 173) [1,1,1,1,0,0] [] (bL [Kv 1 B,Pv 5,Ov 7,Cv 8 J] [Xb 5 G,Lb 2007 D]))):=bQ 7 λu _=>oQ 2 9 0 u (cg 8 10 [40] 50 (bB 8 40 (Nl 4 .i64 λw z=>Ua 0 2 B u.message 0 w z (Ua 0 1 B u.message 2 w z (Ni 0 1 false B u.message 3 w z (.int .i64 w.to_.index) (by rfl) (bH 2)))) (bH 10)) λL=>bB 2 50 (Nl 7 .i64 λC I=>Ua 0 2 B u.message 0 C I (Ni 0 2 true B u.message 2 C I (enc C.to_) (by rfl) (oD 1 2007 59 60 λO _=>bh))) bh)
end jR
def jR(D:Z4)(B:cu 200 bF)(x2:bf):a_ (Sl bf):=(idx D.procs x2.proc).bind λu=>bl (decide (x2.index<(len u.events))) (jR.J1 B (Sl.row [⟨x2.proc,wrap .i64 (x2.index+1)⟩]:Sl bf) u.events x2) (jR.J1 B (Sl.nil:Sl bf) u.events x2)
open jR in
instance Xz(D:Z4)(B:cu 200 bF)(x2:bf):Fc Sy cL (jR D B x2):=Fc.N 173 [enc D,.fptr (cells B),enc x2] (ct 2 3 D (bQ 15 λu _=>b7 11 u.events (bB 3 21 (Uo 10 29 30 .bO (⟨x2.proc,wrap .i64 (x2.index+1)⟩:bf) (y8 5 (qP B (Sl.row [⟨x2.proc,wrap .i64 (x2.index+1)⟩]:Sl bf) u.events x2))) (y8 5 (qP B (Sl.nil:Sl bf) u.events x2)))))
namespace jb
def eM(U:Z4)(W:Sl bf)(Y:Int)(a:Z4)(b:cu 200 bF)(c:bf)(d:X')(J:bf)(B:Sl bf)(G:Int)(D:Mo bf X'):a_ (Fw ((Sl bf)×Int×(Mo bf X')) ((Sl bf)×(Mo bf X')) Unit):=bl (decide (G<Y)) ((idx W G).bind λu=>bl (Ml u J) (some (.r ())) (bl (oH D u false) (some (.n (B,wrap .i64 (G+1),D))) ((gC B (u:bf)).bind λw=>some (.n (w,wrap .i64 (G+1),mT D u true))))) (some (.x (B,D)))
def W3(D:Sl bf)(B:Z4)(U:Sl bf)(W Y:Int)(a:Z4)(b:cu 200 bF)(c:bf)(d:X')(G:bf)(J:Mo bf X'):a_ (Fw ((Sl bf)×(Mo bf X')) Unit Unit):=(bW (λq:(Sl bf)×Int×(Mo bf X')=>eM B U W a b c d G q.1 q.2.1 q.2.2) (D,Y,J)).bind (Fw.elim (λe=>some (.n (e.1,e.2))) (λe=>some (.r ())))
def bP(D G:Z4)(J:cu 200 bF)(Y:bf)(a:X')(U:bf)(B:Sl bf)(W:Mo bf X'):a_ (Fw ((Sl bf)×(Mo bf X')) Unit Unit):=bl (decide ((len B)>0)) ((Sl.jc B (wrap .i64 ((len B)-1))).bind λw=>(Sl.get B w).bind λz=>(qg B none (some (wrap .i64 ((len B)-1)))).bind λC=>(jR G J z).bind λu=>W3 C D u (len u) 0 G J Y a U W) (some (.x ()))
def W2(G:Sl bf)(B U:Z4)(W:cu 200 bF)(Y:bf)(a:X')(D:bf)(J:Mo bf X'):a_ (Fw Unit Empty bf):=(bW (λq:(Sl bf)×(Mo bf X')=>bP B U W Y a D q.1 q.2) (G,J)).bind (Fw.elim (λe=>some (.n ())) (λe=>some (.r D)))
def kB(B D:Z4)(G:cu 200 bF)(J:bf)(U:X')(x:bf×WF):a_ (Fw Unit Empty bf):=W2 (Sl.row [x.1]:Sl bf) B D G J U x.1 []
def E1(B D:Z4)(G:cu 200 bF)(J:bf)(U:X'):a_ (bf×X'):=(jQ B).bind λu=>(lH (λ(x:bf×WF)(q:Unit)=>kB B D G J U x) u ()).bind (Fw.rK (λq=>some (⟨0,0⟩,false)) (λe=>elim e) (λe=>some (e,true)))
end jb
def jb(B:Z4)(D:cu 200 bF):a_ (bf×X'):=(jT B).bind λu=>jb.E1 u B D (⟨0,0⟩:bf) false
open jb in
instance V0(B:Z4)(G:cu 200 bF):Fc Sy cL (jb B G):=Fc.M 132 [enc B,.fptr (cells G)] (ct 2 2 B (bG 9 λw _=>FL λU Q=>CH 4 [Pv 2,Pv 3,Pv 4,Pv 5,(13,.v (.clo 168 [] [.fptr (cells w)]))] (λS=>[Xb 2 B,(3,.box [cp G]),Xb 4 (⟨0,0⟩:bf),(5,.box [bv false])]) (λI=>elim I) (λI=>[Xb 2 B,(3,.box [cp G]),Xb 4 I,(5,.box [bv true])]) (AP w U Q) (λC S=>zy 4 (eo 18 (λu=>⟨[Pv 2,Pv 3,Pv 4,Pv 5,Pv 6,(7,.mp 16),Ov 8,(13,.v (.clo 168 [] [.fptr (cells w)]))],[Xb 2 B,(3,.box [cp G]),Xb 4 (⟨0,0⟩:bf),(5,.box [bv false]),Xb 6 C.1,(16,ve u.2),Lb 2008 u.1],[2,3,4,5],[],true,0⟩) (λJ=>(2,⟨[Pv 2,Pv 3,Pv 4,Pv 5,(13,.v (.clo 168 [] [.fptr (cells w)]))],[Xb 2 B,(3,.box [cp G]),Xb 4 (⟨0,0⟩:bf),(5,.box [bv false])],[2,3,4,5],[],true,0⟩)) (λJ=>⟨[],[Xb 2 B,(3,.box [cp G]),Xb 4 C.1,(5,.box [bv true])],[2,3,4,5],[],true,0⟩) (λu=>Ez 6 2008 u.1 (bB 3 21 (Ez 8 2008 u.1 (iM .i64 1 2008 λW _=>oO 0 2008 0 2 true (λL=>.agg [.int .i64 L.proc,.int .i64 L.index]) λL _=>Ez 8 2008 u.1 (ZF 1 false true 2008 32 [.int .i64 (wrap .i64 ((len u.1)-1))] λX _=>bG 8 λO _=>b7 0 O (eo 6 (λz=>⟨[Pv 2,Pv 3,Pv 4,Pv 5,Pv 6,(7,.mp 16),Ov 8,(13,.v (.clo 168 [] [.fptr (cells w)])),Cv 36 O,Iv 37 (len O),Iv 38 z.2.1],[Xb 2 B,(3,.box [cp G]),Xb 4 (⟨0,0⟩:bf),(5,.box [bv false]),Xb 6 C.1,(16,ve z.2.2),Lb 2008 z.1],[2,3,4,5],[],true,0⟩) (λD=>(4,⟨[Pv 2,Pv 3,Pv 4,Pv 5,Pv 6,(7,.mp 16),Ov 8,(13,.v (.clo 168 [] [.fptr (cells w)]))],[Xb 2 B,(3,.box [cp G]),Xb 4 (⟨0,0⟩:bf),(5,.box [bv false]),Xb 6 C.1,(16,ve D.2),Lb 2008 D.1],[2,3,4,5],[],true,0⟩)) (λD=>⟨[],[Xb 2 B,(3,.box [cp G]),Xb 4 C.1,(5,.box [bv true])],[2,3,4,5],[],true,0⟩) (λz=>bB 8 39 (bQ 7 λT _=>bB 13 44 bh (aaa 7 16 z.2.2 T false (dB 3 49 bh (Yy 5 16 z.2.2 T true (oD 6 2008 54 55 λY _=>bh))))) bh) (λD=>bh) (λD=>bh))))) bh)) (λJ=>bh) (λJ=>bh))) (λS=>bh) (λx=>elim x) (λI=>bh)))
namespace iI
def MO(B D:Z4)(G:bf)(J:Int)(x:bf×WF):a_ (Fw Unit Empty (bf×Int)):=(dW D x.1 x.2).bind λu=>bl (u==0) (some (.n ())) (some (.r (x.1,u)))
def E2(B D:Z4)(G:bf)(J:Int):a_ (bf×Int):=(jQ B).bind λz=>(lH (λ(x:bf×WF)(q:Unit)=>MO B D G J x) z ()).bind (Fw.rK (λq=>(fq D).bind λu=>bl (u.2.2==0) ((u.1).bind λC=>(jb D C).bind λw=>bl w.2 (some (w.1,10)) (some (⟨0,0⟩,0))) (some (u.2.1,u.2.2))) (λe=>elim e) (λe=>some (e.1,e.2)))
def br(D:Int)(G:Z4)(J:bf)(U:Int)(B:Int):a_ (Fw Int Unit (bf×Int)):=bl (decide (B<D)) ((fu G B).bind λu=>bl (u==0) (some (.n (wrap .i64 (B+1)))) (some (.r ((⟨B,0⟩:bf),u)))) (some (.x ()))
def W1(J U:Int)(B:Z4)(D:bf)(G:Int):a_ (bf×Int):=(bW (λq:Int=>br J B D G q) U).bind (Fw.elim (λe=>(jT B).bind λu=>iI.E2 u B D G) (λe=>some (e.1,e.2)))
end iI
def iI(B:Z4):a_ (bf×Int):=(oN (len B.procs) 1 8).bind λu=>bl u (iI.W1 (len B.procs) 0 B (⟨0,0⟩:bf) 0) (some (⟨0,0⟩,1))
open iI in
instance XE(B:Z4):Fc Sy cL (iI B):=Fc.M 97 [enc B] (ct 2 1 B (b7 9 B.procs (bG 0 λO _=>dB 3 18 (b7 8 B.procs (eo 5 (λC=>(bL [Pv 1,Pv 2,Pv 3,Iv 22 (len B.procs),Iv 23 C] [Xb 1 B,Xb 2 (⟨0,0⟩:bf),(3,.box [iv 0])])) (λu=>(0,(bL [Pv 1,Pv 2,Pv 3] [Xb 1 B,Xb 2 (⟨0,0⟩:bf),(3,.box [iv 0])]))) (λu=>(bL [Pv 2,Pv 3] [Xb 2 u.1,(3,.box [iv u.2])])) (λC=>bB 7 24 (bG 15 λQ _=>dB 9 30 bh bh) bh) (λu=>bG 6 λz _=>FL λJ D=>CH 4 [Pv 1,Pv 2,Pv 3,(36,.v (.clo 168 [] [.fptr (cells z)]))] (λG=>[Xb 1 B,Xb 2 (⟨0,0⟩:bf),(3,.box [iv 0])]) (λw=>elim w) (λw=>[Xb 1 B,Xb 2 w.1,(3,.box [iv w.2])]) (AP z J D) (λL G=>oQ 8 7 0 L.2 (zy 1 (bG 7 λS _=>dB 9 44 bh bh))) (λG=>bG 5 λI _=>dB 17 54 (Kp 8 (λT=>(bL [Pv 2,Pv 3,(36,.v (.clo 168 [] [.fptr (cells z)])),Pv 10,Iv 11 I.2.2,Bv 54 false,Cv 58 B,Cv 59 T] [Xb 1 B,Xb 2 (⟨0,0⟩:bf),(3,.box [iv 0]),Xb 10 I.2.1])) λU _=>bG 0 λW _=>bB 13 63 bh bh) bh) (λx=>elim x) (λw=>bh)) (λu=>bh))) bh)))
def cU(B:Z4):a_ X':=(iI B).bind λu=>some (u.2==0)
instance XA(B:Z4):Fc Sy cL (cU B):=Fc.M 56 [enc B] (ct 2 1 B (bG 6 λu _=>bh))
def uZ(B:Int):a_ X':=(bl (B==2) (some true) (some (B==3)):a_ X').bind λu=>(bl u (some true) (some (B==4)):a_ X').bind λw=>some w
instance SY(B:Int):Fc Sy cL (uZ B):=Fc.M 216 [.int .i64 B] (cg 10 3 [5] 8 (bB 10 5 (bH 3) (bH 3)) λu=>cg 1 3 [0,9] 12 (bB 1 9 (bH 3) (bH 3)) λw=>bh)
def lE(B:Pred):a_ X':=(bl (decide (B.kind<1)) (some true) (some (decide (B.kind>=22))):a_ X').bind λz=>(bl z (some true) ((cu.at AJ B.kind).bind λC=>some (!((len B.l)==C))):a_ X').bind λD=>(bl D (some true) (some (decide (B.n<0))):a_ X').bind λG=>(bl G (some true) (some (decide (B.n>1125899906842624))):a_ X').bind λI=>(bl I (some true) ((bl (B.n==0) (some false) (some (!(B.kind==1))):a_ X').bind λJ=>some J):a_ X').bind λL=>bl L (some false) ((uZ B.kind).bind λO=>(bl O (some true) ((bl (B.proc==0) (some (B.peer==0)) (some false):a_ X').bind λQ=>(bl Q (some (toList B.name==toList ByteArray.empty)) (some false):a_ X').bind λu=>some u):a_ X').bind λw=>some w)
instance UL(B:Pred):Fc Sy cL (lE B):=Fc.M 179 [enc B] (ct 2 1 B (cg 10 4 [6] 10 (bB 10 6 (bH 4) (bH 4)) λD=>cg 1 9 [11] 20 (bB 1 11 (bH 9) (jK 2 13 (Pred.mN B.l) (b7 0 B.l (Nl 2 .i64 λu w=>Ni 0 1 false AJ B.kind 0 u w (.int .i64 u) (by rfl) (bH 2))))) λG=>cg 1 4 [21] 25 (bB 1 21 (bH 4) (bH 4)) λI=>cg 1 4 [26] 30 (bB 1 26 (bH 4) (bH 4)) λJ=>cg 1 9 [31] 40 (bB 1 31 (bH 9) (cg 4 4 [35] 39 (dB 4 35 (bH 4) (bH 4)) λL=>bH 1)) λO=>bB 2 40 bh (bG 7 λQ _=>cg 1 14 [1,44] 58 (bB 1 44 (bH 14) (cg 4 4 [48] 52 (bB 4 48 (bH 4) (bH 4)) λS=>cg 1 4 [1,53] 57 (bB 1 53 (bH 4) (bH 4)) λz=>bH 1)) λC=>bh)))
def iU(D:Pred)(G B:Int)(r:(Pred×Int×Int)->a_ (X'×Int)):a_ (X'×Int):=(r (D,wrap .i64 (G+1),B)).bind λu=>some ((!u.1),u.2)
abbrev yo(r:(Pred×Int×Int)->a_ (Bool×Int))(a:xO Sy cL 178 (λz:Pred×Int×Int=>[cv z.1,iv z.2.1,.ptr 9004 0,.ptr 9003 0]) (λz:Pred×Int×Int=>[(9004,bx (z.2.2:Int)),(9003,.box [.clo 178 [] [.ptr 9004 0,.ptr 9003 0]])]) (λr:Bool×Int=>[.bool r.1]) (λ(z:Pred×Int×Int)(r:Bool×Int)=>[(9004,bx (r.2:Int)),(9003,.box [.clo 178 [] [.ptr 9004 0,.ptr 9003 0]])]) r)(D:Pred)(G B:Int):oe Sy cL (iU D G B r):=oe.mk' 180 [cv D,.ptr 9003 0,.v (.fptr (cells G))] [(9003,.box [.clo 178 [] [.ptr 9004 0,.ptr 9003 0]]),(9004,bx (B:Int))] (λr:Bool×Int=>[.bool r.1]) (λr:Bool×Int=>[(9003,.box [.clo 178 [] [.ptr 9004 0,.ptr 9003 0]]),(9004,bx (r.2:Int))]) (ct 2 3 D (um 9 (oe.of (D,wrap .i64 (G+1),B) a) λu _=>bh))
def fh(G:Pred)(B D:Int)(r:(Pred×Int×Int)->a_ (X'×Int)):a_ (X'×Int):=(bl (decide ((wrap .i64 (D-1))<0)) (some true) (some (decide (B>20))):a_ X').bind λw=>(bl w (some true) ((lE G).bind λz=>some (!z)):a_ X').bind λC=>bl C (some (false,wrap .i64 (D-1))) ((Aq G.l (λx s=>iU x B s r) (wrap .i64 (D-1))).bind λu=>some ((!u.1),u.2))
theorem yj(r:(Pred×Int×Int)->a_ (X'×Int))(a:xO Sy cL 178 (λz:Pred×Int×Int=>[cv z.1,iv z.2.1,.ptr 9004 0,.ptr 9003 0]) (λz:Pred×Int×Int=>[(9004,bx (z.2.2:Int)),(9003,.box [.clo 178 [] [.ptr 9004 0,.ptr 9003 0]])]) (λr:X'×Int=>[.bool r.1]) (λ(z:Pred×Int×Int)(r:X'×Int)=>[(9004,bx (r.2:Int)),(9003,.box [.clo 178 [] [.ptr 9004 0,.ptr 9003 0]])]) r)(D:Pred)(B G:Int):∀J,fh D B G r=some J->∃m',cL 178 [cv D,iv B,.ptr 9004 0,.ptr 9003 0] [(9004,bx (G:Int)),(9003,.box [.clo 178 [] [.ptr 9004 0,.ptr 9003 0]])]=some (((λr:X'×Int=>[.bool r.1]) J).map .v,m')/\∀U,lW m' ([(9004,bx (G:Int)),(9003,.box [.clo 178 [] [.ptr 9004 0,.ptr 9003 0]])].map (·.1)) U=some (p_ U ((λr:X'×Int=>[(9004,bx (r.2:Int)),(9003,.box [.clo 178 [] [.ptr 9004 0,.ptr 9003 0]])]) J)):=(oe.mk' 178 [cv D,iv B,.ptr 9004 0,.ptr 9003 0] [(9004,bx (G:Int)),(9003,.box [.clo 178 [] [.ptr 9004 0,.ptr 9003 0]])] (λr:X'×Int=>[.bool r.1]) (λr:X'×Int=>[(9004,bx (r.2:Int)),(9003,.box [.clo 178 [] [.ptr 9004 0,.ptr 9003 0]])]) (ct 2 4 D (cg 17 3 [11] 14 (bB 17 11 (bH 3) (bH 3)) λu=>cg 1 4 [15] 19 (bB 1 15 (bH 4) (bG 1 λw _=>bH 2)) λC=>bB 2 19 bh (jK 7 21 (Pred.mN D.l) (um 2 (qe (yz.ofK (σ:=Int) (g:=180) (e:=[.ptr 9003 0,cp B]) (os:=λs=>[(9003,.box [.clo 178 [] [.ptr 9004 0,.ptr 9003 0]]),(9004,bx (s:Int))]) (p:=(λx s=>iU x B s r)) (λx s=>yo r a x B s)) D.l (wrap .i64 (G-1))) λI _=>bh)))):oe Sy cL (fh D B G r)).h
def qZ(D:Pred)(B G:Int):a_ (X'×Int):=iz (λr(z:Pred×Int×Int)=>fh z.1 z.2.1 z.2.2 r) 100000 (D,B,G)
abbrev Aa(D:Pred)(B G:Int):oe Sy cL (qZ D B G):=oe.of (D,B,G) (xO.fix (A:=λz:Pred×Int×Int=>[cv z.1,iv z.2.1,.ptr 9004 0,.ptr 9003 0]) (O:=λz:Pred×Int×Int=>[(9004,bx (z.2.2:Int)),(9003,.box [.clo 178 [] [.ptr 9004 0,.ptr 9003 0]])]) (E:=λr:Bool×Int=>[.bool r.1]) (M:=λ(z:Pred×Int×Int)(r:Bool×Int)=>[(9004,bx (r.2:Int)),(9003,.box [.clo 178 [] [.ptr 9004 0,.ptr 9003 0]])]) (b:=(λr(z:Pred×Int×Int)=>fh z.1 z.2.1 z.2.2 r)) Zae Zae Zae (λr a z=>yj r a z.1 z.2.1 z.2.2) 100000)
def mz(B:Pred):a_ X':=(qZ B 1 200).bind λu=>some u.1
instance RD(B:Pred):Fc Sy cL (mz B):=Fc.M 139 [enc B] (ct 2 1 B (um 26 (Aa B 1 200) λu _=>bh))
def kR(B:Z4)(p1:Int):a_ X':=(bl (decide (p1>=0)) (some (decide (p1<(len B.procs)))) (some false):a_ X').bind λu=>some u
instance RE(B:Z4)(p1:Int):Fc Sy cL (kR B p1):=Fc.M 182 [enc B,.int .i64 p1] (ct 2 2 B (cg 8 6 [1,2,7] 13 (bB 8 7 (b7 3 B.procs (bH 2)) (bH 6)) λu=>bh))
def oW(B:Var)(D:U'):a_ X':=some (toList B.name==toList D)
instance Pf(B:Var)(D:U'):Fc Sy cL (oW B D):=Fc.M 217 [enc B,.fptr (cells D)] (bh)
def rP(D:Z4)(p1:Int)(B:U'):a_ X':=(idx D.procs p1).bind λu=>(ig u.vars (λz=>oW z B)).bind λw=>some w
instance Ss(D:Z4)(p1:Int)(B:U'):Fc Sy cL (rP D p1 B):=Fc.M 183 [enc D,.int .i64 p1,.str B] (ct 2 3 D (bQ 9 λu _=>cZ (F:=qG 217 [.fptr (cells B)] (λz=>oW z B) kH.pT u.vars) 3 λw _=>bh))
def kV(B:Pred)(D:Z4):a_ X':=bl (B.kind==2) ((kR D B.proc).bind λC=>(bl C (some (B.peer==0)) (some false):a_ X').bind λG=>(bl G ((rP D B.proc B.name).bind λI=>some I) (some false):a_ X').bind λJ=>some J) (bl (B.kind==3) ((kR D B.proc).bind λL=>(bl L (some (B.peer==0)) (some false):a_ X').bind λO=>(bl O (some (toList B.name==toList ByteArray.empty)) (some false):a_ X').bind λQ=>some Q) (bl (B.kind==4) ((kR D B.proc).bind λS=>(bl S ((kR D B.peer).bind λT=>some T) (some false):a_ X').bind λu=>(bl u (some (!(B.proc==B.peer))) (some false):a_ X').bind λw=>(bl w (some (toList B.name==toList ByteArray.empty)) (some false):a_ X').bind λz=>some z) (some true)))
instance Lz(B:Pred)(D:Z4):Fc Sy cL (kV B D):=Fc.M 181 [enc B,.fptr (cells D)] (ct 2 2 B (bB 17 6 (bG 6 λC _=>cg 1 4 [12] 16 (bB 1 12 (bH 4) (bH 4)) λG=>cg 1 7 [1,2,17] 24 (bB 1 17 (bG 5 λI _=>bH 1) (bH 7)) λJ=>bh) (bB 7 25 (bG 6 λL _=>cg 1 4 [31] 35 (bB 1 31 (bH 4) (bH 4)) λO=>cg 1 4 [2,36] 40 (bB 1 36 (bH 4) (bH 4)) λQ=>bh) (bB 7 41 (bG 6 λS _=>cg 1 5 [1,47] 52 (bB 1 47 (bG 3 λT _=>bH 1) (bH 5)) λu=>cg 1 6 [53] 59 (bB 1 53 (bH 6) (bH 6)) λw=>cg 1 4 [2,60] 64 (bB 1 60 (bH 4) (bH 4)) λz=>bh) bh))))
def tA(B:Pred)(p1:Pred->a_ X')(r:Pred->a_ X'):a_ X':=(r B).bind λu=>some (!u)
abbrev Bm(g1:FuncId)(e1:aZ V)(p1:Pred->a_ Bool)(b:kH Sy cL g1 [] e1 (λz:Pred=>[enc z]) (λr:Bool=>[.bool r]) p1 true)(r:Pred->a_ Bool)(a:h_ Sy cL 144 (λz:Pred=>[enc z,.clo g1 [] e1]) (λr:Bool=>[.bool r]) r true)(B:Pred):Fc Sy cL (tA B p1 r):=Fc.M 190 [enc B,.fptr [.clo g1 [] e1]] (ct 2 2 B (bG (F:=Fc.of B a) 7 λu _=>bh))
def jD(D:Pred)(p1:Pred->a_ X')(r:Pred->a_ X'):a_ X':=(p1 D).bind λw=>(bl w ((Aq D.l (λx u=>((λz=>tA z p1 r) x).map λb=>(b,u)) ()).bind λB=>some (!B.1)) (some false):a_ X').bind λC=>some C
theorem Bc(g1:Y')(e1:T2)(p1:Pred->a_ X')(a:kH Sy cL g1 [] e1 (λz:Pred=>[enc z]) (λr:X'=>[.bool r]) p1 true)(r:Pred->a_ X')(b:h_ Sy cL 144 (λz:Pred=>[enc z,.clo g1 [] e1]) (λr:X'=>[.bool r]) r true)(B:Pred):Le ((jD B p1 r).bind λr=>some [.bool r]) (jX cL 144 [enc B,.clo g1 [] e1]):=(Fc.M 144 [enc B,.clo g1 [] e1] (ct 2 2 B (wQ 8 a.f B λw _=>yI 1 6 [] (λu=>(bL [Bv 14 u] [Xb 2 B])) (bB 1 8 (jK 2 10 (Pred.mN B.l) (um 2 (mJ (yz.YK (g:=190) (e:=[.fptr [.clo g1 [] e1]]) (p:=(λz=>tA z p1 r)) (kH.pT (F:=λz=>Bm g1 e1 p1 a r b z))) B.l ()) λC _=>bH 2)) (bH 7)) λu=>bh)):Fc Sy cL (jD B p1 r)).F.h ()
def nR(B:Pred)(p1:Pred->a_ X'):a_ X':=iz (λr(z:Pred)=>jD z p1 r) 100000 B
abbrev uj(g1:FuncId)(e1:aZ V)(p1:Pred->a_ Bool)(a:kH Sy cL g1 [] e1 (λz:Pred=>[enc z]) (λr:Bool=>[.bool r]) p1 true)(B:Pred):Fc Sy cL (nR B p1):=Fc.of B (h_.fix (A:=λz:Pred=>[enc z,.clo g1 [] e1]) (E:=λr:Bool=>[.bool r]) (sc:=true) (b:=(λr(z:Pred)=>jD z p1 r)) Zae (λ_ _=>rfl) (λr c z=>Bc g1 e1 p1 a r c z) 100000)
def oZ(B:Z4)(p1:Pred):a_ X':=(nR p1 (λz=>kV z B)).bind λu=>some u
instance Pd(B:Z4)(p1:Pred):Fc Sy cL (oZ B p1):=Fc.M 140 [enc B,enc p1] (ct 2 2 B (ct 0 3 p1 (cZ (F:=uj 181 [.fptr (cells B)] (λz=>kV z B) kH.pT p1) 7 λu _=>bh)))
def mA(B:Int):QQ:=bl (decide (B<=8)) (some 1) (some 2)
instance Rz(B:Int):Fc Sy cL (mA B):=Fc.M 186 [.int .i64 B] (bB 12 4 bh bh)
def sZ(B:Int):QQ:=bl (decide (B<=12)) (some 1) (some 2)
instance U5(B:Int):Fc Sy cL (sZ B):=Fc.M 187 [.int .i64 B] (bB 12 4 bh bh)
def mS(B D:Pred):a_ X':=(mA B.kind).bind λu=>(sZ D.kind).bind λw=>some (!(u==w))
instance LK(B D:Pred):Fc Sy cL (mS B D):=Fc.M 185 [enc B,.fptr (cells D)] (ct 2 2 B (cZ 7 λu _=>cZ 2 λw _=>bh))
def jB(B:Pred):a_ X':=(Aq B.l (λx u=>((λz=>mS z B) x).map λb=>(b,u)) ()).bind λw=>some (!w.1)
instance Pj(B:Pred):Fc Sy cL (jB B):=Fc.M 184 [enc B] (ct 2 1 B (jK 7 4 (Pred.mN B.l) (um 2 (mJ (yz.YK (g:=185) (e:=[.fptr (cells B)]) (p:=(λz=>mS z B)) kH.pT) B.l ()) λu _=>bh)))
def pG(B:Pred):a_ X':=(nR B (λz=>jB z)).bind λu=>some u
instance SU(B:Pred):Fc Sy cL (pG B):=Fc.M 141 [enc B] (ct 2 1 B (bG (F:=uj 184 [] (λz=>jB z) kH.pT B) 6 λu _=>bh))
namespace dD
def bP(D:Zg)(B i4:Int):a_ (Fw (Int×Int) Int Empty):=bl (decide (i4<(len D))) ((idx D i4).bind λu=>some (.n ((if u<B then u else B),wrap .i64 (i4+1)))) (some (.x B))
def W2(B:Zg)(D i4:Int):QQ:=(bW (λq:Int×Int=>bP B q.1 q.2) (D,i4)).bind (Fw.elim (λe=>some e) (λe=>elim e))
def J1(B:Zg):QQ:=(idx B 0).bind λu=>dD.W2 B u 1
end dD
def dD(B:Zg):QQ:=bl (decide ((len B)<1)) (none) (dD.J1 B)
open dD in
instance SJ(B:Zg):Fc Sy cL (dD B):=Fc.M 124 [enc B] (b7 9 B (bB 3 7 ((Le.none _)) (uc 4 (bQ 3 λz _=>fH 12 (λu=>(bL [Cv 0 B,Iv 3 u.1,Iv 4 u.2] [])) (λw=>(0,(bL [Iv 3 w] []))) (λu=>b7 6 B (bB 3 15 (bQ 9 λC _=>bh) bh)) (λw=>bh)))))
namespace dF
def bP(D:Zg)(B i4:Int):a_ (Fw (Int×Int) Int Empty):=bl (decide (i4<(len D))) ((idx D i4).bind λu=>some (.n ((if u>B then u else B),wrap .i64 (i4+1)))) (some (.x B))
def W2(B:Zg)(D i4:Int):QQ:=(bW (λq:Int×Int=>bP B q.1 q.2) (D,i4)).bind (Fw.elim (λe=>some e) (λe=>elim e))
def J1(B:Zg):QQ:=(idx B 0).bind λu=>dF.W2 B u 1
end dF
def dF(B:Zg):QQ:=bl (decide ((len B)<1)) (none) (dF.J1 B)
open dF in
instance Uf(B:Zg):Fc Sy cL (dF B):=Fc.M 138 [enc B] (b7 9 B (bB 3 7 ((Le.none _)) (uc 4 (bQ 3 λz _=>fH 12 (λu=>(bL [Cv 0 B,Iv 3 u.1,Iv 4 u.2] [])) (λw=>(0,(bL [Iv 3 w] []))) (λu=>b7 6 B (bB 3 15 (bQ 9 λC _=>bh) bh)) (λw=>bh)))))
def mI(B:Zg):a_ bT:=(dD B).bind λu=>(dF B).bind λw=>some ⟨u,w⟩
instance UX(B:Zg):Fc Sy cL (mI B):=Fc.M 220 [enc B] (bG 8 λu _=>bG 1 λw _=>bh)
namespace fG
def br(U:Int)(D:Sl WF)(G:Int)(J B:Int):a_ (Fw (Int×Int) Int Empty):=bl (decide (B<G)) ((idx D B).bind λu=>(bl (u.kind==2) (some (u.peer==U)) (some false):a_ X').bind λw=>bl w (some (.n (wrap .i64 (J+1),wrap .i64 (B+1)))) (some (.n (J,wrap .i64 (B+1))))) (some (.x J))
def W1(J U:Int)(B:Sl WF)(D G:Int):QQ:=(bW (λq:Int×Int=>br J B D q.1 q.2) (U,G)).bind (Fw.elim (λe=>some e) (λe=>elim e))
end fG
def fG(B:Z4)(p1 D:Int):QQ:=(idx B.procs p1).bind λu=>fG.W1 D 0 u.events (len u.events) 0
open fG in
instance Ph(B:Z4)(p1 D:Int):Fc Sy cL (fG B p1 D):=Fc.M 232 [enc B,.int .i64 p1,.int .i64 D] (ct 2 3 B (bQ 14 λu _=>b7 2 u.events (fH 5 (λw=>(bL [Iv 2 D,Iv 7 w.1,Cv 15 u.events,Iv 16 (len u.events),Iv 17 w.2] [])) (λz=>(0,(bL [Iv 7 z] []))) (λw=>bB 7 18 (bQ 7 λC _=>oQ 2 9 0 C (cg 8 5 [9,24] 29 (bB 8 24 (bH 5) (bH 5)) λG=>bB 2 29 bh bh)) bh) (λz=>bh))))
def o4(B:Var)(D:U'):a_ X':=some (toList B.name==toList D)
instance Pc(B:Var)(D:U'):Fc Sy cL (o4 B D):=Fc.M 259 [enc B,.fptr (cells D)] (bh)
def uR(D:bX)(B:U'):QQ:=(fL D.vars (λz=>o4 z B)).bind λu=>some u
instance Tv(D:bX)(B:U'):Fc Sy cL (uR D B):=Fc.M 257 [enc D,.str B] (ct 2 2 D (cZ (F:=oJ 259 [.fptr (cells B)] (λz=>o4 z B) kH.pT D.vars) 9 λu _=>bh))
def sR(D:Z4)(p1:Int)(B:U'):a_ (Int×Int):=(cU D).bind λw=>bl w ((bl (decide (p1<0)) (some true) (some (decide (p1>=(len D.procs)))):a_ X').bind λz=>bl z (some (0,2)) ((idx D.procs p1).bind λC=>(uR C B).bind λu=>bl (decide (u<0)) (some (0,13)) (some (u,0)))) (some (0,1))
instance UP(D:Z4)(p1:Int)(B:U'):Fc Sy cL (sR D p1 B):=Fc.M 250 [enc D,.int .i64 p1,.str B] (ct 2 3 D (bG 9 λu _=>dB 4 9 (cg 6 6 [16] 22 (bB 6 16 (bH 6) (b7 3 D.procs (bH 2))) λw=>bB 3 13 bh (bQ 9 λz _=>bG 2 λC _=>bB 10 31 bh bh)) bh))
def ec(s0:Zg):a_ Zg:=(Sl.isNil s0).bind λu=>bl u (some Sl.nil) ((oI (Sl.row []:Zg) s0).bind λw=>some w)
theorem gT:BW Sy cL 20 (λs0:Zg=>[enc s0]) (λz=>ec z):=BW.mk' (sw (Tx 20)) (λs0=>Dy 9 λu _=>bB 2 4 bh (zx 7 5 7 λw _=>bh))
def og(B:bX):a_ bX:=some B
instance Ry(B:bX):Fc Sy cL (og B):=Fc.NE (λr:bX=>[(.clo 222 [] [.fptr (cells r)])]) 191 [enc B] (ct 2 1 B bh)
namespace gz
def kB(D:bX)(G:Int)(x:Int×(Zg))(B:Zg):a_ (Fw Zg Empty Empty):=(idx x.2 G).bind λu=>(gC B (u:Int)).bind λw=>some (.n w)
def E1(B:bX)(G:Int)(D:Zg):a_ Zg:=(jM B).bind λu=>(lH (λ(x:Int×(Zg))(q:Zg)=>kB B G x q) u D).bind (Fw.rK (λq=>some q) (λe=>elim e) (λe=>elim e))
end gz
def gz(B:bX)(i1:Int):a_ Zg:=(og B).bind λu=>gz.E1 u i1 (Sl.nil:Zg)
open gz in
instance RI(D:bX)(i1:Int):Fc Sy cL (gz D i1):=Fc.N 251 [enc D,.int .i64 i1] (ct 2 2 D (bG 13 λz _=>FL λC B=>CH 5 [Pv 3,Pv 5,(9,.v (.clo 222 [] [.fptr (cells z)]))] (λu=>[(3,.box [iv i1]),(5,.box [.own 4100]),Lb 4100 u]) (λw=>elim w) (λw=>elim w) (Hi z C B) (λG u=>zy 3 (bQ 7 λI _=>oD 2 4100 17 18 λJ _=>bh)) (λu=>bh) (λx=>elim x) (λx=>elim x)))
def rU(G:Z4)(p1:Int)(B:U'):a_ (Int×Int×Int):=(sR G p1 B).bind λu=>bl (u.2==0) ((idx G.procs p1).bind λz=>(gz z u.1).bind λw=>(dD w).bind λC=>(dF w).bind λD=>some (C,D,0)) (some (0,0,u.2))
instance SD(D:Z4)(p1:Int)(B:U'):Fc Sy cL (rU D p1 B):=Fc.M 233 [enc D,.int .i64 p1,.str B] (ct 2 3 D (bG 10 λu _=>dB 14 19 (bQ 8 λw _=>bG 2 λz _=>bG 6 λC _=>bG 1 λG _=>bh) bh))
def gM(B:Z4)(p1:Pred):a_ bT:=bl (p1.kind==1) ((mI (Sl.row [p1.n]:Zg)).bind λw=>some w) (bl (p1.kind==3) ((idx B.procs p1.proc).bind λz=>some ⟨0,len z.events⟩) (bl (p1.kind==4) ((fG B p1.proc p1.peer).bind λC=>some ⟨0,C⟩) ((rU B p1.proc p1.name).bind λu=>some ⟨u.1,u.2.1⟩)))
instance Vc(B:Z4)(p1:Pred):Fc Sy cL (gM B p1):=Fc.M 218 [enc B,enc p1] (ct 2 2 B (ct 0 3 p1 (bB 17 10 (cZ 6 λw _=>bh) (bB 7 16 (bQ 7 λu _=>b7 2 u.events bh) (bB 7 27 (bG 8 λz _=>bh) (bG 11 λC _=>bh))))))
def jr(B:bT):a_ X':=(bl (decide (B.low<(-1125899906842624))) (some true) (some (decide (B.high>1125899906842624))):a_ X').bind λu=>some u
instance IE(B:bT):Fc Sy cL (jr B):=Fc.M 219 [enc B] (cg 12 4 [1,6] 10 (bB 12 6 (bH 4) (bH 4)) λu=>bh)
def qU(a0:Int):QQ:=some (if(wrap .i64 (0-a0))>a0 then(wrap .i64 (0-a0))else a0)
instance VR(a0:Int):Fc Sy cL (qU a0):=Fc.M 234 [.int .i64 a0] (bh)
def ij(a0 B:Int):QQ:=(bl (a0==0) (some true) (some (B==0)):a_ X').bind λu=>bl u (some 0) ((qU a0).bind λw=>(qU B).bind λz=>(AI .i64 1125899906842624 z).bind λC=>bl (decide (w>C)) (bl ((decide (a0<0))==(decide (B<0))) (some 1125899906842625) (some (wrap .i64 (0-1125899906842625)))) (some (wrap .i64 (a0*B))))
instance PT(a0 B:Int):Fc Sy cL (ij a0 B):=Fc.M 221 [.int .i64 a0,.int .i64 B] (cg 11 3 [8] 11 (bB 11 8 (bH 3) (bH 3)) λu=>bB 2 11 bh (bG 15 λw _=>bG 1 λz _=>aa3 0 λC _=>bB 3 20 (dB 15 25 bh bh) bh))
namespace c6
def J2(D B:bT)(r:(Z4×Pred)->a_ (bT×X')):a_ (bT×X'):=(jr B).bind λu=>some (B,(!u))
def J1(W U:X')(J:Pred)(G B D:bT)(r:(Z4×Pred)->a_ (bT×X')):a_ (bT×X'):=(bl W (some (!U)) (some true):a_ X').bind λC=>bl C (some (⟨0,0⟩,false)) (bl (J.kind==5) (c6.J2 G (⟨wrap .i64 (0-B.high),wrap .i64 (0-B.low)⟩:bT) r) (bl (J.kind==6) (c6.J2 G (⟨wrap .i64 (B.low+D.low),wrap .i64 (B.high+D.high)⟩:bT) r) (bl (J.kind==7) (c6.J2 G (⟨wrap .i64 (B.low-D.high),wrap .i64 (B.high-D.low)⟩:bT) r) ((ij B.low D.low).bind λI=>(ij B.low D.high).bind λL=>(ij B.high D.low).bind λu=>(ij B.high D.high).bind λw=>(mI (Sl.row [I,L,u,w]:Zg)).bind λz=>c6.J2 G z r))))
theorem qP(r:(Z4×Pred)->a_ (bT×X'))(a:h_ Sy cL 188 (λz:Z4×Pred=>[enc z.1,enc z.2]) (λr:bT×X'=>[enc r.1,.bool r.2]) r true)(D B:X')(G:Pred)(J U W:bT):Le ((J1 D B G J U W r).bind (λr=>some [enc r.1,.bool r.2])) (b_ Sy cL (q_ (tr Tx 188)) (uI (tb Tx 188) [1,1,1,1,1,0] [] (bL [Pv 3,Pv 4,Pv 7,Bv 8 D,Pv 9,Bv 10 B] [Xb 3 G,Xb 4 J,Xb 7 U,Xb 9 W]))):=cg 6 3 [10,48] 51 (dB 6 48 (bH 3) (bH 3)) λQ=>bB 2 51 bh (bB 22 77 (uc 14 (cZ 4 λu _=>bh)) (bB 7 86 (uc 18 (cZ 4 λu _=>bh)) (bB 7 99 (uc 18 (cZ 4 λu _=>bh)) (cZ 6 λI _=>cZ 4 λL _=>cZ 4 λw _=>cZ 4 λC _=>X7 0 ([I,L,w,C]:ST) (.buildC 1 4 [.int .i64 0] [0,1,2,3]) [iv I,iv L,iv w,iv C] (cZ 0 λO _=>uc 5 (cZ 4 λu _=>bh))))))
end c6
def dw(B:Z4)(p1:Pred)(r:(Z4×Pred)->a_ (bT×X')):a_ (bT×X'):=bl ((len p1.l)==0) ((gM B p1).bind λw=>(jr w).bind λC=>some (w,(!C))) ((idx p1.l 0).bind λD=>(r (B,D)).bind λu=>bl ((len p1.l)==2) ((idx p1.l 1).bind λG=>(r (B,G)).bind λz=>c6.J1 u.2 z.2 p1 (⟨0,0⟩:bT) u.1 z.1 r) (c6.J1 u.2 true p1 (⟨0,0⟩:bT) u.1 u.1 r))
open c6 in
theorem Ao(r:(Z4×Pred)->a_ (bT×X'))(a:h_ Sy cL 188 (λz:Z4×Pred=>[enc z.1,enc z.2]) (λr:bT×X'=>[enc r.1,.bool r.2]) r true)(B:Z4)(p1:Pred):Le ((dw B p1 r).bind λr=>some [enc r.1,.bool r.2]) (jX cL 188 [enc B,enc p1]):=(Fc.M 188 [enc B,enc p1] (ct 2 2 B (ct 0 3 p1 (jK 9 13 (Pred.mN p1.l) (b7 0 p1.l (bB 3 15 (bG 5 λG _=>cZ 8 λI _=>bh) (jK 8 26 (Pred.mN p1.l) (bQ 0 λC _=>cZ (F:=Fc.of (B,C) a) 1 λu _=>jK 21 34 (Pred.mN p1.l) (b7 0 p1.l (bB 3 36 (jK 5 40 (Pred.mN p1.l) (bQ 0 λD _=>cZ (F:=Fc.of (B,D) a) 1 λw _=>y8 8 (qP r a u.2 w.2 p1 (⟨0,0⟩:bT) u.1 w.1))) (y8 4 (qP r a u.2 true p1 (⟨0,0⟩:bT) u.1 u.1))))))))))):Fc Sy cL (dw B p1 r)).F.h ()
def c6(B:Z4)(p1:Pred):a_ (bT×X'):=iz (λr(z:Z4×Pred)=>dw z.1 z.2 r) 100000 (B,p1)
instance RH(B:Z4)(p1:Pred):Fc Sy cL (c6 B p1):=Fc.of (B,p1) (h_.fix (A:=λz:Z4×Pred=>[enc z.1,enc z.2]) (E:=λr:bT×X'=>[enc r.1,.bool r.2]) (sc:=true) (b:=(λr(z:Z4×Pred)=>dw z.1 z.2 r)) Zae (λ_ _=>rfl) (λr a z=>Ao r a z.1 z.2) 100000)
def oT(B:Pred)(D:Z4)(r:(Z4×Pred)->a_ X'):a_ X':=(r (D,B)).bind λu=>some (!u)
abbrev A6(r:(Trace×Pred)->a_ Bool)(a:h_ Sy cL 142 (λz:Trace×Pred=>[enc z.1,enc z.2]) (λr:Bool=>[.bool r]) r true)(B:Pred)(D:Trace):Fc Sy cL (oT B D r):=Fc.M 189 [enc B,.fptr (cells D)] (ct 2 2 B (bG (F:=Fc.of (D,B) a) 7 λu _=>bh))
def iq(D:Z4)(p1:Pred)(r:(Z4×Pred)->a_ X'):a_ X':=(mA p1.kind).bind λw=>bl (w==1) ((c6 D p1).bind λB=>some B.2) ((Aq p1.l (λx u=>((λz=>oT z D r) x).map λb=>(b,u)) ()).bind λC=>some (!C.1))
theorem A8(r:(Z4×Pred)->a_ X')(a:h_ Sy cL 142 (λz:Z4×Pred=>[enc z.1,enc z.2]) (λr:X'=>[.bool r]) r true)(B:Z4)(p1:Pred):Le ((iq B p1 r).bind λr=>some [.bool r]) (jX cL 142 [enc B,enc p1]):=(Fc.M 142 [enc B,enc p1] (ct 2 2 B (ct 0 3 p1 (bG 8 λu _=>bB 3 10 (bG 5 λw _=>bh) (jK 7 19 (Pred.mN p1.l) (um 2 (mJ (yz.YK (g:=189) (e:=[.fptr (cells B)]) (p:=(λz=>oT z B r)) (kH.pT (F:=λz=>A6 r a z B))) p1.l ()) λC _=>bh))))):Fc Sy cL (iq B p1 r)).F.h ()
def vk(B:Z4)(p1:Pred):a_ X':=iz (λr(z:Z4×Pred)=>iq z.1 z.2 r) 100000 (B,p1)
instance T3(B:Z4)(p1:Pred):Fc Sy cL (vk B p1):=Fc.of (B,p1) (h_.fix (A:=λz:Z4×Pred=>[enc z.1,enc z.2]) (E:=λr:X'=>[.bool r]) (sc:=true) (b:=(λr(z:Z4×Pred)=>iq z.1 z.2 r)) Zae (λ_ _=>rfl) (λr a z=>A8 r a z.1 z.2) 100000)
def rH(B:Z4)(p1:Pred):QQ:=(cU B).bind λu=>(bl u ((mz p1).bind λw=>some (!w)) (some true):a_ X').bind λz=>bl z (some 1) ((oZ B p1).bind λC=>bl C ((pG p1).bind λD=>bl D ((vk B p1).bind λG=>bl G (some 0) (some 9)) (some 14)) (some 13))
instance T0(B:Z4)(p1:Pred):Fc Sy cL (rH B p1):=Fc.M 104 [enc B,enc p1] (ct 2 2 B (ct 0 3 p1 (bG 8 λu _=>cg 2 4 [9] 13 (dB 2 9 (bG 1 λw _=>bH 2) (bH 4)) λz=>bB 3 5 bh (bG 5 λC _=>dB 4 14 (bG 4 λD _=>dB 4 19 (bG 5 λG _=>dB 4 23 bh bh) bh) bh))))
def sS(B:Pred):a_ (Int×Int):=(mz B).bind λu=>bl u ((pG B).bind λw=>bl w ((mA B.kind).bind λz=>some (z,0)) (some (0,14))) (some (0,1))
instance UQ(B:Pred):Fc Sy cL (sS B):=Fc.M 143 [enc B] (ct 2 1 B (bG 9 λu _=>dB 4 4 (bG 4 λw _=>dB 4 8 (bG 8 λz _=>bh) bh) bh))
def uM(D:Pred)(B:Int):QQ:=(sS D).bind λu=>(bl (u.2==0) (some (!(u.1==B))) (some true):a_ X').bind λw=>bl w (some 14) (some 0)
instance R_(D:Pred)(B:Int):Fc Sy cL (uM D B):=Fc.M 105 [enc D,.int .i64 B] (ct 2 2 D (bG 7 λu _=>cg 12 4 [1,5,14] 18 (dB 12 14 (bH 4) (bH 4)) λw=>bB 2 18 bh bh))
def sy(B:Int):a_ X':=(bl (decide (B>=18)) (some (decide (B<=21))) (some false):a_ X').bind λu=>some u
instance Pe(B:Int):Fc Sy cL (sy B):=Fc.M 146 [.int .i64 B] (cg 10 3 [0,5] 8 (bB 10 5 (bH 3) (bH 3)) λu=>bh)
def mW(B:Pred):a_ X':=(sy B.kind).bind λu=>some (!u)
instance Lx(B:Pred):Fc Sy cL (mW B):=Fc.M 145 [enc B] (ct 2 1 B (bG 7 λu _=>bh))
def o5(D:Pred):a_ X':=(mz D).bind λu=>(bl u ((nR D (λz=>mW z)).bind λw=>some (!w)) (some false):a_ X').bind λB=>some B
instance Pk(B:Pred):Fc Sy cL (o5 B):=Fc.M 106 [enc B] (ct 2 1 B (bG 6 λu _=>cg 1 4 [1,5] 9 (bB 1 5 (bG (F:=uj 145 [] (λz=>mW z) kH.pT B) 1 λw _=>bH 2) (bH 4)) λC=>bh))
namespace iP
def kB(D:Z4)(B G:Int)(J:bf)(U:X')(x:bf×WF):a_ (Fw Unit Empty bf):=(bl (x.2.kind==B) (some (x.2.message==G)) (some false):a_ X').bind λu=>bl u (some (.r x.1)) (some (.n ()))
def E1(B:Z4)(D G:Int)(J:bf)(U:X'):a_ (bf×X'):=(jQ B).bind λu=>(lH (λ(x:bf×WF)(q:Unit)=>kB B D G J U x) u ()).bind (Fw.rK (λq=>some (⟨0,0⟩,false)) (λe=>elim e) (λe=>some (e,true)))
end iP
def iP(D:Z4)(B G:Int):a_ (bf×X'):=(cU D).bind λu=>bl u ((jT D).bind λw=>iP.E1 w B G (⟨0,0⟩:bf) false) (some (⟨0,0⟩,false))
open iP in
instance Y4(G:Z4)(B D:Int):Fc Sy cL (iP G B D):=Fc.M 162 [enc G,.int .i64 B,.int .i64 D] (ct 2 3 G (bG 10 λL _=>dB 3 12 (bG 7 λw _=>FL λI z=>CH 4 [Pv 4,Pv 5,Pv 6,Pv 7,(15,.v (.clo 168 [] [.fptr (cells w)]))] (λC=>[(4,.box [iv B]),(5,.box [iv D]),Xb 6 (⟨0,0⟩:bf),(7,.box [bv false])]) (λu=>elim u) (λu=>[(4,.box [iv B]),(5,.box [iv D]),Xb 6 u,(7,.box [bv true])]) (AP w I z) (λJ C=>oQ 8 9 0 J.2 (zy 1 (cg 9 5 [9,22] 27 (bB 9 22 (bH 5) (bH 5)) λO=>bB 2 27 bh bh))) (λC=>bh) (λx=>elim x) (λu=>bh)) bh))
def ri(B:Z4)(m1:Int):a_ (bf×X'):=(iP B 2 m1).bind λu=>some (u.1,u.2)
instance VJ(B:Z4)(m1:Int):Fc Sy cL (ri B m1):=Fc.M 126 [enc B,.int .i64 m1] (ct 2 2 B (bG 8 λu _=>bh))
namespace lg
def J3(B:Sl bf)(W:Sl bX)(Y a:Int)(b:Sl WF)(c G:Int)(J:Z4)(d U:cz)(e:bX)(D:bf):a_ (Fw ((Sl bf)×Int×Z4×cz×cz) ((Sl bf)×Z4×cz) Empty):=(gC B (D:bf)).bind λu=>some (.n (u,wrap .i64 (G+1),J,(⟨Sl.nil,Sl.nil⟩:cz),U))
def bP(Y:Sl bX)(a b:Int)(J:Sl WF)(U:Int)(c:bX)(B:Sl bf)(D:Int)(G:Z4)(d W:cz):a_ (Fw ((Sl bf)×Int×Z4×cz×cz) ((Sl bf)×Z4×cz) Empty):=bl (decide (D<U)) ((idx J D).bind λu=>bl (u.kind==3) ((ri G u.message).bind λw=>J3 B Y a b J U D G (⟨Sl.nil,Sl.nil⟩:cz) W c w.1) (J3 B Y a b J U D G (⟨Sl.nil,Sl.nil⟩:cz) W c (⟨0,0⟩:bf))) (some (.x (B,G,W)))
def W2(B:Sl bf)(J:Sl bX)(U D:Int)(W:Sl WF)(Y a:Int)(b:Z4)(c d:cz)(G:bX):a_ (Fw (Int×Z4×cz×cz) cz Empty):=(bW (λq:(Sl bf)×Int×Z4×cz×cz=>bP J U D W Y G q.1 q.2.1 q.2.2.1 q.2.2.2.1 q.2.2.2.2) (B,a,b,c,d)).bind (Fw.elim (λe=>(gC e.2.2.lengths (len G.events:Int)).bind λu=>(gC e.2.2.need (e.1:Sl bf)).bind λw=>some (.n (wrap .i64 (D+1),e.2.1,(⟨Sl.nil,Sl.nil⟩:cz),(⟨u,w⟩:cz)))) (λe=>elim e))
def br(D:Sl bX)(G:Int)(B:Int)(U:Z4)(W J:cz):a_ (Fw (Int×Z4×cz×cz) cz Empty):=bl (decide (B<G)) ((idx D B).bind λu=>W2 (Sl.nil:Sl bf) D G B u.events (len u.events) 0 U (⟨Sl.nil,Sl.nil⟩:cz) J u) (some (.x J))
def W1(B:Sl bX)(D G:Int)(J:Z4)(U W:cz):a_ cz:=(bW (λq:Int×Z4×cz×cz=>br B D q.1 q.2.1 q.2.2.1 q.2.2.2) (G,J,U,W)).bind (Fw.elim (λe=>some e) (λe=>elim e))
end lg
def lg(B:Z4):a_ cz:=lg.W1 B.procs (len B.procs) 0 B (⟨Sl.nil,Sl.nil⟩:cz) (⟨Sl.nil,Sl.nil⟩:cz)
open lg in
instance aaP(D:Z4):Fc Sy cL (lg D):=Fc.N 174 [enc D] (ct 2 1 D (b7 13 D.procs (fH 7 (λu=>(bL [Pv 1,Pv 2,Pv 3,Cv 11 D.procs,Iv 12 (len D.procs),Iv 13 u.1] [Xb 1 u.2.1,Xb 2 (⟨Sl.nil,Sl.nil⟩:cz),(3,.box [.own 4060,.own 4061]),Lb 4060 u.2.2.2.lengths,Lb 4061 u.2.2.2.need])) (λC=>(0,(bL [Pv 2,Pv 3] [Xb 2 (⟨Sl.nil,Sl.nil⟩:cz),(3,.box [.own 4060,.own 4061]),Lb 4060 C.lengths,Lb 4061 C.need]))) (λu=>bB 9 14 (bQ 7 λw _=>oQ 2 5 0 w (b7 12 w.events (fH 8 (λz=>(bL [Pv 1,Pv 2,Pv 3,Pv 5,Ov 6,Cv 11 D.procs,Iv 12 (len D.procs),Iv 13 u.1,Cv 18 w.events,Iv 19 (len w.events),Iv 20 z.2.1] [Xb 1 z.2.2.1,Xb 2 (⟨Sl.nil,Sl.nil⟩:cz),(3,.box [.own 4060,.own 4061]),Xb 5 w,Lb 2006 z.1,Lb 4060 z.2.2.2.2.lengths,Lb 4061 z.2.2.2.2.need])) (λB=>(2,(bL [Pv 1,Pv 2,Pv 3,Pv 5,Ov 6,Cv 11 D.procs,Iv 12 (len D.procs),Iv 13 u.1] [Xb 1 B.2.1,Xb 2 (⟨Sl.nil,Sl.nil⟩:cz),(3,.box [.own 4060,.own 4061]),Xb 5 w,Lb 2006 B.1,Lb 4060 B.2.2.lengths,Lb 4061 B.2.2.need]))) (λz=>bB 10 21 (bQ 7 λG _=>oQ 2 8 0 G (bB 15 26 (bG 5 λJ _=>uc 10 (oD 4 2006 36 37 λI _=>bh)) (uc 7 (oD 4 2006 36 37 λI _=>bh)))) bh) (λB=>b7 8 w.events (oD 1 4060 44 45 λL _=>xW 9 50 ([B.1]:aZ (Sl bf)) (oD 0 4061 50 51 λO _=>bh)))))) bh) (λC=>oQ 7 2 0 C bh))))
def p9(J:cz)(B:Zg)(p2:Int):a_ X':=(idx B p2).bind λw=>(idx J.lengths p2).bind λz=>bl (w==z) (some false) ((idx J.need p2).bind λC=>(idx B p2).bind λD=>(idx C D).bind λu=>(idx B u.proc).bind λG=>some (decide (u.index<=G)))
instance Pr(B:cz)(D:Zg)(p2:Int):Fc Sy cL (p9 B D p2):=Fc.M 210 [enc B,enc D,.int .i64 p2] (ct 2 3 B (bQ 8 λu _=>bQ 4 λw _=>bB 4 17 bh (bQ 8 λz _=>bQ 3 λC _=>bQ 1 λG _=>bQ 12 λI _=>bh)))
def sW(B:Int):a_ X':=some (!(B==B))
instance Ur(B:Int):Fc Sy cL (sW B):=Fc.M 249 [.int .i64 B] (bh)
def qL(B D:Int):QQ:=(sW B).bind λw=>(sW D).bind λu=>bl w (bl u (some 0) (some (-1))) (bl u (some 1) (bl (decide (B<D)) (some (-1)) (bl (decide (B>D)) (some 1) (some 0))))
instance RG(B D:Int):Fc Sy cL (qL B D):=Fc.M 231 [.int .i64 B,.int .i64 D] (bG 8 λu _=>bG 6 λw _=>bB 9 11 (bB 7 12 bh bh) (bB 9 13 bh (bB 11 16 bh (bB 11 19 bh bh))))
namespace fM
def br(J D U:Zg)(G:Int)(B:Int):a_ (Fw Int Unit Int):=bl (decide (B<G)) ((idx U B).bind λw=>bl (decide (B>=(len D))) (some (.r 1)) ((idx D B).bind λz=>(qL w z).bind λu=>bl (u==0) (some (.n (wrap .i64 (B+1)))) (some (.r u)))) (some (.x ()))
def W1(B D U:Zg)(G J:Int):QQ:=(bW (λq:Int=>br B D U G q) J).bind (Fw.elim (λe=>bl (decide ((len B)<(len D))) (some (-1)) (some 0)) (λe=>some e))
end fM
def fM(B D:Zg):QQ:=fM.W1 B D B (len B) 0
open fM in
instance No(B D:Zg):Fc Sy cL (fM B D):=Fc.M 213 [enc B,enc D] (b7 9 B (eo 5 (λw=>(bL [Cv 0 B,Cv 1 D,Cv 9 B,Iv 10 (len B),Iv 11 w] [])) (λu=>(0,(bL [Cv 0 B,Cv 1 D] []))) (λu=>(bL [Iv 4 u] [])) (λw=>bB 7 12 (bQ 8 λz _=>b7 10 D (bB 3 19 bh (bQ 7 λC _=>bG 8 λG _=>dB 9 28 bh bh))) bh) (λu=>b7 6 B (b7 1 D (bB 3 35 bh bh))) (λu=>bh)))
def kD(a0 B:Zg):QQ:=(fM a0 B).bind λu=>some u
instance Ol(a0 B:Zg):Fc Sy cL (kD a0 B):=Fc.M 212 [enc a0,enc B] (bG 9 λu _=>bh)
namespace eW
def br(D G:Zg)(J:Int)(B:Int):a_ (Fw Int Unit Unit):=bl (decide (B<J)) ((idx D B).bind λu=>(idx G B).bind λw=>bl (u==w) (some (.n (wrap .i64 (B+1)))) (some (.r ()))) (some (.x ()))
def W1(B D:Zg)(G J:Int):a_ X':=(bW (λq:Int=>br B D G q) J).bind (Fw.elim (λe=>some true) (λe=>some false))
end eW
def eW(B D:Zg):a_ X':=bl ((len B)==(len D)) (eW.W1 B D (len B) 0) (some false)
open eW in
instance Rb(B D:Zg):Fc Sy cL (eW B D):=Fc.M 16 [enc B,enc D] (b7 9 B (b7 1 D (dB 3 10 (b7 7 B (eo 5 (λw=>(bL [Cv 0 B,Cv 1 D,Iv 12 (len B),Iv 13 w] [])) (λu=>(0,(bL [] []))) (λu=>(bL [Bv 4 false] [])) (λw=>bB 7 14 (bQ 15 λz _=>bQ 3 λC _=>dB 4 24 bh bh) bh) (λu=>bh) (λu=>bh))) bh)))
def mc(a0 B:Zg):a_ X':=(eW a0 B).bind λu=>some u
instance Oz(a0 B:Zg):Fc Sy cL (mc a0 B):=Fc.M 215 [enc a0,enc B] (bG 9 λu _=>bh)
namespace eU
def bP(U:Zg)(W:Zb)(Y a G:Int)(J:cz)(D:Zb)(B:Int):a_ (Fw ((Zb)×Int) Zb Empty):=bl (decide (B<G)) ((p9 J U B).bind λw=>bl w (((ec U).bind Sl.whole).bind λu=>(Sl.jc u B).bind λz=>(Sl.get u z).bind λC=>(Sl.jc u B).bind λI=>(Sl.put u I (wrap .i64 (C+1):Int)).bind λL=>(gC D (L:Zg)).bind λO=>some (.n (O,wrap .i64 (B+1)))) (some (.n (D,wrap .i64 (B+1))))) (some (.x D))
def W2(B:Zb)(a:Zg)(J:Zb)(D G U W:Int)(Y:cz):a_ (Fw ((Zb)×Int×Int) Zb Empty):=(bW (λq:(Zb)×Int=>bP a J D G U Y q.1 q.2) (B,W)).bind (Fw.elim (λe=>some (.n (e,D,wrap .i64 (G+1)))) (λe=>elim e))
def br(G:Zb)(U:cz)(B:Zb)(J D:Int):a_ (Fw ((Zb)×Int×Int) Zb Empty):=bl (decide (D<J)) ((idx G D).bind λu=>W2 B u G J D (len u) 0 U) (some (.x B))
def W1(B D:Zb)(G J:Int)(U:cz):a_ Zb:=(bW (λq:(Zb)×Int×Int=>br D U q.1 q.2.1 q.2.2) (B,G,J)).bind (Fw.elim (λe=>(AD e kD).bind λw=>(zd w mc).bind λu=>some u) (λe=>elim e))
end eU
def eU(D:cz)(B:Zb):a_ Zb:=eU.W1 (Sl.nil:Zb) B (len B) 0 D
open eU in
instance Rw(G:cz)(B:Zb):Fc Sy cL (eU G B):=Fc.N 175 [enc G,enc B] (ct 2 2 G (b7 12 B (fH 6 (λu=>(bL [Pv 2,Ov 5,Cv 10 B,Iv 11 u.2.1,Iv 12 u.2.2] [Xb 2 G,Lb 2005 u.1])) (λI=>(0,(bL [Ov 5] [Lb 2005 I]))) (λu=>bB 8 13 (bQ 7 λw _=>b7 7 w (fH 6 (λC=>(bL [Pv 2,Ov 5,Cv 7 w,Cv 10 B,Iv 11 u.2.1,Iv 12 u.2.2,Iv 17 (len w),Iv 18 C.2] [Xb 2 G,Lb 2005 C.1])) (λJ=>(2,(bL [Pv 2,Ov 5,Cv 10 B,Iv 11 u.2.1,Iv 12 u.2.2] [Xb 2 G,Lb 2005 J]))) (λC=>bB 8 19 (bG 16 λQ _=>bB 2 24 (NU 4 26 gT w λS _=>iM .i64 7 26 λT _=>oO 0 26 0 1 false (λD=>.int .i64 D) λD _=>iM .i64 1 26 λU _=>BA 0 26 (.int .i64 (wrap .i64 (D+1))) λL _=>xW 6 35 ([L]:aZ Zg) (oD 0 2005 35 36 λW _=>bh)) bh) bh) (λJ=>bh))) bh) (λI=>ZW 5 2005 IV CW Wx (h_.pT (λz=>inferInstanceAs (Fc Sy cL (kD z.1 z.2))) default (λ_=>rfl) (λ_=>rfl) (λ_=>rfl) (λ_=>rfl)) λX _=>Zv 5 2005 42 IV CW Xk (h_.pT (λz=>inferInstanceAs (Fc Sy cL (mc z.1 z.2))) default (λ_=>rfl) (λ_=>rfl) (λ_=>rfl) (λ_=>rfl)) λO _=>bh))))
namespace kJ
def br(J:cz)(B:Zb)(G:Sl Zb)(D:Int):a_ (Fw ((Zb)×(Sl Zb)×Int) (Sl Zb) Unit):=bl (decide ((len B)>0)) (bl (decide ((wrap .i64 (D+(len B)))>5000)) (some (.r ())) ((gC G (B:Zb)).bind λu=>(eU J B).bind λw=>some (.n (w,u,wrap .i64 (D+(len B)))))) (some (.x G))
def W1(B:Zb)(G:Sl Zb)(D:Int)(J:cz):a_ ((Sl Zb)×Int):=(bW (λq:(Zb)×(Sl Zb)×Int=>br J q.1 q.2.1 q.2.2) (B,G,D)).bind (Fw.elim (λe=>some (e,0)) (λe=>some ((Sl.nil:Sl Zb),16)))
end kJ
def kJ(B:Z4):a_ ((Sl Zb)×Int):=(cU B).bind λu=>bl u ((lg B).bind λw=>(pe (len B.procs) (0:Int)).bind λz=>kJ.W1 (Sl.row [z]:Zb) (Sl.nil:Sl Zb) 0 w) (some ((Sl.nil:Sl Zb),1))
open kJ in
instance XF(B:Z4):Fc Sy cL (kJ B):=Fc.N 133 [enc B] (ct 2 1 B (bG 8 λD _=>dB 3 10 (bG 6 λz _=>oQ 1 4 0 z (b7 6 B.procs (MI 0 16 λC _=>xW 1 17 ([C]:aZ Zg) (eo 18 (λu=>(bL [Pv 4,Cv 5 u.1,Ov 6,Iv 7 u.2.2] [Xb 4 z,Lb 2006 u.2.1])) (λw=>(0,(bL [Ov 6] [Lb 2006 w]))) (λw=>(bL [Ov 2,Iv 3 16] [Lb 2002 (Sl.nil:Sl Zb)])) (λu=>b7 7 u.1 (bB 3 20 (b7 10 u.1 (bB 10 29 bh (xW 6 32 ([u.1]:aZ Zb) (oD 0 2006 32 33 λG _=>bG 7 λI _=>bh)))) bh)) (λw=>bh) (λw=>bh))))) bh))
def gy(s:Sl Zb):a_ Zb:=if s.l.length<=2147483648/\(s.l.flatMap Sl.l).length<=2147483648 then some (D3 s)else none
instance N6(s:Sl Zb):Fc Sy cL (gy s):=Fc.of (A:=λz:Sl Zb=>[enc z]) (E:=λr:Zb=>[enc r]) (p:=gy) (n:=134) (z:=s) (h_.X5 Zae Zae (λz r h=>by
 unfold gy at h;split at h
 next a=>cases h;exact BI (Ws (E:=Sy.E) (N:=λn=>n) (gid:=176) (nm:=some) (λ_ _ h=>(Option.some.inj h).symm) rfl Zae Zae (DX Zae) (DX Zae) rfl z a.1 a.2)
 cases h))
def tP(B:Z4):a_ ((Zb)×Int):=(kJ B).bind λu=>(gy u.1).bind λw=>some (w,u.2)
instance Zn(B:Z4):Fc Sy cL (tP B):=Fc.N 98 [enc B] (ct 2 1 B (bG 7 λu _=>bG 10 λw _=>bh))
def ow(B:Z4):a_ ((Zb)×Int):=(tP B).bind λu=>some (u.1,u.2)
instance Zm(B:Z4):Fc Sy cL (ow B):=Fc.N 57 [enc B] (ct 2 1 B (bG 7 λu _=>bh))
def fR(B:Zg)(D:Z4):a_ X':=some (!((len B)==(len D.procs)))
instance V5(B:Zg)(D:Z4):Fc Sy cL (fR B D):=Fc.M 125 [enc B,.fptr (cells D)] (b7 8 B (b7 2 D.procs bh))
namespace gU
def br(s0:Zb)(D:Int)(B:Int)(p1:(Zg)->a_ X'):a_ (Fw Int Unit Int):=bl (decide (B<D)) ((idx s0 B).bind λu=>(p1 u).bind λw=>bl w (some (.r B)) (some (.n (wrap .i64 (B+1))))) (some (.x ()))
def W1(s0:Zb)(B D:Int)(p1:(Zg)->a_ X'):QQ:=(bW (λq:Int=>br s0 B q p1) D).bind (Fw.elim (λe=>some (-1)) (λe=>some e))
end gU
def gU(s0:Zb)(p1:(Zg)->a_ X'):QQ:=gU.W1 s0 (len s0) 0 p1
open gU in
abbrev yp(g1:FuncId)(e1:aZ V)(p1:(Sl Int)->a_ Bool)(a:kH Sy cL g1 [] e1 (λz:Sl Int=>[enc z]) (λr:Bool=>[.bool r]) p1 true)(s0:Sl (Sl Int)):Fc Sy cL (gU s0 p1):=Fc.M 69 [enc s0,.clo g1 [] e1] (b7 9 s0 (eo 5 (λw=>(bL [Cv 0 s0,(1,.v (.clo g1 [] e1)),Iv 7 (len s0),Iv 8 w] [])) (λu=>(0,(bL [] []))) (λu=>(bL [Iv 4 u] [])) (λw=>bB 7 9 (bQ 16 λB _=>wQ 1 a.f B λC _=>bB 2 16 bh bh) bh) (λu=>bh) (λu=>bh)))
def gZ(s0:Zb)(p1:(Zg)->a_ X'):a_ X':=(gU s0 p1).bind λu=>some (decide (u>=0))
abbrev mG(g1:FuncId)(e1:aZ V)(p1:(Sl Int)->a_ Bool)(a:kH Sy cL g1 [] e1 (λz:Sl Int=>[enc z]) (λr:Bool=>[.bool r]) p1 true)(s0:Sl (Sl Int)):Fc Sy cL (gZ s0 p1):=Fc.M 31 [enc s0,.clo g1 [] e1] (bG (F:=yp g1 e1 p1 a s0) 9 λu _=>bh)
def vU(D:Z4)(G:Zb):a_ X':=(cU D).bind λu=>(bl u ((gZ G (λz=>fR z D)).bind λw=>some (!w)) (some false):a_ X').bind λB=>some B
instance Zl(B:Z4)(D:Zb):Fc Sy cL (vU B D):=Fc.M 94 [enc B,enc D] (ct 2 2 B (bG 6 λu _=>cg 1 5 [1,2,7] 12 (bB 1 7 (cZ (F:=mG 125 [.fptr (cells B)] (λz=>fR z B) kH.pT D) 2 λw _=>bH 2) (bH 5)) λC=>bh))
namespace kK
def br(G:Zg)(J:Int)(D:Z4)(B:Int):a_ (Fw Int Unit Unit):=bl (decide (B<J)) ((idx G B).bind λu=>(bl (decide (u<0)) (some true) ((idx D.procs B).bind λw=>some (decide (u>(len w.events)))):a_ X').bind λz=>bl z (some (.r ())) (some (.n (wrap .i64 (B+1))))) (some (.x ()))
def W1(D:Zg)(G J:Int)(B:Z4):a_ X':=(bW (λq:Int=>br D G B q) J).bind (Fw.elim (λe=>some true) (λe=>some false))
end kK
def kK(D:Z4)(B:Zg):a_ X':=kK.W1 B (len B) 0 D
open kK in
instance Xp(D:Z4)(B:Zg):Fc Sy cL (kK D B):=Fc.M 95 [enc D,enc B] (ct 2 2 D (b7 7 B (eo 5 (λw=>(bL [Pv 2,Cv 7 B,Iv 8 (len B),Iv 9 w] [Xb 2 D])) (λu=>(0,(bL [] []))) (λu=>(bL [Bv 4 false] [])) (λw=>bB 7 10 (bQ 8 λC _=>cg 10 10 [5,6,16] 26 (bB 10 16 (bH 10) (bQ 4 λz _=>b7 2 z.events (bH 2))) λG=>bB 2 26 bh bh) bh) (λu=>bh) (λu=>bh))))
def vA(B:Z4)(p1:Int):a_ X':=(bl (decide (p1>=0)) (some (decide (p1<(len B.procs)))) (some false):a_ X').bind λu=>some u
instance XI(B:Z4)(p1:Int):Fc Sy cL (vA B p1):=Fc.M 150 [enc B,.int .i64 p1] (ct 2 2 B (cg 8 6 [1,2,7] 13 (bB 8 7 (b7 3 B.procs (bH 2)) (bH 6)) λu=>bh))
namespace iF
def bP(Y:Zg)(p7:Int)(a:Zg)(b c:Int)(J:Sl WF)(U:Int)(W:Z4)(G D:bf)(B:Int):a_ (Fw Int Unit (bf×bf)):=bl (decide (B<U)) ((idx J B).bind λw=>bl (w.kind==3) ((ri W w.message).bind λu=>(idx Y u.1.proc).bind λz=>bl (decide (u.1.index>z)) (some (.r (u.1,(⟨p7,wrap .i64 (B+1)⟩:bf)))) (some (.n (wrap .i64 (B+1))))) (some (.n (wrap .i64 (B+1))))) (some (.x ()))
def W2(a:Zg)(p7:Int)(J:Zg)(U G:Int)(W:Sl WF)(Y b:Int)(c:Z4)(D B:bf):a_ (Fw Int Unit (bf×bf)):=(bW (λq:Int=>bP a p7 J U G W Y c D B q) b).bind (Fw.elim (λe=>some (.n (wrap .i64 (G+1)))) (λe=>some (.r (e.1,e.2))))
def br(Y J:Zg)(U:Int)(W:Z4)(G B:bf)(D:Int):a_ (Fw Int Unit (bf×bf)):=bl (decide (D<U)) ((idx J D).bind λw=>(idx W.procs D).bind λz=>(fS z.events none (some w)).bind λu=>W2 Y D J U D u (len u) 0 W G B) (some (.x ()))
def W1(Y G:Zg)(J U:Int)(W:Z4)(D B:bf):a_ (bf×bf×X'):=(bW (λq:Int=>br Y G J W D B q) U).bind (Fw.elim (λe=>some (⟨0,0⟩,⟨0,0⟩,false)) (λe=>some (e.1,e.2,true)))
end iF
def iF(D:Z4)(B:Zg):a_ (bf×bf×X'):=iF.W1 B B (len B) 0 D (⟨0,0⟩:bf) (⟨0,0⟩:bf)
open iF in
instance XD(D:Z4)(B:Zg):Fc Sy cL (iF D B):=Fc.M 96 [enc D,enc B] (ct 2 2 D (b7 9 B (eo 5 (λu=>(bL [Cv 1 B,Pv 2,Pv 4,Pv 5,Cv 13 B,Iv 14 (len B),Iv 15 u] [Xb 2 D,Xb 4 (⟨0,0⟩:bf),Xb 5 (⟨0,0⟩:bf)])) (λw=>(0,(bL [Pv 4,Pv 5] [Xb 4 (⟨0,0⟩:bf),Xb 5 (⟨0,0⟩:bf)]))) (λw=>(bL [Pv 4,Pv 5,Bv 6 true] [Xb 4 w.1,Xb 5 w.2])) (λu=>bB 7 16 (bQ 8 λI _=>bQ 10 λL _=>AB 3 false true [.int .i64 I] λC _=>b7 0 C (eo 5 (λG=>(bL [Cv 1 B,Pv 2,Pv 4,Pv 5,Iv 7 u,Cv 13 B,Iv 14 (len B),Iv 15 u,Cv 27 C,Iv 28 (len C),Iv 29 G] [Xb 2 D,Xb 4 (⟨0,0⟩:bf),Xb 5 (⟨0,0⟩:bf)])) (λz=>(2,(bL [Cv 1 B,Pv 2,Pv 4,Pv 5,Cv 13 B,Iv 14 (len B),Iv 15 u] [Xb 2 D,Xb 4 (⟨0,0⟩:bf),Xb 5 (⟨0,0⟩:bf)]))) (λz=>(bL [Pv 4,Pv 5,Bv 6 true] [Xb 4 z.1,Xb 5 z.2])) (λG=>bB 7 30 (bQ 8 λJ _=>oQ 3 10 0 J (dB 10 36 (bG 8 λO _=>bQ 15 λQ _=>bB 4 51 bh bh) bh)) bh) (λz=>bh) (λz=>bh))) bh) (λw=>bh) (λw=>bh))))
def uD(B:Z4)(D:Zg):a_ X':=(iF B D).bind λu=>some (!u.2.2)
instance YM(B:Z4)(D:Zg):Fc Sy cL (uD B D):=Fc.M 151 [enc B,enc D] (ct 2 2 B (bG 7 λu _=>bh))
namespace cF
def eM(D:Zb)(G:Int)(J:Z4)(B:Int):a_ (Fw Int Unit Unit):=bl (decide (B<G)) ((idx D B).bind λu=>(uD J u).bind λw=>bl w (some (.n (wrap .i64 (B+1)))) (some (.r ()))) (some (.x ()))
def W3(B:Zb)(D G:Int)(J:Z4):QQ:=(bW (λq:Int=>eM B D J q) G).bind (Fw.elim (λe=>some 0) (λe=>some 18))
def bP(U:Zb)(D:Zg)(G:Int)(J:Z4)(B:Int):a_ (Fw Int Unit Unit):=bl (decide (B<G)) ((idx D B).bind λu=>(vA J u).bind λw=>bl w (some (.n (wrap .i64 (B+1)))) (some (.r ()))) (some (.x ()))
def W2(D:Zb)(G:Zg)(J U:Int)(B:Z4):QQ:=(bW (λq:Int=>bP D G J B q) U).bind (Fw.elim (λe=>cF.W3 D (len D) 0 B) (λe=>some 2))
def br(W:Zb)(D:Zg)(G:Zb)(J:Int)(U:Z4)(B:Int):a_ (Fw Int Unit Unit):=bl (decide (B<J)) ((idx G B).bind λu=>(kK U u).bind λw=>bl w (some (.n (wrap .i64 (B+1)))) (some (.r ()))) (some (.x ()))
def W1(W:Zb)(B:Zg)(G:Zb)(J U:Int)(D:Z4):QQ:=(bW (λq:Int=>br W B G J D q) U).bind (Fw.elim (λe=>cF.W2 W B (len B) 0 D) (λe=>some 2))
end cF
def cF(G:Z4)(D:Zb)(B:Zg):QQ:=(vU G D).bind λu=>bl u (cF.W1 D B D (len D) 0 G) (some 1)
open cF in
instance Zj(G:Z4)(D:Zb)(B:Zg):Fc Sy cL (cF G D B):=Fc.M 109 [enc G,enc D,enc B] (ct 2 3 G (bG 8 λL _=>dB 3 16 (b7 7 D (eo 5 (λC=>(bL [Cv 1 D,Cv 2 B,Pv 3,Cv 17 D,Iv 18 (len D),Iv 19 C] [Xb 3 G])) (λu=>(0,(bL [Cv 1 D,Cv 2 B,Pv 3] [Xb 3 G]))) (λu=>(bL [Iv 6 2] [])) (λC=>bB 7 20 (bQ 7 λO _=>bG 8 λQ _=>dB 3 26 bh bh) bh) (λu=>b7 6 B (eo 5 (λI=>(bL [Cv 1 D,Pv 3,Cv 28 B,Iv 29 (len B),Iv 30 I] [Xb 3 G])) (λw=>(2,(bL [Cv 1 D,Pv 3] [Xb 3 G]))) (λw=>(bL [Iv 6 2] [])) (λI=>bB 7 31 (bQ 7 λS _=>bG 8 λT _=>dB 3 37 bh bh) bh) (λw=>b7 6 D (eo 5 (λJ=>(bL [Pv 3,Cv 39 D,Iv 40 (len D),Iv 41 J] [Xb 3 G])) (λz=>(4,(bL [] []))) (λz=>(bL [Iv 6 18] [])) (λJ=>bB 7 42 (bQ 7 λU _=>bG 8 λW _=>dB 3 48 bh bh) bh) (λz=>bh) (λz=>bh))) (λw=>bh))) (λu=>bh))) bh))
namespace jU
def br(G:Zg)(J:Int)(B:Sl bf)(D:Int):a_ (Fw ((Sl bf)×Int) (Sl bf) Empty):=bl (decide (D<J)) ((idx G D).bind λu=>bl (decide (u>0)) ((gC B (⟨D,u⟩:bf)).bind λw=>some (.n (w,wrap .i64 (D+1)))) (some (.n (B,wrap .i64 (D+1))))) (some (.x B))
def W1(B:Sl bf)(D:Zg)(G J:Int):a_ ((Sl bf)×Int):=(bW (λq:(Sl bf)×Int=>br D G q.1 q.2) (B,J)).bind (Fw.elim (λe=>some (e,0)) (λe=>elim e))
end jU
def jU(D:Z4)(B:Zg):a_ ((Sl bf)×Int):=(cF D (Sl.row [B]:Zb) (Sl.nil:Zg)).bind λu=>bl (u==0) (jU.W1 (Sl.nil:Sl bf) B (len B) 0) (some (Sl.nil,u))
open jU in
instance Wv(D:Z4)(B:Zg):Fc Sy cL (jU D B):=Fc.N 147 [enc D,enc B] (ct 2 2 D (xW 9 12 ([B]:aZ Zg) (cZ 0 λz _=>dB 9 15 (b7 12 B (fH 6 (λu=>(bL [Ov 7,Cv 17 B,Iv 18 (len B),Iv 19 u.2] [Lb 2007 u.1])) (λw=>(0,(bL [Ov 7] [Lb 2007 w]))) (λu=>bB 8 20 (bQ 8 λC _=>bB 11 25 (oD 7 2007 30 31 λG _=>bh) bh) bh) (λw=>bh))) bh)))
namespace gx
def kB(B:bX)(D:Int)(x:Int×(Zg))(G:Zg):a_ (Fw Zg Empty Zg):=bl (x.1==D) (some (.r x.2)) (some (.n (Sl.nil:Zg)))
def E1(B:bX)(D:Int)(G:Zg):a_ Zg:=(jM B).bind λu=>(lH (λ(x:Int×(Zg))(q:Zg)=>kB B D x q) u G).bind (Fw.rK (λq=>some Sl.nil) (λe=>elim e) (λe=>some e))
end gx
def gx(B:bX)(k1:Int):a_ Zg:=(og B).bind λu=>gx.E1 u k1 (Sl.nil:Zg)
open gx in
instance RK(D:bX)(k1:Int):Fc Sy cL (gx D k1):=Fc.N 148 [enc D,.int .i64 k1] (ct 2 2 D (bG 8 λw _=>FL λC z=>CH 4 [Pv 3,Pv 4,(8,.v (.clo 222 [] [.fptr (cells w)]))] (λB=>[(3,.box [iv k1]),(4,.box [.v .bO])]) (λu=>elim u) (λu=>[(3,.box [iv k1]),(4,.box [cv u])]) (Hi w C z) (λG B=>zy 8 (bB 9 13 (oQ 4 4 0 G.2 bh) bh)) (λB=>bh) (λx=>elim x) (λu=>bh)))
namespace jk
def br(G:Zg)(J:Int)(U:Z4)(D:Zb)(B:Int):a_ (Fw ((Zb)×Int) Zb Empty):=bl (decide (B<J)) ((idx G B).bind λu=>(idx U.procs B).bind λw=>(gx w u).bind λz=>(gC D (z:Zg)).bind λC=>some (.n (C,wrap .i64 (B+1)))) (some (.x D))
def W1(B:Zb)(D:Zg)(G J:Int)(U:Z4):a_ ((Zb)×Int):=(bW (λq:(Zb)×Int=>br D G U q.1 q.2) (B,J)).bind (Fw.elim (λe=>some (e,0)) (λe=>elim e))
end jk
def jk(D:Z4)(B:Zg):a_ ((Zb)×Int):=(jU D B).bind λu=>bl (u.2==0) (jk.W1 (Sl.nil:Zb) B (len B) 0 D) (some (Sl.nil,u.2))
open jk in
instance Xo(D:Z4)(B:Zg):Fc Sy cL (jk D B):=Fc.N 107 [enc D,enc B] (ct 2 2 D (bG 9 λC _=>dB 13 18 (b7 12 B (fH 6 (λu=>(bL [Pv 2,Ov 8,Cv 20 B,Iv 21 (len B),Iv 22 u.2] [Xb 2 D,Lb 2008 u.1])) (λw=>(0,(bL [Ov 8] [Lb 2008 w]))) (λu=>bB 8 23 (bQ 8 λG _=>bQ 10 λI _=>bG 2 λz _=>xW 0 35 ([z]:aZ Zg) (oD 0 2008 35 36 λJ _=>bh)) bh) (λw=>bh))) bh))
def kE(B:Var)(D:Pred):a_ X':=some (toList B.name==toList D.name)
instance He(B:Var)(D:Pred):Fc Sy cL (kE B D):=Fc.M 223 [enc B,.fptr (cells D)] (bh)
def oG(D:cq)(p1:Pred):QQ:=(idx D.t.procs p1.proc).bind λu=>(fL u.vars (λz=>kE z p1)).bind λw=>(idx D.values p1.proc).bind λB=>(idx B w).bind λC=>some C
instance JN(B:cq)(p1:Pred):Fc Sy cL (oG B p1):=Fc.M 192 [enc B,enc p1] (ct 2 2 B (ct 0 3 p1 (bQ 10 λu _=>cZ (F:=oJ 223 [.fptr (cells p1)] (λz=>kE z p1) kH.pT u.vars) 3 λw _=>bQ 9 λC _=>bQ 2 λD _=>bh)))
def vo(B:Z4)(m1:Int):a_ (bf×X'):=(iP B 3 m1).bind λu=>some (u.1,u.2)
instance RS(B:Z4)(m1:Int):Fc Sy cL (vo B m1):=Fc.M 235 [enc B,.int .i64 m1] (ct 2 2 B (bG 8 λu _=>bh))
namespace i_
def br(W:Zg)(Y:Int)(J:Sl WF)(U:Z4)(B:Zg)(G D:Int):a_ (Fw ((Zg)×Int×Int) Zg Empty):=bl (decide (D<G)) ((idx J D).bind λu=>(bl (u.kind==2) (some (!(u.peer==Y))) (some true):a_ X').bind λC=>bl C (some (.n (B,G,wrap .i64 (D+1)))) ((vo U u.message).bind λw=>(bl w.2 ((idx W w.1.proc).bind λI=>some (decide (w.1.index>I))) (some true):a_ X').bind λL=>bl L ((gC B (u.message:Int)).bind λz=>some (.n (z,G,wrap .i64 (D+1)))) (some (.n (B,G,wrap .i64 (D+1)))))) (some (.x B))
def W1(W:Zg)(Y:Int)(B:Zg)(D:Sl WF)(G J:Int)(U:Z4):a_ ((Zg)×Int):=(bW (λq:(Zg)×Int×Int=>br W Y D U q.1 q.2.1 q.2.2) (B,G,J)).bind (Fw.elim (λe=>some (e,0)) (λe=>elim e))
end i_
def i_(B:Z4)(D:Zg)(p2 G:Int):a_ ((Zg)×Int):=(cF B (Sl.row [D]:Zb) (Sl.row [p2,G]:Zg)).bind λu=>bl (u==0) ((idx B.procs p2).bind λz=>(idx D p2).bind λC=>(fS z.events none (some C)).bind λw=>i_.W1 D G (Sl.nil:Zg) w (len w) 0 B) (some (Sl.nil,u))
open i_ in
instance Vq(B:Z4)(D:Zg)(p2 G:Int):Fc Sy cL (i_ B D p2 G):=Fc.N 224 [enc B,enc D,.int .i64 p2,.int .i64 G] (ct 2 4 B (xW 9 18 ([D]:aZ Zg) (cZ 3 λL _=>dB 9 24 (bQ 14 λO _=>bQ 4 λC _=>AB 1 false true [.int .i64 C] λw _=>b7 0 w (fH 6 (λu=>(bL [Cv 1 D,Iv 3 G,Pv 4,Ov 11,Cv 36 w,Iv 37 u.2.1,Iv 38 u.2.2] [Xb 4 B,Lb 2011 u.1])) (λz=>(0,(bL [Ov 11] [Lb 2011 z]))) (λu=>bB 8 39 (bQ 7 λI _=>oQ 2 13 0 I (cg 9 5 [45] 50 (dB 9 45 (bH 5) (bH 5)) λQ=>bB 2 50 bh (bG 8 λS _=>cg 13 9 [14,60] 69 (dB 13 60 (bQ 5 λT _=>bH 3) (bH 9)) λU=>bB 2 69 (oD 6 2011 73 74 λJ _=>bh) bh))) bh) (λz=>bh))) bh)))
def pM(B:cq)(p1:Pred):QQ:=(i_ B.t B.counts p1.proc p1.peer).bind λu=>some (len u.1)
instance Lq(B:cq)(p1:Pred):Fc Sy cL (pM B p1):=Fc.M 193 [enc B,enc p1] (ct 2 2 B (ct 0 3 p1 (bG 13 λu _=>b7 10 u.1 bh)))
def cN(B:cq)(p1:Pred)(r:(cq×Pred)->QQ):QQ:=bl (p1.kind==1) (some p1.n) (bl (p1.kind==2) ((oG B p1).bind λL=>some L) (bl (p1.kind==3) ((idx B.counts p1.proc).bind λO=>some O) (bl (p1.kind==4) ((pM B p1).bind λQ=>some Q) (bl (p1.kind==5) ((idx p1.l 0).bind λS=>(r (B,S)).bind λT=>some (wrap .i64 (0-T))) (bl (p1.kind==6) ((idx p1.l 0).bind λU=>(r (B,U)).bind λW=>(idx p1.l 1).bind λX=>(r (B,X)).bind λY=>some (wrap .i64 (W+Y))) (bl (p1.kind==7) ((idx p1.l 0).bind λu=>(r (B,u)).bind λw=>(idx p1.l 1).bind λz=>(r (B,z)).bind λC=>some (wrap .i64 (w-C))) ((idx p1.l 0).bind λD=>(r (B,D)).bind λG=>(idx p1.l 1).bind λI=>(r (B,I)).bind λJ=>some (wrap .i64 (G*J)))))))))
theorem wY(r:(cq×Pred)->QQ)(a:h_ Sy cL 149 (λz:cq×Pred=>[enc z.1,enc z.2]) (λr:Int=>[.int .i64 r]) r true)(B:cq)(p1:Pred):Le ((cN B p1 r).bind λr=>some [.int .i64 r]) (jX cL 149 [enc B,enc p1]):=(Fc.M 149 [enc B,enc p1] (ct 2 2 B (ct 0 3 p1 (bB 17 7 bh (bB 7 11 (bG 5 λT _=>bh) (bB 7 16 (bQ 7 λU _=>bh) (bB 7 24 (bG 5 λW _=>bh) (bB 7 29 (jK 6 33 (Pred.mN p1.l) (bQ 0 λG _=>cZ (F:=Fc.of (B,G) a) 1 λX _=>bh)) (bB 7 38 (jK 6 42 (Pred.mN p1.l) (bQ 0 λI _=>cZ (F:=Fc.of (B,I) a) 1 λY _=>jK 3 48 (Pred.mN p1.l) (bQ 0 λJ _=>cZ (F:=Fc.of (B,J) a) 1 λZ _=>bh))) (bB 7 53 (jK 6 57 (Pred.mN p1.l) (bQ 0 λu _=>cZ (F:=Fc.of (B,u) a) 1 λL _=>jK 3 63 (Pred.mN p1.l) (bQ 0 λw _=>cZ (F:=Fc.of (B,w) a) 1 λO _=>bh))) (jK 9 70 (Pred.mN p1.l) (bQ 0 λC _=>cZ (F:=Fc.of (B,C) a) 1 λQ _=>jK 3 76 (Pred.mN p1.l) (bQ 0 λD _=>cZ (F:=Fc.of (B,D) a) 1 λS _=>bh)))))))))))):Fc Sy cL (cN B p1 r)).F.h ()
def fc(B:cq)(p1:Pred):QQ:=iz (λr(z:cq×Pred)=>cN z.1 z.2 r) 100000 (B,p1)
instance LY(B:cq)(p1:Pred):Fc Sy cL (fc B p1):=Fc.of (B,p1) (h_.fix (A:=λz:cq×Pred=>[enc z.1,enc z.2]) (E:=λr:Int=>[.int .i64 r]) (sc:=true) (b:=(λr(z:cq×Pred)=>cN z.1 z.2 r)) Zae (λ_ _=>rfl) (λr a z=>wY r a z.1 z.2) 100000)
namespace eS
def J1(W:Int)(U:X')(D:cq)(B:Pred)(r:(cq×Pred)->a_ X'):a_ X':=bl U (some (B.kind==13)) (bl (W==15) ((idx B.l 0).bind λu=>(r (D,u)).bind λw=>some (!w)) (bl (W==16) ((idx B.l 0).bind λz=>(r (D,z)).bind λC=>(bl C ((idx B.l 1).bind λG=>(r (D,G)).bind λI=>some I) (some false):a_ X').bind λJ=>some J) ((idx B.l 0).bind λL=>(r (D,L)).bind λO=>(bl O (some true) ((idx B.l 1).bind λQ=>(r (D,Q)).bind λS=>some S):a_ X').bind λT=>some T)))
theorem qP(r:(cq×Pred)->a_ X')(a:h_ Sy cL 108 (λz:cq×Pred=>[enc z.1,enc z.2]) (λr:X'=>[.bool r]) r true)(U:Int)(G:X')(B:cq)(D:Pred):Le ((J1 U G B D r).bind (λr=>some [.bool r])) (b_ Sy cL (q_ (tr Tx 108)) (uI (tb Tx 108) [1,0,1,0,1,1,1,1,1,1,1,1,1,0] [] (bL [Pv 2,Pv 3,Iv 6 U,Bv 67 G] [Xb 2 B,Xb 3 D]))):=bB 0 67 bh (bB 7 73 (jK 6 77 (Pred.mN D.l) (bQ 0 λC _=>cZ (F:=Fc.of (B,C) a) 1 λQ _=>bh)) (bB 7 82 (jK 6 86 (Pred.mN D.l) (bQ 0 λI _=>cZ (F:=Fc.of (B,I) a) 1 λS _=>yI 1 7 [96,89] (λu=>(bL [Bv 67 false,Bv 73 false,Bv 82 true,Bv 97 u] [Xb 2 B,Xb 3 D])) (bB 1 90 (jK 3 93 (Pred.mN D.l) (bQ 0 λJ _=>cZ (F:=Fc.of (B,J) a) 1 λT _=>bH 1)) (bH 7)) λu=>bh)) (jK 9 100 (Pred.mN D.l) (bQ 0 λL _=>cZ (F:=Fc.of (B,L) a) 1 λW _=>yI 1 7 [110,103] (λw=>(bL [Bv 67 false,Bv 73 false,Bv 82 false,Bv 111 w] [Xb 2 B,Xb 3 D])) (bB 1 104 (bH 7) (jK 3 107 (Pred.mN D.l) (bQ 0 λO _=>cZ (F:=Fc.of (B,O) a) 1 λX _=>bH 1))) λw=>bh))))
end eS
def dV(B:cq)(p1:Pred)(r:(cq×Pred)->a_ X'):a_ X':=bl (p1.kind==9) ((idx p1.l 0).bind λJ=>(fc B J).bind λL=>(idx p1.l 1).bind λO=>(fc B O).bind λQ=>some (L==Q)) (bl (p1.kind==10) ((idx p1.l 0).bind λS=>(fc B S).bind λT=>(idx p1.l 1).bind λU=>(fc B U).bind λW=>some (!(T==W))) (bl (p1.kind==11) ((idx p1.l 0).bind λX=>(fc B X).bind λu=>(idx p1.l 1).bind λw=>(fc B w).bind λz=>some (decide (u<z))) (bl (p1.kind==12) ((idx p1.l 0).bind λC=>(fc B C).bind λD=>(idx p1.l 1).bind λG=>(fc B G).bind λI=>some (decide (D<=I))) (bl (p1.kind==13) (eS.J1 p1.kind true B p1 r) (eS.J1 p1.kind (p1.kind==14) B p1 r)))))
open eS in
theorem xT(r:(cq×Pred)->a_ X')(a:h_ Sy cL 108 (λz:cq×Pred=>[enc z.1,enc z.2]) (λr:X'=>[.bool r]) r true)(B:cq)(p1:Pred):Le ((dV B p1 r).bind λr=>some [.bool r]) (jX cL 108 [enc B,enc p1]):=(Fc.M 108 [enc B,enc p1] (ct 2 2 B (ct 0 3 p1 (bB 17 7 (jK 6 11 (Pred.mN p1.l) (bQ 0 λL _=>cZ 1 λO _=>jK 3 17 (Pred.mN p1.l) (bQ 0 λQ _=>cZ 1 λS _=>bh))) (bB 7 22 (jK 6 26 (Pred.mN p1.l) (bQ 0 λT _=>cZ 1 λU _=>jK 3 32 (Pred.mN p1.l) (bQ 0 λW _=>cZ 1 λX _=>bh))) (bB 7 37 (jK 6 41 (Pred.mN p1.l) (bQ 0 λY _=>cZ 1 λu _=>jK 3 47 (Pred.mN p1.l) (bQ 0 λw _=>cZ 1 λC _=>bh))) (bB 7 52 (jK 6 56 (Pred.mN p1.l) (bQ 0 λD _=>cZ 1 λG _=>jK 3 62 (Pred.mN p1.l) (bQ 0 λI _=>cZ 1 λJ _=>bh))) (bB 8 67 (y8 4 (qP r a p1.kind true B p1)) (y8 7 (qP r a p1.kind (p1.kind==14) B p1))))))))):Fc Sy cL (dV B p1 r)).F.h ()
def eS(B:cq)(p1:Pred):a_ X':=iz (λr(z:cq×Pred)=>dV z.1 z.2 r) 100000 (B,p1)
instance MR(B:cq)(p1:Pred):Fc Sy cL (eS B p1):=Fc.of (B,p1) (h_.fix (A:=λz:cq×Pred=>[enc z.1,enc z.2]) (E:=λr:X'=>[.bool r]) (sc:=true) (b:=(λr(z:cq×Pred)=>dV z.1 z.2 r)) Zae (λ_ _=>rfl) (λr a z=>xT r a z.1 z.2) 100000)
namespace gX
def br(Y J:Zb)(U:Int)(G:Z4)(W:Pred)(B:Sl X')(D:Int):a_ (Fw ((Sl X')×Int) (Sl X') ((Zb)×(Sl X')×Int)):=bl (decide (D<U)) ((idx J D).bind λw=>(jk G w).bind λu=>bl (u.2==0) ((eS (⟨G,w,u.1⟩:cq) W).bind λz=>(gC B (z:X')).bind λC=>some (.n (C,wrap .i64 (D+1)))) (some (.r ((Sl.nil:Zb),(Sl.nil:Sl X'),u.2)))) (some (.x B))
def W1(Y:Zb)(B:Sl X')(D:Zb)(G J:Int)(U:Z4)(W:Pred):a_ ((Zb)×(Sl X')×Int):=(bW (λq:(Sl X')×Int=>br Y D G U W q.1 q.2) (B,J)).bind (Fw.elim (λe=>some (Y,e,0)) (λe=>some (e.1,e.2.1,e.2.2)))
end gX
def gX(B:Z4)(p1:Pred):a_ ((Zb)×(Sl X')×Int):=(rH B p1).bind λw=>bl (w==0) ((uM p1 2).bind λz=>bl (z==0) ((o5 p1).bind λC=>bl C (some (Sl.nil,(Sl.nil:Sl X'),15)) ((ow B).bind λu=>bl (u.2==0) (gX.W1 u.1 (Sl.nil:Sl X') u.1 (len u.1) 0 B p1) (some (Sl.nil,(Sl.nil:Sl X'),u.2)))) (some (Sl.nil,(Sl.nil:Sl X'),z))) (some (Sl.nil,(Sl.nil:Sl X'),w))
open gX in
instance V9(B:Z4)(p1:Pred):Fc Sy cL (gX B p1):=Fc.N 68 [enc B,enc p1] (ct 2 2 B (ct 0 3 p1 (bG 10 λG _=>dB 9 20 (bG 7 λI _=>dB 9 25 (bG 7 λJ _=>bB 2 28 bh (bG 6 λw _=>dB 14 35 (b7 12 w.1 (eo 6 (λz=>(bL [Pv 2,Pv 3,Cv 9 w.1,Ov 11,Cv 37 w.1,Iv 38 (len w.1),Iv 39 z.2] [Xb 2 B,Xb 3 p1,Lb 2011 z.1])) (λu=>(0,(bL [Cv 9 w.1,Ov 11] [Lb 2011 u]))) (λu=>(bL [Cv 4 u.1,Ov 5,Iv 6 u.2.2] [Lb 2005 u.2.1])) (λz=>bB 8 40 (bQ 7 λC _=>bG 8 λD _=>dB 14 50 (aa0 8 (⟨B,C,D.1⟩:cq) [enc B,enc C,enc D.1] [.bO,.bO,.bO] [(0,1),(1,1),(2,1)] (by simp only[NC,QK,me,Qn,MP,PN,Pm];rfl) rfl (bG 1 λL _=>oD 1 2011 59 60 λO _=>bh)) bh) bh) (λu=>bh) (λu=>bh))) bh)) bh) bh)))
namespace eX
def br(B:Sl X')(J:Zb)(U:Int)(D:Zb)(G:Int):a_ (Fw ((Zb)×Int) Zb Empty):=bl (decide (G<U)) ((idx J G).bind λu=>(idx B G).bind λw=>bl w ((gC D (u:Zg)).bind λz=>some (.n (z,wrap .i64 (G+1)))) (some (.n (D,wrap .i64 (G+1))))) (some (.x D))
def W1(B:Sl X')(D G:Zb)(J U:Int):a_ ((Zb)×Int):=(bW (λq:(Zb)×Int=>br B G J q.1 q.2) (D,U)).bind (Fw.elim (λe=>some (e,0)) (λe=>elim e))
end eX
def eX(B:Z4)(p1:Pred):a_ ((Zb)×Int):=(gX B p1).bind λu=>bl (u.2.2==0) (eX.W1 u.2.1 (Sl.nil:Zb) u.1 (len u.1) 0) (some (Sl.nil,u.2.2))
open eX in
instance Ty(B:Z4)(p1:Pred):Fc Sy cL (eX B p1):=Fc.N 29 [enc B,enc p1] (ct 2 2 B (ct 0 3 p1 (bG 8 λu _=>dB 16 20 (b7 12 u.1 (fH 6 (λw=>(bL [Cv 7 u.2.1,Ov 9,Cv 22 u.1,Iv 23 (len u.1),Iv 24 w.2] [Lb 2009 w.1])) (λz=>(0,(bL [Ov 9] [Lb 2009 z]))) (λw=>bB 8 25 (bQ 8 λC _=>bQ 9 λD _=>bB 3 32 (xW 4 35 ([C]:aZ Zg) (oD 0 2009 35 36 λG _=>bh)) bh) bh) (λz=>bh))) bh)))
def kM(B D:Zg):a_ X':=(eW D B).bind λu=>some u
instance Ix(B D:Zg):Fc Sy cL (kM B D):=Fc.M 36 [enc B,.fptr (cells D)] (bG 9 λu _=>bh)
def ku(B:Zg)(D:Zb):a_ X':=(gZ D (λz=>kM z B)).bind λu=>some u
instance Ls(B:Zg)(D:Zb):Fc Sy cL (ku B D):=Fc.M 35 [enc B,.fptr (cells D)] (ct 2 2 B (cZ (F:=mG 36 [.fptr (cells B)] (λz=>kM z B) kH.pT D) 7 λu _=>bh))
namespace iD
def br(a1 J:Zg)(G:Int)(B:Zg)(D:Int)(p3:(Int×Int)->QQ):a_ (Fw ((Zg)×Int) Zg Empty):=bl (decide (D<G)) ((idx a1 D).bind λu=>(idx J D).bind λw=>(p3 (u,w)).bind λz=>(Sl.jc B D).bind λC=>(Sl.put B C (z:Int)).bind λI=>some (.n (I,wrap .i64 (D+1)))) (some (.x B))
def W1(a1 J B:Zg)(D G:Int)(p3:(Int×Int)->QQ):a_ ((Zg)×Int):=(bW (λq:(Zg)×Int=>br a1 J D q.1 q.2 p3) (B,G)).bind (Fw.elim (λe=>some (e,0)) (λe=>elim e))
end iD
def iD(D:Z4)(a1 B:Zg)(p3:(Int×Int)->QQ):a_ ((Zg)×Int):=(cF D (Sl.row [a1,B]:Zb) (Sl.nil:Zg)).bind λu=>bl (u==0) ((pe (len a1) (0:Int)).bind λw=>iD.W1 a1 B w (len a1) 0 p3) (some (Sl.nil,u))
open iD in
abbrev A2(g3:FuncId)(e3:aZ V)(p3:(Int×Int)->a_ Int)(J:kH Sy cL g3 [] e3 (λz:Int×Int=>[.int .i64 z.1,.int .i64 z.2]) (λr:Int=>[.int .i64 r]) p3 true)(D:Trace)(a1 B:Sl Int):Fc Sy cL (iD D a1 B p3):=Fc.N 70 [enc D,enc a1,enc B,.clo g3 [] e3] (ct 2 4 D (xW 10 16 ([a1,B]:aZ (Sl Int)) (cZ 0 λL _=>dB 9 19 (b7 6 a1 (MI 0 23 λO _=>b7 7 a1 (fH 6 (λu=>(bL [Cv 1 a1,Cv 2 B,(3,.v (.clo g3 [] e3)),Ov 11,Iv 25 (len a1),Iv 26 u.2] [Lb 2011 u.1])) (λw=>(0,(bL [Ov 11] [Lb 2011 w]))) (λu=>bB 8 27 (bQ 17 λC _=>bQ 3 λG _=>wQ 1 J.f (C,G) λI _=>iM .i64 0 2011 λQ _=>BA 0 2011 (.int .i64 I) λS _=>bh) bh) (λw=>bh)))) bh)))
def vB(B D:Int):QQ:=some (if D<B then D else B)
instance Xx(B D:Int):Fc Sy cL (vB B D):=Fc.M 71 [.int .i64 B,.int .i64 D] (bh)
def Ae(B:Z4)(a1 D:Zg):a_ ((Zg)×Int):=(iD B a1 D (λz=>vB z.1 z.2)).bind λu=>some (u.1,u.2)
instance aap(B:Z4)(a1 D:Zg):Fc Sy cL (Ae B a1 D):=Fc.N 37 [enc B,enc a1,enc D] (ct 2 3 B (bG (F:=A2 71 [] (λz=>vB z.1 z.2) kH.pT B a1 D) 9 λu _=>bh))
def vu(B D:Int):QQ:=some (if D>B then D else B)
instance Xr(B D:Int):Fc Sy cL (vu B D):=Fc.M 72 [.int .i64 B,.int .i64 D] (bh)
def Ab(B:Z4)(a1 D:Zg):a_ ((Zg)×Int):=(iD B a1 D (λz=>vu z.1 z.2)).bind λu=>some (u.1,u.2)
instance aah(B:Z4)(a1 D:Zg):Fc Sy cL (Ab B a1 D):=Fc.N 38 [enc B,enc a1,enc D] (ct 2 3 B (bG (F:=A2 72 [] (λz=>vu z.1 z.2) kH.pT B a1 D) 9 λu _=>bh))
def pS(B:Z4)(p1:Pred):a_ ((Sl X')×Int):=(gX B p1).bind λu=>some (u.2.1,u.2.2)
instance TO(B:Z4)(p1:Pred):Fc Sy cL (pS B p1):=Fc.N 82 [enc B,enc p1] (ct 2 2 B (ct 0 3 p1 (bG 8 λu _=>bh)))
namespace fV
def br(J:Zg)(D:Int)(G:Sl U8)(B:Int):a_ (Fw ((Sl U8)×Int) (Sl U8) Empty):=bl (decide (B<D)) ((idx J B).bind λu=>(gC G (⟨wrap .u8 u⟩:U8)).bind λw=>some (.n (w,wrap .i64 (B+1)))) (some (.x G))
def W1(G:Sl U8)(J:Zg)(B D:Int):a_ U':=(bW (λq:(Sl U8)×Int=>br J B q.1 q.2) (G,D)).bind (Fw.elim (λe=>some (K2 e)) (λe=>elim e))
end fV
def fV(B:Zg):a_ U':=(sJ (len B) (⟨0⟩:U8)).bind λu=>fV.W1 u B (len B) 0
open fV in
instance Y1(B:Zg):Fc Sy cL (fV B):=Fc.M 84 [enc B] (b7 8 B (aba (zero:=[.int .u8 0]) 0 8 λz _=>b7 7 B (fH 6 (λu=>(bL [Ov 3,Cv 9 B,Iv 10 (len B),Iv 11 u.2] [Lb 2003 u.1])) (λw=>(0,(bL [Ov 3] [Lb 2003 w]))) (λu=>bB 8 12 (bQ 7 λC _=>oD 9 2003 18 19 λD _=>bh) bh) (λw=>Zq 5 2003 w bh))))
namespace jS
def br(J:Zb)(U:Int)(D:Int)(G:Mo ByteArray Int)(B:b9):a_ (Fw (Int×(Mo ByteArray Int)×b9) ((Mo ByteArray Int)×b9) Empty):=bl (decide (D<U)) ((idx J D).bind λu=>(fV u).bind λw=>some (.n (wrap .i64 (D+1),mT G w D,(⟨B.t,B.l,⟨none⟩,B.truth⟩:b9)))) (some (.x (G,(⟨B.t,B.l,⟨none⟩,B.truth⟩:b9))))
def W1(G:Zb)(J U:Int)(B:Mo ByteArray Int)(D:b9):a_ (a_ b9):=(bW (λq:Int×(Mo ByteArray Int)×b9=>br G J q.1 q.2.1 q.2.2) (U,B,D)).bind (Fw.elim (λe=>some (some (⟨e.2.t,e.2.l,⟨some e.1⟩,e.2.truth⟩:b9))) (λe=>elim e))
end jS
def jS(G:Z4)(D:Zb)(B:Sl X'):a_ (a_ b9):=jS.W1 D (len D) 0 [] (⟨G,D,⟨none⟩,B⟩:b9)
open jS in
instance Xn(G:Z4)(D:Zb)(B:Sl X'):Fc Sy cL (jS G D B):=Fc.N 58 [enc G,enc D,enc B] (ct 2 3 G (aas 9 [cv G,cv D,.mp 12,cv B] [cv G.procs,cv D,.mp 12,cv B] [.bO,.bO,.gQ,.bO] [(0,1),(1,1),(2,1),(3,1)] (by simp only[Ei,Pp,T8,Nv,PI,OW,me,Qn,MP,PN,Pm];rfl) (ZG 0 15 [cv G.procs,cv D,.mp 12,cv B] (by simp only[all_cons,XN,SC,Xd,RW,nT,mH,nU,nH,M0];rfl) (b7 7 D (fH 5 (λu=>(bL [(7,.ptr 15 0),Cv 16 D,Iv 17 (len D),Iv 18 u.1] [(12,ve u.2.1),(15,.box [cv u.2.2.t.procs,cv u.2.2.l,.mp 12,cv u.2.2.truth])])) (λw=>(0,(bL [(7,.ptr 15 0)] [(12,ve w.1),(15,.box [cv w.2.t.procs,cv w.2.l,.mp 12,cv w.2.truth])]))) (λu=>bB 7 19 (bQ 8 λC _=>cZ 11 λz _=>Yy 1 12 u.2.1 z u.1 bh) bh) (λw=>bh))))))
def vR(B:Z4)(p1:Pred):a_ ((a_ b9)×Int):=(pS B p1).bind λu=>bl (u.2==0) ((ow B).bind λw=>bl (w.2==0) ((jS B w.1 u.1).bind λz=>some (z,0)) (some (none,w.2))) (some (none,u.2))
instance Zo(B:Z4)(p1:Pred):Fc Sy cL (vR B p1):=Fc.N 46 [enc B,enc p1] (ct 2 2 B (ct 0 3 p1 (bG 8 λu _=>dB 14 16 (bG 6 λw _=>dB 14 24 (bG 8 λz _=>bh) bh) bh)))
namespace dG
def br(G:b9)(i1 J U:Int)(B:Zg)(D:Int):a_ (Fw ((Zg)×Int) Zg Empty):=bl (decide (D<U)) ((idx G.l i1).bind λz=>((ec z).bind Sl.whole).bind λu=>(Sl.jc u D).bind λC=>(Sl.get u C).bind λI=>(Sl.jc u D).bind λL=>(Sl.put u L (wrap .i64 (I+J):Int)).bind λO=>(fV O).bind λw=>bl (tB (lP G.index) w) ((gC B (oH (lP G.index) w 0:Int)).bind λQ=>some (.n (Q,wrap .i64 (D+1)))) (some (.n (B,wrap .i64 (D+1))))) (some (.x B))
def W1(G:b9)(i1 B:Int)(D:Zg)(J U:Int):a_ Zg:=(bW (λq:(Zg)×Int=>br G i1 B J q.1 q.2) (D,U)).bind (Fw.elim (λe=>some e) (λe=>elim e))
end dG
def dG(s0:b9)(i1 B:Int):a_ Zg:=(idx s0.l i1).bind λu=>dG.W1 s0 i1 B (Sl.nil:Zg) (len u) 0
open dG in
instance Pg(s0:b9)(i1 B:Int):Fc Sy cL (dG s0 i1 B):=Fc.N 91 [.fptr (cells s0),.int .i64 i1,.int .i64 B] (bQ 18 λz _=>b7 1 z (fH 6 (λu=>(bL [Kv 0 s0,Iv 1 i1,Iv 2 B,Ov 7,Iv 19 (len z),Iv 20 u.2] [Lb 2007 u.1])) (λC=>(0,(bL [Ov 7] [Lb 2007 C]))) (λu=>bB 8 21 (bQ 18 λD _=>NU 1 30 gT D λI _=>iM .i64 7 30 λJ _=>oO 0 30 0 1 false (λw=>.int .i64 w) λw _=>iM .i64 2 30 λL _=>BA 0 30 (.int .i64 (wrap .i64 (w+B))) λO _=>cZ 9 λG _=>V4 0 s0.index G 0 (bB 12 48 (oD 5 2007 51 52 λQ _=>bh) bh)) bh) (λC=>bh)))
namespace d_
def bP(U:Zg)(W:Zb)(Y b G:Int)(B:Zg)(D:Int)(a:(Zg)->QQ):a_ (Fw ((Zg)×Int) Zg Empty):=bl (decide (D<G)) ((Sl.jc B D).bind λw=>(Sl.get B w).bind λz=>(idx U D).bind λC=>(a (Sl.row [z,C]:Zg)).bind λI=>(Sl.jc B D).bind λJ=>(Sl.put B J (I:Int)).bind λu=>some (.n (u,wrap .i64 (D+1)))) (some (.x B))
def W2(B Y:Zg)(G:Zb)(J D U W:Int)(a:(Zg)->QQ):a_ (Fw ((Zg)×Int) Zg Empty):=(bW (λq:(Zg)×Int=>bP Y G J D U q.1 q.2 a) (B,W)).bind (Fw.elim (λe=>some (.n (e,wrap .i64 (D+1)))) (λe=>elim e))
def br(G:Zb)(J:Int)(B:Zg)(D:Int)(U:(Zg)->QQ):a_ (Fw ((Zg)×Int) Zg Empty):=bl (decide (D<J)) ((idx G D).bind λu=>W2 B u G J D (len B) 0 U) (some (.x B))
def W1(B:Zg)(D:Zb)(G J:Int)(U:(Zg)->QQ):a_ Zg:=(bW (λq:(Zg)×Int=>br D G q.1 q.2 U) (B,J)).bind (Fw.elim (λe=>some e) (λe=>elim e))
end d_
def d_(B:Zb)(D:(Zg)->QQ):a_ Zg:=(idx B 0).bind λw=>((ec w).bind Sl.whole).bind λz=>(fS B (some 1) none).bind λu=>d_.W1 z u (len u) 0 D
open d_ in
abbrev AZ(G:FuncId)(e0:aZ V)(U:(Sl Int)->a_ Int)(a:kH Sy cL G [] e0 (λz:Sl Int=>[enc z]) (λr:Int=>[.int .i64 r]) U true)(W:Sl (Sl Int)):Fc Sy cL (d_ W U):=Fc.N 92 [.clo G [] e0,enc W] (bQ 8 λL _=>NU 1 12 gT L λT _=>AB 7 true false [.int .i64 1] λu _=>b7 0 u (fH 6 (λw=>(bL [(0,.v (.clo G [] e0)),Ov 5,Cv 14 u,Iv 15 (len u),Iv 16 w.2] [Lb 2005 w.1])) (λI=>(0,(bL [Ov 5] [Lb 2005 I]))) (λw=>bB 8 17 (bQ 7 λO _=>Ez 7 2005 w.1 (fH 6 (λC=>(bL [(0,.v (.clo G [] e0)),Ov 5,Cv 7 O,Cv 14 u,Iv 15 (len u),Iv 16 w.2,Iv 21 (len w.1),Iv 22 C.2] [Lb 2005 C.1])) (λJ=>(2,(bL [(0,.v (.clo G [] e0)),Ov 5,Cv 14 u,Iv 15 (len u),Iv 16 w.2] [Lb 2005 J]))) (λC=>bB 8 23 (iM .i64 17 2005 λX _=>oO 0 2005 0 1 false (λB=>.int .i64 B) λB _=>bQ 2 λD _=>X7 1 ([B,D]:aZ Int) (.buildC 1 2 [.int .i64 0] [0,1]) [iv B,iv D] (wQ 0 a.f (Sl.row [B,D]:Sl Int) λQ _=>iM .i64 0 2005 λY _=>BA 0 2005 (.int .i64 Q) λS _=>bh)) bh) (λJ=>bh))) bh) (λI=>bh)))
def pn(B:Zg):QQ:=(dD B).bind λu=>some u
instance WH(B:Zg):Fc Sy cL (pn B):=Fc.M 93 [enc B] (bG 8 λu _=>bh)
namespace dO
def bP(e:b9)(i4:Int)(a:Zg)(b:Int)(B:Zb)(D:Int):a_ (Fw ((Zb)×Int) Zb Empty):=bl (decide (D<b)) ((idx a D).bind λu=>(Sl.jc B u).bind λc=>(Sl.get B c).bind λd=>(Sl.isNil d).bind λw=>bl w (some (.n (B,wrap .i64 (D+1)))) ((Sl.jc B i4).bind λC=>(Sl.get B C).bind λG=>(Sl.isNil G).bind λI=>bl I ((Sl.jc B u).bind λJ=>(Sl.get B J).bind λL=>(Sl.jc B i4).bind λO=>(Sl.put B O (L:Zg)).bind λQ=>some (.n (Q,wrap .i64 (D+1)))) ((Sl.jc B i4).bind λS=>(Sl.get B S).bind λT=>(Sl.jc B u).bind λU=>(Sl.get B U).bind λW=>(d_ (Sl.row [T,W]:Zb) (λz=>pn z)).bind λX=>(Sl.jc B i4).bind λY=>(Sl.put B Y (X:Zg)).bind λZ=>some (.n (Z,wrap .i64 (D+1)))))) (some (.x B))
def W2(D:b9)(B:Zb)(i4:Int)(G:Zg)(J U:Int):a_ (Fw ((Zb)×Int) Zb Empty):=(bW (λq:(Zb)×Int=>bP D i4 G J q.1 q.2) (B,U)).bind (Fw.elim (λe=>some (.n (e,wrap .i64 (i4-1)))) (λe=>elim e))
def br(D:b9)(B:Zb)(i4:Int):a_ (Fw ((Zb)×Int) Zb Empty):=bl (decide (i4>=0)) ((idx D.truth i4).bind λw=>bl w ((idx D.l i4).bind λz=>(Sl.jc B i4).bind λC=>(Sl.put B C (z:Zg)).bind λG=>some (.n (G,wrap .i64 (i4-1)))) ((dG D i4 1).bind λu=>W2 D B i4 u (len u) 0)) (some (.x B))
def W1(D:b9)(B:Zb)(i4:Int):a_ Zb:=(bW (λq:(Zb)×Int=>br D q.1 q.2) (B,i4)).bind (Fw.elim (λe=>some e) (λe=>elim e))
end dO
def dO(s0:b9):a_ Zb:=(pe (len s0.l) (Sl.nil:Zg)).bind λu=>dO.W1 s0 u (wrap .i64 ((len s0.l)-1))
open dO in
instance M8(s0:b9):Fc Sy cL (dO s0):=Fc.N 53 [.fptr (cells s0)] (b7 11 s0.l (MI 0 12 λa _=>b7 10 s0.l (fH 7 (λB=>(bL [Kv 0 s0,Ov 3,Iv 4 B.2] [Lb 2003 B.1])) (λJ=>(0,(bL [Ov 3] [Lb 2003 J]))) (λB=>bB 9 20 (bQ 13 λb _=>bB 3 29 (bQ 10 λc _=>iM .i64 1 2003 λd _=>yO 0 2003 λe _=>bh) (bG 7 λG _=>b7 0 G (fH 6 (λI=>(bL [Kv 0 s0,Ov 3,Iv 4 B.2,Cv 42 G,Iv 43 (len G),Iv 44 I.2] [Lb 2003 I.1])) (λL=>(2,(bL [Kv 0 s0,Ov 3,Iv 4 B.2] [Lb 2003 L]))) (λI=>bB 8 45 (bQ 7 λf _=>iM .i64 9 2003 λg _=>oO 0 2003 0 1 false (λO=>enc O) λO _=>Dy 0 λT _=>bB 3 61 bh (iM .i64 5 2003 λU _=>oO 0 2003 0 1 false (λC=>enc C) λC _=>Dy 0 λW _=>bB 3 67 (iM .i64 6 2003 λX _=>oO 0 2003 0 1 false (λD=>enc D) λD _=>iM .i64 0 2003 λY _=>yO 0 2003 λZ _=>bh) (iM .i64 6 2003 λh _=>oO 0 2003 0 1 false (λu=>enc u) λu _=>iM .i64 2 2003 λi _=>oO 0 2003 0 1 false (λw=>enc w) λw _=>xW 0 58 ([u,w]:aZ Zg) (Mf (F:=AZ 93 [] (λz=>pn z) kH.pT (Sl.row [u,w]:Zb)) 0 [58] λj _=>⟨iM .i64 0 2003 λQ _=>yO 0 2003 λS _=>bh,iM .i64 0 2003 λQ _=>yO 0 2003 λS _=>bh⟩)))) bh) (λL=>bh)))) bh) (λJ=>bh))))
def jO(G:Zg)(J:a_ b9):a_ X':=(Sl.isNil G).bind λu=>(bl u (some false) ((J).bind λw=>(J).bind λz=>(fV G).bind λB=>(idx w.truth (oH (lP z.index) B 0)).bind λC=>some (!C)):a_ X').bind λD=>some D
instance K6(B:Zg)(D:a_ b9):Fc Sy cL (jO B D):=Fc.M 123 [enc B,.fptr (cells D)] (ZR 8 λI _=>yI 1 15 [16] (λu=>(bL [Bv 21 u] [])) (dB 1 6 (bH 15) (Kp 1 (λw=>(bL [Cv 0 B,Kv 1 D,Bv 6 true,Cv 7 w] [])) λz _=>Kp 4 (λw=>(bL [Cv 0 B,Bv 6 true,Cv 10 z.truth,Cv 11 w] [])) λC _=>cZ 4 λG _=>X6 0 C.index G 0 (bQ 0 λJ _=>bH 3))) λu=>bh)
def nO(s0:b9)(B:Zb):a_ X':=(gZ B (λz=>jO z (some s0:a_ b9))).bind λu=>some (!u)
instance MQ(s0:b9)(B:Zb):Fc Sy cL (nO s0 B):=Fc.M 90 [.fptr (cells s0),enc B] (cZ (F:=mG 123 [.fptr (cells (some s0:a_ b9))] (λz=>jO z (some s0:a_ b9)) kH.pT B) 10 λu _=>bh)
def lI(s0:b9)(D:Zb)(B:Int):a_ ((Zg)×Int):=(nO s0 D).bind λu=>bl u ((idx D B).bind λw=>(Sl.isNil w).bind λz=>bl z (some (Sl.nil,7)) ((idx D B).bind λC=>((ec C).bind Sl.whole).bind λG=>some (G,0))) (some (Sl.nil,15))
instance MC(s0:b9)(D:Zb)(B:Int):Fc Sy cL (lI s0 D B):=Fc.N 52 [.fptr (cells s0),enc D,.int .i64 B] (bG 12 λw _=>dB 4 8 (bQ 5 λz _=>Dy 1 λC _=>bB 3 13 bh (bQ 8 λu _=>NU 1 23 gT u λG _=>bh)) bh)
def uf(D:Z4)(p1:Pred):a_ ((Zg)×Int):=(vR D p1).bind λu=>bl (u.2==0) ((u.1).bind λw=>(dO w).bind λB=>(lI w B 0).bind λz=>some (z.1,z.2)) (some (Sl.nil,u.2))
instance VV(B:Z4)(p1:Pred):Fc Sy cL (uf B p1):=Fc.N 18 [enc B,enc p1] (ct 2 2 B (ct 0 3 p1 (bG 8 λu _=>dB 14 15 (Kp 7 (λw=>(bL [Iv 7 u.2,Bv 15 false,Cv 17 w,Cv 18 w] [Xb 2 B,Xb 3 p1])) λz _=>bG 0 λC _=>bG 0 λD _=>bh) bh)))
def qm(B:Zg):QQ:=(dF B).bind λu=>some u
instance XB(B:Zg):Fc Sy cL (qm B):=Fc.M 103 [enc B] (bG 8 λu _=>bh)
namespace dI
def bP(e:b9)(i4 f g:Int)(a:Zg)(b:Int)(B:Zb)(D:Int):a_ (Fw ((Zb)×Int) Zb Empty):=bl (decide (D<b)) ((idx a D).bind λu=>(Sl.jc B u).bind λc=>(Sl.get B c).bind λd=>(Sl.isNil d).bind λw=>bl w (some (.n (B,wrap .i64 (D+1)))) ((Sl.jc B i4).bind λC=>(Sl.get B C).bind λG=>(Sl.isNil G).bind λI=>bl I ((Sl.jc B u).bind λJ=>(Sl.get B J).bind λL=>(Sl.jc B i4).bind λO=>(Sl.put B O (L:Zg)).bind λQ=>some (.n (Q,wrap .i64 (D+1)))) ((Sl.jc B i4).bind λS=>(Sl.get B S).bind λT=>(Sl.jc B u).bind λU=>(Sl.get B U).bind λW=>(d_ (Sl.row [T,W]:Zb) (λz=>qm z)).bind λX=>(Sl.jc B i4).bind λY=>(Sl.put B Y (X:Zg)).bind λZ=>some (.n (Z,wrap .i64 (D+1)))))) (some (.x B))
def W2(G:b9)(B:Zb)(i4 J D:Int)(U:Zg)(W Y:Int):a_ (Fw ((Zb)×Int) Zb Empty):=(bW (λq:(Zb)×Int=>bP G i4 J D U W q.1 q.2) (B,Y)).bind (Fw.elim (λe=>some (.n (e,wrap .i64 (D+1)))) (λe=>elim e))
def br(G:b9)(J:Int)(D:Zb)(B:Int):a_ (Fw ((Zb)×Int) Zb Empty):=bl (decide (B<J)) ((idx G.truth B).bind λw=>bl w ((idx G.l B).bind λz=>(Sl.jc D B).bind λC=>(Sl.put D C (z:Zg)).bind λI=>some (.n (I,wrap .i64 (B+1)))) ((dG G B (-1)).bind λu=>W2 G D B J B u (len u) 0)) (some (.x D))
def W1(D:b9)(B:Zb)(G J:Int):a_ Zb:=(bW (λq:(Zb)×Int=>br D G q.1 q.2) (B,J)).bind (Fw.elim (λe=>some e) (λe=>elim e))
end dI
def dI(s0:b9):a_ Zb:=(pe (len s0.l) (Sl.nil:Zg)).bind λu=>dI.W1 s0 u (len s0.l) 0
open dI in
instance LM(s0:b9):Fc Sy cL (dI s0):=Fc.N 65 [.fptr (cells s0)] (b7 11 s0.l (MI 0 12 λa _=>b7 10 s0.l (fH 6 (λB=>(bL [Kv 0 s0,Ov 3,Iv 17 (len s0.l),Iv 18 B.2] [Lb 2003 B.1])) (λJ=>(0,(bL [Ov 3] [Lb 2003 J]))) (λB=>bB 8 19 (bQ 19 λb _=>bB 3 27 (bQ 10 λc _=>iM .i64 1 2003 λd _=>yO 0 2003 λe _=>bh) (bG 7 λG _=>b7 0 G (fH 6 (λI=>(bL [Kv 0 s0,Ov 3,Iv 4 B.2,Iv 17 (len s0.l),Iv 18 B.2,Cv 40 G,Iv 41 (len G),Iv 42 I.2] [Lb 2003 I.1])) (λL=>(2,(bL [Kv 0 s0,Ov 3,Iv 17 (len s0.l),Iv 18 B.2] [Lb 2003 L]))) (λI=>bB 8 43 (bQ 7 λf _=>iM .i64 9 2003 λg _=>oO 0 2003 0 1 false (λO=>enc O) λO _=>Dy 0 λT _=>bB 3 59 bh (iM .i64 5 2003 λU _=>oO 0 2003 0 1 false (λC=>enc C) λC _=>Dy 0 λW _=>bB 3 65 (iM .i64 6 2003 λX _=>oO 0 2003 0 1 false (λD=>enc D) λD _=>iM .i64 0 2003 λY _=>yO 0 2003 λZ _=>bh) (iM .i64 6 2003 λh _=>oO 0 2003 0 1 false (λu=>enc u) λu _=>iM .i64 2 2003 λi _=>oO 0 2003 0 1 false (λw=>enc w) λw _=>xW 0 56 ([u,w]:aZ Zg) (Mf (F:=AZ 103 [] (λz=>qm z) kH.pT (Sl.row [u,w]:Zb)) 0 [56] λj _=>⟨iM .i64 0 2003 λQ _=>yO 0 2003 λS _=>bh,iM .i64 0 2003 λQ _=>yO 0 2003 λS _=>bh⟩)))) bh) (λL=>bh)))) bh) (λJ=>bh))))
def qB(D:Z4)(p1:Pred):a_ ((Zg)×Int):=(vR D p1).bind λu=>bl (u.2==0) ((u.1).bind λw=>(dI w).bind λB=>(lI w B (wrap .i64 ((len w.l)-1))).bind λz=>some (z.1,z.2)) (some (Sl.nil,u.2))
instance RB(B:Z4)(p1:Pred):Fc Sy cL (qB B p1):=Fc.N 26 [enc B,enc p1] (ct 2 2 B (ct 0 3 p1 (bG 8 λu _=>dB 14 15 (Kp 7 (λw=>(bL [Cv 6 w,Iv 7 u.2,Bv 15 false,Cv 17 w,Cv 18 w] [Xb 2 B,Xb 3 p1])) λz _=>bG 0 λC _=>b7 4 z.l (bG 1 λD _=>bh)) bh)))
namespace dN
def bP(J:Zg)(b:Zb)(c d:Int)(Y:Zb)(a:Int)(U:Z4)(e:Pred)(W:Zb)(B D:X')(G:Int):a_ (Fw (X'×X'×Int) (X'×X') Unit):=bl (decide (G<a)) ((idx Y G).bind λw=>(Ae U J w).bind λz=>(Ab U J w).bind λu=>(bl (z.2==0) (some (!(u.2==0))) (some true):a_ X').bind λC=>bl C (some (.r ())) ((bl B ((ku z.1 W).bind λI=>some I) (some false):a_ X').bind λL=>(bl D ((ku u.1 W).bind λO=>some O) (some false):a_ X').bind λQ=>some (.n (L,Q,wrap .i64 (G+1))))) (some (.x (B,D)))
def W2(B D:X')(J:Zg)(U:Zb)(W G:Int)(Y:Zb)(a b:Int)(c:Z4)(d:Pred)(f:Zb):a_ (Fw (X'×X'×Int) (X'×X') Unit):=(bW (λq:X'×X'×Int=>bP J U W G Y a c d f q.1 q.2.1 q.2.2) (B,D,b)).bind (Fw.elim (λe=>some (.n (e.1,e.2,wrap .i64 (G+1)))) (λe=>some (.r ())))
def br(J:Zb)(U:Int)(Y:Z4)(a:Pred)(W:Zb)(B D:X')(G:Int):a_ (Fw (X'×X'×Int) (X'×X') Unit):=bl (decide (G<U)) ((idx J G).bind λw=>(fS W none (some G)).bind λu=>W2 B D w J U G u (len u) 0 Y a W) (some (.x (B,D)))
def W1(B D:X')(U:Zb)(W Y:Int)(G:Z4)(J:Pred)(a:Zb):a_ X':=(bW (λq:X'×X'×Int=>br U W G J a q.1 q.2.1 q.2.2) (B,D,Y)).bind (Fw.elim (λe=>(uf G J).bind λu=>(qB G J).bind λw=>(bl ((u.2==15)==(!e.1)) (some ((w.2==15)==(!e.2))) (some false):a_ X').bind λz=>some z) (λe=>some false))
end dN
def dN(B:Z4)(p1:Pred):a_ X':=(xY).bind λw=>bl w ((xu B p1).bind λz=>bl z ((eX B p1).bind λu=>(bl (u.2==0) (some (decide ((len u.1)>120))) (some true):a_ X').bind λC=>bl C ((bl (u.2==0) (some true) (some ((len u.1)==0)):a_ X').bind λD=>some D) (dN.W1 true true u.1 (len u.1) 0 B p1 u.1)) (some true)) (some false)
open dN in
instance Ay(D:Z4)(p1:Pred):Fc Sy cL (dN D p1):=Fc.M 8 [enc D,enc p1] (ct 2 2 D (ct 0 3 p1 (bG 6 λY _=>dB 3 23 (bG 8 λZ _=>dB 3 27 (bG 7 λu _=>oQ 4 5 0 u.1 (cg 9 4 [36] 40 (dB 9 36 (b7 1 u.1 (bH 2)) (bH 4)) λa=>bB 2 40 (cg 6 4 [5,43] 47 (bB 6 43 (bH 4) (b7 1 u.1 (bH 2))) λb=>bh) (b7 19 u.1 (eo 5 (λw=>(bL [Pv 2,Pv 3,Pv 5,(7,.clo 35 [] [.ptr 5 0]),Bv 8 w.1,Bv 9 w.2.1,Cv 49 u.1,Iv 50 (len u.1),Iv 51 w.2.2] [Xb 2 D,Xb 3 p1,(5,.box [cv u.1])])) (λz=>(0,(bL [Pv 2,Pv 3,Bv 8 z.1,Bv 9 z.2] [Xb 2 D,Xb 3 p1]))) (λz=>(bL [Bv 4 false] [])) (λw=>bB 7 52 (bQ 8 λI _=>AB 9 false true [.int .i64 w.2.2] λG _=>b7 0 G (eo 5 (λC=>(bL [Pv 2,Pv 3,Pv 5,(7,.clo 35 [] [.ptr 5 0]),Bv 8 C.1,Bv 9 C.2.1,Cv 11 I,Cv 49 u.1,Iv 50 (len u.1),Iv 51 w.2.2,Cv 58 G,Iv 59 (len G),Iv 60 C.2.2] [Xb 2 D,Xb 3 p1,(5,.box [cv u.1])])) (λB=>(2,(bL [Pv 2,Pv 3,Pv 5,(7,.clo 35 [] [.ptr 5 0]),Bv 8 B.1,Bv 9 B.2,Cv 49 u.1,Iv 50 (len u.1),Iv 51 w.2.2] [Xb 2 D,Xb 3 p1,(5,.box [cv u.1])]))) (λB=>(bL [Bv 4 false] [])) (λC=>bB 7 61 (bQ 7 λc _=>bG 9 λd _=>bG 12 λJ _=>cg 13 3 [17,80] 83 (dB 13 80 (bH 3) (bH 3)) λL=>bB 2 83 bh (cg 6 4 [14,85] 89 (bB 6 85 (cZ 2 λO _=>bH 1) (bH 4)) λQ=>cg 2 4 [16,91] 95 (bB 2 91 (cZ 2 λS _=>bH 1) (bH 4)) λT=>bh)) bh) (λB=>bh) (λB=>bh))) bh) (λz=>bG 6 λU _=>bG 11 λW _=>cg 15 6 [9,21,115] 121 (bB 15 115 (bH 6) (bH 6)) λX=>bh) (λz=>bh))))) bh) bh)))
end
end Go.VE
