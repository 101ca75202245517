/-
 Each function of the program that the law reaches: its plain form, and that it comes to that.
-/
import Derived.Test.YtknifbdijcocpaaGreatDoorK1
import Derived.Test.YtknifbdijcocpaaGreatDoorT1
set_option linter.all false
open List(all_cons all_nil cons_append map_append map_cons map_nil mem_map mem_of_getElem? replicate)
open Go.IntKind(signed wrap)
open Nat(beq ble reduceEqDiff zero_add)
open Empty(elim)
open ByteArray(toList)
namespace Go.VE
theorem Zad{p:Prop}(h:p:=by kernel_rfl):p:=h
structure Var where
 name:ByteArray
 init_:Int
 deriving Inhabited
instance:bB Var where
 cells x:=[.str x.name,.int .i64 x.init_]
 agg:=true
 size:=2
 len _:=rfl
 good x:=by simp only[V.cE,V.good,jU,Bool.and_self]
 one x:=by simp only[all_cons,all_nil,nD,l_,nF,mY,Bool.and_self]
 plain h:=by cases h
structure Assign where
 var:Int
 value:Int
 deriving Inhabited
instance:bB Assign where
 cells x:=[.int .i64 x.var,.int .i64 x.value]
 agg:=true
 size:=2
 len _:=rfl
 good x:=by simp only[V.cE,V.good,jU,Bool.and_self]
 one x:=by simp only[all_cons,all_nil,nD,l_,nF,mY,Bool.and_self]
 plain h:=by cases h
structure Event where
 kind:Int
 peer:Int
 message:Int
 time:Int
 assign:Sl Assign
 deriving Inhabited
instance:bB Event where
 cells x:=[.int .i64 x.kind,.int .i64 x.peer,.int .i64 x.message,.int .i64 x.time,enc x.assign]
 agg:=true
 size:=5
 len _:=rfl
 good x:=by simp only[V.cE,V.good,jU,Bool.and_self]
 one x:=by simp only[all_cons,all_nil,nD,l_,nF,mY,Bool.and_self]
 plain h:=by cases h
structure bU where
 name:ByteArray
 vars:Sl Var
 events:Sl Event
 deriving Inhabited
instance:bB bU where
 cells x:=[.str x.name,enc x.vars,enc x.events]
 agg:=true
 size:=3
 len _:=rfl
 good x:=by simp only[V.cE,V.good,jU,Bool.and_self]
 one x:=by simp only[all_cons,all_nil,nD,l_,nF,mY,Bool.and_self]
 plain h:=by cases h
structure Trace where
 procs:Sl bU
 deriving Inhabited
instance:bB Trace where
 cells x:=[enc x.procs]
 agg:=true
 size:=1
 len _:=rfl
 good x:=by simp only[V.cE,V.good,jU,Bool.and_self]
 one x:=by simp only[all_cons,all_nil,nD,l_,nF,mY,Bool.and_self]
 plain h:=by cases h
structure Pred where
 kind:Int
 n:Int
 proc:Int
 peer:Int
 name:ByteArray
 l:Sl Pred
mutual
def Pred.Uq:Pred->L' V
 |⟨f0,f1,f2,f3,B,f5⟩=>[.int .i64 f0,.int .i64 f1,.int .i64 f2,.int .i64 f3,.str B,Pred.He f5]
def Pred.He:Sl Pred->V
 |.nil=>.bM|.emp=>.dL|.row l=>.fsl 6 (Pred.EC l)|.part l=>.fsl 6 (Pred.EC l)
def Pred.EC:L' Pred->L' (L' V)
 |[]=>[]|x::r=>Pred.Uq x::Pred.EC r
end
instance:Inhabited Pred:=⟨⟨default,default,default,default,default,Sl.nil⟩⟩
mutual
theorem Pred.VU:∀x:Pred,V.cE x.Uq=true
 |⟨f0,f1,f2,f3,B,f5⟩=>by simp only[Pred.Uq,V.cE,V.good,Pred.IS,Bool.and_self]
theorem Pred.IS:∀x:Sl Pred,V.good (Pred.He x)=true
 |.nil=>rfl|.emp=>rfl|.row l=>by simp only[Pred.He,V.good,Pred.Du]|.part l=>by simp only[Pred.He,V.good,Pred.Du]
theorem Pred.Du:∀x:L' Pred,V.nW (Pred.EC x)=true
 |[]=>rfl|x::r=>by simp only[Pred.EC,V.nW,Pred.VU,Pred.Du,Bool.and_self]
end
theorem Pred.UR(s:Sl Pred):V.one (Pred.He s)=true:=by cases s<;>simp[Pred.He,V.one]
instance:bB Pred where
 cells x:=[.int .i64 x.kind,.int .i64 x.n,.int .i64 x.proc,.int .i64 x.peer,.str x.name,Pred.He x.l]
 agg:=true
 size:=6
 len _:=rfl
 good x:=by simp only[V.cE,V.good,Pred.IS,Bool.and_self]
 one x:=by simp only[all_cons,all_nil,nD,l_,nF,Pred.UR,Bool.and_self]
 plain h:=by cases h
theorem Pred.Qc(x:Pred):Pred.Uq x=cells x:=by cases x;rfl
theorem Pred.C9:∀l:L' Pred,Pred.EC l=rows l
 |[]=>rfl|x::r=>by rw[Pred.EC,Pred.C9 r,Pred.Qc];rfl
theorem Pred.mq(s:Sl Pred):Pred.He s=enc s:=by cases s with|nil=>rfl|emp=>rfl|row l=>show V.fsl 6 (Pred.EC l)=V.fsl 6 (rows l);rw[Pred.C9]|part l=>show V.fsl 6 (Pred.EC l)=V.fsl 6 (rows l);rw[Pred.C9]
structure bD where
 from_:aZ
 to_:aZ
 deriving Inhabited
instance:bB bD where
 cells x:=[.int .i64 x.from_.proc,.int .i64 x.from_.index,.int .i64 x.to_.proc,.int .i64 x.to_.index]
 agg:=true
 size:=4
 len _:=rfl
 good x:=by simp only[V.cE,V.good,jU,Bool.and_self]
 one x:=by simp only[all_cons,all_nil,nD,l_,nF,mY,Bool.and_self]
 plain h:=by cases h
structure bR where
 low:Int
 high:Int
 deriving Inhabited
instance:bB bR where
 cells x:=[.int .i64 x.low,.int .i64 x.high]
 agg:=true
 size:=2
 len _:=rfl
 good x:=by simp only[V.cE,V.good,jU,Bool.and_self]
 one x:=by simp only[all_cons,all_nil,nD,l_,nF,mY,Bool.and_self]
 plain h:=by cases h
structure ct where
 lengths:Sl Int
 need:Sl (Sl aZ)
 deriving Inhabited
instance:bB ct where
 cells x:=[enc x.lengths,enc x.need]
 agg:=true
 size:=2
 len _:=rfl
 good x:=by simp only[V.cE,V.good,jU,Bool.and_self]
 one x:=by simp only[all_cons,all_nil,nD,l_,nF,mY,Bool.and_self]
 plain h:=by cases h
structure ck where
 t:Trace
 counts:Sl Int
 values:Sl (Sl Int)
 deriving Inhabited
instance:bB ck where
 cells x:=[enc x.t.procs,enc x.counts,enc x.values]
 agg:=true
 size:=3
 len _:=rfl
 good x:=by simp only[V.cE,V.good,jU,Bool.and_self]
 one x:=by simp only[all_cons,all_nil,nD,l_,nF,mY,Bool.and_self]
 plain h:=by cases h
structure cz where
 t:Trace
 l:Sl (Sl Int)
 index:D8 ByteArray Int
 truth:Sl Bool
 deriving Inhabited
instance:bB cz where
 cells x:=[enc x.t.procs,enc x.l,enc x.index,enc x.truth]
 agg:=true
 size:=4
 len _:=rfl
 good x:=by simp only[V.cE,V.good,jU,Bool.and_self]
 one x:=by simp only[all_cons,all_nil,nD,l_,nF,mY,LH,Bool.and_self]
 plain h:=by cases h
def i_(p:Int):Int->L' Event->L' (aZ×Event)
 |_,[]=>[]|j,e::r=>(⟨p,j+1⟩,e)::i_ p (j+1) r
def gb:Int->L' bU->L' (aZ×Event)
 |_,[]=>[]|i,p::r=>i_ i 0 p.events.l++gb (i+1) r
def pK(n:Nat):Bool:=decide (n<9223372036854775807)
def jy(t:Trace):Lk (L' (aZ×Event)):=if pK t.procs.l.length&&t.procs.l.all λp=>pK p.events.l.length then some (gb 0 t.procs.l)else none
def z7:cq 22 Int:=⟨Go.Proofs.YtknifbdijcocpaaGreatDoor.Eh,rfl⟩
end Go.VE
namespace Go.VE
def TZ:Nat->Nat->Nat->L' Nat
 |0,_,_=>[]|f+1,i,m=>bif m % 2==1 then i::TZ f (i+1) (m / 2)else TZ f (i+1) (m / 2)
def gK(g m:Nat)(l:L' Nat:=[]):Gh:=.keep (TZ 128 0 g) (TZ 128 0 m++l)
def g2(n g m:Nat)(l:L' Nat:=[]):Nat×L' Gh×L' Gh:=(n,[gK g m l],[gK g m l])
def g1(n g m:Nat)(l:L' Nat:=[]):Nat×L' Gh×L' Gh:=(n,[gK g m l],[])
def G2(n:Nat)(x:L' Gh):Nat×L' Gh×L' Gh:=(n,x,x)
def G1(n:Nat)(x:L' Gh):Nat×L' Gh×L' Gh:=(n,x,[])
def cS(i n:Nat):Gh:=.canon (.s i) (2000+i) n
def cC(i j n:Nat):Gh:=.canon (.c i j) (4000+20*i+j) n
def e0(n m:Nat):Nat×GD:=(n,⟨m,[],[]⟩)
def e1(n m:Nat)(l:L' (Nat×L' Gh×L' Gh)):Nat×GD:=(n,⟨m,[],l⟩)
def MT:L' (Nat×GD):=[ e1 54 0x22226260002000201 [g2 6 387 0,g1 12 0 0,g1 22 16 0,g1 27 16 0],e0 30 0x226221,e0 31 0x2222212,e0 74 0x26c4444026402201,e0 75 0x26442201,e1 58 0x222064c002644c00222600620000644402644022201 [g1 8 4 0,g2 14 9 0,g1 20 0 0,g1 28 4 0,g1 33 4 0],e0 59 0x26442201,e1 37 0x2222222022226020222062260202260206000022226020622000022202220620226020600002220202602012 [g1 10 16 0,g2 16 102 36,g1 22 32 32,g1 30 16 0,g1 39 16 0,g2 45 160 32,g1 51 32 32,g1 60 16 0,g2 66 416 32,g1 72 160 32,g1 80 16 0,g1 88 16 0,g1 97 16 0,g1 101 16 0],e1 38 0x2222220620226020600006444026c444c04040222020260206220000222006cc44c4444c04040440264402220064402644026c04026c44040264402644022200644022202202026022602012 [g1 13 64 0,g1 20 64 0,g1 22 142 136,g1 28 64 0,g1 36 64 0,g2 42 394 136,g1 48 0 0,g1 59 64 0,g2 64 1930 648,g1 70 394 136,g1 78 64 0,g1 84 64 0],e0 60 0x2262222262022022,e1 42 0x20222222262226c0442602020260226020622260200062200002 [g2 6 206 72,g1 12 64 64,g2 18 462 72,g1 24 206 72,g1 34 64 64,g1 40 64 64],e1 39 0x2222226cc40444cc4040444022202602262020622262020000220060e20200022020600122 [g2 30 236 44,g1 36 64 0],e1 40 0x22206222602026006220002222203622000622262002062202202026260022602062226020260062200002222012 [G2 6 [cS 3 1,gK 10 2 [2003]],G2 14 [cS 3 1,gK 58 2 [2003]],G1 20 [cS 3 1,gK 26 2 [2003]],G2 24 [cS 3 1,gK 58 2 [2003]],G1 30 [cS 3 1,gK 58 2 [2003]],G1 43 [cS 3 1,gK 58 2 [2003]],G1 46 [cS 3 1,gK 42 2 [2003]],G1 53 [cS 3 1,gK 10 2 [2003]],G2 59 [cS 3 1,gK 266 2 [2003]],g1 65 0 0,g1 73 4 0,g1 78 4 0],e1 61 0x22262622222202062026262202022200122 [G1 10 [cS 5 2,gK 44 12 [2005]]],e1 20 0x202222220222620260600206200622260200062200002020222222222220260020620062226020006220002222222226222202e0006222602000622000222222222026006220000206444022220102 [g1 8 12 4,g2 14 22 6,g1 20 6 6,g1 30 12 4,g2 37 70 6,g1 43 6 6,g2 49 198 6,g1 55 70 6,g1 65 12 4,g2 73 518 6,g1 79 6 6,g2 85 1542 6,g1 91 518 6,g1 103 12 4,g1 113 12 4,g2 119 8198 6,g1 125 4 4,g2 131 24582 6,g1 137 8198 6,g1 147 12 4,g1 153 12 4],e0 6 0x2222302022212,e0 32 0x222212,e0 71 0x2236226200026201,e1 21 0x22206c444c0404c0022260062000062202012 [g1 8 16 0,g2 14 38 4,g1 20 0 0,g1 28 16 0,g1 33 16 0],e1 22 0x2222220626220202062202202026022602062600006200012 [g2 6 38 4,g1 12 0 0,g2 18 102 4,g1 24 38 4,g1 39 16 0,g1 46 16 0],e0 7 0x26c44260012,e1 55 0x2222226260026cc000262226020260062000012 [G2 8 [cS 5 1,gK 102 4 [2005]],G1 14 [cS 5 1,gK 32 0 [2005]]],e1 89 0x2222226260026200001 [g2 8 25 0,g1 14 8 0],e1 72 0x222262622260262600260062000262222620201 [g1 8 16 0,g2 14 35 0,g1 20 0 0,g1 28 16 0,g1 33 16 0],e1 73 0x2220626002600620000620201 [g1 8 16 0,g2 14 35 0,g1 20 0 0,g1 28 16 0,g1 33 16 0],e1 56 0x26622226222266000226c04c00262002226c04c002620001 [g2 6 35 0,g1 12 35 0],(33,⟨0x222222222226260026200026260006200000022026022200222220112,[(7,[.closeS (.s 13)])],[G2 8 [.closeS (.s 4),cS 5 1,gK 50 2 [2005]],G1 14 [cS 5 1,gK 32 0 [2005]],G1 24 [cS 2 1,gK 12 0 [2002]],G2 32 [.closeS (.s 4),cS 5 1,gK 242 2 [2005]],G1 38 [cS 5 1,gK 98 2 [2005]],G2 46 [.closeS (.s 4),cS 5 1,gK 1010 2 [2005]],G1 52 [.closeS (.s 4),cS 5 1,gK 242 2 [2005]],G1 61 [cS 2 1,gK 12 0 [2002]]]⟩),e1 17 0x2644422222202222222202222622202202000022022022002022064442222026220220200002000222012 [g1 8 4 0,g2 16 458762 2,g1 22 10 2,g1 34 4 0,g1 43 4 0,g1 51 4 0,g2 63 246290604621888 0,g1 69 64 0,g1 81 4 0,g1 86 4 0,g1 92 4 0],e0 35 0x22e222212,e0 34 0x226221,e1 57 0x22226260002000201 [G2 6 [.drop [2,3,4,5,6,9,10,11,12,13,14,15,16,17,18]],G1 12 [.drop [0,1,2,3,4,5,6,7,8,9,10,11,12,13,14,15,16,17,18]],G1 22 [.drop [0,1,2,3,5,6,7,8,9,10,11,12,13,14,15,16,17,18]],G1 27 [.drop [0,1,2,3,5,6,7,8,9,10,11,12,13,14,15,16,17,18]]],(18,⟨0x264cc442644402640222203222001222,[(27,[.canon (.s 4) 9001 0,.closeB 5])],[]⟩),e1 36 0x222222666202602006c002622000012 [g2 8 102 4,g1 14 32 0],e0 19 0x222212,(5,⟨0x26c444444026c022200122,[(9,[.canon (.s 5) 9002 0])],[]⟩),e1 8 0x2222226262600260026200001 [G2 8 [cS 5 1,gK 99 0 [2005]],G1 14 [cS 5 1,gK 32 0 [2005]]],e0 128 0x26c4426201,e0 174 0x26c4444026402201,e0 175 0x26442201,e1 148 0x22064c402644c00222600200020064440264402201 [g1 8 4 0,g2 14 786433 0,g1 20 0 0,g1 30 4 0,g1 35 4 0],e0 150 0x26222212,e1 176 0x22226260002000201 [g2 6 387 0,g1 12 0 0,g1 22 16 0,g1 27 16 0],e0 149 0x226221,e0 151 0x26222212,e1 142 0x22226260002000201 [g2 6 387 0,g1 12 0 0,g1 22 16 0,g1 27 16 0],e0 135 0x226221,e1 129 0x222222022222026c0c4402222022020000020022220026c0c44422220202602012 [g1 11 16 0,g1 17 16 0,g2 23 30064771104 32,g1 29 32 32,g1 40 16 0,g1 46 16 0,g1 55 16 0,g1 59 16 0],e0 130 0x2212,e1 153 0x2644426c4402622222022202644422202020122 [g1 18 524330 40],e0 155 0x26222212,e1 177 0x22226260002000201 [g2 6 387 0,g1 12 0 0,g1 22 16 0,g1 27 16 0],e0 154 0x226221,e1 131 0x2202626220026444022622202022020000020022220026c44022220022e02222226220202200202620201222 [g1 12 440 184,g1 19 64 0,g1 25 64 0,g1 31 64 0,g2 37 31525197391593632 160,g1 43 0 0,g1 54 64 0,g1 60 64 0,g1 65 64 0],e0 178 0x26c44426c440222012,e0 156 0x2662262221222,e1 132 0x2202326222002202001ef200220022022226200223262220022022226200202022020202020200002 [(8,[gK 4158 1086],[gK 0 1086]),g1 27 0 1086,g1 39 0 1086,g1 47 0 1086,g1 53 28 1052],e1 157 0x222622262222264444c4400222020262222262622020262020222620220122 [G1 12 [cS 7 2,gK 418 32 [2007]]],e1 133 0x20222622230026000226002020000e200262220202622002202202020200022 [(6,[gK 8252 60],[gK 0 60]),G2 14 [cS 8 2,gK 8700 65660 [2008]],g1 20 8252 60,G2 29 [cS 8 2,gK 481036345852 65660 [2008]],G1 35 [cS 8 2,gK 8700 65660 [2008]],g1 46 0 60,g1 58 48 48],e1 104 0x20022222020262222222022202002202222202e2002020202222222202600200022002022220002 [g1 8 12 12,g2 14 12582926 14,g1 20 14 14,g1 32 12 12,(39,[gK 68719476750 14],[gK 0 14]),g1 51 0 14,g1 61 12 12,g1 71 12 12,g1 75 12 12],e0 86 0x2222302022212,e0 134 0x264426402201,e0 107 0x26c4444c4404440222006c4404440264402644026c444044026440222012,e0 108 0x22e222212,(106,⟨0x226622064402640222220122,[(20,[.closeB 5])],[]⟩),(90,⟨0x26222200012,[(5,[.canon (.s 3) 9004 0,.canon (.s 4) 9003 0])],[]⟩),e0 110 0x26c444422012,e0 136 0x2622212,e0 111 0x262226222122,e0 109 0x2644426c404026c40426200222644426440262022026001cf444042644026200202012,e0 118 0x2262212,(95,⟨0x264c4442600122,[(10,[.closeB 3])],[]⟩),e0 91 0x2622122,e0 114 0x221,e0 115 0x221,e0 113 0x2622222212,(112,⟨0x22622012,[(5,[.closeB 1])],[]⟩),e0 92 0x22212,e1 67 0x222222626002620002220012201 [g1 8 1 0,g2 14 25 0,g1 20 8 0],e1 160 0x222222626002620002220012201 [g1 8 1 0,g2 14 25 0,g1 20 8 0],e0 139 0x2622200,e1 158 0x22222226c04422202020000226222012 [g2 8 229508 0,g1 14 128 0],e0 188 0x2622212,e0 186 0x26222122,e0 179 0x220020262262220026c4400220002220112,e1 27 0x26200201 [G1 8 [.canon (.s 2) 4004 1],G1 12 [.canon (.s 2) 4004 1]],(141,⟨0x222e202202236222002020000222202000002226200222622222020000200,[(21,[.closeS (.s 25)]),(57,[.closeS (.s 54)])],[G2 6 [cS 3 1,gK 14347 0 [2003]],G1 12 [cS 3 1,gK 11 0 [2003]],g1 23 0 0,G2 28 [cS 3 1,gK 3758096393 0 [2003]],g1 34 0 0,G2 43 [cS 3 1,gK 965830770761 0 [2003]],G1 49 [cS 3 1,gK 3758096457 0 [2003]],g1 59 0 0]⟩),e0 119 0x2212,e1 180 0x22262260202220122 [(8,[cC 5 0 1,gK 552 40 [4100]],[cC 5 0 1,gK 0 40 [4100]])],e0 159 0x2222202622622220022022202e2001112,e0 137 0x26223222002e2220222e2220222222226222220222222020022,e0 138 0x26444222012,e0 161 0x262201,e0 140 0x22222622220622020260006402201,e1 116 0x22222022001ef622226202062020620202662222620202226622226202020262222202022002064422222202622202222002002202026222002222202062222201022 [g1 22 1944 664,g1 49 2064 2064],e0 117 0x2262212,(93,⟨0x226222222302026222220122,[(21,[.closeB 2])],[]⟩),e0 76 0x22622022200226000264402220122,e0 94 0x2222002220002220112,e0 77 0x6c44222222022212,e0 97 0x26442201,e0 96 0x2222212,e0 78 0x2644422012,e1 105 0x200226c0442602020202202022000222 [g1 8 192 192,(14,[gK 33008 240],[gK 0 240]),g1 24 0 240,g1 28 192 192],e0 88 0x2220622102,(101,⟨0x2222306222030622222022262222302622022002020000200202000020002,[(53,[.closeS (.s 49)]),(59,[.closeS (.c 3 0),.closeS (.c 3 1)])],[G2 8 [cC 3 0 1,cC 3 1 1,gK 14350 14 [4060,4061]],G1 14 [cC 3 0 1,cC 3 1 1,gK 12 12 [4060,4061]],G2 25 [cS 6 2,cC 3 0 1,cC 3 1 1,gK 1849454 46 [2006,4060,4061]],G1 31 [cS 6 2,cC 3 0 1,cC 3 1 1,gK 14446 46 [2006,4060,4061]],G1 44 [cS 6 2,cC 3 0 1,cC 3 1 1,gK 1849966 558 [2006,4060,4061]]]⟩),e0 122 0x26262222020262620260220626020260012,e0 173 0x26201,e0 147 0x62206000200222202201,e1 125 0x62222222220262222620062002220000001 [g2 6 3587 0,g1 12 3 0,g1 23 16 0,g1 34 16 0,g1 43 16 0,g1 47 16 0],e0 124 0x26221,e1 11 0x2206262026002000200620201 [g1 8 16 0,g2 14 12291 0,g1 20 0 0,g1 30 16 0,g1 35 16 0],e0 127 0x26221,(102,⟨0x222302222262223622020220e0002000202200002012,[(32,[.closeS (.s 34)])],[G2 8 [cS 5 1,gK 7204 4 [2005]],G1 14 [cS 5 1,gK 32 0 [2005]],G2 22 [cS 5 1,gK 400548 4 [2005]],G1 28 [cS 5 1,gK 7204 4 [2005]]]⟩),(81,⟨0x2226202620200202620222000222222202000220112,[(16,[.closeS (.s 16)])],[G1 8 [cS 2 1,gK 12 0 [2002]],G2 20 [.closeS (.s 5),cS 6 1,gK 240 16 [2006]],G1 26 [cS 6 1,gK 64 0 [2006]],G1 37 [cS 2 1,gK 12 0 [2002]],G1 43 [cS 2 1,gK 12 0 [2002]]]⟩),e0 63 0x222222220222112,e0 44 0x222022112,e0 87 0x26222221,e1 85 0x22226260002000201 [g2 6 387 0,g1 12 0 0,g1 22 16 0,g1 27 16 0],e0 65 0x226221,e0 68 0x264c4422012,e1 69 0x2206c444c440422022200000212 [g2 6 900 4,g1 12 0 0,g1 22 16 0,g1 27 16 0],e0 83 0x26c444422012,e1 70 0x2200222202262222626200203202026220220220200000622260202220000001002 [g2 6 57398 52,g1 12 48 48,g2 20 939581622 52,g1 26 57398 52,g1 44 112 48,g1 50 112 48],e0 84 0x22223300200262212,e1 64 0x2202620220000222026202200002220262022000000260012 [g1 8 64 0,g2 14 917518 8,g1 20 14 8,g1 30 64 0,g2 37 1879048202 8,g1 43 10 8,g1 53 64 0,g2 60 3848290697224 8,g1 66 0 0,g1 76 64 0,g1 81 64 0],e1 98 0x222226262222022200000202022026202112 [G2 18 [cS 7 2,gK 917632 0 [2007]],G1 24 [cS 7 2,gK 128 0 [2007]]],e1 99 0x226022222022 [(6,[gK 280 24],[gK 0 24]),g1 16 0 24,g1 20 16 16],e1 79 0x22222626226220222200000202022023202600112 [G2 18 [cS 8 1,gK 7340292 4 [2008]],G1 24 [cS 8 1,gK 256 0 [2008]]],e0 143 0x26222212,e0 120 0x226226222226022620220122,e0 162 0x2220622102,e1 144 0x22222622226c4c4404022222020262006c04022202020000626202260200202202e600200112 [G2 18 [cS 11 1,gK 481036339226 16 [2011]],G1 24 [cS 11 1,gK 2048 0 [2011]]],e0 121 0x22232202001ef22202220122,e0 100 0x266222226222002662222262220022266222226222002022622222202622202262222202622202222020122,e1 80 0x26c44444262220026c44444262220022226222222022222020266222226222002026622222622200202662222262220020266222226222002020122 [g1 36 147573952589676413004 12],e1 62 0x22222226260e22022002202220260022000000200220222022000020200220220200220260011122 [G1 10 [cS 5 1,gK 112 0 [2005]],G1 20 [cS 5 1,gK 112 0 [2005]],G1 28 [cS 5 1,gK 112 0 [2005]],G1 38 [cS 5 1,gK 112 0 [2005]],G2 46 [cS 11 1,gK 962072676876 12 [2011]],G1 52 [cS 11 1,gK 2560 0 [2011]],G1 65 [cS 5 1,gK 112 0 [2005]],G1 71 [cS 5 1,gK 112 0 [2005]]],e0 43 0x222222320026221122,e1 47 0x22222262222220000222201 [G2 8 [cS 3 1,gK 3592 0 [2003]],G1 14 [cS 3 1,gK 8 0 [2003]]],e1 45 0x22227222222022200000222001ef200212 [g2 8 458880 36864,g1 14 128 36864],e0 23 0x2e22220220222022020220222026201122,e0 46 0x22622212,e1 49 0x22222622222220262222203660202022260222020002260222001 [G2 8 [cS 7 1,gK 1572999 0 [2007]],G1 14 [cS 7 1,gK 128 0 [2007]]],e1 50 0x22222236662620260000020002022000022222201 [G2 8 [cS 5 1,gK 114721 0 [2005]],G1 14 [cS 5 1,gK 32 0 [2005]],G2 22 [cS 5 1,gK 6406305 0 [2005]],G1 28 [cS 5 1,gK 114721 0 [2005]]],e0 51 0x2221,e1 26 0x2222222362626202600003626200022260022260022000060036260222000260222020222222022222201 [G2 8 [cS 3 1,gK 25 0 [2003]],G1 14 [cS 3 1,gK 8 0 [2003]],G2 28 [cS 3 1,gK 30786325577753 0 [2003]],G1 34 [cS 3 1,gK 25 0 [2003]]],e0 66 0x2644cc44444444402201,e0 48 0x2262212,e0 25 0x22262200222600002260211,e0 24 0x2220e622222220000260222011,e0 9 0x222062220220222026221122,e1 10 0x2206262026002000200620201 [g1 8 16 0,g2 14 12291 0,g1 20 0 0,g1 30 16 0,g1 35 16 0],e0 3 0x26c44264426c4026c04260222202e0222222026c4444426002022202e00022202e0002620064c00264c0026440264402644022600020122]
namespace trace_events_c1
def CH:L' RO:=[o1 20 (.s 18) [],o2 21 (ix 5) [.s 16,.s 18] [],o2 22 (lD 5) [.s 21] [21],o2 6 (.a (.alloc 5 [.int .i64 0,.int .i64 0,.int .i64 0,.int .i64 0,.bM])) [] [],o1 5 (.s 20) [20],oz (.l (.store 5)) [.s 6,.s 22] [22]]
def AD:L' RO:=[o1 23 (.s 0) [],o1 24 (.s 3) [],o1 25 (.s 5) [5],o2 26 (bI .add) [.s 25,.k (.int .i64 1)] [25],o2 27 (.p (.build [.int .i64 0,.int .i64 0] [(0,1),(1,1)])) [.s 24,.s 26] [24,26],o2 28 (lD 5) [.s 6] [6],o2 29 .c [.s 23,.s 27,.s 28] [23,27,28],o2 30 (.p .not) [.s 29] [29]]
def yD:L' RO:=[o2 31 (bI .add) [.s 18,.k (.int .i64 1)] [],o1 18 (.s 31) [31]]
def GO:RC:=.hg (.seq (.ops [o2 19 (bI .lss) [.s 18,.s 17] []]) (.seq (.cond (.s 19) .skip (.exit 2)) (.seq (.block 3 (.seq (.ops CH) (.seq (.ops AD) (.cond (.s 30) .ret .skip)))) (.ops yD)))) (.keep [0,3,8,9,10,16,17,18] [])
def LQ:L' RO:=[o1 12 (.s 10) [],o2 13 (ix 3) [.s 8,.s 10] [],o2 14 (lD 3) [.s 13] [13],o2 4 (.a (.alloc 3 [.str ByteArray.empty,.bM,.bM])) [] [],o1 3 (.s 12) [12],oz (.l (.store 3)) [.s 4,.s 14] [14]]
def KD:L' RO:=[o2 15 (fa 2) [.s 4] [],o2 16 (ld 1) [.s 15] [15],o2 17 ln [.s 16] [],o1 18 (.k (.int .i64 0)) []]
def GB:L' RO:=[o2 32 (bI .add) [.s 10,.k (.int .i64 1)] [],o1 10 (.s 32) [32]]
def U2:RC:=.block 2 (.gh (.keep [0,3,8,9,10,16,17,18] []) (.loop GO))
def Qt:RC:=.hg (.seq (.ops [o2 11 (bI .lss) [.s 10,.s 9] []]) (.seq (.cond (.s 11) .skip (.exit 0)) (.seq (.block 1 (.seq (.ops LQ) (.seq (.ops KD) U2))) (.ops GB)))) (.keep [0,8,9,10] [])
def Qa:L' RO:=[o2 7 (fa 0) [.s 1] [1],o2 8 (ld 1) [.s 7] [7],o2 9 ln [.s 8] [],o1 10 (.k (.int .i64 0)) []]
def U1:RC:=.block 0 (.gh (.keep [0,8,9,10] []) (.loop Qt))
def text:RF:=⟨33,[],.seq (.ops Qa) U1⟩
section
variable{S:Sys}
abbrev I1(ps:Sl bU)(i:Int)(B:L' (L' V))(more:Bool)(y:Nat):St:=⟨[(0,.yl y),Cv 8 ps,Iv 9 (len ps),Iv 10 i],[],[],B,more,y⟩
abbrev I2(ps:Sl bU)(i:Int)(es:Sl Event)(j:Int)(B:L' (L' V))(more:Bool)(y:Nat):St:=⟨[(0,.yl y),Iv 3 i,Cv 8 ps,Iv 9 (len ps),Iv 10 i,Cv 16 es,Iv 17 (len es),Iv 18 j],[],[],B,more,y⟩
abbrev S2(ps:Sl bU)(i:Int)(es:Sl Event)(j:Int)(b:Bool)(B:L' (L' V))(more:Bool)(y:Nat):St:=⟨[(0,.yl y),Iv 3 i,Cv 8 ps,Iv 9 (len ps),Iv 10 i,Cv 16 es,Iv 17 (len es),Iv 18 j,Bv 19 b],[],[],B,more,y⟩
theorem Xj(ps:Sl bU)(i:Int)(es:Sl Event)(j:Int)(B:L' (L' V))(more:Bool)(y:Nat)(D:decide (j<len es)=false):
 rn S.bare oA some (.rc GO) [] (I2 ps i es j B more y)=some (.exit 2,S2 ps i es j false B more y):=by
 refine Le.get ?_;refine Kf (n:=7) (fo':=.rc (.cond (.s 19) .skip (.exit 2))) (fs':=[.seq (.seq (.block 3 (.seq (.ops CH) (.seq (.ops AD) (.cond (.s 30) .ret .skip)))) (.ops yD)),.gst (.keep [0,3,8,9,10,16,17,18] [])]) (λb=>S2 ps i es j b B more y) D Zad ?_
 exact Le.of_eq Zad
theorem Y3(ps:Sl bU)(i:Int)(es:Sl Event)(j:Int)(e:Event)(B:L' (L' V))(more:Bool)(y:Nat)(G:decide (j<len es)=true)(D:idx es j=some e)(J:(!(more|| !B.isEmpty))=false):
 rn S.bare oA some (.rc GO) [] (I2 ps i es j ([enc (⟨i,wrap .i64 (j+1)⟩:aZ),enc e]::B) more y)=some (.norm,I2 ps i es (wrap .i64 (j+1)) B more y):=by
 refine Le.get ?_;refine Kt (n:=7) (fo':=.rc (.cond (.s 19) .skip (.exit 2))) (fs':=[.seq (.seq (.block 3 (.seq (.ops CH) (.seq (.ops AD) (.cond (.s 30) .ret .skip)))) (.ops yD)),.gst (.keep [0,3,8,9,10,16,17,18] [])]) (λb=>S2 ps i es j b ([enc (⟨i,wrap .i64 (j+1)⟩:aZ),enc e]::B) more y) G Zad ?_
 refine Ty D ?_;refine Ss 8 false [] (CH.drop 1) [.seq (.seq (.ops AD) (.cond (.s 30) .ret .skip)),.blk 3,.seq (.ops yD),.gst (.keep [0,3,8,9,10,16,17,18] [])] ⟨[(0,.yl y),Iv 3 i,Cv 8 ps,Iv 9 (len ps),Iv 10 i,Cv 16 es,Iv 17 (len es),Iv 18 j,Bv 19 true,Iv 20 j],[],[],([enc (⟨i,wrap .i64 (j+1)⟩:aZ),enc e]::B),more,y⟩ .i64 rfl Zad λx a=>?_
 obtain rfl:x=e:=by rw[D]at a;cases a;rfl
 refine Ye 1 false [] (CH.drop 3) [.seq (.seq (.ops AD) (.cond (.s 30) .ret .skip)),.blk 3,.seq (.ops yD),.gst (.keep [0,3,8,9,10,16,17,18] [])] ⟨[(0,.yl y),Iv 3 i,Cv 8 ps,Iv 9 (len ps),Iv 10 i,Cv 16 es,Iv 17 (len es),Iv 18 j,Bv 19 true,Iv 20 j,Cv 22 x],[],[],([enc (⟨i,wrap .i64 (j+1)⟩:aZ),enc x]::B),more,y⟩ [iv 0,iv 0,iv 0,iv 0,.v .bM] rfl (by simp only[bL,zc,rN,tj,rL,tA,um,s_,uH,rC,tu,zo,u5,uP,uq,uG,wV,xd,s9,uz,SV.c6];rfl) Zad ?_
 refine Ast 1 false [] (CH.drop 5) [.seq (.seq (.ops AD) (.cond (.s 30) .ret .skip)),.blk 3,.seq (.ops yD),.gst (.keep [0,3,8,9,10,16,17,18] [])] ⟨[(0,.yl y),Iv 3 i,Cv 8 ps,Iv 9 (len ps),Iv 10 i,Cv 16 es,Iv 17 (len es),Iv 18 j,Bv 19 true,Cv 22 x,Pv 6,Iv 5 j],[Xb 6 (⟨0,0,0,0,.nil⟩:Event)],[],([enc (⟨i,wrap .i64 (j+1)⟩:aZ),enc x]::B),more,y⟩ 6 0 x [iv 0,iv 0,iv 0,iv 0,.v .bM] ((cells x).map .v) rfl Zad ?_
 refine Z5 (n:=10) (q:=AD.drop 6) (fs':=[.seq (.cond (.s 30) .ret .skip),.blk 3,.seq (.ops yD),.gst (.keep [0,3,8,9,10,16,17,18] [])]) (st:=⟨[(0,.yl y),Iv 3 i,Cv 8 ps,Iv 9 (len ps),Iv 10 i,Cv 16 es,Iv 17 (len es),Iv 18 j,Bv 19 true,(23,.yl y),Cv 27 (⟨i,wrap .i64 (j+1)⟩:aZ),Cv 28 x],[Xb 6 x],[],([enc (⟨i,wrap .i64 (j+1)⟩:aZ),enc x]::B),more,y⟩) (vs:=[cv (⟨i,wrap .i64 (j+1)⟩:aZ),cv x]) Zad rfl Zad Zad rfl rfl ?_
 refine Kf (n:=3) (fo':=.rc (.cond (.s 30) .ret .skip)) (fs':=[.blk 3,.seq (.ops yD),.gst (.keep [0,3,8,9,10,16,17,18] [])]) (λb=>⟨[(0,.yl y),Iv 3 i,Cv 8 ps,Iv 9 (len ps),Iv 10 i,Cv 16 es,Iv 17 (len es),Iv 18 j,Bv 19 true,Bv 30 b],[Xb 6 x],[],B,more,y⟩) J Zad ?_
 exact Le.of_eq Zad
theorem Wd(ps:Sl bU)(i:Int)(es:Sl Event)(j:Int)(e:Event)(B:L' (L' V))(more:Bool)(y:Nat)(G:decide (j<len es)=true)(D:idx es j=some e)(J:(!(more|| !B.isEmpty))=true):
 rn S.bare oA some (.rc GO) [] (I2 ps i es j ([enc (⟨i,wrap .i64 (j+1)⟩:aZ),enc e]::B) more y)=some (.ret,⟨[(0,.yl y),Iv 3 i,Cv 8 ps,Iv 9 (len ps),Iv 10 i,Cv 16 es,Iv 17 (len es),Iv 18 j,Bv 19 true,Bv 30 true],[Xb 6 e],[],B,more,y⟩):=by
 refine Le.get ?_;refine Kt (n:=7) (fo':=.rc (.cond (.s 19) .skip (.exit 2))) (fs':=[.seq (.seq (.block 3 (.seq (.ops CH) (.seq (.ops AD) (.cond (.s 30) .ret .skip)))) (.ops yD)),.gst (.keep [0,3,8,9,10,16,17,18] [])]) (λb=>S2 ps i es j b ([enc (⟨i,wrap .i64 (j+1)⟩:aZ),enc e]::B) more y) G Zad ?_
 refine Ty D ?_;refine Ss 8 false [] (CH.drop 1) [.seq (.seq (.ops AD) (.cond (.s 30) .ret .skip)),.blk 3,.seq (.ops yD),.gst (.keep [0,3,8,9,10,16,17,18] [])] ⟨[(0,.yl y),Iv 3 i,Cv 8 ps,Iv 9 (len ps),Iv 10 i,Cv 16 es,Iv 17 (len es),Iv 18 j,Bv 19 true,Iv 20 j],[],[],([enc (⟨i,wrap .i64 (j+1)⟩:aZ),enc e]::B),more,y⟩ .i64 rfl Zad λx a=>?_
 obtain rfl:x=e:=by rw[D]at a;cases a;rfl
 refine Ye 1 false [] (CH.drop 3) [.seq (.seq (.ops AD) (.cond (.s 30) .ret .skip)),.blk 3,.seq (.ops yD),.gst (.keep [0,3,8,9,10,16,17,18] [])] ⟨[(0,.yl y),Iv 3 i,Cv 8 ps,Iv 9 (len ps),Iv 10 i,Cv 16 es,Iv 17 (len es),Iv 18 j,Bv 19 true,Iv 20 j,Cv 22 x],[],[],([enc (⟨i,wrap .i64 (j+1)⟩:aZ),enc x]::B),more,y⟩ [iv 0,iv 0,iv 0,iv 0,.v .bM] rfl (by simp only[bL,zc,rN,tj,rL,tA,um,s_,uH,rC,tu,zo,u5,uP,uq,uG,wV,xd,s9,uz,SV.c6];rfl) Zad ?_
 refine Ast 1 false [] (CH.drop 5) [.seq (.seq (.ops AD) (.cond (.s 30) .ret .skip)),.blk 3,.seq (.ops yD),.gst (.keep [0,3,8,9,10,16,17,18] [])] ⟨[(0,.yl y),Iv 3 i,Cv 8 ps,Iv 9 (len ps),Iv 10 i,Cv 16 es,Iv 17 (len es),Iv 18 j,Bv 19 true,Cv 22 x,Pv 6,Iv 5 j],[Xb 6 (⟨0,0,0,0,.nil⟩:Event)],[],([enc (⟨i,wrap .i64 (j+1)⟩:aZ),enc x]::B),more,y⟩ 6 0 x [iv 0,iv 0,iv 0,iv 0,.v .bM] ((cells x).map .v) rfl Zad ?_
 refine Z5 (n:=10) (q:=AD.drop 6) (fs':=[.seq (.cond (.s 30) .ret .skip),.blk 3,.seq (.ops yD),.gst (.keep [0,3,8,9,10,16,17,18] [])]) (st:=⟨[(0,.yl y),Iv 3 i,Cv 8 ps,Iv 9 (len ps),Iv 10 i,Cv 16 es,Iv 17 (len es),Iv 18 j,Bv 19 true,(23,.yl y),Cv 27 (⟨i,wrap .i64 (j+1)⟩:aZ),Cv 28 x],[Xb 6 x],[],([enc (⟨i,wrap .i64 (j+1)⟩:aZ),enc x]::B),more,y⟩) (vs:=[cv (⟨i,wrap .i64 (j+1)⟩:aZ),cv x]) Zad rfl Zad Zad rfl rfl ?_
 refine Kt (n:=3) (fo':=.rc (.cond (.s 30) .ret .skip)) (fs':=[.blk 3,.seq (.ops yD),.gst (.keep [0,3,8,9,10,16,17,18] [])]) (λb=>⟨[(0,.yl y),Iv 3 i,Cv 8 ps,Iv 9 (len ps),Iv 10 i,Cv 16 es,Iv 17 (len es),Iv 18 j,Bv 19 true,Bv 30 b],[Xb 6 x],[],B,more,y⟩) J Zad ?_
 exact Le.of_eq Zad
abbrev S1(ps:Sl bU)(i:Int)(b:Bool)(B:L' (L' V))(more:Bool)(y:Nat):St:=⟨[(0,.yl y),Cv 8 ps,Iv 9 (len ps),Iv 10 i,Bv 11 b],[],[],B,more,y⟩
theorem XP(ps:Sl bU)(i:Int)(B:L' (L' V))(more:Bool)(y:Nat)(D:decide (i<len ps)=false):
 rn S.bare oA some (.rc Qt) [] (I1 ps i B more y)=some (.exit 0,S1 ps i false B more y):=by
 refine Le.get ?_;refine Kf (n:=7) (fo':=.rc (.cond (.s 11) .skip (.exit 0))) (fs':=[.seq (.seq (.block 1 (.seq (.ops LQ) (.seq (.ops KD) U2))) (.ops GB)),.gst (.keep [0,8,9,10] [])]) (λb=>S1 ps i b B more y) D Zad ?_
 exact Le.of_eq Zad
def UA:L' Fm:=[.blk 2,.blk 1,.seq (.ops GB),.gst (.keep [0,8,9,10] [])]
theorem UJ(ps:Sl bU)(i:Int)(p:bU)(B:L' (L' V))(more:Bool)(y:Nat)(r:Out×St)(G:decide (i<len ps)=true)(D:idx ps i=some p)
 (h:rn S.bare oA some (.rc (.loop GO)) UA (I2 ps i p.events 0 B more y)=some r):rn S.bare oA some (.rc Qt) [] (I1 ps i B more y)=some r:=by
 refine Le.get ?_;refine Kt (n:=7) (fo':=.rc (.cond (.s 11) .skip (.exit 0))) (fs':=[.seq (.seq (.block 1 (.seq (.ops LQ) (.seq (.ops KD) U2))) (.ops GB)),.gst (.keep [0,8,9,10] [])]) (λb=>S1 ps i b B more y) G Zad ?_
 refine Ty D ?_;refine Ss 8 false [] (LQ.drop 1) [.seq (.seq (.ops KD) U2),.blk 1,.seq (.ops GB),.gst (.keep [0,8,9,10] [])] ⟨[(0,.yl y),Cv 8 ps,Iv 9 (len ps),Iv 10 i,Bv 11 true,Iv 12 i],[],[],B,more,y⟩ .i64 rfl Zad λx a=>?_
 obtain rfl:x=p:=by rw[D]at a;cases a;rfl
 refine Ye 1 false [] (LQ.drop 3) [.seq (.seq (.ops KD) U2),.blk 1,.seq (.ops GB),.gst (.keep [0,8,9,10] [])] ⟨[(0,.yl y),Cv 8 ps,Iv 9 (len ps),Iv 10 i,Bv 11 true,Iv 12 i,Cv 14 x],[],[],B,more,y⟩ [.v (.str ByteArray.empty),.v .bM,.v .bM] rfl (by simp only[bL,zc,rN,tj,rL,tA,um,s_,uH,rC,tu,zo,u5,uP,uq,uG,wV,xd,s9,uz,SV.c6];rfl) Zad ?_
 refine Ast 1 false [] (LQ.drop 5) [.seq (.seq (.ops KD) U2),.blk 1,.seq (.ops GB),.gst (.keep [0,8,9,10] [])] ⟨[(0,.yl y),Cv 8 ps,Iv 9 (len ps),Iv 10 i,Bv 11 true,Cv 14 x,Pv 4,Iv 3 i],[Xb 4 (⟨ByteArray.empty,.nil,.nil⟩:bU)],[],B,more,y⟩ 4 0 x [.v (.str ByteArray.empty),.v .bM,.v .bM] ((cells x).map .v) rfl Zad ?_
 refine X1 6 false [] (KD.drop 2) [.seq U2,.blk 1,.seq (.ops GB),.gst (.keep [0,8,9,10] [])] ⟨[(0,.yl y),Cv 8 ps,Iv 9 (len ps),Iv 10 i,Bv 11 true,Pv 4,Iv 3 i,Cv 16 x.events],[Xb 4 x],[],B,more,y⟩ x.events rfl Zad ?_
 refine BU (n:=5) (fo':=.rc (.loop GO)) (fs':=UA) (st':=I2 ps i x.events 0 B more y) Zad (Le.of_eq h)
theorem Wi(ps:Sl bU)(i:Int)(es:Sl Event)(j:Int)(B:L' (L' V))(more:Bool)(y:Nat):
 rn S.bare oA some (.ex 2) UA (S2 ps i es j false B more y)=some (.norm,I1 ps (wrap .i64 (i+1)) B more y):=by kernel_rfl
theorem wrap_small(n:Nat)(h:n<9223372036854775807):wrap .i64 ((n:Int)+1)=((n+1:Nat):Int):=by simp[wrap,IntKind.bits,signed];omega
abbrev eI(x:aZ×Event):L' V:=[enc x.1,enc x.2]
theorem vU.step{x:L' V}{D rest:L' (L' V)}{more:Bool}(h:vU D (x::rest) more):∃B,D=x::B/\((!(more|| !B.isEmpty))=false/\vU B rest more\/(!(more|| !B.isEmpty))=true/\B=[]):=by rcases h with⟨rfl,rfl⟩|⟨rfl,u,r,a⟩;exact⟨rest,rfl,.inl ⟨rfl,.inl ⟨rfl,rfl⟩⟩⟩;cases D with|nil=>exact absurd rfl u|cons w D=>simp only[cons_append,List.cons.injEq]at a;obtain⟨rfl,rfl⟩:=a;refine⟨D,rfl,?_⟩;cases D with|nil=>exact .inr ⟨rfl,rfl⟩|cons z C=>exact .inl ⟨rfl,.inr ⟨rfl,Zab,r,rfl⟩⟩
theorem uO{α:Type}{s:Sl α}{j:Nat}{x:α}{r:L' α}(h:s.l.drop j=x::r):idx s (j:Int)=some x/\decide ((j:Int)<len s)=true/\s.l.drop (j+1)=r:=by
 have a:j<s.l.length:=by apply Classical.byContradiction;intro w;rw[List.drop_eq_nil_of_le Zaa]at h;cases h
 have u:=List.drop_eq_getElem_cons a;rw[u]at h;simp only[List.cons.injEq]at h;refine⟨?_,by simp[len,a],h.2⟩;unfold idx;rw[if_pos Zaa];simp[ζd a,h.1]
variable{Q:Out×St->Lk (Out×St)}{fs:L' Fm}
theorem inner(ps:Sl bU)(i:Int)(es:Sl Event)(U:es.l.length<9223372036854775807)(more:Bool)(y:Nat)(R:L' (L' V)):∀(a:L' Event)(j:Nat),es.l.drop j=a->∀D,vU D ((i_ i j a).map eI++R) more->
 (∃(B:L' (L' V))(W:Int),vU B R more/\rn S.bare oA Q (.rc (.loop GO)) fs (I2 ps i es j D more y)=rn S.bare oA Q (.ex 2) fs (S2 ps i es W false B more y))\/
 (∃st':St,st'.want=[]/\rn S.bare oA Q (.rc (.loop GO)) fs (I2 ps i es j D more y)=Q (.ret,st'))
 |[],j,hd,D,G=>by
  have b:decide ((j:Int)<len es)=false:=by
   have:es.l.length<=j:=by simpa using hd
   simp[len];omega
  exact .inl ⟨D,j,by simpa[i_]using G,G6 (Xj ps i es j D more y b)⟩
 |e::a,j,hd,D,G=>by
  obtain⟨b,z,O⟩:=uO hd;have X:j<es.l.length:=by simpa[len]using z
  simp only[i_,map_cons,cons_append]at G;obtain⟨B,rfl,u⟩:=vU.step G;have C:=wrap_small j Zaa;have w:((j:Int)+1)=wrap .i64 ((j:Int)+1):=by rw[C];simp
  rcases u with⟨u,I⟩|⟨u,rfl⟩;have k:=Y3 (S:=S) ps i es j e B more y z b u;rw[<-w]at k;have k2:=GW (Q:=Q) (fs:=fs) k;have L:=inner ps i es U more y R a (j+1) O B (by push_cast;exact I);rw[show((j+1:Nat):Int)=(j:Int)+1 from rfl]at L;rcases L with⟨J,T,g1,g2⟩|⟨st',g1,g2⟩;exact .inl ⟨J,T,g1,k2.trans g2⟩;exact .inr ⟨st',g1,k2.trans g2⟩;have k:=Wd (S:=S) ps i es j e [] more y z b u;rw[<-w]at k;exact .inr ⟨_,by rfl,HF k⟩
theorem outer(ps:Sl bU)(J:ps.l.length<9223372036854775807)(D:∀p∈ps.l,p.events.l.length<9223372036854775807)(more:Bool)(y:Nat):∀(a:L' bU)(i:Nat),ps.l.drop i=a->∀B,vU B ((gb i a).map eI) more->
 rn S.bare oA Qi (.rc (.loop Qt)) [.blk 0] (I1 ps i B more y)=some ()
 |[],i,hd,B,G=>by
  have b:decide ((i:Int)<len ps)=false:=by
   have:ps.l.length<=i:=by simpa using hd
   simp[len];omega
  rw[G6 (XP ps i B more y b)];have:B=[]:=by
   rcases G with⟨_,rfl⟩|⟨_,C,r,c⟩;rfl;have:B=[]:=by cases B with
    |nil=>rfl|cons=>simp[gb]at c
   exact absurd this C
  subst this;rfl
 |p::a,i,hd,B,G=>by
  obtain⟨b,u,I⟩:=uO hd;have hi:i<ps.l.length:=by simpa[len]using u
  have L:p∈ps.l:=List.mem_of_mem_drop (i:=i) (by rw[hd];exact List.mem_cons_self ..);simp only[gb,map_append]at G;have w:=wrap_small i Zaa;rcases inner (S:=S) (Q:=some) (fs:=UA) ps i p.events (D p L) more y _ p.events.l 0 rfl B G with⟨z,O,g1,g2⟩|⟨st',g1,g2⟩;rw[Wi,w]at g2;rw[GW (UJ ps i p B more y _ u b g2)];exact outer ps J D more y a (i+1) I z g1;rw[HF (UJ ps i p B more y _ u b g2)];simp[Qi,g1]
theorem all(t:Trace)(B:L' (aZ×Event))(h:jy t=some B)(D:L' (L' V))(more:Bool)(G:vU D (B.map eI) more)(y:Nat):
 rn S.bare oA Qi (.rc text.body) [] ⟨vZ 0 (([]:L' V).map .v++.yl y::[V.fptr (cells t)].map .v),[],[],D,more,y⟩=some ():=by
 unfold jy at h;split at h
 .rename_i hk;cases h;simp only[ζh,List.all_eq_true,pK,decide_eq_true_eq]at hk;refine Le.get ?_;refine X1 4 false [] (Qa.drop 2) [.seq U1] ⟨[(0,.yl y),Cv 8 t.procs],[],[],D,more,y⟩ t.procs rfl Zad ?_
  refine BU (n:=5) (fo':=.rc (.loop Qt)) (fs':=[.blk 0]) (st':=I1 t.procs 0 D more y) Zad (Le.of_eq ?_)
  exact outer t.procs hk.1 hk.2 more y t.procs.l 0 rfl D G
 cases h
end
theorem wX{α:Type}[bB α]{a b:Sl α}(h:bX a=bX b):rows a.l=rows b.l:=by cases a<;>cases b<;>first|rfl|(simp only[bX,Sl.k,o6,V.fsl.injEq,true_and,reduceCtorEq]at h;done)|(simp only[bX,Sl.k,o6,V.fsl.injEq,true_and,reduceCtorEq]at h;exact h)
theorem xI(p:Int):∀(es B:L' Event)(j:Int),rows es=rows B->(i_ p j es).map eI=(i_ p j B).map eI
 |[],[],_,_=>rfl|[],_::_,_,h=>by simp[rows]at h|_::_,[],_,h=>by simp[rows]at h|e::es,D::B,j,h=>by
  simp only[rows,map_cons,List.cons.injEq]at h;have a:enc e=enc D:=by show V.agg (cells e)=V.agg (cells D);rw[h.1]
  simp only[i_,map_cons,eI,a,xI p es B (j+1) h.2]
theorem DS:∀(ps B:L' bU)(i:Int),rows ps=rows B->(gb i ps).map eI=(gb i B).map eI
 |[],[],_,_=>rfl|[],_::_,_,h=>by simp[rows]at h|_::_,[],_,h=>by simp[rows]at h|p::ps,p'::B,i,h=>by
  simp only[rows,map_cons,List.cons.injEq]at h;have a:bX p.events=bX p'.events:=by have:=h.1;change[V.str p.name,bX p.vars,bX p.events]=[V.str p'.name,bX p'.vars,bX p'.events]at this;simp only[List.cons.injEq]at this;exact this.2.2.1
  simp only[gb,map_append,xI i _ _ 0 (wX a),DS ps B (i+1) h.2]
def wK(f:FuncId)(g:FuncId)(a b:L' V)(xs:L' (L' V)):Prop:=∃(t:Trace)(u:L' (aZ×Event)),g=f/\a=[]/\b=[.fptr (cells t)]/\jy t=some u/\xs=u.map eI
theorem wK.uniq{f g:FuncId}{a b:L' V}{xs ys:L' (L' V)}(h:wK f g a b xs)(k:wK f g a b ys):xs=ys:=by
 obtain⟨t,C,rfl,rfl,rfl,c,rfl⟩:=h;obtain⟨z,B,_,_,w,u,rfl⟩:=k;simp only[List.cons.injEq,V.fptr.injEq,and_true]at w;have D:bX t.procs=bX z.procs:=by change[bX t.procs]=[bX z.procs]at w;simpa using w
 unfold jy at c u;split at c<;>split at u<;>simp only[ζa,reduceCtorEq]at c u;subst c u;exact DS _ _ 0 (wX D)
end trace_events_c1
end Go.VE
namespace Go.VE
open Go.Proofs.YtknifbdijcocpaaGreatDoor
noncomputable section
noncomputable def Io(f:FuncId):Lk Hq:=bif beq f 126 then some (tS E)else bif beq f 123 then some (tW E)else none
noncomputable def Sb:Sys:=⟨E,λn=>n,λ_ _ _=>none,zF E,Io⟩
theorem ID:∀f q,Io f=some q->ot E f q:=by intro f q h;unfold Io at h;cases a:beq f 126 with|true=>rw[a]at h;cases h;have:=Nat.eq_of_beq_eq_true a;subst this;exact Ts w6 Zad Zad (Dy Zad)|false=>rw[a]at h;cases a:beq f 123 with|true=>rw[a]at h;cases h;have:=Nat.eq_of_beq_eq_true a;subst this;exact S9 Zad Zad Zad Zad|false=>rw[a]at h;cases h
def Tx:qO:=TN E some (lk MT)
abbrev cB:b9:=dc Sb Tx
theorem Xz:rH Sb Tx where
 fn f rf h:=let⟨u,a,w⟩:=Df h;⟨u,some,a,w6,w⟩
 yo f z y h:=Hl h
 prm:=ID
theorem PD:∀f a b xs,Sb.items f a b=some xs->eD Sb f a b xs:=λf a b xs h=>by cases h
end
end Go.VE
namespace Go.VE
noncomputable section
namespace IB
def dR(s0:Sl Int):Lk (Sl Int):=(Sl.isNil s0).bind λu=>bg u (some Sl.nil) ((oc (Sl.row []:Sl Int) s0).bind λw=>some w)
theorem gE:BQ Sb cB 27 (λs0:Sl Int=>[enc s0]) (λz=>dR z):=BQ.mk' (rR (Tx 27)) (λs0=>I4 9 λu _=>bz 2 4 a_ (zw 7 5 7 λw _=>a_))
namespace cw
def eU(k6:Int)(U:Sl Event)(W Y:Int)(G:Sl Assign)(J:Int)(a:L' (L' V))(B:Sl Int)(D:Int)(more:Bool):Lk (Fw ((Sl Int)×Int) (Sl Int) Empty):=bg (decide (D<J)) ((idx G D).bind λu=>(Sl.kS B u.var).bind λw=>(Sl.put B w (u.value:Int)).bind λz=>some (.n (z,wrap .i64 (D+1)))) (some (.x B))
def W3(B:Sl Int)(k6:Int)(J:Sl Event)(D G:Int)(U:Sl Assign)(W Y:Int)(a:L' (L' V))(more:Bool):Lk (Fw ((Sl Int)×Int×Int×(L' (L' V))) (L' (L' V)) (L' (L' V))):=(bT (λq:(Sl Int)×Int=>eU k6 J D G U W a q.1 q.2 more) (B,Y)).bind (Fw.elim (λe=>((dR e).bind Sl.whole).bind λw=>(yl a more [.int .i64 (wrap .i64 (k6+1)),enc w]).bind λu=>bg u.1 (some (.n (e,D,wrap .i64 (G+1),u.2))) (some (.r u.2))) (λe=>elim e))
def bV(D:Sl Event)(G:Sl Int)(J B:Int)(U:L' (L' V))(more:Bool):Lk (Fw ((Sl Int)×Int×Int×(L' (L' V))) (L' (L' V)) (L' (L' V))):=bg (decide (B<J)) ((idx D B).bind λu=>W3 G B D J B u.assign (len u.assign) 0 U more) (some (.x U))
def W2(B:Sl Int)(D:Sl Event)(G J:Int)(U:L' (L' V))(more:Bool):Lk (L' (L' V)):=(bT (λq:(Sl Int)×Int×Int×(L' (L' V))=>bV D q.1 q.2.1 q.2.2.1 q.2.2.2 more) (B,G,J,U)).bind (Fw.elim (λe=>some e) (λe=>some e))
def bp(U:bU)(G:Sl Var)(J:Int)(W:L' (L' V))(B:Sl Int)(D:Int)(more:Bool):Lk (Fw ((Sl Int)×Int) (Sl Int) Empty):=bg (decide (D<J)) ((idx G D).bind λu=>(ga B (u.init_:Int)).bind λw=>some (.n (w,wrap .i64 (D+1)))) (some (.x B))
def W1(B:bU)(D:Sl Int)(G:Sl Var)(J U:Int)(W:L' (L' V))(more:Bool):Lk (L' (L' V)):=(bT (λq:(Sl Int)×Int=>bp B G J W q.1 q.2 more) (D,U)).bind (Fw.elim (λe=>((dR e).bind Sl.whole).bind λw=>(yl W more [.int .i64 0,enc w]).bind λu=>bg u.1 (cw.W2 e B.events (len B.events) 0 u.2 more) (some u.2)) (λe=>elim e))
end cw
def cw(D:L' (L' V))(B:bU)(more:Bool):Lk (L' (L' V)):=cw.W1 B (Sl.nil:Sl Int) B.vars (len B.vars) 0 D more
open cw in
theorem zp(more:Bool)(y:Nat)(J:L' (L' V))(B:bU):Le ((cw J B more).bind λr=>some r) (b8 Sb cB Qw (.rc (tb Tx 141),[],⟨vZ 0 (.yl y::[V.fptr (cells B)].map .v),[],[],J,more,y⟩)):=b7 10 B.vars (fN 6 (λC=>⟨[(0,.yl y),Kv 1 B,Ov 3,Cv 11 B.vars,Iv 12 (len B.vars),Iv 13 C.2],[Lb 2003 C.1],[],J,more,y⟩) (λD=>(0,⟨[(0,.yl y),Kv 1 B,Ov 3],[Lb 2003 D],[],J,more,y⟩)) (λC=>bz 8 14 (bP 7 λT _=>n_ 10 2003 20 21 λU _=>a_) a_) (λD=>T0 7 25 gE D λL _=>Byl 1 [.int .i64 0,enc L] λS _=>dA 3 27 (b7 7 B.events (dY 6 (λu=>⟨[(0,.yl y),Ov 3,Cv 29 B.events,Iv 30 u.2.1,Iv 31 u.2.2.1],[Lb 2003 u.1],[],u.2.2.2,more,y⟩) (λw=>(2,⟨[],[],[],w,more,y⟩)) (λw=>⟨[],[],[],w,more,y⟩) (λu=>bz 8 32 (bP 8 λz _=>oM 3 7 0 z (b7 7 z.assign (fN 6 (λG=>⟨[(0,.yl y),Ov 3,Iv 6 u.2.2.1,Cv 29 B.events,Iv 30 u.2.1,Iv 31 u.2.2.1,Cv 37 z.assign,Iv 38 (len z.assign),Iv 39 G.2],[Lb 2003 G.1],[],u.2.2.2,more,y⟩) (λI=>(4,⟨[(0,.yl y),Ov 3,Iv 6 u.2.2.1,Cv 29 B.events,Iv 30 u.2.1,Iv 31 u.2.2.1],[Lb 2003 I],[],u.2.2.2,more,y⟩)) (λG=>bz 8 40 (bP 7 λO _=>kZ .i64 11 2003 λW _=>Da 0 2003 (.int .i64 O.value) λX _=>a_) a_) (λI=>T0 8 54 gE I λQ _=>Byl 1 [.int .i64 (wrap .i64 (u.2.2.1+1)),enc Q] λY _=>dA 3 56 a_ a_)))) a_) (λw=>a_) (λw=>a_))) a_))
end IB
end
end Go.VE
namespace Go.VE
open IB
def wB:L' Assign->Sl Int->Lk (Sl Int)
 |[],s=>some s|a::r,s=>(Sl.kS s a.var).bind λj=>(Sl.put s j a.value).bind (wB r)
def wz:L' Var->Sl Int->Lk (Sl Int)
 |[],s=>some s|v::r,s=>(ga s v.init_).bind (wz r)
def Om(s:Sl Int):Lk (Sl Int):=(dR s).bind Sl.whole
def wL:Int->L' Event->Sl Int->Lk (L' (Int×Sl Int))
 |_,[],_=>some []|k,e::r,s=>(wB e.assign.l s).bind λn=>(Om n).bind λc=>(wL (k+1) r n).map ((k+1,c)::·)
def jF(p:bU):Lk (L' (Int×Sl Int)):=if pK p.vars.l.length&&(pK p.events.l.length&&p.events.l.all λe=>pK e.assign.l.length)then(wz p.vars.l .nil).bind λs=>(Om s).bind λc=>(wL 0 p.events.l s).map ((0,c)::·)else none
namespace IST
abbrev eI(x:Int×Sl Int):L' V:=[enc x.1,enc x.2]
theorem Dv{n:Nat}(h:pK n=true):n<9223372036854775807:=by simpa[pK]using h
theorem wrap_small(n:Nat)(h:n<9223372036854775807):wrap .i64 ((n:Int)+1)=((n+1:Nat):Int):=by simp[wrap,IntKind.bits,signed];omega
theorem uO{α:Type}{s:Sl α}{j:Nat}{x:α}{r:L' α}(h:s.l.drop j=x::r):idx s (j:Int)=some x/\decide ((j:Int)<len s)=true/\s.l.drop (j+1)=r:=by
 have a:j<s.l.length:=by apply Classical.byContradiction;intro w;rw[List.drop_eq_nil_of_le Zaa]at h;cases h
 have u:=List.drop_eq_getElem_cons a;rw[u]at h;simp only[List.cons.injEq]at h;refine⟨?_,by simp[len,a],h.2⟩;unfold idx;rw[if_pos Zaa];simp[ζd a,h.1]
theorem IW{α:Type}{s:Sl α}{j:Nat}(h:s.l.drop j=[]):decide ((j:Int)<len s)=false:=by
 have:s.l.length<=j:=by simpa using h
 simp[len];omega
theorem ini(p:bU)(v:Sl Var)(J:v.l.length<9223372036854775807)(D:L' (L' V))(more:Bool):∀(a:L' Var)(j:Nat),v.l.drop j=a->∀s B,wz a s=some B->
 bT (λq:Sl Int×Int=>cw.bp p v (len v) D q.1 q.2 more) (s,(j:Int))=some (.x B)
 |[],j,hd,s,B,h=>by cases h;rw[eB];simp only[cw.bp,IW hd,bg,ζb,Bool.false_eq_true,if_false]|x::a,j,hd,s,B,h=>by
  obtain⟨b,G,U⟩:=uO hd;have w:j<v.l.length:=by simpa[len]using G
  simp only[wz,ζg]at h;obtain⟨n,u,h⟩:=h;rw[eB];simp only[cw.bp,b,G,u,bg,ζb,if_true,wrap_small j Zaa];exact ini p v J D more a (j+1) U n B h
theorem set(k:Int)(es:Sl Event)(a b:Int)(v:Sl Assign)(J:v.l.length<9223372036854775807)(D:L' (L' V))(more:Bool):∀(c:L' Assign)(j:Nat),v.l.drop j=c->∀s B,wB c s=some B->
 bT (λq:Sl Int×Int=>cw.eU k es a b v (len v) D q.1 q.2 more) (s,(j:Int))=some (.x B)
 |[],j,hd,s,B,h=>by cases h;rw[eB];simp only[cw.eU,IW hd,bg,ζb,Bool.false_eq_true,if_false]|x::c,j,hd,s,B,h=>by
  obtain⟨d,G,U⟩:=uO hd;have w:j<v.l.length:=by simpa[len]using G
  simp only[wB,ζg]at h;obtain⟨i,hi,n,u,h⟩:=h;rw[eB];simp only[cw.eU,d,G,hi,u,bg,ζb,if_true,wrap_small j Zaa];exact set k es a b v J D more c (j+1) U n B h
theorem vU.step{x:L' V}{D rest:L' (L' V)}{more:Bool}(h:vU D (x::rest) more):∃B,yl D more x=some ((more|| !B.isEmpty),B)/\((more|| !B.isEmpty)=true/\vU B rest more\/(more|| !B.isEmpty)=false/\B=[]):=by rcases h with⟨rfl,rfl⟩|⟨rfl,u,r,a⟩;exact⟨rest,by simp[yl],.inl ⟨rfl,.inl ⟨rfl,rfl⟩⟩⟩;cases D with|nil=>exact absurd rfl u|cons w D=>simp only[cons_append,List.cons.injEq]at a;obtain⟨rfl,rfl⟩:=a;refine⟨D,by simp[yl],?_⟩;cases D with|nil=>exact .inr ⟨rfl,rfl⟩|cons z C=>exact .inl ⟨rfl,.inr ⟨rfl,Zab,r,rfl⟩⟩
theorem fI(es:Sl Event)(W:es.l.length<9223372036854775807)(G:∀e∈es.l,e.assign.l.length<9223372036854775807)(more:Bool):∀(a:L' Event)(j:Nat),es.l.drop j=a->∀s B,wL (j:Int) a s=some B->∀D,vU D (B.map eI) more->
 ∃J:L' (L' V),J=[]/\(bT (λq:Sl Int×Int×Int×L' (L' V)=>cw.bV es q.1 q.2.1 q.2.2.1 q.2.2.2 more) (s,len es,(j:Int),D)=some (.x J)\/bT (λq:Sl Int×Int×Int×L' (L' V)=>cw.bV es q.1 q.2.1 q.2.2.1 q.2.2.2 more) (s,len es,(j:Int),D)=some (.r J))
 |[],j,hd,s,B,h,D,U=>by
  cases h;have:D=[]:=by rcases U with⟨_,rfl⟩|⟨_,L,r,d⟩;rfl;cases D with|nil=>rfl|cons=>simp at d
  subst this;refine⟨[],rfl,.inl ?_⟩;rw[eB];simp only[cw.bV,IW hd,bg,ζb,Bool.false_eq_true,if_false]
 |e::a,j,hd,s,B,h,D,U=>by
  obtain⟨f,I,O⟩:=uO hd;have Z:j<es.l.length:=by simpa[len]using I
  have Q:e∈es.l:=List.mem_of_mem_drop (i:=j) (by rw[hd];exact List.mem_cons_self ..);simp only[wL,ζg,ζf]at h;obtain⟨n,L,c,b,r,d,rfl⟩:=h;have b:(dR n).bind Sl.whole=some c:=b;obtain⟨w,z,S⟩:=vU.step U;have C:=wrap_small j Zaa;have z:yl D more [.int .i64 ((j+1:Nat):Int),enc c]=some ((more|| !w.isEmpty),w):=z;rw[eB];have u:=set j es (len es) j e.assign (G e Q) D more e.assign.l 0 rfl s n L;rw[show((0:Nat):Int)=0 from rfl]at u;rcases S with⟨g1,g2⟩|⟨g1,rfl⟩;obtain⟨T,X,Y⟩:=fI es W G more a (j+1) O n r d w g2;refine⟨T,X,?_⟩;rw[g1]at z;simp only[cw.bV,cw.W3,f,I,u,b,z,bg,ζb,if_true,Fw.elim,C];exact Y;refine⟨[],rfl,.inr ?_⟩;rw[g1]at z;simp only[cw.bV,cw.W3,f,I,u,b,C,z,bg,ζb,if_true,if_false,Bool.false_eq_true,Fw.elim]
theorem all(p:bU)(B:L' (Int×Sl Int))(h:jF p=some B)(D:L' (L' V))(more:Bool)(G:vU D (B.map eI) more):cw D p more=some []:=by unfold jF at h;split at h;rename_i b;simp only[ζh,List.all_eq_true]at b;obtain⟨k1,k2,k3⟩:=b;simp only[ζg,ζf]at h;obtain⟨s,C,c,a,r,d,rfl⟩:=h;have a:(dR s).bind Sl.whole=some c:=a;obtain⟨u,w,I⟩:=vU.step G;have hi:=ini p p.vars (Dv k1) D more p.vars.l 0 rfl .nil s C;rw[show((0:Nat):Int)=0 from rfl]at hi;have w:yl D more [.int .i64 0,enc c]=some ((more|| !u.isEmpty),u):=w;unfold cw cw.W1;simp only[hi,ζb,Fw.elim,a,w];rcases I with⟨g1,g2⟩|⟨g1,rfl⟩;obtain⟨L,rfl,z⟩:=fI p.events (Dv k2) (λe J=>Dv (k3 e J)) more p.events.l 0 rfl s r d u g2;rw[show((0:Nat):Int)=0 from rfl]at z;rw[g1];simp only[bg,if_true,cw.W2];rcases z with q|q<;>(rw[q];rfl);rw[g1];rfl;cases h
theorem wX{α:Type}[bB α]{a b:Sl α}(h:bX a=bX b):rows a.l=rows b.l:=by cases a<;>cases b<;>first|rfl|(simp only[bX,Sl.k,o6,V.fsl.injEq,true_and,reduceCtorEq]at h;done)|(simp only[bX,Sl.k,o6,V.fsl.injEq,true_and,reduceCtorEq]at h;exact h)
theorem J5:∀(a b:L' Var),rows a=rows b->∀s,wz a s=wz b s
 |[],[],_,_=>rfl|[],_::_,h,_=>by simp[rows]at h|_::_,[],h,_=>by simp[rows]at h|x::a,y::b,h,s=>by
  simp only[rows,map_cons,List.cons.injEq]at h;have c:x.init_=y.init_:=by have:=h.1;change[V.str x.name,V.int .i64 x.init_]=[V.str y.name,V.int .i64 y.init_]at this;simpa using(List.cons.inj (List.cons.inj this).2).1
  simp only[wz,c,funext (J5 a b h.2)]
theorem Jh:∀(a b:L' Assign),rows a=rows b->∀s,wB a s=wB b s
 |[],[],_,_=>rfl|[],_::_,h,_=>by simp[rows]at h|_::_,[],h,_=>by simp[rows]at h|x::a,y::b,h,s=>by simp only[rows,map_cons,List.cons.injEq]at h;have c:=h.1;change[V.int .i64 x.var,V.int .i64 x.value]=[V.int .i64 y.var,V.int .i64 y.value]at c;simp only[List.cons.injEq,V.int.injEq,true_and,and_true]at c;simp only[wB,c.1,c.2,funext (Jh a b h.2)]
theorem Kx{x y:Event}(h:cells x=cells y):rows x.assign.l=rows y.assign.l:=by change[V.int .i64 x.kind,V.int .i64 x.peer,V.int .i64 x.message,V.int .i64 x.time,bX x.assign]=[V.int .i64 y.kind,V.int .i64 y.peer,V.int .i64 y.message,V.int .i64 y.time,bX y.assign]at h;simp only[List.cons.injEq]at h;exact wX h.2.2.2.2.1
theorem xI:∀(a b:L' Event),rows a=rows b->∀k s,wL k a s=wL k b s
 |[],[],_,_,_=>rfl|[],_::_,h,_,_=>by simp[rows]at h|_::_,[],h,_,_=>by simp[rows]at h|x::a,y::b,h,k,s=>by simp only[rows,map_cons,List.cons.injEq]at h;simp only[wL,Jh _ _ (Kx h.1),xI a b h.2]
theorem DK{α:Type}[bB α]{a b:L' α}(h:rows a=rows b):a.length=b.length:=by have:=congrArg List.length h;simpa[rows]using this
theorem J_:∀(a b:L' Event),rows a=rows b->(a.all λe=>pK e.assign.l.length)=b.all λe=>pK e.assign.l.length
 |[],[],_=>rfl|[],_::_,h=>by simp[rows]at h|_::_,[],h=>by simp[rows]at h|x::a,y::b,h=>by simp only[rows,map_cons,List.cons.injEq]at h;simp only[all_cons,DK (Kx h.1),J_ a b h.2]
def wK(f:FuncId)(g:FuncId)(a b:L' V)(xs:L' (L' V)):Prop:=∃(p:bU)(u:L' (Int×Sl Int)),g=f/\a=[]/\b=[.fptr (cells p)]/\jF p=some u/\xs=u.map eI
theorem wK.uniq{f g:FuncId}{a b:L' V}{xs ys:L' (L' V)}(h:wK f g a b xs)(k:wK f g a b ys):xs=ys:=by obtain⟨p,C,rfl,rfl,rfl,c,rfl⟩:=h;obtain⟨w,z,_,_,u,B,rfl⟩:=k;simp only[List.cons.injEq,V.fptr.injEq,and_true]at u;change[V.str p.name,bX p.vars,bX p.events]=[V.str w.name,bX w.vars,bX w.events]at u;simp only[List.cons.injEq]at u;have r1:=wX u.2.1;have r2:=wX u.2.2.1;unfold jF at c B;rw[DK r1,DK r2,J_ _ _ r2,J5 _ _ r1,funext (λs=>xI _ _ r2 0 s)]at c;have e:=c.symm.trans B;cases e;rfl
end IST
end Go.VE
namespace Go.VE
open Go.Proofs.YtknifbdijcocpaaGreatDoor
noncomputable section
def Ky(f:FuncId)(a b:L' V)(xs:L' (L' V)):Prop:=trace_events_c1.wK 152 f a b xs\/IST.wK 141 f a b xs
noncomputable def Sy:Sys:=⟨E,λn=>n,zk Ky,zF E,Io⟩
abbrev cL:b9:=dc Sy Tx
theorem Vr:Sy.prm 126=some (tS Sy.E):=by kernel_rfl
theorem Vl:Sy.prm 123=some (tW Sy.E):=by kernel_rfl
theorem Ym:∃fi,E.ft 152=some fi/\yd E some fi trace_events_c1.text:=Yr Zad
theorem Ie:rH Sy Tx where
 fn f rf h:=let⟨u,a,w⟩:=Df h;⟨u,some,a,w6,w⟩
 yo f z y h:=Hl h
 prm:=ID
theorem Jw(p:bU)(B:L' (Int×Sl Int))(a:jF p=some B):eD Sy 141 [] [.fptr (cells p)] (B.map IST.eI):=by
 have w:Tx 141=some (rR (Tx 141)):=By Zad;obtain⟨G,z,C⟩:=Df w;have e1:ble (([]:L' V).length+1+[V.fptr (cells p)].length) (rR (Tx 141)).na=true:=by kernel_rfl
 have e2:(rR (Tx 141)).rs=[]:=by kernel_rfl
 have e3:Sy.E=Sb.E:=rfl;exact SH e3 ID (ve Xz PD) PD z w6 C (Nat.le_of_ble_eq_true e1) e2 λu more D y=>IB.zp more y u p [] (by rw[IST.all p B a u more D];rfl)
theorem Cu:∀f a b xs,Sy.items f a b=some xs->eD Sy f a b xs:=by intro f a b xs h;have h:Ky f a b xs:=N7 h;rcases h with h|h;obtain⟨t,u,rfl,rfl,rfl,c,rfl⟩:=h;obtain⟨D,w,z⟩:=Ym;exact SB Sy w w6 z (Nat.le_of_ble_eq_true rfl) rfl λB more C y=>trace_events_c1.all t u c B more C y;obtain⟨p,u,rfl,rfl,rfl,c,rfl⟩:=h;exact Jw p u c
theorem Ac(t:Trace)(B:L' (aZ×Event))(h:jy t=some B):Sy.items 152 [] [.fptr (cells t)]=some (B.map λx:aZ×Event=>[enc x.1,enc x.2]):=Fb (.inl ⟨t,B,rfl,rfl,rfl,h,rfl⟩) (λu a=>by rcases a with a|a<;>first|exact a.uniq ⟨t,B,rfl,rfl,rfl,h,rfl⟩|(obtain⟨_,_,a,_⟩:=a;exact absurd a (by decide)))
theorem G9(p:bU)(B:L' (Int×Sl Int))(h:jF p=some B):Sy.items 141 [] [.fptr (cells p)]=some (B.map λx:Int×Sl Int=>[enc x.1,enc x.2]):=Fb (.inr ⟨p,B,rfl,rfl,rfl,h,rfl⟩) (λu a=>by rcases a with a|a<;>first|exact a.uniq ⟨p,B,rfl,rfl,rfl,h,rfl⟩|(obtain⟨_,_,a,_⟩:=a;exact absurd a (by decide)))
theorem QK:Sy.yo 4 []=some (.bool true):=AM (Lj rfl ⟨1,[],by kernel_rfl⟩)
end
end Go.VE
namespace Go.VE
noncomputable section
def vu(D:Trace)(B:aZ):Lk Event:=(idx D.procs B.proc).bind λu=>(idx u.events (wrap .i64 (B.index-1))).bind λw=>some w
instance YH(B:Trace)(D:aZ):Fc Sy cL (vu B D):=Fc.N 60 [enc B,enc D] (cu 2 2 B (bP 10 λw _=>bP 5 λu _=>oM 1 4 0 u a_))
namespace dV
def bV(B G p7:Int)(D:Trace)(J:aZ)(a:Int):Lk (Fw Int Unit aZ):=(idx D.procs p7).bind λw=>bg (decide (a<(len w.events))) ((idx D.procs p7).bind λz=>(idx z.events a).bind λu=>(bg (u.kind==B) (some (u.message==G)) (some false):Lk Bool).bind λC=>bg C (some (.r (⟨p7,wrap .i64 (a+1)⟩:aZ))) (some (.n (wrap .i64 (a+1))))) (some (.x ()))
def W2(B J p7 a:Int)(D:Trace)(G:aZ):Lk (Fw Int Unit aZ):=(bT (λq:Int=>bV B J p7 D G q) a).bind (Fw.elim (λe=>some (.n (wrap .i64 (p7+1)))) (λe=>some (.r e)))
def bp(B J:Int)(D:Trace)(G:aZ)(p7:Int):Lk (Fw Int Unit aZ):=bg (decide (p7<(len D.procs))) (W2 B J p7 0 D G) (some (.x ()))
def W1(B J p7:Int)(D:Trace)(G:aZ):Lk aZ:=(bT (λq:Int=>bp B J D G q) p7).bind (Fw.elim (λe=>some ⟨0,0⟩) (λe=>some e))
end dV
def dV(D:Trace)(B G:Int):Lk aZ:=dV.W1 B G 0 D (⟨0,0⟩:aZ)
open dV in
instance WQ(D:Trace)(B G:Int):Fc Sy cL (dV D B G):=Fc.M 42 [enc D,.int .i64 B,.int .i64 G] (cu 2 3 D (dY 11 (λu=>(bL [Iv 1 B,Iv 2 G,Pv 3,Pv 6,Iv 7 u] [Xb 3 D,Xb 6 (⟨0,0⟩:aZ)])) (λw=>(0,(bL [Pv 6] [Xb 6 (⟨0,0⟩:aZ)]))) (λw=>(bL [Pv 6] [Xb 6 w])) (λu=>b7 7 D.procs (bz 3 14 (dY 12 (λC=>(bL [Iv 1 B,Iv 2 G,Pv 3,Pv 6,Iv 7 u,Iv 8 C] [Xb 3 D,Xb 6 (⟨0,0⟩:aZ)])) (λz=>(2,(bL [Iv 1 B,Iv 2 G,Pv 3,Pv 6,Iv 7 u] [Xb 3 D,Xb 6 (⟨0,0⟩:aZ)]))) (λz=>(bL [Pv 6] [Xb 6 z])) (λC=>bP 8 λI _=>b7 2 I.events (bz 3 25 (bP 10 λL _=>bP 3 λJ _=>oM 2 9 0 J (bZ 9 5 [9,41] 46 (bz 9 41 (bA 5) (bA 5)) λO=>bz 2 46 a_ a_)) a_)) (λz=>a_) (λz=>a_)) a_)) (λw=>a_) (λw=>a_)))
namespace dS
def J1(B:Sl aZ)(D:Trace)(G:aZ):Lk (Sl aZ):=(vu D G).bind λu=>bg (u.kind==3) ((dV D 2 u.message).bind λw=>(ga B (w:aZ)).bind λz=>some z) (some B)
end dS
def dS(D:Trace)(B:aZ):Lk (Sl aZ):=bg (decide (B.index>1)) (dS.J1 (Sl.row [⟨B.proc,wrap .i64 (B.index-1)⟩]:Sl aZ) D B) (dS.J1 (Sl.nil:Sl aZ) D B)
open dS in
theorem AI(D:Trace)(B:aZ):Le ((dS D B).bind λr=>some (cF r)) (b8 Sy cL (BX (tr Tx 61)) (.rc (tb Tx 61),[],start ([enc D,enc B].map .v) [])):=cu 2 2 D (bz 17 9 (T9 10 17 18 .bM (⟨B.proc,wrap .i64 (B.index-1)⟩:aZ) (tI 5 (bC 4 λu _=>oM 1 6 0 u (bz 10 24 (bC 6 λw _=>n_ 1 2005 30 31 λz _=>a_) a_)))) (tI 5 (bC 4 λu _=>oM 1 6 0 u (bz 10 24 (bC 6 λw _=>n_ 1 2005 30 31 λz _=>a_) a_))))
def pL(a:aZ->Lk (Sl aZ)):L' (L' Bool)×L' aZ->Lk (Fw (L' (L' Bool)×L' aZ) (L' (L' Bool)) Empty)
 |(out,[])=>some (.x out)|(out,y::rest)=>if 0<=y.proc/\0<=y.index then(out[y.proc.toNat]?).bind λrow=>(row[y.index.toNat]?).bind λb=>bg b (some (.n (out,rest))) ((a y).bind λmore=>if rest.length+more.l.length<=2147483648 then some (.n (out.set y.proc.toNat (row.set y.index.toNat true),rest++more.l))else none)else none
def gW(t:Trace):L' (L' Bool):=t.procs.l.map λP=>replicate (P.events.l.length+1) false
def BC(t:Trace):Bool:=decide (t.procs.l.length<=2147483648)&&t.procs.l.all λP=>decide (P.events.l.length+1<=2147483648)
def nested(out:L' (L' Bool)):Sl (Sl Bool):=if out=[]then .nil else .row (out.map .row)
def oq(t:Trace)(x:aZ):Lk (Sl (Sl Bool)):=if BC t then(dS t x).bind λs=>(bT (pL (dS t)) (gW t,s.l)).bind (Fw.elim (λout=>some (nested out)) (λe=>elim e))else none
end
namespace pastX
abbrev yg:Nat->FuncId:=λn=>n
def r1:L' RO:=[o2 2 (.a .box) [0] [],o2 3 (.a .box) [1] [],o1 4 (.k (.bM)) []]
def r2:L' RO:=[o1 5 (.k (.bM)) []]
def r3:L' RO:=[o1 6 (.k (.int .i64 0)) []]
def r4:L' RO:=[o1 11 6 [],o2 12 (fa 0) [2] [],o2 13 (ld 1) [12] [],o2 14 ln [13] [],o2 15 (bI .lss) [11,14] []]
def r5:L' RO:=[o1 18 5 [],o2 19 (fa 0) [2] [],o2 20 (ld 1) [19] [],o1 21 6 [],o2 22 (ix 3) [20,21] [],o2 23 (fa 2) [22] [],o2 24 (ld 1) [23] [],o2 25 ln [24] [],o2 26 (bI .add) [25,.k (.int .i64 1)] [],o2 27 (.a (.makeSl 1 [.bool false])) [26,26] [],o2 28 (.a (.buildSl 1 1 [.bM] [0])) [27] [],o2 29 (.l (.append 1)) [18,28] [],o1 5 29 []]
def r6:L' RO:=[o1 16 6 [],o2 17 (bI .add) [16,.k (.int .i64 1)] [],o1 6 17 []]
def L1:RC:=.seq (.seq (.ops r4) (.cond (.s 15) (.skip) (.exit 0))) (.seq (.block 1 (.ops r5)) (.ops r6))
def r7:L' RO:=[o2 30 (lD 1) [2] [],o2 31 (lD 2) [3] [],o2 32 .c [.f 61,30,31] [],o1 7 32 []]
def r8:L' RO:=[o1 33 7 [],o2 34 ln [33] [],o2 35 (bI .gtr) [34,.k (.int .i64 0)] []]
def r9:L' RO:=[o1 36 7 [],o2 37 (ix 2) [36,.k (.int .i64 0)] [],o2 38 (lD 2) [37] [],o2 8 (.a (.alloc 2 [.int .i64 0,.int .i64 0])) [] [],oz (su 2) [8,38] []]
def ES:L' RO:=[o1 39 7 [],o2 40 (.p (.slice 2 true false)) [39,.k (.int .i64 1)] [],o1 7 40 []]
def Hz:L' RO:=[o1 41 5 [],o2 42 (fa 0) [8] [],o2 43 (ld 1) [42] [],o2 44 (ix 1) [41,43] [],o2 45 (ld 1) [44] [],o2 46 (fa 1) [8] [],o2 47 (ld 1) [46] [],on 48 (ix 1) [45,47] [],on 49 (ld 1) [48] []]
def GG:L' RO:=[o1 50 5 [],o2 51 (fa 0) [8] [],o2 52 (ld 1) [51] [],o2 53 (ix 1) [50,52] [],o2 54 (ld 1) [53] [],o2 55 (fa 1) [8] [],o2 56 (ld 1) [55] [],on 57 (ix 1) [54,56] [],oy (su 1) [57,.k (.bool true)] []]
def Hx:L' RO:=[o2 58 (lD 1) [2] [],o2 59 (lD 2) [8] [],o2 60 .c [.f 61,58,59] [],o1 9 60 []]
def D6:L' RO:=[o1 10 (.k (.int .i64 0)) []]
def Gx:L' RO:=[o1 61 10 [],o1 62 9 [],o2 63 ln [62] [],o2 64 (bI .lss) [61,63] []]
def r16:L' RO:=[o1 67 7 [],o1 68 9 [],o1 69 10 [],o2 70 (ix 2) [68,69] [],o2 71 (lD 2) [70] [],o2 72 (.a (.buildSl 2 1 [.int .i64 0,.int .i64 0] [0])) [71] [],o2 73 (.l (.append 2)) [67,72] [],o1 7 73 []]
def Qr:L' RO:=[o1 65 10 [],o2 66 (bI .add) [65,.k (.int .i64 1)] [],o1 10 66 []]
def L3:RC:=.seq (.seq (.ops Gx) (.cond (.s 64) (.skip) (.exit 4))) (.seq (.block 5 (.ops r16)) (.ops Qr))
def L2:RC:=.seq (.seq (.ops r8) (.cond (.s 35) (.skip) (.exit 2))) (.block 3 (.seq (.ops r9) (.seq (.ops ES) (.seq (.seq (.qn Hz) (.cond (.s 49) (.exit 3) (.skip))) (.seq (.qn GG) (.seq (.ops Hx) (.seq (.ops D6) (.block 4 (.loop L3)))))))))
def r18:L' RO:=[o1 74 5 [],o1 4 74 []]
def code:RC:=.seq (.ops r1) (.seq (.ops r2) (.seq (.seq (.ops r3) (.block 0 (.loop L1))) (.seq (.ops r7) (.seq (.block 2 (.loop L2)) (.seq (.ops r18) (.ret))))))
noncomputable abbrev xm:=Go.Proofs.YtknifbdijcocpaaGreatDoor.E
def kH(out:L' (L' Bool)):L' (L' V):=out.map λr=>r.map V.bool
theorem shape:∃fi,xm.ft (yg 41)=some fi/\bS ⟨xm,some,fi.ntmps⟩ false fi.body=some code/\2<=fi.ntmps/\fi.results=[.tmp 4]:=by
 have h:((xm.ft (yg 41)).map λfi=>(bS ⟨xm,some,fi.ntmps⟩ false fi.body,ble 2 fi.ntmps,fi.results))=some (some code,true,[.tmp 4]):=by kernel_rfl
 obtain⟨fi,a,u⟩:=ζf.1 h;simp only[ζc]at u;exact⟨fi,a,u.1,Nat.le_of_ble_eq_true u.2.1,u.2.2⟩
section
variable{E:Env}{N:Nat->FuncId}{t:Trace}{x:aZ}{k:Nat}{F:Frame}{H H1:bn}{call:dG}{b:Lk Nat}
theorem kf{o:RO}{l:L' RO}{v:V}{r:Frame×bn}(a:o.gd=none)(c:bH E N call b o.now o.k (o.az.map (bt N F)) H=some (v,H1))(h:cG E N call b l (br F o.dst v) H1=some r):cG E N call b (o::l) F H=some r:=by simp[cG,a,c];omega
theorem vp{o:RO}{l:L' RO}{v:V}{r:Frame×bn}(a:o.gd=none)(c:bH E N call b o.now o.k (o.az.map (bt N F)) H=some (v,H))(h:cG E N call b l (br F o.dst v) H=some r):cG E N call b (o::l) F H=some r:=kf a c h
theorem d_:cG E N call b [] F H=some (F,H):=rfl
theorem ld1(h:H[0]?=some (.row 1 [cells t])):eZ H (.load 1 false) [.hptr 0 0 0]=some (bX t.procs):=by simp[eZ,ey,h];rfl
theorem aav{s:Sl bU}{p:bU}{i:Nat}(h:s.l[i]?=some p):mH 3 (bX s) (i:Int)=some (.fptr (cells p)):=by have:=Fz (N:=λn=>n) s .i64 i 3 rfl;simp[bl]at this;rw[this,show idx s i=some p from by unfold idx;grind];rfl
theorem x4(a:get F 2=.hptr 0 0 0)(f6:get F 6=.int .i64 k)(b:H[0]?=some (.row 1 [cells t])):
 ∃F',cG E N call none r4 F H=some (F',H)/\get F' 15=.bool (decide (k<t.procs.l.length))/\(∀s,s<11->get F' s=get F s):=by
 refine⟨_,vp (v:=.int .i64 k) rfl ?_<|vp (v:=.hptr 0 0 0) rfl ?_<|vp (v:=bX t.procs) rfl ?_<|vp (v:=.int .i64 t.procs.l.length) rfl ?_<|vp (v:=.bool (decide (k<t.procs.l.length))) rfl ?_ d_,?_,?_⟩
 .simp[bH,bt,bl,f6]
 .simp[bH,bt,bl,br,a,iD]
 .simp only[bH,map_cons,map_nil,bt,br,bu,if_true];rw[ld1 b];rfl
 .simp only[bH,map_cons,map_nil,bt,br,bu,if_true];rw[Ar];rfl
 .simp[bH,bt,bl,br,h_,oR]
 .simp[br]
 simp[br,bu]
 grind
theorem zd{n:Nat}(h:n<=2147483648):wrap .i64 ((n:Int)+1)=((n+1:Nat):Int):=by simp[wrap,IntKind.bits];omega
theorem x5{P:bU}{o:Nat}{ids:L' Nat}{rows:L' (L' V)}(a:get F 2=.hptr 0 0 0)(f6:get F 6=.int .i64 k)(b:H[0]?=some (.row 1 [cells t]))(B:t.procs.l[k]?=some P)(G:P.events.l.length+1<=2147483648)
 (D:ni H (get F 5) o ids rows)(c:rows.length+1<=2147483648):
 ∃F' H',cG E N call none r5 F H=some (F',H')/\ni H' (get F' 5) (H.length+2) (ids++[H.length]) (rows++[replicate (P.events.l.length+1) (.bool false)])/\H.length<=H'.length/\(∀id,id<H.length->id≠o\/rows=[]->H'[id]?=H[id]?)/\(∀s,s<11->s≠5->get F' s=get F s):=by
 obtain⟨H',p1,p2,p3,p4⟩:=D.push (replicate (P.events.l.length+1) (.bool false)) c;have u:jB (replicate (P.events.l.length+1) (V.bool false))=replicate (P.events.l.length+1) [.bool false]:=by simp[jB]
 rw[u,List.length_replicate]at p1;have w:=zd (n:=P.events.l.length) Zaa
 refine⟨_,H',vp (v:=get F 5) rfl ?_<|vp (v:=.hptr 0 0 0) rfl ?_<|vp (v:=bX t.procs) rfl ?_<|vp (v:=.int .i64 k) rfl ?_<|vp (v:=.fptr (cells P)) rfl ?_<|vp (v:=.fptr [bX P.events]) rfl ?_<|vp (v:=bX P.events) rfl ?_<|
  vp (v:=.int .i64 P.events.l.length) rfl ?_<|vp (v:=.int .i64 (P.events.l.length+1:Nat)) rfl ?_<|kf (v:=.hsl H.length 1 0 (P.events.l.length+1)) (H1:=H++[.row 1 (replicate (P.events.l.length+1) [.bool false])]) rfl ?_<|
  kf (v:=.hsl (H.length+1) 1 0 1) (H1:=H++[.row 1 (replicate (P.events.l.length+1) [.bool false])]++[.row 1 [[.hsl H.length 1 0 (P.events.l.length+1)]]]) rfl ?_<|
  kf (v:=.hsl (H.length+2) 1 0 (rows.length+1)) rfl ?_<|vp (v:=.hsl (H.length+2) 1 0 (rows.length+1)) rfl ?_ d_,?_,p3,p4,?_⟩
 .simp[bH,bt,bl]
 .simp[bH,bt,bl,br,a,iD]
 .simp only[bH,map_cons,map_nil,bt,br,bu,if_true];rw[ld1 b];rfl
 .simp[bH,bt,bl,br,f6]
 .simp only[bH,map_cons,map_nil,bt,br,bu,reduceEqDiff,if_true,if_false,bl];rw[aav B];rfl
 .simp[bH,bt,br,bu,bl];rfl
 .simp[bH,bt,br,bu];rfl
 .simp only[bH,map_cons,map_nil,bt,br,bu,if_true];rw[Ar];rfl
 .simp[bH,bt,br,bu,bl,h_];grind
 .simp only[bH,map_cons,map_nil,bt,br,bu,if_true,iM];rw[if_pos ⟨trivial,trivial,Zaa,Zaa,Zaa⟩]
  simp[Mk.val]
 .simp[bH,bt,br,bu,iM];simp[fG,V.cells,V.one,Mk.val]
 .simp only[bH,map_cons,map_nil,bt,br,bu,reduceEqDiff,if_true,if_false];omega
 .simp[bH,bt,bl,br]
 .simp[br,bu];omega
 intro s z C;simp[br,bu]
 repeat (rw[if_neg Zaa])
theorem x6(f6:get F 6=.int .i64 k)(a:k<=2147483648):∃F',cG E N call none r6 F H=some (F',H)/\get F' 6=.int .i64 ((k+1:Nat):Int)/\(∀s,s<11->s≠6->get F' s=get F s):=by have u:=zd a;refine⟨_,vp (v:=.int .i64 k) rfl ?_<|vp (v:=.int .i64 (k+1:Nat)) rfl ?_<|vp (v:=.int .i64 (k+1:Nat)) rfl ?_ d_,?_,?_⟩;simp[bH,bt,bl,f6];simp[bH,bt,br,bu,bl,h_];grind;simp[bH,bt,bl,br];simp[br];simp[br,bu];grind
end
structure P1(t:Trace)(x:aZ)(k:Nat)(F:Frame)(H:bn):Prop where
 f2:get F 2=.hptr 0 0 0
 f3:get F 3=.hptr 1 0 0
 f6:get F 6=.int .i64 k
 h0:H[0]?=some (.row 1 [cells t])
 h1:H[1]?=some (.row 2 [cells x])
 ns:∃o ids,ni H (get F 5) o ids (kH ((gW t).take k))/\(k≠0->2<=o)/\∀id∈ids,2<=id
theorem xo(out:L' (L' Bool)):(kH out).length=out.length:=by simp[kH]
theorem NO{E:Env}{N:Nat->FuncId}{t:Trace}{x:aZ}(J:BC t=true):∀(m k:Nat)(F:Frame)(H:bn),k+m=t.procs.l.length->P1 t x k F H->∃F' H',mQ E N L1 F H (.exit 0) F' H'/\P1 t x t.procs.l.length F' H':=by
 have B:t.procs.l.length<=2147483648/\∀P∈t.procs.l,P.events.l.length+1<=2147483648:=by simpa[BC]using J
 intro m;induction m with|zero=>intro k F H a p;have C:k=t.procs.l.length:=Zaa;obtain⟨F1,e1,e2,e3⟩:=x4 (E:=E) (call:=⟨0,λ_ _ _=>none⟩) p.f2 p.f6 p.h0;refine⟨F1,H,mQ.stop (Ex.uK (Ex.seq (Ex.dg λc=>?_) (Ex.qi ?_ Ex.exit)) Zab) Zab,?_⟩;have:cG E N c none r4 F H=cG E N ⟨0,λ_ _ _=>none⟩ none r4 F H:=rfl;exact e1;show get F1 15=_;rw[e2];simp[C];subst C;exact⟨by rw[e3 2 Zaa];exact p.f2,by rw[e3 3 Zaa];exact p.f3,by rw[e3 6 Zaa];exact p.f6,p.h0,p.h1,by rw[e3 5 Zaa];exact p.ns⟩|succ m Z=>
  intro k F H a p;have w:k<t.procs.l.length:=Zaa;obtain⟨o,ids,U,b,d⟩:=p.ns;obtain⟨F1,e1,e2,e3⟩:=x4 (E:=E) (N:=N) (call:=⟨0,λ_ _ _=>none⟩) p.f2 p.f6 p.h0;have W:=ζd w;have D:((gW t).take k).length=k:=by simp[gW];omega
  have I:ni H (get F1 5) o ids (kH ((gW t).take k)):=by rw[e3 5 Zaa];exact U
  obtain⟨g,H2,g1,g2,g3,g4,g5⟩:=x5 (E:=E) (N:=N) (call:=⟨0,λ_ _ _=>none⟩) (by rw[e3 2 Zaa];exact p.f2) (by rw[e3 6 Zaa];exact p.f6) p.h0 W (B.2 _ (List.getElem_mem w)) I (by rw[xo,D];omega);obtain⟨X,e,f,L⟩:=x6 (E:=E) (N:=N) (call:=⟨0,λ_ _ _=>none⟩) (H:=H2) (by rw[g5 6 Zaa Zaa,e3 6 Zaa];exact p.f6) Zaa;have Y:=U.lt;have O:=(ζe.1 p.h0).1;have Q:=(ζe.1 p.h1).1;have u:∀i,i<2->i<H.length->H2[i]?=H[i]?:=λi hi Y=>g4 i Y (by
   by_cases G:k=0
   .subst G;right;simp[kH]
   left;have:=b G;omega)
  have S:P1 t x (k+1) X H2:=by
   refine⟨by rw[L 2 Zaa Zaa,g5 2 Zaa Zaa,e3 2 Zaa];exact p.f2,by rw[L 3 Zaa Zaa,g5 3 Zaa Zaa,e3 3 Zaa];exact p.f3,f,
    by rw[u 0 Zaa O];exact p.h0,by rw[u 1 Zaa Q];exact p.h1,H.length+2,ids++[H.length],?_,λ_=>Zaa,λid T=>?_⟩
   rw[L 5 Zaa Zaa];have z:kH ((gW t).take (k+1))=kH ((gW t).take k)++[replicate (t.procs.l[k].events.l.length+1) (.bool false)]:=by
    rw[List.take_add_one];have:(gW t)[k]?=some (replicate (t.procs.l[k].events.l.length+1) false):=by simp[gW,W]
    rw[this];simp[kH]
   rw[z];exact g2;rcases List.mem_append.1 T with h|h;exact d id h;simp at h;omega
  obtain⟨F',H',r1,r2⟩:=Z (k+1) X H2 Zaa S;refine⟨F',H',mQ.step (Ex.seq (Ex.seq (Ex.dg λc=>e1) (Ex.nR ?_ Ex.skip)) (Ex.seq (Ex.block (Ex.dg λc=>g1)) (Ex.dg λc=>e))) r1,r2⟩;show get F1 15=_;rw[e2];simp[w]
section
variable{E:Env}{N:Nat->FuncId}{t:Trace}{x y:aZ}{F:Frame}{H:bn}{call:dG}
theorem x8{l:L' (L' V)}{id:Nat}(h:kP H (get F 7) l id):∃F',cG E N call none r8 F H=some (F',H)/\get F' 35=.bool (decide (0<l.length))/\(∀s,s<11->get F' s=get F s):=by refine⟨_,vp (v:=get F 7) rfl ?_<|vp (v:=.int .i64 l.length) rfl ?_<|vp (v:=.bool (decide (0<l.length))) rfl ?_ d_,?_,?_⟩;simp[bH,bt,bl];simp[bH,bt,br,bu,bl,h.len];simp[bH,bt,bl,br,h_,oR];simp[br];simp[br,bu];grind
theorem x9{l:L' (L' V)}{id:Nat}(h:kP H (get F 7) (cells y::l) id):∃F',cG E N call none r9 F H=some (F',H++[.row 2 [cells y]])/\get F' 8=.hptr H.length 0 0/\(∀s,s<11->s≠8->get F' s=get F s):=by obtain⟨p,p1,p2⟩:=h.get (i:=0) rfl;refine⟨_,vp (v:=get F 7) rfl ?_<|vp (v:=p) rfl ?_<|vp (v:=.agg (cells y)) rfl ?_<|kf (v:=.hptr H.length 0 0) (H1:=H++[.row 2 [[.int .i64 0,.int .i64 0]]]) rfl ?_<|kf (v:=.undef) rfl ?_ d_,?_,?_⟩;simp[bH,bt,bl];simp[bH,bt,br,bu,bl];grind;simp only[bH,map_cons,bt,br,bu,if_false];grind;simp[bH,bt,br,bu,iM,Mk.val];simp[bH,bt,br,bu];simp[fE,V.cells,V.one];simp[br];simp[br,bu];grind
theorem x10{c:L' V}{l:L' (L' V)}{id:Nat}(h:kP H (get F 7) (c::l) id):∃F',cG E N call none ES F H=some (F',H)/\kP H (get F' 7) l id/\(∃off m B,get F 7=.hsl id 2 off m/\get F' 7=.hsl id 2 B l.length)/\(∀s,s<11->s≠7->get F' s=get F s):=by obtain⟨w',p1,p2,off,m,B,p3,p4⟩:=h.tail;refine⟨_,vp (v:=get F 7) rfl ?_<|vp (v:=w') rfl ?_<|vp (v:=w') rfl ?_ d_,?_,⟨off,m,B,p3,?_⟩,?_⟩;simp[bH,bt,bl];simp[bH,bt,br,bu,bl,mz,p1];simp[bH,bt,bl,br];simp[br,bu];omega;simp[br,bu];omega;simp[br,bu];grind
theorem ku(H:bn):H.take H.length=H:=List.take_length ..
theorem XT{c:Nat}(a:H[c]?=some (.row 2 [cells y])):eZ H (.load 1 false) [.hptr c 0 0]=some (.int .i64 y.proc)/\eZ H (.load 1 false) [.hptr c 0 1]=some (.int .i64 y.index)/\eZ H (.load 2 true) [.hptr c 0 0]=some (enc y):=by refine⟨?_,?_,?_⟩<;>simp[eZ,ey,a,cut]<;>rfl
theorem XE{c o:Nat}{ids:L' Nat}{rows:L' (L' V)}{p j:Nat}{r:L' V}{u:V}(B:get F 8=.hptr c 0 0)(a:H[c]?=some (.row 2 [cells y]))(D:ni H (get F 5) o ids rows)(hp:y.proc=p)(G:y.index=j)(b:rows[p]?=some r)(d:r[j]?=some u):
 ∃F',cG E N call (some H.length) Hz F H=some (F',H)/\get F' 49=u/\(∀s,s<11->get F' s=get F s):=by
 obtain⟨id,w,z,C,I,J⟩:=D.cell b d;obtain⟨L,O,_⟩:=XT a;refine⟨_,vp (v:=get F 5) rfl ?_<|vp (v:=.hptr c 0 0) rfl ?_<|vp (v:=.int .i64 p) rfl ?_<|vp (v:=.hptr o p 0) rfl ?_<|vp (v:=.hsl id 1 0 r.length) rfl ?_<|vp (v:=.hptr c 0 1) rfl ?_<|vp (v:=.int .i64 j) rfl ?_<|vp (v:=.hptr id j 0) rfl ?_<|vp (v:=u) rfl ?_ d_,?_,?_⟩
 .simp[bH,bt,bl]
 .simp[bH,bt,bl,br,B,iD]
 .simp[bH,bt,br,bu,ku];grind
 .simp[bH,bt,br,bu,bl];grind
 .simp[bH,bt,br,bu,ku];grind
 .simp[bH,bt,bl,br,B,iD]
 .simp[bH,bt,br,bu,ku];grind
 .simp[bH,bt,br,bu,bl];grind
 .simp[bH,bt,br,bu,ku];simp_all
 .simp[br]
 simp[br,bu]
 grind
theorem x12{c o:Nat}{ids:L' Nat}{rows:L' (L' V)}{p j:Nat}{r:L' V}{u:V}(B:get F 8=.hptr c 0 0)(d:H[c]?=some (.row 2 [cells y]))(D:ni H (get F 5) o ids rows)(hp:y.proc=p)(J:y.index=j)(a:rows[p]?=some r)(b:r[j]?=some u):
 ∃F' H',cG E N call (some H.length) GG F H=some (F',H')/\ni H' (get F' 5) o ids (rows.set p (r.set j (.bool true)))/\H'.length=H.length/\(∀i,i∉ids->H'[i]?=H[i]?)/\(∀s,s<11->get F' s=get F s):=by
 obtain⟨id,w,L,O,z,Q⟩:=D.cell a b;obtain⟨S,T,_⟩:=XT d;obtain⟨H',C,U,G,I⟩:=D.set a (ζe.1 b).1 w (u:=.bool true) rfl rfl;refine⟨_,H',vp (v:=get F 5) rfl ?_<|vp (v:=.hptr c 0 0) rfl ?_<|vp (v:=.int .i64 p) rfl ?_<|vp (v:=.hptr o p 0) rfl ?_<|vp (v:=.hsl id 1 0 r.length) rfl ?_<|vp (v:=.hptr c 0 1) rfl ?_<|vp (v:=.int .i64 j) rfl ?_<|vp (v:=.hptr id j 0) rfl ?_<|kf (v:=.undef) rfl ?_ d_,?_,G,λi hi=>I i λe=>hi (e▸mem_of_getElem? w),?_⟩
 .simp[bH,bt,bl]
 .simp[bH,bt,bl,br,B,iD]
 .simp[bH,bt,br,bu,ku];grind
 .simp[bH,bt,br,bu,bl];grind
 .simp[bH,bt,br,bu,ku];grind
 .simp[bH,bt,bl,br,B,iD]
 .simp[bH,bt,br,bu,ku];grind
 .simp only[bH,map_cons,map_nil,bt,br,bu,reduceEqDiff,if_true,if_false,bl];rw[z];rfl
 .simp[bH,bt,br,bu,C]
 .simp[br,bu];omega
 simp[br,bu]
 grind
def H_(E:Env)(N:Nat->FuncId)(t:Trace)(a:aZ->Lk (Sl aZ)):Prop:=∀(y:aZ)(s:Sl aZ)(H:bn),a y=some s->∃w X id,(∃n,∀k,n<=k->fq E (run E k) (N 61) [enc t,enc y] H=some (w,H++X))/\kP (H++X) w (s.l.map cells) id/\(∀off m,w=.hsl id 2 off m->id=H.length)
theorem ZP{a d:Nat}(hd:E.keep (N 61)=true){b:aZ->Lk (Sl aZ)}(D:H_ E N t b){s:Sl aZ}(B:b y=some s)(f:get F 2=.hptr 0 0 0)(g:H[0]?=some (.row 1 [cells t])){c:Nat}(h:H[c]?=some (.row 2 [cells y])):
 ∃w X id,kP (H++X) w (s.l.map cells) id/\(∀off m,w=.hsl id 2 off m->id=H.length)/\
  (get F 8=.hptr c 0 0->∃F',(∃n,∀k,n<=k->cG E N (run E k) none Hx F H=some (F',H++X))/\get F' 9=w/\(∀s,s<11->s≠9->get F' s=get F s))/\
  (get F 3=.hptr c 0 0->∃F',(∃n,∀k,n<=k->cG E N (run E k) none r7 F H=some (F',H++X))/\get F' 7=w/\(∀s,s<11->s≠7->get F' s=get F s)):=by
 obtain⟨w,X,id,⟨n,e1⟩,e2,e3⟩:=D y s H B;have z:eZ H (.load 1 true) [.hptr 0 0 0]=some (enc t):=by simp[eZ,ey,g,Ob.rows,cut];rfl
 obtain⟨_,_,C⟩:=XT h;refine⟨w,X,id,e2,e3,λG=>⟨_,⟨n,λk e=>vp (v:=enc t) rfl ?_<|vp (v:=enc y) rfl ?_<|kf (v:=w) (H1:=H++X) rfl ?_<|vp (v:=w) rfl ?_ d_⟩,?_,?_⟩,λi=>⟨_,⟨n,λk e=>vp (v:=enc t) rfl ?_<|vp (v:=enc y) rfl ?_<|kf (v:=w) (H1:=H++X) rfl ?_<|vp (v:=w) rfl ?_ d_⟩,?_,?_⟩⟩
 .simp only[bH,map_cons,map_nil,bt,f];rw[z];rfl
 .simp only[bH,map_cons,map_nil,bt,br,bu,reduceEqDiff,if_true,if_false,G];rw[C];rfl
 .simp only[bH,map_cons,map_nil,bt,br,bu,reduceEqDiff,if_true,if_false,hd,List.nil_append,List.append_nil];exact e1 k e
 .simp[bH,bt,bl,br]
 .simp[br]
 .intro s B u;simp only[br,bu];rw[if_neg (Ne.symm u)]
  repeat (rw[if_neg Zaa])
 .simp only[bH,map_cons,map_nil,bt,f];rw[z];rfl
 .simp only[bH,map_cons,map_nil,bt,br,bu,reduceEqDiff,if_true,if_false,i];rw[C];rfl
 .simp only[bH,map_cons,map_nil,bt,br,bu,reduceEqDiff,if_true,if_false,hd,List.nil_append,List.append_nil];exact e1 k e
 .simp[bH,bt,bl,br]
 .simp[br]
 intro s B u;simp only[br,bu];rw[if_neg (Ne.symm u)]
 repeat (rw[if_neg Zaa])
end
section
variable{E:Env}{N:Nat->FuncId}{F:Frame}{H:bn}{call:dG}{i:Nat}
theorem Uh{l:L' (L' V)}{id:Nat}(a:get F 10=.int .i64 i)(h:kP H (get F 9) l id):∃F',cG E N call none Gx F H=some (F',H)/\get F' 64=.bool (decide (i<l.length))/\(∀s,s<11->get F' s=get F s):=by refine⟨_,vp (v:=.int .i64 i) rfl ?_<|vp (v:=get F 9) rfl ?_<|vp (v:=.int .i64 l.length) rfl ?_<|vp (v:=.bool (decide (i<l.length))) rfl ?_ d_,?_,?_⟩;simp[bH,bt,bl,a];simp[bH,bt,bl,br];simp[bH,bt,br,bu,bl,h.len];simp[bH,bt,bl,br,h_,oR];simp[br];simp[br,bu];grind
theorem x16{l D:L' (L' V)}{id B:Nat}{c:L' V}(a:get F 10=.int .i64 i)(h:kP H (get F 7) l id)(G:kP H (get F 9) D B)(b:D[i]?=some c)(J:l.length+1<=2147483648):
 ∃F' H',cG E N call none r16 F H=some (F',H')/\kP H' (get F' 7) (l++[c]) (H.length+1)/\H'.length=H.length+2/\(∀i,i<H.length->(∀off m,get F 7=.hsl id 2 off m->i≠id)->H'[i]?=H[i]?)/\(∀s,s<11->s≠7->get F' s=get F s):=by
 have u:=G.c c (mem_of_getElem? b);obtain⟨p,p1,p2⟩:=G.get b;obtain⟨H',C,I,w,z⟩:=h.push u J;refine⟨_,H',vp (v:=get F 7) rfl ?_<|vp (v:=get F 9) rfl ?_<|vp (v:=.int .i64 i) rfl ?_<|vp (v:=p) rfl ?_<|vp (v:=.agg c) rfl ?_<|kf (v:=.hsl H.length 2 0 1) (H1:=H++[.row 2 [c]]) rfl ?_<|kf (v:=.hsl (H.length+1) 2 0 (l.length+1)) rfl ?_<|vp (v:=.hsl (H.length+1) 2 0 (l.length+1)) rfl ?_ d_,?_,w,z,?_⟩
 .simp[bH,bt,bl]
 .simp[bH,bt,bl,br]
 .simp[bH,bt,bl,br,a]
 .simp[bH,bt,br,bu,bl];grind
 .simp[bH,bt,br,bu];grind
 .simp[bH,bt,br,bu,iM];simp[fG,V.cells,Mk.val]
  grind
 .simp[bH,bt,br,bu];omega
 .simp[bH,bt,bl,br]
 .simp[br,bu];omega
 simp[br,bu]
 grind
theorem x17(a:get F 10=.int .i64 i)(b:i<=2147483648):∃F',cG E N call none Qr F H=some (F',H)/\get F' 10=.int .i64 ((i+1:Nat):Int)/\(∀s,s<11->s≠10->get F' s=get F s):=by have u:=zd b;refine⟨_,vp (v:=.int .i64 i) rfl ?_<|vp (v:=.int .i64 (i+1:Nat)) rfl ?_<|vp (v:=.int .i64 (i+1:Nat)) rfl ?_ d_,?_,?_⟩;simp[bH,bt,bl,a];simp[bH,bt,br,bu,bl,h_];grind;simp[bH,bt,bl,br];simp[br];simp[br,bu];grind
structure P3(l l9:List (List V))(B i:Nat)(F:Frame)(H:bn):Prop where
 f10:get F 10=.int .i64 i
 t9:∃id9,kP H (get F 9) l9 id9/\∃id,kP H (get F 7) l id/\(∀off m,get F 7=.hsl id 2 off m->B<=id/\∀off' m',get F 9=.hsl id9 2 off' m'->id≠id9)
 len:B<=H.length
theorem Zz(D:L' (L' V))(B:Nat)(Y:D.length<=2147483648):∀(m i:Nat)(l:L' (L' V))(F:Frame)(H:bn),i+m=D.length->l.length+m<=2147483648->P3 l D B i F H->
 ∃F' H',mQ E N L3 F H (.exit 4) F' H'/\(∃id,kP H' (get F' 7) (l++D.drop i) id/\∀off m,get F' 7=.hsl id 2 off m->B<=id)/\(∀s,s<7->get F' s=get F s)/\(∀j,j<B->H'[j]?=H[j]?)/\H.length<=H'.length:=by
 intro m
 induction m with
 |zero=>
  intro i l F H hi Z p;obtain⟨u,t9,id,t7,C⟩:=p.t9;obtain⟨F1,e1,e2,e3⟩:=Uh (E:=E) (call:=⟨0,λ_ _ _=>none⟩) p.f10 t9
  refine⟨F1,H,mQ.stop (Ex.uK (Ex.seq (Ex.dg λc=>e1) (Ex.qi ?_ Ex.exit)) Zab) Zab,⟨id,?_,λoff m h=>?_⟩,λs T=>e3 s Zaa,λ_ _=>rfl,Nat.le_refl _⟩
  .show get F1 64=_
   grind
  .grind
  grind
 |succ m ih=>
  intro i l F H hi Z p;have z:i<D.length:=Zaa
  obtain⟨u,t9,id,t7,C⟩:=p.t9;obtain⟨F1,e1,e2,e3⟩:=Uh (E:=E) (call:=⟨0,λ_ _ _=>none⟩) p.f10 t9
  have a:=ζd z;have G:kP H (get F1 7) l id:=Zac
  have I:kP H (get F1 9) D u:=Zac
  obtain⟨e,H2,g1,g2,g3,g4,g5⟩:=x16 (E:=E) (call:=⟨0,λ_ _ _=>none⟩) (by rw[e3 10 Zaa];exact p.f10) G I a Zaa
  obtain⟨U,b,d,J⟩:=x17 (E:=E) (call:=⟨0,λ_ _ _=>none⟩) (by rw[g5 10 Zaa Zaa,e3 10 Zaa];exact p.f10) Zaa
  have keep:∀j,j<H.length->(∀off m,get F 7=.hsl id 2 off m->j≠id)->H2[j]?=H[j]?:=λj L h=>g4 j L Zac
  have O:P3 (l++[D[i]]) D B (i+1) U H2:=by refine⟨d,⟨u,?_,H.length+1,Zac,λoff m h=>⟨by have:=p.len;omega,λw m' W=>?_⟩⟩,by have:=p.len;omega⟩;rw[J 9 Zaa Zaa,g5 9 Zaa Zaa,e3 9 Zaa];exact t9.heap λoff n X=>keep u (t9.lt X) λw m' Q=>Ne.symm ((C w m' Q).2 off n X);rw[J 9 Zaa Zaa,g5 9 Zaa Zaa,e3 9 Zaa]at W;have:=t9.lt W;omega
  obtain⟨F',H',r1,⟨S,r2,r3⟩,r4,r5,r6⟩:=ih (i+1) (l++[D[i]]) U H2 Zaa (by simp;omega) O
  refine⟨F',H',mQ.step (Ex.seq (Ex.seq (Ex.dg λc=>e1) (Ex.nR ?_ Ex.skip)) (Ex.seq (Ex.block (Ex.dg λc=>g1)) (Ex.dg λc=>b))) r1,⟨S,?_,r3⟩,λs T=>?_,λj L=>?_,Zaa⟩
  .show get F1 64=_
   grind
  .rw[List.append_assoc]at r2;rw[List.drop_eq_getElem_cons z];exact r2
  .rw[r4 s T,J s Zaa Zaa,g5 s Zaa Zaa,e3 s Zaa]
  have:=p.len;rw[r5 j L,keep j Zaa λoff m h=>by have:=(C off m h).1;omega]
end
structure P2(t:Trace)(out:List (List Bool))(l:List aZ)(F:Frame)(H:bn):Prop where
 f2:get F 2=.hptr 0 0 0
 h0:H[0]?=some (.row 1 [cells t])
 ns:∃B o ids id,ni H (get F 5) o ids (kH out)/\(out≠[]->1<=o/\o<B)/\(∀id∈ids,1<=id/\id<B)/\1<=B/\B<=H.length/\kP H (get F 7) (l.map cells) id/\∀off m,get F 7=.hsl id 2 off m->B<=id
theorem R7(out:L' (L' Bool))(p j:Nat)(row:L' Bool):kH (out.set p (row.set j true))=(kH out).set p ((row.map V.bool).set j (.bool true)):=by simp[kH]
theorem JP{out:L' (L' Bool)}:kH out=[]↔out=[]:=by simp[kH]
theorem RI{a:aZ->Lk (Sl aZ)}{out:L' (L' Bool)}{y:aZ}{rest:L' aZ}{w:Fw (L' (L' Bool)×L' aZ) (L' (L' Bool)) Empty}(h:pL a (out,y::rest)=some w):
 ∃(p j:Nat)(row:L' Bool)(b:Bool),y.proc=p/\y.index=j/\out[p]?=some row/\row[j]?=some b/\((b=true/\w=.n (out,rest))\/(b=false/\∃more,a y=some more/\rest.length+more.l.length<=2147483648/\w=.n (out.set p (row.set j true),rest++more.l))):=by
 simp only[pL]at h;split at h
 .obtain⟨row,h1,h⟩:=ζg.1 h;obtain⟨b,u,h⟩:=ζg.1 h;refine⟨y.proc.toNat,y.index.toNat,row,b,Zaa,Zaa,h1,u,?_⟩
  cases b with
  |true=>simp[bg]at h;grind|false=>
   obtain⟨more,z,h⟩:=ζg.1 h
   grind
 simp_all
theorem Nd{E:Env}{N:Nat->FuncId}{t:Trace}{f:aZ->Lk (Sl aZ)}(hd:E.keep (N 61)=true)(hD:H_ E N t f):∀(k:Nat)(out:L' (L' Bool))(l:L' aZ)(D:L' (L' Bool))(F:Frame)(H:bn),
 j8 (pL f) k (out,l)=some (.x D)->P2 t out l F H->∃F' H',mQ E N L2 F H (.exit 2) F' H'/\P2 t D [] F' H':=by
 intro k
 induction k with
 |zero=>intro out l D F H h;simp[j8]at h|succ k ih=>
  intro out l D F H h p;obtain⟨B,o,ids,id,n1,n2,Y,n4,n5,t7,t8⟩:=p.ns;obtain⟨F1,e1,e2,e3⟩:=x8 (E:=E) (N:=N) (call:=⟨0,λ_ _ _=>none⟩) t7
  rw[List.length_map]at e2
  cases l with
  |nil=>
   simp only[j8,pL]at h;cases h;refine⟨F1,H,mQ.stop (Ex.uK (Ex.seq (Ex.dg λc=>e1) (Ex.qi ?_ Ex.exit)) Zab) Zab,?_⟩
   .show get F1 35=_;rw[e2];simp
   exact⟨by rw[e3 2 Zaa];exact p.f2,p.h0,B,o,ids,id,by rw[e3 5 Zaa];exact n1,n2,Y,n4,n5,by rw[e3 7 Zaa];exact t7,by rw[e3 7 Zaa];exact t8⟩
  |cons y rest=>
   simp only[j8]at h
   cases J:pL f (out,y::rest)with
   |none=>rw[J]at h;cases h|some w=>
   rw[J]at h;obtain⟨q,j,row,b,hq,hj,u,hb,L⟩:=RI J;have O:kP H (get F1 7) (cells y::rest.map cells) id:=by rw[e3 7 Zaa];exact t7
   obtain⟨F2,g1,g2,g3⟩:=x9 (E:=E) (N:=N) (call:=⟨0,λ_ _ _=>none⟩) O
   have aa:kP (H++[.row 2 [cells y]]) (get F2 7) (cells y::rest.map cells) id:=by rw[g3 7 Zaa Zaa];exact O.more _
   obtain⟨r,i1,i2,⟨G,m1,ab,i3,i4⟩,K⟩:=x10 (E:=E) (N:=N) (call:=⟨0,λ_ _ _=>none⟩) aa
   have Q:(H++[Ob.row 2 [cells y]])[H.length]?=some (.row 2 [cells y]):=Zab
   have M:get r 8=.hptr H.length 0 0:=by rw[K 8 Zaa Zaa];exact g2
   have f5:get r 5=get F 5:=by rw[K 5 Zaa Zaa,g3 5 Zaa Zaa,e3 5 Zaa]
   have P:get r 2=.hptr 0 0 0:=by rw[K 2 Zaa Zaa,g3 2 Zaa Zaa,e3 2 Zaa];exact p.f2
   have S:ni (H++[.row 2 [cells y]]) (get r 5) o ids (kH out):=by rw[f5];exact n1.more _
   have hr:(kH out)[q]?=some (row.map V.bool):=by simp[kH,u]
   have hu:(row.map V.bool)[j]?=some (.bool b):=by simp[hb]
   have T:B<=id:=by have:get F 7=.hsl id 2 G m1:=(by rw[<-i3,g3 7 Zaa Zaa,e3 7 Zaa]);exact t8 _ _ this
   obtain⟨R,j1,j2,z⟩:=XE (E:=E) (N:=N) (call:=⟨0,λ_ _ _=>none⟩) M Q S hq hj hr hu
   have ad:bt N F1 (.s 35)=.bool true:=by show get F1 35=_;rw[e2];simp
   rcases L with⟨rfl,rfl⟩|⟨rfl,more,v,aq,rfl⟩
   .simp only at h;have U:P2 t out rest R (H++[.row 2 [cells y]]):=by
     refine⟨by rw[z 2 Zaa];exact P,by rw[List.getElem?_append_left (ζe.1 p.h0).1];exact p.h0,B,o,ids,id,by rw[z 5 Zaa];exact S,n2,Y,n4,by simp;omega,by rw[z 7 Zaa];exact i2,λoff m _=>T⟩
    obtain⟨F',H',r1,r2⟩:=ih out rest D R _ h U;exact⟨F',H',mQ.step (Ex.seq (Ex.seq (Ex.dg λc=>e1) (Ex.nR ad Ex.skip)) (Ex.vR (Ex.seq (Ex.dg λc=>g1) (Ex.seq (Ex.dg λc=>i1) (Ex.uK (Ex.seq (Ex.qn rfl λc=>j1) (Ex.nR j2 Ex.exit)) Zab))))) r1,r2⟩
   simp only at h;have n6:ni (H++[.row 2 [cells y]]) (get R 5) o ids (kH out):=by rw[z 5 Zaa];exact S
   obtain⟨F5,C,k1,k2,k3,k4,k5⟩:=x12 (E:=E) (N:=N) (call:=⟨0,λ_ _ _=>none⟩) (by rw[z 8 Zaa];exact M) Q n6 hq hj hr hu
   have I:∀i,B<=i->i∉ids:=λi hi v=>by have:=(Y i v).2;omega
   have ah:C[H.length]?=some (.row 2 [cells y]):=by rw[k4 _ (I _ n5)];exact Q
   have W:C[0]?=some (.row 1 [cells t]):=by rw[k4 0 (λv=>by have:=(Y 0 v).1;omega),List.getElem?_append_left (ζe.1 p.h0).1];exact p.h0
   obtain⟨w9,X,ai,aj,m2,m3,_⟩:=ZP (a:=0) (d:=0) (F:=F5) hd hD v (by rw[k5 2 Zaa,z 2 Zaa];exact P) W ah
   obtain⟨Z,⟨nn,ak⟩,ae,o3⟩:=m3 (by rw[k5 8 Zaa,z 8 Zaa];exact M)
   have au:C.length=H.length+1:=by rw[k3];simp
   have i7:get Z 7=.hsl id 2 ab (rest.map cells).length:=by rw[o3 7 Zaa Zaa,k5 7 Zaa,z 7 Zaa];exact i4
   have ar:id<H.length:=by have:=O.lt (off:=G) (m:=m1) (by rw[<-i3,g3 7 Zaa Zaa]);exact this
   have t6:kP (C++X) (get Z 7) (rest.map cells) id:=by have:get Z 7=get r 7:=(by rw[o3 7 Zaa Zaa,k5 7 Zaa,z 7 Zaa]);rw[this];refine(i2.heap (H':=C) λoff n _=>k4 id (I id T)).more X
   have al:∃g,(∀c,cG E N c none D6 Z (C++X)=some (g,C++X))/\get g 10=.int .i64 ((0:Nat):Int)/\∀s,s<10->get g s=get Z s:=⟨set Z 10 (.int .i64 0),λc=>by simp[D6,cG,bH,bt,bl,br],Zab,λs hs=>by rw[bu,if_neg Zaa]⟩
   obtain⟨g,u1,u2,x⟩:=al;have am:P3 (rest.map cells) (more.l.map cells) B 0 g (C++X):=by refine⟨u2,⟨ai,by rw[x 9 Zaa,ae];exact aj,id,by rw[x 7 Zaa];exact t6,λoff m hh=>⟨T,λaf m' h'=>?_⟩⟩,by simp;omega⟩;rw[x 9 Zaa,ae]at h';have:=m2 af m' h';omega
   obtain⟨A,H8,v1,⟨an,v2,v3⟩,v4,v5,v6⟩:=Zz (E:=E) (N:=N) (more.l.map cells) B (by simp;omega) (more.l.map cells).length 0 (rest.map cells) g (C++X) Zaa (by simp;omega) am
   have ao:ni H8 (get A 5) o ids (kH (out.set q (row.set j true))):=by have h5:get A 5=get F5 5:=(by rw[v4 5 Zaa,x 5 Zaa,o3 5 Zaa Zaa]);rw[h5,R7];refine(k2.more X).heap (λap=>v5 o ?_) λi hi=>v5 i (Y i hi).2;have:out≠[]:=(by intro e;subst e;simp at u);exact(n2 this).2
   have U:P2 t (out.set q (row.set j true)) (rest++more.l) A H8:=by refine⟨by rw[v4 2 Zaa,x 2 Zaa,o3 2 Zaa Zaa,k5 2 Zaa,z 2 Zaa];exact P,?_,B,o,ids,an,ao,λap=>n2 (by intro e;subst e;simp at u),Y,n4,by simp at v6;omega,?_,v3⟩;rw[v5 0 Zaa,List.getElem?_append_left (ζe.1 W).1];exact W;rw[List.drop_zero]at v2;rw[map_append];exact v2
   obtain⟨F',H',w1,w2⟩:=ih _ _ D A H8 h U;exact⟨F',H',mQ.step (Ex.seq (Ex.seq (Ex.dg λc=>e1) (Ex.nR ad Ex.skip)) (Ex.block (Ex.seq (Ex.dg λc=>g1) (Ex.seq (Ex.dg λc=>i1) (Ex.seq (Ex.seq (Ex.qn rfl λc=>j1) (Ex.qi j2 Ex.skip)) (Ex.seq (Ex.qn rfl λc=>k1)
    (Ex.seq (Ex.ops ⟨nn,ak⟩) (Ex.seq (Ex.dg u1) (Ex.vR (Ex.loop v1)))))))))) w1,w2⟩
theorem UE{H:bn}{Z:Nat->Prop}{id:Nat}{r:L' Bool}(D:Z id)(h:H[id]?=some (.row 1 (jB (r.map V.bool)))):FR H Z (enc (Sl.row r)) (.hsl id 1 0 r.length):=by
 have e:bq H id=some (1,jB (r.map V.bool)):=by simp[bq,h,Ob.rows]
 have C:enc (Sl.row r)=.fsl 1 (rows r):=rfl;have G:(rows r).length=r.length:=by simp[rows]
 have f:jB (r.map V.bool)=rows r:=by simp[jB,rows,Function.comp_def]
 rw[f]at e;rw[C,<-G];refine .fsl 1 (rows r) id 0 (rows r) D e Zaa (λi a b d w=>?_) (λi j a b u v d w z B=>?_);grind;rw[zero_add,d]at w;cases w;rw[z]at B;cases B;refine .same u ?_;obtain⟨c,I,rfl⟩:∃c∈r,a=[V.bool c]:=by have:=mem_of_getElem? d;simp only[rows,mem_map]at this;obtain⟨c,f,rfl⟩:=this;simp_all
 have:=mem_of_getElem? z;simp at this;subst this;rfl
theorem RE{H:bn}{w:V}{o:Nat}{ids:L' Nat}{out:L' (L' Bool)}(n:ni H w o ids (kH out)):∃Z,FR H Z (enc (nested out)) w/\(∀id,Z id->(bq H id).isSome=true)/\Deep H Z:=by
 have f:=n.v;by_cases O:out=[];subst O;rw[if_pos (show kH []=[]from rfl)]at f;subst f;exact⟨λ_=>False,.same _ rfl,λ_ h=>h.elim,⟨λ_ _ _ h=>h.elim⟩⟩;have G:kH out≠[]:=λh=>O (JP.1 h);rw[if_neg G,xo]at f;subst f;have Q:=n.ob G;have I:=n.len;rw[xo]at I;have B:∀(i id:Nat)(r:L' Bool),ids[i]?=some id->out[i]?=some r->H[id]?=some (.row 1 (jB (r.map V.bool))):=λi id r e D=>n.r i id _ e (by simp[kH,D]);have C:∀(i:Nat)(c:L' V),(refs ids (kH out))[i]?=some c->∃id r,ids[i]?=some id/\out[i]?=some r/\c=[.hsl id 1 0 r.length]:=λi c h=>by have hi:=(ζe.1 h).1;rw[uU n.len,xo]at hi;have e:=ζd (show i<ids.length from Zaa);have D:=ζd hi;have S:=Dp (rows:=kH out) (r:=out[i].map V.bool) e (by simp[kH,D]);grind
 have J:bq H o=some (1,refs ids (kH out)):=by simp[bq,Q,Ob.rows]
 have L:∀id∈ids,∃(r:L' Bool),H[id]?=some (.row 1 (jB (r.map V.bool))):=λid z=>by obtain⟨i,hi⟩:=List.getElem?_of_mem z;have T:=(ζe.1 hi).1;exact⟨_,B i id _ hi (ζd (show i<out.length from Zaa))⟩
 refine⟨λid=>id=o\/id∈ids,?_,λid h=>?_,⟨λid es ys h d c hc u hu=>?_⟩⟩;have Y:enc (nested out)=.fsl 1 (rows (out.map Sl.row)):=by rw[nested,if_neg O];rfl
 have T:(rows (out.map Sl.row)).length=out.length:=by simp[rows]
 rw[Y,<-T];refine .fsl 1 _ o 0 (refs ids (kH out)) (.inl rfl) J (by rw[T,uU n.len,xo];omega) (λi a b e D=>?_) (λi j a b u v e D S X=>?_);rw[zero_add]at D;obtain⟨id,r,_,d,rfl⟩:=C i b D;simp[rows,d]at e;subst e;rfl;rw[zero_add]at D;obtain⟨id,r,z,d,rfl⟩:=C i b D;have g:a=[enc (Sl.row r)]:=by simp[rows,d]at e;exact e.symm
 subst g;cases j with|zero=>simp at S X;subst S X;exact UE (.inr (mem_of_getElem? z)) (B i id r z d)|succ j=>simp_all
 rcases h with rfl|h;simp_all;obtain⟨r,d⟩:=L id h;simp[bq,d,Ob.rows];rcases h with rfl|h;rw[J]at d;cases d;obtain⟨i,hi⟩:=List.getElem?_of_mem hc;obtain⟨id,r,z,U,rfl⟩:=C i c hi;simp at hu;subst hu;exact⟨_,UE (.inr (mem_of_getElem? z)) (B i id r z U)⟩;obtain⟨r,W⟩:=L id h;have:bq H id=some (1,jB (r.map V.bool)):=by simp[bq,W,Ob.rows]
 rw[this]at d;cases d;simp only[jB,mem_map]at hc;obtain⟨_,⟨c',_,rfl⟩,rfl⟩:=hc;simp at hu;subst hu;exact⟨_,.same _ rfl⟩
theorem Vp{t:Trace}{x:aZ}{out:L' (L' Bool)}{s:Sl aZ}{b:aZ->Lk (Sl aZ)}(hd:xm.keep (yg 61)=true)(W:H_ xm yg t b)(U:BC t=true)(f:b x=some s)(g:bT (pL b) (gW t,s.l)=some (.x out)):
 Bo xm (yg 41) [enc t,enc x] (enc (nested out)):=by
 obtain⟨fi,g1,g2,g3,g4⟩:=shape;obtain⟨k,j⟩:=pn.1 g;have l:∃F1,(∀c,cG xm yg c none r1 [enc t,enc x] []=some (F1,[.row 1 [cells t],.row 2 [cells x]]))/\get F1 2=.hptr 0 0 0/\get F1 3=.hptr 1 0 0:=by refine⟨_,λc=>kf (v:=.hptr 0 0 0) (H1:=[.row 1 [cells t]]) rfl ?_<|kf (v:=.hptr 1 0 0) (H1:=[.row 1 [cells t],.row 2 [cells x]]) rfl ?_<|vp (v:=.bM) rfl ?_ d_,?_,?_⟩;show(iM .box [enc t]).map _=_;simp only[iM,lQ,rj,if_true,Option.map_some,gA];rfl;simp only[bH,map_cons,map_nil,bt,br,bu,reduceEqDiff,if_false];show(iM .box [enc x]).map _=_;simp only[iM,lQ,rj,if_true,Option.map_some,gA];rfl;simp[bH,bt,bl];simp[br];simp[br]
 obtain⟨F1,p,q,r⟩:=l;have y:∃I,(∀c,cG xm yg c none r2 F1 [.row 1 [cells t],.row 2 [cells x]]=some (set F1 5 .bM,[.row 1 [cells t],.row 2 [cells x]]))/\(∀c,cG xm yg c none r3 (set F1 5 .bM) [.row 1 [cells t],.row 2 [cells x]]=some (I,[.row 1 [cells t],.row 2 [cells x]]))/\P1 t x 0 I [.row 1 [cells t],.row 2 [cells x]]:=by refine⟨set (set F1 5 .bM) 6 (.int .i64 0),λc=>by simp[r2,cG,bH,bt,bl,br],λc=>by simp[r3,cG,bH,bt,bl,br],by simp[q],by simp[r],Zab,rfl,rfl,0,[],?_,λh=>absurd rfl h,λid h=>by simp at h⟩;have:get (set (set F1 5 .bM) 6 (.int .i64 0)) 5=.bM:=Zab;rw[this,List.take_zero];exact ni.nil _ 0
 obtain⟨I,A,H,K⟩:=y;obtain⟨M,Q,e1,e2⟩:=NO (E:=xm) (N:=yg) U t.procs.l.length 0 I _ Zaa K
 obtain⟨o,ids,J,P,R⟩:=e2.ns;have S:(gW t).length=t.procs.l.length:=by simp[gW]
 rw[List.take_of_length_le Zaa]at J
 obtain⟨w,X,id,m1,m2,_,m4⟩:=ZP (a:=0) (d:=0) (F:=M) (E:=xm) (N:=yg) hd W f e2.f2 e2.h0 (c:=1) e2.h1;obtain⟨T,o1,o2,o3⟩:=m4 e2.f3;have O:P2 t (gW t) s.l T (Q++X):=by
  refine⟨by rw[o3 2 Zaa Zaa];exact e2.f2,by rw[List.getElem?_append_left (ζe.1 e2.h0).1];exact e2.h0,Q.length,o,ids,id,by rw[o3 5 Zaa Zaa];exact J.more X,λu=>?_,λi hi=>⟨by have:=R i hi;omega,J.lt.2 i hi⟩,?_,Zab,by rw[o2];exact m1,λoff m h=>?_⟩;have z:kH (gW t)≠[]:=λh=>u (JP.1 h);have:t.procs.l.length≠0:=by intro h;apply u;exact List.eq_nil_of_length_eq_zero Zaa
  have:=P this;exact⟨Zaa,J.lt.1 z⟩;have:=(ζe.1 e2.h0).1;omega;rw[o2]at h;have:=m2 off m h;omega
 obtain⟨C,L,p1,p2⟩:=Nd hd W k _ _ out T _ j O;obtain⟨B,o',Y,aa,V,_⟩:=p2.ns;have l1:∃D,(∀c,cG xm yg c none r18 C L=some (D,L))/\get D 4=get C 5:=by refine⟨_,λc=>vp (v:=get C 5) rfl ?_<|vp (v:=get C 5) rfl ?_ d_,?_⟩;simp[bH,bt,bl];simp[bH,bt,bl,br];simp[br]
 obtain⟨D,y1,y2⟩:=l1;have e:Ex xm yg code [enc t,enc x] [] .ret D L:=Ex.seq (Ex.dg p) (Ex.seq (Ex.dg A) (Ex.seq (Ex.seq (Ex.dg H) (Ex.vR (Ex.loop e1))) (Ex.seq (Ex.ops o1) (Ex.seq (Ex.vR (Ex.loop p1)) (Ex.seq (Ex.dg y1) Ex.ret)))))
 obtain⟨n,G⟩:=e.run (nm:=some) w6 g1 g2 (show[enc t,enc x].length<=fi.ntmps from g3) (vs:=[get D 4]) (by rw[g4];rfl)
 obtain⟨Z,z1,z2,z3⟩:=RE V;exact⟨n,get C 5,L,Z,by rw[G,y2];rfl,z1,z2,z3⟩
theorem Yp(l:L' aZ):∀c∈l.map (cells (α:=aZ)),c.length=2/\c.all V.one=true/\c.all V.scalar=true:=λc a=>by obtain⟨e,_,rfl⟩:=mem_map.1 a;exact⟨rfl,rfl,rfl⟩
theorem Zm(t:Trace):H_ xm yg t (dS t):=by
 intro y s H B;have d:=AI t y;have I:=d (cF s) (by rw[B];rfl);have b:V.cE [enc t,enc y]=true:=by simp only[V.cE,jU,Bool.and_self]
 have w:s.k=.row\/s.k=.nil/\rows s.l=[]:=by
  have D:∀o z,(∃l,o=.row l)\/o=.nil->dS.J1 o t y=some z->(∃l,z=.row l)\/z=.nil:=λo z J u=>by unfold dS.J1 at u;obtain⟨e,_,u⟩:=ζg.1 u;cases G:e.kind==3 with|true=>rw[G]at u;obtain⟨f,_,u⟩:=ζg.1 u;obtain⟨q,C,u⟩:=ζg.1 u;cases u;unfold ga at C;split at C;cases C;exact .inl ⟨_,rfl⟩;cases C|false=>rw[G]at u;cases u;exact J
  have:(∃l,s=.row l)\/s=.nil:=by unfold dS at B;cases a:decide (y.index>1)with|true=>rw[a]at B;exact D _ s (.inl ⟨_,rfl⟩) B|false=>rw[a]at B;exact D _ s (.inr rfl) B
  rcases this with⟨l,rfl⟩|rfl;exact .inl rfl;exact .inr ⟨rfl,rfl⟩
 obtain⟨n,z,H',r1,r2⟩:=Ys Ie Cu (T:=Tx) (f:=yg 61) (rf:=rR (Tx 61)) Zad b (Nat.le_of_ble_eq_true Zad) (k:=s.k) (es:=2) (xs:=rows s.l) (λc a=>(Yp s.l c a).2.2) w I;refine JY (l:=s.l.map cells) (y:=z) (H1:=H') Zad b (Yp s.l) ⟨n,λk g=>(oN _ g).go _ _ _ _ r1⟩ ?_ H;rcases r2 with⟨L,rfl⟩|⟨id,rfl,O⟩;left;cases s<;>simp[Sl.k]at L;exact⟨rfl,rfl⟩;right;exact⟨id,by simp[rows],O⟩
end pastX
theorem RS(t:Trace)(x:aZ)(r:Sl (Sl Bool))(h:oq t x=some r):Sy.yo 41 [enc t,enc x]=some (enc r):=by
 unfold oq at h;split at h;rename_i u;obtain⟨s,z,h⟩:=ζg.1 h;obtain⟨w,B,h⟩:=ζg.1 h;cases w with|n a=>exact elim a|r e=>exact elim e|x out=>cases h;exact AM (pastX.Vp Zad (pastX.Zm t) u z B)
 cases h
noncomputable section
def xL:Lk Bool:=some true
instance VH:Fc Sy cL xL:=⟨4,[],λr:Bool=>[.bool r],true,gT.yo Zad Zad QK⟩
namespace gq
def bp(s0:Sl Event)(D:Int)(B:Int)(p1:Event->Lk Bool):Lk (Fw Int Unit Int):=bg (decide (B<D)) ((idx s0 B).bind λu=>(p1 u).bind λw=>bg w (some (.r B)) (some (.n (wrap .i64 (B+1))))) (some (.x ()))
def W1(s0:Sl Event)(B D:Int)(p1:Event->Lk Bool):Lk Int:=(bT (λq:Int=>bp s0 B q p1) D).bind (Fw.elim (λe=>some (-1)) (λe=>some e))
end gq
def gq(s0:Sl Event)(p1:Event->Lk Bool):Lk Int:=gq.W1 s0 (len s0) 0 p1
open gq in
abbrev xE(g1:FuncId)(e1:L' V)(p1:Event->Lk Bool)(a:lS Sy cL g1 [] e1 (λz:Event=>[enc z]) (λr:Bool=>[.bool r]) p1 true)(s0:Sl Event):Fc Sy cL (gq s0 p1):=Fc.M 54 [enc s0,.clo g1 [] e1] (b7 9 s0 (dY 5 (λw=>(bL [Cv 0 s0,(1,.v (.clo g1 [] e1)),Iv 7 (len s0),Iv 8 w] [])) (λu=>(0,(bL [] []))) (λu=>(bL [Iv 4 u] [])) (λw=>bz 7 9 (bP 16 λB _=>yw 1 a.f B λC _=>bz 2 16 a_ a_) a_) (λu=>a_) (λu=>a_)))
def gw(s0:Sl Event)(p1:Event->Lk Bool):Lk Bool:=(gq s0 p1).bind λu=>some (decide (u>=0))
abbrev lI(g1:FuncId)(e1:L' V)(p1:Event->Lk Bool)(a:lS Sy cL g1 [] e1 (λz:Event=>[enc z]) (λr:Bool=>[.bool r]) p1 true)(s0:Sl Event):Fc Sy cL (gw s0 p1):=Fc.M 30 [enc s0,.clo g1 [] e1] (bC (F:=xE g1 e1 p1 a s0) 9 λu _=>a_)
def qv(B:Event):Lk Bool:=some (decide ((len B.assign)>12))
instance Q2(B:Event):Fc Sy cL (qv B):=Fc.M 31 [enc B] (cu 2 1 B (b7 7 B.assign a_))
def pS(B:Int):Lk Bool:=(bg (decide (B>=65)) (some (decide (B<=90))) (some false):Lk Bool).bind λu=>(bg u (some true) ((bg (decide (B>=97)) (some (decide (B<=122))) (some false):Lk Bool).bind λw=>some w):Lk Bool).bind λz=>some z
instance UC(B:Int):Fc Sy cL (pS B):=Fc.M 74 [.int .u8 B] (bZ 10 3 [5] 8 (bz 10 5 (bA 3) (bA 3)) λu=>bZ 1 7 [0,9] 16 (bz 1 9 (bA 7) (bZ 3 3 [0,12] 15 (bz 3 12 (bA 3) (bA 3)) λw=>bA 1)) λz=>a_)
def tQ(B:Int):Lk Bool:=(bg (decide (B>=48)) (some (decide (B<=57))) (some false):Lk Bool).bind λu=>some u
instance Ww(B:Int):Fc Sy cL (tQ B):=Fc.M 75 [.int .u8 B] (bZ 10 3 [0,5] 8 (bz 10 5 (bA 3) (bA 3)) λu=>a_)
namespace iu
def bp(s0:ByteArray)(i3:Int):Lk (Fw Int Unit Unit):=bg (decide (i3<((ByteArray.size s0:Nat):Int))) ((lR s0 i3).bind λz=>(pS z).bind λB=>(bg B (some false) ((lR s0 i3).bind λC=>(tQ C).bind λD=>some (!D)):Lk Bool).bind λG=>(bg G ((lR s0 i3).bind λu=>some (!(u==95))) (some false):Lk Bool).bind λw=>bg w (some (.r ())) (some (.n (wrap .i64 (i3+1))))) (some (.x ()))
def W1(s0:ByteArray)(i3:Int):Lk Bool:=(bT (λq:Int=>bp s0 q) i3).bind (Fw.elim (λe=>some true) (λe=>some false))
end iu
def iu(s0:ByteArray):Lk Bool:=(bg (decide (((ByteArray.size s0:Nat):Int)<1)) (some true) (some (decide (((ByteArray.size s0:Nat):Int)>16))):Lk Bool).bind λu=>(bg u (some true) ((lR s0 0).bind λw=>(pS w).bind λz=>some (!z)):Lk Bool).bind λB=>bg B (some false) (iu.W1 s0 1)
open iu in
instance W_(s0:ByteArray):Fc Sy cL (iu s0):=Fc.M 58 [.str s0] (bZ 12 4 [7] 11 (bz 12 7 (bA 4) (bA 4)) λC=>bZ 1 5 [12] 17 (bz 1 12 (bA 5) (Bp 1 .i64 λD _=>bC 0 λG _=>bA 2)) λI=>bz 2 17 a_ (dY 11 (λw=>(bL [(0,.v (.str s0)),Iv 3 w] [])) (λu=>(0,(bL [] []))) (λu=>(bL [Bv 2 false] [])) (λw=>bz 10 21 (Bp 9 .i64 λJ _=>bC 0 λL _=>bZ 2 6 [29] 35 (dA 2 29 (bA 6) (Bp 2 .i64 λO _=>bC 0 λQ _=>bA 2)) λS=>bZ 1 5 [36] 41 (bz 1 36 (Bp 2 .i64 λz _=>bA 2) (bA 5)) λB=>bz 2 41 a_ a_) a_) (λu=>a_) (λu=>a_)))
def qE(B:Int):Lk Bool:=(bg (decide (B>=(-1073741824))) (some (decide (B<=1073741824))) (some false):Lk Bool).bind λu=>some u
instance Vm(B:Int):Fc Sy cL (qE B):=Fc.M 59 [.int .i64 B] (bZ 10 3 [0,5] 8 (bz 10 5 (bA 3) (bA 3)) λu=>a_)
namespace eu
def eU(G:Int)(B:bU)(D:Int):Lk (Fw Int Unit Unit):=bg (decide (D<G)) ((idx B.vars D).bind λu=>(idx B.vars G).bind λw=>bg (toList u.name==toList w.name) (some (.r ())) (some (.n (wrap .i64 (D+1))))) (some (.x ()))
def W3(D G:Int)(B:bU):Lk (Fw Int Unit Int):=(bT (λq:Int=>eU D B q) G).bind (Fw.elim (λe=>(idx B.vars D).bind λu=>(qE u.init_).bind λw=>bg w (some (.n (wrap .i64 (D+1)))) (some (.r 2))) (λe=>some (.r 13)))
def bV(B:bU)(D:Int):Lk (Fw Int Unit Int):=bg (decide (D<(len B.vars))) ((idx B.vars D).bind λu=>(iu u.name).bind λw=>bg w (W3 D 0 B) (some (.r 13))) (some (.x ()))
def W2(D:Int)(B:bU):Lk Int:=(bT (λq:Int=>bV B q) D).bind (Fw.elim (λe=>bg (decide ((len B.events)>64)) (some 5) (some 0)) (λe=>some e))
def bp(p1:Int)(B:Trace)(D:bU)(G:Int):Lk (Fw Int Unit Unit):=bg (decide (G<p1)) ((idx B.procs G).bind λu=>bg (toList u.name==toList D.name) (some (.r ())) (some (.n (wrap .i64 (G+1))))) (some (.x ()))
def W1(p1 G:Int)(D:Trace)(B:bU):Lk Int:=(bT (λq:Int=>bp p1 D B q) G).bind (Fw.elim (λe=>bg (decide ((len B.vars)>8)) (some 5) (eu.W2 0 B)) (λe=>some 13))
end eu
def eu(B:Trace)(p1:Int):Lk Int:=(idx B.procs p1).bind λu=>(iu u.name).bind λw=>bg w (eu.W1 p1 0 B u) (some 13)
open eu in
instance WL(J:Trace)(p1:Int):Fc Sy cL (eu J p1):=Fc.M 37 [enc J,.int .i64 p1] (cu 2 2 J (bP 8 λu _=>oM 2 5 0 u (bC 7 λI _=>dA 3 17 (dY 11 (λD=>(bL [Iv 1 p1,Pv 2,Pv 5,Iv 6 D] [Xb 2 J,Xb 5 u])) (λB=>(0,(bL [Pv 5] [Xb 5 u]))) (λB=>(bL [Iv 4 13] [])) (λD=>bz 9 20 (bP 10 λL _=>bz 7 31 a_ a_) a_) (λB=>b7 7 u.vars (bz 3 35 a_ (dY 11 (λw=>(bL [Pv 5,Iv 7 w] [Xb 5 u])) (λz=>(2,(bL [Pv 5] [Xb 5 u]))) (λz=>(bL [Iv 4 z] [])) (λw=>b7 7 u.vars (bz 3 40 (bP 11 λO _=>bC 2 λQ _=>dA 3 50 (dY 11 (λG=>(bL [Pv 5,Iv 7 w,Iv 8 G] [Xb 5 u])) (λC=>(4,(bL [Pv 5,Iv 7 w] [Xb 5 u]))) (λC=>(bL [Iv 4 13] [])) (λG=>bz 9 53 (bP 10 λS _=>bP 5 λT _=>bz 5 68 a_ a_) a_) (λC=>bP 7 λU _=>bC 2 λW _=>dA 3 76 a_ a_) (λC=>a_)) a_) a_)) (λz=>b7 7 u.events (bz 3 80 a_ a_)) (λz=>a_)))) (λB=>a_)) a_)))
namespace ez
def eU(p1 k8:Int)(J:Trace)(D:Event)(G:Assign)(B:Int):Lk (Fw Int Unit Unit):=bg (decide (B<k8)) ((idx D.assign B).bind λu=>bg (u.var==G.var) (some (.r ())) (some (.n (wrap .i64 (B+1))))) (some (.x ()))
def W3(p1 k8 B:Int)(D:Trace)(G:Event)(J:Assign):Lk (Fw Int Unit Int):=(bT (λq:Int=>eU p1 k8 D G J q) B).bind (Fw.elim (λe=>some (.n (wrap .i64 (k8+1)))) (λe=>some (.r 8)))
def bV(p1:Int)(D:Trace)(B:Event)(k8:Int):Lk (Fw Int Unit Int):=bg (decide (k8<(len B.assign))) ((idx B.assign k8).bind λu=>(bg (decide (u.var<0)) (some true) ((idx D.procs p1).bind λw=>some (decide (u.var>=(len w.vars)))):Lk Bool).bind λz=>(bg z (some true) ((qE u.value).bind λC=>some (!C)):Lk Bool).bind λG=>bg G (some (.r 2)) (W3 p1 k8 0 D B u)) (some (.x ()))
def W2(p1 k8:Int)(B:Trace)(D:Event):Lk Int:=(bT (λq:Int=>bV p1 B D q) k8).bind (Fw.elim (λe=>some 0) (λe=>some e))
def J1(p1 i2:Int)(D:Trace)(B:Event):Lk Int:=(bg (decide (B.time<0)) (some true) (some (decide (B.time>1099511627776))):Lk Bool).bind λu=>(bg u (some true) ((bg (decide (i2>0)) ((idx D.procs p1).bind λw=>(idx w.events (wrap .i64 (i2-1))).bind λz=>some (decide (B.time<z.time))) (some false):Lk Bool).bind λC=>some C):Lk Bool).bind λG=>bg G (some 11) (bg (decide ((len B.assign)>8)) (some 5) (ez.W2 p1 0 D B))
theorem qm(p1 i2:Int)(D:Trace)(B:Event):Le ((J1 p1 i2 D B).bind (λr=>some [.int .i64 r])) (b8 Sy cL (qM (tr Tx 38)) (uh (tb Tx 38) [1,1,1,0] [] (bL [Iv 1 p1,Iv 2 i2,Pv 3,Pv 7] [Xb 3 D,Xb 7 B]))):=bZ 7 4 [71] 75 (bz 7 71 (bA 4) (bA 4)) λL=>bZ 1 19 [2,76] 95 (bz 1 76 (bA 19) (bZ 3 15 [2,79] 94 (bz 3 79 (bP 5 λO _=>bP 4 λQ _=>bA 4) (bA 15)) λS=>bA 1)) λT=>bz 2 95 a_ (b7 8 B.assign (bz 3 99 a_ (dY 11 (λu=>(bL [Iv 1 p1,Pv 3,Pv 7,Iv 8 u] [Xb 3 D,Xb 7 B])) (λw=>(0,(bL [] []))) (λw=>(bL [Iv 6 w] [])) (λu=>b7 7 B.assign (bz 3 104 (bP 10 λz _=>bZ 12 11 [115] 126 (bz 12 115 (bA 11) (bP 5 λI _=>b7 2 I.vars (bA 2))) λU=>yE 1 5 [130] (λC=>(bL [Iv 1 p1,Pv 3,Pv 7,Iv 8 u,Bv 104 true,Pv 9,Bv 132 C] [Xb 3 D,Xb 7 B,Xb 9 z])) (bz 1 127 (bA 5) (cZ 2 λW _=>bA 2)) λC=>bz 2 132 a_ (dY 10 (λJ=>(bL [Iv 1 p1,Pv 3,Pv 7,Iv 8 u,Pv 9,Iv 10 J] [Xb 3 D,Xb 7 B,Xb 9 z])) (λG=>(2,(bL [Iv 1 p1,Pv 3,Pv 7,Iv 8 u] [Xb 3 D,Xb 7 B]))) (λG=>(bL [Iv 6 8] [])) (λJ=>bz 9 135 (bP 10 λX _=>bz 7 146 a_ a_) a_) (λG=>a_) (λG=>a_))) a_)) (λw=>a_) (λw=>a_))))
end ez
def ez(B:Trace)(p1 i2:Int):Lk Int:=(idx B.procs p1).bind λw=>(idx w.events i2).bind λu=>bg (u.kind==1) ((bg (u.peer==0) (some (!(u.message==0))) (some true):Lk Bool).bind λz=>bg z (some 3) (ez.J1 p1 i2 B u)) ((bg (u.kind==2) (some false) (some (!(u.kind==3))):Lk Bool).bind λC=>(bg C (some true) (some (decide (u.peer<0))):Lk Bool).bind λD=>(bg D (some true) (some (decide (u.peer>=(len B.procs)))):Lk Bool).bind λG=>(bg G (some true) (some (u.peer==p1)):Lk Bool).bind λI=>(bg I (some true) (some (decide (u.message<0))):Lk Bool).bind λJ=>(bg J (some true) (some (decide (u.message>199))):Lk Bool).bind λL=>bg L (some 3) (ez.J1 p1 i2 B u))
open ez in
instance WT(B:Trace)(p1 i2:Int):Fc Sy cL (ez B p1 i2):=Fc.M 38 [enc B,.int .i64 p1,.int .i64 i2] (cu 2 3 B (bP 8 λw _=>bP 3 λu _=>oM 2 7 0 u (bz 10 22 (bZ 7 4 [26] 30 (dA 7 26 (bA 4) (bA 4)) λz=>bz 2 30 a_ (yV 4 (qm p1 i2 B u))) (bZ 7 4 [34] 38 (dA 7 34 (bA 4) (bA 4)) λC=>bZ 1 4 [39] 43 (bz 1 39 (bA 4) (bA 4)) λD=>bZ 1 7 [44] 51 (bz 1 44 (bA 7) (b7 4 B.procs (bA 2))) λG=>bZ 1 5 [52] 57 (bz 1 52 (bA 5) (bA 5)) λI=>bZ 1 4 [58] 62 (bz 1 58 (bA 4) (bA 4)) λJ=>bZ 1 4 [63] 67 (bz 1 63 (bA 4) (bA 4)) λL=>bz 2 67 a_ (yV 4 (qm p1 i2 B u))))))
namespace iX
def bp(G:Trace)(J:aZ)(D:Event)(B:Bool)(U:Int):Lk (Fw (Bool×Int) Bool Empty):=(idx G.procs D.peer).bind λw=>bg (decide (U<(len w.events))) ((idx G.procs D.peer).bind λz=>(idx z.events U).bind λu=>(bg B (some true) ((bg (u.kind==2) (some (u.message==D.message)) (some false):Lk Bool).bind λC=>(bg C (some (u.peer==J.proc)) (some false):Lk Bool).bind λI=>some I):Lk Bool).bind λL=>some (.n (L,wrap .i64 (U+1)))) (some (.x B))
def W1(B:Bool)(U:Int)(D:Trace)(G:aZ)(J:Event):Lk Int:=(bT (λq:Bool×Int=>bp D G J q.1 q.2) (B,U)).bind (Fw.elim (λe=>bg e (some 0) (some 7)) (λe=>elim e))
end iX
def iX(B:Trace)(D:aZ):Lk Int:=(vu B D).bind λu=>bg (u.kind==1) (some 0) ((dV B u.kind u.message).bind λw=>bg (LG w D) (bg (u.kind==3) (iX.W1 false 0 B D u) (some 0)) (some 8))
open iX in
instance TV(B:Trace)(D:aZ):Fc Sy cL (iX B D):=Fc.M 39 [enc B,enc D] (cu 2 2 B (bC 8 λw _=>oM 1 5 0 w (bz 10 14 a_ (cZ 11 λI _=>dA 4 22 (bz 11 25 (fN 14 (λu=>(bL [Pv 2,Pv 3,Pv 5,Bv 6 u.1,Iv 7 u.2] [Xb 2 B,Xb 3 D,Xb 5 w])) (λz=>(0,(bL [Bv 6 z] []))) (λu=>bP 9 λC _=>b7 2 C.events (bz 3 35 (bP 11 λJ _=>bP 3 λG _=>oM 2 8 0 G (bZ 5 18 [8,49] 67 (bz 5 49 (bA 18) (bZ 4 6 [53] 59 (bz 4 53 (bA 6) (bA 6)) λL=>bZ 1 6 [8,60] 66 (bz 1 60 (bA 6) (bA 6)) λO=>bA 1)) λQ=>a_)) a_)) (λz=>dA 8 69 a_ a_)) a_) a_))))
namespace eH
def J4(B:Sl Int)(p5:Int)(D:Trace):Lk (Fw ((Sl Int)×Bool) ((Sl Int)×Bool) Empty):=(Sl.kS B p5).bind λu=>(Sl.get B u).bind λw=>(Sl.kS B p5).bind λz=>(Sl.put B z (wrap .i64 (w+1):Int)).bind λC=>some (.n (C,true))
def eU(p5:Int)(G:Trace)(B:Sl Int)(D:Bool):Lk (Fw ((Sl Int)×Bool) ((Sl Int)×Bool) Empty):=(Sl.kS B p5).bind λI=>(Sl.get B I).bind λJ=>(idx G.procs p5).bind λL=>bg (decide (J<(len L.events))) ((idx G.procs p5).bind λO=>(Sl.kS B p5).bind λQ=>(Sl.get B Q).bind λS=>(idx O.events S).bind λu=>bg (u.kind==3) ((dV G 2 u.message).bind λw=>(Sl.kS B w.proc).bind λz=>(Sl.get B z).bind λC=>bg (decide (C<w.index)) (some (.x (B,D))) (J4 B p5 G)) (J4 B p5 G)) (some (.x (B,D)))
def W3(D:Sl Int)(B:Bool)(p5:Int)(G:Trace):Lk (Fw ((Sl Int)×Bool×Int) ((Sl Int)×Bool) Empty):=(bT (λq:(Sl Int)×Bool=>eU p5 G q.1 q.2) (D,B)).bind (Fw.elim (λe=>some (.n (e.1,e.2,wrap .i64 (p5+1)))) (λe=>elim e))
def bV(G:Trace)(D:Sl Int)(B:Bool)(p5:Int):Lk (Fw ((Sl Int)×Bool×Int) ((Sl Int)×Bool) Empty):=bg (decide (p5<(len G.procs))) (W3 D B p5 G) (some (.x (D,B)))
def W2(D:Sl Int)(B:Bool)(p5:Int)(G:Trace):Lk (Fw (Sl Int) (Sl Int) Empty):=(bT (λq:(Sl Int)×Bool×Int=>bV G q.1 q.2.1 q.2.2) (D,B,p5)).bind (Fw.elim (λe=>bg e.2 (some (.n e.1)) (some (.x e.1))) (λe=>elim e))
def zj(B:Sl Int)(D:Trace)(G:Int):Lk (Fw Int Unit Unit):=bg (decide (G<(len D.procs))) ((Sl.kS B G).bind λu=>(Sl.get B u).bind λw=>(idx D.procs G).bind λz=>bg (decide (w<(len z.events))) (some (.r ())) (some (.n (wrap .i64 (G+1))))) (some (.x ()))
def W5(B:Sl Int)(G:Int)(D:Trace):Lk Bool:=(bT (λq:Int=>zj B D q) G).bind (Fw.elim (λe=>some true) (λe=>some false))
def bp(D:Trace)(B:Sl Int):Lk (Fw (Sl Int) (Sl Int) Empty):=W2 B false 0 D
def W1(B:Sl Int)(D:Trace):Lk Bool:=(bT (λq:Sl Int=>bp D q) B).bind (Fw.elim (λe=>eH.W5 e 0 D) (λe=>elim e))
end eH
def eH(B:Trace):Lk Bool:=(tV (len B.procs) (0:Int)).bind λu=>eH.W1 u B
open eH in
instance TA(B:Trace):Fc Sy cL (eH B):=Fc.M 40 [enc B] (cu 2 1 B (b7 7 B.procs (UF 0 12 λb _=>fN 7 (λO=>(bL [Pv 1,Ov 3] [Xb 1 B,Lb 2003 O])) (λD=>(0,(bL [Pv 1,Ov 3] [Xb 1 B,Lb 2003 D]))) (λO=>fN 17 (λw=>(bL [Pv 1,Ov 3,Bv 4 w.2.1,Iv 5 w.2.2] [Xb 1 B,Lb 2003 w.1])) (λG=>(2,(bL [Pv 1,Ov 3,Bv 4 G.2] [Xb 1 B,Lb 2003 G.1]))) (λw=>b7 8 B.procs (bz 3 17 (fN 8 (λI=>(bL [Pv 1,Ov 3,Bv 4 I.2,Iv 5 w.2.2] [Xb 1 B,Lb 2003 I.1])) (λJ=>(4,(bL [Pv 1,Ov 3,Bv 4 J.2,Iv 5 w.2.2] [Xb 1 B,Lb 2003 J.1]))) (λI=>kZ .i64 7 2003 λc _=>rU 0 2003 0 1 false (λQ=>.int .i64 Q) λQ _=>bP 3 λZ _=>b7 2 Z.events (bz 3 31 (bP 9 λd _=>kZ .i64 4 2003 λe _=>rU 0 2003 0 1 false (λS=>.int .i64 S) λS _=>bP 0 λa _=>oM 2 6 0 a (bz 10 46 (bC 6 λf _=>kZ .i64 9 2003 λg _=>rU 0 2003 0 1 false (λz=>.int .i64 z) λz _=>bz 5 58 a_ (tI 5 (kZ .i64 4 2003 λT _=>rU 0 2003 0 1 false (λu=>.int .i64 u) λu _=>kZ .i64 1 2003 λU _=>Da 0 2003 (.int .i64 (wrap .i64 (u+1))) λW _=>a_))) (tI 5 (kZ .i64 4 2003 λT _=>rU 0 2003 0 1 false (λu=>.int .i64 u) λu _=>kZ .i64 1 2003 λU _=>Da 0 2003 (.int .i64 (wrap .i64 (u+1))) λW _=>a_)))) a_)) (λJ=>a_)) a_)) (λG=>dA 8 66 a_ a_)) (λD=>dY 11 (λX=>(bL [Pv 1,Ov 3,Iv 8 X] [Xb 1 B,Lb 2003 D])) (λL=>(6,(bL [] []))) (λL=>(bL [Bv 2 false] [])) (λX=>b7 8 B.procs (bz 3 71 (kZ .i64 9 2003 λh _=>rU 0 2003 0 1 false (λC=>.int .i64 C) λC _=>bP 3 λY _=>b7 2 Y.events (bz 3 85 a_ a_)) a_)) (λL=>a_) (λL=>a_)))))
instance WZ(t:Trace)(x:aZ):Fc Sy cL (oq t x):=Fc.of (A:=λz:Trace×aZ=>[enc z.1,enc z.2]) (E:=λr:Sl (Sl Bool)=>[enc r]) (p:=λz=>oq z.1 z.2) (n:=41) (z:=(t,x)) (gT.Xd Zad Zad (λz r a=>RS z.1 z.2 r a))
namespace dh
def eU(p6:Int)(B:Trace)(G:aZ)(D:Int):Lk (Fw Int Unit (Int×aZ)):=(idx B.procs p6).bind λw=>bg (decide (D<(len w.events))) ((ez B p6 D).bind λu=>bg (u==0) (some (.n (wrap .i64 (D+1)))) (some (.r (u,(⟨p6,wrap .i64 (D+1)⟩:aZ))))) (some (.x ()))
def W3(p6 G:Int)(B:Trace)(D:aZ):Lk (Fw Int Unit (Int×aZ)):=(bT (λq:Int=>eU p6 B D q) G).bind (Fw.elim (λe=>some (.n (wrap .i64 (p6+1)))) (λe=>some (.r (e.1,e.2))))
def zj(G:Int)(D:Trace)(J:aZ)(B:Int):Lk (Fw Int Unit (Int×aZ)):=(idx D.procs G).bind λw=>bg (decide (B<(len w.events))) ((iX D (⟨G,wrap .i64 (B+1)⟩:aZ)).bind λu=>bg (u==0) (some (.n (wrap .i64 (B+1)))) (some (.r (u,(⟨G,wrap .i64 (B+1)⟩:aZ))))) (some (.x ()))
def W5(J B:Int)(D:Trace)(G:aZ):Lk (Fw Int Unit (Int×aZ)):=(bT (λq:Int=>zj J D G q) B).bind (Fw.elim (λe=>some (.n (wrap .i64 (J+1)))) (λe=>some (.r (e.1,e.2))))
def Mm(D:Int)(G:Trace)(J:aZ)(B:Int):Lk (Fw Int Unit aZ):=(idx G.procs D).bind λw=>bg (decide (B<(len w.events))) ((oq G (⟨D,wrap .i64 (B+1)⟩:aZ)).bind λz=>(idx z D).bind λC=>(idx C (wrap .i64 (B+1))).bind λu=>bg u (some (.r (⟨D,wrap .i64 (B+1)⟩:aZ))) (some (.n (wrap .i64 (B+1))))) (some (.x ()))
def W7(B D:Int)(G:Trace)(J:aZ):Lk (Fw Int Unit aZ):=(bT (λq:Int=>Mm B G J q) D).bind (Fw.elim (λe=>some (.n (wrap .i64 (B+1)))) (λe=>some (.r e)))
def Mp(B:Trace)(G:aZ)(D:Int):Lk (Fw Int Unit aZ):=bg (decide (D<(len B.procs))) (W7 D 0 B G) (some (.x ()))
def W6(B:Int)(D:Trace)(G:aZ):Lk (aZ×Int):=(bT (λq:Int=>Mp D G q) B).bind (Fw.elim (λe=>some (⟨0,0⟩,0)) (λe=>some (e,10)))
def L8(B:Trace)(D:aZ)(G:Int):Lk (Fw Int Unit (Int×aZ)):=bg (decide (G<(len B.procs))) (W5 G 0 B D) (some (.x ()))
def W4(G:Int)(B:Trace)(D:aZ):Lk (aZ×Int):=(bT (λq:Int=>L8 B D q) G).bind (Fw.elim (λe=>(eH B).bind λu=>bg u (some (⟨0,0⟩,0)) (dh.W6 0 B D)) (λe=>some (e.2,e.1)))
def bV(B:Trace)(D:aZ)(p6:Int):Lk (Fw Int Unit (Int×aZ)):=bg (decide (p6<(len B.procs))) (W3 p6 0 B D) (some (.x ()))
def W2(p6:Int)(B:Trace)(D:aZ):Lk (aZ×Int):=(bT (λq:Int=>bV B D q) p6).bind (Fw.elim (λe=>dh.W4 0 B D) (λe=>some (e.2,e.1)))
def bp(B:Trace)(D:aZ)(p4:Int):Lk (Fw Int Unit (Int×aZ)):=bg (decide (p4<(len B.procs))) ((eu B p4).bind λu=>bg (u==0) (some (.n (wrap .i64 (p4+1)))) (some (.r (u,(⟨p4,0⟩:aZ))))) (some (.x ()))
def W1(p4:Int)(B:Trace)(D:aZ):Lk (aZ×Int):=(bT (λq:Int=>bp B D q) p4).bind (Fw.elim (λe=>dh.W2 0 B D) (λe=>some (e.2,e.1)))
end dh
def dh(B:Trace):Lk (aZ×Int):=(bg (decide ((len B.procs)<1)) (some true) (some (decide ((len B.procs)>8))):Lk Bool).bind λu=>bg u (some (⟨0,0⟩,1)) (dh.W1 0 B (⟨0,0⟩:aZ))
open dh in
instance U7(B:Trace):Fc Sy cL (dh B):=Fc.M 20 [enc B] (cu 2 1 B (b7 9 B.procs (bZ 2 5 [20] 25 (bz 2 20 (bA 5) (b7 2 B.procs (bA 2))) λa=>bz 2 25 a_ (dY 11 (λQ=>(bL [Pv 1,Pv 2,Iv 4 Q] [Xb 1 B,Xb 2 (⟨0,0⟩:aZ)])) (λu=>(0,(bL [Pv 1,Pv 2] [Xb 1 B,Xb 2 (⟨0,0⟩:aZ)]))) (λu=>(bL [Pv 2,Iv 3 u.1] [Xb 2 u.2])) (λQ=>b7 7 B.procs (bz 3 31 (bC 9 λb _=>dA 9 38 a_ a_) a_)) (λu=>dY 10 (λG=>(bL [Pv 1,Pv 2,Iv 6 G] [Xb 1 B,Xb 2 (⟨0,0⟩:aZ)])) (λw=>(2,(bL [Pv 1,Pv 2] [Xb 1 B,Xb 2 (⟨0,0⟩:aZ)]))) (λw=>(bL [Pv 2,Iv 3 w.1] [Xb 2 w.2])) (λG=>b7 7 B.procs (bz 3 46 (dY 12 (λS=>(bL [Pv 1,Pv 2,Iv 6 G,Iv 7 S] [Xb 1 B,Xb 2 (⟨0,0⟩:aZ)])) (λz=>(4,(bL [Pv 1,Pv 2,Iv 6 G] [Xb 1 B,Xb 2 (⟨0,0⟩:aZ)]))) (λz=>(bL [Pv 2,Iv 3 z.1] [Xb 2 z.2])) (λS=>bP 8 λW _=>b7 2 W.events (bz 3 57 (bC 10 λc _=>dA 9 65 a_ a_) a_)) (λz=>a_) (λz=>a_)) a_)) (λw=>dY 10 (λI=>(bL [Pv 1,Pv 2,Iv 9 I] [Xb 1 B,Xb 2 (⟨0,0⟩:aZ)])) (λC=>(6,(bL [Pv 1,Pv 2] [Xb 1 B,Xb 2 (⟨0,0⟩:aZ)]))) (λC=>(bL [Pv 2,Iv 3 C.1] [Xb 2 C.2])) (λI=>b7 7 B.procs (bz 3 75 (dY 12 (λT=>(bL [Pv 1,Pv 2,Iv 9 I,Iv 10 T] [Xb 1 B,Xb 2 (⟨0,0⟩:aZ)])) (λD=>(8,(bL [Pv 1,Pv 2,Iv 9 I] [Xb 1 B,Xb 2 (⟨0,0⟩:aZ)]))) (λD=>(bL [Pv 2,Iv 3 D.1] [Xb 2 D.2])) (λT=>bP 8 λX _=>b7 2 X.events (bz 3 86 (bC 19 λd _=>dA 9 97 a_ a_) a_)) (λD=>a_) (λD=>a_)) a_)) (λC=>bC 6 λZ _=>bz 2 101 a_ (dY 11 (λJ=>(bL [Pv 1,Pv 2,Iv 13 J] [Xb 1 B,Xb 2 (⟨0,0⟩:aZ)])) (λL=>(10,(bL [Pv 2] [Xb 2 (⟨0,0⟩:aZ)]))) (λL=>(bL [Pv 2,Iv 3 10] [Xb 2 L])) (λJ=>b7 7 B.procs (bz 3 107 (dY 12 (λU=>(bL [Pv 1,Pv 2,Iv 13 J,Iv 14 U] [Xb 1 B,Xb 2 (⟨0,0⟩:aZ)])) (λO=>(12,(bL [Pv 1,Pv 2,Iv 13 J] [Xb 1 B,Xb 2 (⟨0,0⟩:aZ)]))) (λO=>(bL [Pv 2,Iv 3 10] [Xb 2 O])) (λU=>bP 8 λY _=>b7 2 Y.events (bz 3 118 (bC 19 λe _=>bP 1 λf _=>bP 3 λg _=>bz 3 134 a_ a_) a_)) (λO=>a_) (λO=>a_)) a_)) (λL=>a_) (λL=>a_))) (λC=>a_)) (λw=>a_)) (λu=>a_)))))
def qG(B:Trace):Lk Bool:=(dh B).bind λu=>some (u.2==0)
instance VC(B:Trace):Fc Sy cL (qG B):=Fc.M 6 [enc B] (cu 2 1 B (bC 6 λu _=>a_))
def qu(B:Event):Lk Bool:=some (B.kind==3)
instance Q3(B:Event):Fc Sy cL (qu B):=Fc.M 32 [enc B] (cu 2 1 B a_)
def si(D:Sl Int)(p1:Int):Lk (Sl Int):=(oc (Sl.row []:Sl Int) D).bind λu=>(Sl.kS u p1).bind λw=>(Sl.get u w).bind λz=>(Sl.kS u p1).bind λB=>(Sl.put u B (wrap .i64 (z+1):Int)).bind λC=>some C
instance W9(B:Sl Int)(p1:Int):Fc Sy cL (si B p1):=Fc.N 71 [enc B,.int .i64 p1] (zw 9 6 8 λw _=>kZ .i64 9 8 λz _=>rU 0 8 0 1 false (λu=>.int .i64 u) λu _=>kZ .i64 1 8 λC _=>Da 0 8 (.int .i64 (wrap .i64 (u+1))) λD _=>a_)
namespace mG
def bp(B:Sl Int)(D:Trace)(p5:Int):Lk (Fw Int Unit Unit):=bg (decide (p5<(len B))) ((idx B p5).bind λu=>(bg (decide (u<0)) (some true) ((idx B p5).bind λw=>(idx D.procs p5).bind λz=>some (decide (w>(len z.events)))):Lk Bool).bind λC=>bg C (some (.r ())) (some (.n (wrap .i64 (p5+1))))) (some (.x ()))
def W1(B:Sl Int)(p5:Int)(D:Trace):Lk Bool:=(bT (λq:Int=>bp B D q) p5).bind (Fw.elim (λe=>some true) (λe=>some false))
end mG
def mG(D:Trace)(B:Sl Int):Lk Bool:=bg ((len B)==(len D.procs)) (mG.W1 B 0 D) (some false)
open mG in
instance Xg(D:Trace)(B:Sl Int):Fc Sy cL (mG D B):=Fc.M 21 [enc D,enc B] (cu 2 2 D (b7 7 B (b7 2 D.procs (dA 3 11 (dY 11 (λw=>(bL [Cv 1 B,Pv 2,Iv 5 w] [Xb 2 D])) (λu=>(0,(bL [] []))) (λu=>(bL [Bv 4 false] [])) (λw=>b7 6 B (bz 3 15 (bP 9 λC _=>bZ 3 13 [23] 36 (bz 3 23 (bA 13) (bP 2 λG _=>bP 4 λz _=>b7 2 z.events (bA 2))) λI=>bz 2 36 a_ a_) a_)) (λu=>a_) (λu=>a_)) a_))))
namespace dU
def bV(B:Sl Int)(p5:Int)(D:Trace)(G:Int):Lk (Fw Int Unit Unit):=(idx B p5).bind λz=>bg (decide (G<z)) ((idx D.procs p5).bind λC=>(idx C.events G).bind λu=>bg (u.kind==3) ((dV D 2 u.message).bind λw=>(idx B w.proc).bind λI=>bg (decide (w.index>I)) (some (.r ())) (some (.n (wrap .i64 (G+1))))) (some (.n (wrap .i64 (G+1))))) (some (.x ()))
def W2(B:Sl Int)(p5 G:Int)(D:Trace):Lk (Fw Int Unit Unit):=(bT (λq:Int=>bV B p5 D q) G).bind (Fw.elim (λe=>some (.n (wrap .i64 (p5+1)))) (λe=>some (.r ())))
def bp(B:Sl Int)(D:Trace)(p5:Int):Lk (Fw Int Unit Unit):=bg (decide (p5<(len B))) (W2 B p5 0 D) (some (.x ()))
def W1(B:Sl Int)(p5:Int)(D:Trace):Lk Bool:=(bT (λq:Int=>bp B D q) p5).bind (Fw.elim (λe=>some true) (λe=>some false))
end dU
def dU(D:Trace)(B:Sl Int):Lk Bool:=dU.W1 B 0 D
open dU in
instance OF(D:Trace)(B:Sl Int):Fc Sy cL (dU D B):=Fc.M 22 [enc D,enc B] (cu 2 2 D (dY 11 (λu=>(bL [Cv 1 B,Pv 2,Iv 5 u] [Xb 2 D])) (λw=>(0,(bL [] []))) (λw=>(bL [Bv 4 false] [])) (λu=>b7 6 B (bz 3 12 (dY 12 (λC=>(bL [Cv 1 B,Pv 2,Iv 5 u,Iv 6 C] [Xb 2 D])) (λz=>(2,(bL [Cv 1 B,Pv 2,Iv 5 u] [Xb 2 D]))) (λz=>(bL [Bv 4 false] [])) (λC=>bP 7 λI _=>bz 4 20 (bP 10 λJ _=>bP 3 λG _=>oM 2 7 0 G (bz 9 34 (bC 6 λL _=>bP 11 λO _=>bz 4 46 a_ a_) a_)) a_) (λz=>a_) (λz=>a_)) a_)) (λw=>a_) (λw=>a_)))
def pq(B:Trace)(D:Sl Int):Lk Bool:=(mG B D).bind λu=>(bg u ((dU B D).bind λw=>some w) (some false):Lk Bool).bind λz=>some z
instance YF(B:Trace)(D:Sl Int):Fc Sy cL (pq B D):=Fc.M 7 [enc B,enc D] (cu 2 2 B (bC 7 λu _=>bZ 1 4 [1,2,8] 12 (bz 1 8 (bC 2 λw _=>bA 1) (bA 4)) λz=>a_))
namespace jt
def bp(G:Sl Int)(D:Trace)(B:Sl (Sl Int))(p6:Int):Lk (Fw ((Sl (Sl Int))×Int) (Sl (Sl Int)) Empty):=bg (decide (p6<(len G))) ((idx G p6).bind λu=>(idx D.procs p6).bind λw=>(bg (decide (u<(len w.events))) ((si G p6).bind λz=>(pq D z).bind λC=>some C) (some false):Lk Bool).bind λI=>bg I ((si G p6).bind λJ=>(ga B (J:Sl Int)).bind λL=>some (.n (L,wrap .i64 (p6+1)))) (some (.n (B,wrap .i64 (p6+1))))) (some (.x B))
def W1(G:Sl Int)(B:Sl (Sl Int))(p6:Int)(D:Trace):Lk (Sl (Sl Int)):=(bT (λq:(Sl (Sl Int))×Int=>bp G D q.1 q.2) (B,p6)).bind (Fw.elim (λe=>some e) (λe=>elim e))
end jt
def jt(B:Trace)(D:Sl Int):Lk (Sl (Sl Int)):=jt.W1 D (Sl.nil:Sl (Sl Int)) 0 B
open jt in
instance WX(B:Trace)(D:Sl Int):Fc Sy cL (jt B D):=Fc.N 55 [enc B,enc D] (cu 2 2 B (fN 17 (λu=>(bL [Cv 1 D,Pv 2,Ov 5,Iv 6 u.2] [Xb 2 B,Lb 2005 u.1])) (λw=>(0,(bL [Ov 5] [Lb 2005 w]))) (λu=>b7 7 D (bz 3 10 (bP 9 λI _=>bP 4 λC _=>b7 2 C.events (yE 2 6 [30,29] (λz=>(bL [Cv 1 D,Pv 2,Ov 5,Iv 6 u.2,Bv 10 true,Bv 31 z] [Xb 2 B,Lb 2005 u.1])) (bz 2 25 (bC 3 λJ _=>cZ 0 λL _=>bA 1) (bA 6)) λz=>bz 2 31 (bC 5 λG _=>zu 0 36 ([G]:L' (Sl Int)) (n_ 0 2005 36 37 λO _=>a_)) a_)) a_)) (λw=>a_)))
namespace gN
def bp(B:Sl Int)(D i4:Int):Lk (Fw (Int×Int) Int Empty):=bg (decide (i4<(len B))) ((idx B i4).bind λu=>some (.n (wrap .i64 (D+u),wrap .i64 (i4+1)))) (some (.x D))
def W1(B:Sl Int)(D i4:Int):Lk Int:=(bT (λq:Int×Int=>bp B q.1 q.2) (D,i4)).bind (Fw.elim (λe=>some e) (λe=>elim e))
end gN
def gN(B:Sl Int):Lk Int:=gN.W1 B 0 0
open gN in
instance WR(B:Sl Int):Fc Sy cL (gN B):=Fc.M 89 [enc B] (fN 18 (λu=>(bL [Cv 0 B,Iv 3 u.1,Iv 4 u.2] [])) (λw=>(0,(bL [Iv 3 w] []))) (λu=>b7 6 B (bz 3 8 (bP 9 λz _=>a_) a_)) (λw=>a_))
namespace hU
def bp(a0 D:Sl Int)(B:Int):Lk (Fw Int Unit Bool):=bg (decide (B<(len a0))) ((idx a0 B).bind λu=>(idx D B).bind λw=>bg (u==w) (some (.n (wrap .i64 (B+1)))) ((idx a0 B).bind λz=>(idx D B).bind λC=>some (.r (decide (z<C))))) (some (.x ()))
def W1(a0 B:Sl Int)(D:Int):Lk Bool:=(bT (λq:Int=>bp a0 B q) D).bind (Fw.elim (λe=>some false) (λe=>some e))
end hU
def hU(a0 B:Sl Int):Lk Bool:=(gN a0).bind λu=>(gN B).bind λw=>bg (u==w) (hU.W1 a0 B 0) ((gN a0).bind λz=>(gN B).bind λC=>some (decide (z<C)))
open hU in
instance T4(a0 B:Sl Int):Fc Sy cL (hU a0 B):=Fc.M 72 [enc a0,enc B] (bC 9 λz _=>bC 1 λC _=>dA 3 10 (dY 11 (λw=>(bL [Cv 0 a0,Cv 1 B,Iv 5 w] [])) (λu=>(0,(bL [] []))) (λu=>(bL [Bv 4 u] [])) (λw=>b7 6 a0 (bz 3 19 (bP 9 λD _=>bP 3 λG _=>dA 4 30 a_ (bP 5 λI _=>bP 3 λJ _=>a_)) a_)) (λu=>a_) (λu=>a_)) (bC 4 λL _=>bC 1 λO _=>a_))
namespace fF
def bp(a0 D:Sl Int)(B:Int):Lk (Fw Int Unit Unit):=bg (decide (B<(len a0))) ((idx a0 B).bind λu=>(idx D B).bind λw=>bg (u==w) (some (.n (wrap .i64 (B+1)))) (some (.r ()))) (some (.x ()))
def W1(a0 B:Sl Int)(D:Int):Lk Bool:=(bT (λq:Int=>bp a0 B q) D).bind (Fw.elim (λe=>some true) (λe=>some false))
end fF
def fF(a0 B:Sl Int):Lk Bool:=bg ((len a0)==(len B)) (fF.W1 a0 B 0) (some false)
open fF in
instance Q0(a0 B:Sl Int):Fc Sy cL (fF a0 B):=Fc.M 73 [enc a0,enc B] (b7 9 a0 (b7 1 B (dA 3 10 (dY 11 (λw=>(bL [Cv 0 a0,Cv 1 B,Iv 5 w] [])) (λu=>(0,(bL [] []))) (λu=>(bL [Bv 4 false] [])) (λw=>b7 6 a0 (bz 3 14 (bP 9 λz _=>bP 3 λC _=>dA 4 25 a_ a_) a_)) (λu=>a_) (λu=>a_)) a_)))
namespace ij
def bp(D:Sl (Sl Int))(G:Sl Int)(B:Int):Lk (Fw Int Int Empty):=(bg (decide (B<(len D))) ((idx D B).bind λu=>(hU u G).bind λw=>some w) (some false):Lk Bool).bind λz=>bg z (some (.n (wrap .i64 (B+1)))) (some (.x B))
def W1(B:Sl (Sl Int))(G:Sl Int)(D:Int):Lk (Sl (Sl Int)):=(bT (λq:Int=>bp B G q) D).bind (Fw.elim (λe=>(bg (decide (e<(len B))) ((idx B e).bind λz=>(fF z G).bind λC=>some C) (some false):Lk Bool).bind λI=>bg I (some B) ((gj B none (some e)).bind λJ=>(oc (Sl.row []:Sl (Sl Int)) J).bind λL=>(ga L (G:Sl Int)).bind λO=>(gj B (some e) none).bind λu=>(oc O u).bind λw=>some w)) (λe=>elim e))
end ij
def ij(B:Sl (Sl Int))(D:Sl Int):Lk (Sl (Sl Int)):=ij.W1 B D 0
open ij in
instance Ul(B:Sl (Sl Int))(D:Sl Int):Fc Sy cL (ij B D):=Fc.N 56 [enc B,enc D] (fN 13 (λw=>(bL [Cv 0 B,Cv 1 D,Iv 5 w] [])) (λu=>(0,(bL [Cv 0 B,Cv 1 D,Iv 5 u] []))) (λw=>b7 6 B (bZ 2 7 [11] 18 (bz 2 11 (bP 2 λG _=>bC 2 λI _=>bA 1) (bA 7)) λJ=>bz 2 18 a_ a_)) (λu=>b7 7 B (bZ 2 7 [25] 32 (bz 2 25 (bP 2 λL _=>bC 2 λO _=>bA 1) (bA 7)) λQ=>bz 2 32 a_ (zu 5 34 ([]:L' (Sl Int)) (BR 2 false true [.int .i64 u] λS _=>zw 0 34 38 λT _=>zu 7 41 ([D]:L' (Sl Int)) (n_ 0 38 41 42 λU _=>BR 8 true false [.int .i64 u] λz _=>zw 0 42 47 λC _=>a_))))))
namespace eT
def eU(D G:Sl (Sl Int))(W:Int)(J:Sl (Sl Int))(U:Trace)(B:Sl (Sl Int))(k9:Int):Lk (Fw ((Sl (Sl Int))×Int) (Sl (Sl Int)) Empty):=bg (decide (k9<(len J))) ((idx J k9).bind λu=>(ij B u).bind λw=>some (.n (w,wrap .i64 (k9+1)))) (some (.x B))
def W3(B G D:Sl (Sl Int))(U:Int)(W:Sl (Sl Int))(k9:Int)(J:Trace):Lk (Fw ((Sl (Sl Int))×Int) (Sl (Sl Int)) Empty):=(bT (λq:(Sl (Sl Int))×Int=>eU B G U W J q.1 q.2) (D,k9)).bind (Fw.elim (λe=>some (.n (e,wrap .i64 (U+1)))) (λe=>elim e))
def bV(B G:Sl (Sl Int))(J:Trace)(D:Sl (Sl Int))(U:Int):Lk (Fw ((Sl (Sl Int))×Int) (Sl (Sl Int)) Empty):=bg (decide (U<(len B))) ((idx B U).bind λu=>(jt J u).bind λw=>W3 B G D U w 0 J) (some (.x D))
def W2(B D G:Sl (Sl Int))(U:Int)(J:Trace):Lk (Fw ((Sl (Sl Int))×(Sl (Sl Int))) (Sl (Sl Int)) Unit):=(bT (λq:(Sl (Sl Int))×Int=>bV B D J q.1 q.2) (G,U)).bind (Fw.elim (λe=>some (.n (e,D))) (λe=>elim e))
def bp(G:Trace)(B D:Sl (Sl Int)):Lk (Fw ((Sl (Sl Int))×(Sl (Sl Int))) (Sl (Sl Int)) Unit):=bg (decide ((len B)>0)) ((oc D B).bind λu=>bg (decide ((len u)>5000)) (some (.r ())) (W2 B u (Sl.nil:Sl (Sl Int)) 0 G)) (some (.x D))
def W1(B D:Sl (Sl Int))(G:Trace):Lk ((Sl (Sl Int))×Bool):=(bT (λq:(Sl (Sl Int))×(Sl (Sl Int))=>bp G q.1 q.2) (B,D)).bind (Fw.elim (λe=>some (e,true)) (λe=>some ((Sl.nil:Sl (Sl Int)),false)))
end eT
def eT(B:Trace):Lk ((Sl (Sl Int))×Bool):=(tV (len B.procs) (0:Int)).bind λu=>eT.W1 (Sl.row [u]:Sl (Sl Int)) (Sl.nil:Sl (Sl Int)) B
open eT in
instance WM(B:Trace):Fc Sy cL (eT B):=Fc.N 33 [enc B] (cu 2 1 B (b7 8 B.procs (UF 0 13 λL _=>zu 1 14 ([L]:L' (Sl Int)) (dY 13 (λu=>(bL [Pv 1,Cv 4 u.1,Ov 5] [Xb 1 B,Lb 2005 u.2])) (λC=>(0,(bL [Ov 5] [Lb 2005 C]))) (λC=>(bL [Ov 2,Bv 3 false] [Lb 2002 (Sl.nil:Sl (Sl Int))])) (λu=>b7 7 u.1 (bz 3 17 (zw 8 2005 20 λw _=>E6 7 20 w (bz 3 23 a_ (fN 18 (λz=>(bL [Pv 1,Cv 4 u.1,Ov 5,Cv 6 z.1,Iv 7 z.2] [Xb 1 B,Lb 2005 w])) (λG=>(2,(bL [Pv 1,Ov 5,Cv 6 G] [Xb 1 B,Lb 2005 w]))) (λz=>b7 8 u.1 (bz 3 27 (bP 10 λO _=>bC 1 λI _=>fN 12 (λD=>(bL [Pv 1,Cv 4 u.1,Ov 5,Cv 6 D.1,Iv 7 z.2,Cv 8 I,Iv 9 D.2] [Xb 1 B,Lb 2005 w])) (λJ=>(4,(bL [Pv 1,Cv 4 u.1,Ov 5,Cv 6 J,Iv 7 z.2] [Xb 1 B,Lb 2005 w]))) (λD=>b7 8 I (bz 3 39 (bP 9 λQ _=>bC 1 λS _=>a_) a_)) (λJ=>a_)) a_)) (λG=>a_)))) a_)) (λC=>a_) (λC=>a_)))))
namespace fe
def bV(G:Sl bU)(J:Int)(B D:Int):Lk (Fw (Int×Int) Int Unit):=bg (decide (D<J)) ((idx G D).bind λu=>(gw u.events (λz=>qu z)).bind λw=>bg w (some (.r ())) (some (.n (wrap .i64 (B*(wrap .i64 ((len u.events)+1))),wrap .i64 (D+1))))) (some (.x B))
def W2(B:Int)(D:Sl bU)(G J:Int):Lk Bool:=(bT (λq:Int×Int=>bV D G q.1 q.2) (B,J)).bind (Fw.elim (λe=>some (decide (e>5000))) (λe=>some false))
def bp(D:Sl bU)(G:Int)(U:Trace)(J B:Int):Lk (Fw (Int×Int) Int Unit):=bg (decide (B<G)) ((idx D B).bind λu=>(bg (decide ((len u.vars)>12)) (some true) ((gw u.events (λz=>qv z)).bind λw=>some w):Lk Bool).bind λC=>bg C (some (.r ())) (some (.n (wrap .i64 (J+(len u.events)),wrap .i64 (B+1))))) (some (.x J))
def W1(U:Int)(D:Sl bU)(G J:Int)(B:Trace):Lk Bool:=(bT (λq:Int×Int=>bp D G B q.1 q.2) (U,J)).bind (Fw.elim (λe=>bg (decide (e>60)) (some false) ((qG B).bind λw=>bg w (bg (decide (e>24)) (fe.W2 1 B.procs (len B.procs) 0) ((eT B).bind λu=>(bg u.2 (some (decide ((len u.1)<=250))) (some true):Lk Bool).bind λz=>some z)) (some true))) (λe=>some false))
end fe
def fe(B:Trace):Lk Bool:=bg (decide ((len B.procs)>10)) (some false) (fe.W1 0 B.procs (len B.procs) 0 B)
open fe in
instance Wr(B:Trace):Fc Sy cL (fe B):=Fc.M 17 [enc B] (cu 2 1 B (b7 8 B.procs (bz 3 14 a_ (b7 13 B.procs (dY 5 (λD=>(bL [Pv 1,Iv 3 D.1,Cv 16 B.procs,Iv 17 (len B.procs),Iv 18 D.2] [Xb 1 B])) (λu=>(0,(bL [Pv 1,Iv 3 u] [Xb 1 B]))) (λu=>(bL [Bv 2 false] [])) (λD=>bz 7 19 (bP 7 λw _=>oM 2 5 0 w (b7 7 w.events (b7 8 w.vars (bZ 2 4 [5,31] 35 (bz 2 31 (bA 4) (bC (F:=lI 31 [] (λz=>qv z) lS.rQ w.events) 2 λL _=>bA 1)) λO=>bz 2 35 a_ a_)))) a_) (λu=>bz 9 38 a_ (bC 7 λQ _=>dA 3 41 (bz 10 43 (b7 11 B.procs (dY 5 (λG=>(bL [Iv 6 G.1,Cv 45 B.procs,Iv 46 (len B.procs),Iv 47 G.2] [])) (λC=>(2,(bL [Iv 6 C] []))) (λC=>(bL [Bv 2 false] [])) (λG=>bz 7 48 (bP 7 λI _=>oM 2 8 0 I (b7 7 I.events (bC (F:=lI 32 [] (λz=>qu z) lS.rQ I.events) 9 λS _=>bz 2 59 a_ a_))) a_) (λC=>a_) (λC=>a_))) (bC 6 λJ _=>bZ 12 4 [9,70] 74 (dA 12 70 (b7 1 J.1 (bA 2)) (bA 4)) λT=>a_)) a_)) (λu=>a_))))))
def jY(D:Pred)(G B:Int)(r:(Pred×Int×Int)->Lk (Bool×Int)):Lk (Bool×Int):=(r (D,B,wrap .i64 (G+1))).bind λu=>some ((!u.1),u.2)
abbrev DM(r:(Pred×Int×Int)->Lk (Bool×Int))(a:xP Sy cL 18 (λz:Pred×Int×Int=>[cv z.1,.ptr 9002 0,iv z.2.2]) (λz:Pred×Int×Int=>[(9002,bx (z.2.1:Int))]) (λr:Bool×Int=>[.bool r.1]) (λ(z:Pred×Int×Int)(r:Bool×Int)=>[(9002,bx (r.2:Int))]) r)(D:Pred)(G B:Int):nO Sy cL (jY D G B r):=nO.mk' 35 [cv D,.ptr 9001 0,.v (.fptr (cells G))] [(9001,.box [.ptr 9002 0]),(9002,bx (B:Int))] (λr:Bool×Int=>[.bool r.1]) (λr:Bool×Int=>[(9001,.box [.ptr 9002 0]),(9002,bx (r.2:Int))]) (cu 2 3 D (tJ 9 (nO.of (D,B,wrap .i64 (G+1)) a) λu _=>a_))
section
variable{σ:Type}{gf:FuncId}{ex:L' SV}{os:σ->dD}{p:Pred->σ->Lk (Bool×σ)}(h:yj Sy cL (.clo gf [] ex) gf ex os p)(s0:Sl Pred)(x:σ)
abbrev vN:nO Sy cL (RY s0 p x):=nO.mk' 57 [cv s0,(.clo gf [] ex)] (os x) (λr=>[.int .i64 r.1]) (λr=>os r.2) (b7 9 s0 (dY 5 (λq=>⟨[Cv 0 s0,(1,(.clo gf [] ex)),Iv 7 (len s0),Iv 8 q.1],os q.2,(os x).map (·.1),[],true,0⟩) (λe=>(0,⟨[],os e,(os x).map (·.1),[],true,0⟩)) (λe=>⟨[Iv 4 e.1],os e.2,(os x).map (·.1),[],true,0⟩) (λq=>bz 7 9 (bP 16 λy _=>P9 1 h y q.2 λr _=>bz 2 16 a_ a_) a_) (λe=>Ig 9 h [.int .i64 (-1)] rfl) (λe=>Le.of_eq (JO h (ys:=[.int .i64 e.1]) Zad rfl)))) (hp:=λr=>h.wi x r.2)
abbrev pP:nO Sy cL (zK s0 p x):=nO.mk' 34 [cv s0,(.clo gf [] ex)] (os x) (λr=>[.bool r.1]) (λr=>os r.2) (L6 9 (vN h s0 x) (h.hd x (enc s0)) (λr=>h.put x r.2) λy _=>Ig 5 h [.bool (decide (y.1>=0))] rfl) (hp:=λr=>h.wi x r.2)
end
section
variable{σ:Type}{gf:FuncId}{ex:L' V}{os:σ->dD}{p:Pred->σ->Lk (Bool×σ)}(h:yj Sy cL (.v (.clo gf [] ex)) gf (ex.map .v) os p)(s0:Sl Pred)(x:σ)
abbrev vB:nO Sy cL (RY s0 p x):=nO.mk' 57 [cv s0,(.v (.clo gf [] ex))] (os x) (λr=>[.int .i64 r.1]) (λr=>os r.2) (b7 9 s0 (dY 5 (λq=>⟨[Cv 0 s0,(1,(.v (.clo gf [] ex))),Iv 7 (len s0),Iv 8 q.1],os q.2,(os x).map (·.1),[],true,0⟩) (λe=>(0,⟨[],os e,(os x).map (·.1),[],true,0⟩)) (λe=>⟨[Iv 4 e.1],os e.2,(os x).map (·.1),[],true,0⟩) (λq=>bz 7 9 (bP 16 λy _=>P9 1 h y q.2 λr _=>bz 2 16 a_ a_) a_) (λe=>Ig 9 h [.int .i64 (-1)] rfl) (λe=>Le.of_eq (JO h (ys:=[.int .i64 e.1]) Zad rfl)))) (hp:=λr=>h.wi x r.2)
abbrev mb:nO Sy cL (zK s0 p x):=nO.mk' 34 [cv s0,(.v (.clo gf [] ex))] (os x) (λr=>[.bool r.1]) (λr=>os r.2) (L6 9 (vB h s0 x) (h.hd x (enc s0)) (λr=>h.put x r.2) λy _=>Ig 5 h [.bool (decide (y.1>=0))] rfl) (hp:=λr=>h.wi x r.2)
end
def jO(G:Pred)(B D:Int)(r:(Pred×Int×Int)->Lk (Bool×Int)):Lk (Bool×Int):=(bg (decide ((wrap .i64 (B-1))>=0)) (some (decide (D<=60))) (some false):Lk Bool).bind λz=>(bg z (some (decide (((ByteArray.size G.name:Nat):Int)<=100))) (some false):Lk Bool).bind λC=>(bg C ((zK G.l (λx s=>jY x D s r) (wrap .i64 (B-1))).bind λu=>some ((!u.1),u.2)) (some (false,wrap .i64 (B-1))):Lk (Bool×Int)).bind λw=>some (w.1,w.2)
theorem De(r:(Pred×Int×Int)->Lk (Bool×Int))(a:xP Sy cL 18 (λz:Pred×Int×Int=>[cv z.1,.ptr 9002 0,iv z.2.2]) (λz:Pred×Int×Int=>[(9002,bx (z.2.1:Int))]) (λr:Bool×Int=>[.bool r.1]) (λ(z:Pred×Int×Int)(r:Bool×Int)=>[(9002,bx (r.2:Int))]) r)(G:Pred)(D B:Int):∀J,jO G D B r=some J->∃m',cL 18 [cv G,.ptr 9002 0,iv B] [(9002,bx (D:Int))]=some (((λr:Bool×Int=>[.bool r.1]) J).map .v,m')/\∀U,lp m' ([(9002,bx (D:Int))].map (·.1)) U=some (pH U ((λr:Bool×Int=>[(9002,bx (r.2:Int))]) J)):=(nO.mk' 18 [cv G,.ptr 9002 0,iv B] [(9002,bx (D:Int))] (λr:Bool×Int=>[.bool r.1]) (λr:Bool×Int=>[(9002,bx (r.2:Int))]) (cu 2 3 G (bZ 22 3 [16] 19 (bz 22 16 (bA 3) (bA 3)) λw=>bZ 1 5 [20] 25 (bz 1 20 (bA 5) (bA 5)) λC=>yE 1 6 [] (λu=>⟨[Bv 32 u.1],[(9002,.box [iv u.2]),Xb 3 G,(9001,.box [.ptr 9002 0])],[9002],[],true,0⟩) (bz 1 26 (jv 2 28 (Pred.mq G.l) (tJ 3 (pP (yj.ZY (σ:=Int) (g:=35) (e:=[.ptr 9001 0,cp B]) (os:=λs=>[(9001,.box [.ptr 9002 0]),(9002,bx (s:Int))]) (p:=(λx s=>jY x B s r)) (λx s=>DM r a x B s)) G.l (wrap .i64 (D-1))) λI _=>bA 2)) (bA 8)) λu=>a_)):nO Sy cL (jO G D B r)).h
def yN(G:Pred)(D B:Int):Lk (Bool×Int):=g_ (λr(z:Pred×Int×Int)=>jO z.1 z.2.1 z.2.2 r) 100000 (G,D,B)
abbrev HO(G:Pred)(D B:Int):nO Sy cL (yN G D B):=nO.of (G,D,B) (xP.fix (A:=λz:Pred×Int×Int=>[cv z.1,.ptr 9002 0,iv z.2.2]) (O:=λz:Pred×Int×Int=>[(9002,bx (z.2.1:Int))]) (E:=λr:Bool×Int=>[.bool r.1]) (M:=λ(z:Pred×Int×Int)(r:Bool×Int)=>[(9002,bx (r.2:Int))]) (b:=(λr(z:Pred×Int×Int)=>jO z.1 z.2.1 z.2.2 r)) Zad Zad Zad (λr a z=>De r a z.1 z.2.1 z.2.2) 100000)
namespace kG
def bp(B:Int)(D:Pred)(G J:Int)(r:(Pred×Int)->Lk Int):Lk (Fw (Int×Int) Int Empty):=(bg (decide (J<(len D.l))) (some (decide (G<=B))) (some false):Lk Bool).bind λu=>bg u ((idx D.l J).bind λw=>(r (w,wrap .i64 (B-G))).bind λz=>some (.n (wrap .i64 (G+z),wrap .i64 (J+1)))) (some (.x G))
def W1(B G J:Int)(D:Pred)(r:(Pred×Int)->Lk Int):Lk Int:=(bT (λq:Int×Int=>bp B D q.1 q.2 r) (G,J)).bind (Fw.elim (λe=>some e) (λe=>elim e))
end kG
def ja(D:Pred)(B:Int)(r:(Pred×Int)->Lk Int):Lk Int:=kG.W1 B 1 0 D r
open kG in
theorem CB(r:(Pred×Int)->Lk Int)(a:gT Sy cL 36 (λz:Pred×Int=>[enc z.1,.int .i64 z.2]) (λr:Int=>[.int .i64 r]) r true)(D:Pred)(B:Int):Le ((ja D B r).bind λr=>some [.int .i64 r]) (jK cL 36 [enc D,.int .i64 B]):=(Fc.M 36 [enc D,.int .i64 B] (cu 2 2 D (fN 16 (λu=>(bL [Iv 1 B,Pv 2,Iv 5 u.1,Iv 6 u.2] [Xb 2 D])) (λw=>(0,(bL [Iv 5 w] []))) (λu=>jv 7 9 (Pred.mq D.l) (b7 0 D.l (bZ 2 4 [12] 16 (bz 2 12 (bA 4) (bA 4)) λG=>bz 2 16 (jv 9 21 (Pred.mq D.l) (bP 1 λC _=>bC (F:=Fc.of (C,wrap .i64 (B-u.1)) a) 4 λI _=>a_)) a_))) (λw=>a_))):Fc Sy cL (ja D B r)).F.h ()
def kG(D:Pred)(B:Int):Lk Int:=g_ (λr(z:Pred×Int)=>ja z.1 z.2 r) 100000 (D,B)
instance U0(D:Pred)(B:Int):Fc Sy cL (kG D B):=Fc.of (D,B) (gT.fix (A:=λz:Pred×Int=>[enc z.1,.int .i64 z.2]) (E:=λr:Int=>[.int .i64 r]) (sc:=true) (b:=(λr(z:Pred×Int)=>ja z.1 z.2 r)) Zad (λ_ _=>rfl) (λr a z=>CB r a z.1 z.2) 100000)
def sn(B:Pred):Lk Int:=(kG B 200).bind λu=>some (if 201<u then 201 else u)
instance WW(B:Pred):Fc Sy cL (sn B):=Fc.M 19 [enc B] (cu 2 1 B (bC 6 λu _=>a_))
def wC(J:Trace)(p1:Pred):Lk Bool:=(fe J).bind λw=>(bg w ((yN p1 300 0).bind λu=>some (u.1,u.2)) (some (false,300)):Lk (Bool×Int)).bind λz=>(bg z.1 ((sn p1).bind λB=>(bg (decide (B<=100)) (some true) ((sn p1).bind λC=>some (decide (C>200))):Lk Bool).bind λD=>some D) (some false):Lk Bool).bind λG=>some G
instance XC(B:Trace)(p1:Pred):Fc Sy cL (wC B p1):=Fc.M 5 [enc B,enc p1] (cu 2 2 B (cu 0 3 p1 (bC 12 λw _=>yE 1 3 [] (λu=>(bL [Pv 3,Bv 11 u.1] [Xb 2 B,Xb 3 p1,(9002,.box [iv u.2])])) (bz 1 8 (tJ 2 (HO p1 300 0) λz _=>bA 1) (bA 4)) λu=>bZ 1 9 [3,12] 21 (bz 1 12 (bC 1 λC _=>bZ 2 4 [3,16] 20 (bz 2 16 (bA 4) (bC 1 λD _=>bA 2)) λG=>bA 1) (bA 9)) λI=>a_)))
namespace jI
def bp(a0 G:Sl Int)(B:Sl Int)(D:Int):Lk (Fw ((Sl Int)×Int) (Sl Int) Empty):=bg (decide (D<(len a0))) ((idx a0 D).bind λu=>(idx G D).bind λw=>(ga B ((if w>u then w else u):Int)).bind λz=>some (.n (z,wrap .i64 (D+1)))) (some (.x B))
def W1(a0 D B:Sl Int)(G:Int):Lk (Sl Int):=(bT (λq:(Sl Int)×Int=>bp a0 D q.1 q.2) (B,G)).bind (Fw.elim (λe=>some e) (λe=>elim e))
end jI
def jI(a0 B:Sl Int):Lk (Sl Int):=jI.W1 a0 B (Sl.nil:Sl Int) 0
open jI in
instance WU(a0 B:Sl Int):Fc Sy cL (jI a0 B):=Fc.N 8 [enc a0,enc B] (fN 19 (λu=>(bL [Cv 0 a0,Cv 1 B,Ov 5,Iv 6 u.2] [Lb 2005 u.1])) (λw=>(0,(bL [Ov 5] [Lb 2005 w]))) (λu=>b7 7 a0 (bz 3 10 (bP 9 λz _=>bP 3 λC _=>n_ 3 2005 23 24 λD _=>a_) a_)) (λw=>a_))
def ov(G D B:Int):Lk Bool:=(bg (decide (G>=D)) (some (decide (G<=B))) (some false):Lk Bool).bind λu=>some u
instance Y9(G D B:Int):Fc Sy cL (ov G D B):=Fc.M 128 [.int .i64 G,.int .i64 D,.int .i64 B] (bZ 11 4 [0,2,10] 14 (bz 11 10 (bA 4) (bA 4)) λu=>a_)
def qW(B:Int):Lk Bool:=(bg (decide (B>=97)) (some (decide (B<=122))) (some false):Lk Bool).bind λu=>(bg u (some true) ((bg (decide (B>=65)) (some (decide (B<=90))) (some false):Lk Bool).bind λw=>some w):Lk Bool).bind λz=>some z
instance VX(B:Int):Fc Sy cL (qW B):=Fc.M 174 [.int .u8 B] (bZ 10 3 [5] 8 (bz 10 5 (bA 3) (bA 3)) λu=>bZ 1 7 [0,9] 16 (bz 1 9 (bA 7) (bZ 3 3 [0,12] 15 (bz 3 12 (bA 3) (bA 3)) λw=>bA 1)) λz=>a_)
def u6(B:Int):Lk Bool:=(bg (decide (B>=48)) (some (decide (B<=57))) (some false):Lk Bool).bind λu=>some u
instance WS(B:Int):Fc Sy cL (u6 B):=Fc.M 175 [.int .u8 B] (bZ 10 3 [0,5] 8 (bz 10 5 (bA 3) (bA 3)) λu=>a_)
namespace gL
def bp(s0:ByteArray)(D:Int)(B:Int):Lk (Fw Int Unit Unit):=bg (decide (B<D)) ((lR s0 B).bind λz=>(qW z).bind λC=>(bg C (some false) ((lR s0 B).bind λG=>(u6 G).bind λI=>some (!I)):Lk Bool).bind λJ=>(bg J ((lR s0 B).bind λu=>some (!(u==95))) (some false):Lk Bool).bind λw=>bg w (some (.r ())) (some (.n (wrap .i64 (B+1))))) (some (.x ()))
def W1(s0:ByteArray)(B D:Int):Lk Bool:=(bT (λq:Int=>bp s0 B q) D).bind (Fw.elim (λe=>some true) (λe=>some false))
end gL
def gL(s0:ByteArray):Lk Bool:=(bg (toList s0==toList ByteArray.empty) (some true) (some (decide (((ByteArray.size s0:Nat):Int)>16))):Lk Bool).bind λu=>(bg u (some true) ((lR s0 0).bind λw=>(qW w).bind λz=>some (!z)):Lk Bool).bind λB=>bg B (some false) (gL.W1 s0 ((ByteArray.size s0:Nat):Int) 0)
open gL in
instance Ws(s0:ByteArray):Fc Sy cL (gL s0):=Fc.M 148 [.str s0] (bZ 11 4 [6] 10 (bz 11 6 (bA 4) (bA 4)) λC=>bZ 1 5 [11] 16 (bz 1 11 (bA 5) (Bp 1 .i64 λD _=>bC 0 λG _=>bA 2)) λI=>bz 2 16 a_ (dY 13 (λw=>(bL [(0,.v (.str s0)),Iv 18 ((ByteArray.size s0:Nat):Int),Iv 19 w] [])) (λu=>(0,(bL [] []))) (λu=>(bL [Bv 2 false] [])) (λw=>bz 7 20 (Bp 15 .i64 λJ _=>bC 0 λL _=>bZ 2 6 [27] 33 (dA 2 27 (bA 6) (Bp 2 .i64 λO _=>bC 0 λQ _=>bA 2)) λS=>bZ 1 5 [3,34] 39 (bz 1 34 (Bp 2 .i64 λz _=>bA 2) (bA 5)) λB=>bz 2 39 a_ a_) a_) (λu=>a_) (λu=>a_)))
def j9(B D:bU):Lk Bool:=some (toList B.name==toList D.name)
instance KU(B D:bU):Fc Sy cL (j9 B D):=Fc.M 150 [enc B,.fptr (cells D)] (cu 2 2 B a_)
namespace gM
def bp(s0:Sl bU)(D:Int)(B:Int)(p1:bU->Lk Bool):Lk (Fw Int Unit Int):=bg (decide (B<D)) ((idx s0 B).bind λu=>(p1 u).bind λw=>bg w (some (.r B)) (some (.n (wrap .i64 (B+1))))) (some (.x ()))
def W1(s0:Sl bU)(B D:Int)(p1:bU->Lk Bool):Lk Int:=(bT (λq:Int=>bp s0 B q p1) D).bind (Fw.elim (λe=>some (-1)) (λe=>some e))
end gM
def gM(s0:Sl bU)(p1:bU->Lk Bool):Lk Int:=gM.W1 s0 (len s0) 0 p1
open gM in
abbrev xR(g1:FuncId)(e1:L' V)(p1:bU->Lk Bool)(a:lS Sy cL g1 [] e1 (λz:bU=>[enc z]) (λr:Bool=>[.bool r]) p1 true)(s0:Sl bU):Fc Sy cL (gM s0 p1):=Fc.M 176 [enc s0,.clo g1 [] e1] (b7 9 s0 (dY 5 (λw=>(bL [Cv 0 s0,(1,.v (.clo g1 [] e1)),Iv 7 (len s0),Iv 8 w] [])) (λu=>(0,(bL [] []))) (λu=>(bL [Iv 4 u] [])) (λw=>bz 7 9 (bP 16 λB _=>yw 1 a.f B λC _=>bz 2 16 a_ a_) a_) (λu=>a_) (λu=>a_)))
def iW(s0:Sl bU)(p1:bU->Lk Bool):Lk Bool:=(gM s0 p1).bind λu=>some (decide (u>=0))
abbrev v7(g1:FuncId)(e1:L' V)(p1:bU->Lk Bool)(a:lS Sy cL g1 [] e1 (λz:bU=>[enc z]) (λr:Bool=>[.bool r]) p1 true)(s0:Sl bU):Fc Sy cL (iW s0 p1):=Fc.M 149 [enc s0,.clo g1 [] e1] (bC (F:=xR g1 e1 p1 a s0) 9 λu _=>a_)
def j7(B D:Var):Lk Bool:=some (toList B.name==toList D.name)
instance KS(B D:Var):Fc Sy cL (j7 B D):=Fc.M 151 [enc B,.fptr (cells D)] (a_)
namespace fA
def bp(s0:Sl Var)(D:Int)(B:Int)(p1:Var->Lk Bool):Lk (Fw Int Unit Int):=bg (decide (B<D)) ((idx s0 B).bind λu=>(p1 u).bind λw=>bg w (some (.r B)) (some (.n (wrap .i64 (B+1))))) (some (.x ()))
def W1(s0:Sl Var)(B D:Int)(p1:Var->Lk Bool):Lk Int:=(bT (λq:Int=>bp s0 B q p1) D).bind (Fw.elim (λe=>some (-1)) (λe=>some e))
end fA
def fA(s0:Sl Var)(p1:Var->Lk Bool):Lk Int:=fA.W1 s0 (len s0) 0 p1
open fA in
abbrev oe(g1:FuncId)(e1:L' V)(p1:Var->Lk Bool)(a:lS Sy cL g1 [] e1 (λz:Var=>[enc z]) (λr:Bool=>[.bool r]) p1 true)(s0:Sl Var):Fc Sy cL (fA s0 p1):=Fc.M 142 [enc s0,.clo g1 [] e1] (b7 9 s0 (dY 5 (λw=>(bL [Cv 0 s0,(1,.v (.clo g1 [] e1)),Iv 7 (len s0),Iv 8 w] [])) (λu=>(0,(bL [] []))) (λu=>(bL [Iv 4 u] [])) (λw=>bz 7 9 (bP 16 λB _=>yw 1 a.f B λC _=>bz 2 16 a_ a_) a_) (λu=>a_) (λu=>a_)))
def gU(s0:Sl Var)(p1:Var->Lk Bool):Lk Bool:=(fA s0 p1).bind λu=>some (decide (u>=0))
abbrev ql(g1:FuncId)(e1:L' V)(p1:Var->Lk Bool)(a:lS Sy cL g1 [] e1 (λz:Var=>[enc z]) (λr:Bool=>[.bool r]) p1 true)(s0:Sl Var):Fc Sy cL (gU s0 p1):=Fc.M 135 [enc s0,.clo g1 [] e1] (bC (F:=oe g1 e1 p1 a s0) 9 λu _=>a_)
namespace eV
def bp(D:Sl Var)(G:Int)(J:bU)(B:Int):Lk (Fw Int Unit Int):=bg (decide (B<G)) ((idx D B).bind λu=>(gL u.name).bind λI=>(bg I ((gj J.vars none (some B)).bind λL=>(gU L (λz=>j7 z u)).bind λO=>some O) (some true):Lk Bool).bind λw=>bg w (some (.r 13)) ((ov u.init_ (-1073741824) 1073741824).bind λC=>bg C (some (.n (wrap .i64 (B+1)))) (some (.r 2)))) (some (.x ()))
def W1(D:Sl Var)(G J:Int)(B:bU):Lk Int:=(bT (λq:Int=>bp D G B q) J).bind (Fw.elim (λe=>bg (decide ((len B.events)>64)) (some 5) (some 0)) (λe=>some e))
end eV
def eV(G:Trace)(p1:Int):Lk Int:=(idx G.procs p1).bind λu=>(gL u.name).bind λw=>(bg w ((gj G.procs none (some p1)).bind λB=>(iW B (λz=>j9 z u)).bind λC=>some C) (some true):Lk Bool).bind λD=>bg D (some 13) (bg (decide ((len u.vars)>8)) (some 5) (eV.W1 u.vars (len u.vars) 0 u))
open eV in
instance MJ(D:Trace)(p1:Int):Fc Sy cL (eV D p1):=Fc.M 129 [enc D,.int .i64 p1] (cu 2 2 D (bP 8 λu _=>oM 2 5 0 u (bC 8 λO _=>bZ 2 7 [1,2,18] 25 (dA 2 18 (BR 3 false true [.int .i64 p1] λG _=>cZ (F:=v7 150 [.fptr (cells u)] (λz=>j9 z u) lS.rQ G) 1 λQ _=>bA 1) (bA 7)) λS=>bz 3 13 a_ (b7 5 u.vars (bz 4 26 a_ (b7 9 u.vars (dY 5 (λB=>(bL [Pv 5,Cv 32 u.vars,Iv 33 (len u.vars),Iv 34 B] [Xb 5 u])) (λw=>(1,(bL [Pv 5] [Xb 5 u]))) (λw=>(bL [Iv 4 w] [])) (λB=>bz 7 35 (bP 8 λC _=>bC 11 λT _=>bZ 2 7 [6,44] 51 (dA 2 44 (BR 3 false true [.int .i64 B] λI _=>cZ (F:=ql 151 [.fptr (cells C)] (λz=>j7 z C) lS.rQ I) 1 λU _=>bA 1) (bA 7)) λJ=>bz 3 39 a_ (bC 5 λL _=>dA 4 52 a_ a_)) a_) (λw=>b7 7 u.events (bz 3 61 a_ a_)) (λw=>a_))))))))
def jD(B:Trace):Lk Trace:=some B
instance V6(B:Trace):Fc Sy cL (jD B):=Fc.NE (λr:Trace=>[(.clo 152 [] [.fptr (cells r)])]) 130 [enc B] (cu 2 1 B a_)
namespace iO
def J1(p1:Int)(D:Bool)(G:Trace)(B:Event):Lk Bool:=bg D ((ov B.peer 0 (wrap .i64 ((len G.procs)-1))).bind λu=>(bg u (some (!(B.peer==p1))) (some false):Lk Bool).bind λw=>(bg w ((ov B.message 0 199).bind λz=>some z) (some false):Lk Bool).bind λC=>some C) (some false)
end iO
def iO(B:Trace)(p1:Int)(e2:Event):Lk Bool:=bg (e2.kind==1) ((bg (e2.peer==0) (some (e2.message==0)) (some false):Lk Bool).bind λu=>some u) (bg (e2.kind==2) (iO.J1 p1 true B e2) (iO.J1 p1 (e2.kind==3) B e2))
open iO in
instance V_(B:Trace)(p1:Int)(e2:Event):Fc Sy cL (iO B p1 e2):=Fc.M 153 [enc B,.int .i64 p1,enc e2] (cu 2 3 B (cu 0 5 e2 (bz 17 9 (bZ 7 4 [5,14] 18 (bz 7 14 (bA 4) (bA 4)) λD=>a_) (bz 8 19 (tI 4 (bz 0 19 (b7 7 B.procs (bC 1 λu _=>bZ 1 5 [1,29] 34 (bz 1 29 (bA 5) (bA 5)) λw=>bZ 1 4 [5,35] 39 (bz 1 35 (bC 2 λz _=>bA 1) (bA 4)) λC=>a_)) a_)) (tI 7 (bz 0 19 (b7 7 B.procs (bC 1 λu _=>bZ 1 5 [1,29] 34 (bz 1 29 (bA 5) (bA 5)) λw=>bZ 1 4 [5,35] 39 (bz 1 35 (bC 2 λz _=>bA 1) (bA 4)) λC=>a_)) a_))))))
def kX(B D:Assign):Lk Bool:=some (B.var==D.var)
instance Mr(B D:Assign):Fc Sy cL (kX B D):=Fc.M 155 [enc B,.fptr (cells D)] (a_)
namespace fQ
def bp(s0:Sl Assign)(D:Int)(B:Int)(p1:Assign->Lk Bool):Lk (Fw Int Unit Int):=bg (decide (B<D)) ((idx s0 B).bind λu=>(p1 u).bind λw=>bg w (some (.r B)) (some (.n (wrap .i64 (B+1))))) (some (.x ()))
def W1(s0:Sl Assign)(B D:Int)(p1:Assign->Lk Bool):Lk Int:=(bT (λq:Int=>bp s0 B q p1) D).bind (Fw.elim (λe=>some (-1)) (λe=>some e))
end fQ
def fQ(s0:Sl Assign)(p1:Assign->Lk Bool):Lk Int:=fQ.W1 s0 (len s0) 0 p1
open fQ in
abbrev wS(g1:FuncId)(e1:L' V)(p1:Assign->Lk Bool)(a:lS Sy cL g1 [] e1 (λz:Assign=>[enc z]) (λr:Bool=>[.bool r]) p1 true)(s0:Sl Assign):Fc Sy cL (fQ s0 p1):=Fc.M 177 [enc s0,.clo g1 [] e1] (b7 9 s0 (dY 5 (λw=>(bL [Cv 0 s0,(1,.v (.clo g1 [] e1)),Iv 7 (len s0),Iv 8 w] [])) (λu=>(0,(bL [] []))) (λu=>(bL [Iv 4 u] [])) (λw=>bz 7 9 (bP 16 λB _=>yw 1 a.f B λC _=>bz 2 16 a_ a_) a_) (λu=>a_) (λu=>a_)))
def hG(s0:Sl Assign)(p1:Assign->Lk Bool):Lk Bool:=(fQ s0 p1).bind λu=>some (decide (u>=0))
abbrev uY(g1:FuncId)(e1:L' V)(p1:Assign->Lk Bool)(a:lS Sy cL g1 [] e1 (λz:Assign=>[enc z]) (λr:Bool=>[.bool r]) p1 true)(s0:Sl Assign):Fc Sy cL (hG s0 p1):=Fc.M 154 [enc s0,.clo g1 [] e1] (bC (F:=wS g1 e1 p1 a s0) 9 λu _=>a_)
namespace dO
def bV(D:Sl Assign)(G:Int)(J:Event)(U:bU)(B:Int):Lk (Fw Int Unit Int):=bg (decide (B<G)) ((idx D B).bind λu=>(ov u.var 0 (wrap .i64 ((len U.vars)-1))).bind λI=>(bg I ((ov u.value (-1073741824) 1073741824).bind λL=>some (!L)) (some true):Lk Bool).bind λO=>bg O (some (.r 2)) ((gj J.assign none (some B)).bind λw=>(hG w (λz=>kX z u)).bind λC=>bg C (some (.r 8)) (some (.n (wrap .i64 (B+1)))))) (some (.x ()))
def W2(B:Sl Assign)(D G:Int)(J:Event)(U:bU):Lk Int:=(bT (λq:Int=>bV B D J U q) G).bind (Fw.elim (λe=>some 0) (λe=>some e))
def J1(D:Int)(J:Trace)(G:aZ)(B:Event)(U:bU):Lk Int:=(iO J G.proc B).bind λu=>bg u ((ov B.time 0 1099511627776).bind λw=>(bg w (some (decide (B.time<D))) (some true):Lk Bool).bind λz=>bg z (some 11) (bg (decide ((len B.assign)>8)) (some 5) (dO.W2 B.assign (len B.assign) 0 B U))) (some 3)
theorem qm(D:Int)(U:Trace)(J:aZ)(B:Event)(G:bU):Le ((J1 D U J B G).bind (λr=>some [.int .i64 r])) (b8 Sy cL (qM (tr Tx 131)) (uh (tb Tx 131) [1,1,1,1,0] [] (bL [Pv 3,Pv 4,Pv 5,Pv 7,Iv 8 D] [Xb 3 U,Xb 4 J,Xb 5 B,Xb 7 G]))):=bC 8 λO _=>dA 4 28 (bC 5 λQ _=>bZ 2 5 [8,40] 45 (dA 2 40 (bA 5) (bA 5)) λS=>bz 3 35 a_ (b7 5 B.assign (bz 4 46 a_ (b7 9 B.assign (dY 5 (λw=>(bL [Pv 5,Pv 7,Cv 52 B.assign,Iv 53 (len B.assign),Iv 54 w] [Xb 5 B,Xb 7 G])) (λu=>(1,(bL [] []))) (λu=>(bL [Iv 6 u] [])) (λw=>bz 7 55 (bP 8 λC _=>b7 13 G.vars (bC 1 λT _=>bZ 2 5 [68] 73 (dA 2 68 (bC 2 λW _=>bA 2) (bA 5)) λX=>bz 3 59 a_ (BR 6 false true [.int .i64 w] λI _=>cZ (F:=uY 155 [.fptr (cells C)] (λz=>kX z C) lS.rQ I) 1 λL _=>bz 3 74 a_ a_))) a_) (λu=>a_) (λu=>a_)))))) a_
end dO
def dO(D:Trace)(B:aZ)(e2:Event):Lk Int:=(idx D.procs B.proc).bind λu=>bg (decide (B.index>1)) ((idx u.events (wrap .i64 (B.index-2))).bind λw=>dO.J1 w.time D B e2 u) (dO.J1 0 D B e2 u)
open dO in
instance PB(D:Trace)(B:aZ)(e2:Event):Fc Sy cL (dO D B e2):=Fc.M 131 [enc D,enc B,enc e2] (cu 2 3 D (cu 1 5 e2 (bP 9 λu _=>oM 2 7 0 u (bz 15 19 (bP 7 λw _=>yV 6 (qm w.time D B e2 u)) (yV 4 (qm 0 D B e2 u))))))
def rM(e0:Event)(B D:Int):Lk Bool:=(bg (e0.kind==2) (some (e0.message==B)) (some false):Lk Bool).bind λu=>(bg u (some (e0.peer==D)) (some false):Lk Bool).bind λw=>some w
instance S5(e0:Event)(B D:Int):Fc Sy cL (rM e0 B D):=Fc.M 178 [enc e0,.fptr (cells B),.fptr (cells D)] (cu 2 3 e0 (bZ 9 5 [1,8] 13 (bz 9 8 (bA 5) (bA 5)) λu=>bZ 1 5 [2,3,14] 19 (bz 1 14 (bA 5) (bA 5)) λw=>a_))
def vh(D:Trace)(p1 G B:Int):Lk Bool:=(idx D.procs p1).bind λu=>(gw u.events (λz=>rM z G B)).bind λw=>some w
instance WI(G:Trace)(p1 D B:Int):Fc Sy cL (vh G p1 D B):=Fc.M 156 [enc G,.int .i64 p1,.int .i64 D,.int .i64 B] (cu 2 4 G (bP 10 λu _=>cZ (F:=lI 178 [.fptr (cells D),.fptr (cells B)] (λz=>rM z D B) lS.rQ u.events) 3 λw _=>a_))
namespace eW
def jZ(D G:Trace)(J:Lk (cq 200 bD))(U:aZ)(W:Int)(x:aZ×Event)(B:cq 200 bD):Lk (Fw (cq 200 bD) Empty (aZ×Int×(cq 200 bD))):=bg (x.2.kind==2) ((cq.at B x.2.message).bind λu=>bg (decide (u.from_.index>0)) (some (.r (x.1,8,B))) ((cq.at B x.2.message).bind λw=>some (.n (cq.set B x.2.message (⟨x.1,w.to_⟩:bD))))) (bg (x.2.kind==3) ((cq.at B x.2.message).bind λz=>bg (decide (z.to_.index>0)) (some (.r (x.1,8,B))) ((vh G x.2.peer x.2.message x.1.proc).bind λC=>bg C ((cq.at B x.2.message).bind λI=>some (.n (cq.set B x.2.message (⟨I.from_,x.1⟩:bD)))) (some (.r (x.1,7,B))))) (some (.n B)))
def E1(B G:Trace)(J:Lk (cq 200 bD))(U:aZ)(W:Int)(D:cq 200 bD):Lk ((Lk (cq 200 bD))×aZ×Int):=(jy B).bind λu=>(kV (λ(x:aZ×Event)(q:cq 200 bD)=>jZ B G J U W x q) u D).bind (Fw.qY (λq=>some (some q,⟨0,0⟩,0)) (λe=>elim e) (λe=>some ((none:Lk (cq 200 bD)),e.1,e.2.1)))
end eW
def eW(B:Trace):Lk ((Lk (cq 200 bD))×aZ×Int):=(jD B).bind λu=>eW.E1 u B (none:Lk (cq 200 bD)) (⟨0,0⟩:aZ) 0 (cq.Qg 200 (⟨⟨0,0⟩,⟨0,0⟩⟩:bD))
open eW in
instance MU(D:Trace):Fc Sy cL (eW D):=Fc.N 132 [enc D] (cu 2 1 D (cu 8 10 (cq.Qg 200 (⟨⟨0,0⟩,⟨0,0⟩⟩:bD)) (Yo 0 5 (bL [Pv 1,Pv 2,Pv 3,Pv 4,Pv 10] [Xb 1 D,(2,.box [cv (none:Lk (cq 200 bD))]),Xb 3 (⟨0,0⟩:aZ),(4,.box [iv 0]),Xb 10 (cq.Qg 200 (⟨⟨0,0⟩,⟨0,0⟩⟩:bD))]) [cv (none:Lk (cq 200 bD))] (by simp only[bL,zc,rN,tj,rL,tA,um,s_,uH,rC,tu,zo,u5,uP,uq,uG,wV,xd,s9,uz];rfl) (bC 7 λB _=>FY λO C=>B5 4 [Pv 1,Pv 2,Pv 3,Pv 4,Pv 5,(12,.v (.clo 152 [] [.fptr (cells B)]))] (λw=>[Xb 1 D,(2,.box [cv (none:Lk (cq 200 bD))]),Xb 3 (⟨0,0⟩:aZ),(4,.box [iv 0]),(5,.box [.ptr 10 0]),Xb 10 w]) (λz=>elim z) (λz=>[Xb 1 D,(2,.box [cv (none:Lk (cq 200 bD))]),Xb 3 z.1,(4,.box [iv z.2.1]),(5,.box [.ptr 10 0]),Xb 10 z.2.2]) (Ac B O C) (λu w=>Yo 2 6 ⟨[Pv 1,Pv 2,Pv 3,Pv 4,Pv 5,(12,.v (.clo 152 [] [.fptr (cells B)])),Cv 13 u.1,Cv 14 u.2],[Xb 1 D,(2,.box [cv (none:Lk (cq 200 bD))]),Xb 3 (⟨0,0⟩:aZ),(4,.box [iv 0]),(5,.box [.ptr 10 0]),Xb 10 w],[1,2,3,4,5],[],true,0⟩ [iv 0,iv 0] (by simp only[bL,zc,rN,tj,rL,tA,um,s_,uH,rC,tu,zo,u5,uP,uq,uG,wV,xd,s9,uz];rfl) (Yo 4 7 ⟨[Pv 1,Pv 2,Pv 3,Pv 4,Pv 5,(12,.v (.clo 152 [] [.fptr (cells B)])),Cv 14 u.2,Pv 6],[Xb 1 D,(2,.box [cv (none:Lk (cq 200 bD))]),Xb 3 (⟨0,0⟩:aZ),(4,.box [iv 0]),(5,.box [.ptr 10 0]),Xb 10 w,Xb 6 u.1],[1,2,3,4,5],[],true,0⟩ [iv 0,iv 0,iv 0,iv 0,.v .bM] (by simp only[bL,zc,rN,tj,rL,tA,um,s_,uH,rC,tu,zo,u5,uP,uq,uG,wV,xd,s9,uz];rfl) (oM 0 7 0 u.2 (zy 1 (bz 22 19 (Ii 7 .i64 10 λG Q=>Un 2 1 false 10 w u.2.message 1 G Q (.int .i64 G.from_.index) (by rfl) (bz 3 28 a_ (Ii 8 .i64 10 λI S=>UH 1 10 w u.2.message 0 I S (⟨u.1,I.to_⟩:bD) u.1 rfl a_))) (bz 7 36 (Ii 7 .i64 10 λJ T=>Un 2 1 false 10 w u.2.message 3 J T (.int .i64 J.to_.index) (by rfl) (bz 3 45 a_ (bC 12 λW _=>dA 3 54 (Ii 8 .i64 10 λL U=>UH 1 10 w u.2.message 2 L U (⟨L.from_,u.1⟩:bD) u.1 rfl a_) a_))) a_)))))) (λw=>YO 13 (bL [Pv 2,Pv 3,Pv 4] [(2,.box [.ptr 10 0]),Xb 3 (⟨0,0⟩:aZ),(4,.box [iv 0]),Xb 10 w]) [.ptr 10 0,cv (⟨0,0⟩:aZ),iv 0] (Vj (d:=10) (x:=w) (vs:=[enc (⟨0,0⟩:aZ),.int .i64 0]) Zad) Zad) (λx=>elim x) (λz=>a_)))))
namespace jx
def J1(D:cq 200 bD)(B:Sl aZ)(J:Sl Event)(G:aZ):Lk (Sl aZ):=(idx J (wrap .i64 (G.index-1))).bind λu=>(bg (u.kind==2) ((cq.at D u.message).bind λw=>some (decide (w.to_.index>0))) (some false):Lk Bool).bind λz=>bg z ((cq.at D u.message).bind λC=>(ga B (C.to_:aZ)).bind λI=>some I) (some B)
theorem qm(B:cq 200 bD)(D:Sl aZ)(J:Sl Event)(G:aZ):Le ((J1 B D J G).bind (λr=>some [enc r])) (b8 Sy cL (qM (tr Tx 157)) (uh (tb Tx 157) [1,1,1,1,0,0] [] (bL [Kv 1 B,Pv 5,Ov 7,Cv 8 J] [Xb 5 G,Lb 2007 D]))):=bP 7 λu _=>oM 2 9 0 u (bZ 8 10 [40] 50 (bz 8 40 (OB 4 .i64 λw z=>R8 0 2 B u.message 0 w z (R8 0 1 B u.message 2 w z (N9 0 1 false B u.message 3 w z (.int .i64 w.to_.index) (by rfl) (bA 2)))) (bA 10)) λL=>bz 2 50 (OB 7 .i64 λC I=>R8 0 2 B u.message 0 C I (N9 0 2 true B u.message 2 C I (enc C.to_) (by rfl) (n_ 1 2007 59 60 λO _=>a_))) a_)
end jx
def jx(D:Trace)(B:cq 200 bD)(x2:aZ):Lk (Sl aZ):=(idx D.procs x2.proc).bind λu=>bg (decide (x2.index<(len u.events))) (jx.J1 B (Sl.row [⟨x2.proc,wrap .i64 (x2.index+1)⟩]:Sl aZ) u.events x2) (jx.J1 B (Sl.nil:Sl aZ) u.events x2)
open jx in
instance W0(D:Trace)(B:cq 200 bD)(x2:aZ):Fc Sy cL (jx D B x2):=Fc.N 157 [enc D,.fptr (cells B),enc x2] (cu 2 3 D (bP 15 λu _=>b7 11 u.events (bz 3 21 (T9 10 29 30 .bM (⟨x2.proc,wrap .i64 (x2.index+1)⟩:aZ) (yV 5 (qm B (Sl.row [⟨x2.proc,wrap .i64 (x2.index+1)⟩]:Sl aZ) u.events x2))) (yV 5 (qm B (Sl.nil:Sl aZ) u.events x2)))))
namespace iP
def eU(U:Trace)(W:Sl aZ)(Y:Int)(a:Trace)(b:cq 200 bD)(c:aZ)(d:Bool)(J:aZ)(B:Sl aZ)(G:Int)(D:Mo aZ Bool):Lk (Fw ((Sl aZ)×Int×(Mo aZ Bool)) ((Sl aZ)×(Mo aZ Bool)) Unit):=bg (decide (G<Y)) ((idx W G).bind λu=>bg (LG u J) (some (.r ())) (bg (ow D u false) (some (.n (B,wrap .i64 (G+1),D))) ((ga B (u:aZ)).bind λw=>some (.n (w,wrap .i64 (G+1),mJ D u true))))) (some (.x (B,D)))
def W3(D:Sl aZ)(B:Trace)(U:Sl aZ)(W Y:Int)(a:Trace)(b:cq 200 bD)(c:aZ)(d:Bool)(G:aZ)(J:Mo aZ Bool):Lk (Fw ((Sl aZ)×(Mo aZ Bool)) Unit Unit):=(bT (λq:(Sl aZ)×Int×(Mo aZ Bool)=>eU B U W a b c d G q.1 q.2.1 q.2.2) (D,Y,J)).bind (Fw.elim (λe=>some (.n (e.1,e.2))) (λe=>some (.r ())))
def bV(D G:Trace)(J:cq 200 bD)(Y:aZ)(a:Bool)(U:aZ)(B:Sl aZ)(W:Mo aZ Bool):Lk (Fw ((Sl aZ)×(Mo aZ Bool)) Unit Unit):=bg (decide ((len B)>0)) ((Sl.kS B (wrap .i64 ((len B)-1))).bind λw=>(Sl.get B w).bind λz=>(pO B none (some (wrap .i64 ((len B)-1)))).bind λC=>(jx G J z).bind λu=>W3 C D u (len u) 0 G J Y a U W) (some (.x ()))
def W2(G:Sl aZ)(B U:Trace)(W:cq 200 bD)(Y:aZ)(a:Bool)(D:aZ)(J:Mo aZ Bool):Lk (Fw Unit Empty aZ):=(bT (λq:(Sl aZ)×(Mo aZ Bool)=>bV B U W Y a D q.1 q.2) (G,J)).bind (Fw.elim (λe=>some (.n ())) (λe=>some (.r D)))
def jZ(B D:Trace)(G:cq 200 bD)(J:aZ)(U:Bool)(x:aZ×Event):Lk (Fw Unit Empty aZ):=W2 (Sl.row [x.1]:Sl aZ) B D G J U x.1 []
def E1(B D:Trace)(G:cq 200 bD)(J:aZ)(U:Bool):Lk (aZ×Bool):=(jy B).bind λu=>(kV (λ(x:aZ×Event)(q:Unit)=>jZ B D G J U x) u ()).bind (Fw.qY (λq=>some (⟨0,0⟩,false)) (λe=>elim e) (λe=>some (e,true)))
end iP
def iP(B:Trace)(D:cq 200 bD):Lk (aZ×Bool):=(jD B).bind λu=>iP.E1 u B D (⟨0,0⟩:aZ) false
open iP in
instance Wz(B:Trace)(G:cq 200 bD):Fc Sy cL (iP B G):=Fc.M 133 [enc B,.fptr (cells G)] (cu 2 2 B (bC 9 λw _=>FY λU Q=>B5 4 [Pv 2,Pv 3,Pv 4,Pv 5,(13,.v (.clo 152 [] [.fptr (cells w)]))] (λS=>[Xb 2 B,(3,.box [cp G]),Xb 4 (⟨0,0⟩:aZ),(5,.box [bv false])]) (λI=>elim I) (λI=>[Xb 2 B,(3,.box [cp G]),Xb 4 I,(5,.box [bv true])]) (Ac w U Q) (λC S=>zy 4 (dY 18 (λu=>⟨[Pv 2,Pv 3,Pv 4,Pv 5,Pv 6,(7,.mp 16),Ov 8,(13,.v (.clo 152 [] [.fptr (cells w)]))],[Xb 2 B,(3,.box [cp G]),Xb 4 (⟨0,0⟩:aZ),(5,.box [bv false]),Xb 6 C.1,(16,uI u.2),Lb 2008 u.1],[2,3,4,5],[],true,0⟩) (λJ=>(2,⟨[Pv 2,Pv 3,Pv 4,Pv 5,(13,.v (.clo 152 [] [.fptr (cells w)]))],[Xb 2 B,(3,.box [cp G]),Xb 4 (⟨0,0⟩:aZ),(5,.box [bv false])],[2,3,4,5],[],true,0⟩)) (λJ=>⟨[],[Xb 2 B,(3,.box [cp G]),Xb 4 C.1,(5,.box [bv true])],[2,3,4,5],[],true,0⟩) (λu=>E6 6 2008 u.1 (bz 3 21 (E6 8 2008 u.1 (kZ .i64 1 2008 λW _=>rU 0 2008 0 2 true (λL=>.agg [.int .i64 L.proc,.int .i64 L.index]) λL _=>E6 8 2008 u.1 (Zt 1 false true 2008 32 [.int .i64 (wrap .i64 ((len u.1)-1))] λX _=>bC 8 λO _=>b7 0 O (dY 6 (λz=>⟨[Pv 2,Pv 3,Pv 4,Pv 5,Pv 6,(7,.mp 16),Ov 8,(13,.v (.clo 152 [] [.fptr (cells w)])),Cv 36 O,Iv 37 (len O),Iv 38 z.2.1],[Xb 2 B,(3,.box [cp G]),Xb 4 (⟨0,0⟩:aZ),(5,.box [bv false]),Xb 6 C.1,(16,uI z.2.2),Lb 2008 z.1],[2,3,4,5],[],true,0⟩) (λD=>(4,⟨[Pv 2,Pv 3,Pv 4,Pv 5,Pv 6,(7,.mp 16),Ov 8,(13,.v (.clo 152 [] [.fptr (cells w)]))],[Xb 2 B,(3,.box [cp G]),Xb 4 (⟨0,0⟩:aZ),(5,.box [bv false]),Xb 6 C.1,(16,uI D.2),Lb 2008 D.1],[2,3,4,5],[],true,0⟩)) (λD=>⟨[],[Xb 2 B,(3,.box [cp G]),Xb 4 C.1,(5,.box [bv true])],[2,3,4,5],[],true,0⟩) (λz=>bz 8 39 (bP 7 λT _=>bz 13 44 a_ (ZE 7 16 z.2.2 T false (dA 3 49 a_ (Xv 5 16 z.2.2 T true (n_ 6 2008 54 55 λY _=>a_))))) a_) (λD=>a_) (λD=>a_))))) a_)) (λJ=>a_) (λJ=>a_))) (λS=>a_) (λx=>elim x) (λI=>a_)))
namespace ir
def ME(B D:Trace)(G:aZ)(J:Int)(x:aZ×Event):Lk (Fw Unit Empty (aZ×Int)):=(dO D x.1 x.2).bind λu=>bg (u==0) (some (.n ())) (some (.r (x.1,u)))
def E2(B D:Trace)(G:aZ)(J:Int):Lk (aZ×Int):=(jy B).bind λz=>(kV (λ(x:aZ×Event)(q:Unit)=>ME B D G J x) z ()).bind (Fw.qY (λq=>(eW D).bind λu=>bg (u.2.2==0) ((u.1).bind λC=>(iP D C).bind λw=>bg w.2 (some (w.1,10)) (some (⟨0,0⟩,0))) (some (u.2.1,u.2.2))) (λe=>elim e) (λe=>some (e.1,e.2)))
def bp(D:Int)(G:Trace)(J:aZ)(U:Int)(B:Int):Lk (Fw Int Unit (aZ×Int)):=bg (decide (B<D)) ((eV G B).bind λu=>bg (u==0) (some (.n (wrap .i64 (B+1)))) (some (.r ((⟨B,0⟩:aZ),u)))) (some (.x ()))
def W1(J U:Int)(B:Trace)(D:aZ)(G:Int):Lk (aZ×Int):=(bT (λq:Int=>bp J B D G q) U).bind (Fw.elim (λe=>(jD B).bind λu=>ir.E2 u B D G) (λe=>some (e.1,e.2)))
end ir
def ir(B:Trace):Lk (aZ×Int):=(ov (len B.procs) 1 8).bind λu=>bg u (ir.W1 (len B.procs) 0 B (⟨0,0⟩:aZ) 0) (some (⟨0,0⟩,1))
open ir in
instance WY(B:Trace):Fc Sy cL (ir B):=Fc.M 104 [enc B] (cu 2 1 B (b7 9 B.procs (bC 0 λO _=>dA 3 18 (b7 8 B.procs (dY 5 (λC=>(bL [Pv 1,Pv 2,Pv 3,Iv 22 (len B.procs),Iv 23 C] [Xb 1 B,Xb 2 (⟨0,0⟩:aZ),(3,.box [iv 0])])) (λu=>(0,(bL [Pv 1,Pv 2,Pv 3] [Xb 1 B,Xb 2 (⟨0,0⟩:aZ),(3,.box [iv 0])]))) (λu=>(bL [Pv 2,Pv 3] [Xb 2 u.1,(3,.box [iv u.2])])) (λC=>bz 7 24 (bC 15 λQ _=>dA 9 30 a_ a_) a_) (λu=>bC 6 λz _=>FY λJ D=>B5 4 [Pv 1,Pv 2,Pv 3,(36,.v (.clo 152 [] [.fptr (cells z)]))] (λG=>[Xb 1 B,Xb 2 (⟨0,0⟩:aZ),(3,.box [iv 0])]) (λw=>elim w) (λw=>[Xb 1 B,Xb 2 w.1,(3,.box [iv w.2])]) (Ac z J D) (λL G=>oM 8 7 0 L.2 (zy 1 (bC 7 λS _=>dA 9 44 a_ a_))) (λG=>bC 5 λI _=>dA 17 54 (Ns 8 (λT=>(bL [Pv 2,Pv 3,(36,.v (.clo 152 [] [.fptr (cells z)])),Pv 10,Iv 11 I.2.2,Bv 54 false,Cv 58 B,Cv 59 T] [Xb 1 B,Xb 2 (⟨0,0⟩:aZ),(3,.box [iv 0]),Xb 10 I.2.1])) λU _=>bC 0 λW _=>bz 13 63 a_ a_) a_) (λx=>elim x) (λw=>a_)) (λu=>a_))) a_)))
def cQ(B:Trace):Lk Bool:=(ir B).bind λu=>some (u.2==0)
instance WV(B:Trace):Fc Sy cL (cQ B):=Fc.M 86 [enc B] (cu 2 1 B (bC 6 λu _=>a_))
def uu(B:Int):Lk Bool:=(bg (B==2) (some true) (some (B==3)):Lk Bool).bind λu=>(bg u (some true) (some (B==4)):Lk Bool).bind λw=>some w
instance RR(B:Int):Fc Sy cL (uu B):=Fc.M 134 [.int .i64 B] (bZ 10 3 [5] 8 (bz 10 5 (bA 3) (bA 3)) λu=>bZ 1 3 [0,9] 12 (bz 1 9 (bA 3) (bA 3)) λw=>a_)
def kQ(B:Pred):Lk Bool:=(bg (decide (B.kind<1)) (some true) (some (decide (B.kind>=22))):Lk Bool).bind λz=>(bg z (some true) ((cq.at z7 B.kind).bind λC=>some (!((len B.l)==C))):Lk Bool).bind λD=>(bg D (some true) (some (decide (B.n<0))):Lk Bool).bind λG=>(bg G (some true) (some (decide (B.n>1125899906842624))):Lk Bool).bind λI=>(bg I (some true) ((bg (B.n==0) (some false) (some (!(B.kind==1))):Lk Bool).bind λJ=>some J):Lk Bool).bind λL=>bg L (some false) ((uu B.kind).bind λO=>(bg O (some true) ((bg (B.proc==0) (some (B.peer==0)) (some false):Lk Bool).bind λQ=>(bg Q (some (toList B.name==toList ByteArray.empty)) (some false):Lk Bool).bind λu=>some u):Lk Bool).bind λw=>some w)
instance T6(B:Pred):Fc Sy cL (kQ B):=Fc.M 107 [enc B] (cu 2 1 B (bZ 10 4 [6] 10 (bz 10 6 (bA 4) (bA 4)) λD=>bZ 1 9 [11] 20 (bz 1 11 (bA 9) (jv 2 13 (Pred.mq B.l) (b7 0 B.l (OB 2 .i64 λu w=>N9 0 1 false z7 B.kind 0 u w (.int .i64 u) (by rfl) (bA 2))))) λG=>bZ 1 4 [21] 25 (bz 1 21 (bA 4) (bA 4)) λI=>bZ 1 4 [26] 30 (bz 1 26 (bA 4) (bA 4)) λJ=>bZ 1 9 [31] 40 (bz 1 31 (bA 9) (bZ 4 4 [35] 39 (dA 4 35 (bA 4) (bA 4)) λL=>bA 1)) λO=>bz 2 40 a_ (bC 7 λQ _=>bZ 1 14 [1,44] 58 (bz 1 44 (bA 14) (bZ 4 4 [48] 52 (bz 4 48 (bA 4) (bA 4)) λS=>bZ 1 4 [1,53] 57 (bz 1 53 (bA 4) (bA 4)) λz=>bA 1)) λC=>a_)))
def iJ(D:Pred)(G B:Int)(r:(Pred×Int×Int)->Lk (Bool×Int)):Lk (Bool×Int):=(r (D,wrap .i64 (G+1),B)).bind λu=>some ((!u.1),u.2)
abbrev xU(r:(Pred×Int×Int)->Lk (Bool×Int))(a:xP Sy cL 106 (λz:Pred×Int×Int=>[cv z.1,iv z.2.1,.ptr 9004 0,.ptr 9003 0]) (λz:Pred×Int×Int=>[(9004,bx (z.2.2:Int)),(9003,.box [.clo 106 [] [.ptr 9004 0,.ptr 9003 0]])]) (λr:Bool×Int=>[.bool r.1]) (λ(z:Pred×Int×Int)(r:Bool×Int)=>[(9004,bx (r.2:Int)),(9003,.box [.clo 106 [] [.ptr 9004 0,.ptr 9003 0]])]) r)(D:Pred)(G B:Int):nO Sy cL (iJ D G B r):=nO.mk' 108 [cv D,.ptr 9003 0,.v (.fptr (cells G))] [(9003,.box [.clo 106 [] [.ptr 9004 0,.ptr 9003 0]]),(9004,bx (B:Int))] (λr:Bool×Int=>[.bool r.1]) (λr:Bool×Int=>[(9003,.box [.clo 106 [] [.ptr 9004 0,.ptr 9003 0]]),(9004,bx (r.2:Int))]) (cu 2 3 D (tJ 9 (nO.of (D,wrap .i64 (G+1),B) a) λu _=>a_))
def eO(G:Pred)(B D:Int)(r:(Pred×Int×Int)->Lk (Bool×Int)):Lk (Bool×Int):=(bg (decide ((wrap .i64 (D-1))<0)) (some true) (some (decide (B>20))):Lk Bool).bind λw=>(bg w (some true) ((kQ G).bind λz=>some (!z)):Lk Bool).bind λC=>bg C (some (false,wrap .i64 (D-1))) ((zK G.l (λx s=>iJ x B s r) (wrap .i64 (D-1))).bind λu=>some ((!u.1),u.2))
theorem xT(r:(Pred×Int×Int)->Lk (Bool×Int))(a:xP Sy cL 106 (λz:Pred×Int×Int=>[cv z.1,iv z.2.1,.ptr 9004 0,.ptr 9003 0]) (λz:Pred×Int×Int=>[(9004,bx (z.2.2:Int)),(9003,.box [.clo 106 [] [.ptr 9004 0,.ptr 9003 0]])]) (λr:Bool×Int=>[.bool r.1]) (λ(z:Pred×Int×Int)(r:Bool×Int)=>[(9004,bx (r.2:Int)),(9003,.box [.clo 106 [] [.ptr 9004 0,.ptr 9003 0]])]) r)(D:Pred)(B G:Int):∀J,eO D B G r=some J->∃m',cL 106 [cv D,iv B,.ptr 9004 0,.ptr 9003 0] [(9004,bx (G:Int)),(9003,.box [.clo 106 [] [.ptr 9004 0,.ptr 9003 0]])]=some (((λr:Bool×Int=>[.bool r.1]) J).map .v,m')/\∀U,lp m' ([(9004,bx (G:Int)),(9003,.box [.clo 106 [] [.ptr 9004 0,.ptr 9003 0]])].map (·.1)) U=some (pH U ((λr:Bool×Int=>[(9004,bx (r.2:Int)),(9003,.box [.clo 106 [] [.ptr 9004 0,.ptr 9003 0]])]) J)):=(nO.mk' 106 [cv D,iv B,.ptr 9004 0,.ptr 9003 0] [(9004,bx (G:Int)),(9003,.box [.clo 106 [] [.ptr 9004 0,.ptr 9003 0]])] (λr:Bool×Int=>[.bool r.1]) (λr:Bool×Int=>[(9004,bx (r.2:Int)),(9003,.box [.clo 106 [] [.ptr 9004 0,.ptr 9003 0]])]) (cu 2 4 D (bZ 17 3 [11] 14 (bz 17 11 (bA 3) (bA 3)) λu=>bZ 1 4 [15] 19 (bz 1 15 (bA 4) (bC 1 λw _=>bA 2)) λC=>bz 2 19 a_ (jv 7 21 (Pred.mq D.l) (tJ 2 (pP (yj.ZY (σ:=Int) (g:=108) (e:=[.ptr 9003 0,cp B]) (os:=λs=>[(9003,.box [.clo 106 [] [.ptr 9004 0,.ptr 9003 0]]),(9004,bx (s:Int))]) (p:=(λx s=>iJ x B s r)) (λx s=>xU r a x B s)) D.l (wrap .i64 (G-1))) λI _=>a_)))):nO Sy cL (eO D B G r)).h
def qL(D:Pred)(B G:Int):Lk (Bool×Int):=g_ (λr(z:Pred×Int×Int)=>eO z.1 z.2.1 z.2.2 r) 100000 (D,B,G)
abbrev Af(D:Pred)(B G:Int):nO Sy cL (qL D B G):=nO.of (D,B,G) (xP.fix (A:=λz:Pred×Int×Int=>[cv z.1,iv z.2.1,.ptr 9004 0,.ptr 9003 0]) (O:=λz:Pred×Int×Int=>[(9004,bx (z.2.2:Int)),(9003,.box [.clo 106 [] [.ptr 9004 0,.ptr 9003 0]])]) (E:=λr:Bool×Int=>[.bool r.1]) (M:=λ(z:Pred×Int×Int)(r:Bool×Int)=>[(9004,bx (r.2:Int)),(9003,.box [.clo 106 [] [.ptr 9004 0,.ptr 9003 0]])]) (b:=(λr(z:Pred×Int×Int)=>eO z.1 z.2.1 z.2.2 r)) Zad Zad Zad (λr a z=>xT r a z.1 z.2.1 z.2.2) 100000)
def lW(B:Pred):Lk Bool:=(qL B 1 200).bind λu=>some u.1
instance Q6(B:Pred):Fc Sy cL (lW B):=Fc.M 90 [enc B] (cu 2 1 B (tJ 26 (Af B 1 200) λu _=>a_))
def kq(B:Trace)(p1:Int):Lk Bool:=(bg (decide (p1>=0)) (some (decide (p1<(len B.procs)))) (some false):Lk Bool).bind λu=>some u
instance Q4(B:Trace)(p1:Int):Fc Sy cL (kq B p1):=Fc.M 110 [enc B,.int .i64 p1] (cu 2 2 B (bZ 8 6 [1,2,7] 13 (bz 8 7 (b7 3 B.procs (bA 2)) (bA 6)) λu=>a_))
def oD(B:Var)(D:ByteArray):Lk Bool:=some (toList B.name==toList D)
instance OG(B:Var)(D:ByteArray):Fc Sy cL (oD B D):=Fc.M 136 [enc B,.fptr (cells D)] (a_)
def rA(D:Trace)(p1:Int)(B:ByteArray):Lk Bool:=(idx D.procs p1).bind λu=>(gU u.vars (λz=>oD z B)).bind λw=>some w
instance Rn(D:Trace)(p1:Int)(B:ByteArray):Fc Sy cL (rA D p1 B):=Fc.M 111 [enc D,.int .i64 p1,.str B] (cu 2 3 D (bP 9 λu _=>cZ (F:=ql 136 [.fptr (cells B)] (λz=>oD z B) lS.rQ u.vars) 3 λw _=>a_))
def kE(B:Pred)(D:Trace):Lk Bool:=bg (B.kind==2) ((kq D B.proc).bind λC=>(bg C (some (B.peer==0)) (some false):Lk Bool).bind λG=>(bg G ((rA D B.proc B.name).bind λI=>some I) (some false):Lk Bool).bind λJ=>some J) (bg (B.kind==3) ((kq D B.proc).bind λL=>(bg L (some (B.peer==0)) (some false):Lk Bool).bind λO=>(bg O (some (toList B.name==toList ByteArray.empty)) (some false):Lk Bool).bind λQ=>some Q) (bg (B.kind==4) ((kq D B.proc).bind λS=>(bg S ((kq D B.peer).bind λT=>some T) (some false):Lk Bool).bind λu=>(bg u (some (!(B.proc==B.peer))) (some false):Lk Bool).bind λw=>(bg w (some (toList B.name==toList ByteArray.empty)) (some false):Lk Bool).bind λz=>some z) (some true)))
instance Lm(B:Pred)(D:Trace):Fc Sy cL (kE B D):=Fc.M 109 [enc B,.fptr (cells D)] (cu 2 2 B (bz 17 6 (bC 6 λC _=>bZ 1 4 [12] 16 (bz 1 12 (bA 4) (bA 4)) λG=>bZ 1 7 [1,2,17] 24 (bz 1 17 (bC 5 λI _=>bA 1) (bA 7)) λJ=>a_) (bz 7 25 (bC 6 λL _=>bZ 1 4 [31] 35 (bz 1 31 (bA 4) (bA 4)) λO=>bZ 1 4 [2,36] 40 (bz 1 36 (bA 4) (bA 4)) λQ=>a_) (bz 7 41 (bC 6 λS _=>bZ 1 5 [1,47] 52 (bz 1 47 (bC 3 λT _=>bA 1) (bA 5)) λu=>bZ 1 6 [53] 59 (bz 1 53 (bA 6) (bA 6)) λw=>bZ 1 4 [2,60] 64 (bz 1 60 (bA 4) (bA 4)) λz=>a_) a_))))
def sR(B:Pred)(p1:Pred->Lk Bool)(r:Pred->Lk Bool):Lk Bool:=(r B).bind λu=>some (!u)
abbrev BA(g1:FuncId)(e1:L' V)(p1:Pred->Lk Bool)(b:lS Sy cL g1 [] e1 (λz:Pred=>[enc z]) (λr:Bool=>[.bool r]) p1 true)(r:Pred->Lk Bool)(a:gT Sy cL 95 (λz:Pred=>[enc z,.clo g1 [] e1]) (λr:Bool=>[.bool r]) r true)(B:Pred):Fc Sy cL (sR B p1 r):=Fc.M 118 [enc B,.fptr [.clo g1 [] e1]] (cu 2 2 B (bC (F:=Fc.of B a) 7 λu _=>a_))
def jr(D:Pred)(p1:Pred->Lk Bool)(r:Pred->Lk Bool):Lk Bool:=(p1 D).bind λw=>(bg w ((zK D.l (λx u=>((λz=>sR z p1 r) x).map λb=>(b,u)) ()).bind λB=>some (!B.1)) (some false):Lk Bool).bind λC=>some C
theorem AS(g1:FuncId)(e1:L' V)(p1:Pred->Lk Bool)(a:lS Sy cL g1 [] e1 (λz:Pred=>[enc z]) (λr:Bool=>[.bool r]) p1 true)(r:Pred->Lk Bool)(b:gT Sy cL 95 (λz:Pred=>[enc z,.clo g1 [] e1]) (λr:Bool=>[.bool r]) r true)(B:Pred):Le ((jr B p1 r).bind λr=>some [.bool r]) (jK cL 95 [enc B,.clo g1 [] e1]):=(Fc.M 95 [enc B,.clo g1 [] e1] (cu 2 2 B (yw 8 a.f B λw _=>yE 1 6 [] (λu=>(bL [Bv 14 u] [Xb 2 B])) (bz 1 8 (jv 2 10 (Pred.mq B.l) (tJ 2 (mb (yj.Xo (g:=118) (e:=[.fptr [.clo g1 [] e1]]) (p:=(λz=>sR z p1 r)) (lS.rQ (F:=λz=>BA g1 e1 p1 a r b z))) B.l ()) λC _=>bA 2)) (bA 7)) λu=>a_)):Fc Sy cL (jr B p1 r)).F.h ()
def nK(B:Pred)(p1:Pred->Lk Bool):Lk Bool:=g_ (λr(z:Pred)=>jr z p1 r) 100000 B
abbrev tR(g1:FuncId)(e1:L' V)(p1:Pred->Lk Bool)(a:lS Sy cL g1 [] e1 (λz:Pred=>[enc z]) (λr:Bool=>[.bool r]) p1 true)(B:Pred):Fc Sy cL (nK B p1):=Fc.of B (gT.fix (A:=λz:Pred=>[enc z,.clo g1 [] e1]) (E:=λr:Bool=>[.bool r]) (sc:=true) (b:=(λr(z:Pred)=>jr z p1 r)) Zad (λ_ _=>rfl) (λr c z=>AS g1 e1 p1 a r c z) 100000)
def oI(B:Trace)(p1:Pred):Lk Bool:=(nK p1 (λz=>kE z B)).bind λu=>some u
instance OE(B:Trace)(p1:Pred):Fc Sy cL (oI B p1):=Fc.M 91 [enc B,enc p1] (cu 2 2 B (cu 0 3 p1 (cZ (F:=tR 109 [.fptr (cells B)] (λz=>kE z B) lS.rQ p1) 7 λu _=>a_)))
def lV(B:Int):Lk Int:=bg (decide (B<=8)) (some 1) (some 2)
instance Q9(B:Int):Fc Sy cL (lV B):=Fc.M 114 [.int .i64 B] (bz 12 4 a_ a_)
def sJ(B:Int):Lk Int:=bg (decide (B<=12)) (some 1) (some 2)
instance Um(B:Int):Fc Sy cL (sJ B):=Fc.M 115 [.int .i64 B] (bz 12 4 a_ a_)
def mF(B D:Pred):Lk Bool:=(lV B.kind).bind λu=>(sJ D.kind).bind λw=>some (!(u==w))
instance Ly(B D:Pred):Fc Sy cL (mF B D):=Fc.M 113 [enc B,.fptr (cells D)] (cu 2 2 B (cZ 7 λu _=>cZ 2 λw _=>a_))
def jg(B:Pred):Lk Bool:=(zK B.l (λx u=>((λz=>mF z B) x).map λb=>(b,u)) ()).bind λw=>some (!w.1)
instance OJ(B:Pred):Fc Sy cL (jg B):=Fc.M 112 [enc B] (cu 2 1 B (jv 7 4 (Pred.mq B.l) (tJ 2 (mb (yj.Xo (g:=113) (e:=[.fptr (cells B)]) (p:=(λz=>mF z B)) lS.rQ) B.l ()) λu _=>a_)))
def oW(B:Pred):Lk Bool:=(nK B (λz=>jg z)).bind λu=>some u
instance Ti(B:Pred):Fc Sy cL (oW B):=Fc.M 92 [enc B] (cu 2 1 B (bC (F:=tR 112 [] (λz=>jg z) lS.rQ B) 6 λu _=>a_))
namespace dz
def bV(D:Sl Int)(B i4:Int):Lk (Fw (Int×Int) Int Empty):=bg (decide (i4<(len D))) ((idx D i4).bind λu=>some (.n ((if u<B then u else B),wrap .i64 (i4+1)))) (some (.x B))
def W2(B:Sl Int)(D i4:Int):Lk Int:=(bT (λq:Int×Int=>bV B q.1 q.2) (D,i4)).bind (Fw.elim (λe=>some e) (λe=>elim e))
def J1(B:Sl Int):Lk Int:=(idx B 0).bind λu=>dz.W2 B u 1
end dz
def dz(B:Sl Int):Lk Int:=bg (decide ((len B)<1)) (none) (dz.J1 B)
open dz in
instance Sq(B:Sl Int):Fc Sy cL (dz B):=Fc.M 67 [enc B] (b7 9 B (bz 3 7 ((Le.none _)) (tI 4 (bP 3 λz _=>fN 12 (λu=>(bL [Cv 0 B,Iv 3 u.1,Iv 4 u.2] [])) (λw=>(0,(bL [Iv 3 w] []))) (λu=>b7 6 B (bz 3 15 (bP 9 λC _=>a_) a_)) (λw=>a_)))))
namespace eX
def bV(D:Sl Int)(B i4:Int):Lk (Fw (Int×Int) Int Empty):=bg (decide (i4<(len D))) ((idx D i4).bind λu=>some (.n ((if u>B then u else B),wrap .i64 (i4+1)))) (some (.x B))
def W2(B:Sl Int)(D i4:Int):Lk Int:=(bT (λq:Int×Int=>bV B q.1 q.2) (D,i4)).bind (Fw.elim (λe=>some e) (λe=>elim e))
def J1(B:Sl Int):Lk Int:=(idx B 0).bind λu=>eX.W2 B u 1
end eX
def eX(B:Sl Int):Lk Int:=bg (decide ((len B)<1)) (none) (eX.J1 B)
open eX in
instance TM(B:Sl Int):Fc Sy cL (eX B):=Fc.M 160 [enc B] (b7 9 B (bz 3 7 ((Le.none _)) (tI 4 (bP 3 λz _=>fN 12 (λu=>(bL [Cv 0 B,Iv 3 u.1,Iv 4 u.2] [])) (λw=>(0,(bL [Iv 3 w] []))) (λu=>b7 6 B (bz 3 15 (bP 9 λC _=>a_) a_)) (λw=>a_)))))
def me(B:Sl Int):Lk bR:=(dz B).bind λu=>(eX B).bind λw=>some ⟨u,w⟩
instance UB(B:Sl Int):Fc Sy cL (me B):=Fc.M 139 [enc B] (bC 8 λu _=>bC 1 λw _=>a_)
namespace fc
def bp(U:Int)(D:Sl Event)(G:Int)(J B:Int):Lk (Fw (Int×Int) Int Empty):=bg (decide (B<G)) ((idx D B).bind λu=>(bg (u.kind==2) (some (u.peer==U)) (some false):Lk Bool).bind λw=>bg w (some (.n (wrap .i64 (J+1),wrap .i64 (B+1)))) (some (.n (J,wrap .i64 (B+1))))) (some (.x J))
def W1(J U:Int)(B:Sl Event)(D G:Int):Lk Int:=(bT (λq:Int×Int=>bp J B D q.1 q.2) (U,G)).bind (Fw.elim (λe=>some e) (λe=>elim e))
end fc
def fc(B:Trace)(p1 D:Int):Lk Int:=(idx B.procs p1).bind λu=>fc.W1 D 0 u.events (len u.events) 0
open fc in
instance OH(B:Trace)(p1 D:Int):Fc Sy cL (fc B p1 D):=Fc.M 158 [enc B,.int .i64 p1,.int .i64 D] (cu 2 3 B (bP 14 λu _=>b7 2 u.events (fN 5 (λw=>(bL [Iv 2 D,Iv 7 w.1,Cv 15 u.events,Iv 16 (len u.events),Iv 17 w.2] [])) (λz=>(0,(bL [Iv 7 z] []))) (λw=>bz 7 18 (bP 7 λC _=>oM 2 9 0 C (bZ 8 5 [9,24] 29 (bz 8 24 (bA 5) (bA 5)) λG=>bz 2 29 a_ a_)) a_) (λz=>a_))))
def oB(B:Var)(D:ByteArray):Lk Bool:=some (toList B.name==toList D)
instance OI(B:Var)(D:ByteArray):Fc Sy cL (oB B D):=Fc.M 188 [enc B,.fptr (cells D)] (a_)
def uN(D:bU)(B:ByteArray):Lk Int:=(fA D.vars (λz=>oB z B)).bind λu=>some u
instance S0(D:bU)(B:ByteArray):Fc Sy cL (uN D B):=Fc.M 186 [enc D,.str B] (cu 2 2 D (cZ (F:=oe 188 [.fptr (cells B)] (λz=>oB z B) lS.rQ D.vars) 9 λu _=>a_))
def sE(D:Trace)(p1:Int)(B:ByteArray):Lk (Int×Int):=(cQ D).bind λw=>bg w ((bg (decide (p1<0)) (some true) (some (decide (p1>=(len D.procs)))):Lk Bool).bind λz=>bg z (some (0,2)) ((idx D.procs p1).bind λC=>(uN C B).bind λu=>bg (decide (u<0)) (some (0,13)) (some (u,0)))) (some (0,1))
instance TQ(D:Trace)(p1:Int)(B:ByteArray):Fc Sy cL (sE D p1 B):=Fc.M 179 [enc D,.int .i64 p1,.str B] (cu 2 3 D (bC 9 λu _=>dA 4 9 (bZ 6 6 [16] 22 (bz 6 16 (bA 6) (b7 3 D.procs (bA 2))) λw=>bz 3 13 a_ (bP 9 λz _=>bC 2 λC _=>bz 10 31 a_ a_)) a_))
def dR(s0:Sl Int):Lk (Sl Int):=(Sl.isNil s0).bind λu=>bg u (some Sl.nil) ((oc (Sl.row []:Sl Int) s0).bind λw=>some w)
theorem gE:BQ Sy cL 27 (λs0:Sl Int=>[enc s0]) (λz=>dR z):=BQ.mk' (rR (Tx 27)) (λs0=>I4 9 λu _=>bz 2 4 a_ (zw 7 5 7 λw _=>a_))
def nT(B:bU):Lk bU:=some B
instance Q8(B:bU):Fc Sy cL (nT B):=Fc.NE (λr:bU=>[(.clo 141 [] [.fptr (cells r)])]) 119 [enc B] (cu 2 1 B a_)
namespace gm
def jZ(D:bU)(G:Int)(x:Int×(Sl Int))(B:Sl Int):Lk (Fw (Sl Int) Empty Empty):=(idx x.2 G).bind λu=>(ga B (u:Int)).bind λw=>some (.n w)
def E1(B:bU)(G:Int)(D:Sl Int):Lk (Sl Int):=(jF B).bind λu=>(kV (λ(x:Int×(Sl Int))(q:Sl Int)=>jZ B G x q) u D).bind (Fw.qY (λq=>some q) (λe=>elim e) (λe=>elim e))
end gm
def gm(B:bU)(i1:Int):Lk (Sl Int):=(nT B).bind λu=>gm.E1 u i1 (Sl.nil:Sl Int)
open gm in
instance Q1(D:bU)(i1:Int):Fc Sy cL (gm D i1):=Fc.N 180 [enc D,.int .i64 i1] (cu 2 2 D (bC 13 λz _=>FY λC B=>B5 5 [Pv 3,Pv 5,(9,.v (.clo 141 [] [.fptr (cells z)]))] (λu=>[(3,.box [iv i1]),(5,.box [.own 4100]),Lb 4100 u]) (λw=>elim w) (λw=>elim w) (G9 z C B) (λG u=>zy 3 (bP 7 λI _=>n_ 2 4100 17 18 λJ _=>a_)) (λu=>a_) (λx=>elim x) (λx=>elim x)))
def q_(G:Trace)(p1:Int)(B:ByteArray):Lk (Int×Int×Int):=(sE G p1 B).bind λu=>bg (u.2==0) ((idx G.procs p1).bind λz=>(gm z u.1).bind λw=>(dz w).bind λC=>(eX w).bind λD=>some (C,D,0)) (some (0,0,u.2))
instance RP(D:Trace)(p1:Int)(B:ByteArray):Fc Sy cL (q_ D p1 B):=Fc.M 159 [enc D,.int .i64 p1,.str B] (cu 2 3 D (bC 10 λu _=>dA 14 19 (bP 8 λw _=>bC 2 λz _=>bC 6 λC _=>bC 1 λG _=>a_) a_))
def gC(B:Trace)(p1:Pred):Lk bR:=bg (p1.kind==1) ((me (Sl.row [p1.n]:Sl Int)).bind λw=>some w) (bg (p1.kind==3) ((idx B.procs p1.proc).bind λz=>some ⟨0,len z.events⟩) (bg (p1.kind==4) ((fc B p1.proc p1.peer).bind λC=>some ⟨0,C⟩) ((q_ B p1.proc p1.name).bind λu=>some ⟨u.1,u.2.1⟩)))
instance UI(B:Trace)(p1:Pred):Fc Sy cL (gC B p1):=Fc.M 137 [enc B,enc p1] (cu 2 2 B (cu 0 3 p1 (bz 17 10 (cZ 6 λw _=>a_) (bz 7 16 (bP 7 λu _=>b7 2 u.events a_) (bz 7 27 (bC 8 λz _=>a_) (bC 11 λC _=>a_))))))
def je(B:bR):Lk Bool:=(bg (decide (B.low<(-1125899906842624))) (some true) (some (decide (B.high>1125899906842624))):Lk Bool).bind λu=>some u
instance H9(B:bR):Fc Sy cL (je B):=Fc.M 138 [enc B] (bZ 12 4 [1,6] 10 (bz 12 6 (bA 4) (bA 4)) λu=>a_)
def qT(a0:Int):Lk Int:=some (if(wrap .i64 (0-a0))>a0 then(wrap .i64 (0-a0))else a0)
instance Wl(a0:Int):Fc Sy cL (qT a0):=Fc.M 161 [.int .i64 a0] (a_)
def gY(a0 B:Int):Lk Int:=(bg (a0==0) (some true) (some (B==0)):Lk Bool).bind λu=>bg u (some 0) ((qT a0).bind λw=>(qT B).bind λz=>(Ag .i64 1125899906842624 z).bind λC=>bg (decide (w>C)) (bg ((decide (a0<0))==(decide (B<0))) (some 1125899906842625) (some (wrap .i64 (0-1125899906842625)))) (some (wrap .i64 (a0*B))))
instance O_(a0 B:Int):Fc Sy cL (gY a0 B):=Fc.M 140 [.int .i64 a0,.int .i64 B] (bZ 11 3 [8] 11 (bz 11 8 (bA 3) (bA 3)) λu=>bz 2 11 a_ (bC 15 λw _=>bC 1 λz _=>aaz 0 λC _=>bz 3 20 (dA 15 25 a_ a_) a_))
namespace cU
def J2(D B:bR)(r:(Trace×Pred)->Lk (bR×Bool)):Lk (bR×Bool):=(je B).bind λu=>some (B,(!u))
def J1(W U:Bool)(J:Pred)(G B D:bR)(r:(Trace×Pred)->Lk (bR×Bool)):Lk (bR×Bool):=(bg W (some (!U)) (some true):Lk Bool).bind λC=>bg C (some (⟨0,0⟩,false)) (bg (J.kind==5) (cU.J2 G (⟨wrap .i64 (0-B.high),wrap .i64 (0-B.low)⟩:bR) r) (bg (J.kind==6) (cU.J2 G (⟨wrap .i64 (B.low+D.low),wrap .i64 (B.high+D.high)⟩:bR) r) (bg (J.kind==7) (cU.J2 G (⟨wrap .i64 (B.low-D.high),wrap .i64 (B.high-D.low)⟩:bR) r) ((gY B.low D.low).bind λI=>(gY B.low D.high).bind λL=>(gY B.high D.low).bind λu=>(gY B.high D.high).bind λw=>(me (Sl.row [I,L,u,w]:Sl Int)).bind λz=>cU.J2 G z r))))
theorem qm(r:(Trace×Pred)->Lk (bR×Bool))(a:gT Sy cL 116 (λz:Trace×Pred=>[enc z.1,enc z.2]) (λr:bR×Bool=>[enc r.1,.bool r.2]) r true)(D B:Bool)(G:Pred)(J U W:bR):Le ((J1 D B G J U W r).bind (λr=>some [enc r.1,.bool r.2])) (b8 Sy cL (qM (tr Tx 116)) (uh (tb Tx 116) [1,1,1,1,1,0] [] (bL [Pv 3,Pv 4,Pv 7,Bv 8 D,Pv 9,Bv 10 B] [Xb 3 G,Xb 4 J,Xb 7 U,Xb 9 W]))):=bZ 6 3 [10,48] 51 (dA 6 48 (bA 3) (bA 3)) λQ=>bz 2 51 a_ (bz 22 77 (tI 14 (cZ 4 λu _=>a_)) (bz 7 86 (tI 18 (cZ 4 λu _=>a_)) (bz 7 99 (tI 18 (cZ 4 λu _=>a_)) (cZ 6 λI _=>cZ 4 λL _=>cZ 4 λw _=>cZ 4 λC _=>XB 0 ([I,L,w,C]:L' Int) (.buildC 1 4 [.int .i64 0] [0,1,2,3]) [iv I,iv L,iv w,iv C] (cZ 0 λO _=>tI 5 (cZ 4 λu _=>a_))))))
end cU
def di(B:Trace)(p1:Pred)(r:(Trace×Pred)->Lk (bR×Bool)):Lk (bR×Bool):=bg ((len p1.l)==0) ((gC B p1).bind λw=>(je w).bind λC=>some (w,(!C))) ((idx p1.l 0).bind λD=>(r (B,D)).bind λu=>bg ((len p1.l)==2) ((idx p1.l 1).bind λG=>(r (B,G)).bind λz=>cU.J1 u.2 z.2 p1 (⟨0,0⟩:bR) u.1 z.1 r) (cU.J1 u.2 true p1 (⟨0,0⟩:bR) u.1 u.1 r))
open cU in
theorem Ap(r:(Trace×Pred)->Lk (bR×Bool))(a:gT Sy cL 116 (λz:Trace×Pred=>[enc z.1,enc z.2]) (λr:bR×Bool=>[enc r.1,.bool r.2]) r true)(B:Trace)(p1:Pred):Le ((di B p1 r).bind λr=>some [enc r.1,.bool r.2]) (jK cL 116 [enc B,enc p1]):=(Fc.M 116 [enc B,enc p1] (cu 2 2 B (cu 0 3 p1 (jv 9 13 (Pred.mq p1.l) (b7 0 p1.l (bz 3 15 (bC 5 λG _=>cZ 8 λI _=>a_) (jv 8 26 (Pred.mq p1.l) (bP 0 λC _=>cZ (F:=Fc.of (B,C) a) 1 λu _=>jv 21 34 (Pred.mq p1.l) (b7 0 p1.l (bz 3 36 (jv 5 40 (Pred.mq p1.l) (bP 0 λD _=>cZ (F:=Fc.of (B,D) a) 1 λw _=>yV 8 (qm r a u.2 w.2 p1 (⟨0,0⟩:bR) u.1 w.1))) (yV 4 (qm r a u.2 true p1 (⟨0,0⟩:bR) u.1 u.1))))))))))):Fc Sy cL (di B p1 r)).F.h ()
def cU(B:Trace)(p1:Pred):Lk (bR×Bool):=g_ (λr(z:Trace×Pred)=>di z.1 z.2 r) 100000 (B,p1)
instance Q5(B:Trace)(p1:Pred):Fc Sy cL (cU B p1):=Fc.of (B,p1) (gT.fix (A:=λz:Trace×Pred=>[enc z.1,enc z.2]) (E:=λr:bR×Bool=>[enc r.1,.bool r.2]) (sc:=true) (b:=(λr(z:Trace×Pred)=>di z.1 z.2 r)) Zad (λ_ _=>rfl) (λr a z=>Ap r a z.1 z.2) 100000)
def oE(B:Pred)(D:Trace)(r:(Trace×Pred)->Lk Bool):Lk Bool:=(r (D,B)).bind λu=>some (!u)
abbrev AJ(r:(Trace×Pred)->Lk Bool)(a:gT Sy cL 93 (λz:Trace×Pred=>[enc z.1,enc z.2]) (λr:Bool=>[.bool r]) r true)(B:Pred)(D:Trace):Fc Sy cL (oE B D r):=Fc.M 117 [enc B,.fptr (cells D)] (cu 2 2 B (bC (F:=Fc.of (D,B) a) 7 λu _=>a_))
def gV(D:Trace)(p1:Pred)(r:(Trace×Pred)->Lk Bool):Lk Bool:=(lV p1.kind).bind λw=>bg (w==1) ((cU D p1).bind λB=>some B.2) ((zK p1.l (λx u=>((λz=>oE z D r) x).map λb=>(b,u)) ()).bind λC=>some (!C.1))
theorem AH(r:(Trace×Pred)->Lk Bool)(a:gT Sy cL 93 (λz:Trace×Pred=>[enc z.1,enc z.2]) (λr:Bool=>[.bool r]) r true)(B:Trace)(p1:Pred):Le ((gV B p1 r).bind λr=>some [.bool r]) (jK cL 93 [enc B,enc p1]):=(Fc.M 93 [enc B,enc p1] (cu 2 2 B (cu 0 3 p1 (bC 8 λu _=>bz 3 10 (bC 5 λw _=>a_) (jv 7 19 (Pred.mq p1.l) (tJ 2 (mb (yj.Xo (g:=117) (e:=[.fptr (cells B)]) (p:=(λz=>oE z B r)) (lS.rQ (F:=λz=>AJ r a z B))) p1.l ()) λC _=>a_))))):Fc Sy cL (gV B p1 r)).F.h ()
def uA(B:Trace)(p1:Pred):Lk Bool:=g_ (λr(z:Trace×Pred)=>gV z.1 z.2 r) 100000 (B,p1)
instance Th(B:Trace)(p1:Pred):Fc Sy cL (uA B p1):=Fc.of (B,p1) (gT.fix (A:=λz:Trace×Pred=>[enc z.1,enc z.2]) (E:=λr:Bool=>[.bool r]) (sc:=true) (b:=(λr(z:Trace×Pred)=>gV z.1 z.2 r)) Zad (λ_ _=>rfl) (λr a z=>AH r a z.1 z.2) 100000)
def rI(B:Trace)(p1:Pred):Lk Int:=(cQ B).bind λu=>(bg u ((lW p1).bind λw=>some (!w)) (some true):Lk Bool).bind λz=>bg z (some 1) ((oI B p1).bind λC=>bg C ((oW p1).bind λD=>bg D ((uA B p1).bind λG=>bg G (some 0) (some 9)) (some 14)) (some 13))
instance RG(B:Trace)(p1:Pred):Fc Sy cL (rI B p1):=Fc.M 76 [enc B,enc p1] (cu 2 2 B (cu 0 3 p1 (bC 8 λu _=>bZ 2 4 [9] 13 (dA 2 9 (bC 1 λw _=>bA 2) (bA 4)) λz=>bz 3 5 a_ (bC 5 λC _=>dA 4 14 (bC 4 λD _=>dA 4 19 (bC 5 λG _=>dA 4 23 a_ a_) a_) a_))))
def sC(B:Pred):Lk (Int×Int):=(lW B).bind λu=>bg u ((oW B).bind λw=>bg w ((lV B.kind).bind λz=>some (z,0)) (some (0,14))) (some (0,1))
instance TX(B:Pred):Fc Sy cL (sC B):=Fc.M 94 [enc B] (cu 2 1 B (bC 9 λu _=>dA 4 4 (bC 4 λw _=>dA 4 8 (bC 8 λz _=>a_) a_) a_))
def uB(D:Pred)(B:Int):Lk Int:=(sC D).bind λu=>(bg (u.2==0) (some (!(u.1==B))) (some true):Lk Bool).bind λw=>bg w (some 14) (some 0)
instance SC(D:Pred)(B:Int):Fc Sy cL (uB D B):=Fc.M 77 [enc D,.int .i64 B] (cu 2 2 D (bC 7 λu _=>bZ 12 4 [1,5,14] 18 (dA 12 14 (bA 4) (bA 4)) λw=>bz 2 18 a_ a_))
def rV(B:Int):Lk Bool:=(bg (decide (B>=18)) (some (decide (B<=21))) (some false):Lk Bool).bind λu=>some u
instance OD(B:Int):Fc Sy cL (rV B):=Fc.M 97 [.int .i64 B] (bZ 10 3 [0,5] 8 (bz 10 5 (bA 3) (bA 3)) λu=>a_)
def mA(B:Pred):Lk Bool:=(rV B.kind).bind λu=>some (!u)
instance KX(B:Pred):Fc Sy cL (mA B):=Fc.M 96 [enc B] (cu 2 1 B (bC 7 λu _=>a_))
def oK(D:Pred):Lk Bool:=(lW D).bind λu=>(bg u ((nK D (λz=>mA z)).bind λw=>some (!w)) (some false):Lk Bool).bind λB=>some B
instance OM(B:Pred):Fc Sy cL (oK B):=Fc.M 78 [enc B] (cu 2 1 B (bC 6 λu _=>bZ 1 4 [1,5] 9 (bz 1 5 (bC (F:=tR 96 [] (λz=>mA z) lS.rQ B) 1 λw _=>bA 2) (bA 4)) λC=>a_))
namespace iH
def jZ(D:Trace)(B G:Int)(J:aZ)(U:Bool)(x:aZ×Event):Lk (Fw Unit Empty aZ):=(bg (x.2.kind==B) (some (x.2.message==G)) (some false):Lk Bool).bind λu=>bg u (some (.r x.1)) (some (.n ()))
def E1(B:Trace)(D G:Int)(J:aZ)(U:Bool):Lk (aZ×Bool):=(jy B).bind λu=>(kV (λ(x:aZ×Event)(q:Unit)=>jZ B D G J U x) u ()).bind (Fw.qY (λq=>some (⟨0,0⟩,false)) (λe=>elim e) (λe=>some (e,true)))
end iH
def iH(D:Trace)(B G:Int):Lk (aZ×Bool):=(cQ D).bind λu=>bg u ((jD D).bind λw=>iH.E1 w B G (⟨0,0⟩:aZ) false) (some (⟨0,0⟩,false))
open iH in
instance Xl(G:Trace)(B D:Int):Fc Sy cL (iH G B D):=Fc.M 105 [enc G,.int .i64 B,.int .i64 D] (cu 2 3 G (bC 10 λL _=>dA 3 12 (bC 7 λw _=>FY λI z=>B5 4 [Pv 4,Pv 5,Pv 6,Pv 7,(15,.v (.clo 152 [] [.fptr (cells w)]))] (λC=>[(4,.box [iv B]),(5,.box [iv D]),Xb 6 (⟨0,0⟩:aZ),(7,.box [bv false])]) (λu=>elim u) (λu=>[(4,.box [iv B]),(5,.box [iv D]),Xb 6 u,(7,.box [bv true])]) (Ac w I z) (λJ C=>oM 8 9 0 J.2 (zy 1 (bZ 9 5 [9,22] 27 (bz 9 22 (bA 5) (bA 5)) λO=>bz 2 27 a_ a_))) (λC=>a_) (λx=>elim x) (λu=>a_)) a_))
def qH(B:Trace)(m1:Int):Lk (aZ×Bool):=(iH B 2 m1).bind λu=>some (u.1,u.2)
instance Wv(B:Trace)(m1:Int):Fc Sy cL (qH B m1):=Fc.M 88 [enc B,.int .i64 m1] (cu 2 2 B (bC 8 λu _=>a_))
namespace kO
def J3(B:Sl aZ)(W:Sl bU)(Y a:Int)(b:Sl Event)(c G:Int)(J:Trace)(d U:ct)(e:bU)(D:aZ):Lk (Fw ((Sl aZ)×Int×Trace×ct×ct) ((Sl aZ)×Trace×ct) Empty):=(ga B (D:aZ)).bind λu=>some (.n (u,wrap .i64 (G+1),J,(⟨Sl.nil,Sl.nil⟩:ct),U))
def bV(Y:Sl bU)(a b:Int)(J:Sl Event)(U:Int)(c:bU)(B:Sl aZ)(D:Int)(G:Trace)(d W:ct):Lk (Fw ((Sl aZ)×Int×Trace×ct×ct) ((Sl aZ)×Trace×ct) Empty):=bg (decide (D<U)) ((idx J D).bind λu=>bg (u.kind==3) ((qH G u.message).bind λw=>J3 B Y a b J U D G (⟨Sl.nil,Sl.nil⟩:ct) W c w.1) (J3 B Y a b J U D G (⟨Sl.nil,Sl.nil⟩:ct) W c (⟨0,0⟩:aZ))) (some (.x (B,G,W)))
def W2(B:Sl aZ)(J:Sl bU)(U D:Int)(W:Sl Event)(Y a:Int)(b:Trace)(c d:ct)(G:bU):Lk (Fw (Int×Trace×ct×ct) ct Empty):=(bT (λq:(Sl aZ)×Int×Trace×ct×ct=>bV J U D W Y G q.1 q.2.1 q.2.2.1 q.2.2.2.1 q.2.2.2.2) (B,a,b,c,d)).bind (Fw.elim (λe=>(ga e.2.2.lengths (len G.events:Int)).bind λu=>(ga e.2.2.need (e.1:Sl aZ)).bind λw=>some (.n (wrap .i64 (D+1),e.2.1,(⟨Sl.nil,Sl.nil⟩:ct),(⟨u,w⟩:ct)))) (λe=>elim e))
def bp(D:Sl bU)(G:Int)(B:Int)(U:Trace)(W J:ct):Lk (Fw (Int×Trace×ct×ct) ct Empty):=bg (decide (B<G)) ((idx D B).bind λu=>W2 (Sl.nil:Sl aZ) D G B u.events (len u.events) 0 U (⟨Sl.nil,Sl.nil⟩:ct) J u) (some (.x J))
def W1(B:Sl bU)(D G:Int)(J:Trace)(U W:ct):Lk ct:=(bT (λq:Int×Trace×ct×ct=>bp B D q.1 q.2.1 q.2.2.1 q.2.2.2) (G,J,U,W)).bind (Fw.elim (λe=>some e) (λe=>elim e))
end kO
def kO(B:Trace):Lk ct:=kO.W1 B.procs (len B.procs) 0 B (⟨Sl.nil,Sl.nil⟩:ct) (⟨Sl.nil,Sl.nil⟩:ct)
open kO in
instance ZN(D:Trace):Fc Sy cL (kO D):=Fc.N 101 [enc D] (cu 2 1 D (b7 13 D.procs (fN 7 (λu=>(bL [Pv 1,Pv 2,Pv 3,Cv 11 D.procs,Iv 12 (len D.procs),Iv 13 u.1] [Xb 1 u.2.1,Xb 2 (⟨Sl.nil,Sl.nil⟩:ct),(3,.box [.own 4060,.own 4061]),Lb 4060 u.2.2.2.lengths,Lb 4061 u.2.2.2.need])) (λC=>(0,(bL [Pv 2,Pv 3] [Xb 2 (⟨Sl.nil,Sl.nil⟩:ct),(3,.box [.own 4060,.own 4061]),Lb 4060 C.lengths,Lb 4061 C.need]))) (λu=>bz 9 14 (bP 7 λw _=>oM 2 5 0 w (b7 12 w.events (fN 8 (λz=>(bL [Pv 1,Pv 2,Pv 3,Pv 5,Ov 6,Cv 11 D.procs,Iv 12 (len D.procs),Iv 13 u.1,Cv 18 w.events,Iv 19 (len w.events),Iv 20 z.2.1] [Xb 1 z.2.2.1,Xb 2 (⟨Sl.nil,Sl.nil⟩:ct),(3,.box [.own 4060,.own 4061]),Xb 5 w,Lb 2006 z.1,Lb 4060 z.2.2.2.2.lengths,Lb 4061 z.2.2.2.2.need])) (λB=>(2,(bL [Pv 1,Pv 2,Pv 3,Pv 5,Ov 6,Cv 11 D.procs,Iv 12 (len D.procs),Iv 13 u.1] [Xb 1 B.2.1,Xb 2 (⟨Sl.nil,Sl.nil⟩:ct),(3,.box [.own 4060,.own 4061]),Xb 5 w,Lb 2006 B.1,Lb 4060 B.2.2.lengths,Lb 4061 B.2.2.need]))) (λz=>bz 10 21 (bP 7 λG _=>oM 2 8 0 G (bz 15 26 (bC 5 λJ _=>tI 10 (n_ 4 2006 36 37 λI _=>a_)) (tI 7 (n_ 4 2006 36 37 λI _=>a_)))) a_) (λB=>b7 8 w.events (n_ 1 4060 44 45 λL _=>zu 9 50 ([B.1]:L' (Sl aZ)) (n_ 0 4061 50 51 λO _=>a_)))))) a_) (λC=>oM 7 2 0 C a_))))
def pI(J:ct)(B:Sl Int)(p2:Int):Lk Bool:=(idx B p2).bind λw=>(idx J.lengths p2).bind λz=>bg (w==z) (some false) ((idx J.need p2).bind λC=>(idx B p2).bind λD=>(idx C D).bind λu=>(idx B u.proc).bind λG=>some (decide (u.index<=G)))
instance PL(B:ct)(D:Sl Int)(p2:Int):Fc Sy cL (pI B D p2):=Fc.M 122 [enc B,enc D,.int .i64 p2] (cu 2 3 B (bP 8 λu _=>bP 4 λw _=>bz 4 17 a_ (bP 8 λz _=>bP 3 λC _=>bP 1 λG _=>bP 12 λI _=>a_)))
def sH(B:Int):Lk Bool:=some (!(B==B))
instance Uk(B:Int):Fc Sy cL (sH B):=Fc.M 173 [.int .i64 B] (a_)
def qo(B D:Int):Lk Int:=(sH B).bind λw=>(sH D).bind λu=>bg w (bg u (some 0) (some (-1))) (bg u (some 1) (bg (decide (B<D)) (some (-1)) (bg (decide (B>D)) (some 1) (some 0))))
instance Q_(B D:Int):Fc Sy cL (qo B D):=Fc.M 147 [.int .i64 B,.int .i64 D] (bC 8 λu _=>bC 6 λw _=>bz 9 11 (bz 7 12 a_ a_) (bz 9 13 a_ (bz 11 16 a_ (bz 11 19 a_ a_))))
namespace fC
def bp(J D U:Sl Int)(G:Int)(B:Int):Lk (Fw Int Unit Int):=bg (decide (B<G)) ((idx U B).bind λw=>bg (decide (B>=(len D))) (some (.r 1)) ((idx D B).bind λz=>(qo w z).bind λu=>bg (u==0) (some (.n (wrap .i64 (B+1)))) (some (.r u)))) (some (.x ()))
def W1(B D U:Sl Int)(G J:Int):Lk Int:=(bT (λq:Int=>bp B D U G q) J).bind (Fw.elim (λe=>bg (decide ((len B)<(len D))) (some (-1)) (some 0)) (λe=>some e))
end fC
def fC(B D:Sl Int):Lk Int:=fC.W1 B D B (len B) 0
open fC in
instance Oa(B D:Sl Int):Fc Sy cL (fC B D):=Fc.M 125 [enc B,enc D] (b7 9 B (dY 5 (λw=>(bL [Cv 0 B,Cv 1 D,Cv 9 B,Iv 10 (len B),Iv 11 w] [])) (λu=>(0,(bL [Cv 0 B,Cv 1 D] []))) (λu=>(bL [Iv 4 u] [])) (λw=>bz 7 12 (bP 8 λz _=>b7 10 D (bz 3 19 a_ (bP 7 λC _=>bC 8 λG _=>dA 9 28 a_ a_))) a_) (λu=>b7 6 B (b7 1 D (bz 3 35 a_ a_))) (λu=>a_)))
def jX(a0 B:Sl Int):Lk Int:=(fC a0 B).bind λu=>some u
instance No(a0 B:Sl Int):Fc Sy cL (jX a0 B):=Fc.M 124 [enc a0,enc B] (bC 9 λu _=>a_)
namespace e9
def bp(D G:Sl Int)(J:Int)(B:Int):Lk (Fw Int Unit Unit):=bg (decide (B<J)) ((idx D B).bind λu=>(idx G B).bind λw=>bg (u==w) (some (.n (wrap .i64 (B+1)))) (some (.r ()))) (some (.x ()))
def W1(B D:Sl Int)(G J:Int):Lk Bool:=(bT (λq:Int=>bp B D G q) J).bind (Fw.elim (λe=>some true) (λe=>some false))
end e9
def e9(B D:Sl Int):Lk Bool:=bg ((len B)==(len D)) (e9.W1 B D (len B) 0) (some false)
open e9 in
instance Pn(B D:Sl Int):Fc Sy cL (e9 B D):=Fc.M 11 [enc B,enc D] (b7 9 B (b7 1 D (dA 3 10 (b7 7 B (dY 5 (λw=>(bL [Cv 0 B,Cv 1 D,Iv 12 (len B),Iv 13 w] [])) (λu=>(0,(bL [] []))) (λu=>(bL [Bv 4 false] [])) (λw=>bz 7 14 (bP 15 λz _=>bP 3 λC _=>dA 4 24 a_ a_) a_) (λu=>a_) (λu=>a_))) a_)))
def lP(a0 B:Sl Int):Lk Bool:=(e9 a0 B).bind λu=>some u
instance M9(a0 B:Sl Int):Fc Sy cL (lP a0 B):=Fc.M 127 [enc a0,enc B] (bC 9 λu _=>a_)
namespace eE
def bV(U:Sl Int)(W:Sl (Sl Int))(Y a G:Int)(J:ct)(D:Sl (Sl Int))(B:Int):Lk (Fw ((Sl (Sl Int))×Int) (Sl (Sl Int)) Empty):=bg (decide (B<G)) ((pI J U B).bind λw=>bg w (((dR U).bind Sl.whole).bind λu=>(Sl.kS u B).bind λz=>(Sl.get u z).bind λC=>(Sl.kS u B).bind λI=>(Sl.put u I (wrap .i64 (C+1):Int)).bind λL=>(ga D (L:Sl Int)).bind λO=>some (.n (O,wrap .i64 (B+1)))) (some (.n (D,wrap .i64 (B+1))))) (some (.x D))
def W2(B:Sl (Sl Int))(a:Sl Int)(J:Sl (Sl Int))(D G U W:Int)(Y:ct):Lk (Fw ((Sl (Sl Int))×Int×Int) (Sl (Sl Int)) Empty):=(bT (λq:(Sl (Sl Int))×Int=>bV a J D G U Y q.1 q.2) (B,W)).bind (Fw.elim (λe=>some (.n (e,D,wrap .i64 (G+1)))) (λe=>elim e))
def bp(G:Sl (Sl Int))(U:ct)(B:Sl (Sl Int))(J D:Int):Lk (Fw ((Sl (Sl Int))×Int×Int) (Sl (Sl Int)) Empty):=bg (decide (D<J)) ((idx G D).bind λu=>W2 B u G J D (len u) 0 U) (some (.x B))
def W1(B D:Sl (Sl Int))(G J:Int)(U:ct):Lk (Sl (Sl Int)):=(bT (λq:(Sl (Sl Int))×Int×Int=>bp D U q.1 q.2.1 q.2.2) (B,G,J)).bind (Fw.elim (λe=>(zP e jX).bind λw=>(yK w lP).bind λu=>some u) (λe=>elim e))
end eE
def eE(D:ct)(B:Sl (Sl Int)):Lk (Sl (Sl Int)):=eE.W1 (Sl.nil:Sl (Sl Int)) B (len B) 0 D
open eE in
instance Q7(G:ct)(B:Sl (Sl Int)):Fc Sy cL (eE G B):=Fc.N 102 [enc G,enc B] (cu 2 2 G (b7 12 B (fN 6 (λu=>(bL [Pv 2,Ov 5,Cv 10 B,Iv 11 u.2.1,Iv 12 u.2.2] [Xb 2 G,Lb 2005 u.1])) (λI=>(0,(bL [Ov 5] [Lb 2005 I]))) (λu=>bz 8 13 (bP 7 λw _=>b7 7 w (fN 6 (λC=>(bL [Pv 2,Ov 5,Cv 7 w,Cv 10 B,Iv 11 u.2.1,Iv 12 u.2.2,Iv 17 (len w),Iv 18 C.2] [Xb 2 G,Lb 2005 C.1])) (λJ=>(2,(bL [Pv 2,Ov 5,Cv 10 B,Iv 11 u.2.1,Iv 12 u.2.2] [Xb 2 G,Lb 2005 J]))) (λC=>bz 8 19 (bC 16 λQ _=>bz 2 24 (NC 4 26 gE w λS _=>kZ .i64 7 26 λT _=>rU 0 26 0 1 false (λD=>.int .i64 D) λD _=>kZ .i64 1 26 λU _=>Da 0 26 (.int .i64 (wrap .i64 (D+1))) λL _=>zu 6 35 ([L]:L' (Sl Int)) (n_ 0 2005 35 36 λW _=>a_)) a_) a_) (λJ=>a_))) a_) (λI=>YR 5 2005 Ie Cu Vl (gT.rQ (λz=>inferInstanceAs (Fc Sy cL (jX z.1 z.2))) default (λ_=>rfl) (λ_=>rfl) (λ_=>rfl) (λ_=>rfl)) λX _=>YZ 5 2005 42 Ie Cu Vr (gT.rQ (λz=>inferInstanceAs (Fc Sy cL (lP z.1 z.2))) default (λ_=>rfl) (λ_=>rfl) (λ_=>rfl) (λ_=>rfl)) λO _=>a_))))
namespace ki
def bp(J:ct)(B:Sl (Sl Int))(G:Sl (Sl (Sl Int)))(D:Int):Lk (Fw ((Sl (Sl Int))×(Sl (Sl (Sl Int)))×Int) (Sl (Sl (Sl Int))) Unit):=bg (decide ((len B)>0)) (bg (decide ((wrap .i64 (D+(len B)))>5000)) (some (.r ())) ((ga G (B:Sl (Sl Int))).bind λu=>(eE J B).bind λw=>some (.n (w,u,wrap .i64 (D+(len B)))))) (some (.x G))
def W1(B:Sl (Sl Int))(G:Sl (Sl (Sl Int)))(D:Int)(J:ct):Lk ((Sl (Sl (Sl Int)))×Int):=(bT (λq:(Sl (Sl Int))×(Sl (Sl (Sl Int)))×Int=>bp J q.1 q.2.1 q.2.2) (B,G,D)).bind (Fw.elim (λe=>some (e,0)) (λe=>some ((Sl.nil:Sl (Sl (Sl Int))),16)))
end ki
def ki(B:Trace):Lk ((Sl (Sl (Sl Int)))×Int):=(cQ B).bind λu=>bg u ((kO B).bind λw=>(tV (len B.procs) (0:Int)).bind λz=>ki.W1 (Sl.row [z]:Sl (Sl Int)) (Sl.nil:Sl (Sl (Sl Int))) 0 w) (some ((Sl.nil:Sl (Sl (Sl Int))),1))
open ki in
instance WN(B:Trace):Fc Sy cL (ki B):=Fc.N 81 [enc B] (cu 2 1 B (bC 8 λD _=>dA 3 10 (bC 6 λz _=>oM 1 4 0 z (b7 6 B.procs (UF 0 16 λC _=>zu 1 17 ([C]:L' (Sl Int)) (dY 18 (λu=>(bL [Pv 4,Cv 5 u.1,Ov 6,Iv 7 u.2.2] [Xb 4 z,Lb 2006 u.2.1])) (λw=>(0,(bL [Ov 6] [Lb 2006 w]))) (λw=>(bL [Ov 2,Iv 3 16] [Lb 2002 (Sl.nil:Sl (Sl (Sl Int)))])) (λu=>b7 7 u.1 (bz 3 20 (b7 10 u.1 (bz 10 29 a_ (zu 6 32 ([u.1]:L' (Sl (Sl Int))) (n_ 0 2006 32 33 λG _=>bC 7 λI _=>a_)))) a_)) (λw=>a_) (λw=>a_))))) a_))
def f_(s:Sl (Sl (Sl Int))):Lk (Sl (Sl Int)):=if s.l.length<=2147483648/\(s.l.flatMap Sl.l).length<=2147483648 then some (Bx s)else none
instance N_(s:Sl (Sl (Sl Int))):Fc Sy cL (f_ s):=Fc.of (A:=λz:Sl (Sl (Sl Int))=>[enc z]) (E:=λr:Sl (Sl Int)=>[enc r]) (p:=f_) (n:=82) (z:=s) (gT.Xd Zad Zad (λz r h=>by
 unfold f_ at h;split at h
 next a=>cases h;exact AM (Wc (E:=Sy.E) (N:=λn=>n) (gid:=103) (nm:=some) (λ_ _ h=>(Option.some.inj h).symm) rfl Zad Zad (Dy Zad) (Dy Zad) rfl z a.1 a.2)
 cases h))
def th(B:Trace):Lk ((Sl (Sl Int))×Int):=(ki B).bind λu=>(f_ u.1).bind λw=>some (w,u.2)
instance YJ(B:Trace):Fc Sy cL (th B):=Fc.N 63 [enc B] (cu 2 1 B (bC 7 λu _=>bC 10 λw _=>a_))
def pz(B:Trace):Lk ((Sl (Sl Int))×Int):=(th B).bind λu=>some (u.1,u.2)
instance YI(B:Trace):Fc Sy cL (pz B):=Fc.N 44 [enc B] (cu 2 1 B (bC 7 λu _=>a_))
def kD(B:Sl Int)(D:Trace):Lk Bool:=some (!((len B)==(len D.procs)))
instance Vw(B:Sl Int)(D:Trace):Fc Sy cL (kD B D):=Fc.M 87 [enc B,.fptr (cells D)] (b7 8 B (b7 2 D.procs a_))
namespace gI
def bp(s0:Sl (Sl Int))(D:Int)(B:Int)(p1:(Sl Int)->Lk Bool):Lk (Fw Int Unit Int):=bg (decide (B<D)) ((idx s0 B).bind λu=>(p1 u).bind λw=>bg w (some (.r B)) (some (.n (wrap .i64 (B+1))))) (some (.x ()))
def W1(s0:Sl (Sl Int))(B D:Int)(p1:(Sl Int)->Lk Bool):Lk Int:=(bT (λq:Int=>bp s0 B q p1) D).bind (Fw.elim (λe=>some (-1)) (λe=>some e))
end gI
def gI(s0:Sl (Sl Int))(p1:(Sl Int)->Lk Bool):Lk Int:=gI.W1 s0 (len s0) 0 p1
open gI in
abbrev xS(g1:FuncId)(e1:L' V)(p1:(Sl Int)->Lk Bool)(a:lS Sy cL g1 [] e1 (λz:Sl Int=>[enc z]) (λr:Bool=>[.bool r]) p1 true)(s0:Sl (Sl Int)):Fc Sy cL (gI s0 p1):=Fc.M 85 [enc s0,.clo g1 [] e1] (b7 9 s0 (dY 5 (λw=>(bL [Cv 0 s0,(1,.v (.clo g1 [] e1)),Iv 7 (len s0),Iv 8 w] [])) (λu=>(0,(bL [] []))) (λu=>(bL [Iv 4 u] [])) (λw=>bz 7 9 (bP 16 λB _=>yw 1 a.f B λC _=>bz 2 16 a_ a_) a_) (λu=>a_) (λu=>a_)))
def iT(s0:Sl (Sl Int))(p1:(Sl Int)->Lk Bool):Lk Bool:=(gI s0 p1).bind λu=>some (decide (u>=0))
abbrev pT(g1:FuncId)(e1:L' V)(p1:(Sl Int)->Lk Bool)(a:lS Sy cL g1 [] e1 (λz:Sl Int=>[enc z]) (λr:Bool=>[.bool r]) p1 true)(s0:Sl (Sl Int)):Fc Sy cL (iT s0 p1):=Fc.M 65 [enc s0,.clo g1 [] e1] (bC (F:=xS g1 e1 p1 a s0) 9 λu _=>a_)
def yA(D:Trace)(G:Sl (Sl Int)):Lk Bool:=(cQ D).bind λu=>(bg u ((iT G (λz=>kD z D)).bind λw=>some (!w)) (some false):Lk Bool).bind λB=>some B
instance YG(B:Trace)(D:Sl (Sl Int)):Fc Sy cL (yA B D):=Fc.M 68 [enc B,enc D] (cu 2 2 B (bC 6 λu _=>bZ 1 5 [1,2,7] 12 (bz 1 7 (cZ (F:=pT 87 [.fptr (cells B)] (λz=>kD z B) lS.rQ D) 2 λw _=>bA 2) (bA 5)) λC=>a_))
namespace kn
def bp(G:Sl Int)(J:Int)(D:Trace)(B:Int):Lk (Fw Int Unit Unit):=bg (decide (B<J)) ((idx G B).bind λu=>(bg (decide (u<0)) (some true) ((idx D.procs B).bind λw=>some (decide (u>(len w.events)))):Lk Bool).bind λz=>bg z (some (.r ())) (some (.n (wrap .i64 (B+1))))) (some (.x ()))
def W1(D:Sl Int)(G J:Int)(B:Trace):Lk Bool:=(bT (λq:Int=>bp D G B q) J).bind (Fw.elim (λe=>some true) (λe=>some false))
end kn
def kn(D:Trace)(B:Sl Int):Lk Bool:=kn.W1 B (len B) 0 D
open kn in
instance WK(D:Trace)(B:Sl Int):Fc Sy cL (kn D B):=Fc.M 69 [enc D,enc B] (cu 2 2 D (b7 7 B (dY 5 (λw=>(bL [Pv 2,Cv 7 B,Iv 8 (len B),Iv 9 w] [Xb 2 D])) (λu=>(0,(bL [] []))) (λu=>(bL [Bv 4 false] [])) (λw=>bz 7 10 (bP 8 λC _=>bZ 10 10 [5,6,16] 26 (bz 10 16 (bA 10) (bP 4 λz _=>b7 2 z.events (bA 2))) λG=>bz 2 26 a_ a_) a_) (λu=>a_) (λu=>a_))))
def vo(B:Trace)(p1:Int):Lk Bool:=(bg (decide (p1>=0)) (some (decide (p1<(len B.procs)))) (some false):Lk Bool).bind λu=>some u
instance Xc(B:Trace)(p1:Int):Fc Sy cL (vo B p1):=Fc.M 83 [enc B,.int .i64 p1] (cu 2 2 B (bZ 8 6 [1,2,7] 13 (bz 8 7 (b7 3 B.procs (bA 2)) (bA 6)) λu=>a_))
namespace iq
def bV(Y:Sl Int)(p7:Int)(a:Sl Int)(b c:Int)(J:Sl Event)(U:Int)(W:Trace)(G D:aZ)(B:Int):Lk (Fw Int Unit (aZ×aZ)):=bg (decide (B<U)) ((idx J B).bind λw=>bg (w.kind==3) ((qH W w.message).bind λu=>(idx Y u.1.proc).bind λz=>bg (decide (u.1.index>z)) (some (.r (u.1,(⟨p7,wrap .i64 (B+1)⟩:aZ)))) (some (.n (wrap .i64 (B+1))))) (some (.n (wrap .i64 (B+1))))) (some (.x ()))
def W2(a:Sl Int)(p7:Int)(J:Sl Int)(U G:Int)(W:Sl Event)(Y b:Int)(c:Trace)(D B:aZ):Lk (Fw Int Unit (aZ×aZ)):=(bT (λq:Int=>bV a p7 J U G W Y c D B q) b).bind (Fw.elim (λe=>some (.n (wrap .i64 (G+1)))) (λe=>some (.r (e.1,e.2))))
def bp(Y J:Sl Int)(U:Int)(W:Trace)(G B:aZ)(D:Int):Lk (Fw Int Unit (aZ×aZ)):=bg (decide (D<U)) ((idx J D).bind λw=>(idx W.procs D).bind λz=>(gj z.events none (some w)).bind λu=>W2 Y D J U D u (len u) 0 W G B) (some (.x ()))
def W1(Y G:Sl Int)(J U:Int)(W:Trace)(D B:aZ):Lk (aZ×aZ×Bool):=(bT (λq:Int=>bp Y G J W D B q) U).bind (Fw.elim (λe=>some (⟨0,0⟩,⟨0,0⟩,false)) (λe=>some (e.1,e.2,true)))
end iq
def iq(D:Trace)(B:Sl Int):Lk (aZ×aZ×Bool):=iq.W1 B B (len B) 0 D (⟨0,0⟩:aZ) (⟨0,0⟩:aZ)
open iq in
instance WJ(D:Trace)(B:Sl Int):Fc Sy cL (iq D B):=Fc.M 70 [enc D,enc B] (cu 2 2 D (b7 9 B (dY 5 (λu=>(bL [Cv 1 B,Pv 2,Pv 4,Pv 5,Cv 13 B,Iv 14 (len B),Iv 15 u] [Xb 2 D,Xb 4 (⟨0,0⟩:aZ),Xb 5 (⟨0,0⟩:aZ)])) (λw=>(0,(bL [Pv 4,Pv 5] [Xb 4 (⟨0,0⟩:aZ),Xb 5 (⟨0,0⟩:aZ)]))) (λw=>(bL [Pv 4,Pv 5,Bv 6 true] [Xb 4 w.1,Xb 5 w.2])) (λu=>bz 7 16 (bP 8 λI _=>bP 10 λL _=>BR 3 false true [.int .i64 I] λC _=>b7 0 C (dY 5 (λG=>(bL [Cv 1 B,Pv 2,Pv 4,Pv 5,Iv 7 u,Cv 13 B,Iv 14 (len B),Iv 15 u,Cv 27 C,Iv 28 (len C),Iv 29 G] [Xb 2 D,Xb 4 (⟨0,0⟩:aZ),Xb 5 (⟨0,0⟩:aZ)])) (λz=>(2,(bL [Cv 1 B,Pv 2,Pv 4,Pv 5,Cv 13 B,Iv 14 (len B),Iv 15 u] [Xb 2 D,Xb 4 (⟨0,0⟩:aZ),Xb 5 (⟨0,0⟩:aZ)]))) (λz=>(bL [Pv 4,Pv 5,Bv 6 true] [Xb 4 z.1,Xb 5 z.2])) (λG=>bz 7 30 (bP 8 λJ _=>oM 3 10 0 J (dA 10 36 (bC 8 λO _=>bP 15 λQ _=>bz 4 51 a_ a_) a_)) a_) (λz=>a_) (λz=>a_))) a_) (λw=>a_) (λw=>a_))))
def wD(B:Trace)(D:Sl Int):Lk Bool:=(iq B D).bind λu=>some (!u.2.2)
instance X7(B:Trace)(D:Sl Int):Fc Sy cL (wD B D):=Fc.M 84 [enc B,enc D] (cu 2 2 B (bC 7 λu _=>a_))
namespace dx
def eU(D:Sl (Sl Int))(G:Int)(J:Trace)(B:Int):Lk (Fw Int Unit Unit):=bg (decide (B<G)) ((idx D B).bind λu=>(wD J u).bind λw=>bg w (some (.n (wrap .i64 (B+1)))) (some (.r ()))) (some (.x ()))
def W3(B:Sl (Sl Int))(D G:Int)(J:Trace):Lk Int:=(bT (λq:Int=>eU B D J q) G).bind (Fw.elim (λe=>some 0) (λe=>some 18))
def bV(U:Sl (Sl Int))(D:Sl Int)(G:Int)(J:Trace)(B:Int):Lk (Fw Int Unit Unit):=bg (decide (B<G)) ((idx D B).bind λu=>(vo J u).bind λw=>bg w (some (.n (wrap .i64 (B+1)))) (some (.r ()))) (some (.x ()))
def W2(D:Sl (Sl Int))(G:Sl Int)(J U:Int)(B:Trace):Lk Int:=(bT (λq:Int=>bV D G J B q) U).bind (Fw.elim (λe=>dx.W3 D (len D) 0 B) (λe=>some 2))
def bp(W:Sl (Sl Int))(D:Sl Int)(G:Sl (Sl Int))(J:Int)(U:Trace)(B:Int):Lk (Fw Int Unit Unit):=bg (decide (B<J)) ((idx G B).bind λu=>(kn U u).bind λw=>bg w (some (.n (wrap .i64 (B+1)))) (some (.r ()))) (some (.x ()))
def W1(W:Sl (Sl Int))(B:Sl Int)(G:Sl (Sl Int))(J U:Int)(D:Trace):Lk Int:=(bT (λq:Int=>bp W B G J D q) U).bind (Fw.elim (λe=>dx.W2 W B (len B) 0 D) (λe=>some 2))
end dx
def dx(G:Trace)(D:Sl (Sl Int))(B:Sl Int):Lk Int:=(yA G D).bind λu=>bg u (dx.W1 D B D (len D) 0 G) (some 1)
open dx in
instance YK(G:Trace)(D:Sl (Sl Int))(B:Sl Int):Fc Sy cL (dx G D B):=Fc.M 64 [enc G,enc D,enc B] (cu 2 3 G (bC 8 λL _=>dA 3 16 (b7 7 D (dY 5 (λC=>(bL [Cv 1 D,Cv 2 B,Pv 3,Cv 17 D,Iv 18 (len D),Iv 19 C] [Xb 3 G])) (λu=>(0,(bL [Cv 1 D,Cv 2 B,Pv 3] [Xb 3 G]))) (λu=>(bL [Iv 6 2] [])) (λC=>bz 7 20 (bP 7 λO _=>bC 8 λQ _=>dA 3 26 a_ a_) a_) (λu=>b7 6 B (dY 5 (λI=>(bL [Cv 1 D,Pv 3,Cv 28 B,Iv 29 (len B),Iv 30 I] [Xb 3 G])) (λw=>(2,(bL [Cv 1 D,Pv 3] [Xb 3 G]))) (λw=>(bL [Iv 6 2] [])) (λI=>bz 7 31 (bP 7 λS _=>bC 8 λT _=>dA 3 37 a_ a_) a_) (λw=>b7 6 D (dY 5 (λJ=>(bL [Pv 3,Cv 39 D,Iv 40 (len D),Iv 41 J] [Xb 3 G])) (λz=>(4,(bL [] []))) (λz=>(bL [Iv 6 18] [])) (λJ=>bz 7 42 (bP 7 λU _=>bC 8 λW _=>dA 3 48 a_ a_) a_) (λz=>a_) (λz=>a_))) (λw=>a_))) (λu=>a_))) a_))
namespace jE
def bp(G:Sl Int)(J:Int)(B:Sl aZ)(D:Int):Lk (Fw ((Sl aZ)×Int) (Sl aZ) Empty):=bg (decide (D<J)) ((idx G D).bind λu=>bg (decide (u>0)) ((ga B (⟨D,u⟩:aZ)).bind λw=>some (.n (w,wrap .i64 (D+1)))) (some (.n (B,wrap .i64 (D+1))))) (some (.x B))
def W1(B:Sl aZ)(D:Sl Int)(G J:Int):Lk ((Sl aZ)×Int):=(bT (λq:(Sl aZ)×Int=>bp D G q.1 q.2) (B,J)).bind (Fw.elim (λe=>some (e,0)) (λe=>elim e))
end jE
def jE(D:Trace)(B:Sl Int):Lk ((Sl aZ)×Int):=(dx D (Sl.row [B]:Sl (Sl Int)) (Sl.nil:Sl Int)).bind λu=>bg (u==0) (jE.W1 (Sl.nil:Sl aZ) B (len B) 0) (some (Sl.nil,u))
open jE in
instance Ve(D:Trace)(B:Sl Int):Fc Sy cL (jE D B):=Fc.N 98 [enc D,enc B] (cu 2 2 D (zu 9 12 ([B]:L' (Sl Int)) (cZ 0 λz _=>dA 9 15 (b7 12 B (fN 6 (λu=>(bL [Ov 7,Cv 17 B,Iv 18 (len B),Iv 19 u.2] [Lb 2007 u.1])) (λw=>(0,(bL [Ov 7] [Lb 2007 w]))) (λu=>bz 8 20 (bP 8 λC _=>bz 11 25 (n_ 7 2007 30 31 λG _=>a_) a_) a_) (λw=>a_))) a_)))
namespace fU
def jZ(B:bU)(D:Int)(x:Int×(Sl Int))(G:Sl Int):Lk (Fw (Sl Int) Empty (Sl Int)):=bg (x.1==D) (some (.r x.2)) (some (.n (Sl.nil:Sl Int)))
def E1(B:bU)(D:Int)(G:Sl Int):Lk (Sl Int):=(jF B).bind λu=>(kV (λ(x:Int×(Sl Int))(q:Sl Int)=>jZ B D x q) u G).bind (Fw.qY (λq=>some Sl.nil) (λe=>elim e) (λe=>some e))
end fU
def fU(B:bU)(k1:Int):Lk (Sl Int):=(nT B).bind λu=>fU.E1 u k1 (Sl.nil:Sl Int)
open fU in
instance Tn(D:bU)(k1:Int):Fc Sy cL (fU D k1):=Fc.N 99 [enc D,.int .i64 k1] (cu 2 2 D (bC 8 λw _=>FY λC z=>B5 4 [Pv 3,Pv 4,(8,.v (.clo 141 [] [.fptr (cells w)]))] (λB=>[(3,.box [iv k1]),(4,.box [.v .bM])]) (λu=>elim u) (λu=>[(3,.box [iv k1]),(4,.box [cv u])]) (G9 w C z) (λG B=>zy 8 (bz 9 13 (oM 4 4 0 G.2 a_) a_)) (λB=>a_) (λx=>elim x) (λu=>a_)))
namespace iY
def bp(G:Sl Int)(J:Int)(U:Trace)(D:Sl (Sl Int))(B:Int):Lk (Fw ((Sl (Sl Int))×Int) (Sl (Sl Int)) Empty):=bg (decide (B<J)) ((idx G B).bind λu=>(idx U.procs B).bind λw=>(fU w u).bind λz=>(ga D (z:Sl Int)).bind λC=>some (.n (C,wrap .i64 (B+1)))) (some (.x D))
def W1(B:Sl (Sl Int))(D:Sl Int)(G J:Int)(U:Trace):Lk ((Sl (Sl Int))×Int):=(bT (λq:(Sl (Sl Int))×Int=>bp D G U q.1 q.2) (B,J)).bind (Fw.elim (λe=>some (e,0)) (λe=>elim e))
end iY
def iY(D:Trace)(B:Sl Int):Lk ((Sl (Sl Int))×Int):=(jE D B).bind λu=>bg (u.2==0) (iY.W1 (Sl.nil:Sl (Sl Int)) B (len B) 0 D) (some (Sl.nil,u.2))
open iY in
instance WO(D:Trace)(B:Sl Int):Fc Sy cL (iY D B):=Fc.N 79 [enc D,enc B] (cu 2 2 D (bC 9 λC _=>dA 13 18 (b7 12 B (fN 6 (λu=>(bL [Pv 2,Ov 8,Cv 20 B,Iv 21 (len B),Iv 22 u.2] [Xb 2 D,Lb 2008 u.1])) (λw=>(0,(bL [Ov 8] [Lb 2008 w]))) (λu=>bz 8 23 (bP 8 λG _=>bP 10 λI _=>bC 2 λz _=>zu 0 35 ([z]:L' (Sl Int)) (n_ 0 2008 35 36 λJ _=>a_)) a_) (λw=>a_))) a_))
def kg(B:Var)(D:Pred):Lk Bool:=some (toList B.name==toList D.name)
instance Gk(B:Var)(D:Pred):Fc Sy cL (kg B D):=Fc.M 143 [enc B,.fptr (cells D)] (a_)
def ou(D:ck)(p1:Pred):Lk Int:=(idx D.t.procs p1.proc).bind λu=>(fA u.vars (λz=>kg z p1)).bind λw=>(idx D.values p1.proc).bind λB=>(idx B w).bind λC=>some C
instance Jt(B:ck)(p1:Pred):Fc Sy cL (ou B p1):=Fc.M 120 [enc B,enc p1] (cu 2 2 B (cu 0 3 p1 (bP 10 λu _=>cZ (F:=oe 143 [.fptr (cells p1)] (λz=>kg z p1) lS.rQ u.vars) 3 λw _=>bP 9 λC _=>bP 2 λD _=>a_)))
def uX(B:Trace)(m1:Int):Lk (aZ×Bool):=(iH B 3 m1).bind λu=>some (u.1,u.2)
instance Tw(B:Trace)(m1:Int):Fc Sy cL (uX B m1):=Fc.M 162 [enc B,.int .i64 m1] (cu 2 2 B (bC 8 λu _=>a_))
namespace iV
def bp(W:Sl Int)(Y:Int)(J:Sl Event)(U:Trace)(B:Sl Int)(G D:Int):Lk (Fw ((Sl Int)×Int×Int) (Sl Int) Empty):=bg (decide (D<G)) ((idx J D).bind λu=>(bg (u.kind==2) (some (!(u.peer==Y))) (some true):Lk Bool).bind λC=>bg C (some (.n (B,G,wrap .i64 (D+1)))) ((uX U u.message).bind λw=>(bg w.2 ((idx W w.1.proc).bind λI=>some (decide (w.1.index>I))) (some true):Lk Bool).bind λL=>bg L ((ga B (u.message:Int)).bind λz=>some (.n (z,G,wrap .i64 (D+1)))) (some (.n (B,G,wrap .i64 (D+1)))))) (some (.x B))
def W1(W:Sl Int)(Y:Int)(B:Sl Int)(D:Sl Event)(G J:Int)(U:Trace):Lk ((Sl Int)×Int):=(bT (λq:(Sl Int)×Int×Int=>bp W Y D U q.1 q.2.1 q.2.2) (B,G,J)).bind (Fw.elim (λe=>some (e,0)) (λe=>elim e))
end iV
def iV(B:Trace)(D:Sl Int)(p2 G:Int):Lk ((Sl Int)×Int):=(dx B (Sl.row [D]:Sl (Sl Int)) (Sl.row [p2,G]:Sl Int)).bind λu=>bg (u==0) ((idx B.procs p2).bind λz=>(idx D p2).bind λC=>(gj z.events none (some C)).bind λw=>iV.W1 D G (Sl.nil:Sl Int) w (len w) 0 B) (some (Sl.nil,u))
open iV in
instance Wj(B:Trace)(D:Sl Int)(p2 G:Int):Fc Sy cL (iV B D p2 G):=Fc.N 144 [enc B,enc D,.int .i64 p2,.int .i64 G] (cu 2 4 B (zu 9 18 ([D]:L' (Sl Int)) (cZ 3 λL _=>dA 9 24 (bP 14 λO _=>bP 4 λC _=>BR 1 false true [.int .i64 C] λw _=>b7 0 w (fN 6 (λu=>(bL [Cv 1 D,Iv 3 G,Pv 4,Ov 11,Cv 36 w,Iv 37 u.2.1,Iv 38 u.2.2] [Xb 4 B,Lb 2011 u.1])) (λz=>(0,(bL [Ov 11] [Lb 2011 z]))) (λu=>bz 8 39 (bP 7 λI _=>oM 2 13 0 I (bZ 9 5 [45] 50 (dA 9 45 (bA 5) (bA 5)) λQ=>bz 2 50 a_ (bC 8 λS _=>bZ 13 9 [14,60] 69 (dA 13 60 (bP 5 λT _=>bA 3) (bA 9)) λU=>bz 2 69 (n_ 6 2011 73 74 λJ _=>a_) a_))) a_) (λz=>a_))) a_)))
def oU(B:ck)(p1:Pred):Lk Int:=(iV B.t B.counts p1.proc p1.peer).bind λu=>some (len u.1)
instance KR(B:ck)(p1:Pred):Fc Sy cL (oU B p1):=Fc.M 121 [enc B,enc p1] (cu 2 2 B (cu 0 3 p1 (bC 13 λu _=>b7 10 u.1 a_)))
def cH(B:ck)(p1:Pred)(r:(ck×Pred)->Lk Int):Lk Int:=bg (p1.kind==1) (some p1.n) (bg (p1.kind==2) ((ou B p1).bind λL=>some L) (bg (p1.kind==3) ((idx B.counts p1.proc).bind λO=>some O) (bg (p1.kind==4) ((oU B p1).bind λQ=>some Q) (bg (p1.kind==5) ((idx p1.l 0).bind λS=>(r (B,S)).bind λT=>some (wrap .i64 (0-T))) (bg (p1.kind==6) ((idx p1.l 0).bind λU=>(r (B,U)).bind λW=>(idx p1.l 1).bind λX=>(r (B,X)).bind λY=>some (wrap .i64 (W+Y))) (bg (p1.kind==7) ((idx p1.l 0).bind λu=>(r (B,u)).bind λw=>(idx p1.l 1).bind λz=>(r (B,z)).bind λC=>some (wrap .i64 (w-C))) ((idx p1.l 0).bind λD=>(r (B,D)).bind λG=>(idx p1.l 1).bind λI=>(r (B,I)).bind λJ=>some (wrap .i64 (G*J)))))))))
theorem wI(r:(ck×Pred)->Lk Int)(a:gT Sy cL 100 (λz:ck×Pred=>[enc z.1,enc z.2]) (λr:Int=>[.int .i64 r]) r true)(B:ck)(p1:Pred):Le ((cH B p1 r).bind λr=>some [.int .i64 r]) (jK cL 100 [enc B,enc p1]):=(Fc.M 100 [enc B,enc p1] (cu 2 2 B (cu 0 3 p1 (bz 17 7 a_ (bz 7 11 (bC 5 λT _=>a_) (bz 7 16 (bP 7 λU _=>a_) (bz 7 24 (bC 5 λW _=>a_) (bz 7 29 (jv 6 33 (Pred.mq p1.l) (bP 0 λG _=>cZ (F:=Fc.of (B,G) a) 1 λX _=>a_)) (bz 7 38 (jv 6 42 (Pred.mq p1.l) (bP 0 λI _=>cZ (F:=Fc.of (B,I) a) 1 λY _=>jv 3 48 (Pred.mq p1.l) (bP 0 λJ _=>cZ (F:=Fc.of (B,J) a) 1 λZ _=>a_))) (bz 7 53 (jv 6 57 (Pred.mq p1.l) (bP 0 λu _=>cZ (F:=Fc.of (B,u) a) 1 λL _=>jv 3 63 (Pred.mq p1.l) (bP 0 λw _=>cZ (F:=Fc.of (B,w) a) 1 λO _=>a_))) (jv 9 70 (Pred.mq p1.l) (bP 0 λC _=>cZ (F:=Fc.of (B,C) a) 1 λQ _=>jv 3 76 (Pred.mq p1.l) (bP 0 λD _=>cZ (F:=Fc.of (B,D) a) 1 λS _=>a_)))))))))))):Fc Sy cL (cH B p1 r)).F.h ()
def eR(B:ck)(p1:Pred):Lk Int:=g_ (λr(z:ck×Pred)=>cH z.1 z.2 r) 100000 (B,p1)
instance Lg(B:ck)(p1:Pred):Fc Sy cL (eR B p1):=Fc.of (B,p1) (gT.fix (A:=λz:ck×Pred=>[enc z.1,enc z.2]) (E:=λr:Int=>[.int .i64 r]) (sc:=true) (b:=(λr(z:ck×Pred)=>cH z.1 z.2 r)) Zad (λ_ _=>rfl) (λr a z=>wI r a z.1 z.2) 100000)
namespace eC
def J1(W:Int)(U:Bool)(D:ck)(B:Pred)(r:(ck×Pred)->Lk Bool):Lk Bool:=bg U (some (B.kind==13)) (bg (W==15) ((idx B.l 0).bind λu=>(r (D,u)).bind λw=>some (!w)) (bg (W==16) ((idx B.l 0).bind λz=>(r (D,z)).bind λC=>(bg C ((idx B.l 1).bind λG=>(r (D,G)).bind λI=>some I) (some false):Lk Bool).bind λJ=>some J) ((idx B.l 0).bind λL=>(r (D,L)).bind λO=>(bg O (some true) ((idx B.l 1).bind λQ=>(r (D,Q)).bind λS=>some S):Lk Bool).bind λT=>some T)))
theorem qm(r:(ck×Pred)->Lk Bool)(a:gT Sy cL 80 (λz:ck×Pred=>[enc z.1,enc z.2]) (λr:Bool=>[.bool r]) r true)(U:Int)(G:Bool)(B:ck)(D:Pred):Le ((J1 U G B D r).bind (λr=>some [.bool r])) (b8 Sy cL (qM (tr Tx 80)) (uh (tb Tx 80) [1,0,1,0,1,1,1,1,1,1,1,1,1,0] [] (bL [Pv 2,Pv 3,Iv 6 U,Bv 67 G] [Xb 2 B,Xb 3 D]))):=bz 0 67 a_ (bz 7 73 (jv 6 77 (Pred.mq D.l) (bP 0 λC _=>cZ (F:=Fc.of (B,C) a) 1 λQ _=>a_)) (bz 7 82 (jv 6 86 (Pred.mq D.l) (bP 0 λI _=>cZ (F:=Fc.of (B,I) a) 1 λS _=>yE 1 7 [96,89] (λu=>(bL [Bv 67 false,Bv 73 false,Bv 82 true,Bv 97 u] [Xb 2 B,Xb 3 D])) (bz 1 90 (jv 3 93 (Pred.mq D.l) (bP 0 λJ _=>cZ (F:=Fc.of (B,J) a) 1 λT _=>bA 1)) (bA 7)) λu=>a_)) (jv 9 100 (Pred.mq D.l) (bP 0 λL _=>cZ (F:=Fc.of (B,L) a) 1 λW _=>yE 1 7 [110,103] (λw=>(bL [Bv 67 false,Bv 73 false,Bv 82 false,Bv 111 w] [Xb 2 B,Xb 3 D])) (bz 1 104 (bA 7) (jv 3 107 (Pred.mq D.l) (bP 0 λO _=>cZ (F:=Fc.of (B,O) a) 1 λX _=>bA 1))) λw=>a_))))
end eC
def dN(B:ck)(p1:Pred)(r:(ck×Pred)->Lk Bool):Lk Bool:=bg (p1.kind==9) ((idx p1.l 0).bind λJ=>(eR B J).bind λL=>(idx p1.l 1).bind λO=>(eR B O).bind λQ=>some (L==Q)) (bg (p1.kind==10) ((idx p1.l 0).bind λS=>(eR B S).bind λT=>(idx p1.l 1).bind λU=>(eR B U).bind λW=>some (!(T==W))) (bg (p1.kind==11) ((idx p1.l 0).bind λX=>(eR B X).bind λu=>(idx p1.l 1).bind λw=>(eR B w).bind λz=>some (decide (u<z))) (bg (p1.kind==12) ((idx p1.l 0).bind λC=>(eR B C).bind λD=>(idx p1.l 1).bind λG=>(eR B G).bind λI=>some (decide (D<=I))) (bg (p1.kind==13) (eC.J1 p1.kind true B p1 r) (eC.J1 p1.kind (p1.kind==14) B p1 r)))))
open eC in
theorem xJ(r:(ck×Pred)->Lk Bool)(a:gT Sy cL 80 (λz:ck×Pred=>[enc z.1,enc z.2]) (λr:Bool=>[.bool r]) r true)(B:ck)(p1:Pred):Le ((dN B p1 r).bind λr=>some [.bool r]) (jK cL 80 [enc B,enc p1]):=(Fc.M 80 [enc B,enc p1] (cu 2 2 B (cu 0 3 p1 (bz 17 7 (jv 6 11 (Pred.mq p1.l) (bP 0 λL _=>cZ 1 λO _=>jv 3 17 (Pred.mq p1.l) (bP 0 λQ _=>cZ 1 λS _=>a_))) (bz 7 22 (jv 6 26 (Pred.mq p1.l) (bP 0 λT _=>cZ 1 λU _=>jv 3 32 (Pred.mq p1.l) (bP 0 λW _=>cZ 1 λX _=>a_))) (bz 7 37 (jv 6 41 (Pred.mq p1.l) (bP 0 λY _=>cZ 1 λu _=>jv 3 47 (Pred.mq p1.l) (bP 0 λw _=>cZ 1 λC _=>a_))) (bz 7 52 (jv 6 56 (Pred.mq p1.l) (bP 0 λD _=>cZ 1 λG _=>jv 3 62 (Pred.mq p1.l) (bP 0 λI _=>cZ 1 λJ _=>a_))) (bz 8 67 (yV 4 (qm r a p1.kind true B p1)) (yV 7 (qm r a p1.kind (p1.kind==14) B p1))))))))):Fc Sy cL (dN B p1 r)).F.h ()
def eC(B:ck)(p1:Pred):Lk Bool:=g_ (λr(z:ck×Pred)=>dN z.1 z.2 r) 100000 (B,p1)
instance LA(B:ck)(p1:Pred):Fc Sy cL (eC B p1):=Fc.of (B,p1) (gT.fix (A:=λz:ck×Pred=>[enc z.1,enc z.2]) (E:=λr:Bool=>[.bool r]) (sc:=true) (b:=(λr(z:ck×Pred)=>dN z.1 z.2 r)) Zad (λ_ _=>rfl) (λr a z=>xJ r a z.1 z.2) 100000)
namespace iQ
def bp(Y J:Sl (Sl Int))(U:Int)(G:Trace)(W:Pred)(B:Sl Bool)(D:Int):Lk (Fw ((Sl Bool)×Int) (Sl Bool) ((Sl (Sl Int))×(Sl Bool)×Int)):=bg (decide (D<U)) ((idx J D).bind λw=>(iY G w).bind λu=>bg (u.2==0) ((eC (⟨G,w,u.1⟩:ck) W).bind λz=>(ga B (z:Bool)).bind λC=>some (.n (C,wrap .i64 (D+1)))) (some (.r ((Sl.nil:Sl (Sl Int)),(Sl.nil:Sl Bool),u.2)))) (some (.x B))
def W1(Y:Sl (Sl Int))(B:Sl Bool)(D:Sl (Sl Int))(G J:Int)(U:Trace)(W:Pred):Lk ((Sl (Sl Int))×(Sl Bool)×Int):=(bT (λq:(Sl Bool)×Int=>bp Y D G U W q.1 q.2) (B,J)).bind (Fw.elim (λe=>some (Y,e,0)) (λe=>some (e.1,e.2.1,e.2.2)))
end iQ
def iQ(B:Trace)(p1:Pred):Lk ((Sl (Sl Int))×(Sl Bool)×Int):=(rI B p1).bind λw=>bg (w==0) ((uB p1 2).bind λz=>bg (z==0) ((oK p1).bind λC=>bg C (some (Sl.nil,(Sl.nil:Sl Bool),15)) ((pz B).bind λu=>bg (u.2==0) (iQ.W1 u.1 (Sl.nil:Sl Bool) u.1 (len u.1) 0 B p1) (some (Sl.nil,(Sl.nil:Sl Bool),u.2)))) (some (Sl.nil,(Sl.nil:Sl Bool),z))) (some (Sl.nil,(Sl.nil:Sl Bool),w))
open iQ in
instance UP(B:Trace)(p1:Pred):Fc Sy cL (iQ B p1):=Fc.N 62 [enc B,enc p1] (cu 2 2 B (cu 0 3 p1 (bC 10 λG _=>dA 9 20 (bC 7 λI _=>dA 9 25 (bC 7 λJ _=>bz 2 28 a_ (bC 6 λw _=>dA 14 35 (b7 12 w.1 (dY 6 (λz=>(bL [Pv 2,Pv 3,Cv 9 w.1,Ov 11,Cv 37 w.1,Iv 38 (len w.1),Iv 39 z.2] [Xb 2 B,Xb 3 p1,Lb 2011 z.1])) (λu=>(0,(bL [Cv 9 w.1,Ov 11] [Lb 2011 u]))) (λu=>(bL [Cv 4 u.1,Ov 5,Iv 6 u.2.2] [Lb 2005 u.2.1])) (λz=>bz 8 40 (bP 7 λC _=>bC 8 λD _=>dA 14 50 (aau 8 (⟨B,C,D.1⟩:ck) [enc B,enc C,enc D.1] [.bM,.bM,.bM] [(0,1),(1,1),(2,1)] (by simp only[NI,ON,lQ,QL,L5,QV,Pj];rfl) rfl (bC 1 λL _=>n_ 1 2011 59 60 λO _=>a_)) a_) a_) (λu=>a_) (λu=>a_))) a_)) a_) a_)))
def q9(B:Trace)(p1:Pred):Lk ((Sl Bool)×Int):=(iQ B p1).bind λu=>some (u.2.1,u.2.2)
instance R4(B:Trace)(p1:Pred):Fc Sy cL (q9 B p1):=Fc.N 43 [enc B,enc p1] (cu 2 2 B (cu 0 3 p1 (bC 8 λu _=>a_)))
namespace iC
def bp(J:Sl Int)(D:Int)(G:Sl U8)(B:Int):Lk (Fw ((Sl U8)×Int) (Sl U8) Empty):=bg (decide (B<D)) ((idx J B).bind λu=>(ga G (⟨wrap .u8 u⟩:U8)).bind λw=>some (.n (w,wrap .i64 (B+1)))) (some (.x G))
def W1(G:Sl U8)(J:Sl Int)(B D:Int):Lk ByteArray:=(bT (λq:(Sl U8)×Int=>bp J B q.1 q.2) (G,D)).bind (Fw.elim (λe=>some (Np e)) (λe=>elim e))
end iC
def iC(B:Sl Int):Lk ByteArray:=(vK (len B) (⟨0⟩:U8)).bind λu=>iC.W1 u B (len B) 0
open iC in
instance YA(B:Sl Int):Fc Sy cL (iC B):=Fc.M 47 [enc B] (b7 8 B (aat (zero:=[.int .u8 0]) 0 8 λz _=>b7 7 B (fN 6 (λu=>(bL [Ov 3,Cv 9 B,Iv 10 (len B),Iv 11 u.2] [Lb 2003 u.1])) (λw=>(0,(bL [Ov 3] [Lb 2003 w]))) (λu=>bz 8 12 (bP 7 λC _=>n_ 9 2003 18 19 λD _=>a_) a_) (λw=>Y6 5 2003 w a_))))
namespace jG
def bp(J:Sl (Sl Int))(U:Int)(D:Int)(G:Mo ByteArray Int)(B:cz):Lk (Fw (Int×(Mo ByteArray Int)×cz) ((Mo ByteArray Int)×cz) Empty):=bg (decide (D<U)) ((idx J D).bind λu=>(iC u).bind λw=>some (.n (wrap .i64 (D+1),mJ G w D,(⟨B.t,B.l,⟨none⟩,B.truth⟩:cz)))) (some (.x (G,(⟨B.t,B.l,⟨none⟩,B.truth⟩:cz))))
def W1(G:Sl (Sl Int))(J U:Int)(B:Mo ByteArray Int)(D:cz):Lk (Lk cz):=(bT (λq:Int×(Mo ByteArray Int)×cz=>bp G J q.1 q.2.1 q.2.2) (U,B,D)).bind (Fw.elim (λe=>some (some (⟨e.2.t,e.2.l,⟨some e.1⟩,e.2.truth⟩:cz))) (λe=>elim e))
end jG
def jG(G:Trace)(D:Sl (Sl Int))(B:Sl Bool):Lk (Lk cz):=jG.W1 D (len D) 0 [] (⟨G,D,⟨none⟩,B⟩:cz)
open jG in
instance Xa(G:Trace)(D:Sl (Sl Int))(B:Sl Bool):Fc Sy cL (jG G D B):=Fc.N 45 [enc G,enc D,enc B] (cu 2 3 G (ZA 9 [cv G,cv D,.mp 12,cv B] [cv G.procs,cv D,.mp 12,cv B] [.bM,.bM,.gD,.bM] [(0,1),(1,1),(2,1),(3,1)] (by simp only[Ew,Pr,Sa,NB,Pz,M0,lQ,QL,L5,QV,Pj];rfl) (Zn 0 15 [cv G.procs,cv D,.mp 12,cv B] (by simp only[all_cons,XO,S_,Vy,Sv,nD,l_,nF,mY,LH];rfl) (b7 7 D (fN 5 (λu=>(bL [(7,.ptr 15 0),Cv 16 D,Iv 17 (len D),Iv 18 u.1] [(12,uI u.2.1),(15,.box [cv u.2.2.t.procs,cv u.2.2.l,.mp 12,cv u.2.2.truth])])) (λw=>(0,(bL [(7,.ptr 15 0)] [(12,uI w.1),(15,.box [cv w.2.t.procs,cv w.2.l,.mp 12,cv w.2.truth])]))) (λu=>bz 7 19 (bP 8 λC _=>cZ 11 λz _=>Xv 1 12 u.2.1 z u.1 a_) a_) (λw=>a_))))))
def vI(B:Trace)(p1:Pred):Lk ((Lk cz)×Int):=(q9 B p1).bind λu=>bg (u.2==0) ((pz B).bind λw=>bg (w.2==0) ((jG B w.1 u.1).bind λz=>some (z,0)) (some (none,w.2))) (some (none,u.2))
instance YN(B:Trace)(p1:Pred):Fc Sy cL (vI B p1):=Fc.N 23 [enc B,enc p1] (cu 2 2 B (cu 0 3 p1 (bC 8 λu _=>dA 14 16 (bC 6 λw _=>dA 14 24 (bC 8 λz _=>a_) a_) a_)))
def rE(B:Trace)(D:Sl Int):Lk Bool:=(dx B (Sl.row [D]:Sl (Sl Int)) (Sl.nil:Sl Int)).bind λu=>some (u==0)
instance RK(B:Trace)(D:Sl Int):Fc Sy cL (rE B D):=Fc.M 46 [enc B,enc D] (cu 2 2 B (zu 7 7 ([D]:L' (Sl Int)) (cZ 0 λu _=>a_)))
namespace fh
def bp(G:cz)(i1 J U:Int)(B:Sl Int)(D:Int):Lk (Fw ((Sl Int)×Int) (Sl Int) Empty):=bg (decide (D<U)) ((idx G.l i1).bind λz=>((dR z).bind Sl.whole).bind λu=>(Sl.kS u D).bind λC=>(Sl.get u C).bind λI=>(Sl.kS u D).bind λL=>(Sl.put u L (wrap .i64 (I+J):Int)).bind λO=>(iC O).bind λw=>bg (uv (m_ G.index) w) ((ga B (ow (m_ G.index) w 0:Int)).bind λQ=>some (.n (Q,wrap .i64 (D+1)))) (some (.n (B,wrap .i64 (D+1))))) (some (.x B))
def W1(G:cz)(i1 B:Int)(D:Sl Int)(J U:Int):Lk (Sl Int):=(bT (λq:(Sl Int)×Int=>bp G i1 B J q.1 q.2) (D,U)).bind (Fw.elim (λe=>some e) (λe=>elim e))
end fh
def fh(s0:cz)(i1 B:Int):Lk (Sl Int):=(idx s0.l i1).bind λu=>fh.W1 s0 i1 B (Sl.nil:Sl Int) (len u) 0
open fh in
instance OL(s0:cz)(i1 B:Int):Fc Sy cL (fh s0 i1 B):=Fc.N 49 [.fptr (cells s0),.int .i64 i1,.int .i64 B] (bP 18 λz _=>b7 1 z (fN 6 (λu=>(bL [Kv 0 s0,Iv 1 i1,Iv 2 B,Ov 7,Iv 19 (len z),Iv 20 u.2] [Lb 2007 u.1])) (λC=>(0,(bL [Ov 7] [Lb 2007 C]))) (λu=>bz 8 21 (bP 18 λD _=>NC 1 30 gE D λI _=>kZ .i64 7 30 λJ _=>rU 0 30 0 1 false (λw=>.int .i64 w) λw _=>kZ .i64 2 30 λL _=>Da 0 30 (.int .i64 (wrap .i64 (w+B))) λO _=>cZ 9 λG _=>UX 0 s0.index G 0 (bz 12 48 (n_ 5 2007 51 52 λQ _=>a_) a_)) a_) (λC=>a_)))
namespace gQ
def bV(U:Sl Int)(W:Sl (Sl Int))(Y b G:Int)(B:Sl Int)(D:Int)(a:(Sl Int)->Lk Int):Lk (Fw ((Sl Int)×Int) (Sl Int) Empty):=bg (decide (D<G)) ((Sl.kS B D).bind λw=>(Sl.get B w).bind λz=>(idx U D).bind λC=>(a (Sl.row [z,C]:Sl Int)).bind λI=>(Sl.kS B D).bind λJ=>(Sl.put B J (I:Int)).bind λu=>some (.n (u,wrap .i64 (D+1)))) (some (.x B))
def W2(B Y:Sl Int)(G:Sl (Sl Int))(J D U W:Int)(a:(Sl Int)->Lk Int):Lk (Fw ((Sl Int)×Int) (Sl Int) Empty):=(bT (λq:(Sl Int)×Int=>bV Y G J D U q.1 q.2 a) (B,W)).bind (Fw.elim (λe=>some (.n (e,wrap .i64 (D+1)))) (λe=>elim e))
def bp(G:Sl (Sl Int))(J:Int)(B:Sl Int)(D:Int)(U:(Sl Int)->Lk Int):Lk (Fw ((Sl Int)×Int) (Sl Int) Empty):=bg (decide (D<J)) ((idx G D).bind λu=>W2 B u G J D (len B) 0 U) (some (.x B))
def W1(B:Sl Int)(D:Sl (Sl Int))(G J:Int)(U:(Sl Int)->Lk Int):Lk (Sl Int):=(bT (λq:(Sl Int)×Int=>bp D G q.1 q.2 U) (B,J)).bind (Fw.elim (λe=>some e) (λe=>elim e))
end gQ
def gQ(B:Sl (Sl Int))(D:(Sl Int)->Lk Int):Lk (Sl Int):=(idx B 0).bind λw=>((dR w).bind Sl.whole).bind λz=>(gj B (some 1) none).bind λu=>gQ.W1 z u (len u) 0 D
open gQ in
abbrev HW(G:FuncId)(e0:L' V)(U:(Sl Int)->Lk Int)(a:lS Sy cL G [] e0 (λz:Sl Int=>[enc z]) (λr:Int=>[.int .i64 r]) U true)(W:Sl (Sl Int)):Fc Sy cL (gQ W U):=Fc.N 50 [.clo G [] e0,enc W] (bP 8 λL _=>NC 1 12 gE L λT _=>BR 7 true false [.int .i64 1] λu _=>b7 0 u (fN 6 (λw=>(bL [(0,.v (.clo G [] e0)),Ov 5,Cv 14 u,Iv 15 (len u),Iv 16 w.2] [Lb 2005 w.1])) (λI=>(0,(bL [Ov 5] [Lb 2005 I]))) (λw=>bz 8 17 (bP 7 λO _=>E6 7 2005 w.1 (fN 6 (λC=>(bL [(0,.v (.clo G [] e0)),Ov 5,Cv 7 O,Cv 14 u,Iv 15 (len u),Iv 16 w.2,Iv 21 (len w.1),Iv 22 C.2] [Lb 2005 C.1])) (λJ=>(2,(bL [(0,.v (.clo G [] e0)),Ov 5,Cv 14 u,Iv 15 (len u),Iv 16 w.2] [Lb 2005 J]))) (λC=>bz 8 23 (kZ .i64 17 2005 λX _=>rU 0 2005 0 1 false (λB=>.int .i64 B) λB _=>bP 2 λD _=>XB 1 ([B,D]:L' Int) (.buildC 1 2 [.int .i64 0] [0,1]) [iv B,iv D] (yw 0 a.f (Sl.row [B,D]:Sl Int) λQ _=>kZ .i64 0 2005 λY _=>Da 0 2005 (.int .i64 Q) λS _=>a_)) a_) (λJ=>a_))) a_) (λI=>a_)))
def oS(B:Sl Int):Lk Int:=(dz B).bind λu=>some u
instance Wb(B:Sl Int):Fc Sy cL (oS B):=Fc.M 51 [enc B] (bC 8 λu _=>a_)
theorem U6{S:Sys}{c:b9}{β γ δ:Type}{Q:Out×St->Lk β}{e:γ->Lk β}{cf:Cf}(n:Nat)(ds:L' Nat){m:Lk δ}[F:Fc S c m]{f:δ->Lk γ}
 (h:∀x,m=some x->Le ((f x).bind e) (b8 S c Q (nx S c n cf λp=>cT p.st p.d (.v (result (F.E x)))))/\Le ((f x).bind e) (b8 S c Q (nx S c n cf λp=>cT {p.st with m:=oH ds p.st.m} p.d (.v (result (F.E x))))))
 (B:(fT S c n cf).map (λp=>(p.k,((bW S.N p.st.g p.az).bind k_).bind λq=>(nC (iN p.st.m 8) q.2).map λvs=>(q.1,vs,!p.dr||p.now,(dy q.2).isSome,rowsOf q.2)))=some (.c,some (F.n,F.az,true,false,some ds)):=by kernel_rfl):Le ((m.bind f).bind e) (b8 S c Q cf):=
 XZ n ds (λx u=>by
  cases(result (F.E x)).scalar with
  |true=>exact(h x u).1|false=>exact(h x u).2) B
namespace dI
def bV(e:cz)(i4:Int)(a:Sl Int)(b:Int)(B:Sl (Sl Int))(D:Int):Lk (Fw ((Sl (Sl Int))×Int) (Sl (Sl Int)) Empty):=bg (decide (D<b)) ((idx a D).bind λu=>(Sl.kS B u).bind λc=>(Sl.get B c).bind λd=>(Sl.isNil d).bind λw=>bg w (some (.n (B,wrap .i64 (D+1)))) ((Sl.kS B i4).bind λC=>(Sl.get B C).bind λG=>(Sl.isNil G).bind λI=>bg I ((Sl.kS B u).bind λJ=>(Sl.get B J).bind λL=>(Sl.kS B i4).bind λO=>(Sl.put B O (L:Sl Int)).bind λQ=>some (.n (Q,wrap .i64 (D+1)))) ((Sl.kS B i4).bind λS=>(Sl.get B S).bind λT=>(Sl.kS B u).bind λU=>(Sl.get B U).bind λW=>(gQ (Sl.row [T,W]:Sl (Sl Int)) (λz=>oS z)).bind λX=>(Sl.kS B i4).bind λY=>(Sl.put B Y (X:Sl Int)).bind λZ=>some (.n (Z,wrap .i64 (D+1)))))) (some (.x B))
def W2(D:cz)(B:Sl (Sl Int))(i4:Int)(G:Sl Int)(J U:Int):Lk (Fw ((Sl (Sl Int))×Int) (Sl (Sl Int)) Empty):=(bT (λq:(Sl (Sl Int))×Int=>bV D i4 G J q.1 q.2) (B,U)).bind (Fw.elim (λe=>some (.n (e,wrap .i64 (i4-1)))) (λe=>elim e))
def bp(D:cz)(B:Sl (Sl Int))(i4:Int):Lk (Fw ((Sl (Sl Int))×Int) (Sl (Sl Int)) Empty):=bg (decide (i4>=0)) ((idx D.truth i4).bind λw=>bg w ((idx D.l i4).bind λz=>(Sl.kS B i4).bind λC=>(Sl.put B C (z:Sl Int)).bind λG=>some (.n (G,wrap .i64 (i4-1)))) ((fh D i4 1).bind λu=>W2 D B i4 u (len u) 0)) (some (.x B))
def W1(D:cz)(B:Sl (Sl Int))(i4:Int):Lk (Sl (Sl Int)):=(bT (λq:(Sl (Sl Int))×Int=>bp D q.1 q.2) (B,i4)).bind (Fw.elim (λe=>some e) (λe=>elim e))
end dI
def dI(s0:cz):Lk (Sl (Sl Int)):=(tV (len s0.l) (Sl.nil:Sl Int)).bind λu=>dI.W1 s0 u (wrap .i64 ((len s0.l)-1))
open dI in
instance LD(s0:cz):Fc Sy cL (dI s0):=Fc.N 26 [.fptr (cells s0)] (b7 11 s0.l (UF 0 12 λa _=>b7 10 s0.l (fN 7 (λB=>(bL [Kv 0 s0,Ov 3,Iv 4 B.2] [Lb 2003 B.1])) (λJ=>(0,(bL [Ov 3] [Lb 2003 J]))) (λB=>bz 9 20 (bP 13 λb _=>bz 3 29 (bP 10 λc _=>kZ .i64 1 2003 λd _=>Il 0 2003 λe _=>a_) (bC 7 λG _=>b7 0 G (fN 6 (λI=>(bL [Kv 0 s0,Ov 3,Iv 4 B.2,Cv 42 G,Iv 43 (len G),Iv 44 I.2] [Lb 2003 I.1])) (λL=>(2,(bL [Kv 0 s0,Ov 3,Iv 4 B.2] [Lb 2003 L]))) (λI=>bz 8 45 (bP 7 λf _=>kZ .i64 9 2003 λg _=>rU 0 2003 0 1 false (λO=>enc O) λO _=>I4 0 λT _=>bz 3 61 a_ (kZ .i64 5 2003 λU _=>rU 0 2003 0 1 false (λC=>enc C) λC _=>I4 0 λW _=>bz 3 67 (kZ .i64 6 2003 λX _=>rU 0 2003 0 1 false (λD=>enc D) λD _=>kZ .i64 0 2003 λY _=>Il 0 2003 λZ _=>a_) (kZ .i64 6 2003 λh _=>rU 0 2003 0 1 false (λu=>enc u) λu _=>kZ .i64 2 2003 λi _=>rU 0 2003 0 1 false (λw=>enc w) λw _=>zu 0 58 ([u,w]:L' (Sl Int)) (U6 (F:=HW 51 [] (λz=>oS z) lS.rQ (Sl.row [u,w]:Sl (Sl Int))) 0 [58] λj _=>⟨kZ .i64 0 2003 λQ _=>Il 0 2003 λS _=>a_,kZ .i64 0 2003 λQ _=>Il 0 2003 λS _=>a_⟩)))) a_) (λL=>a_)))) a_) (λJ=>a_))))
def jH(G:Sl Int)(J:Lk cz):Lk Bool:=(Sl.isNil G).bind λu=>(bg u (some false) ((J).bind λw=>(J).bind λz=>(iC G).bind λB=>(idx w.truth (ow (m_ z.index) B 0)).bind λC=>some (!C)):Lk Bool).bind λD=>some D
instance JU(B:Sl Int)(D:Lk cz):Fc Sy cL (jH B D):=Fc.M 66 [enc B,.fptr (cells D)] (ZF 8 λI _=>yE 1 15 [16] (λu=>(bL [Bv 21 u] [])) (dA 1 6 (bA 15) (Ns 1 (λw=>(bL [Cv 0 B,Kv 1 D,Bv 6 true,Cv 7 w] [])) λz _=>Ns 4 (λw=>(bL [Cv 0 B,Bv 6 true,Cv 10 z.truth,Cv 11 w] [])) λC _=>cZ 4 λG _=>O9 0 C.index G 0 (bP 0 λJ _=>bA 3))) λu=>a_)
def nv(s0:cz)(B:Sl (Sl Int)):Lk Bool:=(iT B (λz=>jH z (some s0:Lk cz))).bind λu=>some (!u)
instance Ma(s0:cz)(B:Sl (Sl Int)):Fc Sy cL (nv s0 B):=Fc.M 48 [.fptr (cells s0),enc B] (cZ (F:=pT 66 [.fptr (cells (some s0:Lk cz))] (λz=>jH z (some s0:Lk cz)) lS.rQ B) 10 λu _=>a_)
def qf(s0:cz)(D:Sl (Sl Int))(B:Int):Lk ((Sl Int)×Int):=(nv s0 D).bind λu=>bg u ((idx D B).bind λw=>(Sl.isNil w).bind λz=>bg z (some (Sl.nil,7)) ((idx D B).bind λC=>((dR C).bind Sl.whole).bind λG=>some (G,0))) (some (Sl.nil,15))
instance LX(s0:cz)(D:Sl (Sl Int))(B:Int):Fc Sy cL (qf s0 D B):=Fc.N 25 [.fptr (cells s0),enc D,.int .i64 B] (bC 12 λw _=>dA 4 8 (bP 5 λz _=>I4 1 λC _=>bz 3 13 a_ (bP 8 λu _=>NC 1 23 gE u λG _=>a_)) a_)
def oJ(s0:cz)(D:Sl Int):Lk ((Sl Int)×Int):=(rE s0.t D).bind λw=>bg w ((dI s0).bind λz=>(iC D).bind λB=>(qf s0 z (ow (m_ s0.index) B 0)).bind λu=>some (u.1,u.2)) (some (Sl.nil,18))
instance OK(s0:cz)(B:Sl Int):Fc Sy cL (oJ s0 B):=Fc.N 24 [.fptr (cells s0),enc B] (bC 14 λw _=>dA 3 12 (bC 7 λz _=>cZ 5 λu _=>O9 0 s0.index u 0 (bC 0 λC _=>a_)) a_)
def mO(B:Trace)(p1:Pred)(D:Sl Int):Lk ((Sl Int)×Int):=(vI B p1).bind λu=>bg (u.2==0) ((u.1).bind λz=>(oJ z D).bind λw=>some (w.1,w.2)) (some (Sl.nil,u.2))
instance W8(B:Trace)(p1:Pred)(D:Sl Int):Fc Sy cL (mO B p1 D):=Fc.N 9 [enc B,enc p1,enc D] (cu 2 3 B (cu 0 4 p1 (bC 8 λu _=>dA 14 17 (Ns 7 (λw=>(bL [Iv 9 u.2,Bv 17 false,Cv 19 w,Cv 20 D] [Xb 3 B,Xb 4 p1])) λz _=>bC 0 λC _=>a_) a_)))
namespace rm
def bp(a0 G:Sl Int)(D:Int)(B:Int):Lk (Fw Int Unit Unit):=bg (decide (B<D)) ((idx a0 B).bind λu=>(idx G B).bind λw=>bg (decide (u>w)) (some (.r ())) (some (.n (wrap .i64 (B+1))))) (some (.x ()))
def W1(a0 G:Sl Int)(B D:Int):Lk Bool:=(bT (λq:Int=>bp a0 G B q) D).bind (Fw.elim (λe=>some true) (λe=>some false))
end rm
def rm(a0 B:Sl Int):Lk Bool:=bg ((len a0)==(len B)) (rm.W1 a0 B (len a0) 0) (some false)
open rm in
instance ZZ(a0 B:Sl Int):Fc Sy cL (rm a0 B):=Fc.M 10 [enc a0,enc B] (b7 9 a0 (b7 1 B (dA 3 10 (b7 7 a0 (dY 5 (λw=>(bL [Cv 0 a0,Cv 1 B,Iv 12 (len a0),Iv 13 w] [])) (λu=>(0,(bL [] []))) (λu=>(bL [Bv 4 false] [])) (λw=>bz 7 14 (bP 15 λz _=>bP 3 λC _=>bz 4 24 a_ a_) a_) (λu=>a_) (λu=>a_))) a_)))
def nV(D:Trace)(p1:Pred)(a2 Y:Sl Int):Lk Bool:=(xL).bind λX=>bg X ((wC D p1).bind λZ=>(bg Z (some (decide ((len a2)>20))) (some true):Lk Bool).bind λa=>(bg a (some true) (some (decide ((len Y)>20))):Lk Bool).bind λb=>(bg b (some true) ((qG D).bind λc=>some (!c)):Lk Bool).bind λd=>(bg d (some true) ((pq D a2).bind λe=>some (!e)):Lk Bool).bind λf=>(bg f (some true) ((pq D Y).bind λg=>some (!g)):Lk Bool).bind λC=>bg C (some true) ((jI a2 Y).bind λz=>(mO D p1 a2).bind λu=>(mO D p1 z).bind λw=>bg (u.2==0) (bg (w.2==0) ((mO D p1 u.1).bind λB=>(rm a2 u.1).bind λG=>(bg G ((rm z w.1).bind λI=>some I) (some false):Lk Bool).bind λJ=>(bg J ((rm u.1 w.1).bind λL=>some L) (some false):Lk Bool).bind λO=>(bg O (some (B.2==0)) (some false):Lk Bool).bind λQ=>(bg Q ((e9 B.1 u.1).bind λS=>some S) (some false):Lk Bool).bind λT=>some T) (some (w.2==7))) ((bg (u.2==w.2) (some true) ((bg (u.2==7) (some (w.2==7)) (some false):Lk Bool).bind λU=>some U):Lk Bool).bind λW=>some W))) (some false)
instance zI(B:Trace)(p1:Pred)(a2 D:Sl Int):Fc Sy cL (nV B p1 a2 D):=Fc.M 3 [enc B,enc p1,enc a2,enc D] (cu 2 4 B (cu 0 5 p1 (bC 6 λY _=>dA 3 16 (bC 8 λZ _=>bZ 2 4 [21] 25 (dA 2 21 (b7 1 a2 (bA 2)) (bA 4)) λa=>bZ 1 4 [26] 30 (bz 1 26 (bA 4) (b7 1 D (bA 2))) λb=>bZ 1 4 [31] 35 (bz 1 31 (bA 4) (bC 1 λc _=>bA 2)) λd=>bZ 1 5 [36] 41 (bz 1 36 (bA 5) (bC 2 λe _=>bA 2)) λf=>bZ 1 5 [42] 47 (bz 1 42 (bA 5) (bC 2 λg _=>bA 2)) λu=>bz 2 47 a_ (bC 7 λw _=>bC 8 λz _=>bC 12 λC _=>dA 14 66 (dA 10 79 (bC 8 λG _=>bC 11 λI _=>bZ 1 4 [3,92] 96 (bz 1 92 (bC 2 λJ _=>bA 1) (bA 4)) λL=>bZ 1 4 [11,97] 101 (bz 1 97 (bC 2 λO _=>bA 1) (bA 4)) λQ=>bZ 1 3 [14,102] 105 (bz 1 102 (bA 3) (bA 3)) λS=>bZ 1 4 [9,13,106] 110 (bz 1 106 (bC 2 λT _=>bA 1) (bA 4)) λU=>a_) a_) (bZ 7 7 [10,12,70] 77 (bz 7 70 (bA 7) (bZ 3 3 [12,73] 76 (bz 3 73 (bA 3) (bA 3)) λW=>bA 1)) λX=>a_))) a_)))
end
end Go.VE
