/-
 Each function of the program that the law reaches: its plain form, and that it comes to that.
-/
import Derived.Test.YtbhedaipfioknaaGreatK1
import Derived.Test.YtbhedaipfioknaaGreatT1
set_option linter.all false
noncomputable section
open List(all_cons all_nil map_append map_cons map_nil mem_map mem_of_getElem? replicate)
open Go.IntKind(signed wrap)
open Nat(beq reduceEqDiff zero_add)
open Empty(elim)
open ByteArray(toList)
namespace Go.VE
theorem Zf{p:Prop}(h:p:=by kernel_rfl):p:=h
structure Assign where
 var:Int
 value:Int
 deriving Inhabited
instance:bB Assign where
 cells x:=[.int .i64 x.var,.int .i64 x.value]
 agg:=true
 size:=2
 len _:=rfl
 good x:=by simp only[V.cE,V.good,jw,Bool.and_self]
 one x:=by simp only[all_cons,all_nil,pG,nJ,pz,nD,Bool.and_self]
 plain h:=by cases h
structure Event where
 kind:Int
 peer:Int
 message:Int
 time:Int
 assign:Sl Assign
 deriving Inhabited
abbrev Zn:=Event
instance:bB Zn where
 cells x:=[.int .i64 x.kind,.int .i64 x.peer,.int .i64 x.message,.int .i64 x.time,enc x.assign]
 agg:=true
 size:=5
 len _:=rfl
 good x:=by simp only[V.cE,V.good,jw,Bool.and_self]
 one x:=by simp only[all_cons,all_nil,pG,nJ,pz,nD,Bool.and_self]
 plain h:=by cases h
structure Var where
 name:ByteArray
 init_:Int
 deriving Inhabited
instance:bB Var where
 cells x:=[.str x.name,.int .i64 x.init_]
 agg:=true
 size:=2
 len _:=rfl
 good x:=by simp only[V.cE,V.good,jw,Bool.and_self]
 one x:=by simp only[all_cons,all_nil,pG,nJ,pz,nD,Bool.and_self]
 plain h:=by cases h
structure cq where
 name:ByteArray
 vars:Sl Var
 events:Sl Event
 deriving Inhabited
instance:bB cq where
 cells x:=[.str x.name,enc x.vars,enc x.events]
 agg:=true
 size:=3
 len _:=rfl
 good x:=by simp only[V.cE,V.good,jw,Bool.and_self]
 one x:=by simp only[all_cons,all_nil,pG,nJ,pz,nD,Bool.and_self]
 plain h:=by cases h
structure Trace where
 procs:Sl cq
 deriving Inhabited
abbrev Zj:=Trace
instance:bB Zj where
 cells x:=[enc x.procs]
 agg:=true
 size:=1
 len _:=rfl
 good x:=by simp only[V.cE,V.good,jw,Bool.and_self]
 one x:=by simp only[all_cons,all_nil,pG,nJ,pz,nD,Bool.and_self]
 plain h:=by cases h
structure Slice where
 empty:Bool
 first:Sl Int
 last:Sl Int
 j:Sl (Sl (Sl Int))
 deriving Inhabited
instance:bB Slice where
 cells x:=[.bool x.empty,enc x.first,enc x.last,enc x.j]
 agg:=true
 size:=4
 len _:=rfl
 good x:=by simp only[V.cE,V.good,jw,Bool.and_self]
 one x:=by simp only[all_cons,all_nil,pG,nJ,pz,nD,Bool.and_self]
 plain h:=by cases h
structure bC where
 from_:bf
 to_:bf
 deriving Inhabited
instance:bB bC where
 cells x:=[.int .i64 x.from_.proc,.int .i64 x.from_.index,.int .i64 x.to_.proc,.int .i64 x.to_.index]
 agg:=true
 size:=4
 len _:=rfl
 good x:=by simp only[V.cE,V.good,jw,Bool.and_self]
 one x:=by simp only[all_cons,all_nil,pG,nJ,pz,nD,Bool.and_self]
 plain h:=by cases h
structure bL where
 p:Int
 q:Int
 sent:Sl Int
 received:Sl Int
 deriving Inhabited
instance:bB bL where
 cells x:=[.int .i64 x.p,.int .i64 x.q,enc x.sent,enc x.received]
 agg:=true
 size:=4
 len _:=rfl
 good x:=by simp only[V.cE,V.good,jw,Bool.and_self]
 one x:=by simp only[all_cons,all_nil,pG,nJ,pz,nD,Bool.and_self]
 plain h:=by cases h
structure cm where
 lengths:Sl Int
 need:Sl (Sl bf)
 deriving Inhabited
instance:bB cm where
 cells x:=[enc x.lengths,enc x.need]
 agg:=true
 size:=2
 len _:=rfl
 good x:=by simp only[V.cE,V.good,jw,Bool.and_self]
 one x:=by simp only[all_cons,all_nil,pG,nJ,pz,nD,Bool.and_self]
 plain h:=by cases h
def iw(p:Int):Int->aZ Zn->aZ (bf×Zn)
 |_,[]=>[]|j,e::r=>(⟨p,j+1⟩,e)::iw p (j+1) r
def fm:Int->aZ cq->aZ (bf×Zn)
 |_,[]=>[]|i,p::r=>iw i 0 p.events.l++fm (i+1) r
def EY(n:Nat):Zl:=decide (n<9223372036854775807)
def iS(t:Zj):a_ (aZ (bf×Zn)):=if EY t.procs.l.length&&t.procs.l.all λp=>EY p.events.l.length then some (fm 0 t.procs.l)else none
end Go.VE
namespace Go.VE
def OO:Nat->Nat->Nat->Zv
 |0,_,_=>[]|f+1,i,m=>bif m % 2==1 then i::OO f (i+1) (m / 2)else OO f (i+1) (m / 2)
def gK(g m:Nat)(l:Zv:=[]):Gh:=.keep (OO 128 0 g) (OO 128 0 m++l)
def g2(n g m:Nat)(l:Zv:=[]):Nat×Z5×Z5:=(n,[gK g m l],[gK g m l])
def g1(n g m:Nat)(l:Zv:=[]):Nat×Z5×Z5:=(n,[gK g m l],[])
def G2(n:Nat)(x:Z5):Nat×Z5×Z5:=(n,x,x)
def G1(n:Nat)(x:Z5):Nat×Z5×Z5:=(n,x,[])
def cS(i n:Nat):Gh:=.canon (.s i) (2000+i) n
def cC(i j n:Nat):Gh:=.canon (.c i j) (4000+20*i+j) n
def e0(n m:Nat):Nat×GD:=(n,⟨m,[],[]⟩)
def e1(n m:Nat)(l:aZ (Nat×Z5×Z5)):Nat×GD:=(n,⟨m,[],l⟩)
def U3:aZ (Nat×GD):=[ e1 61 0x22226260002000201 [g2 6 387 0,g1 12 0 0,g1 22 16 0,g1 27 16 0],e0 43 0x226221,e0 44 0x2222212,e1 16 0x2222064442222026220220200002200222012 [g1 8 4 0,g2 16 14344 0,g1 22 8 0,g1 34 4 0,g1 39 4 0],e0 114 0x26c4444026402201,e0 115 0x26442201,e1 84 0x222064c002644c00222600620000644402644022201 [g1 8 4 0,g2 14 9 0,g1 20 0 0,g1 28 4 0,g1 33 4 0],e0 85 0x26442201,e1 62 0x2222222022226020222062260202260206000022226020622000022202220620226020600002220202602012 [g1 10 16 0,g2 16 102 36,g1 22 32 32,g1 30 16 0,g1 39 16 0,g2 45 160 32,g1 51 32 32,g1 60 16 0,g2 66 416 32,g1 72 160 32,g1 80 16 0,g1 88 16 0,g1 97 16 0,g1 101 16 0],e1 63 0x2222220620226020600006444026c444c04040222020260206220000222006cc44c4444c04040440264402220064402644026c04026c44040264402644022200644022202202026022602012 [g1 13 64 0,g1 20 64 0,g1 22 142 136,g1 28 64 0,g1 36 64 0,g2 42 394 136,g1 48 0 0,g1 59 64 0,g2 64 1930 648,g1 70 394 136,g1 78 64 0,g1 84 64 0],e0 86 0x2262222262022022,e1 87 0x20222222262226c0442602020260226020622260200062200002 [g2 6 206 72,g1 12 64 64,g2 18 462 72,g1 24 206 72,g1 34 64 64,g1 40 64 64],e1 64 0x2222226cc40444cc4040444022202602262020622262020000220060e20200022020600122 [g2 30 236 44,g1 36 64 0],e1 65 0x22206222602026006220002222203622000622262002062202202026260022602062226020260062200002222012 [G2 6 [cS 3 1,gK 10 2 [2003]],G2 14 [cS 3 1,gK 58 2 [2003]],G1 20 [cS 3 1,gK 26 2 [2003]],G2 24 [cS 3 1,gK 58 2 [2003]],G1 30 [cS 3 1,gK 58 2 [2003]],G1 43 [cS 3 1,gK 58 2 [2003]],G1 46 [cS 3 1,gK 42 2 [2003]],G1 53 [cS 3 1,gK 10 2 [2003]],G2 59 [cS 3 1,gK 266 2 [2003]],g1 65 0 0,g1 73 4 0,g1 78 4 0],e1 88 0x22262622222202062026262202022200122 [G1 10 [cS 5 2,gK 44 12 [2005]]],e1 45 0x202222220222620260600206200622260200062200002020222222222220260020620062226020006220002222222226222202e0006222602000622000222222222026006220000206444022220102 [g1 8 12 4,g2 14 22 6,g1 20 6 6,g1 30 12 4,g2 37 70 6,g1 43 6 6,g2 49 198 6,g1 55 70 6,g1 65 12 4,g2 73 518 6,g1 79 6 6,g2 85 1542 6,g1 91 518 6,g1 103 12 4,g1 113 12 4,g2 119 8198 6,g1 125 4 4,g2 131 24582 6,g1 137 8198 6,g1 147 12 4,g1 153 12 4],e0 17 0x2222302022212,e0 90 0x2236226200026201,e1 116 0x22206c444c0404c0022260062000062202012 [g1 8 16 0,g2 14 38 4,g1 20 0 0,g1 28 16 0,g1 33 16 0],e1 117 0x2222220626220202062202202026022602062600006200012 [g2 6 38 4,g1 12 0 0,g2 18 102 4,g1 24 38 4,g1 39 16 0,g1 46 16 0],e0 89 0x26c44260012,e1 67 0x2222226260026cc000262226020260062000012 [G2 8 [cS 5 1,gK 102 4 [2005]],G1 14 [cS 5 1,gK 32 0 [2005]]],e1 118 0x2222226260026200001 [g2 8 25 0,g1 14 8 0],e1 91 0x222262622260262600260062000262222620201 [g1 8 16 0,g2 14 35 0,g1 20 0 0,g1 28 16 0,g1 33 16 0],e1 92 0x2220626002600620000620201 [g1 8 16 0,g2 14 35 0,g1 20 0 0,g1 28 16 0,g1 33 16 0],e1 68 0x26622226222266000226c04c00262002226c04c002620001 [g2 6 35 0,g1 12 35 0],(46,⟨0x222222222226260026200026260006200000022026022200222220112,[(7,[.closeS (.s 13)])],[G2 8 [.closeS (.s 4),cS 5 1,gK 50 2 [2005]],G1 14 [cS 5 1,gK 32 0 [2005]],G1 24 [cS 2 1,gK 12 0 [2002]],G2 32 [.closeS (.s 4),cS 5 1,gK 242 2 [2005]],G1 38 [cS 5 1,gK 98 2 [2005]],G2 46 [.closeS (.s 4),cS 5 1,gK 1010 2 [2005]],G1 52 [.closeS (.s 4),cS 5 1,gK 242 2 [2005]],G1 61 [cS 2 1,gK 12 0 [2002]]]⟩),e0 18 0x222022112,e0 5 0x22644422022202220064402220112,e0 74 0x26c4426201,e0 123 0x26c4444026402201,e0 124 0x26442201,e1 102 0x22064c402644c00222600200020064440264402201 [g1 8 4 0,g2 14 786433 0,g1 20 0 0,g1 30 4 0,g1 35 4 0],e0 104 0x26222212,e1 125 0x22226260002000201 [g2 6 387 0,g1 12 0 0,g1 22 16 0,g1 27 16 0],e0 103 0x226221,e0 106 0x26222212,e1 126 0x22226260002000201 [g2 6 387 0,g1 12 0 0,g1 22 16 0,g1 27 16 0],e0 105 0x226221,e1 75 0x222222022222026c0c4402222022020000020022220026c0c44422220202602012 [g1 11 16 0,g1 17 16 0,g2 23 30064771104 32,g1 29 32 32,g1 40 16 0,g1 46 16 0,g1 55 16 0,g1 59 16 0],e0 76 0x2212,e1 108 0x2644426c4402622222022202644422202020122 [g1 18 524330 40],e0 110 0x26222212,e1 127 0x22226260002000201 [g2 6 387 0,g1 12 0 0,g1 22 16 0,g1 27 16 0],e0 109 0x226221,e1 77 0x2202626220026444022622202022020000020022220026c44022220022e02222226220202200202620201222 [g1 12 440 184,g1 19 64 0,g1 25 64 0,g1 31 64 0,g2 37 31525197391593632 160,g1 43 0 0,g1 54 64 0,g1 60 64 0,g1 65 64 0],e0 128 0x26c44426c440222012,e0 111 0x2662262221222,e1 78 0x2202326222002202001ef200220022022226200223262220022022226200202022020202020200002 [(8,[gK 4158 1086],[gK 0 1086]),g1 27 0 1086,g1 39 0 1086,g1 47 0 1086,g1 53 28 1052],e1 112 0x222622262222264444c4400222020262222262622020262020222620220122 [G1 12 [cS 7 2,gK 418 32 [2007]]],e1 79 0x20222622230026000226002020000e200262220202622002202202020200022 [(6,[gK 8252 60],[gK 0 60]),G2 14 [cS 8 2,gK 8700 65660 [2008]],g1 20 8252 60,G2 29 [cS 8 2,gK 481036345852 65660 [2008]],G1 35 [cS 8 2,gK 8700 65660 [2008]],g1 46 0 60,g1 58 48 48],e1 51 0x20022222020262222222022202002202222202e2002020202222222202600200022002022220002 [g1 8 12 12,g2 14 12582926 14,g1 20 14 14,g1 32 12 12,(39,[gK 68719476750 14],[gK 0 14]),g1 51 0 14,g1 61 12 12,g1 71 12 12,g1 75 12 12],e0 24 0x2222302022212,e0 19 0x26c4426c40264026c0022002222222012,(20,⟨0x2222306222206c044222022020000022622222306222206c04422202202000002260202060002,[(75,[.closeS (.c 7 2),.closeS (.c 7 3)])],[G2 8 [cC 7 2 1,gK 7340238 200 [4142]],G1 14 [cC 7 2 1,gK 206 200 [4142]],G2 29 [cC 7 2 1,cC 7 3 1,gK 3940649673949378 192 [4142,4143]],G1 35 [cC 7 2 1,cC 7 3 1,gK 192 192 [4142,4143]]]⟩),e0 81 0x26222221,e1 113 0x22226260002000201 [g2 6 387 0,g1 12 0 0,g1 22 16 0,g1 27 16 0],e0 80 0x226221,e0 53 0x264c4422012,e1 54 0x2206c444c440422022200000212 [g2 6 900 4,g1 12 0 0,g1 22 16 0,g1 27 16 0],e1 83 0x26200201 [G1 8 [.canon (.s 2) 4004 1],G1 12 [.canon (.s 2) 4004 1]],e1 57 0x200226c0442602020202202022000222 [g1 8 192 192,(14,[gK 33008 240],[gK 0 240]),g1 24 0 240,g1 28 192 192],e0 95 0x2220622102,e1 82 0x2200222202262222626200203202026220220220200000622260202220000001002 [g2 6 57398 52,g1 12 48 48,g2 20 939581622 52,g1 26 57398 52,g1 44 112 48,g1 50 112 48],e1 59 0x1ff220002222222002002600222002260000226200112 [G1 9 [cS 6 1,gK 192 0 [2006]],G1 15 [cS 6 1,gK 192 0 [2006]],G2 20 [cS 8 1,gK 268 8 [2008]],G1 30 [cS 6 1,gK 192 0 [2006]]],e1 47 0x2220622112 [G1 4 [.canon (.s 4) 4004 1]],e0 119 0x26201,e0 93 0x26c44264402201,e0 94 0x26201,e1 70 0x226cc44444c444c04c002620022222602600222260060020022011 [g2 8 451 0,g1 14 195 0],e0 48 0x222222222026221,e0 40 0x26626222206262002012,e1 21 0x22036226606262002020200606002302620020122 [G2 6 [.closeS (.s 2),gK 572 48],g1 12 4 0],e1 39 0x2220622112 [G1 4 [.canon (.s 4) 4004 1]],e1 22 0x220362622202000062200260626200206060023026200201122 [G2 6 [.closeS (.s 2),gK 1084 48],g1 12 4 0,g1 29 768 0,g1 37 768 0],(6,⟨0x222230622202236302001ef02002036200022220200020222222202000002030001ef02002236222202202000002022220202222020e2200206402202220202e000102,[(33,[.closeS (.s 43)]),(65,[.closeS (.s 66)]),(107,[.closeS (.s 101)]),(118,[.closeS (.s 110)]),(124,[.closeS (.c 12 3)])],[G2 30 [cS 13 1,gK 7881299347912984 6416 [2013]],G1 36 [cS 13 1,gK 14616 6416 [2013]],G2 49 [cC 12 3 1,gK 16528282690043758254360 6416 [4243]],G1 55 [cC 12 3 1,gK 4352 4352 [4243]],G2 66 [cS 18 1,cC 12 3 1,gK 29030747953441143951530264 6416 [2018,4243]],G1 72 [cS 18 1,cC 12 3 1,gK 16528282690043758516504 6416 [2018,4243]]]⟩),(71,⟨0x2222306222030622222022262222302622022002020000200202000020002,[(53,[.closeS (.s 49)]),(59,[.closeS (.c 3 0),.closeS (.c 3 1)])],[G2 8 [cC 3 0 1,cC 3 1 1,gK 14350 14 [4060,4061]],G1 14 [cC 3 0 1,cC 3 1 1,gK 12 12 [4060,4061]],G2 25 [cS 6 2,cC 3 0 1,cC 3 1 1,gK 1849454 46 [2006,4060,4061]],G1 31 [cS 6 2,cC 3 0 1,cC 3 1 1,gK 14446 46 [2006,4060,4061]],G1 44 [cS 6 2,cC 3 0 1,cC 3 1 1,gK 1849966 558 [2006,4060,4061]]]⟩),e0 96 0x26262222020262620260220626020260012,e0 122 0x62206000200222202201,e1 99 0x62222222220262222620062002220000001 [g2 6 3587 0,g1 12 3 0,g1 23 16 0,g1 34 16 0,g1 43 16 0,g1 47 16 0],e0 98 0x26221,e1 14 0x2206262026002000200620201 [g1 8 16 0,g2 14 12291 0,g1 20 0 0,g1 30 16 0,g1 35 16 0],e0 101 0x26221,(72,⟨0x222302222262223622020220e0002000202200002012,[(32,[.closeS (.s 34)])],[G2 8 [cS 5 1,gK 7204 4 [2005]],G1 14 [cS 5 1,gK 32 0 [2005]],G2 22 [cS 5 1,gK 400548 4 [2005]],G1 28 [cS 5 1,gK 7204 4 [2005]]]⟩),(49,⟨0x2226202620200202620222000222222202000220112,[(16,[.closeS (.s 16)])],[G1 8 [cS 2 1,gK 12 0 [2002]],G2 20 [.closeS (.s 5),cS 6 1,gK 240 16 [2006]],G1 26 [cS 6 1,gK 64 0 [2006]],G1 37 [cS 2 1,gK 12 0 [2002]],G1 43 [cS 2 1,gK 12 0 [2002]]]⟩),e0 23 0x222222220222112,e0 7 0x222022112,e0 55 0x26c444422012,e0 56 0x22223300200262212,e1 34 0x2202620220000222026202200002220262022000000260012 [g1 8 64 0,g2 14 917518 8,g1 20 14 8,g1 30 64 0,g2 37 1879048202 8,g1 43 10 8,g1 53 64 0,g2 60 3848290697224 8,g1 66 0 0,g1 76 64 0,g1 81 64 0],e0 36 0x22622212,e1 33 0x2206262026002000200620201 [g1 8 16 0,g2 14 12291 0,g1 20 0 0,g1 30 16 0,g1 35 16 0],e1 25 0x2206222622022222000002206c440440264c4040264c400226200122 [g1 8 16 0,g2 14 962072674308 4,g1 20 0 0,g1 30 16 0,g1 35 16 0],e1 27 0x22222622222202000022012 [G2 8 [cS 3 1,gK 904 0 [2003]],G1 14 [cS 3 1,gK 8 0 [2003]]],e0 31 0x226222262022122,e0 52 0x26262222012,e0 29 0x26c44426c04026c0426022622226200222222620026001222,e0 28 0x2e22212,e1 26 0x222202662200200022220000021 [g2 6 1794 0,g1 12 0 0,g2 20 100130 0,g1 26 1794 0,g1 36 16 0,g1 42 16 0],e0 32 0x26262212,e0 30 0x26602062012,e0 8 0x26220064c4402260026444426444022220200220122,e0 35 0x2220622102,e1 9 0x22222622226c4c4404022222020262006c04022202020000626202260200202202e600200112 [G2 18 [cS 11 1,gK 481036339226 16 [2011]],G1 24 [cS 11 1,gK 2048 0 [2011]]],e0 58 0x26262212,e0 37 0x26cc026c40026c0402220122,e0 10 0x26c4426c042600122,e0 38 0x26622212,e0 11 0x26cc402620000200064c042260011222,e1 3 0x26422222202e2222206cc044001cf40022222202001ef00002200002064c00264426442222220220220202001ef20000220202001ef000022222622066222022202622022064440222232022002012 [g1 8 256 0,g1 18 256 0,g1 38 256 0,g2 44 35494216806390423241907689846800 81936,g1 50 81936 81936,g1 62 256 0,g1 69 256 0]]
namespace trace_events_c1
def AQ:Zx:=[o1 20 (.s 18) [],o2 21 (ix 5) [.s 16,.s 18] [],o2 22 (lD 5) [.s 21] [21],o2 6 (.a (.alloc 5 [.int .i64 0,.int .i64 0,.int .i64 0,.int .i64 0,.bJ])) [] [],o1 5 (.s 20) [20],oz (.l (.store 5)) [.s 6,.s 22] [22]]
def yg:Zx:=[o1 23 (.s 0) [],o1 24 (.s 3) [],o1 25 (.s 5) [5],o2 26 (bI .add) [.s 25,.k (.int .i64 1)] [25],o2 27 (.p (.build [.int .i64 0,.int .i64 0] [(0,1),(1,1)])) [.s 24,.s 26] [24,26],o2 28 (lD 5) [.s 6] [6],o2 29 .c [.s 23,.s 27,.s 28] [23,27,28],o2 30 (.p .not) [.s 29] [29]]
def vQ:Zx:=[o2 31 (bI .add) [.s 18,.k (.int .i64 1)] [],o1 18 (.s 31) [31]]
def Ec:RC:=.hg (.seq (.ops [o2 19 (bI .lss) [.s 18,.s 17] []]) (.seq (.cond (.s 19) .skip (.exit 2)) (.seq (.block 3 (.seq (.ops AQ) (.seq (.ops yg) (.cond (.s 30) .ret .skip)))) (.ops vQ)))) (.keep [0,3,8,9,10,16,17,18] [])
def IS:Zx:=[o1 12 (.s 10) [],o2 13 (ix 3) [.s 8,.s 10] [],o2 14 (lD 3) [.s 13] [13],o2 4 (.a (.alloc 3 [.str ByteArray.empty,.bJ,.bJ])) [] [],o1 3 (.s 12) [12],oz (.l (.store 3)) [.s 4,.s 14] [14]]
def GL:Zx:=[o2 15 (fa 2) [.s 4] [],o2 16 (ld 1) [.s 15] [15],o2 17 ln [.s 16] [],o1 18 (.k (.int .i64 0)) []]
def D1:Zx:=[o2 32 (bI .add) [.s 10,.k (.int .i64 1)] [],o1 10 (.s 32) [32]]
def U2:RC:=.block 2 (.gh (.keep [0,3,8,9,10,16,17,18] []) (.loop Ec))
def L5:RC:=.hg (.seq (.ops [o2 11 (bI .lss) [.s 10,.s 9] []]) (.seq (.cond (.s 11) .skip (.exit 0)) (.seq (.block 1 (.seq (.ops IS) (.seq (.ops GL) U2))) (.ops D1)))) (.keep [0,8,9,10] [])
def Qa:Zx:=[o2 7 (fa 0) [.s 1] [1],o2 8 (ld 1) [.s 7] [7],o2 9 ln [.s 8] [],o1 10 (.k (.int .i64 0)) []]
def U1:RC:=.block 0 (.gh (.keep [0,8,9,10] []) (.loop L5))
def text:RF:=⟨33,[],.seq (.ops Qa) U1⟩
section
variable{S:Sys}
abbrev I1(ps:Sl cq)(i:Int)(B:aZ (aZ V))(more:Bool)(y:Nat):St:=⟨[(0,.yl y),Cv 8 ps,Iv 9 (len ps),Iv 10 i],[],[],B,more,y⟩
abbrev I2(ps:Sl cq)(i:Int)(es:Sl Event)(j:Int)(B:aZ (aZ V))(more:Bool)(y:Nat):St:=⟨[(0,.yl y),Iv 3 i,Cv 8 ps,Iv 9 (len ps),Iv 10 i,Cv 16 es,Iv 17 (len es),Iv 18 j],[],[],B,more,y⟩
abbrev S2(ps:Sl cq)(i:Int)(es:Sl Event)(j:Int)(b:Bool)(B:aZ (aZ V))(more:Bool)(y:Nat):St:=⟨[(0,.yl y),Iv 3 i,Cv 8 ps,Iv 9 (len ps),Iv 10 i,Cv 16 es,Iv 17 (len es),Iv 18 j,Bv 19 b],[],[],B,more,y⟩
theorem Sd(ps:Sl cq)(i:Int)(es:Sl Zn)(j:Int)(B:Zt)(more:Zl)(y:Nat)(D:decide (j<len es)=false):
 rn S.bare mF some (.rc Ec) [] (I2 ps i es j B more y)=some (.exit 2,S2 ps i es j false B more y):=by
 refine Le.get ?_;refine Kf (n:=7) (fo':=.rc (.cond (.s 19) .skip (.exit 2))) (fs':=[.seq (.seq (.block 3 (.seq (.ops AQ) (.seq (.ops yg) (.cond (.s 30) .ret .skip)))) (.ops vQ)),.gst (.keep [0,3,8,9,10,16,17,18] [])]) (λb=>S2 ps i es j b B more y) D Zf ?_
 exact Le.of_eq Zf
theorem TH(ps:Sl cq)(i:Int)(es:Sl Zn)(j:Int)(e:Zn)(B:Zt)(more:Zl)(y:Nat)(D:decide (j<len es)=true)(G:idx es j=some e)(J:(!(more|| !B.isEmpty))=false):
 rn S.bare mF some (.rc Ec) [] (I2 ps i es j ([enc (⟨i,wrap .i64 (j+1)⟩:bf),enc e]::B) more y)=some (.norm,I2 ps i es (wrap .i64 (j+1)) B more y):=by
 refine Le.get ?_;refine Kt (n:=7) (fo':=.rc (.cond (.s 19) .skip (.exit 2))) (fs':=[.seq (.seq (.block 3 (.seq (.ops AQ) (.seq (.ops yg) (.cond (.s 30) .ret .skip)))) (.ops vQ)),.gst (.keep [0,3,8,9,10,16,17,18] [])]) (λb=>S2 ps i es j b ([enc (⟨i,wrap .i64 (j+1)⟩:bf),enc e]::B) more y) D Zf ?_
 refine NH G ?_;refine Nj 8 false [] (AQ.drop 1) [.seq (.seq (.ops yg) (.cond (.s 30) .ret .skip)),.blk 3,.seq (.ops vQ),.gst (.keep [0,3,8,9,10,16,17,18] [])] ⟨[(0,.yl y),Iv 3 i,Cv 8 ps,Iv 9 (len ps),Iv 10 i,Cv 16 es,Iv 17 (len es),Iv 18 j,Bv 19 true,Iv 20 j],[],[],([enc (⟨i,wrap .i64 (j+1)⟩:bf),enc e]::B),more,y⟩ .i64 rfl Zf λx a=>?_
 obtain rfl:x=e:=Zd
 refine RY 1 false [] (AQ.drop 3) [.seq (.seq (.ops yg) (.cond (.s 30) .ret .skip)),.blk 3,.seq (.ops vQ),.gst (.keep [0,3,8,9,10,16,17,18] [])] ⟨[(0,.yl y),Iv 3 i,Cv 8 ps,Iv 9 (len ps),Iv 10 i,Cv 16 es,Iv 17 (len es),Iv 18 j,Bv 19 true,Iv 20 j,Cv 22 x],[],[],([enc (⟨i,wrap .i64 (j+1)⟩:bf),enc x]::B),more,y⟩ [iv 0,iv 0,iv 0,iv 0,.v .bJ] rfl (by simp only[bN,wD,pP,rm,pS,rj,sC,qL,si,pT,qR,w6,sF,sJ,sN,sM,uL,uF,qX,sw,SV.cQ];rfl) Zf ?_
 refine Ast 1 false [] (AQ.drop 5) [.seq (.seq (.ops yg) (.cond (.s 30) .ret .skip)),.blk 3,.seq (.ops vQ),.gst (.keep [0,3,8,9,10,16,17,18] [])] ⟨[(0,.yl y),Iv 3 i,Cv 8 ps,Iv 9 (len ps),Iv 10 i,Cv 16 es,Iv 17 (len es),Iv 18 j,Bv 19 true,Cv 22 x,Pv 6,Iv 5 j],[Xb 6 (⟨0,0,0,0,.nil⟩:Zn)],[],([enc (⟨i,wrap .i64 (j+1)⟩:bf),enc x]::B),more,y⟩ 6 0 x [iv 0,iv 0,iv 0,iv 0,.v .bJ] ((cells x).map .v) rfl Zf ?_
 refine UF (n:=10) (q:=yg.drop 6) (fs':=[.seq (.cond (.s 30) .ret .skip),.blk 3,.seq (.ops vQ),.gst (.keep [0,3,8,9,10,16,17,18] [])]) (st:=⟨[(0,.yl y),Iv 3 i,Cv 8 ps,Iv 9 (len ps),Iv 10 i,Cv 16 es,Iv 17 (len es),Iv 18 j,Bv 19 true,(23,.yl y),Cv 27 (⟨i,wrap .i64 (j+1)⟩:bf),Cv 28 x],[Xb 6 x],[],([enc (⟨i,wrap .i64 (j+1)⟩:bf),enc x]::B),more,y⟩) (vs:=[cv (⟨i,wrap .i64 (j+1)⟩:bf),cv x]) Zf rfl Zf Zf rfl rfl ?_
 refine Kf (n:=3) (fo':=.rc (.cond (.s 30) .ret .skip)) (fs':=[.blk 3,.seq (.ops vQ),.gst (.keep [0,3,8,9,10,16,17,18] [])]) (λb=>⟨[(0,.yl y),Iv 3 i,Cv 8 ps,Iv 9 (len ps),Iv 10 i,Cv 16 es,Iv 17 (len es),Iv 18 j,Bv 19 true,Bv 30 b],[Xb 6 x],[],B,more,y⟩) J Zf ?_
 exact Le.of_eq Zf
theorem Q9(ps:Sl cq)(i:Int)(es:Sl Zn)(j:Int)(e:Zn)(B:Zt)(more:Zl)(y:Nat)(D:decide (j<len es)=true)(G:idx es j=some e)(J:(!(more|| !B.isEmpty))=true):
 rn S.bare mF some (.rc Ec) [] (I2 ps i es j ([enc (⟨i,wrap .i64 (j+1)⟩:bf),enc e]::B) more y)=some (.ret,⟨[(0,.yl y),Iv 3 i,Cv 8 ps,Iv 9 (len ps),Iv 10 i,Cv 16 es,Iv 17 (len es),Iv 18 j,Bv 19 true,Bv 30 true],[Xb 6 e],[],B,more,y⟩):=by
 refine Le.get ?_;refine Kt (n:=7) (fo':=.rc (.cond (.s 19) .skip (.exit 2))) (fs':=[.seq (.seq (.block 3 (.seq (.ops AQ) (.seq (.ops yg) (.cond (.s 30) .ret .skip)))) (.ops vQ)),.gst (.keep [0,3,8,9,10,16,17,18] [])]) (λb=>S2 ps i es j b ([enc (⟨i,wrap .i64 (j+1)⟩:bf),enc e]::B) more y) D Zf ?_
 refine NH G ?_;refine Nj 8 false [] (AQ.drop 1) [.seq (.seq (.ops yg) (.cond (.s 30) .ret .skip)),.blk 3,.seq (.ops vQ),.gst (.keep [0,3,8,9,10,16,17,18] [])] ⟨[(0,.yl y),Iv 3 i,Cv 8 ps,Iv 9 (len ps),Iv 10 i,Cv 16 es,Iv 17 (len es),Iv 18 j,Bv 19 true,Iv 20 j],[],[],([enc (⟨i,wrap .i64 (j+1)⟩:bf),enc e]::B),more,y⟩ .i64 rfl Zf λx a=>?_
 obtain rfl:x=e:=Zd
 refine RY 1 false [] (AQ.drop 3) [.seq (.seq (.ops yg) (.cond (.s 30) .ret .skip)),.blk 3,.seq (.ops vQ),.gst (.keep [0,3,8,9,10,16,17,18] [])] ⟨[(0,.yl y),Iv 3 i,Cv 8 ps,Iv 9 (len ps),Iv 10 i,Cv 16 es,Iv 17 (len es),Iv 18 j,Bv 19 true,Iv 20 j,Cv 22 x],[],[],([enc (⟨i,wrap .i64 (j+1)⟩:bf),enc x]::B),more,y⟩ [iv 0,iv 0,iv 0,iv 0,.v .bJ] rfl (by simp only[bN,wD,pP,rm,pS,rj,sC,qL,si,pT,qR,w6,sF,sJ,sN,sM,uL,uF,qX,sw,SV.cQ];rfl) Zf ?_
 refine Ast 1 false [] (AQ.drop 5) [.seq (.seq (.ops yg) (.cond (.s 30) .ret .skip)),.blk 3,.seq (.ops vQ),.gst (.keep [0,3,8,9,10,16,17,18] [])] ⟨[(0,.yl y),Iv 3 i,Cv 8 ps,Iv 9 (len ps),Iv 10 i,Cv 16 es,Iv 17 (len es),Iv 18 j,Bv 19 true,Cv 22 x,Pv 6,Iv 5 j],[Xb 6 (⟨0,0,0,0,.nil⟩:Zn)],[],([enc (⟨i,wrap .i64 (j+1)⟩:bf),enc x]::B),more,y⟩ 6 0 x [iv 0,iv 0,iv 0,iv 0,.v .bJ] ((cells x).map .v) rfl Zf ?_
 refine UF (n:=10) (q:=yg.drop 6) (fs':=[.seq (.cond (.s 30) .ret .skip),.blk 3,.seq (.ops vQ),.gst (.keep [0,3,8,9,10,16,17,18] [])]) (st:=⟨[(0,.yl y),Iv 3 i,Cv 8 ps,Iv 9 (len ps),Iv 10 i,Cv 16 es,Iv 17 (len es),Iv 18 j,Bv 19 true,(23,.yl y),Cv 27 (⟨i,wrap .i64 (j+1)⟩:bf),Cv 28 x],[Xb 6 x],[],([enc (⟨i,wrap .i64 (j+1)⟩:bf),enc x]::B),more,y⟩) (vs:=[cv (⟨i,wrap .i64 (j+1)⟩:bf),cv x]) Zf rfl Zf Zf rfl rfl ?_
 refine Kt (n:=3) (fo':=.rc (.cond (.s 30) .ret .skip)) (fs':=[.blk 3,.seq (.ops vQ),.gst (.keep [0,3,8,9,10,16,17,18] [])]) (λb=>⟨[(0,.yl y),Iv 3 i,Cv 8 ps,Iv 9 (len ps),Iv 10 i,Cv 16 es,Iv 17 (len es),Iv 18 j,Bv 19 true,Bv 30 b],[Xb 6 x],[],B,more,y⟩) J Zf ?_
 exact Le.of_eq Zf
abbrev S1(ps:Sl cq)(i:Int)(b:Bool)(B:aZ (aZ V))(more:Bool)(y:Nat):St:=⟨[(0,.yl y),Cv 8 ps,Iv 9 (len ps),Iv 10 i,Bv 11 b],[],[],B,more,y⟩
theorem SK(ps:Sl cq)(i:Int)(B:Zt)(more:Zl)(y:Nat)(D:decide (i<len ps)=false):
 rn S.bare mF some (.rc L5) [] (I1 ps i B more y)=some (.exit 0,S1 ps i false B more y):=by
 refine Le.get ?_;refine Kf (n:=7) (fo':=.rc (.cond (.s 11) .skip (.exit 0))) (fs':=[.seq (.seq (.block 1 (.seq (.ops IS) (.seq (.ops GL) U2))) (.ops D1)),.gst (.keep [0,8,9,10] [])]) (λb=>S1 ps i b B more y) D Zf ?_
 exact Le.of_eq Zf
def Pf:Z3:=[.blk 2,.blk 1,.seq (.ops D1),.gst (.keep [0,8,9,10] [])]
theorem Pg(ps:Sl cq)(i:Int)(p:cq)(B:Zt)(more:Zl)(y:Nat)(r:Out×St)(D:decide (i<len ps)=true)(G:idx ps i=some p)
 (h:rn S.bare mF some (.rc (.loop Ec)) Pf (I2 ps i p.events 0 B more y)=some r):rn S.bare mF some (.rc L5) [] (I1 ps i B more y)=some r:=by
 refine Le.get ?_;refine Kt (n:=7) (fo':=.rc (.cond (.s 11) .skip (.exit 0))) (fs':=[.seq (.seq (.block 1 (.seq (.ops IS) (.seq (.ops GL) U2))) (.ops D1)),.gst (.keep [0,8,9,10] [])]) (λb=>S1 ps i b B more y) D Zf ?_
 refine NH G ?_;refine Nj 8 false [] (IS.drop 1) [.seq (.seq (.ops GL) U2),.blk 1,.seq (.ops D1),.gst (.keep [0,8,9,10] [])] ⟨[(0,.yl y),Cv 8 ps,Iv 9 (len ps),Iv 10 i,Bv 11 true,Iv 12 i],[],[],B,more,y⟩ .i64 rfl Zf λx a=>?_
 obtain rfl:x=p:=Zd
 refine RY 1 false [] (IS.drop 3) [.seq (.seq (.ops GL) U2),.blk 1,.seq (.ops D1),.gst (.keep [0,8,9,10] [])] ⟨[(0,.yl y),Cv 8 ps,Iv 9 (len ps),Iv 10 i,Bv 11 true,Iv 12 i,Cv 14 x],[],[],B,more,y⟩ [.v (.str ByteArray.empty),.v .bJ,.v .bJ] rfl (by simp only[bN,wD,pP,rm,pS,rj,sC,qL,si,pT,qR,w6,sF,sJ,sN,sM,uL,uF,qX,sw,SV.cQ];rfl) Zf ?_
 refine Ast 1 false [] (IS.drop 5) [.seq (.seq (.ops GL) U2),.blk 1,.seq (.ops D1),.gst (.keep [0,8,9,10] [])] ⟨[(0,.yl y),Cv 8 ps,Iv 9 (len ps),Iv 10 i,Bv 11 true,Cv 14 x,Pv 4,Iv 3 i],[Xb 4 (⟨ByteArray.empty,.nil,.nil⟩:cq)],[],B,more,y⟩ 4 0 x [.v (.str ByteArray.empty),.v .bJ,.v .bJ] ((cells x).map .v) rfl Zf ?_
 refine S4 6 false [] (GL.drop 2) [.seq U2,.blk 1,.seq (.ops D1),.gst (.keep [0,8,9,10] [])] ⟨[(0,.yl y),Cv 8 ps,Iv 9 (len ps),Iv 10 i,Bv 11 true,Pv 4,Iv 3 i,Cv 16 x.events],[Xb 4 x],[],B,more,y⟩ x.events rfl Zf ?_
 refine Dq (n:=5) (fo':=.rc (.loop Ec)) (fs':=Pf) (st':=I2 ps i x.events 0 B more y) Zf (Le.of_eq h)
theorem Qm(ps:Sl cq)(i:Int)(es:Sl Zn)(j:Int)(B:Zt)(more:Zl)(y:Nat):
 rn S.bare mF some (.ex 2) Pf (S2 ps i es j false B more y)=some (.norm,I1 ps (wrap .i64 (i+1)) B more y):=by kernel_rfl
theorem wrap_small(n:Nat)(h:n<9223372036854775807):wrap .i64 ((n:Int)+1)=((n+1:Nat):Int):=by simp[wrap,IntKind.bits,signed];omega
abbrev eI(x:bf×Event):aZ V:=[enc x.1,enc x.2]
theorem Ci.step{x:Zu}{D rest:Zt}{more:Zl}(h:Ci D (x::rest) more):∃B,D=x::B/\((!(more|| !B.isEmpty))=false/\Ci B rest more\/(!(more|| !B.isEmpty))=true/\B=[]):=by rcases h with⟨rfl,rfl⟩|⟨rfl,t,r,a⟩;exact⟨rest,rfl,.inl ⟨rfl,.inl ⟨rfl,rfl⟩⟩⟩;cases D with|nil=>grind|cons w D=>simp only[List.cons_append,List.cons.injEq]at a;obtain⟨rfl,rfl⟩:=a;refine⟨D,rfl,?_⟩;cases D with|nil=>grind|cons z u=>exact .inl ⟨rfl,.inr ⟨rfl,Zc,r,rfl⟩⟩
theorem FM{α:Type}{s:Sl α}{j:Nat}{x:α}{r:aZ α}(h:s.l.drop j=x::r):idx s (j:Int)=some x/\decide ((j:Int)<len s)=true/\s.l.drop (j+1)=r:=by
 have a:j<s.l.length:=by apply Classical.byContradiction;intro u;rw[List.drop_eq_nil_of_le Za]at h;cases h
 have t:=List.drop_eq_getElem_cons a;rw[t]at h;simp only[List.cons.injEq]at h;refine⟨?_,Zd,h.2⟩;unfold idx;simp_all
variable{Q:Out×St->a_ (Out×St)}{fs:Z3}
theorem inner(ps:Sl cq)(i:Int)(es:Sl Zn)(O:es.l.length<9223372036854775807)(more:Zl)(y:Nat)(R:Zt):∀(a:aZ Zn)(j:Nat),es.l.drop j=a->∀D,Ci D ((iw i j a).map eI++R) more->
 (∃(B:Zt)(U:Int),Ci B R more/\rn S.bare mF Q (.rc (.loop Ec)) fs (I2 ps i es j D more y)=rn S.bare mF Q (.ex 2) fs (S2 ps i es U false B more y))\/
 (∃st':St,st'.want=[]/\rn S.bare mF Q (.rc (.loop Ec)) fs (I2 ps i es j D more y)=Q (.ret,st'))
 |[],j,J,D,G=>by have b:decide ((j:Int)<len es)=false:=(by simp_all);exact .inl ⟨D,j,by simpa[iw]using G,DV (Sd ps i es j D more y b)⟩|e::a,j,J,D,G=>by have⟨b,w,z⟩:=FM J;have T:j<es.l.length:=Zd;simp only[iw,map_cons,List.cons_append]at G;obtain⟨B,rfl,t⟩:=Ci.step G;have C:=wrap_small j Za;have u:((j:Int)+1)=wrap .i64 ((j:Int)+1):=Zd;rcases t with⟨t,I⟩|⟨t,rfl⟩;have k:=TH (S:=S) ps i es j e B more y w b t;rw[<-u]at k;have W:=Ee (Q:=Q) (fs:=fs) k;have L:=inner ps i es O more y R a (j+1) z B Zd;rw[show((j+1:Nat):Int)=(j:Int)+1 from rfl]at L;grind;have k:=Q9 (S:=S) ps i es j e [] more y w b t;rw[<-u]at k;exact .inr ⟨_,by rfl,Eu k⟩
theorem outer(ps:Sl cq)(O:ps.l.length<9223372036854775807)(D:∀p∈ps.l,p.events.l.length<9223372036854775807)(more:Zl)(y:Nat):∀(a:aZ cq)(i:Nat),ps.l.drop i=a->∀B,Ci B ((fm i a).map eI) more->
 rn S.bare mF Qi (.rc (.loop L5)) [.blk 0] (I1 ps i B more y)=some ()
 |[],i,J,B,G=>by
  have b:decide ((i:Int)<len ps)=false:=by simp_all
  rw[DV (SK ps i B more y b)];have:B=[]:=by
   rcases G with⟨_,rfl⟩|⟨_,C,r,c⟩;rfl;have:B=[]:=by cases B with
    |nil=>rfl|cons=>simp[fm]at c
   grind
  subst this;rfl
 |p::a,i,J,B,G=>by have⟨b,w,z⟩:=FM J;have I:i<ps.l.length:=Zd;have d:p∈ps.l:=List.mem_of_mem_drop (i:=i) Zd;simp only[fm,map_append]at G;have t:=wrap_small i Za;rcases inner (S:=S) (Q:=some) (fs:=Pf) ps i p.events (D p d) more y _ p.events.l 0 rfl B G with⟨u,L,g1,g2⟩|⟨st',g1,g2⟩;rw[Qm,t]at g2;rw[Ee (Pg ps i p B more y _ w b g2)];exact outer ps O D more y a (i+1) z u g1;rw[Eu (Pg ps i p B more y _ w b g2)];simp[Qi,g1]
theorem all(t:Zj)(B:aZ (bf×Zn))(h:iS t=some B)(D:Zt)(more:Zl)(G:Ci D (B.map eI) more)(y:Nat):
 rn S.bare mF Qi (.rc text.body) [] ⟨vW 0 (([]:Zu).map .v++.yl y::[V.fptr (cells t)].map .v),[],[],D,more,y⟩=some ():=by
 unfold iS at h;split at h
 .rename_i hk;cases h;simp only[ζh,List.all_eq_true,EY,decide_eq_true_eq]at hk;refine Le.get ?_;refine S4 4 false [] (Qa.drop 2) [.seq U1] ⟨[(0,.yl y),Cv 8 t.procs],[],[],D,more,y⟩ t.procs rfl Zf ?_
  refine Dq (n:=5) (fo':=.rc (.loop L5)) (fs':=[.blk 0]) (st':=I1 t.procs 0 D more y) Zf (Le.of_eq ?_)
  exact outer t.procs hk.1 hk.2 more y t.procs.l 0 rfl D G
 simp_all
end
theorem IK{α:Type}[bB α]{a b:Sl α}(h:b7 a=b7 b):rows a.l=rows b.l:=by cases a<;>cases b<;>first|rfl|(simp only[b7,Sl.k,nP,V.fsl.injEq,true_and,reduceCtorEq]at h;done)|(simp only[b7,Sl.k,nP,V.fsl.injEq,true_and,reduceCtorEq]at h;omega)
theorem Fy(p:Int):∀(es B:aZ Zn)(j:Int),rows es=rows B->(iw p j es).map eI=(iw p j B).map eI
 |[],[],_,_=>rfl|[],_::_,_,h=>by simp[rows]at h|_::_,[],_,h=>by simp[rows]at h|e::es,D::B,j,h=>by simp only[rows,map_cons,List.cons.injEq]at h;have a:enc e=enc D:=(by show V.agg (cells e)=V.agg (cells D);rw[h.1]);simp only[iw,map_cons,eI,a,Fy p es B (j+1) h.2]
theorem BU:∀(ps B:aZ cq)(i:Int),rows ps=rows B->(fm i ps).map eI=(fm i B).map eI
 |[],[],_,_=>rfl|[],_::_,_,h=>by simp[rows]at h|_::_,[],_,h=>by simp[rows]at h|p::ps,p'::B,i,h=>by simp only[rows,map_cons,List.cons.injEq]at h;have a:b7 p.events=b7 p'.events:=(by have:=h.1;change[V.str p.name,b7 p.vars,b7 p.events]=[V.str p'.name,b7 p'.vars,b7 p'.events]at this;grind);simp only[fm,map_append,Fy i _ _ 0 (IK a),BU ps B (i+1) h.2]
def EZ(f:Zk)(g:Zk)(a b:Zu)(xs:Zt):Prop:=∃(t:Zj)(u:aZ (bf×Zn)),g=f/\a=[]/\b=[.fptr (cells t)]/\iS t=some u/\xs=u.map eI
theorem EZ.uniq{f g:Zk}{a b:Zu}{xs ys:Zt}(h:EZ f g a b xs)(k:EZ f g a b ys):xs=ys:=by
 obtain⟨t,C,rfl,rfl,rfl,c,rfl⟩:=h;obtain⟨w,z,_,_,B,u,rfl⟩:=k;simp only[List.cons.injEq,V.fptr.injEq,and_true]at B;have D:b7 t.procs=b7 w.procs:=by change[b7 t.procs]=[b7 w.procs]at B;grind
 unfold iS at c u;split at c<;>split at u<;>simp only[ζa,reduceCtorEq]at c u;subst c u;exact BU _ _ 0 (IK D)
end trace_events_c1
end Go.VE
namespace Go.VE
open Go.Proofs.YtbhedaipfioknaaGreat
noncomputable section
def Jd(f:Zk):a_ BM:=bif beq f 60 then some (sy false)else bif beq f 69 then some (sy true)else bif beq f 100 then some (rA E)else bif beq f 97 then some (rH E)else none
def Sy:Sys:=⟨E,λn=>n,w8 (trace_events_c1.EZ 107),yK E,Jd⟩
theorem Sv:Sy.prm 60=some (sy false):=by kernel_rfl
theorem SQ:Sy.prm 69=some (sy true):=by kernel_rfl
theorem Pz:Sy.prm 100=some (rA Sy.E):=by kernel_rfl
theorem RP:Sy.prm 97=some (rH Sy.E):=by kernel_rfl
theorem R4:∀f q,Jd f=some q->mw E f q:=by intro f q h;unfold Jd at h;cases a:beq f 60 with|true=>rw[a]at h;cases h;have:=Nat.eq_of_beq_eq_true a;subst this;exact Ii false uI Zf Zf (uT Zf)|false=>rw[a]at h;cases a:beq f 69 with|true=>rw[a]at h;cases h;have:=Nat.eq_of_beq_eq_true a;subst this;exact Ii true uI Zf Zf (uT Zf)|false=>rw[a]at h;cases a:beq f 100 with|true=>rw[a]at h;cases h;have:=Nat.eq_of_beq_eq_true a;subst this;exact MY uI Zf Zf (uT Zf)|false=>rw[a]at h;cases a:beq f 97 with|true=>rw[a]at h;cases h;have:=Nat.eq_of_beq_eq_true a;subst this;exact Ng Zf Zf Zf Zf|false=>rw[a]at h;cases h
def Tx:oR:=N3 E some (lk U3)
abbrev cL:b9:=c7 Sy Tx
theorem RH:∃fi,E.ft 107=some fi/\xh E some fi trace_events_c1.text:=SX Zf
theorem Fe:qj Sy Tx where
 fn f rf h:=let⟨t,a,u⟩:=Ns h;⟨t,some,a,uI,u⟩
 yf f w y h:=Lr h
 prm:=R4
theorem Ae:∀f a b xs,Sy.items f a b=some xs->fu Sy f a b xs:=by intro f a b xs h;obtain⟨t,u,rfl,rfl,rfl,c,rfl⟩:=KI h;have⟨D,w,z⟩:=RH;exact N6 Sy w uI z (Nat.le_of_ble_eq_true rfl) rfl λB more C y=>trace_events_c1.all t u c B more C y
theorem xU(t:Zj)(B:aZ (bf×Zn))(h:iS t=some B):Sy.items 107 [] [.fptr (cells t)]=some (B.map λx:bf×Zn=>[enc x.1,enc x.2]):=Jw ⟨t,B,rfl,rfl,rfl,h,rfl⟩ λw u=>u.uniq ⟨t,B,rfl,rfl,rfl,h,rfl⟩
theorem K6:Sy.yf 4 []=some (.bool true):=zg (HT rfl ⟨1,[],by kernel_rfl⟩)
end
end Go.VE
namespace Go.VE
noncomputable section
def tJ(D:Zj)(B:bf):a_ Zn:=(idx D.procs B.proc).bind λt=>(idx t.events (wrap .i64 (B.index-1))).bind λu=>some u
instance Tm(B:Zj)(D:bf):Fc Sy cL (tJ B D):=Fc.N 86 [enc B,enc D] (dc 2 2 B (ck 10 λu _=>ck 5 λt _=>jB 1 4 0 t bh))
namespace dM
def cn(B G p7:Int)(D:Zj)(J:bf)(a:Int):a_ (Fw Int Unit bf):=(idx D.procs p7).bind λu=>bq (decide (a<(len u.events))) ((idx D.procs p7).bind λw=>(idx w.events a).bind λt=>(bq (t.kind==B) (some (t.message==G)) (some false):a_ Zl).bind λz=>bq z (some (.r (⟨p7,wrap .i64 (a+1)⟩:bf))) (some (.n (wrap .i64 (a+1))))) (some (.x ()))
def W2(B J p7 a:Int)(D:Zj)(G:bf):a_ (Fw Int Unit bf):=(bT (λq:Int=>cn B J p7 D G q) a).bind (Fw.elim (λe=>some (.n (wrap .i64 (p7+1)))) (λe=>some (.r e)))
def bt(B J:Int)(D:Zj)(G:bf)(p7:Int):a_ (Fw Int Unit bf):=bq (decide (p7<(len D.procs))) (W2 B J p7 0 D G) (some (.x ()))
def W1(B J p7:Int)(D:Zj)(G:bf):a_ bf:=(bT (λq:Int=>bt B J D G q) p7).bind (Fw.elim (λe=>some ⟨0,0⟩) (λe=>some e))
end dM
def dM(D:Zj)(B G:Int):a_ bf:=dM.W1 B G 0 D (⟨0,0⟩:bf)
open dM in
instance Rw(D:Zj)(B G:Int):Fc Sy cL (dM D B G):=Fc.M 87 [enc D,.int .i64 B,.int .i64 G] (dc 2 3 D (dR 11 (λt=>(bN [Iv 1 B,Iv 2 G,Pv 3,Pv 6,Iv 7 t] [Xb 3 D,Xb 6 (⟨0,0⟩:bf)])) (λu=>(0,(bN [Pv 6] [Xb 6 (⟨0,0⟩:bf)]))) (λu=>(bN [Pv 6] [Xb 6 u])) (λt=>bW 7 D.procs (bE 3 14 (dR 12 (λz=>(bN [Iv 1 B,Iv 2 G,Pv 3,Pv 6,Iv 7 t,Iv 8 z] [Xb 3 D,Xb 6 (⟨0,0⟩:bf)])) (λw=>(2,(bN [Iv 1 B,Iv 2 G,Pv 3,Pv 6,Iv 7 t] [Xb 3 D,Xb 6 (⟨0,0⟩:bf)]))) (λw=>(bN [Pv 6] [Xb 6 w])) (λz=>ck 8 λC _=>bW 2 C.events (bE 3 25 (ck 10 λJ _=>ck 3 λI _=>jB 2 9 0 I (b_ 9 5 [9,41] 46 (bE 9 41 (bD 5) (bD 5)) λL=>bE 2 46 bh bh)) bh)) (λw=>bh) (λw=>bh)) bh)) (λu=>bh) (λu=>bh)))
namespace dJ
def J1(B:Sl bf)(D:Zj)(G:bf):a_ (Sl bf):=(tJ D G).bind λt=>bq (t.kind==3) ((dM D 2 t.message).bind λu=>(gZ B (u:bf)).bind λw=>some w) (some B)
end dJ
def dJ(D:Zj)(B:bf):a_ (Sl bf):=bq (decide (B.index>1)) (dJ.J1 (Sl.row [⟨B.proc,wrap .i64 (B.index-1)⟩]:Sl bf) D B) (dJ.J1 (Sl.nil:Sl bf) D B)
open dJ in
theorem yo(D:Zj)(B:bf):Le ((dJ D B).bind λr=>some (cB r)) (cr Sy cL (yS (tr Tx 88)) (.rc (tb Tx 88),[],start ([enc D,enc B].map .v) [])):=dc 2 2 D (bE 17 9 (Pc 10 17 18 .bJ (⟨B.proc,wrap .i64 (B.index-1)⟩:bf) (yz 5 (bG 4 λt _=>jB 1 6 0 t (bE 10 24 (bG 6 λu _=>oS 1 2005 30 31 λw _=>bh) bh)))) (yz 5 (bG 4 λt _=>jB 1 6 0 t (bE 10 24 (bG 6 λu _=>oS 1 2005 30 31 λw _=>bh) bh))))
def nH(a:bf->a_ (Sl bf)):aZ (aZ Zl)×aZ bf->a_ (Fw (aZ (aZ Zl)×aZ bf) (aZ (aZ Zl)) Empty)
 |(out,[])=>some (.x out)|(out,y::rest)=>if 0<=y.proc/\0<=y.index then(out[y.proc.toNat]?).bind λrow=>(row[y.index.toNat]?).bind λb=>bq b (some (.n (out,rest))) ((a y).bind λmore=>if rest.length+more.l.length<=2147483648 then some (.n (out.set y.proc.toNat (row.set y.index.toNat true),rest++more.l))else none)else none
def gn(t:Zj):aZ (aZ Zl):=t.procs.l.map λP=>replicate (P.events.l.length+1) false
def zA(t:Zj):Zl:=decide (t.procs.l.length<=2147483648)&&t.procs.l.all λP=>decide (P.events.l.length+1<=2147483648)
def nested(out:aZ (aZ Zl)):Sl (Sl Zl):=if out=[]then .nil else .row (out.map .row)
def mB(t:Zj)(x:bf):a_ (Sl (Sl Zl)):=if zA t then(dJ t x).bind λs=>(bT (nH (dJ t)) (gn t,s.l)).bind (Fw.elim (λout=>some (nested out)) (λe=>elim e))else none
end
namespace pastX
abbrev vO:Nat->FuncId:=λn=>n
def r1:Zx:=[o2 2 (.a .box) [0] [],o2 3 (.a .box) [1] [],o1 4 (.k (.bJ)) []]
def r2:Zx:=[o1 5 (.k (.bJ)) []]
def r3:Zx:=[o1 6 (.k (.int .i64 0)) []]
def r4:Zx:=[o1 11 6 [],o2 12 (fa 0) [2] [],o2 13 (ld 1) [12] [],o2 14 ln [13] [],o2 15 (bI .lss) [11,14] []]
def r5:Zx:=[o1 18 5 [],o2 19 (fa 0) [2] [],o2 20 (ld 1) [19] [],o1 21 6 [],o2 22 (ix 3) [20,21] [],o2 23 (fa 2) [22] [],o2 24 (ld 1) [23] [],o2 25 ln [24] [],o2 26 (bI .add) [25,.k (.int .i64 1)] [],o2 27 (.a (.makeSl 1 [.bool false])) [26,26] [],o2 28 (.a (.buildSl 1 1 [.bJ] [0])) [27] [],o2 29 (.l (.append 1)) [18,28] [],o1 5 29 []]
def r6:Zx:=[o1 16 6 [],o2 17 (bI .add) [16,.k (.int .i64 1)] [],o1 6 17 []]
def L1:RC:=.seq (.seq (.ops r4) (.cond (.s 15) (.skip) (.exit 0))) (.seq (.block 1 (.ops r5)) (.ops r6))
def r7:Zx:=[o2 30 (lD 1) [2] [],o2 31 (lD 2) [3] [],o2 32 .c [.f 88,30,31] [],o1 7 32 []]
def r8:Zx:=[o1 33 7 [],o2 34 ln [33] [],o2 35 (bI .gtr) [34,.k (.int .i64 0)] []]
def r9:Zx:=[o1 36 7 [],o2 37 (ix 2) [36,.k (.int .i64 0)] [],o2 38 (lD 2) [37] [],o2 8 (.a (.alloc 2 [.int .i64 0,.int .i64 0])) [] [],oz (su 2) [8,38] []]
def CT:Zx:=[o1 39 7 [],o2 40 (.p (.slice 2 true false)) [39,.k (.int .i64 1)] [],o1 7 40 []]
def Ei:Zx:=[o1 41 5 [],o2 42 (fa 0) [8] [],o2 43 (ld 1) [42] [],o2 44 (ix 1) [41,43] [],o2 45 (ld 1) [44] [],o2 46 (fa 1) [8] [],o2 47 (ld 1) [46] [],on 48 (ix 1) [45,47] [],on 49 (ld 1) [48] []]
def D_:Zx:=[o1 50 5 [],o2 51 (fa 0) [8] [],o2 52 (ld 1) [51] [],o2 53 (ix 1) [50,52] [],o2 54 (ld 1) [53] [],o2 55 (fa 1) [8] [],o2 56 (ld 1) [55] [],on 57 (ix 1) [54,56] [],oy (su 1) [57,.k (.bool true)] []]
def Ef:Zx:=[o2 58 (lD 1) [2] [],o2 59 (lD 2) [8] [],o2 60 .c [.f 88,58,59] [],o1 9 60 []]
def CL:Zx:=[o1 10 (.k (.int .i64 0)) []]
def DU:Zx:=[o1 61 10 [],o1 62 9 [],o2 63 ln [62] [],o2 64 (bI .lss) [61,63] []]
def DD:Zx:=[o1 67 7 [],o1 68 9 [],o1 69 10 [],o2 70 (ix 2) [68,69] [],o2 71 (lD 2) [70] [],o2 72 (.a (.buildSl 2 1 [.int .i64 0,.int .i64 0] [0])) [71] [],o2 73 (.l (.append 2)) [67,72] [],o1 7 73 []]
def Lj:Zx:=[o1 65 10 [],o2 66 (bI .add) [65,.k (.int .i64 1)] [],o1 10 66 []]
def L3:RC:=.seq (.seq (.ops DU) (.cond (.s 64) (.skip) (.exit 4))) (.seq (.block 5 (.ops DD)) (.ops Lj))
def L2:RC:=.seq (.seq (.ops r8) (.cond (.s 35) (.skip) (.exit 2))) (.block 3 (.seq (.ops r9) (.seq (.ops CT) (.seq (.seq (.ox Ei) (.cond (.s 49) (.exit 3) (.skip))) (.seq (.ox D_) (.seq (.ops Ef) (.seq (.ops CL) (.block 4 (.loop L3)))))))))
def Uy:Zx:=[o1 74 5 [],o1 4 74 []]
def code:RC:=.seq (.ops r1) (.seq (.ops r2) (.seq (.seq (.ops r3) (.block 0 (.loop L1))) (.seq (.ops r7) (.seq (.block 2 (.loop L2)) (.seq (.ops Uy) (.ret))))))
abbrev uQ:=Go.Proofs.YtbhedaipfioknaaGreat.E
def jC(out:aZ (aZ Zl)):Zt:=out.map λr=>r.map V.bool
theorem shape:∃fi,uQ.ft (vO 66)=some fi/\bQ ⟨uQ,some,fi.ntmps⟩ false fi.body=some code/\2<=fi.ntmps/\fi.results=[.tmp 4]:=by
 have h:((uQ.ft (vO 66)).map λfi=>(bQ ⟨uQ,some,fi.ntmps⟩ false fi.body,Nat.ble 2 fi.ntmps,fi.results))=some (some code,true,[.tmp 4]):=by kernel_rfl
 have⟨fi,a,t⟩:=ζf.1 h;simp only[ζc]at t;exact⟨fi,a,t.1,Nat.le_of_ble_eq_true t.2.1,t.2.2⟩
section
variable{E:Env}{N:Nat->Zk}{t:Zj}{x:bf}{k:Nat}{F:Zo}{H H1:bp}{call:dw}{b:a_ Nat}
theorem jo{o:RO}{l:Zx}{v:V}{r:Zo×bp}(a:o.gd=none)(c:bF E N call b o.now o.k (o.az.map (bz N F)) H=some (v,H1))(h:cD E N call b l (bu F o.dst v) H1=some r):cD E N call b (o::l) F H=some r:=by simp[cD,a,c];omega
theorem vp{o:RO}{l:Zx}{v:V}{r:Zo×bp}(a:o.gd=none)(c:bF E N call b o.now o.k (o.az.map (bz N F)) H=some (v,H))(h:cD E N call b l (bu F o.dst v) H=some r):cD E N call b (o::l) F H=some r:=jo a c h
theorem dX:cD E N call b [] F H=some (F,H):=rfl
theorem ld1(h:H[0]?=some (.row 1 [cells t])):eP H (.load 1 false) [.hptr 0 0 0]=some (b7 t.procs):=by simp[eP,eo,h];rfl
theorem UT{s:Sl cq}{p:cq}{i:Nat}(h:s.l[i]?=some p):kU 3 (b7 s) (i:Int)=some (.fptr (cells p)):=by have:=Dd (N:=λn=>n) s .i64 i 3 rfl;simp[bn]at this;rw[this,show idx s i=some p from by unfold idx;grind];rfl
theorem x4(a:get F 2=.hptr 0 0 0)(f6:get F 6=.int .i64 k)(b:H[0]?=some (.row 1 [cells t])):
 ∃F',cD E N call none r4 F H=some (F',H)/\get F' 15=.bool (decide (k<t.procs.l.length))/\(∀s,s<11->get F' s=get F s):=by
 refine⟨_,vp (v:=.int .i64 k) rfl ?_<|vp (v:=.hptr 0 0 0) rfl ?_<|vp (v:=b7 t.procs) rfl ?_<|vp (v:=.int .i64 t.procs.l.length) rfl ?_<|vp (v:=.bool (decide (k<t.procs.l.length))) rfl ?_ dX,?_,?_⟩
 .simp[bF,bz,bn,f6]
 .simp[bF,bz,bn,bu,a,gJ]
 .simp only[bF,map_cons,map_nil,bz,bu,bA,if_true];rw[ld1 b];rfl
 .simp only[bF,map_cons,map_nil,bz,bu,bA,if_true];rw[xz];rfl
 .simp[bF,bz,bn,bu,gq,mT]
 .simp[bu]
 simp[bu,bA]
 grind
theorem wG{n:Nat}(h:n<=2147483648):wrap .i64 ((n:Int)+1)=((n+1:Nat):Int):=by simp[wrap,IntKind.bits];omega
theorem x5{P:cq}{o:Nat}{ids:Zv}{rows:Zt}(a:get F 2=.hptr 0 0 0)(f6:get F 6=.int .i64 k)(b:H[0]?=some (.row 1 [cells t]))(B:t.procs.l[k]?=some P)(G:P.events.l.length+1<=2147483648)
 (D:lG H (get F 5) o ids rows)(c:rows.length+1<=2147483648):
 ∃F' H',cD E N call none r5 F H=some (F',H')/\lG H' (get F' 5) (H.length+2) (ids++[H.length]) (rows++[replicate (P.events.l.length+1) (.bool false)])/\H.length<=H'.length/\(∀id,id<H.length->id≠o\/rows=[]->H'[id]?=H[id]?)/\(∀s,s<11->s≠5->get F' s=get F s):=by
 have⟨H',p1,p2,p3,p4⟩:=D.push (replicate (P.events.l.length+1) (.bool false)) c;have u:iT (replicate (P.events.l.length+1) (V.bool false))=replicate (P.events.l.length+1) [.bool false]:=by simp[iT]
 rw[u,List.length_replicate]at p1;have w:=wG (n:=P.events.l.length) Za
 refine⟨_,H',vp (v:=get F 5) rfl ?_<|vp (v:=.hptr 0 0 0) rfl ?_<|vp (v:=b7 t.procs) rfl ?_<|vp (v:=.int .i64 k) rfl ?_<|vp (v:=.fptr (cells P)) rfl ?_<|vp (v:=.fptr [b7 P.events]) rfl ?_<|vp (v:=b7 P.events) rfl ?_<|
  vp (v:=.int .i64 P.events.l.length) rfl ?_<|vp (v:=.int .i64 (P.events.l.length+1:Nat)) rfl ?_<|jo (v:=.hsl H.length 1 0 (P.events.l.length+1)) (H1:=H++[.row 1 (replicate (P.events.l.length+1) [.bool false])]) rfl ?_<|
  jo (v:=.hsl (H.length+1) 1 0 1) (H1:=H++[.row 1 (replicate (P.events.l.length+1) [.bool false])]++[.row 1 [[.hsl H.length 1 0 (P.events.l.length+1)]]]) rfl ?_<|
  jo (v:=.hsl (H.length+2) 1 0 (rows.length+1)) rfl ?_<|vp (v:=.hsl (H.length+2) 1 0 (rows.length+1)) rfl ?_ dX,?_,p3,p4,?_⟩
 .simp[bF,bz,bn]
 .simp[bF,bz,bn,bu,a,gJ]
 .simp only[bF,map_cons,map_nil,bz,bu,bA,if_true];rw[ld1 b];rfl
 .simp[bF,bz,bn,bu,f6]
 .simp only[bF,map_cons,map_nil,bz,bu,bA,reduceEqDiff,if_true,if_false,bn];rw[UT B];rfl
 .simp[bF,bz,bu,bA,bn];rfl
 .simp[bF,bz,bu,bA];rfl
 .simp only[bF,map_cons,map_nil,bz,bu,bA,if_true];rw[xz];rfl
 .simp[bF,bz,bu,bA,bn,gq];grind
 .simp only[bF,map_cons,map_nil,bz,bu,bA,if_true,gT];rw[if_pos ⟨trivial,trivial,Za,Za,Za⟩]
  simp[Mk.val]
 .simp[bF,bz,bu,bA,gT];simp[eY,V.cells,V.one,Mk.val]
 .simp only[bF,map_cons,map_nil,bz,bu,bA,reduceEqDiff,if_true,if_false];omega
 .simp[bF,bz,bn,bu]
 .simp[bu,bA];omega
 intro s z C;simp[bu,bA]
 repeat (rw[if_neg Za])
theorem x6(f6:get F 6=.int .i64 k)(a:k<=2147483648):∃F',cD E N call none r6 F H=some (F',H)/\get F' 6=.int .i64 ((k+1:Nat):Int)/\(∀s,s<11->s≠6->get F' s=get F s):=by have t:=wG a;refine⟨_,vp (v:=.int .i64 k) rfl ?_<|vp (v:=.int .i64 (k+1:Nat)) rfl ?_<|vp (v:=.int .i64 (k+1:Nat)) rfl ?_ dX,?_,?_⟩;simp[bF,bz,bn,f6];simp[bF,bz,bu,bA,bn,gq];grind;simp[bF,bz,bn,bu];simp[bu];simp[bu,bA];grind
end
structure P1(t:Trace)(x:bf)(k:Nat)(F:Frame)(H:bp):Prop where
 f2:get F 2=.hptr 0 0 0
 f3:get F 3=.hptr 1 0 0
 f6:get F 6=.int .i64 k
 h0:H[0]?=some (.row 1 [cells t])
 h1:H[1]?=some (.row 2 [cells x])
 ns:∃o ids,lG H (get F 5) o ids (jC ((gn t).take k))/\(k≠0->2<=o)/\∀id∈ids,2<=id
theorem vl(out:aZ (aZ Zl)):(jC out).length=out.length:=by simp[jC]
theorem Jr{E:Env}{N:Nat->Zk}{t:Zj}{x:bf}(J:zA t=true):∀(m k:Nat)(F:Zo)(H:bp),k+m=t.procs.l.length->P1 t x k F H->∃F' H',k7 E N L1 F H (.exit 0) F' H'/\P1 t x t.procs.l.length F' H':=by
 have B:t.procs.l.length<=2147483648/\∀P∈t.procs.l,P.events.l.length+1<=2147483648:=by simpa[zA]using J
 intro m;induction m with|zero=>intro k F H a p;have C:k=t.procs.l.length:=Za;obtain⟨F1,e1,e2,e3⟩:=x4 (E:=E) (call:=⟨0,λ_ _ _=>none⟩) p.f2 p.f6 p.h0;refine⟨F1,H,k7.stop (Ex.sE (Ex.seq (Ex.cZ λc=>?_) (Ex.oA ?_ Ex.exit)) Zc) Zc,?_⟩;have:cD E N c none r4 F H=cD E N ⟨0,λ_ _ _=>none⟩ none r4 F H:=rfl;exact e1;show get F1 15=_;rw[e2];simp[C];subst C;exact⟨by rw[e3 2 Za];exact p.f2,by rw[e3 3 Za];exact p.f3,by rw[e3 6 Za];exact p.f6,p.h0,p.h1,by rw[e3 5 Za];exact p.ns⟩|succ m Z=>
  intro k F H a p;have w:k<t.procs.l.length:=Za;obtain⟨o,ids,U,b,d⟩:=p.ns;obtain⟨F1,e1,e2,e3⟩:=x4 (E:=E) (N:=N) (call:=⟨0,λ_ _ _=>none⟩) p.f2 p.f6 p.h0;have W:=ζd w;have D:((gn t).take k).length=k:=by simp[gn];omega
  have I:lG H (get F1 5) o ids (jC ((gn t).take k)):=by rw[e3 5 Za];exact U
  obtain⟨g,H2,g1,g2,g3,g4,g5⟩:=x5 (E:=E) (N:=N) (call:=⟨0,λ_ _ _=>none⟩) (by rw[e3 2 Za];exact p.f2) (by rw[e3 6 Za];exact p.f6) p.h0 W (B.2 _ (List.getElem_mem w)) I (by rw[vl,D];omega);obtain⟨X,e,f,L⟩:=x6 (E:=E) (N:=N) (call:=⟨0,λ_ _ _=>none⟩) (H:=H2) (by rw[g5 6 Za Za,e3 6 Za];exact p.f6) Za;have Y:=U.lt;have O:=(ζe.1 p.h0).1;have Q:=(ζe.1 p.h1).1;have u:∀i,i<2->i<H.length->H2[i]?=H[i]?:=λi j Y=>g4 i Y (by
   by_cases G:k=0
   .subst G;right;simp[jC]
   left;have:=b G;omega)
  have S:P1 t x (k+1) X H2:=by
   refine⟨by rw[L 2 Za Za,g5 2 Za Za,e3 2 Za];exact p.f2,by rw[L 3 Za Za,g5 3 Za Za,e3 3 Za];exact p.f3,f,
    by rw[u 0 Za O];exact p.h0,by rw[u 1 Za Q];exact p.h1,H.length+2,ids++[H.length],?_,λ_=>Za,λid T=>?_⟩
   rw[L 5 Za Za];have z:jC ((gn t).take (k+1))=jC ((gn t).take k)++[replicate (t.procs.l[k].events.l.length+1) (.bool false)]:=by rw[List.take_add_one];have:(gn t)[k]?=some (replicate (t.procs.l[k].events.l.length+1) false):=(by simp[gn,W]);rw[this];simp[jC]
   rw[z];exact g2;rcases List.mem_append.1 T with h|h;exact d id h;simp at h;omega
  obtain⟨F',H',r1,r2⟩:=Z (k+1) X H2 Za S;refine⟨F',H',k7.step (Ex.seq (Ex.seq (Ex.cZ λc=>e1) (Ex.mb ?_ Ex.skip)) (Ex.seq (Ex.block (Ex.cZ λc=>g1)) (Ex.cZ λc=>e))) r1,r2⟩;show get F1 15=_;rw[e2];simp[w]
section
variable{E:Env}{N:Nat->Zk}{t:Zj}{x y:bf}{F:Zo}{H:bp}{call:dw}
theorem x8{l:Zt}{id:Nat}(h:jN H (get F 7) l id):∃F',cD E N call none r8 F H=some (F',H)/\get F' 35=.bool (decide (0<l.length))/\(∀s,s<11->get F' s=get F s):=by refine⟨_,vp (v:=get F 7) rfl ?_<|vp (v:=.int .i64 l.length) rfl ?_<|vp (v:=.bool (decide (0<l.length))) rfl ?_ dX,?_,?_⟩;simp[bF,bz,bn];simp[bF,bz,bu,bA,bn,h.len];simp[bF,bz,bn,bu,gq,mT];simp[bu];simp[bu,bA];grind
theorem x9{l:Zt}{id:Nat}(h:jN H (get F 7) (cells y::l) id):∃F',cD E N call none r9 F H=some (F',H++[.row 2 [cells y]])/\get F' 8=.hptr H.length 0 0/\(∀s,s<11->s≠8->get F' s=get F s):=by have⟨p,p1,p2⟩:=h.get (i:=0) rfl;refine⟨_,vp (v:=get F 7) rfl ?_<|vp (v:=p) rfl ?_<|vp (v:=.agg (cells y)) rfl ?_<|jo (v:=.hptr H.length 0 0) (H1:=H++[.row 2 [[.int .i64 0,.int .i64 0]]]) rfl ?_<|jo (v:=.undef) rfl ?_ dX,?_,?_⟩;simp[bF,bz,bn];simp[bF,bz,bu,bA,bn];grind;simp only[bF,map_cons,bz,bu,bA,if_false];grind;simp[bF,bz,bu,bA,gT,Mk.val];simp[bF,bz,bu,bA];simp[eV,V.cells,V.one];simp[bu];simp[bu,bA];grind
theorem Va{c:Zu}{l:Zt}{id:Nat}(h:jN H (get F 7) (c::l) id):∃F',cD E N call none CT F H=some (F',H)/\jN H (get F' 7) l id/\(∃off m B,get F 7=.hsl id 2 off m/\get F' 7=.hsl id 2 B l.length)/\(∀s,s<11->s≠7->get F' s=get F s):=by have⟨w',p1,p2,off,m,B,p3,p4⟩:=h.tail;refine⟨_,vp (v:=get F 7) rfl ?_<|vp (v:=w') rfl ?_<|vp (v:=w') rfl ?_ dX,?_,⟨off,m,B,p3,?_⟩,?_⟩;simp[bF,bz,bn];simp[bF,bz,bu,bA,bn,kV,p1];simp[bF,bz,bn,bu];simp[bu,bA];omega;simp[bu,bA];omega;simp[bu,bA];grind
theorem js(H:bp):H.take H.length=H:=List.take_length ..
theorem S7{c:Nat}(a:H[c]?=some (.row 2 [cells y])):eP H (.load 1 false) [.hptr c 0 0]=some (.int .i64 y.proc)/\eP H (.load 1 false) [.hptr c 0 1]=some (.int .i64 y.index)/\eP H (.load 2 true) [.hptr c 0 0]=some (enc y):=by refine⟨?_,?_,?_⟩<;>simp[eP,eo,a,cut]<;>rfl
theorem R1{c o:Nat}{ids:Zv}{rows:Zt}{p j:Nat}{r:Zu}{u:V}(B:get F 8=.hptr c 0 0)(a:H[c]?=some (.row 2 [cells y]))(D:lG H (get F 5) o ids rows)(e:y.proc=p)(G:y.index=j)(b:rows[p]?=some r)(d:r[j]?=some u):
 ∃F',cD E N call (some H.length) Ei F H=some (F',H)/\get F' 49=u/\(∀s,s<11->get F' s=get F s):=by
 have⟨id,t,w,z,C,I⟩:=D.cell b d;have⟨J,L,_⟩:=S7 a;refine⟨_,vp (v:=get F 5) rfl ?_<|vp (v:=.hptr c 0 0) rfl ?_<|vp (v:=.int .i64 p) rfl ?_<|vp (v:=.hptr o p 0) rfl ?_<|vp (v:=.hsl id 1 0 r.length) rfl ?_<|vp (v:=.hptr c 0 1) rfl ?_<|vp (v:=.int .i64 j) rfl ?_<|vp (v:=.hptr id j 0) rfl ?_<|vp (v:=u) rfl ?_ dX,?_,?_⟩
 .simp[bF,bz,bn]
 .simp[bF,bz,bn,bu,B,gJ]
 .simp[bF,bz,bu,bA,js];grind
 .simp[bF,bz,bu,bA,bn];grind
 .simp[bF,bz,bu,bA,js];grind
 .simp[bF,bz,bn,bu,B,gJ]
 .simp[bF,bz,bu,bA,js];grind
 .simp[bF,bz,bu,bA,bn];grind
 .simp[bF,bz,bu,bA,js];simp_all
 .simp[bu]
 simp[bu,bA]
 grind
theorem Vj{c o:Nat}{ids:Zv}{rows:Zt}{p j:Nat}{r:Zu}{u:V}(B:get F 8=.hptr c 0 0)(d:H[c]?=some (.row 2 [cells y]))(D:lG H (get F 5) o ids rows)(f:y.proc=p)(J:y.index=j)(a:rows[p]?=some r)(b:r[j]?=some u):
 ∃F' H',cD E N call (some H.length) D_ F H=some (F',H')/\lG H' (get F' 5) o ids (rows.set p (r.set j (.bool true)))/\H'.length=H.length/\(∀i,i∉ids->H'[i]?=H[i]?)/\(∀s,s<11->get F' s=get F s):=by
 have⟨id,t,L,O,w,Q⟩:=D.cell a b;have⟨S,T,_⟩:=S7 d;have⟨H',z,U,C,G⟩:=D.set a (ζe.1 b).1 t (u:=.bool true) rfl rfl;refine⟨_,H',vp (v:=get F 5) rfl ?_<|vp (v:=.hptr c 0 0) rfl ?_<|vp (v:=.int .i64 p) rfl ?_<|vp (v:=.hptr o p 0) rfl ?_<|vp (v:=.hsl id 1 0 r.length) rfl ?_<|vp (v:=.hptr c 0 1) rfl ?_<|vp (v:=.int .i64 j) rfl ?_<|vp (v:=.hptr id j 0) rfl ?_<|jo (v:=.undef) rfl ?_ dX,?_,C,λi I=>G i λe=>I (e▸mem_of_getElem? t),?_⟩
 .simp[bF,bz,bn]
 .simp[bF,bz,bn,bu,B,gJ]
 .simp[bF,bz,bu,bA,js];grind
 .simp[bF,bz,bu,bA,bn];grind
 .simp[bF,bz,bu,bA,js];grind
 .simp[bF,bz,bn,bu,B,gJ]
 .simp[bF,bz,bu,bA,js];grind
 .simp only[bF,map_cons,map_nil,bz,bu,bA,reduceEqDiff,if_true,if_false,bn];rw[w];rfl
 .simp[bF,bz,bu,bA,z]
 .simp[bu,bA];omega
 simp[bu,bA]
 grind
def E5(E:Env)(N:Nat->Zk)(t:Zj)(a:bf->a_ (Sl bf)):Prop:=∀(y:bf)(s:Sl bf)(H:bp),a y=some s->∃w X id,(∃n,∀k,n<=k->eO E (run E k) (N 88) [enc t,enc y] H=some (w,H++X))/\jN (H++X) w (s.l.map cells) id/\(∀off m,w=.hsl id 2 off m->id=H.length)
theorem Ut{a d:Nat}(D:E.keep (N 88)=true){b:bf->a_ (Sl bf)}(G:E5 E N t b){s:Sl bf}(B:b y=some s)(f:get F 2=.hptr 0 0 0)(g:H[0]?=some (.row 1 [cells t])){c:Nat}(h:H[c]?=some (.row 2 [cells y])):
 ∃w X id,jN (H++X) w (s.l.map cells) id/\(∀off m,w=.hsl id 2 off m->id=H.length)/\
  (get F 8=.hptr c 0 0->∃F',(∃n,∀k,n<=k->cD E N (run E k) none Ef F H=some (F',H++X))/\get F' 9=w/\(∀s,s<11->s≠9->get F' s=get F s))/\
  (get F 3=.hptr c 0 0->∃F',(∃n,∀k,n<=k->cD E N (run E k) none r7 F H=some (F',H++X))/\get F' 7=w/\(∀s,s<11->s≠7->get F' s=get F s)):=by
 have⟨w,X,id,⟨n,e1⟩,e2,e3⟩:=G y s H B;have z:eP H (.load 1 true) [.hptr 0 0 0]=some (enc t):=by simp[eP,eo,g,Ob.rows,cut];rfl
 have⟨_,_,C⟩:=S7 h;refine⟨w,X,id,e2,e3,λI=>⟨_,⟨n,λk e=>vp (v:=enc t) rfl ?_<|vp (v:=enc y) rfl ?_<|jo (v:=w) (H1:=H++X) rfl ?_<|vp (v:=w) rfl ?_ dX⟩,?_,?_⟩,λi=>⟨_,⟨n,λk e=>vp (v:=enc t) rfl ?_<|vp (v:=enc y) rfl ?_<|jo (v:=w) (H1:=H++X) rfl ?_<|vp (v:=w) rfl ?_ dX⟩,?_,?_⟩⟩
 .simp only[bF,map_cons,map_nil,bz,f];rw[z];rfl
 .simp only[bF,map_cons,map_nil,bz,bu,bA,reduceEqDiff,if_true,if_false,I];rw[C];rfl
 .simp only[bF,map_cons,map_nil,bz,bu,bA,reduceEqDiff,if_true,if_false,D,List.nil_append,List.append_nil];exact e1 k e
 .simp[bF,bz,bn,bu]
 .simp[bu]
 .intro s B u;simp only[bu,bA];rw[if_neg (Ne.symm u)]
  repeat (rw[if_neg Za])
 .simp only[bF,map_cons,map_nil,bz,f];rw[z];rfl
 .simp only[bF,map_cons,map_nil,bz,bu,bA,reduceEqDiff,if_true,if_false,i];rw[C];rfl
 .simp only[bF,map_cons,map_nil,bz,bu,bA,reduceEqDiff,if_true,if_false,D,List.nil_append,List.append_nil];exact e1 k e
 .simp[bF,bz,bn,bu]
 .simp[bu]
 intro s B u;simp only[bu,bA];rw[if_neg (Ne.symm u)]
 repeat (rw[if_neg Za])
end
section
variable{E:Env}{N:Nat->Zk}{F:Zo}{H:bp}{call:dw}{i:Nat}
theorem Pb{l:Zt}{id:Nat}(a:get F 10=.int .i64 i)(h:jN H (get F 9) l id):∃F',cD E N call none DU F H=some (F',H)/\get F' 64=.bool (decide (i<l.length))/\(∀s,s<11->get F' s=get F s):=by refine⟨_,vp (v:=.int .i64 i) rfl ?_<|vp (v:=get F 9) rfl ?_<|vp (v:=.int .i64 l.length) rfl ?_<|vp (v:=.bool (decide (i<l.length))) rfl ?_ dX,?_,?_⟩;simp[bF,bz,bn,a];simp[bF,bz,bn,bu];simp[bF,bz,bu,bA,bn,h.len];simp[bF,bz,bn,bu,gq,mT];simp[bu];simp[bu,bA];grind
theorem Vl{l D:Zt}{id B:Nat}{c:Zu}(a:get F 10=.int .i64 i)(h:jN H (get F 7) l id)(G:jN H (get F 9) D B)(b:D[i]?=some c)(J:l.length+1<=2147483648):
 ∃F' H',cD E N call none DD F H=some (F',H')/\jN H' (get F' 7) (l++[c]) (H.length+1)/\H'.length=H.length+2/\(∀i,i<H.length->(∀off m,get F 7=.hsl id 2 off m->i≠id)->H'[i]?=H[i]?)/\(∀s,s<11->s≠7->get F' s=get F s):=by
 have t:=G.c c (mem_of_getElem? b);have⟨p,p1,p2⟩:=G.get b;have⟨H',z,C,u,w⟩:=h.push t J;refine⟨_,H',vp (v:=get F 7) rfl ?_<|vp (v:=get F 9) rfl ?_<|vp (v:=.int .i64 i) rfl ?_<|vp (v:=p) rfl ?_<|vp (v:=.agg c) rfl ?_<|jo (v:=.hsl H.length 2 0 1) (H1:=H++[.row 2 [c]]) rfl ?_<|jo (v:=.hsl (H.length+1) 2 0 (l.length+1)) rfl ?_<|vp (v:=.hsl (H.length+1) 2 0 (l.length+1)) rfl ?_ dX,?_,u,w,?_⟩
 .simp[bF,bz,bn]
 .simp[bF,bz,bn,bu]
 .simp[bF,bz,bn,bu,a]
 .simp[bF,bz,bu,bA,bn];grind
 .simp[bF,bz,bu,bA];grind
 .simp[bF,bz,bu,bA,gT];simp[eY,V.cells,Mk.val]
  grind
 .simp[bF,bz,bu,bA];omega
 .simp[bF,bz,bn,bu]
 .simp[bu,bA];omega
 simp[bu,bA]
 grind
theorem Vn(a:get F 10=.int .i64 i)(b:i<=2147483648):∃F',cD E N call none Lj F H=some (F',H)/\get F' 10=.int .i64 ((i+1:Nat):Int)/\(∀s,s<11->s≠10->get F' s=get F s):=by have t:=wG b;refine⟨_,vp (v:=.int .i64 i) rfl ?_<|vp (v:=.int .i64 (i+1:Nat)) rfl ?_<|vp (v:=.int .i64 (i+1:Nat)) rfl ?_ dX,?_,?_⟩;simp[bF,bz,bn,a];simp[bF,bz,bu,bA,bn,gq];grind;simp[bF,bz,bn,bu];simp[bu];simp[bu,bA];grind
structure P3(l l9:List (List V))(B i:Nat)(F:Frame)(H:bp):Prop where
 f10:get F 10=.int .i64 i
 t9:∃id9,jN H (get F 9) l9 id9/\∃id,jN H (get F 7) l id/\(∀off m,get F 7=.hsl id 2 off m->B<=id/\∀off' m',get F 9=.hsl id9 2 off' m'->id≠id9)
 len:B<=H.length
theorem Uk(D:Zt)(B:Nat)(Y:D.length<=2147483648):∀(m i:Nat)(l:Zt)(F:Zo)(H:bp),i+m=D.length->l.length+m<=2147483648->P3 l D B i F H->
 ∃F' H',k7 E N L3 F H (.exit 4) F' H'/\(∃id,jN H' (get F' 7) (l++D.drop i) id/\∀off m,get F' 7=.hsl id 2 off m->B<=id)/\(∀s,s<7->get F' s=get F s)/\(∀j,j<B->H'[j]?=H[j]?)/\H.length<=H'.length:=by
 intro m
 induction m with
 |zero=>
  intro i l F H X Z p;obtain⟨t,t9,id,t7,z⟩:=p.t9;obtain⟨F1,e1,e2,e3⟩:=Pb (E:=E) (call:=⟨0,λ_ _ _=>none⟩) p.f10 t9
  refine⟨F1,H,k7.stop (Ex.sE (Ex.seq (Ex.cZ λc=>e1) (Ex.oA ?_ Ex.exit)) Zc) Zc,⟨id,?_,λoff m h=>?_⟩,λs S=>e3 s Za,λ_ _=>rfl,Nat.le_refl _⟩
  .show get F1 64=_
   grind
  .grind
  grind
 |succ m ih=>
  intro i l F H X Z p;have w:i<D.length:=Za
  obtain⟨t,t9,id,t7,z⟩:=p.t9;obtain⟨F1,e1,e2,e3⟩:=Pb (E:=E) (call:=⟨0,λ_ _ _=>none⟩) p.f10 t9
  have a:=ζd w;have C:jN H (get F1 7) l id:=Zd
  have G:jN H (get F1 9) D t:=Zd
  obtain⟨e,H2,g1,g2,g3,g4,g5⟩:=Vl (E:=E) (call:=⟨0,λ_ _ _=>none⟩) (by rw[e3 10 Za];exact p.f10) C G a Za
  obtain⟨T,b,d,I⟩:=Vn (E:=E) (call:=⟨0,λ_ _ _=>none⟩) (by rw[g5 10 Za Za,e3 10 Za];exact p.f10) Za
  have keep:∀j,j<H.length->(∀off m,get F 7=.hsl id 2 off m->j≠id)->H2[j]?=H[j]?:=λj J h=>g4 j J Zd
  have L:P3 (l++[D[i]]) D B (i+1) T H2:=by refine⟨d,⟨t,?_,H.length+1,Zd,λoff m h=>⟨by have:=p.len;omega,λu m' U=>?_⟩⟩,by have:=p.len;omega⟩;rw[I 9 Za Za,g5 9 Za Za,e3 9 Za];exact t9.heap λoff n W=>keep t (t9.lt W) λu m' O=>Ne.symm ((z u m' O).2 off n W);rw[I 9 Za Za,g5 9 Za Za,e3 9 Za]at U;have:=t9.lt U;omega
  obtain⟨F',H',r1,⟨Q,r2,r3⟩,r4,r5,r6⟩:=ih (i+1) (l++[D[i]]) T H2 Za (by simp;omega) L
  refine⟨F',H',k7.step (Ex.seq (Ex.seq (Ex.cZ λc=>e1) (Ex.mb ?_ Ex.skip)) (Ex.seq (Ex.block (Ex.cZ λc=>g1)) (Ex.cZ λc=>b))) r1,⟨Q,?_,r3⟩,λs S=>?_,λj J=>?_,Za⟩
  .show get F1 64=_
   grind
  .rw[List.append_assoc]at r2;rw[List.drop_eq_getElem_cons w];exact r2
  .rw[r4 s S,I s Za Za,g5 s Za Za,e3 s Za]
  have:=p.len;rw[r5 j J,keep j Za λoff m h=>by have:=(z off m h).1;omega]
end
structure P2(t:Trace)(out:List (List Bool))(l:List bf)(F:Frame)(H:bp):Prop where
 f2:get F 2=.hptr 0 0 0
 h0:H[0]?=some (.row 1 [cells t])
 ns:∃B o ids id,lG H (get F 5) o ids (jC out)/\(out≠[]->1<=o/\o<B)/\(∀id∈ids,1<=id/\id<B)/\1<=B/\B<=H.length/\jN H (get F 7) (l.map cells) id/\∀off m,get F 7=.hsl id 2 off m->B<=id
theorem Ol(out:aZ (aZ Zl))(p j:Nat)(row:aZ Zl):jC (out.set p (row.set j true))=(jC out).set p ((row.map V.bool).set j (.bool true)):=by simp[jC]
theorem GN{out:aZ (aZ Zl)}:jC out=[]↔out=[]:=by simp[jC]
theorem NW{a:bf->a_ (Sl bf)}{out:aZ (aZ Zl)}{y:bf}{rest:aZ bf}{w:Fw (aZ (aZ Zl)×aZ bf) (aZ (aZ Zl)) Empty}(h:nH a (out,y::rest)=some w):
 ∃(p j:Nat)(row:aZ Zl)(b:Zl),y.proc=p/\y.index=j/\out[p]?=some row/\row[j]?=some b/\((b=true/\w=.n (out,rest))\/(b=false/\∃more,a y=some more/\rest.length+more.l.length<=2147483648/\w=.n (out.set p (row.set j true),rest++more.l))):=by
 simp only[nH]at h;split at h
 .have⟨row,h1,h⟩:=ζg.1 h;have⟨b,t,h⟩:=ζg.1 h;refine⟨y.proc.toNat,y.index.toNat,row,b,Za,Za,h1,t,?_⟩
  cases b with
  |true=>simp[bq]at h;grind|false=>
   have⟨more,u,h⟩:=ζg.1 h
   grind
 simp_all
theorem Kb{E:Env}{N:Nat->Zk}{t:Zj}{f:bf->a_ (Sl bf)}(hd:E.keep (N 88)=true)(hD:E5 E N t f):∀(k:Nat)(out:aZ (aZ Zl))(l:aZ bf)(D:aZ (aZ Zl))(F:Zo)(H:bp),
 jd (nH f) k (out,l)=some (.x D)->P2 t out l F H->∃F' H',k7 E N L2 F H (.exit 2) F' H'/\P2 t D [] F' H':=by
 intro k
 induction k with
 |zero=>intro out l D F H h;simp[jd]at h|succ k ih=>
  intro out l D F H h p;have⟨B,o,ids,id,n1,n2,Y,n4,n5,t7,t8⟩:=p.ns;have⟨F1,e1,e2,e3⟩:=x8 (E:=E) (N:=N) (call:=⟨0,λ_ _ _=>none⟩) t7
  rw[List.length_map]at e2
  cases l with
  |nil=>
   simp only[jd,nH]at h;cases h;refine⟨F1,H,k7.stop (Ex.sE (Ex.seq (Ex.cZ λc=>e1) (Ex.oA ?_ Ex.exit)) Zc) Zc,?_⟩
   .show get F1 35=_;rw[e2];simp
   exact⟨by rw[e3 2 Za];exact p.f2,p.h0,B,o,ids,id,by rw[e3 5 Za];exact n1,n2,Y,n4,n5,by rw[e3 7 Za];exact t7,by rw[e3 7 Za];exact t8⟩
  |cons y rest=>
   simp only[jd]at h
   cases J:nH f (out,y::rest)with
   |none=>rw[J]at h;cases h|some w=>
   rw[J]at h;have⟨q,j,row,b,hq,hj,u,hb,L⟩:=NW J;have O:jN H (get F1 7) (cells y::rest.map cells) id:=by rw[e3 7 Za];exact t7
   have⟨F2,g1,g2,g3⟩:=x9 (E:=E) (N:=N) (call:=⟨0,λ_ _ _=>none⟩) O
   have aa:jN (H++[.row 2 [cells y]]) (get F2 7) (cells y::rest.map cells) id:=by rw[g3 7 Za Za];exact O.more _
   have⟨r,i1,i2,⟨G,m1,ab,i3,i4⟩,M⟩:=Va (E:=E) (N:=N) (call:=⟨0,λ_ _ _=>none⟩) aa
   have Q:(H++[Ob.row 2 [cells y]])[H.length]?=some (.row 2 [cells y]):=Zc
   have P:get r 8=.hptr H.length 0 0:=by rw[M 8 Za Za];exact g2
   have f5:get r 5=get F 5:=by rw[M 5 Za Za,g3 5 Za Za,e3 5 Za]
   have R:get r 2=.hptr 0 0 0:=by rw[M 2 Za Za,g3 2 Za Za,e3 2 Za];exact p.f2
   have S:lG (H++[.row 2 [cells y]]) (get r 5) o ids (jC out):=by rw[f5];exact n1.more _
   have hr:(jC out)[q]?=some (row.map V.bool):=by simp[jC,u]
   have hu:(row.map V.bool)[j]?=some (.bool b):=by simp[hb]
   have T:B<=id:=by have:get F 7=.hsl id 2 G m1:=(by rw[<-i3,g3 7 Za Za,e3 7 Za]);exact t8 _ _ this
   have⟨F4,j1,j2,z⟩:=R1 (E:=E) (N:=N) (call:=⟨0,λ_ _ _=>none⟩) P Q S hq hj hr hu
   have ad:bz N F1 (.s 35)=.bool true:=by show get F1 35=_;rw[e2];simp
   rcases L with⟨rfl,rfl⟩|⟨rfl,more,v,aq,rfl⟩
   .simp only at h;have U:P2 t out rest F4 (H++[.row 2 [cells y]]):=by
     refine⟨by rw[z 2 Za];exact R,by rw[List.getElem?_append_left (ζe.1 p.h0).1];exact p.h0,B,o,ids,id,by rw[z 5 Za];exact S,n2,Y,n4,by simp;omega,by rw[z 7 Za];exact i2,λoff m _=>T⟩
    have⟨F',H',r1,r2⟩:=ih out rest D F4 _ h U;exact⟨F',H',k7.step (Ex.seq (Ex.seq (Ex.cZ λc=>e1) (Ex.mb ad Ex.skip)) (Ex.tF (Ex.seq (Ex.cZ λc=>g1) (Ex.seq (Ex.cZ λc=>i1) (Ex.sE (Ex.seq (Ex.ox rfl λc=>j1) (Ex.mb j2 Ex.exit)) Zc))))) r1,r2⟩
   simp only at h;have n6:lG (H++[.row 2 [cells y]]) (get F4 5) o ids (jC out):=by rw[z 5 Za];exact S
   have⟨F5,C,k1,k2,k3,k4,x⟩:=Vj (E:=E) (N:=N) (call:=⟨0,λ_ _ _=>none⟩) (by rw[z 8 Za];exact P) Q n6 hq hj hr hu
   have I:∀i,B<=i->i∉ids:=λi hi v=>by have:=(Y i v).2;omega
   have ah:C[H.length]?=some (.row 2 [cells y]):=by rw[k4 _ (I _ n5)];exact Q
   have W:C[0]?=some (.row 1 [cells t]):=by rw[k4 0 (λv=>by have:=(Y 0 v).1;omega),List.getElem?_append_left (ζe.1 p.h0).1];exact p.h0
   have⟨w9,X,ai,aj,m2,m3,_⟩:=Ut (a:=0) (d:=0) (F:=F5) hd hD v (by rw[x 2 Za,z 2 Za];exact R) W ah
   have⟨Z,⟨nn,ak⟩,ae,o3⟩:=m3 (by rw[x 8 Za,z 8 Za];exact P)
   have au:C.length=H.length+1:=by rw[k3];simp
   have i7:get Z 7=.hsl id 2 ab (rest.map cells).length:=by rw[o3 7 Za Za,x 7 Za,z 7 Za];exact i4
   have ar:id<H.length:=by have:=O.lt (off:=G) (m:=m1) (by rw[<-i3,g3 7 Za Za]);exact this
   have t6:jN (C++X) (get Z 7) (rest.map cells) id:=by have:get Z 7=get r 7:=(by rw[o3 7 Za Za,x 7 Za,z 7 Za]);rw[this];refine(i2.heap (H':=C) λoff n _=>k4 id (I id T)).more X
   have al:∃g,(∀c,cD E N c none CL Z (C++X)=some (g,C++X))/\get g 10=.int .i64 ((0:Nat):Int)/\∀s,s<10->get g s=get Z s:=⟨set Z 10 (.int .i64 0),λc=>by simp[CL,cD,bF,bz,bn,bu],Zc,λs hs=>by rw[bA,if_neg Za]⟩
   have⟨g,u1,u2,A⟩:=al;have am:P3 (rest.map cells) (more.l.map cells) B 0 g (C++X):=by refine⟨u2,⟨ai,by rw[A 9 Za,ae];exact aj,id,by rw[A 7 Za];exact t6,λoff m hh=>⟨T,λaf m' h'=>?_⟩⟩,by simp;omega⟩;rw[A 9 Za,ae]at h';have:=m2 af m' h';omega
   have⟨K,H8,v1,⟨an,v2,v3⟩,v4,v5,v6⟩:=Uk (E:=E) (N:=N) (more.l.map cells) B (by simp;omega) (more.l.map cells).length 0 (rest.map cells) g (C++X) Za (by simp;omega) am
   have ao:lG H8 (get K 5) o ids (jC (out.set q (row.set j true))):=by have h5:get K 5=get F5 5:=(by rw[v4 5 Za,A 5 Za,o3 5 Za Za]);rw[h5,Ol];refine(k2.more X).heap (λap=>v5 o ?_) λi hi=>v5 i (Y i hi).2;have:out≠[]:=(by intro e;subst e;simp at u);exact(n2 this).2
   have U:P2 t (out.set q (row.set j true)) (rest++more.l) K H8:=by refine⟨by rw[v4 2 Za,A 2 Za,o3 2 Za Za,x 2 Za,z 2 Za];exact R,?_,B,o,ids,an,ao,λap=>n2 (by intro e;subst e;simp at u),Y,n4,by simp at v6;omega,?_,v3⟩;rw[v5 0 Za,List.getElem?_append_left (ζe.1 W).1];exact W;rw[List.drop_zero]at v2;rw[map_append];exact v2
   have⟨F',H',w1,w2⟩:=ih _ _ D K H8 h U;exact⟨F',H',k7.step (Ex.seq (Ex.seq (Ex.cZ λc=>e1) (Ex.mb ad Ex.skip)) (Ex.block (Ex.seq (Ex.cZ λc=>g1) (Ex.seq (Ex.cZ λc=>i1) (Ex.seq (Ex.seq (Ex.ox rfl λc=>j1) (Ex.oA j2 Ex.skip)) (Ex.seq (Ex.ox rfl λc=>k1)
    (Ex.seq (Ex.ops ⟨nn,ak⟩) (Ex.seq (Ex.cZ u1) (Ex.tF (Ex.loop v1)))))))))) w1,w2⟩
theorem OP{H:bp}{Z:Nat->Prop}{id:Nat}{r:aZ Zl}(B:Z id)(h:H[id]?=some (.row 1 (iT (r.map V.bool)))):FR H Z (enc (Sl.row r)) (.hsl id 1 0 r.length):=by
 have e:br H id=some (1,iT (r.map V.bool)):=by simp[br,h,Ob.rows]
 have C:enc (Sl.row r)=.fsl 1 (rows r):=rfl;have D:(rows r).length=r.length:=by simp[rows]
 have f:iT (r.map V.bool)=rows r:=by simp[iT,rows,Function.comp_def]
 rw[f]at e;rw[C,<-D];refine .fsl 1 (rows r) id 0 (rows r) B e Za (λi a b d t=>?_) (λi j a b u v d t w z=>?_);grind;rw[zero_add,d]at t;cases t;rw[w]at z;cases z;refine .same u ?_;obtain⟨c,G,rfl⟩:∃c∈r,a=[V.bool c]:=by have:=mem_of_getElem? d;simp only[rows,mem_map]at this;obtain⟨c,f,rfl⟩:=this;simp_all
 have:=mem_of_getElem? w;simp at this;subst this;rfl
theorem OE{H:bp}{w:V}{o:Nat}{ids:Zv}{out:aZ (aZ Zl)}(n:lG H w o ids (jC out)):∃Z,FR H Z (enc (nested out)) w/\(∀id,Z id->(br H id).isSome=true)/\Deep H Z:=by
 have f:=n.v;by_cases O:out=[];subst O;rw[if_pos (show jC []=[]from rfl)]at f;subst f;exact⟨λ_=>False,.same _ rfl,λ_ h=>h.elim,⟨λ_ _ _ h=>h.elim⟩⟩;have G:jC out≠[]:=λh=>O (GN.1 h);rw[if_neg G,vl]at f;subst f;have Q:=n.ob G;have I:=n.len;rw[vl]at I;have z:∀(i id:Nat)(r:aZ Zl),ids[i]?=some id->out[i]?=some r->H[id]?=some (.row 1 (iT (r.map V.bool))):=λi id r e C=>n.r i id _ e (by simp[jC,C]);have B:∀(i:Nat)(c:Zu),(refs ids (jC out))[i]?=some c->∃id r,ids[i]?=some id/\out[i]?=some r/\c=[.hsl id 1 0 r.length]:=λi c h=>by have D:=(ζe.1 h).1;rw[sx n.len,vl]at D;have e:=ζd (show i<ids.length from Za);have C:=ζd D;have S:=Bf (rows:=jC out) (r:=out[i].map V.bool) e (by simp[jC,C]);grind
 have J:br H o=some (1,refs ids (jC out)):=by simp[br,Q,Ob.rows]
 have L:∀id∈ids,∃(r:aZ Zl),H[id]?=some (.row 1 (iT (r.map V.bool))):=λid t=>by have⟨i,D⟩:=List.getElem?_of_mem t;have T:=(ζe.1 D).1;exact⟨_,z i id _ D (ζd (show i<out.length from Za))⟩
 refine⟨λid=>id=o\/id∈ids,?_,λid h=>?_,⟨λid es ys h d c hc u hu=>?_⟩⟩;have Y:enc (nested out)=.fsl 1 (rows (out.map Sl.row)):=by rw[nested,if_neg O];rfl
 have T:(rows (out.map Sl.row)).length=out.length:=by simp[rows]
 rw[Y,<-T];refine .fsl 1 _ o 0 (refs ids (jC out)) (.inl rfl) J (by rw[T,sx n.len,vl];omega) (λi a b e C=>?_) (λi j a b u v e C S X=>?_);rw[zero_add]at C;obtain⟨id,r,_,d,rfl⟩:=B i b C;simp[rows,d]at e;subst e;rfl;rw[zero_add]at C;obtain⟨id,r,t,d,rfl⟩:=B i b C;have g:a=[enc (Sl.row r)]:=by simp[rows,d]at e;exact e.symm
 subst g;cases j with|zero=>simp at S X;subst S X;exact OP (.inr (mem_of_getElem? t)) (z i id r t d)|succ j=>simp_all
 rcases h with rfl|h;simp_all;have⟨r,d⟩:=L id h;simp[br,d,Ob.rows];rcases h with rfl|h;rw[J]at d;cases d;have⟨i,D⟩:=List.getElem?_of_mem hc;obtain⟨id,r,t,U,rfl⟩:=B i c D;simp at hu;subst hu;exact⟨_,OP (.inr (mem_of_getElem? t)) (z i id r t U)⟩;have⟨r,W⟩:=L id h;have:br H id=some (1,iT (r.map V.bool)):=by simp[br,W,Ob.rows]
 rw[this]at d;cases d;simp only[iT,mem_map]at hc;obtain⟨_,⟨c',_,rfl⟩,rfl⟩:=hc;simp at hu;subst hu;exact⟨_,.same _ rfl⟩
theorem QX{t:Zj}{x:bf}{out:aZ (aZ Zl)}{s:Sl bf}{b:bf->a_ (Sl bf)}(U:uQ.keep (vO 88)=true)(W:E5 uQ vO t b)(O:zA t=true)(g:b x=some s)(j:bT (nH b) (gn t,s.l)=some (.x out)):
 zh uQ (vO 66) [enc t,enc x] (enc (nested out)):=by
 have⟨fi,g1,g2,g3,g4⟩:=shape;have⟨k,l⟩:=nh.1 j;have p:∃F1,(∀c,cD uQ vO c none r1 [enc t,enc x] []=some (F1,[.row 1 [cells t],.row 2 [cells x]]))/\get F1 2=.hptr 0 0 0/\get F1 3=.hptr 1 0 0:=by refine⟨_,λc=>jo (v:=.hptr 0 0 0) (H1:=[.row 1 [cells t]]) rfl ?_<|jo (v:=.hptr 1 0 0) (H1:=[.row 1 [cells t],.row 2 [cells x]]) rfl ?_<|vp (v:=.bJ) rfl ?_ dX,?_,?_⟩;show(gT .box [enc t]).map _=_;simp only[gT,jg,pN,if_true,Option.map_some,fH];rfl;simp only[bF,map_cons,map_nil,bz,bu,bA,reduceEqDiff,if_false];show(gT .box [enc x]).map _=_;simp only[gT,jg,pN,if_true,Option.map_some,fH];rfl;simp[bF,bz,bn];simp[bu];simp[bu]
 have⟨F1,q,r,y⟩:=p;have A:∃I,(∀c,cD uQ vO c none r2 F1 [.row 1 [cells t],.row 2 [cells x]]=some (set F1 5 .bJ,[.row 1 [cells t],.row 2 [cells x]]))/\(∀c,cD uQ vO c none r3 (set F1 5 .bJ) [.row 1 [cells t],.row 2 [cells x]]=some (I,[.row 1 [cells t],.row 2 [cells x]]))/\P1 t x 0 I [.row 1 [cells t],.row 2 [cells x]]:=by refine⟨set (set F1 5 .bJ) 6 (.int .i64 0),λc=>by simp[r2,cD,bF,bz,bn,bu],λc=>by simp[r3,cD,bF,bz,bn,bu],by simp[r],by simp[y],Zc,rfl,rfl,0,[],?_,λh=>absurd rfl h,λid h=>by simp at h⟩;have:get (set (set F1 5 .bJ) 6 (.int .i64 0)) 5=.bJ:=Zc;rw[this,List.take_zero];exact lG.nil _ 0
 have⟨I,H,K,M⟩:=A;have⟨P,S,e1,e2⟩:=Jr (E:=uQ) (N:=vO) O t.procs.l.length 0 I _ Za M
 have⟨o,ids,J,R,V⟩:=e2.ns;have T:(gn t).length=t.procs.l.length:=by simp[gn]
 rw[List.take_of_length_le Za]at J
 have⟨w,X,id,m1,m2,_,m4⟩:=Ut (a:=0) (d:=0) (F:=P) (E:=uQ) (N:=vO) U W g e2.f2 e2.h0 (c:=1) e2.h1;have⟨Y,o1,o2,o3⟩:=m4 e2.f3;have Q:P2 t (gn t) s.l Y (S++X):=by refine⟨by rw[o3 2 Za Za];exact e2.f2,by rw[List.getElem?_append_left (ζe.1 e2.h0).1];exact e2.h0,S.length,o,ids,id,by rw[o3 5 Za Za];exact J.more X,λu=>?_,λi f=>⟨by have:=V i f;omega,J.lt.2 i f⟩,?_,Zc,by rw[o2];exact m1,λoff m h=>?_⟩;have z:jC (gn t)≠[]:=λh=>u (GN.1 h);have:t.procs.l.length≠0:=(by intro h;apply u;exact List.eq_nil_of_length_eq_zero Za);have:=R this;exact⟨Za,J.lt.1 z⟩;have:=(ζe.1 e2.h0).1;omega;rw[o2]at h;have:=m2 off m h;omega
 have⟨C,L,p1,p2⟩:=Kb U W k _ _ out Y _ l Q;have⟨B,o',aa,ab,q1,_⟩:=p2.ns;have l1:∃D,(∀c,cD uQ vO c none Uy C L=some (D,L))/\get D 4=get C 5:=by refine⟨_,λc=>vp (v:=get C 5) rfl ?_<|vp (v:=get C 5) rfl ?_ dX,?_⟩;simp[bF,bz,bn];simp[bF,bz,bn,bu];simp[bu]
 have⟨D,y1,y2⟩:=l1;have e:Ex uQ vO code [enc t,enc x] [] .ret D L:=Ex.seq (Ex.cZ q) (Ex.seq (Ex.cZ H) (Ex.seq (Ex.seq (Ex.cZ K) (Ex.tF (Ex.loop e1))) (Ex.seq (Ex.ops o1) (Ex.seq (Ex.tF (Ex.loop p1)) (Ex.seq (Ex.cZ y1) Ex.ret)))))
 have⟨n,G⟩:=e.run (nm:=some) uI g1 g2 (show[enc t,enc x].length<=fi.ntmps from g3) (vs:=[get D 4]) (by rw[g4];rfl)
 have⟨Z,z1,z2,z3⟩:=OE q1;exact⟨n,get C 5,L,Z,by rw[G,y2];rfl,z1,z2,z3⟩
theorem Sh(l:aZ bf):∀c∈l.map (cells (α:=bf)),c.length=2/\c.all V.one=true/\c.all V.scalar=true:=λc a=>by obtain⟨e,_,rfl⟩:=mem_map.1 a;exact⟨rfl,rfl,rfl⟩
theorem TY(t:Zj):E5 uQ vO t (dJ t):=by
 intro y s H B;have g:=yo t y;have G:=g (cB s) (by rw[B];rfl);have d:V.cE [enc t,enc y]=true:=by simp only[V.cE,jw,Bool.and_self]
 have w:s.k=.row\/s.k=.nil/\rows s.l=[]:=by have C:∀o z,(∃l,o=.row l)\/o=.nil->dJ.J1 o t y=some z->(∃l,z=.row l)\/z=.nil:=λo z I u=>(by unfold dJ.J1 at u;have⟨e,_,u⟩:=ζg.1 u;cases D:e.kind==3 with|true=>rw[D]at u;have⟨f,_,u⟩:=ζg.1 u;have⟨q,a,u⟩:=ζg.1 u;cases u;unfold gZ at a;split at a;cases a;exact .inl ⟨_,rfl⟩;cases a|false=>rw[D]at u;cases u;exact I);have:(∃l,s=.row l)\/s=.nil:=(by unfold dJ at B;cases b:decide (y.index>1)with|true=>rw[b]at B;exact C _ s (.inl ⟨_,rfl⟩) B|false=>rw[b]at B;exact C _ s (.inr rfl) B);rcases this with⟨l,rfl⟩|rfl;exact .inl rfl;exact .inr ⟨rfl,rfl⟩
 have⟨n,z,H',r1,r2⟩:=Ta Fe Ae (T:=Tx) (f:=vO 88) (rf:=rZ (Tx 88)) Zf d (Nat.le_of_ble_eq_true Zf) (k:=s.k) (es:=2) (xs:=rows s.l) (λc b=>(Sh s.l c b).2.2) w G;refine Gs (l:=s.l.map cells) (y:=z) (H1:=H') Zf d (Sh s.l) ⟨n,λk h=>(l8 _ h).go _ _ _ _ r1⟩ ?_ H;rcases r2 with⟨J,rfl⟩|⟨id,rfl,L⟩;left;cases s<;>simp[Sl.k]at J;exact⟨rfl,rfl⟩;right;exact⟨id,by simp[rows],L⟩
end pastX
theorem Oi(t:Zj)(x:bf)(r:Sl (Sl Zl))(h:mB t x=some r):Sy.yf 66 [enc t,enc x]=some (enc r):=by
 unfold mB at h;split at h;rename_i u;have⟨s,z,h⟩:=ζg.1 h;have⟨w,B,h⟩:=ζg.1 h;cases w with|n a=>exact elim a|r e=>exact elim e|x out=>cases h;exact zg (pastX.QX Zf (pastX.TY t) u z B)
 cases h
noncomputable section
def uZ:a_ Zl:=some true
instance P7:Fc Sy cL uZ:=⟨4,[],λr:Zl=>[.bool r],true,kG.yf Zf Zf K6⟩
namespace fD
def bt(D:Sl Zn)(G:Int)(B:Int)(p1:Zn->a_ Zl):a_ (Fw Int Unit Int):=bq (decide (B<G)) ((idx D B).bind λt=>(p1 t).bind λu=>bq u (some (.r B)) (some (.n (wrap .i64 (B+1))))) (some (.x ()))
def W1(B:Sl Zn)(D G:Int)(p1:Zn->a_ Zl):Z6:=(bT (λq:Int=>bt B D q p1) G).bind (Fw.elim (λe=>some (-1)) (λe=>some e))
end fD
def fD(B:Sl Zn)(p1:Zn->a_ Zl):Z6:=fD.W1 B (len B) 0 p1
open fD in
abbrev uO(g1:FuncId)(e1:aZ V)(p1:Event->a_ Bool)(a:oq Sy cL g1 [] e1 (λz:Event=>[enc z]) (λr:Bool=>[.bool r]) p1 true)(B:Sl Event):Fc Sy cL (fD B p1):=Fc.M 61 [enc B,.clo g1 [] e1] (bW 9 B (dR 5 (λu=>(bN [Cv 0 B,(1,.v (.clo g1 [] e1)),Iv 7 (len B),Iv 8 u] [])) (λt=>(0,(bN [] []))) (λt=>(bN [Iv 4 t] [])) (λu=>bE 7 9 (ck 16 λw _=>xk 1 a.f w λC _=>bE 2 16 bh bh) bh) (λt=>bh) (λt=>bh)))
def gL(B:Sl Zn)(p1:Zn->a_ Zl):a_ Zl:=(fD B p1).bind λt=>some (decide (t>=0))
abbrev m_(g1:FuncId)(e1:aZ V)(p1:Event->a_ Bool)(a:oq Sy cL g1 [] e1 (λz:Event=>[enc z]) (λr:Bool=>[.bool r]) p1 true)(B:Sl Event):Fc Sy cL (gL B p1):=Fc.M 43 [enc B,.clo g1 [] e1] (bG (F:=uO g1 e1 p1 a B) 9 λt _=>bh)
def mQ(B:Zn):a_ Zl:=some (decide ((len B.assign)>12))
instance Na(B:Zn):Fc Sy cL (mQ B):=Fc.M 44 [enc B] (dc 2 1 B (bW 7 B.assign bh))
namespace fB
def bt(D:Sl cq)(G:Int)(J B:Int):a_ (Fw (Int×Int) Int Unit):=bq (decide (B<G)) ((idx D B).bind λt=>(bq (decide ((len t.vars)>12)) (some true) ((gL t.events (λz=>mQ z)).bind λu=>some u):a_ Zl).bind λw=>bq w (some (.r ())) (some (.n (wrap .i64 (J+(len t.events)),wrap .i64 (B+1))))) (some (.x J))
def W1(J:Int)(B:Sl cq)(D G:Int):Z6:=(bT (λq:Int×Int=>bt B D q.1 q.2) (J,G)).bind (Fw.elim (λe=>some e) (λe=>some 1000))
end fB
def fB(B:Zj):Z6:=bq (decide ((len B.procs)>10)) (some 1000) (fB.W1 0 B.procs (len B.procs) 0)
open fB in
instance Ry(B:Zj):Fc Sy cL (fB B):=Fc.M 16 [enc B] (dc 2 1 B (bW 8 B.procs (bE 3 9 bh (bW 13 B.procs (dR 5 (λw=>(bN [Iv 3 w.1,Cv 11 B.procs,Iv 12 (len B.procs),Iv 13 w.2] [])) (λt=>(0,(bN [Iv 3 t] []))) (λt=>(bN [Iv 2 1000] [])) (λw=>bE 7 14 (ck 7 λu _=>jB 2 5 0 u (bW 7 u.events (bW 8 u.vars (b_ 2 4 [5,26] 30 (bE 2 26 (bD 4) (bG (F:=m_ 44 [] (λz=>mQ z) oq.uX u.events) 2 λC _=>bD 1)) λD=>bE 2 30 bh bh)))) bh) (λt=>bh) (λt=>bh))))))
def nO(B:Int):a_ Zl:=(bq (decide (B>=65)) (some (decide (B<=90))) (some false):a_ Zl).bind λt=>(bq t (some true) ((bq (decide (B>=97)) (some (decide (B<=122))) (some false):a_ Zl).bind λu=>some u):a_ Zl).bind λw=>some w
instance O5(B:Int):Fc Sy cL (nO B):=Fc.M 114 [.int .u8 B] (b_ 10 3 [5] 8 (bE 10 5 (bD 3) (bD 3)) λt=>b_ 1 7 [0,9] 16 (bE 1 9 (bD 7) (b_ 3 3 [0,12] 15 (bE 3 12 (bD 3) (bD 3)) λu=>bD 1)) λw=>bh)
def rL(B:Int):a_ Zl:=(bq (decide (B>=48)) (some (decide (B<=57))) (some false):a_ Zl).bind λt=>some t
instance PO(B:Int):Fc Sy cL (rL B):=Fc.M 115 [.int .u8 B] (b_ 10 3 [0,5] 8 (bE 10 5 (bD 3) (bD 3)) λt=>bh)
namespace gE
def bt(B:Zq)(i3:Int):a_ (Fw Int Unit Unit):=bq (decide (i3<((ByteArray.size B:Nat):Int))) ((j_ B i3).bind λw=>(nO w).bind λz=>(bq z (some false) ((j_ B i3).bind λC=>(rL C).bind λD=>some (!D)):a_ Zl).bind λG=>(bq G ((j_ B i3).bind λt=>some (!(t==95))) (some false):a_ Zl).bind λu=>bq u (some (.r ())) (some (.n (wrap .i64 (i3+1))))) (some (.x ()))
def W1(B:Zq)(i3:Int):a_ Zl:=(bT (λq:Int=>bt B q) i3).bind (Fw.elim (λe=>some true) (λe=>some false))
end gE
def gE(B:Zq):a_ Zl:=(bq (decide (((ByteArray.size B:Nat):Int)<1)) (some true) (some (decide (((ByteArray.size B:Nat):Int)>16))):a_ Zl).bind λt=>(bq t (some true) ((j_ B 0).bind λu=>(nO u).bind λw=>some (!w)):a_ Zl).bind λz=>bq z (some false) (gE.W1 B 1)
open gE in
instance Rn(B:Zq):Fc Sy cL (gE B):=Fc.M 84 [.str B] (b_ 12 4 [7] 11 (bE 12 7 (bD 4) (bD 4)) λC=>b_ 1 5 [12] 17 (bE 1 12 (bD 5) (yT 1 .i64 λD _=>bG 0 λG _=>bD 2)) λI=>bE 2 17 bh (dR 11 (λu=>(bN [(0,.v (.str B)),Iv 3 u] [])) (λt=>(0,(bN [] []))) (λt=>(bN [Bv 2 false] [])) (λu=>bE 10 21 (yT 9 .i64 λJ _=>bG 0 λL _=>b_ 2 6 [29] 35 (dU 2 29 (bD 6) (yT 2 .i64 λO _=>bG 0 λQ _=>bD 2)) λS=>b_ 1 5 [36] 41 (bE 1 36 (yT 2 .i64 λw _=>bD 2) (bD 5)) λz=>bE 2 41 bh bh) bh) (λt=>bh) (λt=>bh)))
def oI(B:Int):a_ Zl:=(bq (decide (B>=(-1073741824))) (some (decide (B<=1073741824))) (some false):a_ Zl).bind λt=>some t
instance QU(B:Int):Fc Sy cL (oI B):=Fc.M 85 [.int .i64 B] (b_ 10 3 [0,5] 8 (bE 10 5 (bD 3) (bD 3)) λt=>bh)
namespace ec
def eH(G:Int)(B:cq)(D:Int):a_ (Fw Int Unit Unit):=bq (decide (D<G)) ((idx B.vars D).bind λt=>(idx B.vars G).bind λu=>bq (toList t.name==toList u.name) (some (.r ())) (some (.n (wrap .i64 (D+1))))) (some (.x ()))
def W3(D G:Int)(B:cq):a_ (Fw Int Unit Int):=(bT (λq:Int=>eH D B q) G).bind (Fw.elim (λe=>(idx B.vars D).bind λt=>(oI t.init_).bind λu=>bq u (some (.n (wrap .i64 (D+1)))) (some (.r 2))) (λe=>some (.r 13)))
def cn(B:cq)(D:Int):a_ (Fw Int Unit Int):=bq (decide (D<(len B.vars))) ((idx B.vars D).bind λt=>(gE t.name).bind λu=>bq u (W3 D 0 B) (some (.r 13))) (some (.x ()))
def W2(D:Int)(B:cq):Z6:=(bT (λq:Int=>cn B q) D).bind (Fw.elim (λe=>bq (decide ((len B.events)>64)) (some 5) (some 0)) (λe=>some e))
def bt(p1:Int)(B:Zj)(D:cq)(G:Int):a_ (Fw Int Unit Unit):=bq (decide (G<p1)) ((idx B.procs G).bind λt=>bq (toList t.name==toList D.name) (some (.r ())) (some (.n (wrap .i64 (G+1))))) (some (.x ()))
def W1(p1 G:Int)(D:Zj)(B:cq):Z6:=(bT (λq:Int=>bt p1 D B q) G).bind (Fw.elim (λe=>bq (decide ((len B.vars)>8)) (some 5) (ec.W2 0 B)) (λe=>some 13))
end ec
def ec(B:Zj)(p1:Int):Z6:=(idx B.procs p1).bind λt=>(gE t.name).bind λu=>bq u (ec.W1 p1 0 B t) (some 13)
open ec in
instance RG(G:Zj)(p1:Int):Fc Sy cL (ec G p1):=Fc.M 62 [enc G,.int .i64 p1] (dc 2 2 G (ck 8 λt _=>jB 2 5 0 t (bG 7 λI _=>dU 3 17 (dR 11 (λC=>(bN [Iv 1 p1,Pv 2,Pv 5,Iv 6 C] [Xb 2 G,Xb 5 t])) (λz=>(0,(bN [Pv 5] [Xb 5 t]))) (λz=>(bN [Iv 4 13] [])) (λC=>bE 9 20 (ck 10 λJ _=>bE 7 31 bh bh) bh) (λz=>bW 7 t.vars (bE 3 35 bh (dR 11 (λu=>(bN [Pv 5,Iv 7 u] [Xb 5 t])) (λw=>(2,(bN [Pv 5] [Xb 5 t]))) (λw=>(bN [Iv 4 w] [])) (λu=>bW 7 t.vars (bE 3 40 (ck 11 λL _=>bG 2 λO _=>dU 3 50 (dR 11 (λD=>(bN [Pv 5,Iv 7 u,Iv 8 D] [Xb 5 t])) (λB=>(4,(bN [Pv 5,Iv 7 u] [Xb 5 t]))) (λB=>(bN [Iv 4 13] [])) (λD=>bE 9 53 (ck 10 λQ _=>ck 5 λS _=>bE 5 68 bh bh) bh) (λB=>ck 7 λT _=>bG 2 λU _=>dU 3 76 bh bh) (λB=>bh)) bh) bh)) (λw=>bW 7 t.events (bE 3 80 bh bh)) (λw=>bh)))) (λz=>bh)) bh)))
namespace en
def eH(p1 J:Int)(O:Zj)(D:Zn)(G:Assign)(B:Int):a_ (Fw Int Unit Unit):=bq (decide (B<J)) ((idx D.assign B).bind λt=>bq (t.var==G.var) (some (.r ())) (some (.n (wrap .i64 (B+1))))) (some (.x ()))
def W3(p1 O B:Int)(D:Zj)(G:Zn)(J:Assign):a_ (Fw Int Unit Int):=(bT (λq:Int=>eH p1 O D G J q) B).bind (Fw.elim (λe=>some (.n (wrap .i64 (O+1)))) (λe=>some (.r 8)))
def cn(p1:Int)(D:Zj)(B:Zn)(G:Int):a_ (Fw Int Unit Int):=bq (decide (G<(len B.assign))) ((idx B.assign G).bind λt=>(bq (decide (t.var<0)) (some true) ((idx D.procs p1).bind λu=>some (decide (t.var>=(len u.vars)))):a_ Zl).bind λw=>(bq w (some true) ((oI t.value).bind λz=>some (!z)):a_ Zl).bind λC=>bq C (some (.r 2)) (W3 p1 G 0 D B t)) (some (.x ()))
def W2(p1 G:Int)(B:Zj)(D:Zn):Z6:=(bT (λq:Int=>cn p1 B D q) G).bind (Fw.elim (λe=>some 0) (λe=>some e))
def J1(p1 i2:Int)(D:Zj)(B:Zn):Z6:=(bq (decide (B.time<0)) (some true) (some (decide (B.time>1099511627776))):a_ Zl).bind λt=>(bq t (some true) ((bq (decide (i2>0)) ((idx D.procs p1).bind λu=>(idx u.events (wrap .i64 (i2-1))).bind λw=>some (decide (B.time<w.time))) (some false):a_ Zl).bind λz=>some z):a_ Zl).bind λC=>bq C (some 11) (bq (decide ((len B.assign)>8)) (some 5) (en.W2 p1 0 D B))
theorem vL(p1 i2:Int)(D:Zj)(B:Zn):Le ((J1 p1 i2 D B).bind (λr=>some [.int .i64 r])) (cr Sy cL (qH (tr Tx 63)) (tS (tb Tx 63) [1,1,1,0] [] (bN [Iv 1 p1,Iv 2 i2,Pv 3,Pv 7] [Xb 3 D,Xb 7 B]))):=b_ 7 4 [71] 75 (bE 7 71 (bD 4) (bD 4)) λJ=>b_ 1 19 [2,76] 95 (bE 1 76 (bD 19) (b_ 3 15 [2,79] 94 (bE 3 79 (ck 5 λL _=>ck 4 λO _=>bD 4) (bD 15)) λQ=>bD 1)) λS=>bE 2 95 bh (bW 8 B.assign (bE 3 99 bh (dR 11 (λt=>(bN [Iv 1 p1,Pv 3,Pv 7,Iv 8 t] [Xb 3 D,Xb 7 B])) (λu=>(0,(bN [] []))) (λu=>(bN [Iv 6 u] [])) (λt=>bW 7 B.assign (bE 3 104 (ck 10 λw _=>b_ 12 11 [115] 126 (bE 12 115 (bD 11) (ck 5 λG _=>bW 2 G.vars (bD 2))) λT=>O9 1 5 [130] (λz=>(bN [Iv 1 p1,Pv 3,Pv 7,Iv 8 t,Bv 104 true,Pv 9,Bv 132 z] [Xb 3 D,Xb 7 B,Xb 9 w])) (bE 1 127 (bD 5) (gf 2 λU _=>bD 2)) λz=>bE 2 132 bh (dR 10 (λI=>(bN [Iv 1 p1,Pv 3,Pv 7,Iv 8 t,Pv 9,Iv 10 I] [Xb 3 D,Xb 7 B,Xb 9 w])) (λC=>(2,(bN [Iv 1 p1,Pv 3,Pv 7,Iv 8 t] [Xb 3 D,Xb 7 B]))) (λC=>(bN [Iv 6 8] [])) (λI=>bE 9 135 (ck 10 λW _=>bE 7 146 bh bh) bh) (λC=>bh) (λC=>bh))) bh)) (λu=>bh) (λu=>bh))))
end en
def en(B:Zj)(p1 i2:Int):Z6:=(idx B.procs p1).bind λu=>(idx u.events i2).bind λt=>bq (t.kind==1) ((bq (t.peer==0) (some (!(t.message==0))) (some true):a_ Zl).bind λw=>bq w (some 3) (en.J1 p1 i2 B t)) ((bq (t.kind==2) (some false) (some (!(t.kind==3))):a_ Zl).bind λz=>(bq z (some true) (some (decide (t.peer<0))):a_ Zl).bind λC=>(bq C (some true) (some (decide (t.peer>=(len B.procs)))):a_ Zl).bind λD=>(bq D (some true) (some (t.peer==p1)):a_ Zl).bind λG=>(bq G (some true) (some (decide (t.message<0))):a_ Zl).bind λI=>(bq I (some true) (some (decide (t.message>199))):a_ Zl).bind λJ=>bq J (some 3) (en.J1 p1 i2 B t))
open en in
instance Rj(B:Zj)(p1 i2:Int):Fc Sy cL (en B p1 i2):=Fc.M 63 [enc B,.int .i64 p1,.int .i64 i2] (dc 2 3 B (ck 8 λu _=>ck 3 λt _=>jB 2 7 0 t (bE 10 22 (b_ 7 4 [26] 30 (dU 7 26 (bD 4) (bD 4)) λw=>bE 2 30 bh (C3 4 (vL p1 i2 B t))) (b_ 7 4 [34] 38 (dU 7 34 (bD 4) (bD 4)) λz=>b_ 1 4 [39] 43 (bE 1 39 (bD 4) (bD 4)) λC=>b_ 1 7 [44] 51 (bE 1 44 (bD 7) (bW 4 B.procs (bD 2))) λD=>b_ 1 5 [52] 57 (bE 1 52 (bD 5) (bD 5)) λG=>b_ 1 4 [58] 62 (bE 1 58 (bD 4) (bD 4)) λI=>b_ 1 4 [63] 67 (bE 1 63 (bD 4) (bD 4)) λJ=>bE 2 67 bh (C3 4 (vL p1 i2 B t))))))
namespace iq
def bt(G:Zj)(J:bf)(D:Zn)(B:Zl)(O:Int):a_ (Fw (Zl×Int) Bool Empty):=(idx G.procs D.peer).bind λu=>bq (decide (O<(len u.events))) ((idx G.procs D.peer).bind λw=>(idx w.events O).bind λt=>(bq B (some true) ((bq (t.kind==2) (some (t.message==D.message)) (some false):a_ Zl).bind λz=>(bq z (some (t.peer==J.proc)) (some false):a_ Zl).bind λC=>some C):a_ Zl).bind λI=>some (.n (I,wrap .i64 (O+1)))) (some (.x B))
def W1(B:Zl)(O:Int)(D:Zj)(G:bf)(J:Zn):Z6:=(bT (λq:Zl×Int=>bt D G J q.1 q.2) (B,O)).bind (Fw.elim (λe=>bq e (some 0) (some 7)) (λe=>elim e))
end iq
def iq(B:Zj)(D:bf):Z6:=(tJ B D).bind λt=>bq (t.kind==1) (some 0) ((dM B t.kind t.message).bind λu=>bq (Ib u D) (bq (t.kind==3) (iq.W1 false 0 B D t) (some 0)) (some 8))
open iq in
instance O1(B:Zj)(D:bf):Fc Sy cL (iq B D):=Fc.M 64 [enc B,enc D] (dc 2 2 B (bG 8 λu _=>jB 1 5 0 u (bE 10 14 bh (gf 11 λG _=>dU 4 22 (bE 11 25 (iE 14 (λt=>(bN [Pv 2,Pv 3,Pv 5,Bv 6 t.1,Iv 7 t.2] [Xb 2 B,Xb 3 D,Xb 5 u])) (λw=>(0,(bN [Bv 6 w] []))) (λt=>ck 9 λz _=>bW 2 z.events (bE 3 35 (ck 11 λI _=>ck 3 λC _=>jB 2 8 0 C (b_ 5 18 [8,49] 67 (bE 5 49 (bD 18) (b_ 4 6 [53] 59 (bE 4 53 (bD 6) (bD 6)) λJ=>b_ 1 6 [8,60] 66 (bE 1 60 (bD 6) (bD 6)) λL=>bD 1)) λO=>bh)) bh)) (λw=>dU 8 69 bh bh)) bh) bh))))
namespace eB
def J4(B:Zg)(p5:Int)(D:Zj):a_ (Fw ((Zg)×Zl) ((Zg)×Zl) Empty):=(Sl.lY B p5).bind λt=>(Sl.get B t).bind λu=>(Sl.lY B p5).bind λw=>(Sl.put B w (wrap .i64 (u+1):Int)).bind λz=>some (.n (z,true))
def eH(p5:Int)(G:Zj)(B:Zg)(D:Zl):a_ (Fw ((Zg)×Zl) ((Zg)×Zl) Empty):=(Sl.lY B p5).bind λC=>(Sl.get B C).bind λI=>(idx G.procs p5).bind λJ=>bq (decide (I<(len J.events))) ((idx G.procs p5).bind λL=>(Sl.lY B p5).bind λO=>(Sl.get B O).bind λQ=>(idx L.events Q).bind λt=>bq (t.kind==3) ((dM G 2 t.message).bind λu=>(Sl.lY B u.proc).bind λw=>(Sl.get B w).bind λz=>bq (decide (z<u.index)) (some (.x (B,D))) (J4 B p5 G)) (J4 B p5 G)) (some (.x (B,D)))
def W3(D:Zg)(B:Zl)(p5:Int)(G:Zj):a_ (Fw ((Zg)×Zl×Int) ((Zg)×Zl) Empty):=(bT (λq:(Zg)×Zl=>eH p5 G q.1 q.2) (D,B)).bind (Fw.elim (λe=>some (.n (e.1,e.2,wrap .i64 (p5+1)))) (λe=>elim e))
def cn(G:Zj)(D:Zg)(B:Zl)(p5:Int):a_ (Fw ((Zg)×Zl×Int) ((Zg)×Zl) Empty):=bq (decide (p5<(len G.procs))) (W3 D B p5 G) (some (.x (D,B)))
def W2(D:Zg)(B:Zl)(p5:Int)(G:Zj):a_ (Fw Zg Zg Empty):=(bT (λq:(Zg)×Zl×Int=>cn G q.1 q.2.1 q.2.2) (D,B,p5)).bind (Fw.elim (λe=>bq e.2 (some (.n e.1)) (some (.x e.1))) (λe=>elim e))
def wC(B:Zg)(D:Zj)(G:Int):a_ (Fw Int Unit Unit):=bq (decide (G<(len D.procs))) ((Sl.lY B G).bind λt=>(Sl.get B t).bind λu=>(idx D.procs G).bind λw=>bq (decide (u<(len w.events))) (some (.r ())) (some (.n (wrap .i64 (G+1))))) (some (.x ()))
def W5(B:Zg)(G:Int)(D:Zj):a_ Zl:=(bT (λq:Int=>wC B D q) G).bind (Fw.elim (λe=>some true) (λe=>some false))
def bt(D:Zj)(B:Zg):a_ (Fw Zg Zg Empty):=W2 B false 0 D
def W1(B:Zg)(D:Zj):a_ Zl:=(bT (λq:Zg=>bt D q) B).bind (Fw.elim (λe=>eB.W5 e 0 D) (λe=>elim e))
end eB
def eB(B:Zj):a_ Zl:=(nG (len B.procs) (0:Int)).bind λt=>eB.W1 t B
open eB in
instance NP(B:Zj):Fc Sy cL (eB B):=Fc.M 65 [enc B] (dc 2 1 B (bW 7 B.procs (FG 0 12 λa _=>iE 7 (λL=>(bN [Pv 1,Ov 3] [Xb 1 B,Lb 2003 L])) (λC=>(0,(bN [Pv 1,Ov 3] [Xb 1 B,Lb 2003 C]))) (λL=>iE 17 (λu=>(bN [Pv 1,Ov 3,Bv 4 u.2.1,Iv 5 u.2.2] [Xb 1 B,Lb 2003 u.1])) (λD=>(2,(bN [Pv 1,Ov 3,Bv 4 D.2] [Xb 1 B,Lb 2003 D.1]))) (λu=>bW 8 B.procs (bE 3 17 (iE 8 (λG=>(bN [Pv 1,Ov 3,Bv 4 G.2,Iv 5 u.2.2] [Xb 1 B,Lb 2003 G.1])) (λI=>(4,(bN [Pv 1,Ov 3,Bv 4 I.2,Iv 5 u.2.2] [Xb 1 B,Lb 2003 I.1]))) (λG=>mJ .i64 7 2003 λb _=>uS 0 2003 0 1 false (λO=>.int .i64 O) λO _=>ck 3 λY _=>bW 2 Y.events (bE 3 31 (ck 9 λc _=>mJ .i64 4 2003 λd _=>uS 0 2003 0 1 false (λQ=>.int .i64 Q) λQ _=>ck 0 λZ _=>jB 2 6 0 Z (bE 10 46 (bG 6 λe _=>mJ .i64 9 2003 λf _=>uS 0 2003 0 1 false (λw=>.int .i64 w) λw _=>bE 5 58 bh (yz 5 (mJ .i64 4 2003 λS _=>uS 0 2003 0 1 false (λt=>.int .i64 t) λt _=>mJ .i64 1 2003 λT _=>yU 0 2003 (.int .i64 (wrap .i64 (t+1))) λU _=>bh))) (yz 5 (mJ .i64 4 2003 λS _=>uS 0 2003 0 1 false (λt=>.int .i64 t) λt _=>mJ .i64 1 2003 λT _=>yU 0 2003 (.int .i64 (wrap .i64 (t+1))) λU _=>bh)))) bh)) (λI=>bh)) bh)) (λD=>dU 8 66 bh bh)) (λC=>dR 11 (λW=>(bN [Pv 1,Ov 3,Iv 8 W] [Xb 1 B,Lb 2003 C])) (λJ=>(6,(bN [] []))) (λJ=>(bN [Bv 2 false] [])) (λW=>bW 8 B.procs (bE 3 71 (mJ .i64 9 2003 λg _=>uS 0 2003 0 1 false (λz=>.int .i64 z) λz _=>ck 3 λX _=>bW 2 X.events (bE 3 85 bh bh)) bh)) (λJ=>bh) (λJ=>bh)))))
instance RD(t:Zj)(x:bf):Fc Sy cL (mB t x):=Fc.of (A:=λz:Zj×bf=>[enc z.1,enc z.2]) (E:=λr:Sl (Sl Zl)=>[enc r]) (p:=λz=>mB z.1 z.2) (n:=66) (z:=(t,x)) (kG.R7 Zf Zf (λz r a=>Oi z.1 z.2 r a))
namespace cW
def eH(p6:Int)(B:Zj)(G:bf)(D:Int):a_ (Fw Int Unit (Int×bf)):=(idx B.procs p6).bind λu=>bq (decide (D<(len u.events))) ((en B p6 D).bind λt=>bq (t==0) (some (.n (wrap .i64 (D+1)))) (some (.r (t,(⟨p6,wrap .i64 (D+1)⟩:bf))))) (some (.x ()))
def W3(p6 G:Int)(B:Zj)(D:bf):a_ (Fw Int Unit (Int×bf)):=(bT (λq:Int=>eH p6 B D q) G).bind (Fw.elim (λe=>some (.n (wrap .i64 (p6+1)))) (λe=>some (.r (e.1,e.2))))
def wC(G:Int)(D:Zj)(J:bf)(B:Int):a_ (Fw Int Unit (Int×bf)):=(idx D.procs G).bind λu=>bq (decide (B<(len u.events))) ((iq D (⟨G,wrap .i64 (B+1)⟩:bf)).bind λt=>bq (t==0) (some (.n (wrap .i64 (B+1)))) (some (.r (t,(⟨G,wrap .i64 (B+1)⟩:bf))))) (some (.x ()))
def W5(J B:Int)(D:Zj)(G:bf):a_ (Fw Int Unit (Int×bf)):=(bT (λq:Int=>wC J D G q) B).bind (Fw.elim (λe=>some (.n (wrap .i64 (J+1)))) (λe=>some (.r (e.1,e.2))))
def Is(D:Int)(G:Zj)(J:bf)(B:Int):a_ (Fw Int Unit bf):=(idx G.procs D).bind λu=>bq (decide (B<(len u.events))) ((mB G (⟨D,wrap .i64 (B+1)⟩:bf)).bind λw=>(idx w D).bind λz=>(idx z (wrap .i64 (B+1))).bind λt=>bq t (some (.r (⟨D,wrap .i64 (B+1)⟩:bf))) (some (.n (wrap .i64 (B+1))))) (some (.x ()))
def W7(B D:Int)(G:Zj)(J:bf):a_ (Fw Int Unit bf):=(bT (λq:Int=>Is B G J q) D).bind (Fw.elim (λe=>some (.n (wrap .i64 (B+1)))) (λe=>some (.r e)))
def IU(B:Zj)(G:bf)(D:Int):a_ (Fw Int Unit bf):=bq (decide (D<(len B.procs))) (W7 D 0 B G) (some (.x ()))
def W6(B:Int)(D:Zj)(G:bf):a_ (bf×Int):=(bT (λq:Int=>IU D G q) B).bind (Fw.elim (λe=>some (⟨0,0⟩,0)) (λe=>some (e,10)))
def IF(B:Zj)(D:bf)(G:Int):a_ (Fw Int Unit (Int×bf)):=bq (decide (G<(len B.procs))) (W5 G 0 B D) (some (.x ()))
def W4(G:Int)(B:Zj)(D:bf):a_ (bf×Int):=(bT (λq:Int=>IF B D q) G).bind (Fw.elim (λe=>(eB B).bind λt=>bq t (some (⟨0,0⟩,0)) (cW.W6 0 B D)) (λe=>some (e.2,e.1)))
def cn(B:Zj)(D:bf)(p6:Int):a_ (Fw Int Unit (Int×bf)):=bq (decide (p6<(len B.procs))) (W3 p6 0 B D) (some (.x ()))
def W2(p6:Int)(B:Zj)(D:bf):a_ (bf×Int):=(bT (λq:Int=>cn B D q) p6).bind (Fw.elim (λe=>cW.W4 0 B D) (λe=>some (e.2,e.1)))
def bt(B:Zj)(D:bf)(p4:Int):a_ (Fw Int Unit (Int×bf)):=bq (decide (p4<(len B.procs))) ((ec B p4).bind λt=>bq (t==0) (some (.n (wrap .i64 (p4+1)))) (some (.r (t,(⟨p4,0⟩:bf))))) (some (.x ()))
def W1(p4:Int)(B:Zj)(D:bf):a_ (bf×Int):=(bT (λq:Int=>bt B D q) p4).bind (Fw.elim (λe=>cW.W2 0 B D) (λe=>some (e.2,e.1)))
end cW
def cW(B:Zj):a_ (bf×Int):=(bq (decide ((len B.procs)<1)) (some true) (some (decide ((len B.procs)>8))):a_ Zl).bind λt=>bq t (some (⟨0,0⟩,1)) (cW.W1 0 B (⟨0,0⟩:bf))
open cW in
instance Qc(B:Zj):Fc Sy cL (cW B):=Fc.M 45 [enc B] (dc 2 1 B (bW 9 B.procs (b_ 2 5 [20] 25 (bE 2 20 (bD 5) (bW 2 B.procs (bD 2))) λa=>bE 2 25 bh (dR 11 (λO=>(bN [Pv 1,Pv 2,Iv 4 O] [Xb 1 B,Xb 2 (⟨0,0⟩:bf)])) (λt=>(0,(bN [Pv 1,Pv 2] [Xb 1 B,Xb 2 (⟨0,0⟩:bf)]))) (λt=>(bN [Pv 2,Iv 3 t.1] [Xb 2 t.2])) (λO=>bW 7 B.procs (bE 3 31 (bG 9 λb _=>dU 9 38 bh bh) bh)) (λt=>dR 10 (λD=>(bN [Pv 1,Pv 2,Iv 6 D] [Xb 1 B,Xb 2 (⟨0,0⟩:bf)])) (λu=>(2,(bN [Pv 1,Pv 2] [Xb 1 B,Xb 2 (⟨0,0⟩:bf)]))) (λu=>(bN [Pv 2,Iv 3 u.1] [Xb 2 u.2])) (λD=>bW 7 B.procs (bE 3 46 (dR 12 (λQ=>(bN [Pv 1,Pv 2,Iv 6 D,Iv 7 Q] [Xb 1 B,Xb 2 (⟨0,0⟩:bf)])) (λw=>(4,(bN [Pv 1,Pv 2,Iv 6 D] [Xb 1 B,Xb 2 (⟨0,0⟩:bf)]))) (λw=>(bN [Pv 2,Iv 3 w.1] [Xb 2 w.2])) (λQ=>ck 8 λU _=>bW 2 U.events (bE 3 57 (bG 10 λc _=>dU 9 65 bh bh) bh)) (λw=>bh) (λw=>bh)) bh)) (λu=>dR 10 (λG=>(bN [Pv 1,Pv 2,Iv 9 G] [Xb 1 B,Xb 2 (⟨0,0⟩:bf)])) (λz=>(6,(bN [Pv 1,Pv 2] [Xb 1 B,Xb 2 (⟨0,0⟩:bf)]))) (λz=>(bN [Pv 2,Iv 3 z.1] [Xb 2 z.2])) (λG=>bW 7 B.procs (bE 3 75 (dR 12 (λS=>(bN [Pv 1,Pv 2,Iv 9 G,Iv 10 S] [Xb 1 B,Xb 2 (⟨0,0⟩:bf)])) (λC=>(8,(bN [Pv 1,Pv 2,Iv 9 G] [Xb 1 B,Xb 2 (⟨0,0⟩:bf)]))) (λC=>(bN [Pv 2,Iv 3 C.1] [Xb 2 C.2])) (λS=>ck 8 λW _=>bW 2 W.events (bE 3 86 (bG 19 λd _=>dU 9 97 bh bh) bh)) (λC=>bh) (λC=>bh)) bh)) (λz=>bG 6 λY _=>bE 2 101 bh (dR 11 (λI=>(bN [Pv 1,Pv 2,Iv 13 I] [Xb 1 B,Xb 2 (⟨0,0⟩:bf)])) (λJ=>(10,(bN [Pv 2] [Xb 2 (⟨0,0⟩:bf)]))) (λJ=>(bN [Pv 2,Iv 3 10] [Xb 2 J])) (λI=>bW 7 B.procs (bE 3 107 (dR 12 (λT=>(bN [Pv 1,Pv 2,Iv 13 I,Iv 14 T] [Xb 1 B,Xb 2 (⟨0,0⟩:bf)])) (λL=>(12,(bN [Pv 1,Pv 2,Iv 13 I] [Xb 1 B,Xb 2 (⟨0,0⟩:bf)]))) (λL=>(bN [Pv 2,Iv 3 10] [Xb 2 L])) (λT=>ck 8 λX _=>bW 2 X.events (bE 3 118 (bG 19 λe _=>ck 1 λf _=>ck 3 λZ _=>bE 3 134 bh bh) bh)) (λL=>bh) (λL=>bh)) bh)) (λJ=>bh) (λJ=>bh))) (λz=>bh)) (λu=>bh)) (λt=>bh)))))
def oP(B:Zj):a_ Zl:=(cW B).bind λt=>some (t.2==0)
instance P4(B:Zj):Fc Sy cL (oP B):=Fc.M 17 [enc B] (dc 2 1 B (bG 6 λt _=>bh))
def qa(D:Zg)(p1:Int):a_ Zg:=(ny (Sl.row []:Zg) D).bind λt=>(Sl.lY t p1).bind λu=>(Sl.get t u).bind λw=>(Sl.lY t p1).bind λz=>(Sl.put t z (wrap .i64 (w+1):Int)).bind λB=>some B
instance Rr(B:Zg)(p1:Int):Fc Sy cL (qa B p1):=Fc.N 90 [enc B,.int .i64 p1] (yI 9 6 8 λu _=>mJ .i64 9 8 λw _=>uS 0 8 0 1 false (λt=>.int .i64 t) λt _=>mJ .i64 1 8 λz _=>yU 0 8 (.int .i64 (wrap .i64 (t+1))) λC _=>bh)
namespace lZ
def bt(B:Zg)(D:Zj)(p5:Int):a_ (Fw Int Unit Unit):=bq (decide (p5<(len B))) ((idx B p5).bind λt=>(bq (decide (t<0)) (some true) ((idx B p5).bind λu=>(idx D.procs p5).bind λw=>some (decide (u>(len w.events)))):a_ Zl).bind λz=>bq z (some (.r ())) (some (.n (wrap .i64 (p5+1))))) (some (.x ()))
def W1(B:Zg)(p5:Int)(D:Zj):a_ Zl:=(bT (λq:Int=>bt B D q) p5).bind (Fw.elim (λe=>some true) (λe=>some false))
end lZ
def lZ(D:Zj)(B:Zg):a_ Zl:=bq ((len B)==(len D.procs)) (lZ.W1 B 0 D) (some false)
open lZ in
instance R6(D:Zj)(B:Zg):Fc Sy cL (lZ D B):=Fc.M 116 [enc D,enc B] (dc 2 2 D (bW 7 B (bW 2 D.procs (dU 3 11 (dR 11 (λu=>(bN [Cv 1 B,Pv 2,Iv 5 u] [Xb 2 D])) (λt=>(0,(bN [] []))) (λt=>(bN [Bv 4 false] [])) (λu=>bW 6 B (bE 3 15 (ck 9 λz _=>b_ 3 13 [23] 36 (bE 3 23 (bD 13) (ck 2 λC _=>ck 4 λw _=>bW 2 w.events (bD 2))) λG=>bE 2 36 bh bh) bh)) (λt=>bh) (λt=>bh)) bh))))
namespace dK
def cn(B:Zg)(p5:Int)(D:Zj)(G:Int):a_ (Fw Int Unit Unit):=(idx B p5).bind λw=>bq (decide (G<w)) ((idx D.procs p5).bind λz=>(idx z.events G).bind λt=>bq (t.kind==3) ((dM D 2 t.message).bind λu=>(idx B u.proc).bind λC=>bq (decide (u.index>C)) (some (.r ())) (some (.n (wrap .i64 (G+1))))) (some (.n (wrap .i64 (G+1))))) (some (.x ()))
def W2(B:Zg)(p5 G:Int)(D:Zj):a_ (Fw Int Unit Unit):=(bT (λq:Int=>cn B p5 D q) G).bind (Fw.elim (λe=>some (.n (wrap .i64 (p5+1)))) (λe=>some (.r ())))
def bt(B:Zg)(D:Zj)(p5:Int):a_ (Fw Int Unit Unit):=bq (decide (p5<(len B))) (W2 B p5 0 D) (some (.x ()))
def W1(B:Zg)(p5:Int)(D:Zj):a_ Zl:=(bT (λq:Int=>bt B D q) p5).bind (Fw.elim (λe=>some true) (λe=>some false))
end dK
def dK(D:Zj)(B:Zg):a_ Zl:=dK.W1 B 0 D
open dK in
instance KO(D:Zj)(B:Zg):Fc Sy cL (dK D B):=Fc.M 117 [enc D,enc B] (dc 2 2 D (dR 11 (λt=>(bN [Cv 1 B,Pv 2,Iv 5 t] [Xb 2 D])) (λu=>(0,(bN [] []))) (λu=>(bN [Bv 4 false] [])) (λt=>bW 6 B (bE 3 12 (dR 12 (λz=>(bN [Cv 1 B,Pv 2,Iv 5 t,Iv 6 z] [Xb 2 D])) (λw=>(2,(bN [Cv 1 B,Pv 2,Iv 5 t] [Xb 2 D]))) (λw=>(bN [Bv 4 false] [])) (λz=>ck 7 λG _=>bE 4 20 (ck 10 λI _=>ck 3 λC _=>jB 2 7 0 C (bE 9 34 (bG 6 λJ _=>ck 11 λL _=>bE 4 46 bh bh) bh)) bh) (λw=>bh) (λw=>bh)) bh)) (λu=>bh) (λu=>bh)))
def vN(B:Zj)(D:Zg):a_ Zl:=(lZ B D).bind λt=>(bq t ((dK B D).bind λu=>some u) (some false):a_ Zl).bind λw=>some w
instance Th(B:Zj)(D:Zg):Fc Sy cL (vN B D):=Fc.M 89 [enc B,enc D] (dc 2 2 B (bG 7 λt _=>b_ 1 4 [1,2,8] 12 (bE 1 8 (bG 2 λu _=>bD 1) (bD 4)) λw=>bh))
namespace iR
def bt(G:Zg)(D:Zj)(B:Zb)(p6:Int):a_ (Fw ((Zb)×Int) Zb Empty):=bq (decide (p6<(len G))) ((idx G p6).bind λt=>(idx D.procs p6).bind λu=>(bq (decide (t<(len u.events))) ((qa G p6).bind λw=>(vN D w).bind λz=>some z) (some false):a_ Zl).bind λC=>bq C ((qa G p6).bind λI=>(gZ B (I:Zg)).bind λJ=>some (.n (J,wrap .i64 (p6+1)))) (some (.n (B,wrap .i64 (p6+1))))) (some (.x B))
def W1(G:Zg)(B:Zb)(p6:Int)(D:Zj):a_ Zb:=(bT (λq:(Zb)×Int=>bt G D q.1 q.2) (B,p6)).bind (Fw.elim (λe=>some e) (λe=>elim e))
end iR
def iR(B:Zj)(D:Zg):a_ Zb:=iR.W1 D (Sl.nil:Zb) 0 B
open iR in
instance Rl(B:Zj)(D:Zg):Fc Sy cL (iR B D):=Fc.N 67 [enc B,enc D] (dc 2 2 B (iE 17 (λt=>(bN [Cv 1 D,Pv 2,Ov 5,Iv 6 t.2] [Xb 2 B,Lb 2005 t.1])) (λu=>(0,(bN [Ov 5] [Lb 2005 u]))) (λt=>bW 7 D (bE 3 10 (ck 9 λG _=>ck 4 λz _=>bW 2 z.events (O9 2 6 [30,29] (λw=>(bN [Cv 1 D,Pv 2,Ov 5,Iv 6 t.2,Bv 10 true,Bv 31 w] [Xb 2 B,Lb 2005 t.1])) (bE 2 25 (bG 3 λI _=>gf 0 λJ _=>bD 1) (bD 6)) λw=>bE 2 31 (bG 5 λC _=>yh 0 36 ([C]:aZ Zg) (oS 0 2005 36 37 λL _=>bh)) bh)) bh)) (λu=>bh)))
namespace f_
def bt(B:Zg)(D i4:Int):a_ (Fw (Int×Int) Int Empty):=bq (decide (i4<(len B))) ((idx B i4).bind λt=>some (.n (wrap .i64 (D+t),wrap .i64 (i4+1)))) (some (.x D))
def W1(B:Zg)(D i4:Int):Z6:=(bT (λq:Int×Int=>bt B q.1 q.2) (D,i4)).bind (Fw.elim (λe=>some e) (λe=>elim e))
end f_
def f_(B:Zg):Z6:=f_.W1 B 0 0
open f_ in
instance Rs(B:Zg):Fc Sy cL (f_ B):=Fc.M 118 [enc B] (iE 18 (λt=>(bN [Cv 0 B,Iv 3 t.1,Iv 4 t.2] [])) (λu=>(0,(bN [Iv 3 u] []))) (λt=>bW 6 B (bE 3 8 (ck 9 λw _=>bh) bh)) (λu=>bh))
namespace gw
def bt(D G:Zg)(B:Int):a_ (Fw Int Unit Zl):=bq (decide (B<(len D))) ((idx D B).bind λt=>(idx G B).bind λu=>bq (t==u) (some (.n (wrap .i64 (B+1)))) ((idx D B).bind λw=>(idx G B).bind λz=>some (.r (decide (w<z))))) (some (.x ()))
def W1(B D:Zg)(G:Int):a_ Zl:=(bT (λq:Int=>bt B D q) G).bind (Fw.elim (λe=>some false) (λe=>some e))
end gw
def gw(B D:Zg):a_ Zl:=(f_ B).bind λt=>(f_ D).bind λu=>bq (t==u) (gw.W1 B D 0) ((f_ B).bind λw=>(f_ D).bind λz=>some (decide (w<z)))
open gw in
instance O4(B D:Zg):Fc Sy cL (gw B D):=Fc.M 91 [enc B,enc D] (bG 9 λw _=>bG 1 λz _=>dU 3 10 (dR 11 (λu=>(bN [Cv 0 B,Cv 1 D,Iv 5 u] [])) (λt=>(0,(bN [] []))) (λt=>(bN [Bv 4 t] [])) (λu=>bW 6 B (bE 3 19 (ck 9 λC _=>ck 3 λG _=>dU 4 30 bh (ck 5 λI _=>ck 3 λJ _=>bh)) bh)) (λt=>bh) (λt=>bh)) (bG 4 λL _=>bG 1 λO _=>bh))
namespace eU
def bt(D G:Zg)(B:Int):a_ (Fw Int Unit Unit):=bq (decide (B<(len D))) ((idx D B).bind λt=>(idx G B).bind λu=>bq (t==u) (some (.n (wrap .i64 (B+1)))) (some (.r ()))) (some (.x ()))
def W1(B D:Zg)(G:Int):a_ Zl:=(bT (λq:Int=>bt B D q) G).bind (Fw.elim (λe=>some true) (λe=>some false))
end eU
def eU(B D:Zg):a_ Zl:=bq ((len B)==(len D)) (eU.W1 B D 0) (some false)
open eU in
instance MC(B D:Zg):Fc Sy cL (eU B D):=Fc.M 92 [enc B,enc D] (bW 9 B (bW 1 D (dU 3 10 (dR 11 (λu=>(bN [Cv 0 B,Cv 1 D,Iv 5 u] [])) (λt=>(0,(bN [] []))) (λt=>(bN [Bv 4 false] [])) (λu=>bW 6 B (bE 3 14 (ck 9 λw _=>ck 3 λz _=>dU 4 25 bh bh) bh)) (λt=>bh) (λt=>bh)) bh)))
namespace gu
def bt(D:Zb)(G:Zg)(B:Int):a_ (Fw Int Int Empty):=(bq (decide (B<(len D))) ((idx D B).bind λt=>(gw t G).bind λu=>some u) (some false):a_ Zl).bind λw=>bq w (some (.n (wrap .i64 (B+1)))) (some (.x B))
def W1(B:Zb)(G:Zg)(D:Int):a_ Zb:=(bT (λq:Int=>bt B G q) D).bind (Fw.elim (λe=>(bq (decide (e<(len B))) ((idx B e).bind λw=>(eU w G).bind λz=>some z) (some false):a_ Zl).bind λC=>bq C (some B) ((fQ B none (some e)).bind λI=>(ny (Sl.row []:Zb) I).bind λJ=>(gZ J (G:Zg)).bind λL=>(fQ B (some e) none).bind λt=>(ny L t).bind λu=>some u)) (λe=>elim e))
end gu
def gu(B:Zb)(D:Zg):a_ Zb:=gu.W1 B D 0
open gu in
instance Pw(B:Zb)(D:Zg):Fc Sy cL (gu B D):=Fc.N 68 [enc B,enc D] (iE 13 (λu=>(bN [Cv 0 B,Cv 1 D,Iv 5 u] [])) (λt=>(0,(bN [Cv 0 B,Cv 1 D,Iv 5 t] []))) (λu=>bW 6 B (b_ 2 7 [11] 18 (bE 2 11 (ck 2 λC _=>bG 2 λG _=>bD 1) (bD 7)) λI=>bE 2 18 bh bh)) (λt=>bW 7 B (b_ 2 7 [25] 32 (bE 2 25 (ck 2 λJ _=>bG 2 λL _=>bD 1) (bD 7)) λO=>bE 2 32 bh (yh 5 34 ([]:aZ Zg) (Bg 2 false true [.int .i64 t] λQ _=>yI 0 34 38 λS _=>yh 7 41 ([D]:aZ Zg) (oS 0 38 41 42 λT _=>Bg 8 true false [.int .i64 t] λw _=>yI 0 42 47 λz _=>bh))))))
namespace eS
def eH(D J:Zb)(W:Int)(O:Zb)(U:Zj)(B:Zb)(G:Int):a_ (Fw ((Zb)×Int) Zb Empty):=bq (decide (G<(len O))) ((idx O G).bind λt=>(gu B t).bind λu=>some (.n (u,wrap .i64 (G+1)))) (some (.x B))
def W3(B G D:Zb)(O:Int)(U:Zb)(W:Int)(J:Zj):a_ (Fw ((Zb)×Int) Zb Empty):=(bT (λq:(Zb)×Int=>eH B G O U J q.1 q.2) (D,W)).bind (Fw.elim (λe=>some (.n (e,wrap .i64 (O+1)))) (λe=>elim e))
def cn(B G:Zb)(J:Zj)(D:Zb)(O:Int):a_ (Fw ((Zb)×Int) Zb Empty):=bq (decide (O<(len B))) ((idx B O).bind λt=>(iR J t).bind λu=>W3 B G D O u 0 J) (some (.x D))
def W2(B D G:Zb)(O:Int)(J:Zj):a_ (Fw ((Zb)×(Zb)) Zb Unit):=(bT (λq:(Zb)×Int=>cn B D J q.1 q.2) (G,O)).bind (Fw.elim (λe=>some (.n (e,D))) (λe=>elim e))
def bt(G:Zj)(B D:Zb):a_ (Fw ((Zb)×(Zb)) Zb Unit):=bq (decide ((len B)>0)) ((ny D B).bind λt=>bq (decide ((len t)>5000)) (some (.r ())) (W2 B t (Sl.nil:Zb) 0 G)) (some (.x D))
def W1(B D:Zb)(G:Zj):a_ ((Zb)×Zl):=(bT (λq:(Zb)×(Zb)=>bt G q.1 q.2) (B,D)).bind (Fw.elim (λe=>some (e,true)) (λe=>some ((Sl.nil:Zb),false)))
end eS
def eS(B:Zj):a_ ((Zb)×Zl):=(nG (len B.procs) (0:Int)).bind λt=>eS.W1 (Sl.row [t]:Zb) (Sl.nil:Zb) B
open eS in
instance RB(B:Zj):Fc Sy cL (eS B):=Fc.N 46 [enc B] (dc 2 1 B (bW 8 B.procs (FG 0 13 λJ _=>yh 1 14 ([J]:aZ Zg) (dR 13 (λt=>(bN [Pv 1,Cv 4 t.1,Ov 5] [Xb 1 B,Lb 2005 t.2])) (λz=>(0,(bN [Ov 5] [Lb 2005 z]))) (λz=>(bN [Ov 2,Bv 3 false] [Lb 2002 (Sl.nil:Zb)])) (λt=>bW 7 t.1 (bE 3 17 (yI 8 2005 20 λu _=>Cu 7 20 u (bE 3 23 bh (iE 18 (λw=>(bN [Pv 1,Cv 4 t.1,Ov 5,Cv 6 w.1,Iv 7 w.2] [Xb 1 B,Lb 2005 u])) (λD=>(2,(bN [Pv 1,Ov 5,Cv 6 D] [Xb 1 B,Lb 2005 u]))) (λw=>bW 8 t.1 (bE 3 27 (ck 10 λL _=>bG 1 λG _=>iE 12 (λC=>(bN [Pv 1,Cv 4 t.1,Ov 5,Cv 6 C.1,Iv 7 w.2,Cv 8 G,Iv 9 C.2] [Xb 1 B,Lb 2005 u])) (λI=>(4,(bN [Pv 1,Cv 4 t.1,Ov 5,Cv 6 I,Iv 7 w.2] [Xb 1 B,Lb 2005 u]))) (λC=>bW 8 G (bE 3 39 (ck 9 λO _=>bG 1 λQ _=>bh) bh)) (λI=>bh)) bh)) (λD=>bh)))) bh)) (λz=>bh) (λz=>bh)))))
def sP(B:Zj):a_ ((Zb)×Zl):=(eS B).bind λt=>some (t.1,t.2)
instance ND(B:Zj):Fc Sy cL (sP B):=Fc.N 18 [enc B] (dc 2 1 B (bG 7 λt _=>bh))
def lg(B:Zj):a_ ((Zb)×Zl):=(fB B).bind λu=>(bq (decide (u>24)) (some true) ((oP B).bind λw=>some (!w)):a_ Zl).bind λz=>bq z (some (Sl.nil,false)) ((sP B).bind λt=>(bq t.2 (some (decide ((len t.1)<=250))) (some false):a_ Zl).bind λC=>some (t.1,C))
instance N8(B:Zj):Fc Sy cL (lg B):=Fc.N 5 [enc B] (dc 2 1 B (bG 8 λu _=>b_ 2 4 [9] 13 (bE 2 9 (bD 4) (bG 1 λw _=>bD 2)) λz=>bE 2 13 bh (bG 6 λt _=>b_ 12 4 [4,21] 25 (bE 12 21 (bW 1 t.1 (bD 2)) (bD 4)) λC=>bh)))
def mD(G D B:Int):a_ Zl:=(bq (decide (G>=D)) (some (decide (G<=B))) (some false):a_ Zl).bind λt=>some t
instance Ui(G D B:Int):Fc Sy cL (mD G D B):=Fc.M 74 [.int .i64 G,.int .i64 D,.int .i64 B] (b_ 11 4 [0,2,10] 14 (bE 11 10 (bD 4) (bD 4)) λt=>bh)
def o5(B:Int):a_ Zl:=(bq (decide (B>=97)) (some (decide (B<=122))) (some false):a_ Zl).bind λt=>(bq t (some true) ((bq (decide (B>=65)) (some (decide (B<=90))) (some false):a_ Zl).bind λu=>some u):a_ Zl).bind λw=>some w
instance PY(B:Int):Fc Sy cL (o5 B):=Fc.M 123 [.int .u8 B] (b_ 10 3 [5] 8 (bE 10 5 (bD 3) (bD 3)) λt=>b_ 1 7 [0,9] 16 (bE 1 9 (bD 7) (b_ 3 3 [0,12] 15 (bE 3 12 (bD 3) (bD 3)) λu=>bD 1)) λw=>bh)
def s7(B:Int):a_ Zl:=(bq (decide (B>=48)) (some (decide (B<=57))) (some false):a_ Zl).bind λt=>some t
instance RA(B:Int):Fc Sy cL (s7 B):=Fc.M 124 [.int .u8 B] (b_ 10 3 [0,5] 8 (bE 10 5 (bD 3) (bD 3)) λt=>bh)
namespace fK
def bt(D:Zq)(G:Int)(B:Int):a_ (Fw Int Unit Unit):=bq (decide (B<G)) ((j_ D B).bind λw=>(o5 w).bind λz=>(bq z (some false) ((j_ D B).bind λC=>(s7 C).bind λI=>some (!I)):a_ Zl).bind λJ=>(bq J ((j_ D B).bind λt=>some (!(t==95))) (some false):a_ Zl).bind λu=>bq u (some (.r ())) (some (.n (wrap .i64 (B+1))))) (some (.x ()))
def W1(G:Zq)(B D:Int):a_ Zl:=(bT (λq:Int=>bt G B q) D).bind (Fw.elim (λe=>some true) (λe=>some false))
end fK
def fK(B:Zq):a_ Zl:=(bq (toList B==toList ByteArray.empty) (some true) (some (decide (((ByteArray.size B:Nat):Int)>16))):a_ Zl).bind λt=>(bq t (some true) ((j_ B 0).bind λu=>(o5 u).bind λw=>some (!w)):a_ Zl).bind λz=>bq z (some false) (fK.W1 B ((ByteArray.size B:Nat):Int) 0)
open fK in
instance QK(B:Zq):Fc Sy cL (fK B):=Fc.M 102 [.str B] (b_ 11 4 [6] 10 (bE 11 6 (bD 4) (bD 4)) λC=>b_ 1 5 [11] 16 (bE 1 11 (bD 5) (yT 1 .i64 λD _=>bG 0 λG _=>bD 2)) λI=>bE 2 16 bh (dR 13 (λu=>(bN [(0,.v (.str B)),Iv 18 ((ByteArray.size B:Nat):Int),Iv 19 u] [])) (λt=>(0,(bN [] []))) (λt=>(bN [Bv 2 false] [])) (λu=>bE 7 20 (yT 15 .i64 λJ _=>bG 0 λL _=>b_ 2 6 [27] 33 (dU 2 27 (bD 6) (yT 2 .i64 λO _=>bG 0 λQ _=>bD 2)) λS=>b_ 1 5 [3,34] 39 (bE 1 34 (yT 2 .i64 λw _=>bD 2) (bD 5)) λz=>bE 2 39 bh bh) bh) (λt=>bh) (λt=>bh)))
def jc(B D:cq):a_ Zl:=some (toList B.name==toList D.name)
instance Hv(B D:cq):Fc Sy cL (jc B D):=Fc.M 104 [enc B,.fptr (cells D)] (dc 2 2 B bh)
namespace fJ
def bt(D:Sl cq)(G:Int)(B:Int)(p1:cq->a_ Zl):a_ (Fw Int Unit Int):=bq (decide (B<G)) ((idx D B).bind λt=>(p1 t).bind λu=>bq u (some (.r B)) (some (.n (wrap .i64 (B+1))))) (some (.x ()))
def W1(B:Sl cq)(D G:Int)(p1:cq->a_ Zl):Z6:=(bT (λq:Int=>bt B D q p1) G).bind (Fw.elim (λe=>some (-1)) (λe=>some e))
end fJ
def fJ(B:Sl cq)(p1:cq->a_ Zl):Z6:=fJ.W1 B (len B) 0 p1
open fJ in
abbrev vt(g1:FuncId)(e1:aZ V)(p1:cq->a_ Bool)(a:oq Sy cL g1 [] e1 (λz:cq=>[enc z]) (λr:Bool=>[.bool r]) p1 true)(B:Sl cq):Fc Sy cL (fJ B p1):=Fc.M 125 [enc B,.clo g1 [] e1] (bW 9 B (dR 5 (λu=>(bN [Cv 0 B,(1,.v (.clo g1 [] e1)),Iv 7 (len B),Iv 8 u] [])) (λt=>(0,(bN [] []))) (λt=>(bN [Iv 4 t] [])) (λu=>bE 7 9 (ck 16 λw _=>xk 1 a.f w λC _=>bE 2 16 bh bh) bh) (λt=>bh) (λt=>bh)))
def hG(B:Sl cq)(p1:cq->a_ Zl):a_ Zl:=(fJ B p1).bind λt=>some (decide (t>=0))
abbrev t_(g1:FuncId)(e1:aZ V)(p1:cq->a_ Bool)(a:oq Sy cL g1 [] e1 (λz:cq=>[enc z]) (λr:Bool=>[.bool r]) p1 true)(B:Sl cq):Fc Sy cL (hG B p1):=Fc.M 103 [enc B,.clo g1 [] e1] (bG (F:=vt g1 e1 p1 a B) 9 λt _=>bh)
def jl(B D:Var):a_ Zl:=some (toList B.name==toList D.name)
instance Hu(B D:Var):Fc Sy cL (jl B D):=Fc.M 106 [enc B,.fptr (cells D)] (bh)
namespace gm
def bt(D:Sl Var)(G:Int)(B:Int)(p1:Var->a_ Zl):a_ (Fw Int Unit Int):=bq (decide (B<G)) ((idx D B).bind λt=>(p1 t).bind λu=>bq u (some (.r B)) (some (.n (wrap .i64 (B+1))))) (some (.x ()))
def W1(B:Sl Var)(D G:Int)(p1:Var->a_ Zl):Z6:=(bT (λq:Int=>bt B D q p1) G).bind (Fw.elim (λe=>some (-1)) (λe=>some e))
end gm
def gm(B:Sl Var)(p1:Var->a_ Zl):Z6:=gm.W1 B (len B) 0 p1
open gm in
abbrev v_(g1:FuncId)(e1:aZ V)(p1:Var->a_ Bool)(a:oq Sy cL g1 [] e1 (λz:Var=>[enc z]) (λr:Bool=>[.bool r]) p1 true)(B:Sl Var):Fc Sy cL (gm B p1):=Fc.M 126 [enc B,.clo g1 [] e1] (bW 9 B (dR 5 (λu=>(bN [Cv 0 B,(1,.v (.clo g1 [] e1)),Iv 7 (len B),Iv 8 u] [])) (λt=>(0,(bN [] []))) (λt=>(bN [Iv 4 t] [])) (λu=>bE 7 9 (ck 16 λw _=>xk 1 a.f w λC _=>bE 2 16 bh bh) bh) (λt=>bh) (λt=>bh)))
def iD(B:Sl Var)(p1:Var->a_ Zl):a_ Zl:=(gm B p1).bind λt=>some (decide (t>=0))
abbrev uE(g1:FuncId)(e1:aZ V)(p1:Var->a_ Bool)(a:oq Sy cL g1 [] e1 (λz:Var=>[enc z]) (λr:Bool=>[.bool r]) p1 true)(B:Sl Var):Fc Sy cL (iD B p1):=Fc.M 105 [enc B,.clo g1 [] e1] (bG (F:=v_ g1 e1 p1 a B) 9 λt _=>bh)
namespace eF
def bt(D:Sl Var)(G:Int)(J:cq)(B:Int):a_ (Fw Int Unit Int):=bq (decide (B<G)) ((idx D B).bind λt=>(fK t.name).bind λC=>(bq C ((fQ J.vars none (some B)).bind λI=>(iD I (λz=>jl z t)).bind λL=>some L) (some true):a_ Zl).bind λu=>bq u (some (.r 13)) ((mD t.init_ (-1073741824) 1073741824).bind λw=>bq w (some (.n (wrap .i64 (B+1)))) (some (.r 2)))) (some (.x ()))
def W1(D:Sl Var)(G J:Int)(B:cq):Z6:=(bT (λq:Int=>bt D G B q) J).bind (Fw.elim (λe=>bq (decide ((len B.events)>64)) (some 5) (some 0)) (λe=>some e))
end eF
def eF(D:Zj)(p1:Int):Z6:=(idx D.procs p1).bind λt=>(fK t.name).bind λu=>(bq u ((fQ D.procs none (some p1)).bind λw=>(hG w (λz=>jc z t)).bind λB=>some B) (some true):a_ Zl).bind λC=>bq C (some 13) (bq (decide ((len t.vars)>8)) (some 5) (eF.W1 t.vars (len t.vars) 0 t))
open eF in
instance JM(D:Zj)(p1:Int):Fc Sy cL (eF D p1):=Fc.M 75 [enc D,.int .i64 p1] (dc 2 2 D (ck 8 λt _=>jB 2 5 0 t (bG 8 λL _=>b_ 2 7 [1,2,18] 25 (dU 2 18 (Bg 3 false true [.int .i64 p1] λC _=>gf (F:=t_ 104 [.fptr (cells t)] (λz=>jc z t) oq.uX C) 1 λO _=>bD 1) (bD 7)) λQ=>bE 3 13 bh (bW 5 t.vars (bE 4 26 bh (bW 9 t.vars (dR 5 (λw=>(bN [Pv 5,Cv 32 t.vars,Iv 33 (len t.vars),Iv 34 w] [Xb 5 t])) (λu=>(1,(bN [Pv 5] [Xb 5 t]))) (λu=>(bN [Iv 4 u] [])) (λw=>bE 7 35 (ck 8 λB _=>bG 11 λS _=>b_ 2 7 [6,44] 51 (dU 2 44 (Bg 3 false true [.int .i64 w] λG _=>gf (F:=uE 106 [.fptr (cells B)] (λz=>jl z B) oq.uX G) 1 λT _=>bD 1) (bD 7)) λI=>bE 3 39 bh (bG 5 λJ _=>dU 4 52 bh bh)) bh) (λu=>bW 7 t.events (bE 3 61 bh bh)) (λu=>bh))))))))
def iU(B:Zj):a_ Zj:=some B
instance PG(B:Zj):Fc Sy cL (iU B):=Fc.NE (λr:Zj=>[(.clo 107 [] [.fptr (cells r)])]) 76 [enc B] (dc 2 1 B bh)
namespace gY
def J1(p1:Int)(D:Zl)(G:Zj)(B:Zn):a_ Zl:=bq D ((mD B.peer 0 (wrap .i64 ((len G.procs)-1))).bind λt=>(bq t (some (!(B.peer==p1))) (some false):a_ Zl).bind λu=>(bq u ((mD B.message 0 199).bind λw=>some w) (some false):a_ Zl).bind λz=>some z) (some false)
end gY
def gY(B:Zj)(p1:Int)(e2:Zn):a_ Zl:=bq (e2.kind==1) ((bq (e2.peer==0) (some (e2.message==0)) (some false):a_ Zl).bind λt=>some t) (bq (e2.kind==2) (gY.J1 p1 true B e2) (gY.J1 p1 (e2.kind==3) B e2))
open gY in
instance PZ(B:Zj)(p1:Int)(e2:Zn):Fc Sy cL (gY B p1 e2):=Fc.M 108 [enc B,.int .i64 p1,enc e2] (dc 2 3 B (dc 0 5 e2 (bE 17 9 (b_ 7 4 [5,14] 18 (bE 7 14 (bD 4) (bD 4)) λC=>bh) (bE 8 19 (yz 4 (bE 0 19 (bW 7 B.procs (bG 1 λt _=>b_ 1 5 [1,29] 34 (bE 1 29 (bD 5) (bD 5)) λu=>b_ 1 4 [5,35] 39 (bE 1 35 (bG 2 λw _=>bD 1) (bD 4)) λz=>bh)) bh)) (yz 7 (bE 0 19 (bW 7 B.procs (bG 1 λt _=>b_ 1 5 [1,29] 34 (bE 1 29 (bD 5) (bD 5)) λu=>b_ 1 4 [5,35] 39 (bE 1 35 (bG 2 λw _=>bD 1) (bD 4)) λz=>bh)) bh))))))
def jR(B D:Assign):a_ Zl:=some (B.var==D.var)
instance IB(B D:Assign):Fc Sy cL (jR B D):=Fc.M 110 [enc B,.fptr (cells D)] (bh)
namespace e_
def bt(D:Sl Assign)(G:Int)(B:Int)(p1:Assign->a_ Zl):a_ (Fw Int Unit Int):=bq (decide (B<G)) ((idx D B).bind λt=>(p1 t).bind λu=>bq u (some (.r B)) (some (.n (wrap .i64 (B+1))))) (some (.x ()))
def W1(B:Sl Assign)(D G:Int)(p1:Assign->a_ Zl):Z6:=(bT (λq:Int=>bt B D q p1) G).bind (Fw.elim (λe=>some (-1)) (λe=>some e))
end e_
def e_(B:Sl Assign)(p1:Assign->a_ Zl):Z6:=e_.W1 B (len B) 0 p1
open e_ in
abbrev uh(g1:FuncId)(e1:aZ V)(p1:Assign->a_ Bool)(a:oq Sy cL g1 [] e1 (λz:Assign=>[enc z]) (λr:Bool=>[.bool r]) p1 true)(B:Sl Assign):Fc Sy cL (e_ B p1):=Fc.M 127 [enc B,.clo g1 [] e1] (bW 9 B (dR 5 (λu=>(bN [Cv 0 B,(1,.v (.clo g1 [] e1)),Iv 7 (len B),Iv 8 u] [])) (λt=>(0,(bN [] []))) (λt=>(bN [Iv 4 t] [])) (λu=>bE 7 9 (ck 16 λw _=>xk 1 a.f w λC _=>bE 2 16 bh bh) bh) (λt=>bh) (λt=>bh)))
def gy(B:Sl Assign)(p1:Assign->a_ Zl):a_ Zl:=(e_ B p1).bind λt=>some (decide (t>=0))
abbrev sq(g1:FuncId)(e1:aZ V)(p1:Assign->a_ Bool)(a:oq Sy cL g1 [] e1 (λz:Assign=>[enc z]) (λr:Bool=>[.bool r]) p1 true)(B:Sl Assign):Fc Sy cL (gy B p1):=Fc.M 109 [enc B,.clo g1 [] e1] (bG (F:=uh g1 e1 p1 a B) 9 λt _=>bh)
namespace dF
def cn(D:Sl Assign)(G:Int)(J:Zn)(O:cq)(B:Int):a_ (Fw Int Unit Int):=bq (decide (B<G)) ((idx D B).bind λt=>(mD t.var 0 (wrap .i64 ((len O.vars)-1))).bind λC=>(bq C ((mD t.value (-1073741824) 1073741824).bind λI=>some (!I)) (some true):a_ Zl).bind λL=>bq L (some (.r 2)) ((fQ J.assign none (some B)).bind λu=>(gy u (λz=>jR z t)).bind λw=>bq w (some (.r 8)) (some (.n (wrap .i64 (B+1)))))) (some (.x ()))
def W2(B:Sl Assign)(D G:Int)(J:Zn)(O:cq):Z6:=(bT (λq:Int=>cn B D J O q) G).bind (Fw.elim (λe=>some 0) (λe=>some e))
def J1(D:Int)(J:Zj)(G:bf)(B:Zn)(O:cq):Z6:=(gY J G.proc B).bind λt=>bq t ((mD B.time 0 1099511627776).bind λu=>(bq u (some (decide (B.time<D))) (some true):a_ Zl).bind λw=>bq w (some 11) (bq (decide ((len B.assign)>8)) (some 5) (dF.W2 B.assign (len B.assign) 0 B O))) (some 3)
theorem vL(D:Int)(O:Zj)(J:bf)(B:Zn)(G:cq):Le ((J1 D O J B G).bind (λr=>some [.int .i64 r])) (cr Sy cL (qH (tr Tx 77)) (tS (tb Tx 77) [1,1,1,1,0] [] (bN [Pv 3,Pv 4,Pv 5,Pv 7,Iv 8 D] [Xb 3 O,Xb 4 J,Xb 5 B,Xb 7 G]))):=bG 8 λL _=>dU 4 28 (bG 5 λQ _=>b_ 2 5 [8,40] 45 (dU 2 40 (bD 5) (bD 5)) λS=>bE 3 35 bh (bW 5 B.assign (bE 4 46 bh (bW 9 B.assign (dR 5 (λu=>(bN [Pv 5,Pv 7,Cv 52 B.assign,Iv 53 (len B.assign),Iv 54 u] [Xb 5 B,Xb 7 G])) (λt=>(1,(bN [] []))) (λt=>(bN [Iv 6 t] [])) (λu=>bE 7 55 (ck 8 λw _=>bW 13 G.vars (bG 1 λT _=>b_ 2 5 [68] 73 (dU 2 68 (bG 2 λU _=>bD 2) (bD 5)) λW=>bE 3 59 bh (Bg 6 false true [.int .i64 u] λC _=>gf (F:=sq 110 [.fptr (cells w)] (λz=>jR z w) oq.uX C) 1 λI _=>bE 3 74 bh bh))) bh) (λt=>bh) (λt=>bh)))))) bh
end dF
def dF(D:Zj)(B:bf)(e2:Zn):Z6:=(idx D.procs B.proc).bind λt=>bq (decide (B.index>1)) ((idx t.events (wrap .i64 (B.index-2))).bind λu=>dF.J1 u.time D B e2 t) (dF.J1 0 D B e2 t)
open dF in
instance Ly(D:Zj)(B:bf)(e2:Zn):Fc Sy cL (dF D B e2):=Fc.M 77 [enc D,enc B,enc e2] (dc 2 3 D (dc 1 5 e2 (ck 9 λt _=>jB 2 7 0 t (bE 15 19 (ck 7 λu _=>C3 6 (vL u.time D B e2 t)) (C3 4 (vL 0 D B e2 t))))))
def pI(e0:Zn)(B D:Int):a_ Zl:=(bq (e0.kind==2) (some (e0.message==B)) (some false):a_ Zl).bind λt=>(bq t (some (e0.peer==D)) (some false):a_ Zl).bind λu=>some u
instance Oy(e0:Zn)(B D:Int):Fc Sy cL (pI e0 B D):=Fc.M 128 [enc e0,.fptr (cells B),.fptr (cells D)] (dc 2 3 e0 (b_ 9 5 [1,8] 13 (bE 9 8 (bD 5) (bD 5)) λt=>b_ 1 5 [2,3,14] 19 (bE 1 14 (bD 5) (bD 5)) λu=>bh))
def tc(D:Zj)(p1 G B:Int):a_ Zl:=(idx D.procs p1).bind λt=>(gL t.events (λz=>pI z G B)).bind λu=>some u
instance Rm(G:Zj)(p1 D B:Int):Fc Sy cL (tc G p1 D B):=Fc.M 111 [enc G,.int .i64 p1,.int .i64 D,.int .i64 B] (dc 2 4 G (ck 10 λt _=>gf (F:=m_ 128 [.fptr (cells D),.fptr (cells B)] (λz=>pI z D B) oq.uX t.events) 3 λu _=>bh))
namespace eG
def qN(D G:Zj)(J:a_ (cu 200 bC))(O:bf)(U:Int)(x:bf×Zn)(B:cu 200 bC):a_ (Fw (cu 200 bC) Empty (bf×Int×(cu 200 bC))):=bq (x.2.kind==2) ((cu.at B x.2.message).bind λt=>bq (decide (t.from_.index>0)) (some (.r (x.1,8,B))) ((cu.at B x.2.message).bind λu=>some (.n (cu.set B x.2.message (⟨x.1,u.to_⟩:bC))))) (bq (x.2.kind==3) ((cu.at B x.2.message).bind λw=>bq (decide (w.to_.index>0)) (some (.r (x.1,8,B))) ((tc G x.2.peer x.2.message x.1.proc).bind λz=>bq z ((cu.at B x.2.message).bind λC=>some (.n (cu.set B x.2.message (⟨C.from_,x.1⟩:bC)))) (some (.r (x.1,7,B))))) (some (.n B)))
def E1(B G:Zj)(J:a_ (cu 200 bC))(O:bf)(U:Int)(D:cu 200 bC):a_ ((a_ (cu 200 bC))×bf×Int):=(iS B).bind λt=>(nv (λ(x:bf×Zn)(q:cu 200 bC)=>qN B G J O U x q) t D).bind (Fw.vI (λq=>some (some q,⟨0,0⟩,0)) (λe=>elim e) (λe=>some ((none:a_ (cu 200 bC)),e.1,e.2.1)))
end eG
def eG(B:Zj):a_ ((a_ (cu 200 bC))×bf×Int):=(iU B).bind λt=>eG.E1 t B (none:a_ (cu 200 bC)) (⟨0,0⟩:bf) 0 (cu.KS 200 (⟨⟨0,0⟩,⟨0,0⟩⟩:bC))
open eG in
instance KG(B:Zj):Fc Sy cL (eG B):=Fc.N 78 [enc B] (dc 2 1 B (dc 8 10 (cu.KS 200 (⟨⟨0,0⟩,⟨0,0⟩⟩:bC)) (Sg 0 5 (bN [Pv 1,Pv 2,Pv 3,Pv 4,Pv 10] [Xb 1 B,(2,.box [cv (none:a_ (cu 200 bC))]),Xb 3 (⟨0,0⟩:bf),(4,.box [iv 0]),Xb 10 (cu.KS 200 (⟨⟨0,0⟩,⟨0,0⟩⟩:bC))]) [cv (none:a_ (cu 200 bC))] (by simp only[bN,wD,pP,rm,pS,rj,sC,qL,si,pT,qR,w6,sF,sJ,sN,sM,uL,uF,qX,sw];rfl) (bG 7 λz _=>KM λL C=>E9 4 [Pv 1,Pv 2,Pv 3,Pv 4,Pv 5,(12,.v (.clo 107 [] [.fptr (cells z)]))] (λu=>[Xb 1 B,(2,.box [cv (none:a_ (cu 200 bC))]),Xb 3 (⟨0,0⟩:bf),(4,.box [iv 0]),(5,.box [.ptr 10 0]),Xb 10 u]) (λw=>elim w) (λw=>[Xb 1 B,(2,.box [cv (none:a_ (cu 200 bC))]),Xb 3 w.1,(4,.box [iv w.2.1]),(5,.box [.ptr 10 0]),Xb 10 w.2.2]) (xU z L C) (λt u=>Sg 2 6 ⟨[Pv 1,Pv 2,Pv 3,Pv 4,Pv 5,(12,.v (.clo 107 [] [.fptr (cells z)])),Cv 13 t.1,Cv 14 t.2],[Xb 1 B,(2,.box [cv (none:a_ (cu 200 bC))]),Xb 3 (⟨0,0⟩:bf),(4,.box [iv 0]),(5,.box [.ptr 10 0]),Xb 10 u],[1,2,3,4,5],[],true,0⟩ [iv 0,iv 0] (by simp only[bN,wD,pP,rm,pS,rj,sC,qL,si,pT,qR,w6,sF,sJ,sN,sM,uL,uF,qX,sw];rfl) (Sg 4 7 ⟨[Pv 1,Pv 2,Pv 3,Pv 4,Pv 5,(12,.v (.clo 107 [] [.fptr (cells z)])),Cv 14 t.2,Pv 6],[Xb 1 B,(2,.box [cv (none:a_ (cu 200 bC))]),Xb 3 (⟨0,0⟩:bf),(4,.box [iv 0]),(5,.box [.ptr 10 0]),Xb 10 u,Xb 6 t.1],[1,2,3,4,5],[],true,0⟩ [iv 0,iv 0,iv 0,iv 0,.v .bJ] (by simp only[bN,wD,pP,rm,pS,rj,sC,qL,si,pT,qR,w6,sF,sJ,sN,sM,uL,uF,qX,sw];rfl) (jB 0 7 0 t.2 (BZ 1 (bE 22 19 (E8 7 .i64 10 λD O=>Pp 2 1 false 10 u t.2.message 1 D O (.int .i64 D.from_.index) (by rfl) (bE 3 28 bh (E8 8 .i64 10 λG Q=>OT 1 10 u t.2.message 0 G Q (⟨t.1,G.to_⟩:bC) t.1 rfl bh))) (bE 7 36 (E8 7 .i64 10 λI S=>Pp 2 1 false 10 u t.2.message 3 I S (.int .i64 I.to_.index) (by rfl) (bE 3 45 bh (bG 12 λU _=>dU 3 54 (E8 8 .i64 10 λJ T=>OT 1 10 u t.2.message 2 J T (⟨J.from_,t.1⟩:bC) t.1 rfl bh) bh))) bh)))))) (λu=>Ty 13 (bN [Pv 2,Pv 3,Pv 4] [(2,.box [.ptr 10 0]),Xb 3 (⟨0,0⟩:bf),(4,.box [iv 0]),Xb 10 u]) [.ptr 10 0,cv (⟨0,0⟩:bf),iv 0] (Rc (d:=10) (x:=u) (vs:=[enc (⟨0,0⟩:bf),.int .i64 0]) Zf) Zf) (λx=>elim x) (λw=>bh)))))
namespace iO
def J1(D:cu 200 bC)(B:Sl bf)(J:Sl Zn)(G:bf):a_ (Sl bf):=(idx J (wrap .i64 (G.index-1))).bind λt=>(bq (t.kind==2) ((cu.at D t.message).bind λu=>some (decide (u.to_.index>0))) (some false):a_ Zl).bind λw=>bq w ((cu.at D t.message).bind λz=>(gZ B (z.to_:bf)).bind λC=>some C) (some B)
theorem vL(B:cu 200 bC)(D:Sl bf)(J:Sl Zn)(G:bf):Le ((J1 B D J G).bind (λr=>some [enc r])) (cr Sy cL (qH (tr Tx 112)) (tS (tb Tx 112) [1,1,1,1,0,0] [] (bN [Kv 1 B,Pv 5,Ov 7,Cv 8 J] [Xb 5 G,Lb 2007 D]))):=ck 7 λt _=>jB 2 9 0 t (b_ 8 10 [40] 50 (bE 8 40 (Pa 4 .i64 λu w=>MN 0 2 B t.message 0 u w (MN 0 1 B t.message 2 u w (OR 0 1 false B t.message 3 u w (.int .i64 u.to_.index) (by rfl) (bD 2)))) (bD 10)) λI=>bE 2 50 (Pa 7 .i64 λz C=>MN 0 2 B t.message 0 z C (OR 0 2 true B t.message 2 z C (enc z.to_) (by rfl) (oS 1 2007 59 60 λL _=>bh))) bh)
end iO
def iO(D:Zj)(B:cu 200 bC)(x2:bf):a_ (Sl bf):=(idx D.procs x2.proc).bind λt=>bq (decide (x2.index<(len t.events))) (iO.J1 B (Sl.row [⟨x2.proc,wrap .i64 (x2.index+1)⟩]:Sl bf) t.events x2) (iO.J1 B (Sl.nil:Sl bf) t.events x2)
open iO in
instance Rk(D:Zj)(B:cu 200 bC)(x2:bf):Fc Sy cL (iO D B x2):=Fc.N 112 [enc D,.fptr (cells B),enc x2] (dc 2 3 D (ck 15 λt _=>bW 11 t.events (bE 3 21 (Pc 10 29 30 .bJ (⟨x2.proc,wrap .i64 (x2.index+1)⟩:bf) (C3 5 (vL B (Sl.row [⟨x2.proc,wrap .i64 (x2.index+1)⟩]:Sl bf) t.events x2))) (C3 5 (vL B (Sl.nil:Sl bf) t.events x2)))))
namespace ij
def eH(O:Zj)(U:Sl bf)(W:Int)(Y:Zj)(a:cu 200 bC)(b:bf)(c:Zl)(J:bf)(B:Sl bf)(G:Int)(D:Mo bf Zl):a_ (Fw ((Sl bf)×Int×(Mo bf Zl)) ((Sl bf)×(Mo bf Zl)) Unit):=bq (decide (G<W)) ((idx U G).bind λt=>bq (Ib t J) (some (.r ())) (bq (Ds D t false) (some (.n (B,wrap .i64 (G+1),D))) ((gZ B (t:bf)).bind λu=>some (.n (u,wrap .i64 (G+1),qB D t true))))) (some (.x (B,D)))
def W3(D:Sl bf)(B:Zj)(O:Sl bf)(U W:Int)(Y:Zj)(a:cu 200 bC)(b:bf)(c:Zl)(G:bf)(J:Mo bf Zl):a_ (Fw ((Sl bf)×(Mo bf Zl)) Unit Unit):=(bT (λq:(Sl bf)×Int×(Mo bf Zl)=>eH B O U Y a b c G q.1 q.2.1 q.2.2) (D,W,J)).bind (Fw.elim (λe=>some (.n (e.1,e.2))) (λe=>some (.r ())))
def cn(D G:Zj)(J:cu 200 bC)(W:bf)(Y:Zl)(O:bf)(B:Sl bf)(U:Mo bf Zl):a_ (Fw ((Sl bf)×(Mo bf Zl)) Unit Unit):=bq (decide ((len B)>0)) ((Sl.lY B (wrap .i64 ((len B)-1))).bind λu=>(Sl.get B u).bind λw=>(nN B none (some (wrap .i64 ((len B)-1)))).bind λz=>(iO G J w).bind λt=>W3 z D t (len t) 0 G J W Y O U) (some (.x ()))
def W2(G:Sl bf)(B O:Zj)(U:cu 200 bC)(W:bf)(Y:Zl)(D:bf)(J:Mo bf Zl):a_ (Fw Unit Empty bf):=(bT (λq:(Sl bf)×(Mo bf Zl)=>cn B O U W Y D q.1 q.2) (G,J)).bind (Fw.elim (λe=>some (.n ())) (λe=>some (.r D)))
def qN(B D:Zj)(G:cu 200 bC)(J:bf)(O:Zl)(x:bf×Zn):a_ (Fw Unit Empty bf):=W2 (Sl.row [x.1]:Sl bf) B D G J O x.1 []
def E1(B D:Zj)(G:cu 200 bC)(J:bf)(O:Zl):a_ (bf×Zl):=(iS B).bind λt=>(nv (λ(x:bf×Zn)(q:Unit)=>qN B D G J O x) t ()).bind (Fw.vI (λq=>some (⟨0,0⟩,false)) (λe=>elim e) (λe=>some (e,true)))
end ij
def ij(B:Zj)(D:cu 200 bC):a_ (bf×Zl):=(iU B).bind λt=>ij.E1 t B D (⟨0,0⟩:bf) false
open ij in
instance Q_(B:Zj)(D:cu 200 bC):Fc Sy cL (ij B D):=Fc.M 79 [enc B,.fptr (cells D)] (dc 2 2 B (bG 9 λu _=>KM λT O=>E9 4 [Pv 2,Pv 3,Pv 4,Pv 5,(13,.v (.clo 107 [] [.fptr (cells u)]))] (λQ=>[Xb 2 B,(3,.box [cp D]),Xb 4 (⟨0,0⟩:bf),(5,.box [bv false])]) (λG=>elim G) (λG=>[Xb 2 B,(3,.box [cp D]),Xb 4 G,(5,.box [bv true])]) (xU u T O) (λz Q=>BZ 4 (dR 18 (λt=>⟨[Pv 2,Pv 3,Pv 4,Pv 5,Pv 6,(7,.mp 16),Ov 8,(13,.v (.clo 107 [] [.fptr (cells u)]))],[Xb 2 B,(3,.box [cp D]),Xb 4 (⟨0,0⟩:bf),(5,.box [bv false]),Xb 6 z.1,(16,u6 t.2),Lb 2008 t.1],[2,3,4,5],[],true,0⟩) (λI=>(2,⟨[Pv 2,Pv 3,Pv 4,Pv 5,(13,.v (.clo 107 [] [.fptr (cells u)]))],[Xb 2 B,(3,.box [cp D]),Xb 4 (⟨0,0⟩:bf),(5,.box [bv false])],[2,3,4,5],[],true,0⟩)) (λI=>⟨[],[Xb 2 B,(3,.box [cp D]),Xb 4 z.1,(5,.box [bv true])],[2,3,4,5],[],true,0⟩) (λt=>Cu 6 2008 t.1 (bE 3 21 (Cu 8 2008 t.1 (mJ .i64 1 2008 λU _=>uS 0 2008 0 2 true (λJ=>.agg [.int .i64 J.proc,.int .i64 J.index]) λJ _=>Cu 8 2008 t.1 (TW 1 false true 2008 32 [.int .i64 (wrap .i64 ((len t.1)-1))] λW _=>bG 8 λL _=>bW 0 L (dR 6 (λw=>⟨[Pv 2,Pv 3,Pv 4,Pv 5,Pv 6,(7,.mp 16),Ov 8,(13,.v (.clo 107 [] [.fptr (cells u)])),Cv 36 L,Iv 37 (len L),Iv 38 w.2.1],[Xb 2 B,(3,.box [cp D]),Xb 4 (⟨0,0⟩:bf),(5,.box [bv false]),Xb 6 z.1,(16,u6 w.2.2),Lb 2008 w.1],[2,3,4,5],[],true,0⟩) (λC=>(4,⟨[Pv 2,Pv 3,Pv 4,Pv 5,Pv 6,(7,.mp 16),Ov 8,(13,.v (.clo 107 [] [.fptr (cells u)]))],[Xb 2 B,(3,.box [cp D]),Xb 4 (⟨0,0⟩:bf),(5,.box [bv false]),Xb 6 z.1,(16,u6 C.2),Lb 2008 C.1],[2,3,4,5],[],true,0⟩)) (λC=>⟨[],[Xb 2 B,(3,.box [cp D]),Xb 4 z.1,(5,.box [bv true])],[2,3,4,5],[],true,0⟩) (λw=>bE 8 39 (ck 7 λS _=>bE 13 44 bh (TO 7 16 w.2.2 S false (dU 3 49 bh (UU 5 16 w.2.2 S true (oS 6 2008 54 55 λX _=>bh))))) bh) (λC=>bh) (λC=>bh))))) bh)) (λI=>bh) (λI=>bh))) (λQ=>bh) (λx=>elim x) (λG=>bh)))
namespace gA
def Ig(B D:Zj)(G:bf)(J:Int)(x:bf×Zn):a_ (Fw Unit Empty (bf×Int)):=(dF D x.1 x.2).bind λt=>bq (t==0) (some (.n ())) (some (.r (x.1,t)))
def E2(B D:Zj)(G:bf)(J:Int):a_ (bf×Int):=(iS B).bind λw=>(nv (λ(x:bf×Zn)(q:Unit)=>Ig B D G J x) w ()).bind (Fw.vI (λq=>(eG D).bind λt=>bq (t.2.2==0) ((t.1).bind λz=>(ij D z).bind λu=>bq u.2 (some (u.1,10)) (some (⟨0,0⟩,0))) (some (t.2.1,t.2.2))) (λe=>elim e) (λe=>some (e.1,e.2)))
def bt(D:Int)(G:Zj)(J:bf)(O:Int)(B:Int):a_ (Fw Int Unit (bf×Int)):=bq (decide (B<D)) ((eF G B).bind λt=>bq (t==0) (some (.n (wrap .i64 (B+1)))) (some (.r ((⟨B,0⟩:bf),t)))) (some (.x ()))
def W1(J O:Int)(B:Zj)(D:bf)(G:Int):a_ (bf×Int):=(bT (λq:Int=>bt J B D G q) O).bind (Fw.elim (λe=>(iU B).bind λt=>gA.E2 t B D G) (λe=>some (e.1,e.2)))
end gA
def gA(B:Zj):a_ (bf×Int):=(mD (len B.procs) 1 8).bind λt=>bq t (gA.W1 (len B.procs) 0 B (⟨0,0⟩:bf) 0) (some (⟨0,0⟩,1))
open gA in
instance RE(B:Zj):Fc Sy cL (gA B):=Fc.M 51 [enc B] (dc 2 1 B (bW 9 B.procs (bG 0 λL _=>dU 3 18 (bW 8 B.procs (dR 5 (λz=>(bN [Pv 1,Pv 2,Pv 3,Iv 22 (len B.procs),Iv 23 z] [Xb 1 B,Xb 2 (⟨0,0⟩:bf),(3,.box [iv 0])])) (λt=>(0,(bN [Pv 1,Pv 2,Pv 3] [Xb 1 B,Xb 2 (⟨0,0⟩:bf),(3,.box [iv 0])]))) (λt=>(bN [Pv 2,Pv 3] [Xb 2 t.1,(3,.box [iv t.2])])) (λz=>bE 7 24 (bG 15 λO _=>dU 9 30 bh bh) bh) (λt=>bG 6 λw _=>KM λI C=>E9 4 [Pv 1,Pv 2,Pv 3,(36,.v (.clo 107 [] [.fptr (cells w)]))] (λD=>[Xb 1 B,Xb 2 (⟨0,0⟩:bf),(3,.box [iv 0])]) (λu=>elim u) (λu=>[Xb 1 B,Xb 2 u.1,(3,.box [iv u.2])]) (xU w I C) (λJ D=>jB 8 7 0 J.2 (BZ 1 (bG 7 λQ _=>dU 9 44 bh bh))) (λD=>bG 5 λG _=>dU 17 54 (US 8 (λS=>(bN [Pv 2,Pv 3,(36,.v (.clo 107 [] [.fptr (cells w)])),Pv 10,Iv 11 G.2.2,Bv 54 false,Cv 58 B,Cv 59 S] [Xb 1 B,Xb 2 (⟨0,0⟩:bf),(3,.box [iv 0]),Xb 10 G.2.1])) λT _=>bG 0 λU _=>bE 13 63 bh bh) bh) (λx=>elim x) (λu=>bh)) (λt=>bh))) bh)))
def cA(B:Zj):a_ Zl:=(gA B).bind λt=>some (t.2==0)
instance Rx(B:Zj):Fc Sy cL (cA B):=Fc.M 24 [enc B] (dc 2 1 B (bG 6 λt _=>bh))
def qp(B:Zj)(p1 D:Int):Z6:=(cA B).bind λt=>bq t ((bq (decide (p1<0)) (some true) (some (decide (p1>=(len B.procs)))):a_ Zl).bind λu=>(bq u (some true) (some (decide (D<0))):a_ Zl).bind λw=>(bq w (some true) (some (decide (D>=(len B.procs)))):a_ Zl).bind λz=>(bq z (some true) (some (p1==D)):a_ Zl).bind λC=>bq C (some 2) (some 0)) (some 1)
instance O_(B:Zj)(p1 D:Int):Fc Sy cL (qp B p1 D):=Fc.M 19 [enc B,.int .i64 p1,.int .i64 D] (dc 2 3 B (bW 7 B.procs (bG 8 λt _=>dU 4 11 (b_ 6 4 [18] 22 (bE 6 18 (bD 4) (bD 4)) λu=>b_ 1 3 [23] 26 (bE 1 23 (bD 3) (bD 3)) λw=>b_ 1 4 [7,27] 31 (bE 1 27 (bD 4) (bD 4)) λz=>b_ 1 4 [1,2,32] 36 (bE 1 32 (bD 4) (bD 4)) λC=>bE 3 15 bh bh) bh)))
namespace fT
def cn(p1:Int)(J:Sl Zn)(O:Int)(G:Int)(B D:bL):a_ (Fw (Int×bL×bL) (bL×bL) Empty):=bq (decide (G<O)) ((idx J G).bind λt=>(bq (t.kind==3) (some (t.peer==p1)) (some false):a_ Zl).bind λu=>bq u ((gZ D.received (wrap .i64 (G+1):Int)).bind λw=>some (.n (wrap .i64 (G+1),(⟨B.p,B.q,Sl.nil,Sl.nil⟩:bL),(⟨D.p,D.q,D.sent,w⟩:bL)))) (some (.n (wrap .i64 (G+1),(⟨B.p,B.q,Sl.nil,Sl.nil⟩:bL),D)))) (some (.x ((⟨B.p,B.q,Sl.nil,Sl.nil⟩:bL),D)))
def W2(p1:Int)(B:Sl Zn)(D G:Int)(J O:bL):a_ bL:=(bT (λq:Int×bL×bL=>cn p1 B D q.1 q.2.1 q.2.2) (G,J,O)).bind (Fw.elim (λe=>some e.2) (λe=>elim e))
def bt(p1 U:Int)(J:Sl Zn)(O:Int)(W:Zj)(G:Int)(D B:bL):a_ (Fw (Int×bL×bL) (bL×bL) Empty):=bq (decide (G<O)) ((idx J G).bind λt=>(bq (t.kind==2) (some (t.peer==U)) (some false):a_ Zl).bind λu=>bq u ((gZ B.sent (wrap .i64 (G+1):Int)).bind λw=>some (.n (wrap .i64 (G+1),(⟨D.p,D.q,Sl.nil,Sl.nil⟩:bL),(⟨B.p,B.q,w,Sl.nil⟩:bL)))) (some (.n (wrap .i64 (G+1),(⟨D.p,D.q,Sl.nil,Sl.nil⟩:bL),(⟨B.p,B.q,B.sent,Sl.nil⟩:bL))))) (some (.x ((⟨D.p,D.q,Sl.nil,Sl.nil⟩:bL),(⟨B.p,B.q,B.sent,Sl.nil⟩:bL))))
def W1(p1 W:Int)(D:Sl Zn)(G J:Int)(B:Zj)(O U:bL):a_ bL:=(bT (λq:Int×bL×bL=>bt p1 W D G B q.1 q.2.1 q.2.2) (J,O,U)).bind (Fw.elim (λe=>(idx B.procs W).bind λt=>fT.W2 p1 t.events (len t.events) 0 (⟨e.1.p,e.1.q,Sl.nil,Sl.nil⟩:bL) (⟨e.2.p,e.2.q,e.2.sent,Sl.nil⟩:bL)) (λe=>elim e))
end fT
def fT(B:Zj)(p1 D:Int):a_ bL:=(idx B.procs p1).bind λt=>fT.W1 p1 D t.events (len t.events) 0 B (⟨0,0,Sl.nil,Sl.nil⟩:bL) (⟨p1,D,Sl.nil,Sl.nil⟩:bL)
open fT in
instance Qt(G:Zj)(p1 B:Int):Fc Sy cL (fT G p1 B):=Fc.N 20 [enc G,.int .i64 p1,.int .i64 B] (dc 2 3 G (Jt 7 (⟨p1,B,Sl.nil,Sl.nil⟩:bL) [.int .i64 p1,.int .i64 B] [.int .i64 0,.int .i64 0,.bJ,.bJ] [(0,1),(1,1)] (by simp only[ug,vU,jg,B5,Ab,Ch,BG];rfl) rfl (jB 1 7 0 (⟨p1,B,Sl.nil,Sl.nil⟩:bL) (ck 8 λC _=>bW 2 C.events (iE 6 (λw=>(bN [Iv 1 p1,Iv 2 B,Pv 3,Pv 6,Pv 7,Cv 20 C.events,Iv 21 (len C.events),Iv 22 w.1] [Xb 3 G,Xb 6 (⟨w.2.1.p,w.2.1.q,Sl.nil,Sl.nil⟩:bL),(7,.box [iv w.2.2.p,iv w.2.2.q,.own 4142,.v .bJ]),Lb 4142 w.2.2.sent])) (λz=>(0,(bN [Iv 1 p1,Iv 2 B,Pv 3,Pv 6,Pv 7] [Xb 3 G,Xb 6 (⟨z.1.p,z.1.q,Sl.nil,Sl.nil⟩:bL),(7,.box [iv z.2.p,iv z.2.q,.own 4142,.v .bJ]),Lb 4142 z.2.sent]))) (λw=>bE 8 23 (ck 8 λI _=>jB 3 9 0 I (b_ 8 5 [9,30] 35 (bE 8 30 (bD 5) (bD 5)) λL=>bE 2 35 (oS 7 4142 40 41 λO _=>bh) bh)) bh) (λz=>ck 8 λD _=>bW 2 D.events (iE 7 (λt=>(bN [Iv 1 p1,Pv 6,Pv 7,Cv 49 D.events,Iv 50 (len D.events),Iv 51 t.1] [Xb 6 (⟨t.2.1.p,t.2.1.q,Sl.nil,Sl.nil⟩:bL),(7,.box [iv t.2.2.p,iv t.2.2.q,.own 4142,.own 4143]),Lb 4142 t.2.2.sent,Lb 4143 t.2.2.received])) (λu=>(2,(bN [Pv 6,Pv 7] [Xb 6 (⟨u.1.p,u.1.q,Sl.nil,Sl.nil⟩:bL),(7,.box [iv u.2.p,iv u.2.q,.own 4142,.own 4143]),Lb 4142 u.2.sent,Lb 4143 u.2.received]))) (λt=>bE 9 52 (ck 8 λJ _=>jB 3 11 0 J (b_ 8 5 [11,59] 64 (bE 8 59 (bD 5) (bD 5)) λQ=>bE 2 64 (oS 7 4143 69 70 λS _=>bh) bh)) bh) (λu=>jB 7 6 0 u.2 bh))))))))
def eX(B:Zg)(D:Zj):a_ Zl:=some (!((len B)==(len D.procs)))
instance Qe(B:Zg)(D:Zj):Fc Sy cL (eX B D):=Fc.M 81 [enc B,.fptr (cells D)] (bW 8 B (bW 2 D.procs bh))
namespace fM
def bt(D:Zb)(G:Int)(B:Int)(p1:(Zg)->a_ Zl):a_ (Fw Int Unit Int):=bq (decide (B<G)) ((idx D B).bind λt=>(p1 t).bind λu=>bq u (some (.r B)) (some (.n (wrap .i64 (B+1))))) (some (.x ()))
def W1(B:Zb)(D G:Int)(p1:(Zg)->a_ Zl):Z6:=(bT (λq:Int=>bt B D q p1) G).bind (Fw.elim (λe=>some (-1)) (λe=>some e))
end fM
def fM(B:Zb)(p1:(Zg)->a_ Zl):Z6:=fM.W1 B (len B) 0 p1
open fM in
abbrev vr(g1:FuncId)(e1:aZ V)(p1:(Sl Int)->a_ Bool)(a:oq Sy cL g1 [] e1 (λz:Sl Int=>[enc z]) (λr:Bool=>[.bool r]) p1 true)(B:Sl (Sl Int)):Fc Sy cL (fM B p1):=Fc.M 113 [enc B,.clo g1 [] e1] (bW 9 B (dR 5 (λu=>(bN [Cv 0 B,(1,.v (.clo g1 [] e1)),Iv 7 (len B),Iv 8 u] [])) (λt=>(0,(bN [] []))) (λt=>(bN [Iv 4 t] [])) (λu=>bE 7 9 (ck 16 λw _=>xk 1 a.f w λC _=>bE 2 16 bh bh) bh) (λt=>bh) (λt=>bh)))
def jv(B:Zb)(p1:(Zg)->a_ Zl):a_ Zl:=(fM B p1).bind λt=>some (decide (t>=0))
abbrev tV(g1:FuncId)(e1:aZ V)(p1:(Sl Int)->a_ Bool)(a:oq Sy cL g1 [] e1 (λz:Sl Int=>[enc z]) (λr:Bool=>[.bool r]) p1 true)(B:Sl (Sl Int)):Fc Sy cL (jv B p1):=Fc.M 80 [enc B,.clo g1 [] e1] (bG (F:=vr g1 e1 p1 a B) 9 λt _=>bh)
def o7(B:Zj)(D:Zb):a_ Zl:=(cA B).bind λt=>(bq t ((jv D (λz=>eX z B)).bind λu=>some (!u)) (some false):a_ Zl).bind λw=>some w
instance Tk(B:Zj)(D:Zb):Fc Sy cL (o7 B D):=Fc.M 53 [enc B,enc D] (dc 2 2 B (bG 6 λt _=>b_ 1 5 [1,2,7] 12 (bE 1 7 (gf (F:=tV 81 [.fptr (cells B)] (λz=>eX z B) oq.uX D) 2 λu _=>bD 2) (bD 5)) λw=>bh))
namespace iQ
def bt(G:Zg)(J:Int)(D:Zj)(B:Int):a_ (Fw Int Unit Unit):=bq (decide (B<J)) ((idx G B).bind λt=>(bq (decide (t<0)) (some true) ((idx D.procs B).bind λu=>some (decide (t>(len u.events)))):a_ Zl).bind λw=>bq w (some (.r ())) (some (.n (wrap .i64 (B+1))))) (some (.x ()))
def W1(D:Zg)(G J:Int)(B:Zj):a_ Zl:=(bT (λq:Int=>bt D G B q) J).bind (Fw.elim (λe=>some true) (λe=>some false))
end iQ
def iQ(D:Zj)(B:Zg):a_ Zl:=iQ.W1 B (len B) 0 D
open iQ in
instance Ri(D:Zj)(B:Zg):Fc Sy cL (iQ D B):=Fc.M 54 [enc D,enc B] (dc 2 2 D (bW 7 B (dR 5 (λu=>(bN [Pv 2,Cv 7 B,Iv 8 (len B),Iv 9 u] [Xb 2 D])) (λt=>(0,(bN [] []))) (λt=>(bN [Bv 4 false] [])) (λu=>bE 7 10 (ck 8 λz _=>b_ 10 10 [5,6,16] 26 (bE 10 16 (bD 10) (ck 4 λw _=>bW 2 w.events (bD 2))) λC=>bE 2 26 bh bh) bh) (λt=>bh) (λt=>bh))))
def lF(B:Zg):a_ Zg:=(Sl.isNil B).bind λt=>bq t (some Sl.nil) ((ny (Sl.row []:Zg) B).bind λu=>some u)
theorem qU:Fq Sy cL 83 (λB:Zg=>[enc B]) (λz=>lF z):=Fq.mk' (rZ (Tx 83)) (λB=>U0 9 λt _=>bE 2 4 bh (yI 7 5 7 λu _=>bh))
namespace gH
def qN(D:Zj)(B G:Int)(J:bf)(O:Zl)(x:bf×Zn):a_ (Fw Unit Empty bf):=(bq (x.2.kind==B) (some (x.2.message==G)) (some false):a_ Zl).bind λt=>bq t (some (.r x.1)) (some (.n ()))
def E1(B:Zj)(D G:Int)(J:bf)(O:Zl):a_ (bf×Zl):=(iS B).bind λt=>(nv (λ(x:bf×Zn)(q:Unit)=>qN B D G J O x) t ()).bind (Fw.vI (λq=>some (⟨0,0⟩,false)) (λe=>elim e) (λe=>some (e,true)))
end gH
def gH(D:Zj)(B G:Int):a_ (bf×Zl):=(cA D).bind λt=>bq t ((iU D).bind λu=>gH.E1 u B G (⟨0,0⟩:bf) false) (some (⟨0,0⟩,false))
open gH in
instance Sx(G:Zj)(B D:Int):Fc Sy cL (gH G B D):=Fc.M 57 [enc G,.int .i64 B,.int .i64 D] (dc 2 3 G (bG 10 λJ _=>dU 3 12 (bG 7 λu _=>KM λC w=>E9 4 [Pv 4,Pv 5,Pv 6,Pv 7,(15,.v (.clo 107 [] [.fptr (cells u)]))] (λz=>[(4,.box [iv B]),(5,.box [iv D]),Xb 6 (⟨0,0⟩:bf),(7,.box [bv false])]) (λt=>elim t) (λt=>[(4,.box [iv B]),(5,.box [iv D]),Xb 6 t,(7,.box [bv true])]) (xU u C w) (λI z=>jB 8 9 0 I.2 (BZ 1 (b_ 9 5 [9,22] 27 (bE 9 22 (bD 5) (bD 5)) λL=>bE 2 27 bh bh))) (λz=>bh) (λx=>elim x) (λt=>bh)) bh))
def oO(B:Zj)(m1:Int):a_ (bf×Zl):=(gH B 2 m1).bind λt=>some (t.1,t.2)
instance Qp(B:Zj)(m1:Int):Fc Sy cL (oO B m1):=Fc.M 95 [enc B,.int .i64 m1] (dc 2 2 B (bG 8 λt _=>bh))
namespace fZ
def cn(W:Zg)(p7:Int)(Y:Zg)(a b:Int)(J:Sl Zn)(O:Int)(U:Zj)(G D:bf)(B:Int):a_ (Fw Int Unit (bf×bf)):=bq (decide (B<O)) ((idx J B).bind λu=>bq (u.kind==3) ((oO U u.message).bind λt=>(idx W t.1.proc).bind λw=>bq (decide (t.1.index>w)) (some (.r (t.1,(⟨p7,wrap .i64 (B+1)⟩:bf)))) (some (.n (wrap .i64 (B+1))))) (some (.n (wrap .i64 (B+1))))) (some (.x ()))
def W2(a:Zg)(p7:Int)(J:Zg)(O G:Int)(U:Sl Zn)(W Y:Int)(b:Zj)(D B:bf):a_ (Fw Int Unit (bf×bf)):=(bT (λq:Int=>cn a p7 J O G U W b D B q) Y).bind (Fw.elim (λe=>some (.n (wrap .i64 (G+1)))) (λe=>some (.r (e.1,e.2))))
def bt(W J:Zg)(O:Int)(U:Zj)(G B:bf)(D:Int):a_ (Fw Int Unit (bf×bf)):=bq (decide (D<O)) ((idx J D).bind λu=>(idx U.procs D).bind λw=>(fQ w.events none (some u)).bind λt=>W2 W D J O D t (len t) 0 U G B) (some (.x ()))
def W1(W G:Zg)(J O:Int)(U:Zj)(D B:bf):a_ (bf×bf×Zl):=(bT (λq:Int=>bt W G J U D B q) O).bind (Fw.elim (λe=>some (⟨0,0⟩,⟨0,0⟩,false)) (λe=>some (e.1,e.2,true)))
end fZ
def fZ(D:Zj)(B:Zg):a_ (bf×bf×Zl):=fZ.W1 B B (len B) 0 D (⟨0,0⟩:bf) (⟨0,0⟩:bf)
open fZ in
instance Ro(D:Zj)(B:Zg):Fc Sy cL (fZ D B):=Fc.M 82 [enc D,enc B] (dc 2 2 D (bW 9 B (dR 5 (λt=>(bN [Cv 1 B,Pv 2,Pv 4,Pv 5,Cv 13 B,Iv 14 (len B),Iv 15 t] [Xb 2 D,Xb 4 (⟨0,0⟩:bf),Xb 5 (⟨0,0⟩:bf)])) (λu=>(0,(bN [Pv 4,Pv 5] [Xb 4 (⟨0,0⟩:bf),Xb 5 (⟨0,0⟩:bf)]))) (λu=>(bN [Pv 4,Pv 5,Bv 6 true] [Xb 4 u.1,Xb 5 u.2])) (λt=>bE 7 16 (ck 8 λG _=>ck 10 λJ _=>Bg 3 false true [.int .i64 G] λz _=>bW 0 z (dR 5 (λC=>(bN [Cv 1 B,Pv 2,Pv 4,Pv 5,Iv 7 t,Cv 13 B,Iv 14 (len B),Iv 15 t,Cv 27 z,Iv 28 (len z),Iv 29 C] [Xb 2 D,Xb 4 (⟨0,0⟩:bf),Xb 5 (⟨0,0⟩:bf)])) (λw=>(2,(bN [Cv 1 B,Pv 2,Pv 4,Pv 5,Cv 13 B,Iv 14 (len B),Iv 15 t] [Xb 2 D,Xb 4 (⟨0,0⟩:bf),Xb 5 (⟨0,0⟩:bf)]))) (λw=>(bN [Pv 4,Pv 5,Bv 6 true] [Xb 4 w.1,Xb 5 w.2])) (λC=>bE 7 30 (ck 8 λI _=>jB 3 10 0 I (dU 10 36 (bG 8 λL _=>ck 15 λO _=>bE 4 51 bh bh) bh)) bh) (λw=>bh) (λw=>bh))) bh) (λu=>bh) (λu=>bh))))
namespace eW
def bt(D:Zj)(B:Zg)(p2:Zg->(bf×bf)->a_ Zg):a_ (Fw Zg Empty Zg):=(fZ D B).bind λt=>bq t.2.2 ((p2 B (t.1,t.2.1)).bind λu=>some (.n u)) (some (.r B))
def W1(B:Zg)(D:Zj)(p2:Zg->(bf×bf)->a_ Zg):a_ ((Zg)×Int):=(bT (λq:Zg=>bt D q p2) B).bind (Fw.elim (λe=>elim e) (λe=>some (e,0)))
end eW
def eW(D:Zj)(B:Zg)(p2:Zg->(bf×bf)->a_ Zg):a_ ((Zg)×Int):=(o7 D (Sl.row [B]:Zb)).bind λt=>bq t ((iQ D B).bind λu=>bq u (((lF B).bind Sl.whole).bind λw=>eW.W1 w D p2) (some ((Sl.nil:Zg),2))) (some ((Sl.nil:Zg),1))
open eW in
abbrev wL(g2:FuncId)(e2:aZ V)(p2:Sl Int->(bf×bf)->a_ (Sl Int))(G:Ir Sy g2 e2 (λz:bf×bf=>[enc z.1,enc z.2]) p2)(D:Trace)(B:Sl Int):BA Sy cL (eW D B p2):=BA.mk' 59 [enc D,enc B,.clo g2 [] e2] (dc 2 3 D (yh 10 15 ([B]:aZ (Sl Int)) (gf 0 λC _=>dU 4 12 (bG 5 λI _=>dU 4 18 (RM 7 24 qU B λJ _=>RQ 6 (λt=>(bN [(2,.v (.clo g2 [] e2)),Pv 3,Ov 8] [Xb 3 D,Lb 2008 t])) (λu=>(bN [Ov 6,Iv 7 0] [Lb 2006 u])) (λt=>gf 7 λw _=>dU 18 33 (S8 8 2008 G (w.1,w.2.1) λL _=>bh) bh) (λu=>bh)) bh) bh)))
def vh(D:Zj)(B:Zg):a_ ((Zg)×Int):=((eW D B (λs(z:bf×bf)=>s.setAt z.2.proc (wrap .i64 (z.2.index-1)))).bind mU).bind λt=>some (t.1,t.2)
abbrev KA(D:Trace)(B:Sl Int):BA Sy cL (vh D B):=BA.mk' 47 [enc D,enc B] (dc 2 2 D (E7 (wL 69 [] (λs(z:bf×bf)=>s.setAt z.2.proc (wrap .i64 (z.2.index-1))) (Ir.sy (op:=true) SQ Zf Zf) D B) 8 8 λt _=>bh))
def kF(B:Int):a_ Zl:=some (!(B==B))
instance Pd(B:Int):Fc Sy cL (kF B):=Fc.M 119 [.int .i64 B] (bh)
def rB(B D:Int):a_ Zl:=(kF B).bind λt=>(bq t ((kF D).bind λu=>some (!u)) (some false):a_ Zl).bind λw=>(bq w (some true) (some (decide (B<D))):a_ Zl).bind λz=>some z
instance Qf(B D:Int):Fc Sy cL (rB B D):=Fc.M 93 [.int .i64 B,.int .i64 D] (bG 8 λt _=>b_ 1 4 [7] 11 (bE 1 7 (bG 1 λu _=>bD 2) (bD 4)) λw=>b_ 1 4 [0,1,12] 16 (bE 1 12 (bD 4) (bD 4)) λz=>bh)
def nj(B:Int):a_ Zl:=some (!(B==B))
instance K7(B:Int):Fc Sy cL (nj B):=Fc.M 94 [.int .i64 B] (bh)
namespace dL
def bt(J:Zg)(B O:Int)(D G:Int):a_ (Fw (Int×Int) Int Empty):=bq (decide (D<G)) ((zu .u64 (wrap .u64 (wrap .i64 (D+G))) 1).bind λt=>(idx J (wrap .i64 t)).bind λu=>(rB u B).bind λw=>bq w (some (.n (wrap .i64 ((wrap .i64 t)+1),G))) (some (.n (D,wrap .i64 t)))) (some (.x D))
def W1(D:Zg)(B J O U:Int):a_ (Int×Zl):=(bT (λq:Int×Int=>bt D B J q.1 q.2) (O,U)).bind (Fw.elim (λe=>(bq (decide (e<J)) ((idx D e).bind λu=>(bq (u==B) (some true) ((idx D e).bind λw=>(nj w).bind λz=>(bq z ((nj B).bind λC=>some C) (some false):a_ Zl).bind λG=>some G):a_ Zl).bind λI=>some I) (some false):a_ Zl).bind λt=>some (e,t)) (λe=>elim e))
end dL
def dL(D:Zg)(B:Int):a_ (Int×Zl):=dL.W1 D B (len D) 0 (len D)
open dL in
instance EW(D:Zg)(B:Int):Fc Sy cL (dL D B):=Fc.M 70 [enc D,.int .i64 B] (bW 9 D (iE 13 (λt=>(bN [Cv 0 D,Iv 1 B,Iv 6 (len D),Iv 7 t.1,Iv 8 t.2] [])) (λu=>(0,(bN [Cv 0 D,Iv 1 B,Iv 6 (len D),Iv 7 u] []))) (λt=>bE 9 15 (UG 10 .u64 λz _=>ck 8 λC _=>bG 2 λG _=>bE 2 27 bh bh) bh) (λu=>b_ 9 18 [0,1,7,35] 53 (bE 9 35 (ck 2 λI _=>b_ 4 10 [0,1,7,42] 52 (bE 4 42 (bD 10) (ck 2 λJ _=>bG 1 λL _=>b_ 1 3 [1,48] 51 (bE 1 48 (bG 1 λO _=>bD 1) (bD 3)) λQ=>bD 1)) λS=>bD 1) (bD 18)) λw=>bh)))
def lM(D:Zg)(B:Int):Z6:=(dL D B).bind λt=>bq t.2 (some (wrap .i64 (t.1+1))) (some t.1)
instance Qd(D:Zg)(B:Int):Fc Sy cL (lM D B):=Fc.M 48 [enc D,.int .i64 B] (bG 9 λt _=>bE 13 13 bh bh)
def lK(B:bL)(D:Zg):Z6:=(idx D B.p).bind λt=>(lM B.sent t).bind λu=>(idx D B.q).bind λw=>(lM B.received w).bind λz=>some (wrap .i64 (u-z))
instance Lo(B:bL)(D:Zg):Fc Sy cL (lK B D):=Fc.M 40 [enc B,enc D] (dc 2 2 B (ck 10 λt _=>gf 1 λu _=>ck 5 λw _=>gf 1 λz _=>bh))
namespace eN
def bt(O:Int)(D:bL)(G:Zj)(U:Zg)(B:Zl):a_ (Fw ((Zg)×Zl) Zg Empty):=bq B (((vh G U).bind mU).bind λt=>(lK D t.1).bind λu=>bq (decide (u>O)) ((Sl.lY t.1 D.q).bind λw=>(Sl.get t.1 w).bind λz=>(lM D.received z).bind λC=>(idx D.sent (wrap .i64 (C+O))).bind λI=>(Sl.lY t.1 D.p).bind λJ=>(Sl.put t.1 J (wrap .i64 (I-1):Int)).bind λL=>some (.n (L,true))) (some (.n (t.1,false)))) (some (.x U))
def W1(J:Zg)(O:Int)(B:Zl)(D:bL)(G:Zj):a_ Zg:=(bT (λq:(Zg)×Zl=>bt O D G q.1 q.2) (J,B)).bind (Fw.elim (λe=>some e) (λe=>elim e))
end eN
def eN(B:bL)(t1:Zj)(D:Zg)(G:Int):a_ Zg:=eN.W1 D G true B t1
open eN in
instance KR(B:bL)(t1:Zj)(G:Zg)(D:Int):Fc Sy cL (eN B t1 G D):=Fc.N 21 [enc B,enc t1,enc G,.int .i64 D] (dc 2 4 B (dc 0 5 t1 (iE 12 (λt=>(bN [Cv 2 t.1,Iv 3 D,Pv 4,Pv 5,Bv 9 t.2] [Xb 4 B,Xb 5 t1])) (λu=>(0,(bN [Cv 2 u] []))) (λt=>bE 8 10 (E7 (KA t1 t.1) 13 14 λC _=>gf 10 λI _=>bE 4 21 (mJ .i64 13 14 λJ _=>uS 0 14 0 1 false (λw=>.int .i64 w) λw _=>gf 0 λL _=>ck 2 λz _=>mJ .i64 2 14 λO _=>yU 0 14 (.int .i64 (wrap .i64 (z-1))) λQ _=>bh) bh) bh) (λu=>bh))))
def tv(D:Zj)(B:Zg):a_ ((Zg)×Int):=((eW D B (λs(z:bf×bf)=>s.setAt z.1.proc z.1.index)).bind mU).bind λt=>some (t.1,t.2)
abbrev HV(D:Trace)(B:Sl Int):BA Sy cL (tv D B):=BA.mk' 39 [enc D,enc B] (dc 2 2 D (E7 (wL 60 [] (λs(z:bf×bf)=>s.setAt z.1.proc z.1.index) (Ir.sy (op:=false) Sv Zf Zf) D B) 8 8 λt _=>bh))
namespace e9
def bt(G:Int)(D:bL)(J:Zj)(U:Zg)(B:Zl):a_ (Fw ((Zg)×Zl) Zg Unit):=bq B (((tv J U).bind mU).bind λt=>(lK D t.1).bind λw=>bq (decide (w>G)) ((Sl.lY t.1 D.p).bind λz=>(Sl.get t.1 z).bind λC=>(lM D.sent C).bind λu=>bq (decide ((wrap .i64 (u-G))>(len D.received))) (some (.r ())) ((idx D.received (wrap .i64 ((wrap .i64 (u-G))-1))).bind λI=>(Sl.lY t.1 D.q).bind λL=>(Sl.put t.1 L (I:Int)).bind λO=>some (.n (O,true)))) (some (.n (t.1,false)))) (some (.x U))
def W1(J:Zg)(O:Int)(B:Zl)(D:bL)(G:Zj):a_ ((Zg)×Zl):=(bT (λq:(Zg)×Zl=>bt O D G q.1 q.2) (J,B)).bind (Fw.elim (λe=>some (e,true)) (λe=>some (Sl.nil,false)))
end e9
def e9(B:bL)(t1:Zj)(D:Zg)(G:Int):a_ ((Zg)×Zl):=e9.W1 D G true B t1
open e9 in
instance KN(B:bL)(t1:Zj)(G:Zg)(D:Int):Fc Sy cL (e9 B t1 G D):=Fc.N 22 [enc B,enc t1,enc G,.int .i64 D] (dc 2 4 B (dc 0 5 t1 (dR 13 (λt=>(bN [Cv 2 t.1,Iv 3 D,Pv 4,Pv 5,Bv 10 t.2] [Xb 4 B,Xb 5 t1])) (λu=>(0,(bN [Cv 2 u] []))) (λu=>(bN [(8,.v .bJ),Bv 9 false] [])) (λt=>bE 8 12 (E7 (HV t1 t.1) 13 16 λC _=>gf 10 λI _=>bE 4 23 (mJ .i64 8 16 λJ _=>uS 0 16 0 1 false (λw=>.int .i64 w) λw _=>gf 0 λL _=>bW 11 B.received (bE 3 38 bh (ck 12 λz _=>mJ .i64 1 16 λO _=>yU 0 16 (.int .i64 z) λQ _=>bh))) bh) bh) (λu=>bh) (λu=>bh))))
namespace dz
def eH(Y a:Int)(b:Sl cq)(c d W:Int)(J:Zj)(O:bL)(B:Zb)(D:Int)(U G:Slice):a_ (Fw ((Zb)×Int×Slice×Slice) ((Zb)×Slice×Slice) Empty):=bq (decide (D<W)) ((nG (len J.procs) (0:Int)).bind λt=>(Sl.lY t a).bind λu=>(Sl.put t u (wrap .i64 (D+1):Int)).bind λw=>(e9 O J w Y).bind λz=>(Sl.lY B D).bind λC=>(Sl.put B C (z.1:Zg)).bind λI=>some (.n (I,wrap .i64 (D+1),(⟨U.empty,Sl.nil,Sl.nil,Sl.nil⟩:Slice),G))) (some (.x (B,(⟨U.empty,Sl.nil,Sl.nil,Sl.nil⟩:Slice),G)))
def W3(b a:Int)(B:Zb)(O:Sl cq)(U D W Y:Int)(c:Zj)(d:Slice)(G:bL)(J:Slice):a_ (Fw (Int×Slice×Slice) (Slice×Slice) Empty):=(bT (λq:(Zb)×Int×Slice×Slice=>eH b a O U D W c G q.1 q.2.1 q.2.2.1 q.2.2.2) (B,Y,d,J)).bind (Fw.elim (λe=>(gZ e.2.2.j (e.1:Zb)).bind λt=>some (.n (wrap .i64 (D+1),(⟨e.2.1.empty,Sl.nil,Sl.nil,Sl.nil⟩:Slice),(⟨e.2.2.empty,e.2.2.first,e.2.2.last,t⟩:Slice)))) (λe=>elim e))
def cn(Y:Int)(G:Sl cq)(J:Int)(W:Zj)(O:bL)(B:Int)(U D:Slice):a_ (Fw (Int×Slice×Slice) (Slice×Slice) Empty):=bq (decide (B<J)) ((idx G B).bind λu=>(nG (len u.events) (Sl.nil:Zg)).bind λt=>W3 Y B t G J B (len t) 0 W (⟨U.empty,Sl.nil,Sl.nil,Sl.nil⟩:Slice) O D) (some (.x ((⟨U.empty,Sl.nil,Sl.nil,Sl.nil⟩:Slice),D)))
def W2(Y:Int)(G:Sl cq)(J O:Int)(U:Zj)(W:Slice)(B:bL)(D:Slice):a_ (Slice×Int):=(bT (λq:Int×Slice×Slice=>cn Y G J U B q.1 q.2.1 q.2.2) (O,W,D)).bind (Fw.elim (λe=>some (e.2,0)) (λe=>elim e))
def bt(a:Int)(O:Sl cq)(U:Int)(Y:Zj)(W:bL)(B:Zg)(G:Int)(J D:Slice):a_ (Fw ((Zg)×Int×Slice×Slice) ((Zg)×Slice×Slice) Empty):=bq (decide (G<U)) ((idx O G).bind λt=>(Sl.lY B G).bind λu=>(Sl.put B u (len t.events:Int)).bind λw=>some (.n (w,wrap .i64 (G+1),(⟨J.empty,Sl.nil,Sl.nil,Sl.nil⟩:Slice),(⟨D.empty,D.first,Sl.nil,Sl.nil⟩:Slice)))) (some (.x (B,(⟨J.empty,Sl.nil,Sl.nil,Sl.nil⟩:Slice),(⟨D.empty,D.first,Sl.nil,Sl.nil⟩:Slice))))
def W1(O:Int)(G:Zg)(U:Sl cq)(W Y:Int)(B:Zj)(a:Slice)(D:bL)(J:Slice):a_ (Slice×Int):=(bT (λq:(Zg)×Int×Slice×Slice=>bt O U W B D q.1 q.2.1 q.2.2.1 q.2.2.2) (G,Y,a,J)).bind (Fw.elim (λe=>(eN D B e.1 O).bind λt=>dz.W2 O B.procs (len B.procs) 0 B (⟨e.2.1.empty,Sl.nil,Sl.nil,Sl.nil⟩:Slice) D (⟨e.2.2.empty,e.2.2.first,t,Sl.nil⟩:Slice)) (λe=>elim e))
end dz
def dz(B:Zj)(p1 G D:Int):a_ (Slice×Int):=(qp B p1 G).bind λt=>bq (t==0) ((bq (decide (D<0)) (some true) (some (decide (D>200))):a_ Zl).bind λu=>bq u (some (⟨false,Sl.nil,Sl.nil,Sl.nil⟩,2)) ((fT B p1 G).bind λw=>(nG (len B.procs) (0:Int)).bind λz=>(nG (len B.procs) (0:Int)).bind λC=>dz.W1 D C B.procs (len B.procs) 0 B (⟨false,Sl.nil,Sl.nil,Sl.nil⟩:Slice) w (⟨false,z,Sl.nil,Sl.nil⟩:Slice))) (some (⟨false,Sl.nil,Sl.nil,Sl.nil⟩,t))
open dz in
instance NX(B:Zj)(p1 U J:Int):Fc Sy cL (dz B p1 U J):=Fc.N 6 [enc B,.int .i64 p1,.int .i64 U,.int .i64 J] (dc 2 4 B (bG 10 λa _=>dU 9 26 (b_ 9 3 [31] 34 (bE 9 31 (bD 3) (bD 3)) λb=>bE 2 34 (Jt 3 (⟨false,Sl.nil,Sl.nil,Sl.nil⟩:Slice) [] [.bool false,.bJ,.bJ,.bJ] [] (by simp only[ug,vU,jg,B5,Ab,Ch,BG];rfl) rfl (jB 0 8 0 (⟨false,Sl.nil,Sl.nil,Sl.nil⟩:Slice) bh)) (bG 8 λC _=>jB 1 11 0 C (bW 6 B.procs (FG 0 43 λL _=>Jt 1 (⟨false,L,Sl.nil,Sl.nil⟩:Slice) [enc L] [.bool false,.bJ,.bJ,.bJ] [(1,1)] (by simp only[ug,vU,jg,B5,Ab,Ch,BG];rfl) rfl (jB 1 12 0 (⟨false,L,Sl.nil,Sl.nil⟩:Slice) (bW 6 B.procs (FG 0 48 λc _=>bW 8 B.procs (iE 6 (λD=>(bN [Iv 3 J,Pv 4,Pv 8,Pv 11,Pv 12,Ov 13,Cv 50 B.procs,Iv 51 (len B.procs),Iv 52 D.2.1] [Xb 4 B,Xb 8 (⟨D.2.2.1.empty,Sl.nil,Sl.nil,Sl.nil⟩:Slice),Xb 11 C,Xb 12 (⟨D.2.2.2.empty,D.2.2.2.first,Sl.nil,Sl.nil⟩:Slice),Lb 2013 D.1])) (λG=>(0,(bN [Iv 3 J,Pv 4,Pv 8,Pv 11,Pv 12,Ov 13] [Xb 4 B,Xb 8 (⟨G.2.1.empty,Sl.nil,Sl.nil,Sl.nil⟩:Slice),Xb 11 C,Xb 12 (⟨G.2.2.empty,G.2.2.first,Sl.nil,Sl.nil⟩:Slice),Lb 2013 G.1]))) (λD=>bE 8 53 (ck 8 λO _=>jB 3 15 0 O (bW 7 O.events (mJ .i64 0 2013 λd _=>yU 0 2013 (.int .i64 (len O.events)) λe _=>bh))) bh) (λG=>bG 9 λQ _=>jB 1 12 2 Q (bW 7 B.procs (iE 6 (λt=>(bN [Iv 3 J,Pv 4,Pv 8,Pv 11,Pv 12,Cv 71 B.procs,Iv 72 (len B.procs),Iv 73 t.1] [Xb 4 B,Xb 8 (⟨t.2.1.empty,Sl.nil,Sl.nil,Sl.nil⟩:Slice),Xb 11 C,(12,.box [bv t.2.2.empty,cv t.2.2.first,cv t.2.2.last,.own 4243]),Lb 4243 t.2.2.j])) (λz=>(2,(bN [Pv 8,Pv 12] [Xb 8 (⟨z.1.empty,Sl.nil,Sl.nil,Sl.nil⟩:Slice),(12,.box [bv z.2.empty,cv z.2.first,cv z.2.last,.own 4243]),Lb 4243 z.2.j]))) (λt=>bE 8 74 (ck 8 λS _=>jB 3 17 0 S (bW 6 S.events (FG 0 81 λI _=>Cu 7 81 I (iE 7 (λu=>(bN [Iv 3 J,Pv 4,Pv 8,Pv 11,Pv 12,Iv 16 t.1,Ov 18,Cv 71 B.procs,Iv 72 (len B.procs),Iv 73 t.1,Iv 83 (len I),Iv 84 u.2.1] [Xb 4 B,Xb 8 (⟨u.2.2.1.empty,Sl.nil,Sl.nil,Sl.nil⟩:Slice),Xb 11 C,(12,.box [bv u.2.2.2.empty,cv u.2.2.2.first,cv u.2.2.2.last,.own 4243]),Lb 2018 u.1,Lb 4243 u.2.2.2.j])) (λw=>(4,(bN [Iv 3 J,Pv 4,Pv 8,Pv 11,Pv 12,Ov 18,Cv 71 B.procs,Iv 72 (len B.procs),Iv 73 t.1] [Xb 4 B,Xb 8 (⟨w.2.1.empty,Sl.nil,Sl.nil,Sl.nil⟩:Slice),Xb 11 C,(12,.box [bv w.2.2.empty,cv w.2.2.first,cv w.2.2.last,.own 4243]),Lb 2018 w.1,Lb 4243 w.2.2.j]))) (λu=>bE 9 85 (bW 15 B.procs (FG 0 90 λT _=>mJ .i64 9 90 λW _=>yU 0 90 (.int .i64 (wrap .i64 (u.2.1+1))) λX _=>bG 10 λY _=>mJ .i64 3 2018 λZ _=>Tu 0 2018 λf _=>bh)) bh) (λw=>yh 7 111 ([w.1]:aZ Zb) (oS 0 4243 111 112 λg _=>bh)))))) bh) (λz=>jB 6 8 0 z.2 bh)))))))))))) (Jt 3 (⟨false,Sl.nil,Sl.nil,Sl.nil⟩:Slice) [] [.bool false,.bJ,.bJ,.bJ] [] (by simp only[ug,vU,jg,B5,Ab,Ch,BG];rfl) rfl (jB 1 8 0 (⟨false,Sl.nil,Sl.nil,Sl.nil⟩:Slice) bh))))
namespace jJ
def J3(B:Sl bf)(U:Sl cq)(W Y:Int)(a:Sl Zn)(b G:Int)(J:Zj)(c O:cm)(d:cq)(D:bf):a_ (Fw ((Sl bf)×Int×Zj×cm×cm) ((Sl bf)×Zj×cm) Empty):=(gZ B (D:bf)).bind λt=>some (.n (t,wrap .i64 (G+1),J,(⟨Sl.nil,Sl.nil⟩:cm),O))
def cn(W:Sl cq)(Y a:Int)(J:Sl Zn)(O:Int)(b:cq)(B:Sl bf)(D:Int)(G:Zj)(c U:cm):a_ (Fw ((Sl bf)×Int×Zj×cm×cm) ((Sl bf)×Zj×cm) Empty):=bq (decide (D<O)) ((idx J D).bind λt=>bq (t.kind==3) ((oO G t.message).bind λu=>J3 B W Y a J O D G (⟨Sl.nil,Sl.nil⟩:cm) U b u.1) (J3 B W Y a J O D G (⟨Sl.nil,Sl.nil⟩:cm) U b (⟨0,0⟩:bf))) (some (.x (B,G,U)))
def W2(B:Sl bf)(J:Sl cq)(O D:Int)(U:Sl Zn)(W Y:Int)(a:Zj)(b c:cm)(G:cq):a_ (Fw (Int×Zj×cm×cm) cm Empty):=(bT (λq:(Sl bf)×Int×Zj×cm×cm=>cn J O D U W G q.1 q.2.1 q.2.2.1 q.2.2.2.1 q.2.2.2.2) (B,Y,a,b,c)).bind (Fw.elim (λe=>(gZ e.2.2.lengths (len G.events:Int)).bind λt=>(gZ e.2.2.need (e.1:Sl bf)).bind λu=>some (.n (wrap .i64 (D+1),e.2.1,(⟨Sl.nil,Sl.nil⟩:cm),(⟨t,u⟩:cm)))) (λe=>elim e))
def bt(D:Sl cq)(G:Int)(B:Int)(O:Zj)(U J:cm):a_ (Fw (Int×Zj×cm×cm) cm Empty):=bq (decide (B<G)) ((idx D B).bind λt=>W2 (Sl.nil:Sl bf) D G B t.events (len t.events) 0 O (⟨Sl.nil,Sl.nil⟩:cm) J t) (some (.x J))
def W1(B:Sl cq)(D G:Int)(J:Zj)(O U:cm):a_ cm:=(bT (λq:Int×Zj×cm×cm=>bt B D q.1 q.2.1 q.2.2.1 q.2.2.2) (G,J,O,U)).bind (Fw.elim (λe=>some e) (λe=>elim e))
end jJ
def jJ(B:Zj):a_ cm:=jJ.W1 B.procs (len B.procs) 0 B (⟨Sl.nil,Sl.nil⟩:cm) (⟨Sl.nil,Sl.nil⟩:cm)
open jJ in
instance Uq(B:Zj):Fc Sy cL (jJ B):=Fc.N 71 [enc B] (dc 2 1 B (bW 13 B.procs (iE 7 (λt=>(bN [Pv 1,Pv 2,Pv 3,Cv 11 B.procs,Iv 12 (len B.procs),Iv 13 t.1] [Xb 1 t.2.1,Xb 2 (⟨Sl.nil,Sl.nil⟩:cm),(3,.box [.own 4060,.own 4061]),Lb 4060 t.2.2.2.lengths,Lb 4061 t.2.2.2.need])) (λC=>(0,(bN [Pv 2,Pv 3] [Xb 2 (⟨Sl.nil,Sl.nil⟩:cm),(3,.box [.own 4060,.own 4061]),Lb 4060 C.lengths,Lb 4061 C.need]))) (λt=>bE 9 14 (ck 7 λu _=>jB 2 5 0 u (bW 12 u.events (iE 8 (λw=>(bN [Pv 1,Pv 2,Pv 3,Pv 5,Ov 6,Cv 11 B.procs,Iv 12 (len B.procs),Iv 13 t.1,Cv 18 u.events,Iv 19 (len u.events),Iv 20 w.2.1] [Xb 1 w.2.2.1,Xb 2 (⟨Sl.nil,Sl.nil⟩:cm),(3,.box [.own 4060,.own 4061]),Xb 5 u,Lb 2006 w.1,Lb 4060 w.2.2.2.2.lengths,Lb 4061 w.2.2.2.2.need])) (λz=>(2,(bN [Pv 1,Pv 2,Pv 3,Pv 5,Ov 6,Cv 11 B.procs,Iv 12 (len B.procs),Iv 13 t.1] [Xb 1 z.2.1,Xb 2 (⟨Sl.nil,Sl.nil⟩:cm),(3,.box [.own 4060,.own 4061]),Xb 5 u,Lb 2006 z.1,Lb 4060 z.2.2.lengths,Lb 4061 z.2.2.need]))) (λw=>bE 10 21 (ck 7 λD _=>jB 2 8 0 D (bE 15 26 (bG 5 λI _=>yz 10 (oS 4 2006 36 37 λG _=>bh)) (yz 7 (oS 4 2006 36 37 λG _=>bh)))) bh) (λz=>bW 8 u.events (oS 1 4060 44 45 λJ _=>yh 9 50 ([z.1]:aZ (Sl bf)) (oS 0 4061 50 51 λL _=>bh)))))) bh) (λC=>jB 7 2 0 C bh))))
def nk(G:cm)(B:Zg)(p2:Int):a_ Zl:=(idx B p2).bind λu=>(idx G.lengths p2).bind λw=>bq (u==w) (some false) ((idx G.need p2).bind λz=>(idx B p2).bind λC=>(idx z C).bind λt=>(idx B t.proc).bind λD=>some (decide (t.index<=D)))
instance LH(B:cm)(D:Zg)(p2:Int):Fc Sy cL (nk B D p2):=Fc.M 96 [enc B,enc D,.int .i64 p2] (dc 2 3 B (ck 8 λt _=>ck 4 λu _=>bE 4 17 bh (ck 8 λw _=>ck 3 λz _=>ck 1 λC _=>ck 12 λG _=>bh)))
def ou(B D:Int):Z6:=(kF B).bind λu=>(kF D).bind λt=>bq u (bq t (some 0) (some (-1))) (bq t (some 1) (bq (decide (B<D)) (some (-1)) (bq (decide (B>D)) (some 1) (some 0))))
instance MA(B D:Int):Fc Sy cL (ou B D):=Fc.M 122 [.int .i64 B,.int .i64 D] (bG 8 λt _=>bG 6 λu _=>bE 9 11 (bE 7 12 bh bh) (bE 9 13 bh (bE 11 16 bh (bE 11 19 bh bh))))
namespace eR
def bt(J D O:Zg)(G:Int)(B:Int):a_ (Fw Int Unit Int):=bq (decide (B<G)) ((idx O B).bind λu=>bq (decide (B>=(len D))) (some (.r 1)) ((idx D B).bind λw=>(ou u w).bind λt=>bq (t==0) (some (.n (wrap .i64 (B+1)))) (some (.r t)))) (some (.x ()))
def W1(B D O:Zg)(G J:Int):Z6:=(bT (λq:Int=>bt B D O G q) J).bind (Fw.elim (λe=>bq (decide ((len B)<(len D))) (some (-1)) (some 0)) (λe=>some e))
end eR
def eR(B D:Zg):Z6:=eR.W1 B D B (len B) 0
open eR in
instance JG(B D:Zg):Fc Sy cL (eR B D):=Fc.M 99 [enc B,enc D] (bW 9 B (dR 5 (λu=>(bN [Cv 0 B,Cv 1 D,Cv 9 B,Iv 10 (len B),Iv 11 u] [])) (λt=>(0,(bN [Cv 0 B,Cv 1 D] []))) (λt=>(bN [Iv 4 t] [])) (λu=>bE 7 12 (ck 8 λw _=>bW 10 D (bE 3 19 bh (ck 7 λz _=>bG 8 λC _=>dU 9 28 bh bh))) bh) (λt=>bW 6 B (bW 1 D (bE 3 35 bh bh))) (λt=>bh)))
def jk(B D:Zg):Z6:=(eR B D).bind λt=>some t
instance Jj(B D:Zg):Fc Sy cL (jk B D):=Fc.M 98 [enc B,enc D] (bG 9 λt _=>bh)
namespace eA
def bt(D G:Zg)(J:Int)(B:Int):a_ (Fw Int Unit Unit):=bq (decide (B<J)) ((idx D B).bind λt=>(idx G B).bind λu=>bq (t==u) (some (.n (wrap .i64 (B+1)))) (some (.r ()))) (some (.x ()))
def W1(B D:Zg)(G J:Int):a_ Zl:=(bT (λq:Int=>bt B D G q) J).bind (Fw.elim (λe=>some true) (λe=>some false))
end eA
def eA(B D:Zg):a_ Zl:=bq ((len B)==(len D)) (eA.W1 B D (len B) 0) (some false)
open eA in
instance Me(B D:Zg):Fc Sy cL (eA B D):=Fc.M 14 [enc B,enc D] (bW 9 B (bW 1 D (dU 3 10 (bW 7 B (dR 5 (λu=>(bN [Cv 0 B,Cv 1 D,Iv 12 (len B),Iv 13 u] [])) (λt=>(0,(bN [] []))) (λt=>(bN [Bv 4 false] [])) (λu=>bE 7 14 (ck 15 λw _=>ck 3 λz _=>dU 4 24 bh bh) bh) (λt=>bh) (λt=>bh))) bh)))
def kn(B D:Zg):a_ Zl:=(eA B D).bind λt=>some t
instance Jm(B D:Zg):Fc Sy cL (kn B D):=Fc.M 101 [enc B,enc D] (bG 9 λt _=>bh)
namespace ez
def cn(O:Zg)(U:Zb)(W Y G:Int)(J:cm)(D:Zb)(B:Int):a_ (Fw ((Zb)×Int) Zb Empty):=bq (decide (B<G)) ((nk J O B).bind λu=>bq u (((lF O).bind Sl.whole).bind λt=>(Sl.lY t B).bind λw=>(Sl.get t w).bind λz=>(Sl.lY t B).bind λC=>(Sl.put t C (wrap .i64 (z+1):Int)).bind λI=>(gZ D (I:Zg)).bind λL=>some (.n (L,wrap .i64 (B+1)))) (some (.n (D,wrap .i64 (B+1))))) (some (.x D))
def W2(B:Zb)(Y:Zg)(J:Zb)(D G O U:Int)(W:cm):a_ (Fw ((Zb)×Int×Int) Zb Empty):=(bT (λq:(Zb)×Int=>cn Y J D G O W q.1 q.2) (B,U)).bind (Fw.elim (λe=>some (.n (e,D,wrap .i64 (G+1)))) (λe=>elim e))
def bt(G:Zb)(O:cm)(B:Zb)(J D:Int):a_ (Fw ((Zb)×Int×Int) Zb Empty):=bq (decide (D<J)) ((idx G D).bind λt=>W2 B t G J D (len t) 0 O) (some (.x B))
def W1(B D:Zb)(G J:Int)(O:cm):a_ Zb:=(bT (λq:(Zb)×Int×Int=>bt D O q.1 q.2.1 q.2.2) (B,G,J)).bind (Fw.elim (λe=>(xX e jk).bind λu=>(wA u kn).bind λt=>some t) (λe=>elim e))
end ez
def ez(D:cm)(B:Zb):a_ Zb:=ez.W1 (Sl.nil:Zb) B (len B) 0 D
open ez in
instance MB(D:cm)(B:Zb):Fc Sy cL (ez D B):=Fc.N 72 [enc D,enc B] (dc 2 2 D (bW 12 B (iE 6 (λt=>(bN [Pv 2,Ov 5,Cv 10 B,Iv 11 t.2.1,Iv 12 t.2.2] [Xb 2 D,Lb 2005 t.1])) (λG=>(0,(bN [Ov 5] [Lb 2005 G]))) (λt=>bE 8 13 (ck 7 λu _=>bW 7 u (iE 6 (λw=>(bN [Pv 2,Ov 5,Cv 7 u,Cv 10 B,Iv 11 t.2.1,Iv 12 t.2.2,Iv 17 (len u),Iv 18 w.2] [Xb 2 D,Lb 2005 w.1])) (λI=>(2,(bN [Pv 2,Ov 5,Cv 10 B,Iv 11 t.2.1,Iv 12 t.2.2] [Xb 2 D,Lb 2005 I]))) (λw=>bE 8 19 (bG 16 λO _=>bE 2 24 (RM 4 26 qU u λQ _=>mJ .i64 7 26 λS _=>uS 0 26 0 1 false (λC=>.int .i64 C) λC _=>mJ .i64 1 26 λT _=>yU 0 26 (.int .i64 (wrap .i64 (C+1))) λJ _=>yh 6 35 ([J]:aZ Zg) (oS 0 2005 35 36 λU _=>bh)) bh) bh) (λI=>bh))) bh) (λG=>TA 5 2005 Fe Ae RP (kG.uX (λz=>inferInstanceAs (Fc Sy cL (jk z.1 z.2))) default (λ_=>rfl) (λ_=>rfl) (λ_=>rfl) (λ_=>rfl)) λW _=>TM 5 2005 42 Fe Ae Pz (kG.uX (λz=>inferInstanceAs (Fc Sy cL (kn z.1 z.2))) default (λ_=>rfl) (λ_=>rfl) (λ_=>rfl) (λ_=>rfl)) λL _=>bh))))
namespace jr
def bt(J:cm)(B:Zb)(G:Sl Zb)(D:Int):a_ (Fw ((Zb)×(Sl Zb)×Int) (Sl Zb) Unit):=bq (decide ((len B)>0)) (bq (decide ((wrap .i64 (D+(len B)))>5000)) (some (.r ())) ((gZ G (B:Zb)).bind λt=>(ez J B).bind λu=>some (.n (u,t,wrap .i64 (D+(len B)))))) (some (.x G))
def W1(B:Zb)(G:Sl Zb)(D:Int)(J:cm):a_ ((Sl Zb)×Int):=(bT (λq:(Zb)×(Sl Zb)×Int=>bt J q.1 q.2.1 q.2.2) (B,G,D)).bind (Fw.elim (λe=>some (e,0)) (λe=>some ((Sl.nil:Sl Zb),16)))
end jr
def jr(B:Zj):a_ ((Sl Zb)×Int):=(cA B).bind λt=>bq t ((jJ B).bind λu=>(nG (len B.procs) (0:Int)).bind λw=>jr.W1 (Sl.row [w]:Zb) (Sl.nil:Sl Zb) 0 u) (some ((Sl.nil:Sl Zb),1))
open jr in
instance Rp(B:Zj):Fc Sy cL (jr B):=Fc.N 49 [enc B] (dc 2 1 B (bG 8 λC _=>dU 3 10 (bG 6 λw _=>jB 1 4 0 w (bW 6 B.procs (FG 0 16 λz _=>yh 1 17 ([z]:aZ Zg) (dR 18 (λt=>(bN [Pv 4,Cv 5 t.1,Ov 6,Iv 7 t.2.2] [Xb 4 w,Lb 2006 t.2.1])) (λu=>(0,(bN [Ov 6] [Lb 2006 u]))) (λu=>(bN [Ov 2,Iv 3 16] [Lb 2002 (Sl.nil:Sl Zb)])) (λt=>bW 7 t.1 (bE 3 20 (bW 10 t.1 (bE 10 29 bh (yh 6 32 ([t.1]:aZ Zb) (oS 0 2006 32 33 λD _=>bG 7 λG _=>bh)))) bh)) (λu=>bh) (λu=>bh))))) bh))
def jh(s:Sl Zb):a_ Zb:=if s.l.length<=2147483648/\(s.l.flatMap Sl.l).length<=2147483648 then some (xx s)else none
instance KF(s:Sl Zb):Fc Sy cL (jh s):=Fc.of (A:=λz:Sl Zb=>[enc z]) (E:=λr:Zb=>[enc r]) (p:=jh) (n:=50) (z:=s) (kG.R7 Zf Zf (λz r h=>by
 unfold jh at h;split at h
 next a=>cases h;exact zg (PN (E:=Sy.E) (N:=λn=>n) (gid:=73) (nm:=some) (λ_ _ h=>(Option.some.inj h).symm) rfl Zf Zf (uT Zf) (uT Zf) rfl z a.1 a.2)
 cases h))
def zi(B:Zj):a_ ((Zb)×Int):=(jr B).bind λt=>(jh t.1).bind λu=>some (u,t.2)
instance Tl(B:Zj):Fc Sy cL (zi B):=Fc.N 23 [enc B] (dc 2 1 B (bG 7 λt _=>bG 10 λu _=>bh))
def vE(B:Zj):a_ ((Zb)×Int):=(zi B).bind λt=>some (t.1,t.2)
instance Tn(B:Zj):Fc Sy cL (vE B):=Fc.N 7 [enc B] (dc 2 1 B (bG 7 λt _=>bh))
def s_(B:Zj)(p1:Int):a_ Zl:=(bq (decide (p1>=0)) (some (decide (p1<(len B.procs)))) (some false):a_ Zl).bind λt=>some t
instance Ru(B:Zj)(p1:Int):Fc Sy cL (s_ B p1):=Fc.M 55 [enc B,.int .i64 p1] (dc 2 2 B (b_ 8 6 [1,2,7] 13 (bE 8 7 (bW 3 B.procs (bD 2)) (bD 6)) λt=>bh))
def uz(B:Zj)(D:Zg):a_ Zl:=(fZ B D).bind λt=>some (!t.2.2)
instance RI(B:Zj)(D:Zg):Fc Sy cL (uz B D):=Fc.M 56 [enc B,enc D] (dc 2 2 B (bG 7 λt _=>bh))
namespace dg
def eH(D:Zb)(G:Int)(J:Zj)(B:Int):a_ (Fw Int Unit Unit):=bq (decide (B<G)) ((idx D B).bind λt=>(uz J t).bind λu=>bq u (some (.n (wrap .i64 (B+1)))) (some (.r ()))) (some (.x ()))
def W3(B:Zb)(D G:Int)(J:Zj):Z6:=(bT (λq:Int=>eH B D J q) G).bind (Fw.elim (λe=>some 0) (λe=>some 18))
def cn(O:Zb)(D:Zg)(G:Int)(J:Zj)(B:Int):a_ (Fw Int Unit Unit):=bq (decide (B<G)) ((idx D B).bind λt=>(s_ J t).bind λu=>bq u (some (.n (wrap .i64 (B+1)))) (some (.r ()))) (some (.x ()))
def W2(D:Zb)(G:Zg)(J O:Int)(B:Zj):Z6:=(bT (λq:Int=>cn D G J B q) O).bind (Fw.elim (λe=>dg.W3 D (len D) 0 B) (λe=>some 2))
def bt(U:Zb)(D:Zg)(G:Zb)(J:Int)(O:Zj)(B:Int):a_ (Fw Int Unit Unit):=bq (decide (B<J)) ((idx G B).bind λt=>(iQ O t).bind λu=>bq u (some (.n (wrap .i64 (B+1)))) (some (.r ()))) (some (.x ()))
def W1(U:Zb)(B:Zg)(G:Zb)(J O:Int)(D:Zj):Z6:=(bT (λq:Int=>bt U B G J D q) O).bind (Fw.elim (λe=>dg.W2 U B (len B) 0 D) (λe=>some 2))
end dg
def dg(G:Zj)(D:Zb)(B:Zg):Z6:=(o7 G D).bind λt=>bq t (dg.W1 D B D (len D) 0 G) (some 1)
open dg in
instance Tj(G:Zj)(D:Zb)(B:Zg):Fc Sy cL (dg G D B):=Fc.M 34 [enc G,enc D,enc B] (dc 2 3 G (bG 8 λJ _=>dU 3 16 (bW 7 D (dR 5 (λz=>(bN [Cv 1 D,Cv 2 B,Pv 3,Cv 17 D,Iv 18 (len D),Iv 19 z] [Xb 3 G])) (λt=>(0,(bN [Cv 1 D,Cv 2 B,Pv 3] [Xb 3 G]))) (λt=>(bN [Iv 6 2] [])) (λz=>bE 7 20 (ck 7 λL _=>bG 8 λO _=>dU 3 26 bh bh) bh) (λt=>bW 6 B (dR 5 (λC=>(bN [Cv 1 D,Pv 3,Cv 28 B,Iv 29 (len B),Iv 30 C] [Xb 3 G])) (λu=>(2,(bN [Cv 1 D,Pv 3] [Xb 3 G]))) (λu=>(bN [Iv 6 2] [])) (λC=>bE 7 31 (ck 7 λQ _=>bG 8 λS _=>dU 3 37 bh bh) bh) (λu=>bW 6 D (dR 5 (λI=>(bN [Pv 3,Cv 39 D,Iv 40 (len D),Iv 41 I] [Xb 3 G])) (λw=>(4,(bN [] []))) (λw=>(bN [Iv 6 18] [])) (λI=>bE 7 42 (ck 7 λT _=>bG 8 λU _=>dU 3 48 bh bh) bh) (λw=>bh) (λw=>bh))) (λu=>bh))) (λt=>bh))) bh))
def jf(B:Zj)(D:Zg):a_ Zl:=(dg B (Sl.row [D]:Zb) (Sl.nil:Zg)).bind λt=>some (t==0)
instance N1(B:Zj)(D:Zg):Fc Sy cL (jf B D):=Fc.M 36 [enc B,enc D] (dc 2 2 B (yh 7 7 ([D]:aZ Zg) (gf 0 λt _=>bh)))
namespace gz
def bt(G J:Zg)(D:Int)(B:Int):a_ (Fw Int Unit Unit):=bq (decide (B<D)) ((idx G B).bind λt=>(idx J B).bind λu=>bq (decide (t>u)) (some (.r ())) (some (.n (wrap .i64 (B+1))))) (some (.x ()))
def W1(G J:Zg)(B D:Int):a_ Zl:=(bT (λq:Int=>bt G J B q) D).bind (Fw.elim (λe=>some true) (λe=>some false))
end gz
def gz(B D:Zg):a_ Zl:=bq ((len B)==(len D)) (gz.W1 B D (len B) 0) (some false)
open gz in
instance Ul(B D:Zg):Fc Sy cL (gz B D):=Fc.M 33 [enc B,enc D] (bW 9 B (bW 1 D (dU 3 10 (bW 7 B (dR 5 (λu=>(bN [Cv 0 B,Cv 1 D,Iv 12 (len B),Iv 13 u] [])) (λt=>(0,(bN [] []))) (λt=>(bN [Bv 4 false] [])) (λu=>bE 7 14 (ck 15 λw _=>ck 3 λz _=>bE 4 24 bh bh) bh) (λt=>bh) (λt=>bh))) bh)))
namespace ig
def bt(D:Sl Zb)(G:Int)(J:Zj)(B:Int):a_ (Fw Int Unit Unit):=bq (decide (B<G)) ((idx D B).bind λt=>(idx J.procs B).bind λu=>bq ((len t)==(len u.events)) (some (.n (wrap .i64 (B+1)))) (some (.r ()))) (some (.x ()))
def W1(B:Sl Zb)(D G:Int)(J:Zj):a_ Zl:=(bT (λq:Int=>bt B D J q) G).bind (Fw.elim (λe=>some true) (λe=>some false))
end ig
def ig(D:Zj)(B:Slice):a_ Zl:=(jf D B.first).bind λt=>(bq t ((jf D B.last).bind λu=>some (!u)) (some true):a_ Zl).bind λw=>(bq w (some true) ((gz B.first B.last).bind λz=>some (!z)):a_ Zl).bind λC=>(bq C (some true) (some (!((len B.j)==(len D.procs)))):a_ Zl).bind λG=>bq G (some false) (ig.W1 B.j (len B.j) 0 D)
open ig in
instance QV(D:Zj)(B:Slice):Fc Sy cL (ig D B):=Fc.M 25 [enc D,enc B] (dc 2 2 D (dc 0 3 B (bG 9 λC _=>b_ 2 6 [12] 18 (dU 2 12 (bG 3 λG _=>bD 2) (bD 6)) λI=>b_ 1 7 [19] 26 (bE 1 19 (bD 7) (bG 4 λJ _=>bD 2)) λL=>b_ 1 8 [27] 35 (bE 1 27 (bD 8) (bW 2 B.j (bW 2 D.procs (bD 2)))) λO=>bE 2 35 bh (bW 8 B.j (dR 5 (λu=>(bN [Pv 2,Cv 37 B.j,Iv 38 (len B.j),Iv 39 u] [Xb 2 D])) (λt=>(0,(bN [] []))) (λt=>(bN [Bv 4 false] [])) (λu=>bE 7 40 (ck 8 λw _=>bW 8 w (ck 3 λz _=>bW 2 z.events (dU 3 53 bh bh))) bh) (λt=>bh) (λt=>bh))))))
namespace gC
def bt(G:Sl cq)(J:Int)(B:Zg)(D:Int):a_ (Fw ((Zg)×Int) Zg Empty):=bq (decide (D<J)) ((idx G D).bind λt=>(gZ B (len t.events:Int)).bind λu=>some (.n (u,wrap .i64 (D+1)))) (some (.x B))
def W1(B:Zg)(D:Sl cq)(G J:Int):a_ Zg:=(bT (λq:(Zg)×Int=>bt D G q.1 q.2) (B,J)).bind (Fw.elim (λe=>some e) (λe=>elim e))
end gC
def gC(B:Zj):a_ Zg:=gC.W1 (Sl.nil:Zg) B.procs (len B.procs) 0
open gC in
instance Rq(B:Zj):Fc Sy cL (gC B):=Fc.N 27 [enc B] (dc 2 1 B (bW 13 B.procs (iE 6 (λt=>(bN [Ov 3,Cv 7 B.procs,Iv 8 (len B.procs),Iv 9 t.2] [Lb 2003 t.1])) (λu=>(0,(bN [Ov 3] [Lb 2003 u]))) (λt=>bE 8 10 (ck 7 λw _=>jB 2 5 0 w (bW 6 w.events (oS 1 2003 17 18 λz _=>bh))) bh) (λu=>bh))))
def jK(D:Slice)(B:bf):a_ Zg:=(idx D.j B.proc).bind λt=>(idx t (wrap .i64 (B.index-1))).bind λu=>some u
instance Pe(B:Slice)(D:bf):Fc Sy cL (jK B D):=Fc.N 31 [enc B,enc D] (dc 2 2 B (ck 10 λt _=>ck 4 λu _=>bh))
def oZ(B:bf)(D:Zg):a_ Zl:=(idx D B.proc).bind λt=>some (decide (B.index<=t))
instance TU(B:bf)(D:Zg):Fc Sy cL (oZ B D):=Fc.M 52 [enc B,enc D] (ck 13 λt _=>bh)
def sY(U:Zj)(B:Slice)(x2:bf):a_ Zl:=(jK B x2).bind λt=>(oZ x2 B.last).bind λz=>bq z ((oZ x2 B.first).bind λC=>bq C ((eA t B.first).bind λD=>some D) ((jf U t).bind λG=>(bq G ((oZ x2 t).bind λI=>some I) (some false):a_ Zl).bind λJ=>(bq J ((gz B.first t).bind λL=>some L) (some false):a_ Zl).bind λO=>(bq O ((gz t B.last).bind λu=>some u) (some false):a_ Zl).bind λw=>some w)) (some ((len t)==0))
instance Rt(B:Zj)(D:Slice)(x2:bf):Fc Sy cL (sY B D x2):=Fc.M 29 [enc B,enc D,enc x2] (dc 2 3 B (dc 0 4 D (bG 8 λt _=>bG 10 λz _=>dU 4 11 (bG 6 λC _=>bE 3 20 (bG 6 λG _=>bh) (bG 8 λI _=>b_ 1 4 [5,32] 36 (bE 1 32 (bG 2 λJ _=>bD 1) (bD 4)) λL=>b_ 1 5 [37] 42 (bE 1 37 (bG 3 λO _=>bD 1) (bD 5)) λQ=>b_ 1 5 [4,7,43] 48 (bE 1 43 (bG 3 λu _=>bD 1) (bD 5)) λw=>bh)) (bW 4 t bh))))
def mM(B:bf)(D:Zj)(G:Slice):a_ Zl:=(sY D G B).bind λt=>some t
instance M9(B:bf)(D:Zj)(G:Slice):Fc Sy cL (mM B D G):=Fc.M 28 [enc B,.fptr (cells D),.fptr (cells G)] (bG 11 λt _=>bh)
namespace dS
def cn(p5:Int)(J:Zg)(O G D:Int)(B:Int)(p1:bf->a_ Zl):a_ (Fw Int Unit Unit):=bq (decide (B<D)) ((p1 (⟨p5,wrap .i64 (B+1)⟩:bf)).bind λt=>bq t (some (.n (wrap .i64 (B+1)))) (some (.r ()))) (some (.x ()))
def W2(p5:Int)(J:Zg)(O B D G:Int)(p1:bf->a_ Zl):a_ (Fw Int Unit Unit):=(bT (λq:Int=>cn p5 J O B D q p1) G).bind (Fw.elim (λe=>some (.n (wrap .i64 (B+1)))) (λe=>some (.r ())))
def bt(D:Zg)(G:Int)(B:Int)(p1:bf->a_ Zl):a_ (Fw Int Unit Unit):=bq (decide (B<G)) ((idx D B).bind λt=>W2 B D G B t 0 p1) (some (.x ()))
def W1(D:Zg)(G B:Int)(p1:bf->a_ Zl):a_ Zl:=(bT (λq:Int=>bt D G q p1) B).bind (Fw.elim (λe=>some true) (λe=>some false))
end dS
def dS(B:Zg)(p1:bf->a_ Zl):a_ Zl:=dS.W1 B (len B) 0 p1
open dS in
abbrev oJ(g1:FuncId)(e1:aZ V)(p1:bf->a_ Bool)(a:oq Sy cL g1 [] e1 (λz:bf=>[enc z]) (λr:Bool=>[.bool r]) p1 true)(B:Sl Int):Fc Sy cL (dS B p1):=Fc.M 26 [enc B,.clo g1 [] e1] (bW 9 B (dR 5 (λt=>(bN [(1,.v (.clo g1 [] e1)),Cv 8 B,Iv 9 (len B),Iv 10 t] [])) (λu=>(0,(bN [] []))) (λu=>(bN [Bv 4 false] [])) (λt=>bE 7 11 (ck 8 λD _=>dR 13 (λw=>(bN [(1,.v (.clo g1 [] e1)),Iv 5 t,Cv 8 B,Iv 9 (len B),Iv 10 t,Iv 15 D,Iv 16 w] [])) (λC=>(2,(bN [(1,.v (.clo g1 [] e1)),Cv 8 B,Iv 9 (len B),Iv 10 t] []))) (λC=>(bN [Bv 4 false] [])) (λw=>bE 7 17 (xk 18 a.f (⟨t,wrap .i64 (w+1)⟩:bf) λG _=>dU 3 25 bh bh) bh) (λC=>bh) (λC=>bh)) bh) (λu=>bh) (λu=>bh)))
def mH(B:bf)(D:Slice)(G:Zg):a_ Zl:=(jK D B).bind λt=>(gz t G).bind λu=>some u
instance KP(B:bf)(D:Slice)(G:Zg):Fc Sy cL (mH B D G):=Fc.M 32 [enc B,.fptr (cells D),.fptr (cells G)] (bG 10 λt _=>gf 1 λu _=>bh)
def pH(D:bf)(B:Slice):a_ Zl:=(jK B D).bind λt=>(dS t (λz=>mH z B t)).bind λu=>some u
instance MZ(D:bf)(B:Slice):Fc Sy cL (pH D B):=Fc.M 30 [enc D,.fptr (cells B)] (bG 10 λt _=>jB 1 4 0 t (gf (F:=oJ 32 [.fptr (cells B),.fptr (cells t)] (λz=>mH z B t) oq.uX t) 6 λu _=>bh))
def mC(D:Zj)(B:Slice):a_ Zl:=(cA D).bind λt=>bq t (bq B.empty ((bq ((len B.first)==0) (some ((len B.last)==0)) (some false):a_ Zl).bind λu=>(bq u (some ((len B.j)==0)) (some false):a_ Zl).bind λw=>some w) ((ig D B).bind λC=>(bq C ((gC D).bind λG=>(dS G (λz=>mM z D B)).bind λI=>some (!I)) (some true):a_ Zl).bind λJ=>bq J (some false) ((dS B.last (λz=>pH z B)).bind λL=>some L))) (some false)
instance Rz(D:Zj)(B:Slice):Fc Sy cL (mC D B):=Fc.M 8 [enc D,enc B] (dc 2 2 D (dc 0 3 B (bG 7 λu _=>dU 3 7 (bE 10 9 (bW 5 B.first (b_ 2 5 [14] 19 (bE 2 14 (bW 2 B.last (bD 2)) (bD 5)) λw=>b_ 1 5 [3,20] 25 (bE 1 20 (bW 2 B.j (bD 2)) (bD 5)) λC=>bh)) (bG 8 λG _=>b_ 2 6 [2,30] 36 (dU 2 30 (bG 1 λt _=>gf (F:=oJ 28 [.fptr (cells D),.fptr (cells B)] (λz=>mM z D B) oq.uX t) 1 λI _=>bD 2) (bD 6)) λJ=>bE 2 36 bh (gf (F:=oJ 30 [.fptr (cells B)] (λz=>pH z B) oq.uX B.last) 8 λL _=>bh))) bh)))
def sS(B:Zj)(m1:Int):a_ (bf×Zl):=(gH B 3 m1).bind λt=>some (t.1,t.2)
instance MD(B:Zj)(m1:Int):Fc Sy cL (sS B m1):=Fc.M 35 [enc B,.int .i64 m1] (dc 2 2 B (bG 8 λt _=>bh))
namespace h_
def bt(U:Zg)(W:Int)(J:Sl Zn)(O:Zj)(B:Zg)(G D:Int):a_ (Fw ((Zg)×Int×Int) Zg Empty):=bq (decide (D<G)) ((idx J D).bind λt=>(bq (t.kind==2) (some (!(t.peer==W))) (some true):a_ Zl).bind λz=>bq z (some (.n (B,G,wrap .i64 (D+1)))) ((sS O t.message).bind λu=>(bq u.2 ((idx U u.1.proc).bind λC=>some (decide (u.1.index>C))) (some true):a_ Zl).bind λI=>bq I ((gZ B (t.message:Int)).bind λw=>some (.n (w,G,wrap .i64 (D+1)))) (some (.n (B,G,wrap .i64 (D+1)))))) (some (.x B))
def W1(U:Zg)(W:Int)(B:Zg)(D:Sl Zn)(G J:Int)(O:Zj):a_ ((Zg)×Int):=(bT (λq:(Zg)×Int×Int=>bt U W D O q.1 q.2.1 q.2.2) (B,G,J)).bind (Fw.elim (λe=>some (e,0)) (λe=>elim e))
end h_
def h_(B:Zj)(D:Zg)(p2 G:Int):a_ ((Zg)×Int):=(dg B (Sl.row [D]:Zb) (Sl.row [p2,G]:Zg)).bind λt=>bq (t==0) ((idx B.procs p2).bind λw=>(idx D p2).bind λz=>(fQ w.events none (some z)).bind λu=>h_.W1 D G (Sl.nil:Zg) u (len u) 0 B) (some (Sl.nil,t))
open h_ in
instance Q3(B:Zj)(D:Zg)(p2 G:Int):Fc Sy cL (h_ B D p2 G):=Fc.N 9 [enc B,enc D,.int .i64 p2,.int .i64 G] (dc 2 4 B (yh 9 18 ([D]:aZ Zg) (gf 3 λJ _=>dU 9 24 (ck 14 λL _=>ck 4 λz _=>Bg 1 false true [.int .i64 z] λu _=>bW 0 u (iE 6 (λt=>(bN [Cv 1 D,Iv 3 G,Pv 4,Ov 11,Cv 36 u,Iv 37 t.2.1,Iv 38 t.2.2] [Xb 4 B,Lb 2011 t.1])) (λw=>(0,(bN [Ov 11] [Lb 2011 w]))) (λt=>bE 8 39 (ck 7 λC _=>jB 2 13 0 C (b_ 9 5 [45] 50 (dU 9 45 (bD 5) (bD 5)) λO=>bE 2 50 bh (bG 8 λQ _=>b_ 13 9 [14,60] 69 (dU 13 60 (ck 5 λS _=>bD 3) (bD 9)) λT=>bE 2 69 (oS 6 2011 73 74 λI _=>bh) bh))) bh) (λw=>bh))) bh)))
def mO(B:bf)(D:Slice)(G:Zg):a_ Zl:=(jK D B).bind λt=>(gz t G).bind λu=>some u
instance P_(B:bf)(D:Slice)(G:Zg):Fc Sy cL (mO B D G):=Fc.M 58 [enc B,.fptr (cells D),.fptr (cells G)] (bG 10 λt _=>gf 1 λu _=>bh)
def qZ(B:Slice)(D:Zg):a_ Zl:=(bq B.empty (some false) ((gz B.first D).bind λt=>some t):a_ Zl).bind λu=>(bq u ((gz D B.last).bind λw=>some w) (some false):a_ Zl).bind λC=>(bq C ((dS D (λz=>mO z B D)).bind λG=>some G) (some false):a_ Zl).bind λI=>some I
instance Tg(D:Slice)(B:Zg):Fc Sy cL (qZ D B):=Fc.M 37 [enc D,enc B] (dc 2 2 D (dc 0 3 B (b_ 9 5 [8] 13 (dU 9 8 (bD 5) (bG 3 λt _=>bD 1)) λu=>b_ 1 5 [14] 19 (bE 1 14 (bG 3 λw _=>bD 1) (bD 5)) λC=>b_ 1 4 [2,3,20] 24 (bE 1 20 (gf (F:=oJ 58 [.fptr (cells D),.fptr (cells B)] (λz=>mO z D B) oq.uX B) 2 λG _=>bD 1) (bD 4)) λI=>bh)))
def vV(D:Zj)(G:Slice)(J:Zg):a_ Zl:=(mC D G).bind λt=>(bq t ((jf D J).bind λu=>some u) (some false):a_ Zl).bind λw=>(bq w ((qZ G J).bind λz=>some z) (some false):a_ Zl).bind λB=>some B
instance To(B:Zj)(D:Slice)(G:Zg):Fc Sy cL (vV B D G):=Fc.M 10 [enc B,enc D,enc G] (dc 2 3 B (dc 0 4 D (bG 7 λt _=>b_ 1 4 [3,10] 14 (bE 1 10 (bG 2 λu _=>bD 1) (bD 4)) λw=>b_ 1 4 [2,4,15] 19 (bE 1 15 (bG 2 λz _=>bD 1) (bD 4)) λC=>bh)))
def o_(B:bf)(D G:Slice):a_ Zl:=(jK G B).bind λt=>(qZ D t).bind λu=>some u
instance Qn(B:bf)(D G:Slice):Fc Sy cL (o_ B D G):=Fc.M 38 [enc B,.fptr (cells D),.fptr (cells G)] (bG 11 λt _=>gf 0 λu _=>bh)
def tL(J:Zj)(B D:Slice):a_ (Zl×Int):=(mC J B).bind λt=>(bq t ((mC J D).bind λu=>some (!u)) (some true):a_ Zl).bind λw=>bq w (some (false,1)) (bq B.empty (some (true,0)) ((qZ D B.first).bind λC=>(bq C ((dS B.last (λz=>o_ z D B)).bind λG=>some G) (some false):a_ Zl).bind λI=>some (I,0)))
instance Ti(G:Zj)(B D:Slice):Fc Sy cL (tL G B D):=Fc.M 11 [enc G,enc B,enc D] (dc 2 3 G (dc 0 4 B (dc 0 5 D (bG 9 λt _=>b_ 2 5 [3,12] 17 (dU 2 12 (bG 2 λu _=>bD 2) (bD 5)) λw=>bE 2 17 bh (bE 10 19 bh (bG 8 λC _=>b_ 1 5 [4,5,24] 29 (bE 1 24 (gf (F:=oJ 38 [.fptr (cells D),.fptr (cells B)] (λz=>o_ z D B) oq.uX B.last) 3 λI _=>bD 1) (bD 5)) λJ=>bh))))))
namespace eu
def bt(Y a B:Int)(G:Zb)(J:Int)(O:Zj)(U W:Slice)(D:Int):a_ (Fw Int Unit Unit):=bq (decide (D<J)) ((idx G D).bind λt=>(h_ O t Y a).bind λu=>(bq (u.2==0) ((vV O U t).bind λw=>some (!(w==(decide ((len u.1)<=B))))) (some true):a_ Zl).bind λz=>bq z (some (.r ())) (some (.n (wrap .i64 (D+1))))) (some (.x ()))
def W1(Y a D:Int)(J:Zb)(O U:Int)(W:Zj)(G B:Slice):a_ Zl:=(bT (λq:Int=>bt Y a D J O W G B q) U).bind (Fw.elim (λe=>(tL W G B).bind λt=>(bq (t.2==0) (some t.1) (some false):a_ Zl).bind λu=>some u) (λe=>some false))
end eu
def eu(B:Zj)(p1 U W:Int):a_ Zl:=(uZ).bind λO=>bq O ((lg B).bind λQ=>(bq Q.2 (some (decide ((len B.procs)<2))) (some true):a_ Zl).bind λS=>bq S (some true) ((tX (wrap .i64 p1) (len B.procs)).bind λu=>(tX (wrap .i64 U) (wrap .i64 ((len B.procs)-1))).bind λT=>(tX (wrap .i64 ((wrap .i64 (u+1))+T)) (len B.procs)).bind λw=>(tX (wrap .i64 W) 8).bind λz=>(dz B u w z).bind λC=>(dz B u w (wrap .i64 (z+1))).bind λD=>(vE B).bind λt=>(bq (C.2==0) (some (!(D.2==0))) (some true):a_ Zl).bind λG=>(bq G (some true) (some (!(t.2==0))):a_ Zl).bind λI=>(bq I (some true) ((mC B C.1).bind λJ=>some (!J)):a_ Zl).bind λL=>bq L (some false) (eu.W1 u w z t.1 (len t.1) 0 B C.1 D.1))) (some false)
open eu in
instance wV(B:Zj)(p1 O U:Int):Fc Sy cL (eu B p1 O U):=Fc.M 3 [enc B,.int .u8 p1,.int .u8 O,.int .u8 U] (dc 2 4 B (bG 6 λa _=>dU 3 27 (bG 7 λb _=>b_ 12 5 [35] 40 (dU 12 35 (bW 2 B.procs (bD 2)) (bD 5)) λc=>bE 2 40 bh (bW 9 B.procs (Kp 0 .i64 λG _=>bW 11 B.procs (Kp 1 .i64 λd _=>bW 3 B.procs (Kp 0 .i64 λI _=>Kp 7 .i64 λJ _=>bG 9 λu _=>jB 4 14 0 u.1 (bG 10 λw _=>jB 4 16 0 w.1 (bG 6 λt _=>b_ 13 3 [17,88] 91 (dU 13 88 (bD 3) (bD 3)) λL=>b_ 1 3 [19,92] 95 (bE 1 92 (bD 3) (bD 3)) λQ=>b_ 1 5 [96] 101 (bE 1 96 (bD 5) (bG 2 λS _=>bD 2)) λT=>bE 2 101 bh (bW 7 t.1 (dR 5 (λC=>(bN [Pv 4,Iv 11 G,Iv 12 I,Iv 13 J,Pv 14,Pv 16,Cv 102 t.1,Iv 103 (len t.1),Iv 104 C] [Xb 4 B,Xb 14 u.1,Xb 16 w.1])) (λz=>(0,(bN [Pv 4,Pv 14,Pv 16] [Xb 4 B,Xb 14 u.1,Xb 16 w.1]))) (λz=>(bN [Bv 8 false] [])) (λC=>bE 7 105 (ck 7 λW _=>bG 10 λD _=>b_ 12 10 [21,22,118] 128 (dU 12 118 (bG 3 λX _=>bW 1 D.1 (bD 4)) (bD 10)) λY=>bE 2 128 bh bh) bh) (λz=>bG 7 λZ _=>b_ 12 2 [24,139] 141 (bE 12 139 (bD 2) (bD 2)) λe=>bh) (λz=>bh)))))))))) bh))
end
end Go.VE
