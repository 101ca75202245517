/-
 Each function of the program that the law reaches: its plain form, and that it comes to that.
-/
import Derived.Test.YtegogepdjcdfcagGreatDoorK1
import Derived.Test.YtegogepdjcdfcagGreatDoorT1
set_option linter.all false
namespace Go.VE
theorem Ze{p:Prop}(h:p:=by kernel_rfl):p:=h
structure Assign where
 var:Int
 value:Int
 deriving Inhabited
instance:bz Assign where
 cells x:=[.int .i64 x.var,.int .i64 x.value]
 agg:=true
 size:=2
 len _:=rfl
 good x:=by simp only[V.cN,V.good,ni,Bool.and_self]
 one x:=by simp only[List.all_cons,List.all_nil,mw,kR,mK,mc,Bool.and_self]
 plain h:=by cases h
structure Event where
 kind:Int
 peer:Int
 message:Int
 time:Int
 assign:Sl Assign
 deriving Inhabited
instance:bz Event where
 cells x:=[.int .i64 x.kind,.int .i64 x.peer,.int .i64 x.message,.int .i64 x.time,enc x.assign]
 agg:=true
 size:=5
 len _:=rfl
 good x:=by simp only[V.cN,V.good,ni,Bool.and_self]
 one x:=by simp only[List.all_cons,List.all_nil,mw,kR,mK,mc,Bool.and_self]
 plain h:=by cases h
structure Var where
 name:ByteArray
 init_:Int
 deriving Inhabited
instance:bz Var where
 cells x:=[.str x.name,.int .i64 x.init_]
 agg:=true
 size:=2
 len _:=rfl
 good x:=by simp only[V.cN,V.good,ni,Bool.and_self]
 one x:=by simp only[List.all_cons,List.all_nil,mw,kR,mK,mc,Bool.and_self]
 plain h:=by cases h
structure cr where
 name:ByteArray
 vars:Sl Var
 events:Sl Event
 deriving Inhabited
instance:bz cr where
 cells x:=[.str x.name,enc x.vars,enc x.events]
 agg:=true
 size:=3
 len _:=rfl
 good x:=by simp only[V.cN,V.good,ni,Bool.and_self]
 one x:=by simp only[List.all_cons,List.all_nil,mw,kR,mK,mc,Bool.and_self]
 plain h:=by cases h
structure Trace where
 procs:Sl cr
 deriving Inhabited
instance:bz Trace where
 cells x:=[enc x.procs]
 agg:=true
 size:=1
 len _:=rfl
 good x:=by simp only[V.cN,V.good,ni,Bool.and_self]
 one x:=by simp only[List.all_cons,List.all_nil,mw,kR,mK,mc,Bool.and_self]
 plain h:=by cases h
structure Pred where
 kind:Int
 n:Int
 proc:Int
 peer:Int
 name:ByteArray
 l:Sl Pred
mutual
def Pred.Su:Pred->a_ V
 | ⟨f0,f1,u,B,D,f5⟩=>[.int .i64 f0,.int .i64 f1,.int .i64 u,.int .i64 B,.str D,Pred.G8 f5]
def Pred.G8:Sl Pred->V
 | .nil=>.bE
 | .emp=>.c7
 | .row l=>.fsl 6 (Pred.Lt l)
 | .part l=>.fsl 6 (Pred.Lt l)
def Pred.Lt:a_ Pred->a_ (a_ V)
 | []=>[]
 | x::r=>Pred.Su x::Pred.Lt r
end
instance:Inhabited Pred:=⟨⟨default,default,default,default,default,Sl.nil⟩⟩
mutual
theorem Pred.PT:∀x:Pred,V.cN x.Su=true
 | ⟨f0,f1,u,B,D,f5⟩=>by simp only[Pred.Su,V.cN,V.good,Pred.GA,Bool.and_self]
theorem Pred.GA:∀x:Sl Pred,V.good (Pred.G8 x)=true
 | .nil=>rfl
 | .emp=>rfl
 | .row l=>by simp only[Pred.G8,V.good,Pred.AB]
 | .part l=>by simp only[Pred.G8,V.good,Pred.AB]
theorem Pred.AB:∀x:a_ Pred,V.lQ (Pred.Lt x)=true
 | []=>rfl
 | x::r=>by simp only[Pred.Lt,V.lQ,Pred.PT,Pred.AB,Bool.and_self]
end
theorem Pred.PX (s:Sl Pred):V.one (Pred.G8 s)=true:=by cases s <;> simp[Pred.G8,V.one]
instance:bz Pred where
 cells x:=[.int .i64 x.kind,.int .i64 x.n,.int .i64 x.proc,.int .i64 x.peer,.str x.name,Pred.G8 x.l]
 agg:=true
 size:=6
 len _:=rfl
 good x:=by simp only[V.cN,V.good,Pred.GA,Bool.and_self]
 one x:=by simp only[List.all_cons,List.all_nil,mw,kR,mK,Pred.PX,Bool.and_self]
 plain h:=by cases h
structure Slice where
 empty:Bool
 first:Sl Int
 last:Sl Int
 j:Sl (Sl (Sl Int))
 deriving Inhabited
instance:bz Slice where
 cells x:=[.bool x.empty,enc x.first,enc x.last,enc x.j]
 agg:=true
 size:=4
 len _:=rfl
 good x:=by simp only[V.cN,V.good,ni,Bool.and_self]
 one x:=by simp only[List.all_cons,List.all_nil,mw,kR,mK,mc,Bool.and_self]
 plain h:=by cases h
structure br where
 from_:bg
 to_:bg
 deriving Inhabited
instance:bz br where
 cells x:=[.int .i64 x.from_.proc,.int .i64 x.from_.index,.int .i64 x.to_.proc,.int .i64 x.to_.index]
 agg:=true
 size:=4
 len _:=rfl
 good x:=by simp only[V.cN,V.good,ni,Bool.and_self]
 one x:=by simp only[List.all_cons,List.all_nil,mw,kR,mK,mc,Bool.and_self]
 plain h:=by cases h
def gU (p:Int):Int->a_ Event->a_ (bg×Event)
 | _,[]=>[]
 | j,e::r=>(⟨p,j+1⟩,e)::gU p (j+1) r
def eX:Int->a_ cr->a_ (bg×Event)
 | _,[]=>[]
 | i,p::r=>gU i 0 p.events.l++eX (i+1) r
def EL (n:Nat):Bool:=decide (n<9223372036854775807)
def iC (t:Trace):bf (a_ (bg×Event)):=
 if EL t.procs.l.length&&t.procs.l.all λp=>EL p.events.l.length then some (eX 0 t.procs.l)else none
end Go.VE
namespace Go.VE
def O6:Nat->Nat->Nat->a_ Nat
 | 0,_,_=>[]
 | f+1,i,m=>bif m % 2==1 then i::O6 f (i+1) (m / 2)else O6 f (i+1) (m / 2)
def gK (g m:Nat) (l:a_ Nat:=[]):Gh:=.keep (O6 128 0 g) (O6 128 0 m++l)
def g2 (n g m:Nat) (l:a_ Nat:=[]):Nat×a_ Gh×a_ Gh:=(n,[gK g m l],[gK g m l])
def g1 (n g m:Nat) (l:a_ Nat:=[]):Nat×a_ Gh×a_ Gh:=(n,[gK g m l],[])
def G2 (n:Nat) (x:a_ Gh):Nat×a_ Gh×a_ Gh:=(n,x,x)
def G1 (n:Nat) (x:a_ Gh):Nat×a_ Gh×a_ Gh:=(n,x,[])
def cS (i n:Nat):Gh:=.canon (.s i) (2000+i) n
def cC (i j n:Nat):Gh:=.canon (.c i j) (4000+20*i+j) n
def e0 (n m:Nat):Nat×GD:=(n,⟨m,[],[]⟩)
def e1 (n m:Nat) (l:a_ (Nat×a_ Gh×a_ Gh)):Nat×GD:=(n,⟨m,[],l⟩)
def IZ:a_ (Nat×GD):=[
 e1 51 0x22226260002000201 [g2 6 387 0,g1 12 0 0,g1 22 16 0,g1 27 16 0],
 e0 22 0x226221,
 e0 23 0x2222212,
 e1 52 0x22226260002000201 [g2 6 387 0,g1 12 0 0,g1 22 16 0,g1 27 16 0],
 e0 24 0x226221,
 e0 25 0x2222212,
 e1 5 0x222222206444264402644402644402600262202202000020012 [g2 8 3622 4,g1 14 4 4,g1 26 16 0,g1 31 16 0],
 e1 44 0x22226260002000201 [g2 6 387 0,g1 12 0 0,g1 22 16 0,g1 27 16 0],
 e0 16 0x226221,
 e0 26 0x22221,
 e0 6 0x2644422201,
 e0 79 0x26c4426201,
 e0 141 0x26c4444026402201,
 e0 142 0x26442201,
 e1 105 0x22064c402644c00222600200020064440264402201 [g1 8 4 0,g2 14 786433 0,g1 20 0 0,g1 30 4 0,g1 35 4 0],
 e0 107 0x26222212,
 e1 143 0x22226260002000201 [g2 6 387 0,g1 12 0 0,g1 22 16 0,g1 27 16 0],
 e0 106 0x226221,
 e0 108 0x26222212,
 e1 80 0x222222022222026c0c4402222022020000020022220026c0c44422220202602012 [g1 11 16 0,g1 17 16 0,g2 23 30064771104 32,g1 29 32 32,g1 40 16 0,g1 46 16 0,g1 55 16 0,g1 59 16 0],
 e0 81 0x2212,
 e1 110 0x2644426c4402622222022202644422202020122 [g1 18 524330 40],
 e0 112 0x26222212,
 e1 144 0x22226260002000201 [g2 6 387 0,g1 12 0 0,g1 22 16 0,g1 27 16 0],
 e0 111 0x226221,
 e1 82 0x2202626220026444022622202022020000020022220026c44022220022e02222226220202200202620201222 [g1 12 440 184,g1 19 64 0,g1 25 64 0,g1 31 64 0,g2 37 31525197391593632 160,g1 43 0 0,g1 54 64 0,g1 60 64 0,g1 65 64 0],
 e0 145 0x26c44426c440222012,
 e0 113 0x2662262221222,
 e1 83 0x2202326222002202001ef200220022022226200223262220022022226200202022020202020200002 [(8,[gK 4158 1086],[gK 0 1086]),g1 27 0 1086,g1 39 0 1086,g1 47 0 1086,g1 53 28 1052],
 e1 114 0x222622262222264444c4400222020262222262622020262020222620220122 [G1 12 [cS 7 2,gK 418 32 [2007]]],
 e1 84 0x20222622230026000226002020000e200262220202622002202202020200022 [(6,[gK 8252 60],[gK 0 60]),G2 14 [cS 8 2,gK 8700 65660 [2008]],g1 20 8252 60,G2 29 [cS 8 2,gK 481036345852 65660 [2008]],G1 35 [cS 8 2,gK 8700 65660 [2008]],g1 46 0 60,g1 58 48 48],
 e1 53 0x20022222020262222222022202002202222202e2002020202222222202600200022002022220002 [g1 8 12 12,g2 14 12582926 14,g1 20 14 14,g1 32 12 12,(39,[gK 68719476750 14],[gK 0 14]),g1 51 0 14,g1 61 12 12,g1 71 12 12,g1 75 12 12],
 e0 27 0x2222302022212,
 e1 28 0x22222622222202000022012 [G2 8 [cS 3 1,gK 904 0 [2003]],G1 14 [cS 3 1,gK 8 0 [2003]]],
 e0 115 0x26222221,
 e0 85 0x264c4422012,
 e1 86 0x2206c444c440422022200000212 [g2 6 900 4,g1 12 0 0,g1 22 16 0,g1 27 16 0],
 e1 32 0x26200201 [G1 8 [.canon (.s 2) 4004 1],G1 12 [.canon (.s 2) 4004 1]],
 e1 146 0x200226c0442602020202202022000222 [g1 8 192 192,(14,[gK 33008 240],[gK 0 240]),g1 24 0 240,g1 28 192 192],
 e0 116 0x2220622102,
 e1 87 0x2200222202262222626200203202026220220220200000622260202220000001002 [g2 6 57398 52,g1 12 48 48,g2 20 939581622 52,g1 26 57398 52,g1 44 112 48,g1 50 112 48],
 e1 54 0x1ff220002222222002002600222002260000226200112 [G1 9 [cS 6 1,gK 192 0 [2006]],G1 15 [cS 6 1,gK 192 0 [2006]],G2 20 [cS 8 1,gK 268 8 [2008]],G1 30 [cS 6 1,gK 192 0 [2006]]],
 e0 29 0x2220622112,
 (7,⟨0x22223062220222622232202620362200222202000222022020000020206202220020220102,[(50,[.closeS (.s 48)]),(66,[.closeS (.s 59)]),(72,[.closeS (.c 4 1),.closeS (.c 4 3)])],[G2 16 [cC 4 1 1,cC 4 3 1,gK 117440534 22 [4081,4083]],G1 22 [cC 4 1 1,cC 4 3 1,gK 20 20 [4081,4083]],G2 33 [cS 7 1,cC 4 1 1,cC 4 3 1,gK 25887244470 22 [2007,4081,4083]],G1 39 [cS 7 1,cC 4 1 1,cC 4 3 1,gK 117440662 22 [2007,4081,4083]]]⟩),
 e0 8 0x20020222102,
 e0 88 0x26c444422012,
 e0 89 0x22223300200262212,
 e1 56 0x2202620220000222026202200002220262022000000260012 [g1 8 64 0,g2 14 917518 8,g1 20 14 8,g1 30 64 0,g2 37 1879048202 8,g1 43 10 8,g1 53 64 0,g2 60 3848290697224 8,g1 66 0 0,g1 76 64 0,g1 81 64 0],
 e0 31 0x22622212,
 e0 30 0x226221,
 e1 57 0x222236e2620260000020002022201 [G2 8 [cS 7 1,gK 24711 0 [2007]],G1 14 [cS 7 1,gK 128 0 [2007]]],
 e0 58 0x26221,
 e0 33 0x26221,
 e0 59 0x26221,
 e0 34 0x26221,
 e1 37 0x226222262022122 [(3,[.take 194003 (.c 3 0) 1 6005],[.put 194003])],
 e1 36 0x366222222620222020260012 [G1 10 [cC 9500 3 1,.melt 194003,gK 46 8 [9500,194003]],(11,[.take 194003 (.c 3 0) 1 6012],[.put 194003])],
 e1 35 0x222202662200200022220000021 [G2 6 [.drop [0,2,3,4,5,6,7,11,12,13,14,15,16,17,18,19,20,21,22,23,24,25,26,27]],G1 12 [.drop [0,1,2,3,4,5,6,7,8,9,10,11,12,13,14,15,16,17,18,19,20,21,22,23,24,25,26,27]],G2 20 [.drop [0,2,3,4,6,7,11,12,13,14,17,18,19,20,21,22,23,24,25,26,27]],G1 26 [.drop [0,2,3,4,5,6,7,11,12,13,14,15,16,17,18,19,20,21,22,23,24,25,26,27]],G1 36 [.drop [0,1,2,3,5,6,7,8,9,10,11,12,13,14,15,16,17,18,19,20,21,22,23,24,25,26,27]],G1 42 [.drop [0,1,2,3,5,6,7,8,9,10,11,12,13,14,15,16,17,18,19,20,21,22,23,24,25,26,27]]],
 (9,⟨0x222274030306020602020200002223062222220202000022206222022200202220020260002022200202220102,[(42,[.canon (.s 6) 9500 0]),(84,[.closeB 10]),(88,[.closeS (.c 9500 3)])],[G2 35 [cC 9500 3 1,.melt 194003,gK 15393162788946 16 [9500,194003]],G1 41 [cC 9500 3 1,.melt 194003,gK 82 16 [9500,194003]],G2 52 [cC 9500 3 1,.melt 194003,gK 1008806316530991184 16 [9500,194003]],G1 58 [cC 9500 3 1,.melt 194003,gK 80 16 [9500,194003]]]⟩),
 e0 117 0x26c4444026402201,
 e0 118 0x26442201,
 e1 90 0x222064c002644c00222600620000644402644022201 [g1 8 4 0,g2 14 9 0,g1 20 0 0,g1 28 4 0,g1 33 4 0],
 e0 91 0x26442201,
 e1 60 0x2222222022226020222062260202260206000022226020622000022202220620226020600002220202602012 [g1 10 16 0,g2 16 102 36,g1 22 32 32,g1 30 16 0,g1 39 16 0,g2 45 160 32,g1 51 32 32,g1 60 16 0,g2 66 416 32,g1 72 160 32,g1 80 16 0,g1 88 16 0,g1 97 16 0,g1 101 16 0],
 e1 61 0x2222220620226020600006444026c444c04040222020260206220000222006cc44c4444c04040440264402220064402644026c04026c44040264402644022200644022202202026022602012 [g1 13 64 0,g1 20 64 0,g1 22 142 136,g1 28 64 0,g1 36 64 0,g2 42 394 136,g1 48 0 0,g1 59 64 0,g2 64 1930 648,g1 70 394 136,g1 78 64 0,g1 84 64 0],
 e0 92 0x2262222262022022,
 e1 40 0x20222222262226c0442602020260226020622260200062200002 [g2 6 206 72,g1 12 64 64,g2 18 462 72,g1 24 206 72,g1 34 64 64,g1 40 64 64],
 e1 62 0x2222226cc40444cc4040444022202602262020622262020000220060e20200022020600122 [g2 30 236 44,g1 36 64 0],
 e1 63 0x22206222602026006220002222203622000622262002062202202026260022602062226020260062200002222012 [G2 6 [cS 3 1,gK 10 2 [2003]],G2 14 [cS 3 1,gK 58 2 [2003]],G1 20 [cS 3 1,gK 26 2 [2003]],G2 24 [cS 3 1,gK 58 2 [2003]],G1 30 [cS 3 1,gK 58 2 [2003]],G1 43 [cS 3 1,gK 58 2 [2003]],G1 46 [cS 3 1,gK 42 2 [2003]],G1 53 [cS 3 1,gK 10 2 [2003]],G2 59 [cS 3 1,gK 266 2 [2003]],g1 65 0 0,g1 73 4 0,g1 78 4 0],
 e1 93 0x22262622222202062026262202022200122 [G1 10 [cS 5 2,gK 44 12 [2005]],G1 20 [.canon (.s 4) 4004 2]],
 (64,⟨0x222222622600262000262016202620026202620022220220220262022226222222602026220000122,[(21,[.put 28])],[G2 8 [cS 5 1,.melt 2005,gK 108 12 [2005]],G1 14 [cS 5 1,.melt 2005,gK 44 12 [2005]],G2 23 [cS 5 1,.melt 2005,cS 7 2,gK 164 4 [2005,2007]],G1 29 [cS 5 1,.melt 2005,gK 32 0 [2005]],(37,[.take 2005 (.c 8 0) 1 6041],[.put 2005]),(42,[.take 2005 (.c 8 0) 1 6050],[.put 2005]),G2 48 [cS 5 1,.melt 2005,cS 7 2,cS 9 2,gK 1700 4 [2005,2007,2009]],G1 54 [cS 5 1,.melt 2005,cS 7 2,gK 164 4 [2005,2007]]]⟩),
 e1 38 0x202222220222620260600206200622260200062200002020222222222220260020620062226020006220002222222226222202e0006222602000622000222222222026006220000206444022220102 [g1 8 12 4,g2 14 22 6,g1 20 6 6,g1 30 12 4,g2 37 70 6,g1 43 6 6,g2 49 198 6,g1 55 70 6,g1 65 12 4,g2 73 518 6,g1 79 6 6,g2 85 1542 6,g1 91 518 6,g1 103 12 4,g1 113 12 4,g2 119 8198 6,g1 125 4 4,g2 131 24582 6,g1 137 8198 6,g1 147 12 4,g1 153 12 4],
 e0 10 0x2222302022212,
 e1 41 0x2220626002600620000620201 [g1 8 16 0,g2 14 35 0,g1 20 0 0,g1 28 16 0,g1 33 16 0],
 e1 21 0x22202626002600620000620201 [g1 8 16 0,g2 14 35 0,g1 20 0 0,g1 28 16 0,g1 33 16 0],
 e1 14 0x222026260202602062200006c440440264c4040264c4040262020122 [g1 8 16 0,g2 14 44 12,g1 20 0 0,g1 28 16 0,g1 33 16 0],
 e0 11 0x260212,
 e1 12 0x2222226222260202622000012 [G2 8 [cS 3 1,gK 26 2 [2003]],G1 14 [cS 3 1,gK 8 0 [2003]]],
 e0 39 0x26262222020622202202026222622012,
 (13,⟨0x222222222622362220020622622262200001ef0000626000062000262012,[(46,[.closeS (.s 50)])],[G2 8 [cS 5 1,gK 100 4 [2005]],G1 14 [cS 5 1,gK 32 0 [2005]],G2 20 [cS 5 1,gK 228 4 [2005]],G1 26 [cS 5 1,gK 100 4 [2005]],G1 41 [.closeS (.s 4),gK 16 0],G1 46 [.closeS (.s 4),gK 16 0]]⟩),
 e1 42 0x2222226262600260026200001 [G2 8 [cS 5 1,gK 99 0 [2005]],G1 14 [cS 5 1,gK 32 0 [2005]]],
 e1 43 0x2222226262600260026200001 [G2 8 [cS 5 1,gK 99 0 [2005]],G1 14 [cS 5 1,gK 32 0 [2005]]],
 (15,⟨0x2222230622202222622222226260022626000220602602600620000622260200006220002223062600203062600206200020662200622002022002,[(109,[.closeS (.s 103)]),(116,[.closeS (.c 5 3)])],[G2 16 [.closeS (.c 5 1),.closeS (.c 5 2),gK 118 52],G1 22 [.closeS (.c 5 1),.closeS (.c 5 2),gK 54 52],G2 33 [.closeS (.c 5 1),.closeS (.c 5 2),cC 5 3 1,gK 182 52 [4103]],G1 39 [.closeS (.c 5 1),.closeS (.c 5 2),cC 5 3 1,gK 48 48 [4103]],G2 48 [.closeS (.c 5 1),.closeS (.c 5 2),cS 8 1,cC 5 3 1,gK 950 52 [2008,4103]],G1 54 [.closeS (.c 5 1),.closeS (.c 5 2),cS 8 1,cC 5 3 1,gK 438 52 [2008,4103]],G2 63 [.closeS (.s 10),.closeS (.c 5 1),.closeS (.c 5 2),cS 8 1,cC 5 3 1,gK 4022 52 [2008,4103]],G1 69 [.closeS (.c 5 1),.closeS (.c 5 2),cS 8 1,cC 5 3 1,gK 1974 52 [2008,4103]]]⟩),
 e0 45 0x262222212,
 e1 46 0x22206c444c0404c002226006200012 [g2 6 38 4,g1 12 0 0,g1 20 16 0,g1 25 16 0],
 e1 47 0x22222202001ef000062600006200012 [g2 6 38 4,g1 12 0 0,g2 18 102 4,g1 24 38 4,g1 32 16 0,g1 38 16 0],
 e0 18 0x26c4426c0026c0022012,
 e0 17 0x226221,
 (3,⟨0x264426622226442222600264422222200644264c0426442266202222226262023622002222020002226020200022026202220264426442644264426442222202202026002202022022020220206cc44404c440444044402644022012,[(123,[.closeS (.s 119)])],[G2 30 [cS 11 1,gK 59421121885698253195157966822 676 [2011]],G1 36 [cS 11 1,gK 4070 676 [2011]],G2 44 [cS 11 1,gK 60906649932840709525036911828966 676 [2011]],G1 50 [cS 11 1,gK 59421121885698253195157966822 676 [2011]],G1 64 [.closeS (.s 11)]]⟩)]
namespace trace_events_c1
def Af:a_ RO:=[o1 20 (.s 18) [],o2 21 (ix 5) [.s 16,.s 18] [],o2 22 (lD 5) [.s 21] [21],o2 6 (.a (.alloc 5 [.int .i64 0,.int .i64 0,.int .i64 0,.int .i64 0,.bE])) [] [],o1 5 (.s 20) [20],oz (.l (.store 5)) [.s 6,.s 22] [22]]
def xJ:a_ RO:=[o1 23 (.s 0) [],o1 24 (.s 3) [],o1 25 (.s 5) [5],o2 26 (bI .add) [.s 25,.k (.int .i64 1)] [25],o2 27 (.p (.build [.int .i64 0,.int .i64 0] [(0,1),(1,1)])) [.s 24,.s 26] [24,26],o2 28 (lD 5) [.s 6] [6],
 o2 29 .c [.s 23,.s 27,.s 28] [23,27,28],o2 30 (.p .not) [.s 29] [29]]
def vq:a_ RO:=[o2 31 (bI .add) [.s 18,.k (.int .i64 1)] [],o1 18 (.s 31) [31]]
def D6:RC:=.hg (.seq (.ops [o2 19 (bI .lss) [.s 18,.s 17] []]) (.seq (.cond (.s 19) .skip (.exit 2)) (.seq (.block 3 (.seq (.ops Af) (.seq (.ops xJ) (.cond (.s 30) .ret .skip)))) (.ops vq)))) (.keep [0,3,8,9,10,16,17,18] [])
def IJ:a_ RO:=[o1 12 (.s 10) [],o2 13 (ix 3) [.s 8,.s 10] [],o2 14 (lD 3) [.s 13] [13],o2 4 (.a (.alloc 3 [.str ByteArray.empty,.bE,.bE])) [] [],o1 3 (.s 12) [12],oz (.l (.store 3)) [.s 4,.s 14] [14]]
def Gr:a_ RO:=[o2 15 (fa 2) [.s 4] [],o2 16 (ld 1) [.s 15] [15],o2 17 ln [.s 16] [],o1 18 (.k (.int .i64 0)) []]
def Ef:a_ RO:=[o2 32 (bI .add) [.s 10,.k (.int .i64 1)] [],o1 10 (.s 32) [32]]
def U2:RC:=.block 2 (.gh (.keep [0,3,8,9,10,16,17,18] []) (.loop D6))
def LS:RC:=.hg (.seq (.ops [o2 11 (bI .lss) [.s 10,.s 9] []]) (.seq (.cond (.s 11) .skip (.exit 0)) (.seq (.block 1 (.seq (.ops IJ) (.seq (.ops Gr) U2))) (.ops Ef)))) (.keep [0,8,9,10] [])
def Qa:a_ RO:=[o2 7 (fa 0) [.s 1] [1],o2 8 (ld 1) [.s 7] [7],o2 9 ln [.s 8] [],o1 10 (.k (.int .i64 0)) []]
def U1:RC:=.block 0 (.gh (.keep [0,8,9,10] []) (.loop LS))
def text:RF:=⟨33,[],.seq (.ops Qa) U1⟩
section
variable {S:Sys}
abbrev I1 (ps:Sl cr) (i:Int) (u:a_ (a_ V)) (more:Bool) (y:Nat):St:=⟨[(0,.yl y),Cv 8 ps,Iv 9 (len ps),Iv 10 i],[],[],u,more,y⟩
abbrev I2 (ps:Sl cr) (i:Int) (es:Sl Event) (j:Int) (u:a_ (a_ V)) (more:Bool) (y:Nat):St:=⟨[(0,.yl y),Iv 3 i,Cv 8 ps,Iv 9 (len ps),Iv 10 i,Cv 16 es,Iv 17 (len es),Iv 18 j],[],[],u,more,y⟩
abbrev S2 (ps:Sl cr) (i:Int) (es:Sl Event) (j:Int) (b:Bool) (u:a_ (a_ V)) (more:Bool) (y:Nat):St:=⟨[(0,.yl y),Iv 3 i,Cv 8 ps,Iv 9 (len ps),Iv 10 i,Cv 16 es,Iv 17 (len es),Iv 18 j,Bv 19 b],[],[],u,more,y⟩
theorem RS (ps:Sl cr) (i:Int) (es:Sl Event) (j:Int) (u:a_ (a_ V)) (more:Bool) (y:Nat) (B:decide (j<len es)=false) :
 rn S.bare mg some (.rc D6) [] (I2 ps i es j u more y)=some (.exit 2,S2 ps i es j false u more y):=by
 refine Le.get ?_;refine Kf (n:=7) (fo':=.rc (.cond (.s 19) .skip (.exit 2))) (fs':=[.seq (.seq (.block 3 (.seq (.ops Af) (.seq (.ops xJ) (.cond (.s 30) .ret .skip)))) (.ops vq)),.gst (.keep [0,3,8,9,10,16,17,18] [])]) (λb=>S2 ps i es j b u more y) B Ze ?_
 exact Le.of_eq Ze
theorem TZ (ps:Sl cr) (i:Int) (es:Sl Event) (j:Int) (e:Event) (u:a_ (a_ V)) (more:Bool) (y:Nat) (B:decide (j<len es)=true) (D:idx es j=some e) (G:(!(more || !u.isEmpty))=false) :
 rn S.bare mg some (.rc D6) [] (I2 ps i es j ([enc (⟨i,IntKind.wrap .i64 (j+1)⟩:bg),enc e]::u) more y)=some (.norm,I2 ps i es (IntKind.wrap .i64 (j+1)) u more y):=by
 refine Le.get ?_;refine Kt (n:=7) (fo':=.rc (.cond (.s 19) .skip (.exit 2))) (fs':=[.seq (.seq (.block 3 (.seq (.ops Af) (.seq (.ops xJ) (.cond (.s 30) .ret .skip)))) (.ops vq)),.gst (.keep [0,3,8,9,10,16,17,18] [])]) (λb=>S2 ps i es j b ([enc (⟨i,IntKind.wrap .i64 (j+1)⟩:bg),enc e]::u) more y) B Ze ?_
 refine NZ D ?_;refine Np 8 false [] (Af.drop 1) [.seq (.seq (.ops xJ) (.cond (.s 30) .ret .skip)),.blk 3,.seq (.ops vq),.gst (.keep [0,3,8,9,10,16,17,18] [])] ⟨[(0,.yl y),Iv 3 i,Cv 8 ps,Iv 9 (len ps),Iv 10 i,Cv 16 es,Iv 17 (len es),Iv 18 j,Bv 19 true,Iv 20 j],[],[],([enc (⟨i,IntKind.wrap .i64 (j+1)⟩:bg),enc e]::u),more,y⟩ .i64 rfl Ze λx h1=>?_
 obtain rfl:x=e:=by grind
 refine R2 1 false [] (Af.drop 3) [.seq (.seq (.ops xJ) (.cond (.s 30) .ret .skip)),.blk 3,.seq (.ops vq),.gst (.keep [0,3,8,9,10,16,17,18] [])] ⟨[(0,.yl y),Iv 3 i,Cv 8 ps,Iv 9 (len ps),Iv 10 i,Cv 16 es,Iv 17 (len es),Iv 18 j,Bv 19 true,Iv 20 j,Cv 22 x],[],[],([enc (⟨i,IntKind.wrap .i64 (j+1)⟩:bg),enc x]::u),more,y⟩ [iv 0,iv 0,iv 0,iv 0,.v .bE] rfl (by simp only[bJ,wo,oV,qw,oS,qy,sD,qE,rV,oZ,qq,we,rQ,rS,sy,rJ,uk,uq,qA,rO,SV.cw];rfl) Ze ?_
 refine Ast 1 false [] (Af.drop 5) [.seq (.seq (.ops xJ) (.cond (.s 30) .ret .skip)),.blk 3,.seq (.ops vq),.gst (.keep [0,3,8,9,10,16,17,18] [])] ⟨[(0,.yl y),Iv 3 i,Cv 8 ps,Iv 9 (len ps),Iv 10 i,Cv 16 es,Iv 17 (len es),Iv 18 j,Bv 19 true,Cv 22 x,Pv 6,Iv 5 j],[Xb 6 (⟨0,0,0,0,.nil⟩:Event)],[],([enc (⟨i,IntKind.wrap .i64 (j+1)⟩:bg),enc x]::u),more,y⟩ 6 0 x [iv 0,iv 0,iv 0,iv 0,.v .bE] ((cells x).map .v) rfl Ze ?_
 refine UB (n:=10) (q:=xJ.drop 6) (fs':=[.seq (.cond (.s 30) .ret .skip),.blk 3,.seq (.ops vq),.gst (.keep [0,3,8,9,10,16,17,18] [])]) (st:=⟨[(0,.yl y),Iv 3 i,Cv 8 ps,Iv 9 (len ps),Iv 10 i,Cv 16 es,Iv 17 (len es),Iv 18 j,Bv 19 true,(23,.yl y),Cv 27 (⟨i,IntKind.wrap .i64 (j+1)⟩:bg),Cv 28 x],[Xb 6 x],[],([enc (⟨i,IntKind.wrap .i64 (j+1)⟩:bg),enc x]::u),more,y⟩) (vs:=[cv (⟨i,IntKind.wrap .i64 (j+1)⟩:bg),cv x]) Ze rfl Ze Ze rfl rfl ?_
 refine Kf (n:=3) (fo':=.rc (.cond (.s 30) .ret .skip)) (fs':=[.blk 3,.seq (.ops vq),.gst (.keep [0,3,8,9,10,16,17,18] [])]) (λb=>⟨[(0,.yl y),Iv 3 i,Cv 8 ps,Iv 9 (len ps),Iv 10 i,Cv 16 es,Iv 17 (len es),Iv 18 j,Bv 19 true,Bv 30 b],[Xb 6 x],[],u,more,y⟩) G Ze ?_
 exact Le.of_eq Ze
theorem Q1 (ps:Sl cr) (i:Int) (es:Sl Event) (j:Int) (e:Event) (u:a_ (a_ V)) (more:Bool) (y:Nat) (B:decide (j<len es)=true) (D:idx es j=some e) (G:(!(more || !u.isEmpty))=true) :
 rn S.bare mg some (.rc D6) [] (I2 ps i es j ([enc (⟨i,IntKind.wrap .i64 (j+1)⟩:bg),enc e]::u) more y)=some (.ret,⟨[(0,.yl y),Iv 3 i,Cv 8 ps,Iv 9 (len ps),Iv 10 i,Cv 16 es,Iv 17 (len es),Iv 18 j,Bv 19 true,Bv 30 true],[Xb 6 e],[],u,more,y⟩):=by
 refine Le.get ?_;refine Kt (n:=7) (fo':=.rc (.cond (.s 19) .skip (.exit 2))) (fs':=[.seq (.seq (.block 3 (.seq (.ops Af) (.seq (.ops xJ) (.cond (.s 30) .ret .skip)))) (.ops vq)),.gst (.keep [0,3,8,9,10,16,17,18] [])]) (λb=>S2 ps i es j b ([enc (⟨i,IntKind.wrap .i64 (j+1)⟩:bg),enc e]::u) more y) B Ze ?_
 refine NZ D ?_;refine Np 8 false [] (Af.drop 1) [.seq (.seq (.ops xJ) (.cond (.s 30) .ret .skip)),.blk 3,.seq (.ops vq),.gst (.keep [0,3,8,9,10,16,17,18] [])] ⟨[(0,.yl y),Iv 3 i,Cv 8 ps,Iv 9 (len ps),Iv 10 i,Cv 16 es,Iv 17 (len es),Iv 18 j,Bv 19 true,Iv 20 j],[],[],([enc (⟨i,IntKind.wrap .i64 (j+1)⟩:bg),enc e]::u),more,y⟩ .i64 rfl Ze λx h1=>?_
 obtain rfl:x=e:=by grind
 refine R2 1 false [] (Af.drop 3) [.seq (.seq (.ops xJ) (.cond (.s 30) .ret .skip)),.blk 3,.seq (.ops vq),.gst (.keep [0,3,8,9,10,16,17,18] [])] ⟨[(0,.yl y),Iv 3 i,Cv 8 ps,Iv 9 (len ps),Iv 10 i,Cv 16 es,Iv 17 (len es),Iv 18 j,Bv 19 true,Iv 20 j,Cv 22 x],[],[],([enc (⟨i,IntKind.wrap .i64 (j+1)⟩:bg),enc x]::u),more,y⟩ [iv 0,iv 0,iv 0,iv 0,.v .bE] rfl (by simp only[bJ,wo,oV,qw,oS,qy,sD,qE,rV,oZ,qq,we,rQ,rS,sy,rJ,uk,uq,qA,rO,SV.cw];rfl) Ze ?_
 refine Ast 1 false [] (Af.drop 5) [.seq (.seq (.ops xJ) (.cond (.s 30) .ret .skip)),.blk 3,.seq (.ops vq),.gst (.keep [0,3,8,9,10,16,17,18] [])] ⟨[(0,.yl y),Iv 3 i,Cv 8 ps,Iv 9 (len ps),Iv 10 i,Cv 16 es,Iv 17 (len es),Iv 18 j,Bv 19 true,Cv 22 x,Pv 6,Iv 5 j],[Xb 6 (⟨0,0,0,0,.nil⟩:Event)],[],([enc (⟨i,IntKind.wrap .i64 (j+1)⟩:bg),enc x]::u),more,y⟩ 6 0 x [iv 0,iv 0,iv 0,iv 0,.v .bE] ((cells x).map .v) rfl Ze ?_
 refine UB (n:=10) (q:=xJ.drop 6) (fs':=[.seq (.cond (.s 30) .ret .skip),.blk 3,.seq (.ops vq),.gst (.keep [0,3,8,9,10,16,17,18] [])]) (st:=⟨[(0,.yl y),Iv 3 i,Cv 8 ps,Iv 9 (len ps),Iv 10 i,Cv 16 es,Iv 17 (len es),Iv 18 j,Bv 19 true,(23,.yl y),Cv 27 (⟨i,IntKind.wrap .i64 (j+1)⟩:bg),Cv 28 x],[Xb 6 x],[],([enc (⟨i,IntKind.wrap .i64 (j+1)⟩:bg),enc x]::u),more,y⟩) (vs:=[cv (⟨i,IntKind.wrap .i64 (j+1)⟩:bg),cv x]) Ze rfl Ze Ze rfl rfl ?_
 refine Kt (n:=3) (fo':=.rc (.cond (.s 30) .ret .skip)) (fs':=[.blk 3,.seq (.ops vq),.gst (.keep [0,3,8,9,10,16,17,18] [])]) (λb=>⟨[(0,.yl y),Iv 3 i,Cv 8 ps,Iv 9 (len ps),Iv 10 i,Cv 16 es,Iv 17 (len es),Iv 18 j,Bv 19 true,Bv 30 b],[Xb 6 x],[],u,more,y⟩) G Ze ?_
 exact Le.of_eq Ze
abbrev S1 (ps:Sl cr) (i:Int) (b:Bool) (u:a_ (a_ V)) (more:Bool) (y:Nat):St:=⟨[(0,.yl y),Cv 8 ps,Iv 9 (len ps),Iv 10 i,Bv 11 b],[],[],u,more,y⟩
theorem SH (ps:Sl cr) (i:Int) (u:a_ (a_ V)) (more:Bool) (y:Nat) (B:decide (i<len ps)=false) :
 rn S.bare mg some (.rc LS) [] (I1 ps i u more y)=some (.exit 0,S1 ps i false u more y):=by
 refine Le.get ?_;refine Kf (n:=7) (fo':=.rc (.cond (.s 11) .skip (.exit 0))) (fs':=[.seq (.seq (.block 1 (.seq (.ops IJ) (.seq (.ops Gr) U2))) (.ops Ef)),.gst (.keep [0,8,9,10] [])]) (λb=>S1 ps i b u more y) B Ze ?_
 exact Le.of_eq Ze
def Pg:a_ Fm:=[.blk 2,.blk 1,.seq (.ops Ef),.gst (.keep [0,8,9,10] [])]
theorem OG (ps:Sl cr) (i:Int) (p:cr) (u:a_ (a_ V)) (more:Bool) (y:Nat) (r:Out×St) (B:decide (i<len ps)=true) (D:idx ps i=some p)
 (h:rn S.bare mg some (.rc (.loop D6)) Pg (I2 ps i p.events 0 u more y)=some r):rn S.bare mg some (.rc LS) [] (I1 ps i u more y)=some r:=by
 refine Le.get ?_;refine Kt (n:=7) (fo':=.rc (.cond (.s 11) .skip (.exit 0))) (fs':=[.seq (.seq (.block 1 (.seq (.ops IJ) (.seq (.ops Gr) U2))) (.ops Ef)),.gst (.keep [0,8,9,10] [])]) (λb=>S1 ps i b u more y) B Ze ?_
 refine NZ D ?_;refine Np 8 false [] (IJ.drop 1) [.seq (.seq (.ops Gr) U2),.blk 1,.seq (.ops Ef),.gst (.keep [0,8,9,10] [])] ⟨[(0,.yl y),Cv 8 ps,Iv 9 (len ps),Iv 10 i,Bv 11 true,Iv 12 i],[],[],u,more,y⟩ .i64 rfl Ze λx h1=>?_
 obtain rfl:x=p:=by grind
 refine R2 1 false [] (IJ.drop 3) [.seq (.seq (.ops Gr) U2),.blk 1,.seq (.ops Ef),.gst (.keep [0,8,9,10] [])] ⟨[(0,.yl y),Cv 8 ps,Iv 9 (len ps),Iv 10 i,Bv 11 true,Iv 12 i,Cv 14 x],[],[],u,more,y⟩ [.v (.str ByteArray.empty),.v .bE,.v .bE] rfl (by simp only[bJ,wo,oV,qw,oS,qy,sD,qE,rV,oZ,qq,we,rQ,rS,sy,rJ,uk,uq,qA,rO,SV.cw];rfl) Ze ?_
 refine Ast 1 false [] (IJ.drop 5) [.seq (.seq (.ops Gr) U2),.blk 1,.seq (.ops Ef),.gst (.keep [0,8,9,10] [])] ⟨[(0,.yl y),Cv 8 ps,Iv 9 (len ps),Iv 10 i,Bv 11 true,Cv 14 x,Pv 4,Iv 3 i],[Xb 4 (⟨ByteArray.empty,.nil,.nil⟩:cr)],[],u,more,y⟩ 4 0 x [.v (.str ByteArray.empty),.v .bE,.v .bE] ((cells x).map .v) rfl Ze ?_
 refine SD 6 false [] (Gr.drop 2) [.seq U2,.blk 1,.seq (.ops Ef),.gst (.keep [0,8,9,10] [])] ⟨[(0,.yl y),Cv 8 ps,Iv 9 (len ps),Iv 10 i,Bv 11 true,Pv 4,Iv 3 i,Cv 16 x.events],[Xb 4 x],[],u,more,y⟩ x.events rfl Ze ?_
 refine yB (n:=5) (fo':=.rc (.loop D6)) (fs':=Pg) (st':=I2 ps i x.events 0 u more y) Ze (Le.of_eq h)
theorem Qz (ps:Sl cr) (i:Int) (es:Sl Event) (j:Int) (u:a_ (a_ V)) (more:Bool) (y:Nat) :
 rn S.bare mg some (.ex 2) Pg (S2 ps i es j false u more y)=some (.norm,I1 ps (IntKind.wrap .i64 (i+1)) u more y):=by kernel_rfl
theorem wrap_small (n:Nat) (h:n<9223372036854775807):IntKind.wrap .i64 ((n:Int)+1)=((n+1:Nat):Int):=by
 simp[IntKind.wrap,IntKind.bits,IntKind.signed];omega
abbrev eI (x:bg×Event):a_ V:=[enc x.1,enc x.2]
theorem Cb.step {x:a_ V} {B rest:a_ (a_ V)} {more:Bool} (h:Cb B (x::rest) more):∃u,B=x::u/\((!(more || !u.isEmpty))=false/\Cb u rest more\/(!(more || !u.isEmpty))=true/\u=[]):=by
 rcases h with⟨rfl,rfl⟩|⟨rfl,t,r,hr⟩
 .exact⟨rest,rfl,.inl ⟨rfl,.inl ⟨rfl,rfl⟩⟩⟩
 cases B with
 | nil=>grind
 | cons w B=>
  simp only[List.cons_append,List.cons.injEq]at hr;obtain⟨rfl,rfl⟩:=hr;refine⟨B,rfl,?_⟩
  cases B with
  | nil=>grind
  | cons z C=>exact .inl ⟨rfl,.inr ⟨rfl,by simp,r,rfl⟩⟩
theorem FT {α:Type} {s:Sl α} {j:Nat} {x:α} {r:a_ α} (h:s.l.drop j=x::r):idx s (j:Int)=some x/\decide ((j:Int)<len s)=true/\s.l.drop (j+1)=r:=by
 have h1:j<s.l.length:=by
  apply Classical.byContradiction;intro u;rw[List.drop_eq_nil_of_le Za]at h;cases h
 have t:=List.drop_eq_getElem_cons h1;rw[t]at h;simp only[List.cons.injEq]at h;refine⟨?_,by grind,h.2⟩
 unfold idx;simp_all
variable {Q:Out×St->bf (Out×St)} {fs:a_ Fm}
theorem inner (ps:Sl cr) (i:Int) (es:Sl Event) (G:es.l.length<9223372036854775807) (more:Bool) (y:Nat) (R:a_ (a_ V)):∀(rem:a_ Event) (j:Nat),es.l.drop j=rem->∀B,Cb B ((gU i j rem).map eI++R) more ->
 (∃(u:a_ (a_ V)) (J:Int),Cb u R more/\rn S.bare mg Q (.rc (.loop D6)) fs (I2 ps i es j B more y)=rn S.bare mg Q (.ex 2) fs (S2 ps i es J false u more y)) \/
 (∃st':St,st'.want=[]/\rn S.bare mg Q (.rc (.loop D6)) fs (I2 ps i es j B more y)=Q (.ret,st'))
 | [],j,hd,B,D=>by
  have h1:decide ((j:Int)<len es)=false:=by
   simp_all
  exact .inl ⟨B,j,by simpa [gU]using D,DR (RS ps i es j B more y h1)⟩
 | e::rem,j,hd,B,D=>by
  obtain⟨h1,z,C⟩:=FT hd;have T:j<es.l.length:=by grind
  simp only[gU,List.map_cons,List.cons_append]at D;obtain⟨u,rfl,t⟩:=Cb.step D;have I:=wrap_small j Za
  have w:((j:Int)+1)=IntKind.wrap .i64 ((j:Int)+1):=by grind
  rcases t with⟨t,L⟩|⟨t,rfl⟩
  .have k:=TZ (S:=S) ps i es j e u more y z h1 t;rw[<-w]at k;have k2:=Ee (Q:=Q) (fs:=fs) k;have O:=inner ps i es G more y R rem (j+1) C u Zd
   rw[show ((j+1:Nat):Int)=(j:Int)+1 from rfl]at O
   grind
  have k:=Q1 (S:=S) ps i es j e [] more y z h1 t;rw[<-w]at k;exact .inr ⟨_,by rfl,DQ k⟩
theorem outer (ps:Sl cr) (G:ps.l.length<9223372036854775807) (B:∀p∈ps.l,p.events.l.length<9223372036854775807) (more:Bool) (y:Nat):∀(rem:a_ cr) (i:Nat),ps.l.drop i=rem->∀u,Cb u ((eX i rem).map eI) more ->
 rn S.bare mg Qi (.rc (.loop LS)) [.blk 0] (I1 ps i u more y)=some ()
 | [],i,hd,u,D=>by
  have h1:decide ((i:Int)<len ps)=false:=by
   simp_all
  rw[DR (SH ps i u more y h1)];have:u=[]:=by
   rcases D with⟨_,rfl⟩|⟨_,J,r,hr⟩
   .rfl
   have:u=[]:=by cases u with
    | nil=>rfl
    | cons=>simp[eX]at hr
   grind
  subst this;rfl
 | p::rem,i,hd,u,D=>by
  obtain⟨h1,z,C⟩:=FT hd;have L:i<ps.l.length:=by grind
  have I:p∈ps.l:=List.mem_of_mem_drop (i:=i) Zd
  simp only[eX,List.map_append]at D;have t:=wrap_small i Za
  rcases inner (S:=S) (Q:=some) (fs:=Pg) ps i p.events (B p I) more y _ p.events.l 0 rfl u D with⟨w,O,g1,g2⟩|⟨st',g1,g2⟩
  .rw[Qz,t]at g2;rw[Ee (OG ps i p u more y _ z h1 g2)];exact outer ps G B more y rem (i+1) C w g1
  rw[DQ (OG ps i p u more y _ z h1 g2)];simp[Qi,g1]
theorem all (t:Trace) (u:a_ (bg×Event)) (h:iC t=some u) (B:a_ (a_ V)) (more:Bool) (D:Cb B (u.map eI) more) (y:Nat) :
 rn S.bare mg Qi (.rc text.body) [] ⟨vH 0 (([]:a_ V).map .v++.yl y::[V.fptr (cells t)].map .v),[],[],B,more,y⟩=some ():=by
 unfold iC at h;split at h
 .rename_i hk;cases h;simp only[ζh,List.all_eq_true,EL,decide_eq_true_eq]at hk;refine Le.get ?_;refine SD 4 false [] (Qa.drop 2) [.seq U1] ⟨[(0,.yl y),Cv 8 t.procs],[],[],B,more,y⟩ t.procs rfl Ze ?_
  refine yB (n:=5) (fo':=.rc (.loop LS)) (fs':=[.blk 0]) (st':=I1 t.procs 0 B more y) Ze (Le.of_eq ?_)
  exact outer t.procs hk.1 hk.2 more y t.procs.l 0 rfl B D
 simp_all
end
theorem Ix {α:Type} [bz α] {a b:Sl α} (h:cg a=cg b):rows a.l=rows b.l:=by
 cases a <;> cases b <;> first|rfl|(simp only[cg,Sl.k,iY,V.fsl.injEq,true_and,reduceCtorEq]at h;done)|(simp only[cg,Sl.k,iY,V.fsl.injEq,true_and,reduceCtorEq]at h;omega)
theorem E7 (p:Int):∀(es u:a_ Event) (j:Int),rows es=rows u->(gU p j es).map eI=(gU p j u).map eI
 | [],[],_,_=>rfl
 | [],_::_,_,h=>by simp[rows]at h
 | _::_,[],_,h=>by simp[rows]at h
 | e::es,B::u,j,h=>by
  simp only[rows,List.map_cons,List.cons.injEq]at h;have h1:enc e=enc B:=by show V.agg (cells e)=V.agg (cells B);rw[h.1]
  simp only[gU,List.map_cons,eI,h1,E7 p es u (j+1) h.2]
theorem BT:∀(ps u:a_ cr) (i:Int),rows ps=rows u->(eX i ps).map eI=(eX i u).map eI
 | [],[],_,_=>rfl
 | [],_::_,_,h=>by simp[rows]at h
 | _::_,[],_,h=>by simp[rows]at h
 | p::ps,p'::u,i,h=>by
  simp only[rows,List.map_cons,List.cons.injEq]at h;have h1:cg p.events=cg p'.events:=by
   have:=h.1;change [V.str p.name,cg p.vars,cg p.events]=[V.str p'.name,cg p'.vars,cg p'.events]at this
   grind
  simp only[eX,List.map_append,E7 i _ _ 0 (Ix h1),BT ps u (i+1) h.2]
def EG (f:FuncId) (g:FuncId) (a b:a_ V) (xs:a_ (a_ V)):Prop:=∃(t:Trace) (u:a_ (bg×Event)),g=f/\a=[]/\b=[.fptr (cells t)]/\iC t=some u/\xs=u.map eI
theorem EG.uniq {f g:FuncId} {a b:a_ V} {xs ys:a_ (a_ V)} (h:EG f g a b xs) (k:EG f g a b ys):xs=ys:=by
 obtain⟨t,C,rfl,rfl,rfl,h1,rfl⟩:=h;obtain⟨w,z,_,_,B,u,rfl⟩:=k;simp only[List.cons.injEq,V.fptr.injEq,and_true]at B;have D:cg t.procs=cg w.procs:=by
  change [cg t.procs]=[cg w.procs]at B
  grind
 unfold iC at h1 u;split at h1 <;> split at u <;> simp only[ζa,reduceCtorEq]at h1 u;subst h1 u;exact BT _ _ 0 (Ix D)
end trace_events_c1
end Go.VE
namespace Go.VE
open Go.Proofs.YtegogepdjcdfcagGreatDoor
noncomputable section
noncomputable def Kc (f:FuncId):bf Fz:=bif Nat.beq f 55 then some (vG false)else none
noncomputable def Sy:Sys:=⟨E,λn=>n,wC (trace_events_c1.EG 109),yX E,Kc⟩
theorem Td:Sy.prm 55=some (vG false):=by kernel_rfl
theorem SZ:∀f q,Kc f=some q->ou E f q:=by
 intro f q h;unfold Kc at h
 cases h1:Nat.beq f 55 with
 | true=>
  rw[h1]at h;cases h;have:=Nat.eq_of_beq_eq_true h1;subst this;exact QZ false Db Ze Ze (MC Ze)
 | false=>
  rw[h1]at h;cases h
def Tx:pg:=N3 E some (lk IZ)
abbrev cL:bN:=dA Sy Tx
theorem Tk:∃fi,E.ft 109=some fi/\xz E some fi trace_events_c1.text:=Sq Ze
theorem TW:xk Sy Tx where
 fn f rf h:=let ⟨t,h1,u⟩:=MX h;⟨t,some,h1,Db,u⟩
 Aq f w y h:=KX h
 prm:=SZ
theorem QC:∀f a b xs,Sy.items f a b=some xs->iu Sy f a b xs:=by
 intro f a b xs h;obtain⟨t,u,rfl,rfl,rfl,h1,rfl⟩:=IS h;obtain⟨D,w,z⟩:=Tk;exact MG Sy w Db z (Nat.le_of_ble_eq_true rfl) rfl λB more C y=>trace_events_c1.all t u h1 B more C y
theorem xy (t:Trace) (u:a_ (bg×Event)) (h:iC t=some u):Sy.items 109 [] [.fptr (cells t)]=some (u.map λx:bg×Event=>[enc x.1,enc x.2]):=
 Jt ⟨t,u,rfl,rfl,rfl,h,rfl⟩ λz w=>w.uniq ⟨t,u,rfl,rfl,rfl,h,rfl⟩
theorem Mb:Sy.Aq 4 []=some (.bool true):=KO (HF rfl ⟨1,[],by kernel_rfl⟩)
end
end Go.VE
namespace Go.VE
noncomputable section
def rj:bf Bool:=some true
instance QM:Fc Sy cL rj:=⟨4,[],λr:Bool=>[.bool r],true,lz.Aq Ze Ze Mb⟩
namespace fe
def bA (s0:Sl Event) (B:Int) (u:Int) (p1:Event->bf Bool):bf (Fw Int Unit Int):=
 bt (decide (u<B))
 ((idx s0 u).bind λt=>
 (p1 t).bind λw=>
 bt w
 (some (.r u))
 (some (.n (IntKind.wrap .i64 (u+1)))))
 (some (.x ()))
def W1 (s0:Sl Event) (u B:Int) (p1:Event->bf Bool):bf Int:=
 (bM (λq:Int=>bA s0 u q p1) B).bind (Fw.elim
 (λe=>some (-1))
 (λe=>some e))
end fe
def fe (s0:Sl Event) (p1:Event->bf Bool):bf Int:=
 fe.W1 s0 (len s0) 0 p1
open fe in
abbrev uL (g1:FuncId) (e1:a_ V) (p1:Event->bf Bool) (h1:nF Sy cL g1 [] e1 (λz:Event=>[enc z]) (λr:Bool=>[.bool r]) p1 true) (s0:Sl Event):Fc Sy cL (fe s0 p1):=Fc.M 51 [enc s0,.clo g1 [] e1] (bZ 9 s0 (dN 5 (λu=>(bJ [Cv 0 s0,(1,.v (.clo g1 [] e1)),Iv 7 (len s0),Iv 8 u] [])) (λt=>(0,(bJ [] []))) (λt=>(bJ [Iv 4 t] [])) (λu=>bG 7 9 (cu 16 λw _=>wI 1 h1.f w λB _=>bG 2 16 bn bn) bn) (λt=>bn) (λt=>bn)))
def gp (s0:Sl Event) (p1:Event->bf Bool):bf Bool:=
 (fe s0 p1).bind λt=>
 some (decide (t>=0))
abbrev mX (g1:FuncId) (e1:a_ V) (p1:Event->bf Bool) (h1:nF Sy cL g1 [] e1 (λz:Event=>[enc z]) (λr:Bool=>[.bool r]) p1 true) (s0:Sl Event):Fc Sy cL (gp s0 p1):=Fc.M 22 [enc s0,.clo g1 [] e1] (bL (F:=uL g1 e1 p1 h1 s0) 9 λt _=>bn)
def pP (u:Event):bf Bool:=
 some (decide ((len u.assign)>12))
instance Pe (u:Event):Fc Sy cL (pP u):=Fc.M 23 [enc u] (dR 2 1 u (bZ 7 u.assign bn))
namespace fT
def bA (s0:Sl Var) (B:Int) (u:Int) (p1:Var->bf Bool):bf (Fw Int Unit Int):=
 bt (decide (u<B))
 ((idx s0 u).bind λt=>
 (p1 t).bind λw=>
 bt w
 (some (.r u))
 (some (.n (IntKind.wrap .i64 (u+1)))))
 (some (.x ()))
def W1 (s0:Sl Var) (u B:Int) (p1:Var->bf Bool):bf Int:=
 (bM (λq:Int=>bA s0 u q p1) B).bind (Fw.elim
 (λe=>some (-1))
 (λe=>some e))
end fT
def fT (s0:Sl Var) (p1:Var->bf Bool):bf Int:=
 fT.W1 s0 (len s0) 0 p1
open fT in
abbrev vK (g1:FuncId) (e1:a_ V) (p1:Var->bf Bool) (h1:nF Sy cL g1 [] e1 (λz:Var=>[enc z]) (λr:Bool=>[.bool r]) p1 true) (s0:Sl Var):Fc Sy cL (fT s0 p1):=Fc.M 52 [enc s0,.clo g1 [] e1] (bZ 9 s0 (dN 5 (λu=>(bJ [Cv 0 s0,(1,.v (.clo g1 [] e1)),Iv 7 (len s0),Iv 8 u] [])) (λt=>(0,(bJ [] []))) (λt=>(bJ [Iv 4 t] [])) (λu=>bG 7 9 (cu 16 λw _=>wI 1 h1.f w λB _=>bG 2 16 bn bn) bn) (λt=>bn) (λt=>bn)))
def fS (s0:Sl Var) (p1:Var->bf Bool):bf Bool:=
 (fT s0 p1).bind λt=>
 some (decide (t>=0))
abbrev od (g1:FuncId) (e1:a_ V) (p1:Var->bf Bool) (h1:nF Sy cL g1 [] e1 (λz:Var=>[enc z]) (λr:Bool=>[.bool r]) p1 true) (s0:Sl Var):Fc Sy cL (fS s0 p1):=Fc.M 24 [enc s0,.clo g1 [] e1] (bL (F:=vK g1 e1 p1 h1 s0) 9 λt _=>bn)
def pW (u:Var):bf Bool:=
 some (decide (((ByteArray.size u.name:Nat):Int)>40))
instance Pq (u:Var):Fc Sy cL (pW u):=Fc.M 25 [enc u] (bn)
namespace iH
def bA (u:Int) (T:Sl cr) (D:Int) (U:Trace) (O B:Int):bf (Fw (Int×Int) Unit Unit):=
 bt (decide (B<D))
 ((idx T B).bind λt=>
 (bt (decide ((IntKind.wrap .i64 (O+(len t.events)))>u))
 (some true)
 (some (decide ((len t.vars)>12))):bf Bool).bind λw=>
 (bt w
 (some true)
 (some (decide (((ByteArray.size t.name:Nat):Int)>40))):bf Bool).bind λC=>
 (bt C
 (some true)
 ((gp t.events (λz=>pP z)).bind λG=>
 some G):bf Bool).bind λI=>
 (bt I
 (some true)
 ((fS t.vars (λz=>pW z)).bind λJ=>
 some J):bf Bool).bind λL=>
 bt L
 (some (.r ()))
 (some (.n (IntKind.wrap .i64 (O+(len t.events)),IntKind.wrap .i64 (B+1)))))
 (some (.x ()))
def W1 (u J:Int) (O:Sl cr) (D G:Int) (B:Trace):bf Bool:=
 (bM (λq:Int×Int=>bA u O D B q.1 q.2) (J,G)).bind (Fw.elim
 (λe=>some (decide ((len B.procs)<=10)))
 (λe=>some false))
end iH
def iH (B:Trace) (u:Int):bf Bool:=
 iH.W1 u 0 B.procs (len B.procs) 0 B
open iH in
instance R8 (B:Trace) (u:Int):Fc Sy cL (iH B u):=Fc.M 5 [enc B,.int .i64 u] (dR 2 2 B (bZ 13 B.procs (dN 5 (λw=>(bJ [Iv 1 u,Pv 2,Iv 5 w.1,Cv 9 B.procs,Iv 10 (len B.procs),Iv 11 w.2] [Xb 2 B])) (λC=>(0,(bJ [Pv 2] [Xb 2 B]))) (λC=>(bJ [Bv 4 false] [])) (λw=>bG 7 12 (cu 7 λt _=>iT 2 7 0 t (bZ 7 t.events (cz 10 5 [23] 28 (bG 10 23 (bD 5) (bZ 2 t.vars (bD 2))) λD=>cz 1 5 [29] 34 (bG 1 29 (bD 5) (bD 5)) λG=>cz 1 4 [35] 39 (bG 1 35 (bD 4) (bL (F:=mX 23 [] (λz=>pP z) nF.vl t.events) 2 λI _=>bD 1)) λJ=>cz 1 4 [7,40] 44 (bG 1 40 (bD 4) (bL (F:=od 25 [] (λz=>pW z) nF.vl t.vars) 2 λL _=>bD 1)) λO=>bG 2 44 bn bn))) bn) (λC=>bZ 6 B.procs bn) (λC=>bn))))
namespace fH
def bA (s0:Sl (Sl Int)) (B:Int) (u:Int) (p1:(Sl Int)->bf Bool):bf (Fw Int Unit Int):=
 bt (decide (u<B))
 ((idx s0 u).bind λt=>
 (p1 t).bind λw=>
 bt w
 (some (.r u))
 (some (.n (IntKind.wrap .i64 (u+1)))))
 (some (.x ()))
def W1 (s0:Sl (Sl Int)) (u B:Int) (p1:(Sl Int)->bf Bool):bf Int:=
 (bM (λq:Int=>bA s0 u q p1) B).bind (Fw.elim
 (λe=>some (-1))
 (λe=>some e))
end fH
def fH (s0:Sl (Sl Int)) (p1:(Sl Int)->bf Bool):bf Int:=
 fH.W1 s0 (len s0) 0 p1
open fH in
abbrev uY (g1:FuncId) (e1:a_ V) (p1:(Sl Int)->bf Bool) (h1:nF Sy cL g1 [] e1 (λz:Sl Int=>[enc z]) (λr:Bool=>[.bool r]) p1 true) (s0:Sl (Sl Int)):Fc Sy cL (fH s0 p1):=Fc.M 44 [enc s0,.clo g1 [] e1] (bZ 9 s0 (dN 5 (λu=>(bJ [Cv 0 s0,(1,.v (.clo g1 [] e1)),Iv 7 (len s0),Iv 8 u] [])) (λt=>(0,(bJ [] []))) (λt=>(bJ [Iv 4 t] [])) (λu=>bG 7 9 (cu 16 λw _=>wI 1 h1.f w λB _=>bG 2 16 bn bn) bn) (λt=>bn) (λt=>bn)))
def c6 (s0:Sl (Sl Int)) (p1:(Sl Int)->bf Bool):bf Bool:=
 (fH s0 p1).bind λt=>
 some (decide (t>=0))
abbrev iI (g1:FuncId) (e1:a_ V) (p1:(Sl Int)->bf Bool) (h1:nF Sy cL g1 [] e1 (λz:Sl Int=>[enc z]) (λr:Bool=>[.bool r]) p1 true) (s0:Sl (Sl Int)):Fc Sy cL (c6 s0 p1):=Fc.M 16 [enc s0,.clo g1 [] e1] (bL (F:=uY g1 e1 p1 h1 s0) 9 λt _=>bn)
def oc (u:Sl Int):bf Bool:=
 some (decide ((len u)>12))
instance Mp (u:Sl Int):Fc Sy cL (oc u):=Fc.M 26 [enc u] (bZ 8 u bn)
def oB (B:Sl (Sl Int)):bf Bool:=
 (bt (decide ((len B)<=60))
 ((c6 B (λz=>oc z)).bind λt=>
 some (!t))
 (some false):bf Bool).bind λu=>
 some u
instance Qx (u:Sl (Sl Int)):Fc Sy cL (oB u):=Fc.M 6 [enc u] (bZ 8 u (cz 2 4 [0,6] 10 (bG 2 6 (bL (F:=iI 26 [] (λz=>oc z) nF.vl u) 1 λt _=>bD 2) (bD 4)) λw=>bn))
def lW (D B u:Int):bf Bool:=
 (bt (decide (D>=B))
 (some (decide (D<=u)))
 (some false):bf Bool).bind λt=>
 some t
instance Uk (D B u:Int):Fc Sy cL (lW D B u):=Fc.M 79 [.int .i64 D,.int .i64 B,.int .i64 u] (cz 11 4 [0,2,10] 14 (bG 11 10 (bD 4) (bD 4)) λt=>bn)
def oD (u:Int):bf Bool:=
 (bt (decide (u>=97))
 (some (decide (u<=122)))
 (some false):bf Bool).bind λt=>
 (bt t
 (some true)
 ((bt (decide (u>=65))
 (some (decide (u<=90)))
 (some false):bf Bool).bind λw=>
 some w):bf Bool).bind λz=>
 some z
instance PZ (u:Int):Fc Sy cL (oD u):=Fc.M 141 [.int .u8 u] (cz 10 3 [5] 8 (bG 10 5 (bD 3) (bD 3)) λt=>cz 1 7 [0,9] 16 (bG 1 9 (bD 7) (cz 3 3 [0,12] 15 (bG 3 12 (bD 3) (bD 3)) λw=>bD 1)) λz=>bn)
def sM (u:Int):bf Bool:=
 (bt (decide (u>=48))
 (some (decide (u<=57)))
 (some false):bf Bool).bind λt=>
 some t
instance Re (u:Int):Fc Sy cL (sM u):=Fc.M 142 [.int .u8 u] (cz 10 3 [0,5] 8 (bG 10 5 (bD 3) (bD 3)) λt=>bn)
namespace fF
def bA (s0:ByteArray) (B:Int) (u:Int):bf (Fw Int Unit Unit):=
 bt (decide (u<B))
 ((jV s0 u).bind λz=>
 (oD z).bind λC=>
 (bt C
 (some false)
 ((jV s0 u).bind λD=>
 (sM D).bind λG=>
 some (!G)):bf Bool).bind λI=>
 (bt I
 ((jV s0 u).bind λt=>
 some (!(t==95)))
 (some false):bf Bool).bind λw=>
 bt w
 (some (.r ()))
 (some (.n (IntKind.wrap .i64 (u+1)))))
 (some (.x ()))
def W1 (s0:ByteArray) (u B:Int):bf Bool:=
 (bM (λq:Int=>bA s0 u q) B).bind (Fw.elim
 (λe=>some true)
 (λe=>some false))
end fF
def fF (s0:ByteArray):bf Bool:=
 (bt (ByteArray.toList s0==ByteArray.toList ByteArray.empty)
 (some true)
 (some (decide (((ByteArray.size s0:Nat):Int)>16))):bf Bool).bind λt=>
 (bt t
 (some true)
 ((jV s0 0).bind λu=>
 (oD u).bind λw=>
 some (!w)):bf Bool).bind λz=>
 bt z
 (some false)
 (fF.W1 s0 ((ByteArray.size s0:Nat):Int) 0)
open fF in
instance QT (s0:ByteArray):Fc Sy cL (fF s0):=Fc.M 105 [.str s0] (cz 11 4 [6] 10 (bG 11 6 (bD 4) (bD 4)) λB=>cz 1 5 [11] 16 (bG 1 11 (bD 5) (yU 1 .i64 λC _=>bL 0 λD _=>bD 2)) λG=>bG 2 16 bn (dN 13 (λu=>(bJ [(0,.v (.str s0)),Iv 18 ((ByteArray.size s0:Nat):Int),Iv 19 u] [])) (λt=>(0,(bJ [] []))) (λt=>(bJ [Bv 2 false] [])) (λu=>bG 7 20 (yU 15 .i64 λI _=>bL 0 λJ _=>cz 2 6 [27] 33 (ey 2 27 (bD 6) (yU 2 .i64 λL _=>bL 0 λO _=>bD 2)) λQ=>cz 1 5 [3,34] 39 (bG 1 34 (yU 2 .i64 λw _=>bD 2) (bD 5)) λz=>bG 2 39 bn bn) bn) (λt=>bn) (λt=>bn)))
def iS (u B:cr):bf Bool:=
 some (ByteArray.toList u.name==ByteArray.toList B.name)
instance Hf (u B:cr):Fc Sy cL (iS u B):=Fc.M 107 [enc u,.fptr (cells B)] (dR 2 2 u bn)
namespace fD
def bA (s0:Sl cr) (B:Int) (u:Int) (p1:cr->bf Bool):bf (Fw Int Unit Int):=
 bt (decide (u<B))
 ((idx s0 u).bind λt=>
 (p1 t).bind λw=>
 bt w
 (some (.r u))
 (some (.n (IntKind.wrap .i64 (u+1)))))
 (some (.x ()))
def W1 (s0:Sl cr) (u B:Int) (p1:cr->bf Bool):bf Int:=
 (bM (λq:Int=>bA s0 u q p1) B).bind (Fw.elim
 (λe=>some (-1))
 (λe=>some e))
end fD
def fD (s0:Sl cr) (p1:cr->bf Bool):bf Int:=
 fD.W1 s0 (len s0) 0 p1
open fD in
abbrev uX (g1:FuncId) (e1:a_ V) (p1:cr->bf Bool) (h1:nF Sy cL g1 [] e1 (λz:cr=>[enc z]) (λr:Bool=>[.bool r]) p1 true) (s0:Sl cr):Fc Sy cL (fD s0 p1):=Fc.M 143 [enc s0,.clo g1 [] e1] (bZ 9 s0 (dN 5 (λu=>(bJ [Cv 0 s0,(1,.v (.clo g1 [] e1)),Iv 7 (len s0),Iv 8 u] [])) (λt=>(0,(bJ [] []))) (λt=>(bJ [Iv 4 t] [])) (λu=>bG 7 9 (cu 16 λw _=>wI 1 h1.f w λB _=>bG 2 16 bn bn) bn) (λt=>bn) (λt=>bn)))
def gH (s0:Sl cr) (p1:cr->bf Bool):bf Bool:=
 (fD s0 p1).bind λt=>
 some (decide (t>=0))
abbrev tQ (g1:FuncId) (e1:a_ V) (p1:cr->bf Bool) (h1:nF Sy cL g1 [] e1 (λz:cr=>[enc z]) (λr:Bool=>[.bool r]) p1 true) (s0:Sl cr):Fc Sy cL (gH s0 p1):=Fc.M 106 [enc s0,.clo g1 [] e1] (bL (F:=uX g1 e1 p1 h1 s0) 9 λt _=>bn)
def iR (u B:Var):bf Bool:=
 some (ByteArray.toList u.name==ByteArray.toList B.name)
instance He (u B:Var):Fc Sy cL (iR u B):=Fc.M 108 [enc u,.fptr (cells B)] (bn)
namespace dX
def bA (D:Sl Var) (G:Int) (J:cr) (u:Int):bf (Fw Int Unit Int):=
 bt (decide (u<G))
 ((idx D u).bind λt=>
 (fF t.name).bind λC=>
 (bt C
 ((jD J.vars none (some u)).bind λI=>
 (fS I (λz=>iR z t)).bind λL=>
 some L)
 (some true):bf Bool).bind λw=>
 bt w
 (some (.r 13))
 ((lW t.init_ (-1073741824) 1073741824).bind λB=>
 bt B
 (some (.n (IntKind.wrap .i64 (u+1))))
 (some (.r 2))))
 (some (.x ()))
def W1 (B:Sl Var) (D G:Int) (u:cr):bf Int:=
 (bM (λq:Int=>bA B D u q) G).bind (Fw.elim
 (λe=>bt (decide ((len u.events)>64))
 (some 5)
 (some 0))
 (λe=>some e))
end dX
def dX (D:Trace) (p1:Int):bf Int:=
 (idx D.procs p1).bind λt=>
 (fF t.name).bind λu=>
 (bt u
 ((jD D.procs none (some p1)).bind λw=>
 (gH w (λz=>iS z t)).bind λB=>
 some B)
 (some true):bf Bool).bind λC=>
 bt C
 (some 13)
 (bt (decide ((len t.vars)>8))
 (some 5)
 (dX.W1 t.vars (len t.vars) 0 t))
open dX in
instance Jk (D:Trace) (p1:Int):Fc Sy cL (dX D p1):=Fc.M 80 [enc D,.int .i64 p1] (dR 2 2 D (cu 8 λt _=>iT 2 5 0 t (bL 8 λL _=>cz 2 7 [1,2,18] 25 (ey 2 18 (Jj 3 false true [.int .i64 p1] λC _=>jf (F:=tQ 107 [.fptr (cells t)] (λz=>iS z t) nF.vl C) 1 λO _=>bD 1) (bD 7)) λQ=>bG 3 13 bn (bZ 5 t.vars (bG 4 26 bn (bZ 9 t.vars (dN 5 (λw=>(bJ [Pv 5,Cv 32 t.vars,Iv 33 (len t.vars),Iv 34 w] [Xb 5 t])) (λu=>(1,(bJ [Pv 5] [Xb 5 t]))) (λu=>(bJ [Iv 4 u] [])) (λw=>bG 7 35 (cu 8 λB _=>bL 11 λS _=>cz 2 7 [6,44] 51 (ey 2 44 (Jj 3 false true [.int .i64 w] λG _=>jf (F:=od 108 [.fptr (cells B)] (λz=>iR z B) nF.vl G) 1 λT _=>bD 1) (bD 7)) λI=>bG 3 39 bn (bL 5 λJ _=>ey 4 52 bn bn)) bn) (λu=>bZ 7 t.events (bG 3 61 bn bn)) (λu=>bn))))))))
def jq (u:Trace):bf Trace:=
 some u
instance P6 (u:Trace):Fc Sy cL (jq u):=Fc.NE (λr:Trace=>[(.clo 109 [] [.fptr (cells r)])]) 81 [enc u] (dR 2 1 u bn)
namespace gL
def J1 (p1:Int) (B:Bool) (D:Trace) (u:Event):bf Bool:=
 bt B
 ((lW u.peer 0 (IntKind.wrap .i64 ((len D.procs)-1))).bind λt=>
 (bt t
 (some (!(u.peer==p1)))
 (some false):bf Bool).bind λw=>
 (bt w
 ((lW u.message 0 199).bind λz=>
 some z)
 (some false):bf Bool).bind λC=>
 some C)
 (some false)
end gL
def gL (u:Trace) (p1:Int) (e2:Event):bf Bool:=
 bt (e2.kind==1)
 ((bt (e2.peer==0)
 (some (e2.message==0))
 (some false):bf Bool).bind λt=>
 some t)
 (bt (e2.kind==2)
 (gL.J1 p1 true u e2)
 (gL.J1 p1 (e2.kind==3) u e2))
open gL in
instance Qr (u:Trace) (p1:Int) (e2:Event):Fc Sy cL (gL u p1 e2):=Fc.M 110 [enc u,.int .i64 p1,enc e2] (dR 2 3 u (dR 0 5 e2 (bG 17 9 (cz 7 4 [5,14] 18 (bG 7 14 (bD 4) (bD 4)) λC=>bn) (bG 8 19 (xW 4 (bG 0 19 (bZ 7 u.procs (bL 1 λt _=>cz 1 5 [1,29] 34 (bG 1 29 (bD 5) (bD 5)) λw=>cz 1 4 [5,35] 39 (bG 1 35 (bL 2 λz _=>bD 1) (bD 4)) λB=>bn)) bn)) (xW 7 (bG 0 19 (bZ 7 u.procs (bL 1 λt _=>cz 1 5 [1,29] 34 (bG 1 29 (bD 5) (bD 5)) λw=>cz 1 4 [5,35] 39 (bG 1 35 (bL 2 λz _=>bD 1) (bD 4)) λB=>bn)) bn))))))
def jC (u B:Assign):bf Bool:=
 some (u.var==B.var)
instance IL (u B:Assign):Fc Sy cL (jC u B):=Fc.M 112 [enc u,.fptr (cells B)] (bn)
namespace eR
def bA (s0:Sl Assign) (B:Int) (u:Int) (p1:Assign->bf Bool):bf (Fw Int Unit Int):=
 bt (decide (u<B))
 ((idx s0 u).bind λt=>
 (p1 t).bind λw=>
 bt w
 (some (.r u))
 (some (.n (IntKind.wrap .i64 (u+1)))))
 (some (.x ()))
def W1 (s0:Sl Assign) (u B:Int) (p1:Assign->bf Bool):bf Int:=
 (bM (λq:Int=>bA s0 u q p1) B).bind (Fw.elim
 (λe=>some (-1))
 (λe=>some e))
end eR
def eR (s0:Sl Assign) (p1:Assign->bf Bool):bf Int:=
 eR.W1 s0 (len s0) 0 p1
open eR in
abbrev ug (g1:FuncId) (e1:a_ V) (p1:Assign->bf Bool) (h1:nF Sy cL g1 [] e1 (λz:Assign=>[enc z]) (λr:Bool=>[.bool r]) p1 true) (s0:Sl Assign):Fc Sy cL (eR s0 p1):=Fc.M 144 [enc s0,.clo g1 [] e1] (bZ 9 s0 (dN 5 (λu=>(bJ [Cv 0 s0,(1,.v (.clo g1 [] e1)),Iv 7 (len s0),Iv 8 u] [])) (λt=>(0,(bJ [] []))) (λt=>(bJ [Iv 4 t] [])) (λu=>bG 7 9 (cu 16 λw _=>wI 1 h1.f w λB _=>bG 2 16 bn bn) bn) (λt=>bn) (λt=>bn)))
def fW (s0:Sl Assign) (p1:Assign->bf Bool):bf Bool:=
 (eR s0 p1).bind λt=>
 some (decide (t>=0))
abbrev sC (g1:FuncId) (e1:a_ V) (p1:Assign->bf Bool) (h1:nF Sy cL g1 [] e1 (λz:Assign=>[enc z]) (λr:Bool=>[.bool r]) p1 true) (s0:Sl Assign):Fc Sy cL (fW s0 p1):=Fc.M 111 [enc s0,.clo g1 [] e1] (bL (F:=ug g1 e1 p1 h1 s0) 9 λt _=>bn)
namespace di
def b7 (D:Sl Assign) (G:Int) (J:Event) (O:cr) (u:Int):bf (Fw Int Unit Int):=
 bt (decide (u<G))
 ((idx D u).bind λt=>
 (lW t.var 0 (IntKind.wrap .i64 ((len O.vars)-1))).bind λC=>
 (bt C
 ((lW t.value (-1073741824) 1073741824).bind λI=>
 some (!I))
 (some true):bf Bool).bind λL=>
 bt L
 (some (.r 2))
 ((jD J.assign none (some u)).bind λw=>
 (fW w (λz=>jC z t)).bind λB=>
 bt B
 (some (.r 8))
 (some (.n (IntKind.wrap .i64 (u+1))))))
 (some (.x ()))
def W2 (u:Sl Assign) (B D:Int) (G:Event) (J:cr):bf Int:=
 (bM (λq:Int=>b7 u B G J q) D).bind (Fw.elim
 (λe=>some 0)
 (λe=>some e))
def J1 (B:Int) (G:Trace) (D:bg) (u:Event) (J:cr):bf Int:=
 (gL G D.proc u).bind λt=>
 bt t
 ((lW u.time 0 1099511627776).bind λw=>
 (bt w
 (some (decide (u.time<B)))
 (some true):bf Bool).bind λz=>
 bt z
 (some 11)
 (bt (decide ((len u.assign)>8))
 (some 5)
 (di.W2 u.assign (len u.assign) 0 u J)))
 (some 3)
theorem vj (B:Int) (J:Trace) (G:bg) (u:Event) (D:cr):Le ((J1 B J G u D).bind (λr=>some [.int .i64 r])) (bV Sy cL (qm (tr Tx 82)) (tN (tb Tx 82) [1,1,1,1,0] [] (bJ [Pv 3,Pv 4,Pv 5,Pv 7,Iv 8 B] [Xb 3 J,Xb 4 G,Xb 5 u,Xb 7 D]))):=
 bL 8 λO _=>ey 4 28 (bL 5 λQ _=>cz 2 5 [8,40] 45 (ey 2 40 (bD 5) (bD 5)) λS=>bG 3 35 bn (bZ 5 u.assign (bG 4 46 bn (bZ 9 u.assign (dN 5 (λw=>(bJ [Pv 5,Pv 7,Cv 52 u.assign,Iv 53 (len u.assign),Iv 54 w] [Xb 5 u,Xb 7 D])) (λt=>(1,(bJ [] []))) (λt=>(bJ [Iv 6 t] [])) (λw=>bG 7 55 (cu 8 λC _=>bZ 13 D.vars (bL 1 λT _=>cz 2 5 [68] 73 (ey 2 68 (bL 2 λU _=>bD 2) (bD 5)) λW=>bG 3 59 bn (Jj 6 false true [.int .i64 w] λI _=>jf (F:=sC 112 [.fptr (cells C)] (λz=>jC z C) nF.vl I) 1 λL _=>bG 3 74 bn bn))) bn) (λt=>bn) (λt=>bn)))))) bn
end di
def di (B:Trace) (u:bg) (e2:Event):bf Int:=
 (idx B.procs u.proc).bind λt=>
 bt (decide (u.index>1))
 ((idx t.events (IntKind.wrap .i64 (u.index-2))).bind λw=>
 di.J1 w.time B u e2 t)
 (di.J1 0 B u e2 t)
open di in
instance K6 (B:Trace) (u:bg) (e2:Event):Fc Sy cL (di B u e2):=Fc.M 82 [enc B,enc u,enc e2] (dR 2 3 B (dR 1 5 e2 (cu 9 λt _=>iT 2 7 0 t (bG 15 19 (cu 7 λw _=>Dl 6 (vj w.time B u e2 t)) (Dl 4 (vj 0 B u e2 t))))))
def oT (e0:Event) (B D:Int):bf Bool:=
 (bt (e0.kind==2)
 (some (e0.message==B))
 (some false):bf Bool).bind λt=>
 (bt t
 (some (e0.peer==D))
 (some false):bf Bool).bind λu=>
 some u
instance Ou (e0:Event) (u B:Int):Fc Sy cL (oT e0 u B):=Fc.M 145 [enc e0,.fptr (cells u),.fptr (cells B)] (dR 2 3 e0 (cz 9 5 [1,8] 13 (bG 9 8 (bD 5) (bD 5)) λt=>cz 1 5 [2,3,14] 19 (bG 1 14 (bD 5) (bD 5)) λw=>bn))
def sK (B:Trace) (p1 D u:Int):bf Bool:=
 (idx B.procs p1).bind λt=>
 (gp t.events (λz=>oT z D u)).bind λw=>
 some w
instance Rr (D:Trace) (p1 B u:Int):Fc Sy cL (sK D p1 B u):=Fc.M 113 [enc D,.int .i64 p1,.int .i64 B,.int .i64 u] (dR 2 4 D (cu 10 λt _=>jf (F:=mX 145 [.fptr (cells B),.fptr (cells u)] (λz=>oT z B u) nF.vl t.events) 3 λw _=>bn))
namespace dW
def sA (B D:Trace) (J:bf (bU 200 br)) (O:bg) (T:Int) (x:bg×Event) (u:bU 200 br):bf (Fw (bU 200 br) Empty (bg×Int×(bU 200 br))):=
 bt (x.2.kind==2)
 ((bU.at u x.2.message).bind λt=>
 bt (decide (t.from_.index>0))
 (some (.r (x.1,8,u)))
 ((bU.at u x.2.message).bind λw=>
 some (.n (bU.set u x.2.message (⟨x.1,w.to_⟩:br)))))
 (bt (x.2.kind==3)
 ((bU.at u x.2.message).bind λz=>
 bt (decide (z.to_.index>0))
 (some (.r (x.1,8,u)))
 ((sK D x.2.peer x.2.message x.1.proc).bind λC=>
 bt C
 ((bU.at u x.2.message).bind λG=>
 some (.n (bU.set u x.2.message (⟨G.from_,x.1⟩:br))))
 (some (.r (x.1,7,u)))))
 (some (.n u)))
def E1 (u D:Trace) (G:bf (bU 200 br)) (J:bg) (O:Int) (B:bU 200 br):bf ((bf (bU 200 br))×bg×Int):=
 (iC u).bind λt=>(nr (λ(x:bg×Event) (q:bU 200 br)=>sA u D G J O x q) t B).bind (Fw.vf
 (λq=>some (some q,⟨0,0⟩,0))
 (λe=>Empty.elim e)
 (λe=>some ((none:bf (bU 200 br)),e.1,e.2.1)))
end dW
def dW (u:Trace):bf ((bf (bU 200 br))×bg×Int):=
 (jq u).bind λt=>
 dW.E1 t u (none:bf (bU 200 br)) (⟨0,0⟩:bg) 0 (bU.LN 200 (⟨⟨0,0⟩,⟨0,0⟩⟩:br))
open dW in
instance Kq (B:Trace):Fc Sy cL (dW B):=Fc.N 83 [enc B] (dR 2 1 B (dR 8 10 (bU.LN 200 (⟨⟨0,0⟩,⟨0,0⟩⟩:br)) (R3 0 5 (bJ [Pv 1,Pv 2,Pv 3,Pv 4,Pv 10] [Xb 1 B,(2,.box [cv (none:bf (bU 200 br))]),Xb 3 (⟨0,0⟩:bg),(4,.box [iv 0]),Xb 10 (bU.LN 200 (⟨⟨0,0⟩,⟨0,0⟩⟩:br))]) [cv (none:bf (bU 200 br))] (by simp only[bJ,wo,oV,qw,oS,qy,sD,qE,rV,oZ,qq,we,rQ,rS,sy,rJ,uk,uq,qA,rO];rfl) (bL 7 λz _=>Jd λL C=>ED 4 [Pv 1,Pv 2,Pv 3,Pv 4,Pv 5,(12,.v (.clo 109 [] [.fptr (cells z)]))] (λu=>[Xb 1 B,(2,.box [cv (none:bf (bU 200 br))]),Xb 3 (⟨0,0⟩:bg),(4,.box [iv 0]),(5,.box [.ptr 10 0]),Xb 10 u]) (λw=>Empty.elim w) (λw=>[Xb 1 B,(2,.box [cv (none:bf (bU 200 br))]),Xb 3 w.1,(4,.box [iv w.2.1]),(5,.box [.ptr 10 0]),Xb 10 w.2.2]) (xy z L C) (λt u=>R3 2 6 ⟨[Pv 1,Pv 2,Pv 3,Pv 4,Pv 5,(12,.v (.clo 109 [] [.fptr (cells z)])),Cv 13 t.1,Cv 14 t.2],[Xb 1 B,(2,.box [cv (none:bf (bU 200 br))]),Xb 3 (⟨0,0⟩:bg),(4,.box [iv 0]),(5,.box [.ptr 10 0]),Xb 10 u],[1,2,3,4,5],[],true,0⟩ [iv 0,iv 0] (by simp only[bJ,wo,oV,qw,oS,qy,sD,qE,rV,oZ,qq,we,rQ,rS,sy,rJ,uk,uq,qA,rO];rfl) (R3 4 7 ⟨[Pv 1,Pv 2,Pv 3,Pv 4,Pv 5,(12,.v (.clo 109 [] [.fptr (cells z)])),Cv 14 t.2,Pv 6],[Xb 1 B,(2,.box [cv (none:bf (bU 200 br))]),Xb 3 (⟨0,0⟩:bg),(4,.box [iv 0]),(5,.box [.ptr 10 0]),Xb 10 u,Xb 6 t.1],[1,2,3,4,5],[],true,0⟩ [iv 0,iv 0,iv 0,iv 0,.v .bE] (by simp only[bJ,wo,oV,qw,oS,qy,sD,qE,rV,oZ,qq,we,rQ,rS,sy,rJ,uk,uq,qA,rO];rfl) (iT 0 7 0 t.2 (Cr 1 (bG 22 19 (EO 7 .i64 10 λD O=>OY 2 1 false 10 u t.2.message 1 D O (.int .i64 D.from_.index) (by rfl) (bG 3 28 bn (EO 8 .i64 10 λG Q=>OU 1 10 u t.2.message 0 G Q (⟨t.1,G.to_⟩:br) t.1 rfl bn))) (bG 7 36 (EO 7 .i64 10 λI S=>OY 2 1 false 10 u t.2.message 3 I S (.int .i64 I.to_.index) (by rfl) (bG 3 45 bn (bL 12 λU _=>ey 3 54 (EO 8 .i64 10 λJ T=>OU 1 10 u t.2.message 2 J T (⟨J.from_,t.1⟩:br) t.1 rfl bn) bn))) bn)))))) (λu=>Ts 13 (bJ [Pv 2,Pv 3,Pv 4] [(2,.box [.ptr 10 0]),Xb 3 (⟨0,0⟩:bg),(4,.box [iv 0]),Xb 10 u]) [.ptr 10 0,cv (⟨0,0⟩:bg),iv 0] (Qf (d:=10) (x:=u) (vs:=[enc (⟨0,0⟩:bg),.int .i64 0]) Ze) Ze) (λx=>Empty.elim x) (λw=>bn)))))
namespace iy
def J1 (B:bU 200 br) (u:Sl bg) (J:Sl Event) (D:bg):bf (Sl bg):=
 (idx J (IntKind.wrap .i64 (D.index-1))).bind λt=>
 (bt (t.kind==2)
 ((bU.at B t.message).bind λw=>
 some (decide (w.to_.index>0)))
 (some false):bf Bool).bind λz=>
 bt z
 ((bU.at B t.message).bind λC=>
 (eA u (C.to_:bg)).bind λG=>
 some G)
 (some u)
theorem vj (u:bU 200 br) (B:Sl bg) (J:Sl Event) (D:bg):Le ((J1 u B J D).bind (λr=>some [enc r])) (bV Sy cL (qm (tr Tx 114)) (tN (tb Tx 114) [1,1,1,1,0,0] [] (bJ [Kv 1 u,Pv 5,Ov 7,Cv 8 J] [Xb 5 D,Lb 2007 B]))):=
 cu 7 λt _=>iT 2 9 0 t (cz 8 10 [40] 50 (bG 8 40 (O8 4 .i64 λw z=>NN 0 2 u t.message 0 w z (NN 0 1 u t.message 2 w z (O4 0 1 false u t.message 3 w z (.int .i64 w.to_.index) (by rfl) (bD 2)))) (bD 10)) λI=>bG 2 50 (O8 7 .i64 λC G=>NN 0 2 u t.message 0 C G (O4 0 2 true u t.message 2 C G (enc C.to_) (by rfl) (ri 1 2007 59 60 λL _=>bn))) bn)
end iy
def iy (B:Trace) (u:bU 200 br) (x2:bg):bf (Sl bg):=
 (idx B.procs x2.proc).bind λt=>
 bt (decide (x2.index<(len t.events)))
 (iy.J1 u (Sl.row [⟨x2.proc,IntKind.wrap .i64 (x2.index+1)⟩]:Sl bg) t.events x2)
 (iy.J1 u (Sl.nil:Sl bg) t.events x2)
open iy in
instance Rx (B:Trace) (u:bU 200 br) (x2:bg):Fc Sy cL (iy B u x2):=Fc.N 114 [enc B,.fptr (cells u),enc x2] (dR 2 3 B (cu 15 λt _=>bZ 11 t.events (bG 3 21 (ON 10 29 30 .bE (⟨x2.proc,IntKind.wrap .i64 (x2.index+1)⟩:bg) (Dl 5 (vj u (Sl.row [⟨x2.proc,IntKind.wrap .i64 (x2.index+1)⟩]:Sl bg) t.events x2))) (Dl 5 (vj u (Sl.nil:Sl bg) t.events x2)))))
namespace gI
def eG (J:Trace) (O:Sl bg) (T:Int) (U:Trace) (W:bU 200 br) (Y:bg) (aa:Bool) (G:bg) (u:Sl bg) (D:Int) (B:Mo bg Bool):bf (Fw ((Sl bg)×Int×(Mo bg Bool)) ((Sl bg)×(Mo bg Bool)) Unit):=
 bt (decide (D<T))
 ((idx O D).bind λt=>
 bt (Iw t G)
 (some (.r ()))
 (bt (CL B t false)
 (some (.n (u,IntKind.wrap .i64 (D+1),B)))
 ((eA u (t:bg)).bind λw=>
 some (.n (w,IntKind.wrap .i64 (D+1),qg B t true)))))
 (some (.x (u,B)))
def W3 (B:Sl bg) (u:Trace) (J:Sl bg) (O T:Int) (U:Trace) (W:bU 200 br) (Y:bg) (aa:Bool) (D:bg) (G:Mo bg Bool):bf (Fw ((Sl bg)×(Mo bg Bool)) Unit Unit):=
 (bM (λq:(Sl bg)×Int×(Mo bg Bool)=>eG u J O U W Y aa D q.1 q.2.1 q.2.2) (B,T,G)).bind (Fw.elim
 (λe=>some (.n (e.1,e.2)))
 (λe=>some (.r ())))
def b7 (B D:Trace) (G:bU 200 br) (T:bg) (U:Bool) (J:bg) (u:Sl bg) (O:Mo bg Bool):bf (Fw ((Sl bg)×(Mo bg Bool)) Unit Unit):=
 bt (decide ((len u)>0))
 ((Sl.jH u (IntKind.wrap .i64 ((len u)-1))).bind λw=>
 (Sl.get u w).bind λz=>
 (ki u none (some (IntKind.wrap .i64 ((len u)-1)))).bind λC=>
 (iy D G z).bind λt=>
 W3 C B t (len t) 0 D G T U J O)
 (some (.x ()))
def W2 (D:Sl bg) (u J:Trace) (O:bU 200 br) (T:bg) (U:Bool) (B:bg) (G:Mo bg Bool):bf (Fw Unit Empty bg):=
 (bM (λq:(Sl bg)×(Mo bg Bool)=>b7 u J O T U B q.1 q.2) (D,G)).bind (Fw.elim
 (λe=>some (.n ()))
 (λe=>some (.r B)))
def sA (u B:Trace) (D:bU 200 br) (G:bg) (J:Bool) (x:bg×Event):bf (Fw Unit Empty bg):=
 W2 (Sl.row [x.1]:Sl bg) u B D G J x.1 []
def E1 (u B:Trace) (D:bU 200 br) (G:bg) (J:Bool):bf (bg×Bool):=
 (iC u).bind λt=>(nr (λ(x:bg×Event) (q:Unit)=>sA u B D G J x) t ()).bind (Fw.vf
 (λq=>some (⟨0,0⟩,false))
 (λe=>Empty.elim e)
 (λe=>some (e,true)))
end gI
def gI (u:Trace) (B:bU 200 br):bf (bg×Bool):=
 (jq u).bind λt=>
 gI.E1 t u B (⟨0,0⟩:bg) false
open gI in
instance P8 (B:Trace) (D:bU 200 br):Fc Sy cL (gI B D):=Fc.M 84 [enc B,.fptr (cells D)] (dR 2 2 B (bL 9 λu _=>Jd λT O=>ED 4 [Pv 2,Pv 3,Pv 4,Pv 5,(13,.v (.clo 109 [] [.fptr (cells u)]))] (λQ=>[Xb 2 B,(3,.box [cp D]),Xb 4 (⟨0,0⟩:bg),(5,.box [bv false])]) (λG=>Empty.elim G) (λG=>[Xb 2 B,(3,.box [cp D]),Xb 4 G,(5,.box [bv true])]) (xy u T O) (λz Q=>Cr 4 (dN 18 (λt=>⟨[Pv 2,Pv 3,Pv 4,Pv 5,Pv 6,(7,.mp 16),Ov 8,(13,.v (.clo 109 [] [.fptr (cells u)]))],[Xb 2 B,(3,.box [cp D]),Xb 4 (⟨0,0⟩:bg),(5,.box [bv false]),Xb 6 z.1,(16,uC t.2),Lb 2008 t.1],[2,3,4,5],[],true,0⟩) (λI=>(2,⟨[Pv 2,Pv 3,Pv 4,Pv 5,(13,.v (.clo 109 [] [.fptr (cells u)]))],[Xb 2 B,(3,.box [cp D]),Xb 4 (⟨0,0⟩:bg),(5,.box [bv false])],[2,3,4,5],[],true,0⟩)) (λI=>⟨[],[Xb 2 B,(3,.box [cp D]),Xb 4 z.1,(5,.box [bv true])],[2,3,4,5],[],true,0⟩) (λt=>zm 6 2008 t.1 (bG 3 21 (zm 8 2008 t.1 (lX .i64 1 2008 λU _=>tP 0 2008 0 2 true (λJ=>.agg [.int .i64 J.proc,.int .i64 J.index]) λJ _=>zm 8 2008 t.1 (O5 1 false true 2008 32 [.int .i64 (IntKind.wrap .i64 ((len t.1)-1))] λW _=>bL 8 λL _=>bZ 0 L (dN 6 (λw=>⟨[Pv 2,Pv 3,Pv 4,Pv 5,Pv 6,(7,.mp 16),Ov 8,(13,.v (.clo 109 [] [.fptr (cells u)])),Cv 36 L,Iv 37 (len L),Iv 38 w.2.1],[Xb 2 B,(3,.box [cp D]),Xb 4 (⟨0,0⟩:bg),(5,.box [bv false]),Xb 6 z.1,(16,uC w.2.2),Lb 2008 w.1],[2,3,4,5],[],true,0⟩) (λC=>(4,⟨[Pv 2,Pv 3,Pv 4,Pv 5,Pv 6,(7,.mp 16),Ov 8,(13,.v (.clo 109 [] [.fptr (cells u)]))],[Xb 2 B,(3,.box [cp D]),Xb 4 (⟨0,0⟩:bg),(5,.box [bv false]),Xb 6 z.1,(16,uC C.2),Lb 2008 C.1],[2,3,4,5],[],true,0⟩)) (λC=>⟨[],[Xb 2 B,(3,.box [cp D]),Xb 4 z.1,(5,.box [bv true])],[2,3,4,5],[],true,0⟩) (λw=>bG 8 39 (cu 7 λS _=>bG 13 44 bn (T7 7 16 w.2.2 S false (ey 3 49 bn (U3 5 16 w.2.2 S true (ri 6 2008 54 55 λX _=>bn))))) bn) (λC=>bn) (λC=>bn))))) bn)) (λI=>bn) (λI=>bn))) (λQ=>bn) (λx=>Empty.elim x) (λG=>bn)))
namespace ga
def Ie (u B:Trace) (D:bg) (G:Int) (x:bg×Event):bf (Fw Unit Empty (bg×Int)):=
 (di B x.1 x.2).bind λt=>
 bt (t==0)
 (some (.n ()))
 (some (.r (x.1,t)))
def E2 (u B:Trace) (D:bg) (G:Int):bf (bg×Int):=
 (iC u).bind λz=>(nr (λ(x:bg×Event) (q:Unit)=>Ie u B D G x) z ()).bind (Fw.vf
 (λq=>(dW B).bind λt=>
 bt (t.2.2==0)
 ((t.1).bind λC=>
 (gI B C).bind λw=>
 bt w.2
 (some (w.1,10))
 (some (⟨0,0⟩,0)))
 (some (t.2.1,t.2.2)))
 (λe=>Empty.elim e)
 (λe=>some (e.1,e.2)))
def bA (B:Int) (D:Trace) (G:bg) (J:Int) (u:Int):bf (Fw Int Unit (bg×Int)):=
 bt (decide (u<B))
 ((dX D u).bind λt=>
 bt (t==0)
 (some (.n (IntKind.wrap .i64 (u+1))))
 (some (.r ((⟨u,0⟩:bg),t))))
 (some (.x ()))
def W1 (G J:Int) (u:Trace) (B:bg) (D:Int):bf (bg×Int):=
 (bM (λq:Int=>bA G u B D q) J).bind (Fw.elim
 (λe=>(jq u).bind λt=>
 ga.E2 t u B D)
 (λe=>some (e.1,e.2)))
end ga
def ga (u:Trace):bf (bg×Int):=
 (lW (len u.procs) 1 8).bind λt=>
 bt t
 (ga.W1 (len u.procs) 0 u (⟨0,0⟩:bg) 0)
 (some (⟨0,0⟩,1))
open ga in
instance Ri (u:Trace):Fc Sy cL (ga u):=Fc.M 53 [enc u] (dR 2 1 u (bZ 9 u.procs (bL 0 λL _=>ey 3 18 (bZ 8 u.procs (dN 5 (λB=>(bJ [Pv 1,Pv 2,Pv 3,Iv 22 (len u.procs),Iv 23 B] [Xb 1 u,Xb 2 (⟨0,0⟩:bg),(3,.box [iv 0])])) (λt=>(0,(bJ [Pv 1,Pv 2,Pv 3] [Xb 1 u,Xb 2 (⟨0,0⟩:bg),(3,.box [iv 0])]))) (λt=>(bJ [Pv 2,Pv 3] [Xb 2 t.1,(3,.box [iv t.2])])) (λB=>bG 7 24 (bL 15 λO _=>ey 9 30 bn bn) bn) (λt=>bL 6 λz _=>Jd λI C=>ED 4 [Pv 1,Pv 2,Pv 3,(36,.v (.clo 109 [] [.fptr (cells z)]))] (λD=>[Xb 1 u,Xb 2 (⟨0,0⟩:bg),(3,.box [iv 0])]) (λw=>Empty.elim w) (λw=>[Xb 1 u,Xb 2 w.1,(3,.box [iv w.2])]) (xy z I C) (λJ D=>iT 8 7 0 J.2 (Cr 1 (bL 7 λQ _=>ey 9 44 bn bn))) (λD=>bL 5 λG _=>ey 17 54 (UR 8 (λS=>(bJ [Pv 2,Pv 3,(36,.v (.clo 109 [] [.fptr (cells z)])),Pv 10,Iv 11 G.2.2,Bv 54 false,Cv 58 u,Cv 59 S] [Xb 1 u,Xb 2 (⟨0,0⟩:bg),(3,.box [iv 0]),Xb 10 G.2.1])) λT _=>bL 0 λU _=>bG 13 63 bn bn) bn) (λx=>Empty.elim x) (λw=>bn)) (λt=>bn))) bn)))
def dG (u:Trace):bf Bool:=
 (ga u).bind λt=>
 some (t.2==0)
instance Rw (u:Trace):Fc Sy cL (dG u):=Fc.M 27 [enc u] (dR 2 1 u (bL 6 λt _=>bn))
namespace iz
def bA (D:Sl cr) (G:Int) (u:Sl Int) (B:Int):bf (Fw ((Sl Int)×Int) (Sl Int) Empty):=
 bt (decide (B<G))
 ((idx D B).bind λt=>
 (eA u (len t.events:Int)).bind λw=>
 some (.n (w,IntKind.wrap .i64 (B+1))))
 (some (.x u))
def W1 (u:Sl Int) (B:Sl cr) (D G:Int):bf (Sl Int):=
 (bM (λq:(Sl Int)×Int=>bA B D q.1 q.2) (u,G)).bind (Fw.elim
 (λe=>some e)
 (λe=>Empty.elim e))
end iz
def iz (u:Trace):bf (Sl Int):=
 iz.W1 (Sl.nil:Sl Int) u.procs (len u.procs) 0
open iz in
instance Ru (u:Trace):Fc Sy cL (iz u):=Fc.N 28 [enc u] (dR 2 1 u (bZ 13 u.procs (gZ 6 (λt=>(bJ [Ov 3,Cv 7 u.procs,Iv 8 (len u.procs),Iv 9 t.2] [Lb 2003 t.1])) (λw=>(0,(bJ [Ov 3] [Lb 2003 w]))) (λt=>bG 8 10 (cu 7 λz _=>iT 2 5 0 z (bZ 6 z.events (ri 1 2003 17 18 λB _=>bn))) bn) (λw=>bn))))
def jr (u:Sl Int) (B:Trace):bf Bool:=
 some (!((len u)==(len B.procs)))
instance Qb (u:Sl Int) (B:Trace):Fc Sy cL (jr u B):=Fc.M 115 [enc u,.fptr (cells B)] (bZ 8 u (bZ 2 B.procs bn))
def tC (B:Trace) (D:Sl (Sl Int)):bf Bool:=
 (dG B).bind λt=>
 (bt t
 ((c6 D (λz=>jr z B)).bind λu=>
 some (!u))
 (some false):bf Bool).bind λw=>
 some w
instance Tm (u:Trace) (B:Sl (Sl Int)):Fc Sy cL (tC u B):=Fc.M 85 [enc u,enc B] (dR 2 2 u (bL 6 λt _=>cz 1 5 [1,2,7] 12 (bG 1 7 (jf (F:=iI 115 [.fptr (cells u)] (λz=>jr z u) nF.vl B) 2 λw _=>bD 2) (bD 5)) λC=>bn))
namespace iA
def bA (D:Sl Int) (G:Int) (B:Trace) (u:Int):bf (Fw Int Unit Unit):=
 bt (decide (u<G))
 ((idx D u).bind λt=>
 (bt (decide (t<0))
 (some true)
 ((idx B.procs u).bind λw=>
 some (decide (t>(len w.events)))):bf Bool).bind λz=>
 bt z
 (some (.r ()))
 (some (.n (IntKind.wrap .i64 (u+1)))))
 (some (.x ()))
def W1 (B:Sl Int) (D G:Int) (u:Trace):bf Bool:=
 (bM (λq:Int=>bA B D u q) G).bind (Fw.elim
 (λe=>some true)
 (λe=>some false))
end iA
def iA (B:Trace) (u:Sl Int):bf Bool:=
 iA.W1 u (len u) 0 B
open iA in
instance Rp (B:Trace) (u:Sl Int):Fc Sy cL (iA B u):=Fc.M 86 [enc B,enc u] (dR 2 2 B (bZ 7 u (dN 5 (λw=>(bJ [Pv 2,Cv 7 u,Iv 8 (len u),Iv 9 w] [Xb 2 B])) (λt=>(0,(bJ [] []))) (λt=>(bJ [Bv 4 false] [])) (λw=>bG 7 10 (cu 8 λC _=>cz 10 10 [5,6,16] 26 (bG 10 16 (bD 10) (cu 4 λz _=>bZ 2 z.events (bD 2))) λD=>bG 2 26 bn bn) bn) (λt=>bn) (λt=>bn))))
def gD (s0:Sl Int):bf (Sl Int):=
 (Sl.isNil s0).bind λt=>
 bt t
 (some Sl.nil)
 ((lY (Sl.row []:Sl Int) s0).bind λu=>
 some u)
theorem mF:tH Sy cL 32 (λs0:Sl Int=>[enc s0]) (λz=>gD z):=tH.mk' (pF (Tx 32)) (λs0=>RQ 9 λt _=>bG 2 4 bn (Bk 7 5 7 λu _=>bn))
namespace kA
def sA (B:Trace) (u D:Int) (G:bg) (J:Bool) (x:bg×Event):bf (Fw Unit Empty bg):=
 (bt (x.2.kind==u)
 (some (x.2.message==D))
 (some false):bf Bool).bind λt=>
 bt t
 (some (.r x.1))
 (some (.n ()))
def E1 (u:Trace) (B D:Int) (G:bg) (J:Bool):bf (bg×Bool):=
 (iC u).bind λt=>(nr (λ(x:bg×Event) (q:Unit)=>sA u B D G J x) t ()).bind (Fw.vf
 (λq=>some (⟨0,0⟩,false))
 (λe=>Empty.elim e)
 (λe=>some (e,true)))
end kA
def kA (B:Trace) (u D:Int):bf (bg×Bool):=
 (dG B).bind λt=>
 bt t
 ((jq B).bind λw=>
 kA.E1 w u D (⟨0,0⟩:bg) false)
 (some (⟨0,0⟩,false))
open kA in
instance Sj (G:Trace) (u D:Int):Fc Sy cL (kA G u D):=Fc.M 146 [enc G,.int .i64 u,.int .i64 D] (dR 2 3 G (bL 10 λJ _=>ey 3 12 (bL 7 λw _=>Jd λC z=>ED 4 [Pv 4,Pv 5,Pv 6,Pv 7,(15,.v (.clo 109 [] [.fptr (cells w)]))] (λB=>[(4,.box [iv u]),(5,.box [iv D]),Xb 6 (⟨0,0⟩:bg),(7,.box [bv false])]) (λt=>Empty.elim t) (λt=>[(4,.box [iv u]),(5,.box [iv D]),Xb 6 t,(7,.box [bv true])]) (xy w C z) (λI B=>iT 8 9 0 I.2 (Cr 1 (cz 9 5 [9,22] 27 (bG 9 22 (bD 5) (bD 5)) λL=>bG 2 27 bn bn))) (λB=>bn) (λx=>Empty.elim x) (λt=>bn)) bn))
def ru (u:Trace) (m1:Int):bf (bg×Bool):=
 (kA u 2 m1).bind λt=>
 some (t.1,t.2)
instance Ql (u:Trace) (m1:Int):Fc Sy cL (ru u m1):=Fc.M 116 [enc u,.int .i64 m1] (dR 2 2 u (bL 8 λt _=>bn))
namespace fN
def b7 (T:Sl Int) (p7:Int) (U:Sl Int) (W Y:Int) (G:Sl Event) (J:Int) (O:Trace) (D B:bg) (u:Int):bf (Fw Int Unit (bg×bg)):=
 bt (decide (u<J))
 ((idx G u).bind λw=>
 bt (w.kind==3)
 ((ru O w.message).bind λt=>
 (idx T t.1.proc).bind λz=>
 bt (decide (t.1.index>z))
 (some (.r (t.1,(⟨p7,IntKind.wrap .i64 (u+1)⟩:bg))))
 (some (.n (IntKind.wrap .i64 (u+1)))))
 (some (.n (IntKind.wrap .i64 (u+1)))))
 (some (.x ()))
def W2 (Y:Sl Int) (p7:Int) (G:Sl Int) (J D:Int) (O:Sl Event) (T U:Int) (W:Trace) (B u:bg):bf (Fw Int Unit (bg×bg)):=
 (bM (λq:Int=>b7 Y p7 G J D O T W B u q) U).bind (Fw.elim
 (λe=>some (.n (IntKind.wrap .i64 (D+1))))
 (λe=>some (.r (e.1,e.2))))
def bA (T G:Sl Int) (J:Int) (O:Trace) (D u:bg) (B:Int):bf (Fw Int Unit (bg×bg)):=
 bt (decide (B<J))
 ((idx G B).bind λw=>
 (idx O.procs B).bind λz=>
 (jD z.events none (some w)).bind λt=>
 W2 T B G J B t (len t) 0 O D u)
 (some (.x ()))
def W1 (T D:Sl Int) (G J:Int) (O:Trace) (B u:bg):bf (bg×bg×Bool):=
 (bM (λq:Int=>bA T D G O B u q) J).bind (Fw.elim
 (λe=>some (⟨0,0⟩,⟨0,0⟩,false))
 (λe=>some (e.1,e.2,true)))
end fN
def fN (B:Trace) (u:Sl Int):bf (bg×bg×Bool):=
 fN.W1 u u (len u) 0 B (⟨0,0⟩:bg) (⟨0,0⟩:bg)
open fN in
instance Ro (D:Trace) (u:Sl Int):Fc Sy cL (fN D u):=Fc.M 87 [enc D,enc u] (dR 2 2 D (bZ 9 u (dN 5 (λt=>(bJ [Cv 1 u,Pv 2,Pv 4,Pv 5,Cv 13 u,Iv 14 (len u),Iv 15 t] [Xb 2 D,Xb 4 (⟨0,0⟩:bg),Xb 5 (⟨0,0⟩:bg)])) (λw=>(0,(bJ [Pv 4,Pv 5] [Xb 4 (⟨0,0⟩:bg),Xb 5 (⟨0,0⟩:bg)]))) (λw=>(bJ [Pv 4,Pv 5,Bv 6 true] [Xb 4 w.1,Xb 5 w.2])) (λt=>bG 7 16 (cu 8 λG _=>cu 10 λJ _=>Jj 3 false true [.int .i64 G] λB _=>bZ 0 B (dN 5 (λC=>(bJ [Cv 1 u,Pv 2,Pv 4,Pv 5,Iv 7 t,Cv 13 u,Iv 14 (len u),Iv 15 t,Cv 27 B,Iv 28 (len B),Iv 29 C] [Xb 2 D,Xb 4 (⟨0,0⟩:bg),Xb 5 (⟨0,0⟩:bg)])) (λz=>(2,(bJ [Cv 1 u,Pv 2,Pv 4,Pv 5,Cv 13 u,Iv 14 (len u),Iv 15 t] [Xb 2 D,Xb 4 (⟨0,0⟩:bg),Xb 5 (⟨0,0⟩:bg)]))) (λz=>(bJ [Pv 4,Pv 5,Bv 6 true] [Xb 4 z.1,Xb 5 z.2])) (λC=>bG 7 30 (cu 8 λI _=>iT 3 10 0 I (ey 10 36 (bL 8 λL _=>cu 15 λO _=>bG 4 51 bn bn) bn)) bn) (λz=>bn) (λz=>bn))) bn) (λw=>bn) (λw=>bn))))
namespace iB
def bA (B:Trace) (u:Sl Int) (p2:Sl Int->(bg×bg)->bf (Sl Int)):bf (Fw (Sl Int) Empty (Sl Int)):=
 (fN B u).bind λt=>
 bt t.2.2
 ((p2 u (t.1,t.2.1)).bind λw=>
 some (.n w))
 (some (.r u))
def W1 (u:Sl Int) (B:Trace) (p2:Sl Int->(bg×bg)->bf (Sl Int)):bf ((Sl Int)×Int):=
 (bM (λq:Sl Int=>bA B q p2) u).bind (Fw.elim
 (λe=>Empty.elim e)
 (λe=>some (e,0)))
end iB
def iB (B:Trace) (u:Sl Int) (p2:Sl Int->(bg×bg)->bf (Sl Int)):bf ((Sl Int)×Int):=
 (tC B (Sl.row [u]:Sl (Sl Int))).bind λt=>
 bt t
 ((iA B u).bind λw=>
 bt w
 (((gD u).bind Sl.whole).bind λz=>
 iB.W1 z B p2)
 (some ((Sl.nil:Sl Int),2)))
 (some ((Sl.nil:Sl Int),1))
open iB in
abbrev CI (g2:FuncId) (e2:a_ V) (p2:Sl Int->(bg×bg)->bf (Sl Int)) (G:LC Sy g2 e2 (λz:bg×bg=>[enc z.1,enc z.2]) p2) (D:Trace) (u:Sl Int):Fc Sy cL (iB D u p2):=Fc.N 54 [enc D,enc u,.clo g2 [] e2] (dR 2 3 D (DV 10 15 ([u]:a_ (Sl Int)) (jf 0 λC _=>ey 4 12 (bL 5 λI _=>ey 4 18 (NJ 7 24 mF u λJ _=>Sr 6 (λt=>(bJ [(2,.v (.clo g2 [] e2)),Pv 3,Ov 8] [Xb 3 D,Lb 2008 t])) (λw=>(bJ [Ov 6,Iv 7 0] [Lb 2006 w])) (λt=>jf 7 λB _=>ey 18 33 (Sc 8 2008 G (B.1,B.2.1) λL _=>bn) bn) (λw=>bn)) bn) bn)))
def ta (B:Trace) (u:Sl Int):bf ((Sl Int)×Int):=
 (iB B u (λs (z:bg×bg)=>s.setAt z.1.proc z.1.index)).bind λt=>
 some (t.1,t.2)
instance Tr (B:Trace) (u:Sl Int):Fc Sy cL (ta B u):=Fc.N 29 [enc B,enc u] (dR 2 2 B (bL (F:=CI 55 [] (λs (z:bg×bg)=>s.setAt z.1.proc z.1.index) (LC.vG (op:=false) Td Ze Ze) B u) 8 λt _=>bn))
namespace e_
def b7 (p5:Int) (T:Sl cr) (U W O:Int) (B:Trace) (u:Sl (Sl Int)) (D:Int) (G J:Slice):bf (Fw ((Sl (Sl Int))×Int×Slice×Slice) ((Sl (Sl Int))×Trace×Slice×Slice) Empty):=
 bt (decide (D<O))
 ((iX (len B.procs) (0:Int)).bind λt=>
 (Sl.jH t p5).bind λw=>
 (Sl.put t w (IntKind.wrap .i64 (D+1):Int)).bind λz=>
 (ta B z).bind λC=>
 (eA u (C.1:Sl Int)).bind λI=>
 some (.n (I,IntKind.wrap .i64 (D+1),(⟨G.empty,Sl.nil,Sl.nil,Sl.nil⟩:Slice),J)))
 (some (.x (u,B,(⟨G.empty,Sl.nil,Sl.nil,Sl.nil⟩:Slice),J)))
def W2 (p5:Int) (u:Sl (Sl Int)) (D:Sl cr) (G B J O:Int) (T:Trace) (U W:Slice):bf (Fw (Int×Trace×Slice×Slice) (Slice×Slice) Empty):=
 (bM (λq:(Sl (Sl Int))×Int×Slice×Slice=>b7 p5 D G B J T q.1 q.2.1 q.2.2.1 q.2.2.2) (u,O,U,W)).bind (Fw.elim
 (λe=>(eA e.2.2.2.j (e.1:Sl (Sl Int))).bind λt=>
 some (.n (IntKind.wrap .i64 (B+1),e.2.1,(⟨e.2.2.1.empty,Sl.nil,Sl.nil,Sl.nil⟩:Slice),(⟨e.2.2.2.empty,e.2.2.2.first,e.2.2.2.last,t⟩:Slice))))
 (λe=>Empty.elim e))
def bA (B:Sl cr) (D:Int) (u:Int) (O:Trace) (G J:Slice):bf (Fw (Int×Trace×Slice×Slice) (Slice×Slice) Empty):=
 bt (decide (u<D))
 ((idx B u).bind λt=>
 W2 u (Sl.nil:Sl (Sl Int)) B D u (len t.events) 0 O (⟨G.empty,Sl.nil,Sl.nil,Sl.nil⟩:Slice) J)
 (some (.x ((⟨G.empty,Sl.nil,Sl.nil,Sl.nil⟩:Slice),J)))
def W1 (u:Sl cr) (B D:Int) (G:Trace) (J O:Slice):bf (Slice×Int):=
 (bM (λq:Int×Trace×Slice×Slice=>bA u B q.1 q.2.1 q.2.2.1 q.2.2.2) (D,G,J,O)).bind (Fw.elim
 (λe=>some (e.2,0))
 (λe=>Empty.elim e))
end e_
def e_ (u:Trace):bf (Slice×Int):=
 (dG u).bind λt=>
 bt t
 ((iX (len u.procs) (0:Int)).bind λw=>
 (iz u).bind λz=>
 e_.W1 u.procs (len u.procs) 0 u (⟨false,Sl.nil,Sl.nil,Sl.nil⟩:Slice) (⟨false,w,z,Sl.nil⟩:Slice))
 (some (⟨false,Sl.nil,Sl.nil,Sl.nil⟩,1))
open e_ in
instance Rm (B:Trace):Fc Sy cL (e_ B):=Fc.N 7 [enc B] (dR 2 1 B (bL 8 λJ _=>ey 3 14 (bZ 7 B.procs (FL 0 19 λL _=>bL 1 λC _=>Pj 0 [.own 19,cv C] [bv false,.own 19,cv C,.v .bE] [.bool false,.bE,.bE,.bE] [(1,1),(2,1)] (by simp only[xh,DF,Gy,B_,DS,B1,eH,mq,kI,mS,mG];rfl) (Si 1 4 0 [bv false,.own 19,cv C,.v .bE] (by simp only[List.all_cons,GC,A8,CQ,AA,mw,kR,mK,mc,C6];rfl) (bZ 7 B.procs (gZ 7 (λt=>(bJ [Pv 1,Pv 2,Pv 4,Cv 24 B.procs,Iv 25 (len B.procs),Iv 26 t.1] [Xb 1 t.2.1,Xb 2 (⟨t.2.2.1.empty,Sl.nil,Sl.nil,Sl.nil⟩:Slice),(4,.box [bv t.2.2.2.empty,.own 4081,cv t.2.2.2.last,.own 4083]),Lb 4081 t.2.2.2.first,Lb 4083 t.2.2.2.j])) (λz=>(0,(bJ [Pv 2,Pv 4] [Xb 2 (⟨z.1.empty,Sl.nil,Sl.nil,Sl.nil⟩:Slice),(4,.box [bv z.2.empty,.own 4081,cv z.2.last,.own 4083]),Lb 4081 z.2.first,Lb 4083 z.2.j]))) (λt=>bG 9 27 (cu 8 λD _=>iT 3 6 0 D (bZ 12 D.events (gZ 8 (λu=>(bJ [Pv 1,Pv 2,Pv 4,Iv 5 t.1,Ov 7,Cv 24 B.procs,Iv 25 (len B.procs),Iv 26 t.1,Iv 33 (len D.events),Iv 34 u.2.1] [Xb 1 t.2.1,Xb 2 (⟨u.2.2.1.empty,Sl.nil,Sl.nil,Sl.nil⟩:Slice),(4,.box [bv u.2.2.2.empty,.own 4081,cv u.2.2.2.last,.own 4083]),Lb 2007 u.1,Lb 4081 u.2.2.2.first,Lb 4083 u.2.2.2.j])) (λw=>(2,(bJ [Pv 1,Pv 2,Pv 4,Ov 7,Cv 24 B.procs,Iv 25 (len B.procs),Iv 26 t.1] [Xb 1 w.2.1,Xb 2 (⟨w.2.2.1.empty,Sl.nil,Sl.nil,Sl.nil⟩:Slice),(4,.box [bv w.2.2.2.empty,.own 4081,cv w.2.2.2.last,.own 4083]),Lb 2007 w.1,Lb 4081 w.2.2.2.first,Lb 4083 w.2.2.2.j]))) (λu=>bG 10 35 (bZ 15 t.2.1.procs (FL 0 40 λO _=>lX .i64 9 40 λQ _=>AE 0 40 (.int .i64 (IntKind.wrap .i64 (u.2.1+1))) λS _=>bL 7 λG _=>DV 10 54 ([G.1]:a_ (Sl Int)) (ri 0 2007 54 55 λT _=>bn))) bn) (λw=>DV 7 60 ([w.1]:a_ (Sl (Sl Int))) (ri 0 4083 60 61 λI _=>bn))))) bn) (λz=>iT 7 2 0 z.2 bn)))))) (uI 3 (⟨false,Sl.nil,Sl.nil,Sl.nil⟩:Slice) [] [.bool false,.bE,.bE,.bE] [] (by simp only[ji,jR,eH,mq,kI,mS,mG];rfl) rfl (iT 0 2 0 (⟨false,Sl.nil,Sl.nil,Sl.nil⟩:Slice) bn))))
def q9 (u:Trace):bf (Slice×Int):=
 (dG u).bind λt=>
 bt t
 (some (⟨true,Sl.nil,Sl.nil,Sl.nil⟩,0))
 (some (⟨false,Sl.nil,Sl.nil,Sl.nil⟩,1))
instance R1 (u:Trace):Fc Sy cL (q9 u):=Fc.N 8 [enc u] (dR 2 1 u (bL 8 λt _=>ey 3 6 (uI 5 (⟨true,Sl.nil,Sl.nil,Sl.nil⟩:Slice) [.bool true] [.bool false,.bE,.bE,.bE] [(0,1)] (by simp only[ji,jR,eH,mq,kI,mS,mG];rfl) rfl (iT 0 2 0 (⟨true,Sl.nil,Sl.nil,Sl.nil⟩:Slice) bn)) (uI 3 (⟨false,Sl.nil,Sl.nil,Sl.nil⟩:Slice) [] [.bool false,.bE,.bE,.bE] [] (by simp only[ji,jR,eH,mq,kI,mS,mG];rfl) rfl (iT 0 2 0 (⟨false,Sl.nil,Sl.nil,Sl.nil⟩:Slice) bn))))
def z8 (u:Trace) (p1:Int):bf Bool:=
 (bt (decide (p1>=0))
 (some (decide (p1<(len u.procs))))
 (some false):bf Bool).bind λt=>
 some t
instance Rg (u:Trace) (p1:Int):Fc Sy cL (z8 u p1):=Fc.M 88 [enc u,.int .i64 p1] (dR 2 2 u (cz 8 6 [1,2,7] 13 (bG 8 7 (bZ 3 u.procs (bD 2)) (bD 6)) λt=>bn))
def wN (u:Trace) (B:Sl Int):bf Bool:=
 (fN u B).bind λt=>
 some (!t.2.2)
instance Sk (u:Trace) (B:Sl Int):Fc Sy cL (wN u B):=Fc.M 89 [enc u,enc B] (dR 2 2 u (bL 7 λt _=>bn))
namespace eY
def eG (B:Sl (Sl Int)) (D:Int) (G:Trace) (u:Int):bf (Fw Int Unit Unit):=
 bt (decide (u<D))
 ((idx B u).bind λt=>
 (wN G t).bind λw=>
 bt w
 (some (.n (IntKind.wrap .i64 (u+1))))
 (some (.r ())))
 (some (.x ()))
def W3 (u:Sl (Sl Int)) (B D:Int) (G:Trace):bf Int:=
 (bM (λq:Int=>eG u B G q) D).bind (Fw.elim
 (λe=>some 0)
 (λe=>some 18))
def b7 (J:Sl (Sl Int)) (B:Sl Int) (D:Int) (G:Trace) (u:Int):bf (Fw Int Unit Unit):=
 bt (decide (u<D))
 ((idx B u).bind λt=>
 (z8 G t).bind λw=>
 bt w
 (some (.n (IntKind.wrap .i64 (u+1))))
 (some (.r ())))
 (some (.x ()))
def W2 (B:Sl (Sl Int)) (D:Sl Int) (G J:Int) (u:Trace):bf Int:=
 (bM (λq:Int=>b7 B D G u q) J).bind (Fw.elim
 (λe=>eY.W3 B (len B) 0 u)
 (λe=>some 2))
def bA (O:Sl (Sl Int)) (B:Sl Int) (D:Sl (Sl Int)) (G:Int) (J:Trace) (u:Int):bf (Fw Int Unit Unit):=
 bt (decide (u<G))
 ((idx D u).bind λt=>
 (iA J t).bind λw=>
 bt w
 (some (.n (IntKind.wrap .i64 (u+1))))
 (some (.r ())))
 (some (.x ()))
def W1 (O:Sl (Sl Int)) (u:Sl Int) (D:Sl (Sl Int)) (G J:Int) (B:Trace):bf Int:=
 (bM (λq:Int=>bA O u D G B q) J).bind (Fw.elim
 (λe=>eY.W2 O u (len u) 0 B)
 (λe=>some 2))
end eY
def eY (D:Trace) (B:Sl (Sl Int)) (u:Sl Int):bf Int:=
 (tC D B).bind λt=>
 bt t
 (eY.W1 B u B (len B) 0 D)
 (some 1)
open eY in
instance To (D:Trace) (B:Sl (Sl Int)) (u:Sl Int):Fc Sy cL (eY D B u):=Fc.M 56 [enc D,enc B,enc u] (dR 2 3 D (bL 8 λJ _=>ey 3 16 (bZ 7 B (dN 5 (λC=>(bJ [Cv 1 B,Cv 2 u,Pv 3,Cv 17 B,Iv 18 (len B),Iv 19 C] [Xb 3 D])) (λt=>(0,(bJ [Cv 1 B,Cv 2 u,Pv 3] [Xb 3 D]))) (λt=>(bJ [Iv 6 2] [])) (λC=>bG 7 20 (cu 7 λL _=>bL 8 λO _=>ey 3 26 bn bn) bn) (λt=>bZ 6 u (dN 5 (λG=>(bJ [Cv 1 B,Pv 3,Cv 28 u,Iv 29 (len u),Iv 30 G] [Xb 3 D])) (λw=>(2,(bJ [Cv 1 B,Pv 3] [Xb 3 D]))) (λw=>(bJ [Iv 6 2] [])) (λG=>bG 7 31 (cu 7 λQ _=>bL 8 λS _=>ey 3 37 bn bn) bn) (λw=>bZ 6 B (dN 5 (λI=>(bJ [Pv 3,Cv 39 B,Iv 40 (len B),Iv 41 I] [Xb 3 D])) (λz=>(4,(bJ [] []))) (λz=>(bJ [Iv 6 18] [])) (λI=>bG 7 42 (cu 7 λT _=>bL 8 λU _=>ey 3 48 bn bn) bn) (λz=>bn) (λz=>bn))) (λw=>bn))) (λt=>bn))) bn))
def o7 (u:Trace) (B:Sl Int):bf Bool:=
 (eY u (Sl.row [B]:Sl (Sl Int)) (Sl.nil:Sl Int)).bind λt=>
 some (t==0)
instance MF (u:Trace) (B:Sl Int):Fc Sy cL (o7 u B):=Fc.M 31 [enc u,enc B] (dR 2 2 u (DV 7 7 ([B]:a_ (Sl Int)) (jf 0 λt _=>bn)))
def jy (u:Sl Int) (B:Trace):bf Bool:=
 (o7 B u).bind λt=>
 some (!t)
instance OE (u:Sl Int) (B:Trace):Fc Sy cL (jy u B):=Fc.M 30 [enc u,.fptr (cells B)] (bL 9 λt _=>bn)
namespace dQ
def bA (a0 J:Sl Int) (D:Int) (u:Sl Int) (B:Int) (p2:(Int×Int)->bf Int):bf (Fw ((Sl Int)×Int) (Sl Int) Empty):=
 bt (decide (B<D))
 ((idx a0 B).bind λt=>
 (idx J B).bind λw=>
 (p2 (t,w)).bind λz=>
 (Sl.jH u B).bind λC=>
 (Sl.put u C (z:Int)).bind λG=>
 some (.n (G,IntKind.wrap .i64 (B+1))))
 (some (.x u))
def W1 (a0 G u:Sl Int) (B D:Int) (p2:(Int×Int)->bf Int):bf (Sl Int):=
 (bM (λq:(Sl Int)×Int=>bA a0 G B q.1 q.2 p2) (u,D)).bind (Fw.elim
 (λe=>some e)
 (λe=>Empty.elim e))
end dQ
def dQ (a0 u:Sl Int) (p2:(Int×Int)->bf Int):bf (Sl Int):=
 (iX (len a0) (0:Int)).bind λt=>
 dQ.W1 a0 u t (len a0) 0 p2
open dQ in
abbrev vi (g2:FuncId) (e2:a_ V) (p2:(Int×Int)->bf Int) (G:nF Sy cL g2 [] e2 (λz:Int×Int=>[.int .i64 z.1,.int .i64 z.2]) (λr:Int=>[.int .i64 r]) p2 true) (a0 B:Sl Int):Fc Sy cL (dQ a0 B p2):=Fc.N 57 [enc a0,enc B,.clo g2 [] e2] (bZ 8 a0 (FL 0 11 λI _=>bZ 7 a0 (gZ 6 (λt=>(bJ [Cv 0 a0,Cv 1 B,(2,.v (.clo g2 [] e2)),Ov 7,Iv 13 (len a0),Iv 14 t.2] [Lb 2007 t.1])) (λu=>(0,(bJ [Ov 7] [Lb 2007 u]))) (λt=>bG 8 15 (cu 17 λw _=>cu 3 λC _=>wI 1 G.f (w,C) λD _=>lX .i64 0 2007 λJ _=>AE 0 2007 (.int .i64 D) λL _=>bn) bn) (λu=>bn))))
def nD (u B:Int):bf Int:=
 some (if B<u then B else u)
instance OA (u B:Int):Fc Sy cL (nD u B):=Fc.M 58 [.int .i64 u,.int .i64 B] (bn)
def rC (a0 u:Sl Int):bf (Sl Int):=
 (dQ a0 u (λz=>nD z.1 z.2)).bind λt=>
 some t
instance S9 (a0 u:Sl Int):Fc Sy cL (rC a0 u):=Fc.N 33 [enc a0,enc u] (bL (F:=vi 58 [] (λz=>nD z.1 z.2) nF.vl a0 u) 9 λt _=>bn)
def pO (u B:Int):bf Int:=
 some (if B>u then B else u)
instance OS (u B:Int):Fc Sy cL (pO u B):=Fc.M 59 [.int .i64 u,.int .i64 B] (bn)
def rA (a0 u:Sl Int):bf (Sl Int):=
 (dQ a0 u (λz=>pO z.1 z.2)).bind λt=>
 some t
instance S_ (a0 u:Sl Int):Fc Sy cL (rA a0 u):=Fc.N 34 [enc a0,enc u] (bL (F:=vi 59 [] (λz=>pO z.1 z.2) nF.vl a0 u) 9 λt _=>bn)
def q_ (s0:Slice) (u:bg):bf ((Sl Int)×(Sl (Sl (Sl Int)))):=
 ((idx s0.j u.proc).bind Sl.whole).bind λt=>
 (Sl.jH t (IntKind.wrap .i64 (u.index-1))).bind λw=>
 (Sl.get t w).bind λz=>
 (Sl.whole t).bind λB=>
 some (z,jk s0.j u.proc B)
abbrev zW (s0:Slice) (B:bg):uS Sy cL (q_ s0 B):=uS.mk' 37 [.agg [bv s0.empty,cv s0.first,cv s0.last,.own 194003],cv B] [(194003,jP (s0.j:Sl (Sl (Sl Int))))] (λr:(Sl Int)×(Sl (Sl (Sl Int)))=>[enc r.1]) (λr:(Sl Int)×(Sl (Sl (Sl Int)))=>[(194003,jP (r.2:Sl (Sl (Sl Int))))]) (TC 2 2 [bv s0.empty,cv s0.first,cv s0.last,.own 194003] (by simp only[List.all_cons,GC,A8,CQ,AA,mw,kR,mK,mc,C6];rfl) (x6 5 194003 6005 (.c 3 0) λw t=>FQ 6 194003 6005 .i64 t (Fj 0 194003 6005 t (lX .i64 3 6005 λz _=>tP 0 6005 0 1 false (λu=>enc u) λu _=>zj 2 194003 6005 t λC _=>bn))))
namespace eW
def J1 (G D:Sl Int) (B:bg) (u:Slice):bf (Bool×Slice):=
 ((idx u.j B.proc).bind Sl.whole).bind λt=>
 (rC D G).bind λw=>
 (Sl.jH t (IntKind.wrap .i64 (B.index-1))).bind λz=>
 (Sl.put t z (w:Sl Int)).bind λC=>
 (Sl.whole C).bind λI=>
 some (true,(⟨u.empty,u.first,u.last,jk u.j B.proc I⟩:Slice))
end eW
def eW (B:bg) (u:Slice) (D:Sl Int):bf (Bool×Slice):=
 (q_ u B).bind λt=>
 (Sl.isNil t.1).bind λw=>
 bt w
 (eW.J1 D D B (⟨u.empty,u.first,u.last,t.2⟩:Slice))
 (eW.J1 D t.1 B (⟨u.empty,u.first,u.last,t.2⟩:Slice))
open eW in
abbrev BD (B:bg) (u:Slice) (J:Sl Int):uS Sy cL (eW B u J):=uS.mk' 36 [cv B,.ptr 9500 0,.v (.fptr (cells J))] [(9500,.box [bv u.empty,cv u.first,cv u.last,.own 194003]),(194003,jP u.j)] (λr:Bool×Slice=>[.bool r.1]) (λr:Bool×Slice=>[(9500,.box [bv r.2.empty,cv r.2.first,cv r.2.last,.own 194003]),(194003,jP r.2.j)]) (LX 10 (zW u B) λI _=>RQ 7 λL _=>bG 2 10 (xW 9 (x6 1 194003 6012 (.c 3 0) λw t=>FQ 6 194003 6012 .i64 t (Fj 0 194003 6012 t (bL 5 λz _=>lX .i64 0 6012 λC _=>OP 0 6012 λD _=>zj 1 194003 6012 t λG _=>bn)))) (xW 6 (x6 1 194003 6012 (.c 3 0) λw t=>FQ 6 194003 6012 .i64 t (Fj 0 194003 6012 t (bL 5 λz _=>lX .i64 0 6012 λC _=>OP 0 6012 λD _=>zj 1 194003 6012 t λG _=>bn)))))
section
variable {σ:Type} (f:bg->σ->bf (Bool×σ))
def uR (p n:Int) (q:Int×σ):bf (Fw (Int×σ) σ σ):=bt (decide (q.1<n)) ((f (⟨p,IntKind.wrap .i64 (q.1+1)⟩:bg) q.2).bind λy=>bt y.1 (some (.n (IntKind.wrap .i64 (q.1+1),y.2))) (some (.r y.2))) (some (.x q.2))
def uP (c:Sl Int) (q:Int×σ):bf (Fw (Int×σ) σ σ):=bt (decide (q.1<len c)) ((idx c q.1).bind λy=>(bM (uR f q.1 y) (0,q.2)).bind (Fw.elim (λe=>some (.n (IntKind.wrap .i64 (q.1+1),e))) (λe=>some (.r e)))) (some (.x q.2))
def sU (c:Sl Int) (f:bg->σ->bf (Bool×σ)) (s:σ):bf (Bool×σ):=(bM (uP f c) (0,s)).bind (Fw.elim (λe=>some (true,e)) (λe=>some (false,e)))
end
section
variable {σ:Type} {gf:FuncId} {ex:a_ SV} {os:σ->c8} {p:bg->σ->bf (Bool×σ)} (h:D5 Sy cL (.clo gf [] ex) gf ex os p) (s0:Sl Int) (x:σ)
abbrev Gf:uS Sy cL (sU s0 p x):=uS.mk' 35 [cv s0,(.clo gf [] ex)] (os x) (λr=>[.bool r.1]) (λr=>os r.2)
 (bZ 9 s0 (dN 5 (λq=>⟨[(1,(.clo gf [] ex)),Cv 8 s0,Iv 9 (len s0),Iv 10 q.1],os q.2,(os x).map (·.1),[],true,0⟩) (λe=>(0,⟨[],os e,(os x).map (·.1),[],true,0⟩)) (λe=>⟨[Bv 4 false],os e,(os x).map (·.1),[],true,0⟩)
  (λq=>bG 7 11 (cu 8 λy _=>dN 13 (λz=>⟨[(1,(.clo gf [] ex)),Cv 8 s0,Iv 9 (len s0),Iv 10 q.1,Iv 5 q.1,Iv 15 y,Iv 16 z.1],os z.2,(os x).map (·.1),[],true,0⟩) (λe=>(2,⟨[(1,(.clo gf [] ex)),Cv 8 s0,Iv 9 (len s0),Iv 10 q.1],os e,(os x).map (·.1),[],true,0⟩)) (λe=>⟨[Bv 4 false],os e,(os x).map (·.1),[],true,0⟩)
   (λz=>bG 7 17 (SP 18 h (⟨q.1,IntKind.wrap .i64 (z.1+1)⟩:bg) z.2 λr _=>ey 3 25 bn bn) bn) (λe=>bn) (λe=>bn)) bn) (λe=>Ub 9 h [.bool true] rfl) (λe=>Le.of_eq (K1 h (ys:=[.bool false]) Ze rfl)))) (hp:=λr=>h.wi x r.2)
end
section
variable {σ:Type} {gf:FuncId} {ex:a_ V} {os:σ->c8} {p:bg->σ->bf (Bool×σ)} (h:D5 Sy cL (.v (.clo gf [] ex)) gf (ex.map .v) os p) (s0:Sl Int) (x:σ)
end
namespace dH
def b7 (G:Sl (Sl Int)) (J:Int) (B:Int) (D u:Slice):bf (Fw (Int×Slice×Slice) (Slice×Slice) Empty):=
 bt (decide (B<J))
 ((idx G B).bind λt=>
 (rC u.first t).bind λw=>
 (rA u.last t).bind λz=>
 (sU t (λx s=>eW x s t) (⟨u.empty,w,z,u.j⟩:Slice)).bind λC=>
 some (.n (IntKind.wrap .i64 (B+1),(⟨D.empty,Sl.nil,Sl.nil,Sl.nil⟩:Slice),C.2)))
 (some (.x ((⟨D.empty,Sl.nil,Sl.nil,Sl.nil⟩:Slice),u)))
def W2 (B:Sl (Sl Int)) (D G:Int) (J u:Slice):bf (Slice×Int):=
 (bM (λq:Int×Slice×Slice=>b7 B D q.1 q.2.1 q.2.2) (G,J,u)).bind (Fw.elim
 (λe=>some (e.2,0))
 (λe=>Empty.elim e))
def bA (O:Sl (Sl Int)) (G:Sl cr) (J:Int) (B:Int) (D u:Slice):bf (Fw (Int×Slice×Slice) (Slice×Slice) Empty):=
 bt (decide (B<J))
 ((idx G B).bind λw=>
 (iX (len w.events) (Sl.nil:Sl Int)).bind λz=>
 (Sl.whole z).bind λt=>
 (eA u.j t).bind λC=>
 some (.n (IntKind.wrap .i64 (B+1),(⟨D.empty,Sl.nil,Sl.nil,Sl.nil⟩:Slice),(⟨u.empty,u.first,u.last,C⟩:Slice))))
 (some (.x ((⟨D.empty,Sl.nil,Sl.nil,Sl.nil⟩:Slice),u)))
def W1 (B:Sl (Sl Int)) (D:Sl cr) (G J:Int) (O u:Slice):bf (Slice×Int):=
 (bM (λq:Int×Slice×Slice=>bA B D G q.1 q.2.1 q.2.2) (J,O,u)).bind (Fw.elim
 (λe=>dH.W2 B (len B) 0 (⟨e.1.empty,Sl.nil,Sl.nil,Sl.nil⟩:Slice) e.2)
 (λe=>Empty.elim e))
end dH
def dH (B:Trace) (u:Sl (Sl Int)):bf (Slice×Int):=
 (dG B).bind λt=>
 bt t
 (bt (decide ((len u)>5000))
 (some (⟨false,Sl.nil,Sl.nil,Sl.nil⟩,5))
 ((c6 u (λz=>jy z B)).bind λw=>
 bt w
 (some (⟨false,Sl.nil,Sl.nil,Sl.nil⟩,18))
 (bt ((len u)==0)
 (some (⟨true,Sl.nil,Sl.nil,Sl.nil⟩,0))
 ((idx u 0).bind λC=>
 (gD C).bind λD=>
 (idx u 0).bind λG=>
 (gD G).bind λI=>
 dH.W1 u B.procs (len B.procs) 0 (⟨false,Sl.nil,Sl.nil,Sl.nil⟩:Slice) (⟨false,D,I,Sl.nil⟩:Slice)))))
 (some (⟨false,Sl.nil,Sl.nil,Sl.nil⟩,1))
open dH in
instance Sg (G:Trace) (D:Sl (Sl Int)):Fc Sy cL (dH G D):=Fc.N 9 [enc G,enc D] (dR 2 2 G (bL 9 λY _=>ey 4 11 (bZ 4 D (bG 4 16 (uI 3 (⟨false,Sl.nil,Sl.nil,Sl.nil⟩:Slice) [] [.bool false,.bE,.bE,.bE] [] (by simp only[ji,jR,eH,mq,kI,mS,mG];rfl) rfl (iT 0 4 0 (⟨false,Sl.nil,Sl.nil,Sl.nil⟩:Slice) bn)) (jf (F:=iI 30 [.fptr (cells G)] (λz=>jy z G) nF.vl D) 5 λZ _=>bG 3 21 (uI 3 (⟨false,Sl.nil,Sl.nil,Sl.nil⟩:Slice) [] [.bool false,.bE,.bE,.bE] [] (by simp only[ji,jR,eH,mq,kI,mS,mG];rfl) rfl (iT 0 4 0 (⟨false,Sl.nil,Sl.nil,Sl.nil⟩:Slice) bn)) (bZ 4 D (bG 4 26 (uI 3 (⟨true,Sl.nil,Sl.nil,Sl.nil⟩:Slice) [.bool true] [.bool false,.bE,.bE,.bE] [(0,1)] (by simp only[ji,jR,eH,mq,kI,mS,mG];rfl) rfl (iT 0 4 0 (⟨true,Sl.nil,Sl.nil,Sl.nil⟩:Slice) bn)) (cu 7 λT _=>OV 1 mF T λL _=>cu 1 λU _=>OV 1 mF U λO _=>uI 0 (⟨false,L,O,Sl.nil⟩:Slice) [enc L,enc O] [.bool false,.bE,.bE,.bE] [(1,1),(2,1)] (by simp only[ji,jR,eH,mq,kI,mS,mG];rfl) rfl (iT 1 6 0 (⟨false,L,O,Sl.nil⟩:Slice) (bZ 8 G.procs (gZ 7 (λw=>(bJ [Cv 1 D,Pv 4,(6,.ptr 9500 0),Cv 41 G.procs,Iv 42 (len G.procs),Iv 43 w.1] [Xb 4 (⟨w.2.1.empty,Sl.nil,Sl.nil,Sl.nil⟩:Slice),(9500,.box [bv w.2.2.empty,cv w.2.2.first,cv w.2.2.last,.own 194003]),(194003,jP w.2.2.j)])) (λC=>(1,(bJ [Cv 1 D,Pv 4,(6,.ptr 9500 0)] [Xb 4 (⟨C.1.empty,Sl.nil,Sl.nil,Sl.nil⟩:Slice),(9500,.box [bv C.2.empty,cv C.2.first,cv C.2.last,.own 194003]),(194003,jP C.2.j)]))) (λw=>bG 9 44 (cu 7 λS _=>iT 2 8 0 S (bZ 7 S.events (FL 0 52 λaa _=>Ti (α:=Sl Int) 0 53 52 (RR 0 194003 53 52 54 λW _ ab _=>bn)))) bn) (λC=>bZ 6 D (gZ 7 (λt=>(bJ [Pv 4,(6,.ptr 9500 0),Cv 57 D,Iv 58 (len D),Iv 59 t.1] [Xb 4 (⟨t.2.1.empty,Sl.nil,Sl.nil,Sl.nil⟩:Slice),(9500,.box [bv t.2.2.empty,cv t.2.2.first,cv t.2.2.last,.own 194003]),(194003,jP t.2.2.j)])) (λB=>(3,(bJ [Pv 4,(6,.ptr 9500 0)] [Xb 4 (⟨B.1.empty,Sl.nil,Sl.nil,Sl.nil⟩:Slice),(9500,.box [bv B.2.empty,cv B.2.first,cv B.2.last,.own 194003]),(194003,jP B.2.j)]))) (λt=>bG 9 60 (cu 7 λu _=>iT 2 10 0 u (bL 7 λI _=>bL 3 λJ _=>iT 1 9500 1 I (iT 1 9500 2 J (LX 6 (Gf (D5.Vy (σ:=Slice) (g:=36) (e:=[.ptr 9500 0,cp u]) (os:=λs=>[(9500,.box [bv s.empty,cv s.first,cv s.last,.own 194003]),(194003,jP s.j)]) (p:=(λQ s=>eW Q s u)) (λQ s=>BD Q s u)) u (⟨t.2.2.empty,I,J,t.2.2.j⟩:Slice)) λX _=>bn)))) bn) (λB=>iT 6 4 0 B.2 bn)))))))))))) (uI 3 (⟨false,Sl.nil,Sl.nil,Sl.nil⟩:Slice) [] [.bool false,.bE,.bE,.bE] [] (by simp only[ji,jR,eH,mq,kI,mS,mG];rfl) rfl (iT 0 4 0 (⟨false,Sl.nil,Sl.nil,Sl.nil⟩:Slice) bn))))
def nJ (u:Int):bf Bool:=
 (bt (decide (u>=65))
 (some (decide (u<=90)))
 (some false):bf Bool).bind λt=>
 (bt t
 (some true)
 ((bt (decide (u>=97))
 (some (decide (u<=122)))
 (some false):bf Bool).bind λw=>
 some w):bf Bool).bind λz=>
 some z
instance O3 (u:Int):Fc Sy cL (nJ u):=Fc.M 117 [.int .u8 u] (cz 10 3 [5] 8 (bG 10 5 (bD 3) (bD 3)) λt=>cz 1 7 [0,9] 16 (bG 1 9 (bD 7) (cz 3 3 [0,12] 15 (bG 3 12 (bD 3) (bD 3)) λw=>bD 1)) λz=>bn)
def rm (u:Int):bf Bool:=
 (bt (decide (u>=48))
 (some (decide (u<=57)))
 (some false):bf Bool).bind λt=>
 some t
instance Qq (u:Int):Fc Sy cL (rm u):=Fc.M 118 [.int .u8 u] (cz 10 3 [0,5] 8 (bG 10 5 (bD 3) (bD 3)) λt=>bn)
namespace gb
def bA (s0:ByteArray) (i3:Int):bf (Fw Int Unit Unit):=
 bt (decide (i3<((ByteArray.size s0:Nat):Int)))
 ((jV s0 i3).bind λw=>
 (nJ w).bind λz=>
 (bt z
 (some false)
 ((jV s0 i3).bind λB=>
 (rm B).bind λC=>
 some (!C)):bf Bool).bind λD=>
 (bt D
 ((jV s0 i3).bind λt=>
 some (!(t==95)))
 (some false):bf Bool).bind λu=>
 bt u
 (some (.r ()))
 (some (.n (IntKind.wrap .i64 (i3+1)))))
 (some (.x ()))
def W1 (s0:ByteArray) (i3:Int):bf Bool:=
 (bM (λq:Int=>bA s0 q) i3).bind (Fw.elim
 (λe=>some true)
 (λe=>some false))
end gb
def gb (s0:ByteArray):bf Bool:=
 (bt (decide (((ByteArray.size s0:Nat):Int)<1))
 (some true)
 (some (decide (((ByteArray.size s0:Nat):Int)>16))):bf Bool).bind λt=>
 (bt t
 (some true)
 ((jV s0 0).bind λu=>
 (nJ u).bind λw=>
 some (!w)):bf Bool).bind λz=>
 bt z
 (some false)
 (gb.W1 s0 1)
open gb in
instance Rj (s0:ByteArray):Fc Sy cL (gb s0):=Fc.M 90 [.str s0] (cz 12 4 [7] 11 (bG 12 7 (bD 4) (bD 4)) λB=>cz 1 5 [12] 17 (bG 1 12 (bD 5) (yU 1 .i64 λC _=>bL 0 λD _=>bD 2)) λG=>bG 2 17 bn (dN 11 (λu=>(bJ [(0,.v (.str s0)),Iv 3 u] [])) (λt=>(0,(bJ [] []))) (λt=>(bJ [Bv 2 false] [])) (λu=>bG 10 21 (yU 9 .i64 λI _=>bL 0 λJ _=>cz 2 6 [29] 35 (ey 2 29 (bD 6) (yU 2 .i64 λL _=>bL 0 λO _=>bD 2)) λQ=>cz 1 5 [36] 41 (bG 1 36 (yU 2 .i64 λw _=>bD 2) (bD 5)) λz=>bG 2 41 bn bn) bn) (λt=>bn) (λt=>bn)))
def oh (u:Int):bf Bool:=
 (bt (decide (u>=(-1073741824)))
 (some (decide (u<=1073741824)))
 (some false):bf Bool).bind λt=>
 some t
instance Q9 (u:Int):Fc Sy cL (oh u):=Fc.M 91 [.int .i64 u] (cz 10 3 [0,5] 8 (bG 10 5 (bD 3) (bD 3)) λt=>bn)
namespace dK
def eG (D:Int) (u:cr) (B:Int):bf (Fw Int Unit Unit):=
 bt (decide (B<D))
 ((idx u.vars B).bind λt=>
 (idx u.vars D).bind λw=>
 bt (ByteArray.toList t.name==ByteArray.toList w.name)
 (some (.r ()))
 (some (.n (IntKind.wrap .i64 (B+1)))))
 (some (.x ()))
def W3 (B D:Int) (u:cr):bf (Fw Int Unit Int):=
 (bM (λq:Int=>eG B u q) D).bind (Fw.elim
 (λe=>(idx u.vars B).bind λt=>
 (oh t.init_).bind λw=>
 bt w
 (some (.n (IntKind.wrap .i64 (B+1))))
 (some (.r 2)))
 (λe=>some (.r 13)))
def b7 (u:cr) (B:Int):bf (Fw Int Unit Int):=
 bt (decide (B<(len u.vars)))
 ((idx u.vars B).bind λt=>
 (gb t.name).bind λw=>
 bt w
 (W3 B 0 u)
 (some (.r 13)))
 (some (.x ()))
def W2 (B:Int) (u:cr):bf Int:=
 (bM (λq:Int=>b7 u q) B).bind (Fw.elim
 (λe=>bt (decide ((len u.events)>64))
 (some 5)
 (some 0))
 (λe=>some e))
def bA (p1:Int) (u:Trace) (B:cr) (D:Int):bf (Fw Int Unit Unit):=
 bt (decide (D<p1))
 ((idx u.procs D).bind λt=>
 bt (ByteArray.toList t.name==ByteArray.toList B.name)
 (some (.r ()))
 (some (.n (IntKind.wrap .i64 (D+1)))))
 (some (.x ()))
def W1 (p1 D:Int) (B:Trace) (u:cr):bf Int:=
 (bM (λq:Int=>bA p1 B u q) D).bind (Fw.elim
 (λe=>bt (decide ((len u.vars)>8))
 (some 5)
 (dK.W2 0 u))
 (λe=>some 13))
end dK
def dK (B:Trace) (p1:Int):bf Int:=
 (idx B.procs p1).bind λt=>
 (gb t.name).bind λu=>
 bt u
 (dK.W1 p1 0 B t)
 (some 13)
open dK in
instance Rt (G:Trace) (p1:Int):Fc Sy cL (dK G p1):=Fc.M 60 [enc G,.int .i64 p1] (dR 2 2 G (cu 8 λt _=>iT 2 5 0 t (bL 7 λI _=>ey 3 17 (dN 11 (λC=>(bJ [Iv 1 p1,Pv 2,Pv 5,Iv 6 C] [Xb 2 G,Xb 5 t])) (λz=>(0,(bJ [Pv 5] [Xb 5 t]))) (λz=>(bJ [Iv 4 13] [])) (λC=>bG 9 20 (cu 10 λJ _=>bG 7 31 bn bn) bn) (λz=>bZ 7 t.vars (bG 3 35 bn (dN 11 (λu=>(bJ [Pv 5,Iv 7 u] [Xb 5 t])) (λw=>(2,(bJ [Pv 5] [Xb 5 t]))) (λw=>(bJ [Iv 4 w] [])) (λu=>bZ 7 t.vars (bG 3 40 (cu 11 λL _=>bL 2 λO _=>ey 3 50 (dN 11 (λD=>(bJ [Pv 5,Iv 7 u,Iv 8 D] [Xb 5 t])) (λB=>(4,(bJ [Pv 5,Iv 7 u] [Xb 5 t]))) (λB=>(bJ [Iv 4 13] [])) (λD=>bG 9 53 (cu 10 λQ _=>cu 5 λS _=>bG 5 68 bn bn) bn) (λB=>cu 7 λT _=>bL 2 λU _=>ey 3 76 bn bn) (λB=>bn)) bn) bn)) (λw=>bZ 7 t.events (bG 3 80 bn bn)) (λw=>bn)))) (λz=>bn)) bn)))
namespace dL
def eG (p1 G:Int) (J:Trace) (B:Event) (D:Assign) (u:Int):bf (Fw Int Unit Unit):=
 bt (decide (u<G))
 ((idx B.assign u).bind λt=>
 bt (t.var==D.var)
 (some (.r ()))
 (some (.n (IntKind.wrap .i64 (u+1)))))
 (some (.x ()))
def W3 (p1 J u:Int) (B:Trace) (D:Event) (G:Assign):bf (Fw Int Unit Int):=
 (bM (λq:Int=>eG p1 J B D G q) u).bind (Fw.elim
 (λe=>some (.n (IntKind.wrap .i64 (J+1))))
 (λe=>some (.r 8)))
def b7 (p1:Int) (B:Trace) (u:Event) (G:Int):bf (Fw Int Unit Int):=
 bt (decide (G<(len u.assign)))
 ((idx u.assign G).bind λt=>
 (bt (decide (t.var<0))
 (some true)
 ((idx B.procs p1).bind λw=>
 some (decide (t.var>=(len w.vars)))):bf Bool).bind λz=>
 (bt z
 (some true)
 ((oh t.value).bind λC=>
 some (!C)):bf Bool).bind λD=>
 bt D
 (some (.r 2))
 (W3 p1 G 0 B u t))
 (some (.x ()))
def W2 (p1 D:Int) (u:Trace) (B:Event):bf Int:=
 (bM (λq:Int=>b7 p1 u B q) D).bind (Fw.elim
 (λe=>some 0)
 (λe=>some e))
def J1 (p1 i2:Int) (B:Trace) (u:Event):bf Int:=
 (bt (decide (u.time<0))
 (some true)
 (some (decide (u.time>1099511627776))):bf Bool).bind λt=>
 (bt t
 (some true)
 ((bt (decide (i2>0))
 ((idx B.procs p1).bind λw=>
 (idx w.events (IntKind.wrap .i64 (i2-1))).bind λz=>
 some (decide (u.time<z.time)))
 (some false):bf Bool).bind λC=>
 some C):bf Bool).bind λD=>
 bt D
 (some 11)
 (bt (decide ((len u.assign)>8))
 (some 5)
 (dL.W2 p1 0 B u))
theorem vj (p1 i2:Int) (B:Trace) (u:Event):Le ((J1 p1 i2 B u).bind (λr=>some [.int .i64 r])) (bV Sy cL (qm (tr Tx 61)) (tN (tb Tx 61) [1,1,1,0] [] (bJ [Iv 1 p1,Iv 2 i2,Pv 3,Pv 7] [Xb 3 B,Xb 7 u]))):=
 cz 7 4 [71] 75 (bG 7 71 (bD 4) (bD 4)) λJ=>cz 1 19 [2,76] 95 (bG 1 76 (bD 19) (cz 3 15 [2,79] 94 (bG 3 79 (cu 5 λL _=>cu 4 λO _=>bD 4) (bD 15)) λQ=>bD 1)) λS=>bG 2 95 bn (bZ 8 u.assign (bG 3 99 bn (dN 11 (λt=>(bJ [Iv 1 p1,Pv 3,Pv 7,Iv 8 t] [Xb 3 B,Xb 7 u])) (λw=>(0,(bJ [] []))) (λw=>(bJ [Iv 6 w] [])) (λt=>bZ 7 u.assign (bG 3 104 (cu 10 λz _=>cz 12 11 [115] 126 (bG 12 115 (bD 11) (cu 5 λG _=>bZ 2 G.vars (bD 2))) λT=>BA 1 5 [130] (λC=>(bJ [Iv 1 p1,Pv 3,Pv 7,Iv 8 t,Bv 104 true,Pv 9,Bv 132 C] [Xb 3 B,Xb 7 u,Xb 9 z])) (bG 1 127 (bD 5) (jf 2 λU _=>bD 2)) λC=>bG 2 132 bn (dN 10 (λI=>(bJ [Iv 1 p1,Pv 3,Pv 7,Iv 8 t,Pv 9,Iv 10 I] [Xb 3 B,Xb 7 u,Xb 9 z])) (λD=>(2,(bJ [Iv 1 p1,Pv 3,Pv 7,Iv 8 t] [Xb 3 B,Xb 7 u]))) (λD=>(bJ [Iv 6 8] [])) (λI=>bG 9 135 (cu 10 λW _=>bG 7 146 bn bn) bn) (λD=>bn) (λD=>bn))) bn)) (λw=>bn) (λw=>bn))))
end dL
def dL (u:Trace) (p1 i2:Int):bf Int:=
 (idx u.procs p1).bind λw=>
 (idx w.events i2).bind λt=>
 bt (t.kind==1)
 ((bt (t.peer==0)
 (some (!(t.message==0)))
 (some true):bf Bool).bind λz=>
 bt z
 (some 3)
 (dL.J1 p1 i2 u t))
 ((bt (t.kind==2)
 (some false)
 (some (!(t.kind==3))):bf Bool).bind λB=>
 (bt B
 (some true)
 (some (decide (t.peer<0))):bf Bool).bind λC=>
 (bt C
 (some true)
 (some (decide (t.peer>=(len u.procs)))):bf Bool).bind λD=>
 (bt D
 (some true)
 (some (t.peer==p1)):bf Bool).bind λG=>
 (bt G
 (some true)
 (some (decide (t.message<0))):bf Bool).bind λI=>
 (bt I
 (some true)
 (some (decide (t.message>199))):bf Bool).bind λJ=>
 bt J
 (some 3)
 (dL.J1 p1 i2 u t))
open dL in
instance Rs (u:Trace) (p1 i2:Int):Fc Sy cL (dL u p1 i2):=Fc.M 61 [enc u,.int .i64 p1,.int .i64 i2] (dR 2 3 u (cu 8 λw _=>cu 3 λt _=>iT 2 7 0 t (bG 10 22 (cz 7 4 [26] 30 (ey 7 26 (bD 4) (bD 4)) λz=>bG 2 30 bn (Dl 4 (vj p1 i2 u t))) (cz 7 4 [34] 38 (ey 7 34 (bD 4) (bD 4)) λB=>cz 1 4 [39] 43 (bG 1 39 (bD 4) (bD 4)) λC=>cz 1 7 [44] 51 (bG 1 44 (bD 7) (bZ 4 u.procs (bD 2))) λD=>cz 1 5 [52] 57 (bG 1 52 (bD 5) (bD 5)) λG=>cz 1 4 [58] 62 (bG 1 58 (bD 4) (bD 4)) λI=>cz 1 4 [63] 67 (bG 1 63 (bD 4) (bD 4)) λJ=>bG 2 67 bn (Dl 4 (vj p1 i2 u t))))))
def s_ (D:Trace) (B:bg):bf Event:=
 (idx D.procs B.proc).bind λt=>
 (idx t.events (IntKind.wrap .i64 (B.index-1))).bind λu=>
 some u
instance Tp (u:Trace) (B:bg):Fc Sy cL (s_ u B):=Fc.N 92 [enc u,enc B] (dR 2 2 u (cu 10 λw _=>cu 5 λt _=>iT 1 4 0 t bn))
namespace dw
def b7 (u D p7:Int) (B:Trace) (G:bg) (i8:Int):bf (Fw Int Unit bg):=
 (idx B.procs p7).bind λw=>
 bt (decide (i8<(len w.events)))
 ((idx B.procs p7).bind λz=>
 (idx z.events i8).bind λt=>
 (bt (t.kind==u)
 (some (t.message==D))
 (some false):bf Bool).bind λC=>
 bt C
 (some (.r (⟨p7,IntKind.wrap .i64 (i8+1)⟩:bg)))
 (some (.n (IntKind.wrap .i64 (i8+1)))))
 (some (.x ()))
def W2 (u G p7 i8:Int) (B:Trace) (D:bg):bf (Fw Int Unit bg):=
 (bM (λq:Int=>b7 u G p7 B D q) i8).bind (Fw.elim
 (λe=>some (.n (IntKind.wrap .i64 (p7+1))))
 (λe=>some (.r e)))
def bA (u G:Int) (B:Trace) (D:bg) (p7:Int):bf (Fw Int Unit bg):=
 bt (decide (p7<(len B.procs)))
 (W2 u G p7 0 B D)
 (some (.x ()))
def W1 (u G p7:Int) (B:Trace) (D:bg):bf bg:=
 (bM (λq:Int=>bA u G B D q) p7).bind (Fw.elim
 (λe=>some ⟨0,0⟩)
 (λe=>some e))
end dw
def dw (B:Trace) (u D:Int):bf bg:=
 dw.W1 u D 0 B (⟨0,0⟩:bg)
open dw in
instance Rk (B:Trace) (u D:Int):Fc Sy cL (dw B u D):=Fc.M 40 [enc B,.int .i64 u,.int .i64 D] (dR 2 3 B (dN 11 (λt=>(bJ [Iv 1 u,Iv 2 D,Pv 3,Pv 6,Iv 7 t] [Xb 3 B,Xb 6 (⟨0,0⟩:bg)])) (λw=>(0,(bJ [Pv 6] [Xb 6 (⟨0,0⟩:bg)]))) (λw=>(bJ [Pv 6] [Xb 6 w])) (λt=>bZ 7 B.procs (bG 3 14 (dN 12 (λC=>(bJ [Iv 1 u,Iv 2 D,Pv 3,Pv 6,Iv 7 t,Iv 8 C] [Xb 3 B,Xb 6 (⟨0,0⟩:bg)])) (λz=>(2,(bJ [Iv 1 u,Iv 2 D,Pv 3,Pv 6,Iv 7 t] [Xb 3 B,Xb 6 (⟨0,0⟩:bg)]))) (λz=>(bJ [Pv 6] [Xb 6 z])) (λC=>cu 8 λG _=>bZ 2 G.events (bG 3 25 (cu 10 λJ _=>cu 3 λI _=>iT 2 9 0 I (cz 9 5 [9,41] 46 (bG 9 41 (bD 5) (bD 5)) λL=>bG 2 46 bn bn)) bn)) (λz=>bn) (λz=>bn)) bn)) (λw=>bn) (λw=>bn)))
namespace gM
def bA (D:Trace) (G:bg) (B:Event) (u:Bool) (J:Int):bf (Fw (Bool×Int) Bool Empty):=
 (idx D.procs B.peer).bind λw=>
 bt (decide (J<(len w.events)))
 ((idx D.procs B.peer).bind λz=>
 (idx z.events J).bind λt=>
 (bt u
 (some true)
 ((bt (t.kind==2)
 (some (t.message==B.message))
 (some false):bf Bool).bind λC=>
 (bt C
 (some (t.peer==G.proc))
 (some false):bf Bool).bind λI=>
 some I):bf Bool).bind λL=>
 some (.n (L,IntKind.wrap .i64 (J+1))))
 (some (.x u))
def W1 (u:Bool) (J:Int) (B:Trace) (D:bg) (G:Event):bf Int:=
 (bM (λq:Bool×Int=>bA B D G q.1 q.2) (u,J)).bind (Fw.elim
 (λe=>bt e
 (some 0)
 (some 7))
 (λe=>Empty.elim e))
end gM
def gM (u:Trace) (B:bg):bf Int:=
 (s_ u B).bind λt=>
 bt (t.kind==1)
 (some 0)
 ((dw u t.kind t.message).bind λw=>
 bt (Iw w B)
 (bt (t.kind==3)
 (gM.W1 false 0 u B t)
 (some 0))
 (some 8))
open gM in
instance OO (B:Trace) (D:bg):Fc Sy cL (gM B D):=Fc.M 62 [enc B,enc D] (dR 2 2 B (bL 8 λu _=>iT 1 5 0 u (bG 10 14 bn (jf 11 λG _=>ey 4 22 (bG 11 25 (gZ 14 (λt=>(bJ [Pv 2,Pv 3,Pv 5,Bv 6 t.1,Iv 7 t.2] [Xb 2 B,Xb 3 D,Xb 5 u])) (λw=>(0,(bJ [Bv 6 w] []))) (λt=>cu 9 λz _=>bZ 2 z.events (bG 3 35 (cu 11 λI _=>cu 3 λC _=>iT 2 8 0 C (cz 5 18 [8,49] 67 (bG 5 49 (bD 18) (cz 4 6 [53] 59 (bG 4 53 (bD 6) (bD 6)) λJ=>cz 1 6 [8,60] 66 (bG 1 60 (bD 6) (bD 6)) λL=>bD 1)) λO=>bn)) bn)) (λw=>ey 8 69 bn bn)) bn) bn))))
namespace dP
def J4 (u:Sl Int) (p5:Int) (D:Trace):bf (Fw ((Sl Int)×Bool) ((Sl Int)×Bool) Empty):=
 (Sl.jH u p5).bind λt=>
 (Sl.get u t).bind λw=>
 (Sl.jH u p5).bind λz=>
 (Sl.put u z (IntKind.wrap .i64 (w+1):Int)).bind λB=>
 some (.n (B,true))
def eG (p5:Int) (D:Trace) (u:Sl Int) (B:Bool):bf (Fw ((Sl Int)×Bool) ((Sl Int)×Bool) Empty):=
 (Sl.jH u p5).bind λG=>
 (Sl.get u G).bind λI=>
 (idx D.procs p5).bind λJ=>
 bt (decide (I<(len J.events)))
 ((idx D.procs p5).bind λL=>
 (Sl.jH u p5).bind λO=>
 (Sl.get u O).bind λQ=>
 (idx L.events Q).bind λt=>
 bt (t.kind==3)
 ((dw D 2 t.message).bind λw=>
 (Sl.jH u w.proc).bind λz=>
 (Sl.get u z).bind λC=>
 bt (decide (C<w.index))
 (some (.x (u,B)))
 (J4 u p5 D))
 (J4 u p5 D))
 (some (.x (u,B)))
def W3 (B:Sl Int) (u:Bool) (p5:Int) (D:Trace):bf (Fw ((Sl Int)×Bool×Int) ((Sl Int)×Bool) Empty):=
 (bM (λq:(Sl Int)×Bool=>eG p5 D q.1 q.2) (B,u)).bind (Fw.elim
 (λe=>some (.n (e.1,e.2,IntKind.wrap .i64 (p5+1))))
 (λe=>Empty.elim e))
def b7 (D:Trace) (B:Sl Int) (u:Bool) (p5:Int):bf (Fw ((Sl Int)×Bool×Int) ((Sl Int)×Bool) Empty):=
 bt (decide (p5<(len D.procs)))
 (W3 B u p5 D)
 (some (.x (B,u)))
def W2 (B:Sl Int) (u:Bool) (p5:Int) (D:Trace):bf (Fw (Sl Int) (Sl Int) Empty):=
 (bM (λq:(Sl Int)×Bool×Int=>b7 D q.1 q.2.1 q.2.2) (B,u,p5)).bind (Fw.elim
 (λe=>bt e.2
 (some (.n e.1))
 (some (.x e.1)))
 (λe=>Empty.elim e))
def wj (u:Sl Int) (B:Trace) (D:Int):bf (Fw Int Unit Unit):=
 bt (decide (D<(len B.procs)))
 ((Sl.jH u D).bind λt=>
 (Sl.get u t).bind λw=>
 (idx B.procs D).bind λz=>
 bt (decide (w<(len z.events)))
 (some (.r ()))
 (some (.n (IntKind.wrap .i64 (D+1)))))
 (some (.x ()))
def W5 (u:Sl Int) (D:Int) (B:Trace):bf Bool:=
 (bM (λq:Int=>wj u B q) D).bind (Fw.elim
 (λe=>some true)
 (λe=>some false))
def bA (B:Trace) (u:Sl Int):bf (Fw (Sl Int) (Sl Int) Empty):=
 W2 u false 0 B
def W1 (u:Sl Int) (B:Trace):bf Bool:=
 (bM (λq:Sl Int=>bA B q) u).bind (Fw.elim
 (λe=>dP.W5 e 0 B)
 (λe=>Empty.elim e))
end dP
def dP (u:Trace):bf Bool:=
 (iX (len u.procs) (0:Int)).bind λt=>
 dP.W1 t u
open dP in
instance Na (u:Trace):Fc Sy cL (dP u):=Fc.M 63 [enc u] (dR 2 1 u (bZ 7 u.procs (FL 0 12 λad _=>gZ 7 (λL=>(bJ [Pv 1,Ov 3] [Xb 1 u,Lb 2003 L])) (λC=>(0,(bJ [Pv 1,Ov 3] [Xb 1 u,Lb 2003 C]))) (λL=>gZ 17 (λw=>(bJ [Pv 1,Ov 3,Bv 4 w.2.1,Iv 5 w.2.2] [Xb 1 u,Lb 2003 w.1])) (λD=>(2,(bJ [Pv 1,Ov 3,Bv 4 D.2] [Xb 1 u,Lb 2003 D.1]))) (λw=>bZ 8 u.procs (bG 3 17 (gZ 8 (λG=>(bJ [Pv 1,Ov 3,Bv 4 G.2,Iv 5 w.2.2] [Xb 1 u,Lb 2003 G.1])) (λI=>(4,(bJ [Pv 1,Ov 3,Bv 4 I.2,Iv 5 w.2.2] [Xb 1 u,Lb 2003 I.1]))) (λG=>lX .i64 7 2003 λae _=>tP 0 2003 0 1 false (λO=>.int .i64 O) λO _=>cu 3 λY _=>bZ 2 Y.events (bG 3 31 (cu 9 λaf _=>lX .i64 4 2003 λah _=>tP 0 2003 0 1 false (λQ=>.int .i64 Q) λQ _=>cu 0 λZ _=>iT 2 6 0 Z (bG 10 46 (bL 6 λai _=>lX .i64 9 2003 λaa _=>tP 0 2003 0 1 false (λz=>.int .i64 z) λz _=>bG 5 58 bn (xW 5 (lX .i64 4 2003 λS _=>tP 0 2003 0 1 false (λt=>.int .i64 t) λt _=>lX .i64 1 2003 λT _=>AE 0 2003 (.int .i64 (IntKind.wrap .i64 (t+1))) λU _=>bn))) (xW 5 (lX .i64 4 2003 λS _=>tP 0 2003 0 1 false (λt=>.int .i64 t) λt _=>lX .i64 1 2003 λT _=>AE 0 2003 (.int .i64 (IntKind.wrap .i64 (t+1))) λU _=>bn)))) bn)) (λI=>bn)) bn)) (λD=>ey 8 66 bn bn)) (λC=>dN 11 (λW=>(bJ [Pv 1,Ov 3,Iv 8 W] [Xb 1 u,Lb 2003 C])) (λJ=>(6,(bJ [] []))) (λJ=>(bJ [Bv 2 false] [])) (λW=>bZ 8 u.procs (bG 3 71 (lX .i64 9 2003 λab _=>tP 0 2003 0 1 false (λB=>.int .i64 B) λB _=>cu 3 λX _=>bZ 2 X.events (bG 3 85 bn bn)) bn)) (λJ=>bn) (λJ=>bn)))))
namespace dg
def J1 (u:Sl bg) (B:Trace) (D:bg):bf (Sl bg):=
 (s_ B D).bind λt=>
 bt (t.kind==3)
 ((dw B 2 t.message).bind λw=>
 (eA u (w:bg)).bind λz=>
 some z)
 (some u)
end dg
def dg (B:Trace) (u:bg):bf (Sl bg):=
 bt (decide (u.index>1))
 (dg.J1 (Sl.row [⟨u.proc,IntKind.wrap .i64 (u.index-1)⟩]:Sl bg) B u)
 (dg.J1 (Sl.nil:Sl bg) B u)
open dg in
theorem rE (B:Trace) (u:bg):tH Sy cL 93 (λ_:Unit=>[enc B,enc u]) (λ_=>dg B u):=tH.mk' (pF (Tx 93)) (λ_=>dR 2 2 B (bG 17 9 (ON 10 17 18 .bE (⟨u.proc,IntKind.wrap .i64 (u.index-1)⟩:bg) (xW 5 (bL 4 λt _=>iT 1 6 0 t (bG 10 24 (bL 6 λw _=>ri 1 2005 30 31 λz _=>bn) bn)))) (xW 5 (bL 4 λt _=>iT 1 6 0 t (bG 10 24 (bL 6 λw _=>ri 1 2005 30 31 λz _=>bn) bn)))))
namespace fh
def eG (G:Sl (Sl Bool)) (u:Sl bg) (J:Trace) (B:Sl bg) (D:Int):bf (Fw ((Sl bg)×Int) (Sl bg) Empty):=
 bt (decide (D<(len u)))
 ((Sl.jH u D).bind λt=>
 (Sl.get u t).bind λw=>
 (eA B (w:bg)).bind λz=>
 some (.n (z,IntKind.wrap .i64 (D+1))))
 (some (.x B))
def W3 (u:Sl (Sl Bool)) (B D:Sl bg) (G:Int) (J:Trace):bf (Fw ((Sl (Sl Bool))×(Sl bg)) (Sl (Sl Bool)) Empty):=
 (bM (λq:(Sl bg)×Int=>eG u D J q.1 q.2) (B,G)).bind (Fw.elim
 (λe=>some (.n (u,e)))
 (λe=>Empty.elim e))
def b7 (D:Trace) (B:Sl (Sl Bool)) (u:Sl bg):bf (Fw ((Sl (Sl Bool))×(Sl bg)) (Sl (Sl Bool)) Empty):=
 bt (decide ((len u)>0))
 ((Sl.jH u 0).bind λT=>
 (Sl.get u T).bind λt=>
 (ki u (some 1) none).bind λG=>
 ((idx B t.proc).bind Sl.whole).bind λC=>
 (Sl.jH C t.index).bind λI=>
 (Sl.get C I).bind λJ=>
 (Sl.whole C).bind λw=>
 bt J
 (some (.n (jk B t.proc w,G)))
 (((idx (jk B t.proc w) t.proc).bind Sl.whole).bind λz=>
 (Sl.jH z t.index).bind λL=>
 (Sl.put z L (true:Bool)).bind λO=>
 (Sl.whole O).bind λQ=>
 ((dg D t).bind Sl.whole).bind λS=>
 W3 (jk (jk B t.proc w) t.proc Q) G S 0 D))
 (some (.x B))
def W2 (B:Sl (Sl Bool)) (u:Sl bg) (D:Trace):bf (Sl (Sl Bool)):=
 (bM (λq:(Sl (Sl Bool))×(Sl bg)=>b7 D q.1 q.2) (B,u)).bind (Fw.elim
 (λe=>some e)
 (λe=>Empty.elim e))
def bA (B:Trace) (D:bg) (u:Sl (Sl Bool)) (p6:Int):bf (Fw ((Sl (Sl Bool))×Int) (Sl (Sl Bool)) Empty):=
 bt (decide (p6<(len B.procs)))
 ((idx B.procs p6).bind λt=>
 (iX (IntKind.wrap .i64 ((len t.events)+1)) (false:Bool)).bind λw=>
 (Sl.whole w).bind λz=>
 (eA u (z:Sl Bool)).bind λC=>
 some (.n (C,IntKind.wrap .i64 (p6+1))))
 (some (.x u))
def W1 (B:Sl (Sl Bool)) (p6:Int) (u:Trace) (D:bg):bf (Sl (Sl Bool)):=
 (bM (λq:(Sl (Sl Bool))×Int=>bA u D q.1 q.2) (B,p6)).bind (Fw.elim
 (λe=>((dg u D).bind Sl.whole).bind λt=>
 fh.W2 e t u)
 (λe=>Empty.elim e))
end fh
def fh (u:Trace) (B:bg):bf (Sl (Sl Bool)):=
 fh.W1 (Sl.nil:Sl (Sl Bool)) 0 u B
open fh in
instance RA (B:Trace) (T:bg):Fc Sy cL (fh B T):=Fc.N 64 [enc B,enc T] (dR 2 2 B (gZ 19 (λJ=>(bJ [Pv 2,Pv 3,Ov 5,Iv 6 J.2] [Xb 2 B,Xb 3 T,(2005,jP J.1)])) (λQ=>(0,(bJ [Pv 2,Pv 3,Ov 5] [Xb 2 B,Xb 3 T,(2005,jP Q)]))) (λJ=>bZ 9 B.procs (bG 3 15 (cu 10 λW _=>bZ 2 W.events (FL 1 27 λaf _=>Ti (α:=Bool) 0 28 27 (zj 0 28 27 Th λah _=>TM 0 2005 28 29 λai _=>bn))) bn)) (λQ=>NJ 6 32 (rE B T) () λX _=>gZ 9 (λu=>(bJ [Pv 2,Ov 5,Ov 7] [Xb 2 B,(2005,jP u.1),Lb 2007 u.2])) (λS=>(2,(bJ [Ov 5] [(2005,jP S)]))) (λu=>zm 8 2007 u.2 (bG 3 35 (lX .i64 7 2007 λaj _=>tP 0 2007 0 2 true (λt=>.agg [.int .i64 t.proc,.int .i64 t.index]) λt _=>O5 7 true false 2007 40 [.int .i64 1] λak _=>x6 5 2005 6041 (.c 8 0) λal L=>FQ 5 2005 6041 .i64 L (Fj 0 2005 6041 L (lX .i64 2 6041 λY _=>tP 0 6041 0 1 false (λC=>.bool C) λC _=>zj 1 2005 6041 L λD _=>bG 1 49 bn (x6 4 2005 6050 (.c 8 0) λZ w=>FQ 5 2005 6050 .i64 w (Fj 0 2005 6050 w (lX .i64 2 6050 λaa _=>AE 0 6050 (.bool true) λab _=>zj 1 2005 6050 w λG _=>NJ 5 60 (rE B t) () λI _=>gZ 14 (λO=>(bJ [Pv 2,Ov 5,Ov 7,Ov 9,Iv 10 O.2] [Xb 2 B,(2005,jP (jk (jk u.1 t.proc D) t.proc G)),Lb 2007 O.1,Lb 2009 I])) (λU=>(4,(bJ [Pv 2,Ov 5,Ov 7] [Xb 2 B,(2005,jP (jk (jk u.1 t.proc D) t.proc G)),Lb 2007 U]))) (λO=>zm 10 2009 I (bG 3 64 (lX .i64 9 2009 λad _=>tP 0 2009 0 2 true (λz=>.agg [.int .i64 z.proc,.int .i64 z.index]) λz _=>ri 1 2007 72 73 λae _=>bn) bn)) (λU=>bn))))))) bn)) (λS=>bn))))
namespace cR
def eG (p6:Int) (u:Trace) (D:bg) (B:Int):bf (Fw Int Unit (Int×bg)):=
 (idx u.procs p6).bind λw=>
 bt (decide (B<(len w.events)))
 ((dL u p6 B).bind λt=>
 bt (t==0)
 (some (.n (IntKind.wrap .i64 (B+1))))
 (some (.r (t,(⟨p6,IntKind.wrap .i64 (B+1)⟩:bg)))))
 (some (.x ()))
def W3 (p6 D:Int) (u:Trace) (B:bg):bf (Fw Int Unit (Int×bg)):=
 (bM (λq:Int=>eG p6 u B q) D).bind (Fw.elim
 (λe=>some (.n (IntKind.wrap .i64 (p6+1))))
 (λe=>some (.r (e.1,e.2))))
def wj (D:Int) (B:Trace) (G:bg) (u:Int):bf (Fw Int Unit (Int×bg)):=
 (idx B.procs D).bind λw=>
 bt (decide (u<(len w.events)))
 ((gM B (⟨D,IntKind.wrap .i64 (u+1)⟩:bg)).bind λt=>
 bt (t==0)
 (some (.n (IntKind.wrap .i64 (u+1))))
 (some (.r (t,(⟨D,IntKind.wrap .i64 (u+1)⟩:bg)))))
 (some (.x ()))
def W5 (G u:Int) (B:Trace) (D:bg):bf (Fw Int Unit (Int×bg)):=
 (bM (λq:Int=>wj G B D q) u).bind (Fw.elim
 (λe=>some (.n (IntKind.wrap .i64 (G+1))))
 (λe=>some (.r (e.1,e.2))))
def HT (B:Int) (D:Trace) (G:bg) (u:Int):bf (Fw Int Unit bg):=
 (idx D.procs B).bind λw=>
 bt (decide (u<(len w.events)))
 ((fh D (⟨B,IntKind.wrap .i64 (u+1)⟩:bg)).bind λz=>
 (idx z B).bind λC=>
 (idx C (IntKind.wrap .i64 (u+1))).bind λt=>
 bt t
 (some (.r (⟨B,IntKind.wrap .i64 (u+1)⟩:bg)))
 (some (.n (IntKind.wrap .i64 (u+1)))))
 (some (.x ()))
def W7 (u B:Int) (D:Trace) (G:bg):bf (Fw Int Unit bg):=
 (bM (λq:Int=>HT u D G q) B).bind (Fw.elim
 (λe=>some (.n (IntKind.wrap .i64 (u+1))))
 (λe=>some (.r e)))
def IB (u:Trace) (D:bg) (B:Int):bf (Fw Int Unit bg):=
 bt (decide (B<(len u.procs)))
 (W7 B 0 u D)
 (some (.x ()))
def W6 (u:Int) (B:Trace) (D:bg):bf (bg×Int):=
 (bM (λq:Int=>IB B D q) u).bind (Fw.elim
 (λe=>some (⟨0,0⟩,0))
 (λe=>some (e,10)))
def uy (u:Trace) (B:bg) (D:Int):bf (Fw Int Unit (Int×bg)):=
 bt (decide (D<(len u.procs)))
 (W5 D 0 u B)
 (some (.x ()))
def W4 (D:Int) (u:Trace) (B:bg):bf (bg×Int):=
 (bM (λq:Int=>uy u B q) D).bind (Fw.elim
 (λe=>(dP u).bind λt=>
 bt t
 (some (⟨0,0⟩,0))
 (cR.W6 0 u B))
 (λe=>some (e.2,e.1)))
def b7 (u:Trace) (B:bg) (p6:Int):bf (Fw Int Unit (Int×bg)):=
 bt (decide (p6<(len u.procs)))
 (W3 p6 0 u B)
 (some (.x ()))
def W2 (p6:Int) (u:Trace) (B:bg):bf (bg×Int):=
 (bM (λq:Int=>b7 u B q) p6).bind (Fw.elim
 (λe=>cR.W4 0 u B)
 (λe=>some (e.2,e.1)))
def bA (u:Trace) (B:bg) (p4:Int):bf (Fw Int Unit (Int×bg)):=
 bt (decide (p4<(len u.procs)))
 ((dK u p4).bind λt=>
 bt (t==0)
 (some (.n (IntKind.wrap .i64 (p4+1))))
 (some (.r (t,(⟨p4,0⟩:bg)))))
 (some (.x ()))
def W1 (p4:Int) (u:Trace) (B:bg):bf (bg×Int):=
 (bM (λq:Int=>bA u B q) p4).bind (Fw.elim
 (λe=>cR.W2 0 u B)
 (λe=>some (e.2,e.1)))
end cR
def cR (u:Trace):bf (bg×Int):=
 (bt (decide ((len u.procs)<1))
 (some true)
 (some (decide ((len u.procs)>8))):bf Bool).bind λt=>
 bt t
 (some (⟨0,0⟩,1))
 (cR.W1 0 u (⟨0,0⟩:bg))
open cR in
instance QN (u:Trace):Fc Sy cL (cR u):=Fc.M 38 [enc u] (dR 2 1 u (bZ 9 u.procs (cz 2 5 [20] 25 (bG 2 20 (bD 5) (bZ 2 u.procs (bD 2))) λaa=>bG 2 25 bn (dN 11 (λO=>(bJ [Pv 1,Pv 2,Iv 4 O] [Xb 1 u,Xb 2 (⟨0,0⟩:bg)])) (λt=>(0,(bJ [Pv 1,Pv 2] [Xb 1 u,Xb 2 (⟨0,0⟩:bg)]))) (λt=>(bJ [Pv 2,Iv 3 t.1] [Xb 2 t.2])) (λO=>bZ 7 u.procs (bG 3 31 (bL 9 λab _=>ey 9 38 bn bn) bn)) (λt=>dN 10 (λD=>(bJ [Pv 1,Pv 2,Iv 6 D] [Xb 1 u,Xb 2 (⟨0,0⟩:bg)])) (λw=>(2,(bJ [Pv 1,Pv 2] [Xb 1 u,Xb 2 (⟨0,0⟩:bg)]))) (λw=>(bJ [Pv 2,Iv 3 w.1] [Xb 2 w.2])) (λD=>bZ 7 u.procs (bG 3 46 (dN 12 (λQ=>(bJ [Pv 1,Pv 2,Iv 6 D,Iv 7 Q] [Xb 1 u,Xb 2 (⟨0,0⟩:bg)])) (λz=>(4,(bJ [Pv 1,Pv 2,Iv 6 D] [Xb 1 u,Xb 2 (⟨0,0⟩:bg)]))) (λz=>(bJ [Pv 2,Iv 3 z.1] [Xb 2 z.2])) (λQ=>cu 8 λU _=>bZ 2 U.events (bG 3 57 (bL 10 λad _=>ey 9 65 bn bn) bn)) (λz=>bn) (λz=>bn)) bn)) (λw=>dN 10 (λG=>(bJ [Pv 1,Pv 2,Iv 9 G] [Xb 1 u,Xb 2 (⟨0,0⟩:bg)])) (λB=>(6,(bJ [Pv 1,Pv 2] [Xb 1 u,Xb 2 (⟨0,0⟩:bg)]))) (λB=>(bJ [Pv 2,Iv 3 B.1] [Xb 2 B.2])) (λG=>bZ 7 u.procs (bG 3 75 (dN 12 (λS=>(bJ [Pv 1,Pv 2,Iv 9 G,Iv 10 S] [Xb 1 u,Xb 2 (⟨0,0⟩:bg)])) (λC=>(8,(bJ [Pv 1,Pv 2,Iv 9 G] [Xb 1 u,Xb 2 (⟨0,0⟩:bg)]))) (λC=>(bJ [Pv 2,Iv 3 C.1] [Xb 2 C.2])) (λS=>cu 8 λW _=>bZ 2 W.events (bG 3 86 (bL 19 λae _=>ey 9 97 bn bn) bn)) (λC=>bn) (λC=>bn)) bn)) (λB=>bL 6 λY _=>bG 2 101 bn (dN 11 (λI=>(bJ [Pv 1,Pv 2,Iv 13 I] [Xb 1 u,Xb 2 (⟨0,0⟩:bg)])) (λJ=>(10,(bJ [Pv 2] [Xb 2 (⟨0,0⟩:bg)]))) (λJ=>(bJ [Pv 2,Iv 3 10] [Xb 2 J])) (λI=>bZ 7 u.procs (bG 3 107 (dN 12 (λT=>(bJ [Pv 1,Pv 2,Iv 13 I,Iv 14 T] [Xb 1 u,Xb 2 (⟨0,0⟩:bg)])) (λL=>(12,(bJ [Pv 1,Pv 2,Iv 13 I] [Xb 1 u,Xb 2 (⟨0,0⟩:bg)]))) (λL=>(bJ [Pv 2,Iv 3 10] [Xb 2 L])) (λT=>cu 8 λX _=>bZ 2 X.events (bG 3 118 (bL 19 λaf _=>cu 1 λah _=>cu 3 λZ _=>bG 3 134 bn bn) bn)) (λL=>bn) (λL=>bn)) bn)) (λJ=>bn) (λJ=>bn))) (λB=>bn)) (λw=>bn)) (λt=>bn)))))
def mO (u:Trace):bf Bool:=
 (cR u).bind λt=>
 some (t.2==0)
instance Qt (u:Trace):Fc Sy cL (mO u):=Fc.M 10 [enc u] (dR 2 1 u (bL 6 λt _=>bn))
namespace dM
def bA (a0 B:Sl Int) (u:Int):bf (Fw Int Unit Unit):=
 bt (decide (u<(len a0)))
 ((idx a0 u).bind λt=>
 (idx B u).bind λw=>
 bt (t==w)
 (some (.n (IntKind.wrap .i64 (u+1))))
 (some (.r ())))
 (some (.x ()))
def W1 (a0 u:Sl Int) (B:Int):bf Bool:=
 (bM (λq:Int=>bA a0 u q) B).bind (Fw.elim
 (λe=>some true)
 (λe=>some false))
end dM
def dM (a0 u:Sl Int):bf Bool:=
 bt ((len a0)==(len u))
 (dM.W1 a0 u 0)
 (some false)
open dM in
instance Mq (a0 B:Sl Int):Fc Sy cL (dM a0 B):=Fc.M 41 [enc a0,enc B] (bZ 9 a0 (bZ 1 B (ey 3 10 (dN 11 (λu=>(bJ [Cv 0 a0,Cv 1 B,Iv 5 u] [])) (λt=>(0,(bJ [] []))) (λt=>(bJ [Bv 4 false] [])) (λu=>bZ 6 a0 (bG 3 14 (cu 9 λw _=>cu 3 λz _=>ey 4 25 bn bn) bn)) (λt=>bn) (λt=>bn)) bn)))
namespace eD
def bA (a0 B:Sl (Sl Int)) (u:Int):bf (Fw Int Unit Unit):=
 bt (decide (u<(len a0)))
 ((idx a0 u).bind λt=>
 (idx B u).bind λw=>
 (dM t w).bind λz=>
 bt z
 (some (.n (IntKind.wrap .i64 (u+1))))
 (some (.r ())))
 (some (.x ()))
def W1 (a0 u:Sl (Sl Int)) (B:Int):bf Bool:=
 (bM (λq:Int=>bA a0 u q) B).bind (Fw.elim
 (λe=>some true)
 (λe=>some false))
end eD
def eD (a0 u:Sl (Sl Int)):bf Bool:=
 bt ((len a0)==(len u))
 (eD.W1 a0 u 0)
 (some false)
open eD in
instance Mm (a0 B:Sl (Sl Int)):Fc Sy cL (eD a0 B):=Fc.M 21 [enc a0,enc B] (bZ 9 a0 (bZ 1 B (ey 3 10 (dN 11 (λu=>(bJ [Cv 0 a0,Cv 1 B,Iv 5 u] [])) (λt=>(0,(bJ [] []))) (λt=>(bJ [Bv 4 false] [])) (λu=>bZ 6 a0 (bG 3 14 (cu 9 λw _=>cu 3 λz _=>jf 1 λC _=>ey 3 26 bn bn) bn)) (λt=>bn) (λt=>bn)) bn)))
namespace dF
def bA (u B:Slice) (p5:Int):bf (Fw Int Unit Unit):=
 bt (decide (p5<(len u.j)))
 ((idx u.j p5).bind λt=>
 (idx B.j p5).bind λw=>
 (eD t w).bind λz=>
 bt z
 (some (.n (IntKind.wrap .i64 (p5+1))))
 (some (.r ())))
 (some (.x ()))
def W1 (p5:Int) (u B:Slice):bf Bool:=
 (bM (λq:Int=>bA u B q) p5).bind (Fw.elim
 (λe=>some true)
 (λe=>some false))
end dF
def dF (a0 u:Slice):bf Bool:=
 (bt (a0.empty==u.empty)
 ((dM a0.first u.first).bind λt=>
 some (!t))
 (some true):bf Bool).bind λw=>
 (bt w
 (some true)
 ((dM a0.last u.last).bind λz=>
 some (!z)):bf Bool).bind λB=>
 (bt B
 (some true)
 (some (!((len a0.j)==(len u.j)))):bf Bool).bind λC=>
 bt C
 (some false)
 (dF.W1 0 a0 u)
open dF in
instance Rz (a0 u:Slice):Fc Sy cL (dF a0 u):=Fc.M 14 [enc a0,enc u] (dR 2 2 a0 (dR 0 3 u (cz 12 7 [11] 18 (ey 12 11 (bL 4 λz _=>bD 2) (bD 7)) λB=>cz 1 7 [19] 26 (bG 1 19 (bD 7) (bL 4 λC _=>bD 2)) λD=>cz 1 8 [27] 35 (bG 1 27 (bD 8) (bZ 2 a0.j (bZ 2 u.j (bD 2)))) λG=>bG 2 35 bn (dN 11 (λw=>(bJ [Pv 2,Pv 3,Iv 5 w] [Xb 2 a0,Xb 3 u])) (λt=>(0,(bJ [] []))) (λt=>(bJ [Bv 4 false] [])) (λw=>bZ 7 a0.j (bG 3 40 (cu 10 λI _=>cu 4 λJ _=>jf 1 λL _=>ey 3 54 bn bn) bn)) (λt=>bn) (λt=>bn)))))
def ja (s0:Slice):bf Bool:=
 (dF s0 (⟨false,Sl.nil,Sl.nil,Sl.nil⟩:Slice)).bind λt=>
 some t
instance Rq (s0:Slice):Fc Sy cL (ja s0):=Fc.M 11 [enc s0] (dR 2 1 s0 (uI 6 (⟨false,Sl.nil,Sl.nil,Sl.nil⟩:Slice) [] [.bool false,.bE,.bE,.bE] [] (by simp only[ji,jR,eH,mq,kI,mS,mG];rfl) rfl (bL 0 λt _=>bn)))
namespace eU
def bA (B:Trace) (u:Sl Int) (p4:Int):bf (Fw ((Sl Int)×Int) (Sl Int) Empty):=
 bt (decide (p4<(len B.procs)))
 ((idx B.procs p4).bind λt=>
 (eA u (len t.events:Int)).bind λw=>
 some (.n (w,IntKind.wrap .i64 (p4+1))))
 (some (.x u))
def W1 (u:Sl Int) (p4:Int) (B:Trace):bf (Sl Int):=
 (bM (λq:(Sl Int)×Int=>bA B q.1 q.2) (u,p4)).bind (Fw.elim
 (λe=>some e)
 (λe=>Empty.elim e))
end eU
def eU (u:Trace):bf (Sl Int):=
 eU.W1 (Sl.nil:Sl Int) 0 u
open eU in
instance M5 (u:Trace):Fc Sy cL (eU u):=Fc.N 12 [enc u] (dR 2 1 u (gZ 17 (λt=>(bJ [Pv 1,Ov 3,Iv 4 t.2] [Xb 1 u,Lb 2003 t.1])) (λw=>(0,(bJ [Ov 3] [Lb 2003 w]))) (λt=>bZ 8 u.procs (bG 3 9 (cu 10 λz _=>bZ 2 z.events (ri 1 2003 20 21 λB _=>bn)) bn)) (λw=>bn)))
def nK (B:Trace) (D:Sl Int) (p2 i3:Int):bf Bool:=
 (idx B.procs p2).bind λw=>
 (idx w.events i3).bind λt=>
 bt (t.kind==3)
 ((dw B 2 t.message).bind λu=>
 (idx D u.proc).bind λz=>
 some (decide (u.index<=z)))
 (some true)
instance Ry (u:Trace) (B:Sl Int) (p2 i3:Int):Fc Sy cL (nK u B p2 i3):=Fc.M 39 [enc u,enc B,.int .i64 p2,.int .i64 i3] (dR 2 4 u (cu 8 λw _=>cu 3 λt _=>iT 2 9 0 t (ey 10 22 (bL 8 λz _=>cu 11 λC _=>bn) bn)))
namespace fE
def b7 (B:Sl Int) (p6:Int) (u:Trace) (D:Int) (r:(Trace×(Sl Int))->bf (Sl Int)):bf (Fw Int Unit (Sl Int)):=
 (Sl.jH B p6).bind λz=>
 (Sl.get B z).bind λC=>
 bt (decide (D<C))
 ((nK u B p6 D).bind λG=>
 bt G
 (some (.n (IntKind.wrap .i64 (D+1))))
 ((idx u.procs p6).bind λI=>
 (idx I.events D).bind λJ=>
 (dw u 2 J.message).bind λt=>
 (Sl.jH B t.proc).bind λL=>
 (Sl.put B L (t.index:Int)).bind λO=>
 (r (u,O)).bind λw=>
 some (.r w)))
 (some (.x ()))
def W2 (B:Sl Int) (p6 D:Int) (u:Trace) (r:(Trace×(Sl Int))->bf (Sl Int)):bf (Fw Int Unit (Sl Int)):=
 (bM (λq:Int=>b7 B p6 u q r) D).bind (Fw.elim
 (λe=>some (.n (IntKind.wrap .i64 (p6+1))))
 (λe=>some (.r e)))
def bA (B:Sl Int) (u:Trace) (p6:Int) (r:(Trace×(Sl Int))->bf (Sl Int)):bf (Fw Int Unit (Sl Int)):=
 bt (decide (p6<(len B)))
 (W2 B p6 0 u r)
 (some (.x ()))
def W1 (B:Sl Int) (p6:Int) (u:Trace) (r:(Trace×(Sl Int))->bf (Sl Int)):bf (Sl Int):=
 (bM (λq:Int=>bA B u q r) p6).bind (Fw.elim
 (λe=>some B)
 (λe=>some e))
end fE
def gQ (B:Trace) (u:Sl Int) (r:(Trace×(Sl Int))->bf (Sl Int)):bf (Sl Int):=
 (lY (Sl.row []:Sl Int) u).bind λt=>
 fE.W1 t 0 B r
open fE in
theorem zV (r:(Trace×(Sl Int))->bf (Sl Int)) (hr:lz Sy cL 13 (λz:Trace×(Sl Int)=>[enc z.1,enc z.2]) (λr:Sl Int=>[enc r]) r false) (B:Trace) (u:Sl Int):Le ((gQ B u r).bind λr=>some [enc r]) (lB cL 13 [enc B,enc u]):=
 (Fc.N 13 [enc B,enc u] (dR 2 2 B (Bk 7 9 11 λt _=>dN 12 (λw=>(bJ [Pv 2,Ov 5,Iv 6 w] [Xb 2 B,Lb 2005 t])) (λC=>(0,(bJ [Ov 5] [Lb 2005 t]))) (λC=>(bJ [Cv 4 C] [])) (λw=>zm 7 2005 t (bG 3 15 (dN 13 (λG=>(bJ [Pv 2,Ov 5,Iv 6 w,Iv 7 G] [Xb 2 B,Lb 2005 t])) (λD=>(2,(bJ [Pv 2,Ov 5,Iv 6 w] [Xb 2 B,Lb 2005 t]))) (λD=>(bJ [Cv 4 D] [])) (λG=>lX .i64 8 2005 λQ _=>tP 0 2005 0 1 false (λI=>.int .i64 I) λI _=>bG 3 23 (jf 12 λS _=>bG 2 30 bn (cu 9 λT _=>cu 3 λU _=>jf 2 λJ _=>lX .i64 11 2005 λW _=>AE 0 2005 (.int .i64 J.index) λL _=>bL (F:=Fc.of (B,L) hr) 7 λO _=>bn)) bn) (λD=>bn) (λD=>bn)) bn)) (λC=>bn) (λC=>bn))):Fc Sy cL (gQ B u r)).F.h ()
def fE (B:Trace) (u:Sl Int):bf (Sl Int):=vO (λr (z:Trace×(Sl Int))=>gQ z.1 z.2 r) 100000 (B,u)
instance Q8 (B:Trace) (u:Sl Int):Fc Sy cL (fE B u):=Fc.of (B,u) (lz.fix (A:=λz:Trace×(Sl Int)=>[enc z.1,enc z.2]) (E:=λr:Sl Int=>[enc r]) (sc:=false) (b:=(λr (z:Trace×(Sl Int))=>gQ z.1 z.2 r)) Ze (λh=>nomatch h) (λr hr z=>zV r hr z.1 z.2) 100000)
namespace kH
def bA (a0 D:Sl Int) (u:Sl Int) (B:Int):bf (Fw ((Sl Int)×Int) (Sl Int) Empty):=
 bt (decide (B<(len a0)))
 ((idx a0 B).bind λt=>
 (idx D B).bind λw=>
 (eA u ((if w<t then w else t):Int)).bind λz=>
 some (.n (z,IntKind.wrap .i64 (B+1))))
 (some (.x u))
def W1 (a0 B u:Sl Int) (D:Int):bf (Sl Int):=
 (bM (λq:(Sl Int)×Int=>bA a0 B q.1 q.2) (u,D)).bind (Fw.elim
 (λe=>some e)
 (λe=>Empty.elim e))
end kH
def kH (a0 u:Sl Int):bf (Sl Int):=
 kH.W1 a0 u (Sl.nil:Sl Int) 0
open kH in
instance Rn (a0 B:Sl Int):Fc Sy cL (kH a0 B):=Fc.N 42 [enc a0,enc B] (gZ 19 (λt=>(bJ [Cv 0 a0,Cv 1 B,Ov 5,Iv 6 t.2] [Lb 2005 t.1])) (λu=>(0,(bJ [Ov 5] [Lb 2005 u]))) (λt=>bZ 7 a0 (bG 3 10 (cu 9 λw _=>cu 3 λz _=>ri 3 2005 23 24 λC _=>bn) bn)) (λu=>bn))
namespace lZ
def bA (a0 D:Sl Int) (u:Sl Int) (B:Int):bf (Fw ((Sl Int)×Int) (Sl Int) Empty):=
 bt (decide (B<(len a0)))
 ((idx a0 B).bind λt=>
 (idx D B).bind λw=>
 (eA u ((if w>t then w else t):Int)).bind λz=>
 some (.n (z,IntKind.wrap .i64 (B+1))))
 (some (.x u))
def W1 (a0 B u:Sl Int) (D:Int):bf (Sl Int):=
 (bM (λq:(Sl Int)×Int=>bA a0 B q.1 q.2) (u,D)).bind (Fw.elim
 (λe=>some e)
 (λe=>Empty.elim e))
end lZ
def lZ (a0 u:Sl Int):bf (Sl Int):=
 lZ.W1 a0 u (Sl.nil:Sl Int) 0
open lZ in
instance Rl (a0 B:Sl Int):Fc Sy cL (lZ a0 B):=Fc.N 43 [enc a0,enc B] (gZ 19 (λt=>(bJ [Cv 0 a0,Cv 1 B,Ov 5,Iv 6 t.2] [Lb 2005 t.1])) (λu=>(0,(bJ [Ov 5] [Lb 2005 u]))) (λt=>bZ 7 a0 (bG 3 10 (cu 9 λw _=>cu 3 λz _=>ri 3 2005 23 24 λC _=>bn) bn)) (λu=>bn))
namespace cV
def uy (O:Sl (Sl Int)) (p7:Int) (T:Sl (Sl Int)) (U:Slice) (J:Int) (B:Sl Int) (u:Int) (D:Trace) (G:Slice):bf (Fw (Int×(Sl Int)×Int×Trace×Slice) (Int×(Sl Int)×Trace×Slice) Empty):=
 bt (decide (u<(len O)))
 ((idx O u).bind λt=>
 (idx t p7).bind λw=>
 bt (decide (w<=J))
 (some (.n (J,B,IntKind.wrap .i64 (u+1),D,(⟨G.empty,Sl.nil,Sl.nil,Sl.nil⟩:Slice))))
 (bt ((len B)==0)
 ((idx O u).bind λz=>
 (lY (Sl.row []:Sl Int) z).bind λC=>
 some (.n (J,C,IntKind.wrap .i64 (u+1),D,(⟨G.empty,Sl.nil,Sl.nil,Sl.nil⟩:Slice))))
 ((idx O u).bind λI=>
 (kH B I).bind λL=>
 some (.n (J,L,IntKind.wrap .i64 (u+1),D,(⟨G.empty,Sl.nil,Sl.nil,Sl.nil⟩:Slice))))))
 (some (.x (J,B,D,(⟨G.empty,Sl.nil,Sl.nil,Sl.nil⟩:Slice))))
def W4 (T:Sl (Sl Int)) (p7:Int) (u:Sl (Sl Int)) (U:Int) (D:Sl Int) (G:Int) (J:Trace) (O B:Slice):bf (Fw ((Sl (Sl Int))×Int×Trace×Slice×Slice) ((Sl (Sl Int))×Trace×Slice×Slice) Empty):=
 (bM (λq:Int×(Sl Int)×Int×Trace×Slice=>uy T p7 u B q.1 q.2.1 q.2.2.1 q.2.2.2.1 q.2.2.2.2) (U,D,G,J,O)).bind (Fw.elim
 (λe=>(eA u (e.2.1:Sl Int)).bind λt=>
 some (.n (t,IntKind.wrap .i64 (e.1+1),e.2.2.1,(⟨e.2.2.2.empty,Sl.nil,Sl.nil,Sl.nil⟩:Slice),B)))
 (λe=>Empty.elim e))
def eG (O:Sl (Sl Int)) (p7:Int) (u:Sl (Sl Int)) (J:Int) (B:Trace) (D G:Slice):bf (Fw ((Sl (Sl Int))×Int×Trace×Slice×Slice) ((Sl (Sl Int))×Trace×Slice×Slice) Empty):=
 (idx B.procs p7).bind λt=>
 bt (decide (J<(len t.events)))
 (W4 O p7 u J (Sl.nil:Sl Int) 0 B (⟨D.empty,Sl.nil,Sl.nil,Sl.nil⟩:Slice) G)
 (some (.x (u,B,(⟨D.empty,Sl.nil,Sl.nil,Sl.nil⟩:Slice),G)))
def W3 (J:Sl (Sl Int)) (p7:Int) (u:Sl (Sl Int)) (O:Int) (B:Trace) (D G:Slice):bf (Fw (Int×Trace×Slice×Slice) (Slice×Slice) Empty):=
 (bM (λq:(Sl (Sl Int))×Int×Trace×Slice×Slice=>eG J p7 q.1 q.2.1 q.2.2.1 q.2.2.2.1 q.2.2.2.2) (u,O,B,D,G)).bind (Fw.elim
 (λe=>(eA e.2.2.2.j (e.1:Sl (Sl Int))).bind λt=>
 some (.n (IntKind.wrap .i64 (p7+1),e.2.1,(⟨e.2.2.1.empty,Sl.nil,Sl.nil,Sl.nil⟩:Slice),(⟨e.2.2.2.empty,e.2.2.2.first,e.2.2.2.last,t⟩:Slice))))
 (λe=>Empty.elim e))
def b7 (G:Sl (Sl Int)) (p7:Int) (u:Trace) (B D:Slice):bf (Fw (Int×Trace×Slice×Slice) (Slice×Slice) Empty):=
 bt (decide (p7<(len u.procs)))
 (W3 G p7 (Sl.nil:Sl (Sl Int)) 0 u (⟨B.empty,Sl.nil,Sl.nil,Sl.nil⟩:Slice) D)
 (some (.x ((⟨B.empty,Sl.nil,Sl.nil,Sl.nil⟩:Slice),D)))
def W2 (G:Sl (Sl Int)) (p7:Int) (u:Trace) (B D:Slice):bf Slice:=
 (bM (λq:Int×Trace×Slice×Slice=>b7 G q.1 q.2.1 q.2.2.1 q.2.2.2) (p7,u,B,D)).bind (Fw.elim
 (λe=>some e.2)
 (λe=>Empty.elim e))
def bA (G:Sl (Sl Int)) (J:Trace) (D:Int) (B u:Slice):bf (Fw (Int×Slice×Slice) (Slice×Slice) Empty):=
 bt (decide (D<(len G)))
 ((idx G D).bind λt=>
 (kH u.first t).bind λw=>
 (idx G D).bind λz=>
 (lZ u.last z).bind λC=>
 some (.n (IntKind.wrap .i64 (D+1),(⟨B.empty,Sl.nil,Sl.nil,Sl.nil⟩:Slice),(⟨u.empty,w,C,Sl.nil⟩:Slice))))
 (some (.x ((⟨B.empty,Sl.nil,Sl.nil,Sl.nil⟩:Slice),(⟨u.empty,u.first,u.last,Sl.nil⟩:Slice))))
def W1 (G:Sl (Sl Int)) (J:Int) (u:Trace) (B D:Slice):bf Slice:=
 (bM (λq:Int×Slice×Slice=>bA G u q.1 q.2.1 q.2.2) (J,B,D)).bind (Fw.elim
 (λe=>cV.W2 G 0 u (⟨e.1.empty,Sl.nil,Sl.nil,Sl.nil⟩:Slice) (⟨e.2.empty,e.2.first,e.2.last,Sl.nil⟩:Slice))
 (λe=>Empty.elim e))
end cV
def cV (D:Trace) (u:Sl (Sl Int)):bf Slice:=
 bt ((len u)==0)
 (some ⟨true,Sl.nil,Sl.nil,Sl.nil⟩)
 ((idx u 0).bind λt=>
 (lY (Sl.emp:Sl Int) t).bind λw=>
 (idx u 0).bind λz=>
 (lY (Sl.row []:Sl Int) z).bind λB=>
 cV.W1 u 1 D (⟨false,Sl.nil,Sl.nil,Sl.nil⟩:Slice) (⟨false,w,B,Sl.nil⟩:Slice))
open cV in
instance Rf (J:Trace) (G:Sl (Sl Int)):Fc Sy cL (cV J G):=Fc.N 15 [enc J,enc G] (dR 2 2 J (bZ 7 G (bG 3 14 (uI 3 (⟨true,Sl.nil,Sl.nil,Sl.nil⟩:Slice) [.bool true] [.bool false,.bE,.bE,.bE] [(0,1)] (by simp only[ji,jR,eH,mq,kI,mS,mG];rfl) rfl (iT 0 4 0 (⟨true,Sl.nil,Sl.nil,Sl.nil⟩:Slice) bn)) (UP (α:=Int) 5 (cu 1 λab _=>Ul 1 20 (.inr rfl) λad _=>cu 2 λae _=>Bk 1 21 25 λaf _=>Pj 0 [.own 20,.own 25] [bv false,.own 20,.own 25,.v .bE] [.bool false,.bE,.bE,.bE] [(1,1),(2,1)] (by simp only[xh,DF,Gy,B_,DS,B1,eH,mq,kI,mS,mG];rfl) (Si 1 5 0 [bv false,.own 20,.own 25,.v .bE] (by simp only[List.all_cons,GC,A8,CQ,AA,mw,kR,mK,mc,C6];rfl) (gZ 12 (λC=>(bJ [Cv 1 G,Pv 2,Pv 4,Pv 5,Iv 6 C.1] [Xb 2 J,Xb 4 (⟨C.2.1.empty,Sl.nil,Sl.nil,Sl.nil⟩:Slice),Xb 5 (⟨C.2.2.empty,C.2.2.first,C.2.2.last,Sl.nil⟩:Slice)])) (λI=>(0,(bJ [Cv 1 G,Pv 2,Pv 4,Pv 5] [Xb 2 J,Xb 4 (⟨I.1.empty,Sl.nil,Sl.nil,Sl.nil⟩:Slice),Xb 5 (⟨I.2.empty,I.2.first,I.2.last,Sl.nil⟩:Slice)]))) (λC=>bZ 8 G (bG 3 30 (cu 11 λah _=>bL 1 λL _=>iT 1 5 1 L (cu 7 λai _=>bL 1 λO _=>iT 1 5 2 O bn)) bn)) (λI=>gZ 13 (λu=>(bJ [Cv 1 G,Pv 2,Pv 4,Pv 5,Iv 7 u.1] [Xb 2 u.2.1,Xb 4 (⟨u.2.2.1.empty,Sl.nil,Sl.nil,Sl.nil⟩:Slice),(5,.box [bv u.2.2.2.empty,cv u.2.2.2.first,cv u.2.2.2.last,.own 4103]),Lb 4103 u.2.2.2.j])) (λz=>(2,(bJ [Pv 4,Pv 5] [Xb 4 (⟨z.1.empty,Sl.nil,Sl.nil,Sl.nil⟩:Slice),(5,.box [bv z.2.empty,cv z.2.first,cv z.2.last,.own 4103]),Lb 4103 z.2.j]))) (λu=>bZ 10 u.2.1.procs (bG 3 53 (gZ 22 (λt=>(bJ [Cv 1 G,Pv 2,Pv 4,Pv 5,Iv 7 u.1,Ov 8,Iv 9 t.2.1] [Xb 2 t.2.2.1,Xb 4 (⟨t.2.2.2.1.empty,Sl.nil,Sl.nil,Sl.nil⟩:Slice),(5,.box [bv t.2.2.2.2.empty,cv t.2.2.2.2.first,cv t.2.2.2.2.last,.own 4103]),Lb 2008 t.1,Lb 4103 t.2.2.2.2.j])) (λw=>(4,(bJ [Cv 1 G,Pv 2,Pv 4,Pv 5,Iv 7 u.1,Ov 8] [Xb 2 w.2.1,Xb 4 (⟨w.2.2.1.empty,Sl.nil,Sl.nil,Sl.nil⟩:Slice),(5,.box [bv w.2.2.2.empty,cv w.2.2.2.first,cv w.2.2.2.last,.own 4103]),Lb 2008 w.1,Lb 4103 w.2.2.2.j]))) (λt=>cu 12 λQ _=>bZ 2 Q.events (bG 3 64 (gZ 23 (λB=>(bJ [Cv 1 G,Pv 2,Pv 4,Pv 5,Iv 7 u.1,Ov 8,Iv 9 B.1,Cv 10 B.2.1,Iv 11 B.2.2.1] [Xb 2 B.2.2.2.1,Xb 4 (⟨B.2.2.2.2.empty,Sl.nil,Sl.nil,Sl.nil⟩:Slice),(5,.box [bv t.2.2.2.2.empty,cv t.2.2.2.2.first,cv t.2.2.2.2.last,.own 4103]),Lb 2008 t.1,Lb 4103 t.2.2.2.2.j])) (λD=>(6,(bJ [Cv 1 G,Pv 2,Pv 4,Pv 5,Iv 7 u.1,Ov 8,Iv 9 D.1,Cv 10 D.2.1] [Xb 2 D.2.2.1,Xb 4 (⟨D.2.2.2.empty,Sl.nil,Sl.nil,Sl.nil⟩:Slice),(5,.box [bv t.2.2.2.2.empty,cv t.2.2.2.2.first,cv t.2.2.2.2.last,.own 4103]),Lb 2008 t.1,Lb 4103 t.2.2.2.2.j]))) (λB=>bZ 11 G (bG 3 70 (cu 10 λS _=>cu 2 λT _=>bG 5 81 bn (bZ 6 B.2.1 (bG 3 84 (cu 5 λU _=>Bk 1 85 90 λW _=>bn) (cu 5 λX _=>bL 1 λY _=>bn)))) bn)) (λD=>DV 5 99 ([D.2.1]:a_ (Sl Int)) (ri 0 2008 99 100 λZ _=>bn))) bn)) (λw=>DV 7 104 ([w.1]:a_ (Sl (Sl Int))) (ri 0 4103 104 105 λaa _=>bn))) bn)) (λz=>iT 6 4 0 z.2 bn)))))))))
def vJ (u:Trace) (B:Sl Int):bf Bool:=
 some ((len B)==(len u.procs))
instance Rh (u:Trace) (B:Sl Int):Fc Sy cL (vJ u B):=Fc.M 45 [enc u,enc B] (dR 2 2 u (bZ 6 B (bZ 2 u.procs bn)))
namespace kW
def bA (u:Sl Int) (B:Trace) (p5:Int):bf (Fw Int Unit Unit):=
 bt (decide (p5<(len u)))
 ((idx u p5).bind λt=>
 (bt (decide (t<0))
 (some true)
 ((idx u p5).bind λw=>
 (idx B.procs p5).bind λz=>
 some (decide (w>(len z.events)))):bf Bool).bind λC=>
 bt C
 (some (.r ()))
 (some (.n (IntKind.wrap .i64 (p5+1)))))
 (some (.x ()))
def W1 (B:Sl Int) (p5:Int) (u:Trace):bf Bool:=
 (bM (λq:Int=>bA B u q) p5).bind (Fw.elim
 (λe=>some true)
 (λe=>some false))
end kW
def kW (u:Trace) (B:Sl Int):bf Bool:=
 kW.W1 B 0 u
open kW in
instance QK (B:Trace) (D:Sl Int):Fc Sy cL (kW B D):=Fc.M 46 [enc B,enc D] (dR 2 2 B (dN 11 (λu=>(bJ [Cv 1 D,Pv 2,Iv 5 u] [Xb 2 B])) (λt=>(0,(bJ [] []))) (λt=>(bJ [Bv 4 false] [])) (λu=>bZ 6 D (bG 3 9 (cu 9 λz _=>cz 3 13 [17] 30 (bG 3 17 (bD 13) (cu 2 λC _=>cu 4 λw _=>bZ 2 w.events (bD 2))) λG=>bG 2 30 bn bn) bn)) (λt=>bn) (λt=>bn)))
namespace eC
def b7 (D:Sl Int) (p5:Int) (u:Trace) (B:Int):bf (Fw Int Unit Unit):=
 (idx D p5).bind λt=>
 bt (decide (B<t))
 ((nK u D p5 B).bind λw=>
 bt w
 (some (.n (IntKind.wrap .i64 (B+1))))
 (some (.r ())))
 (some (.x ()))
def W2 (B:Sl Int) (p5 D:Int) (u:Trace):bf (Fw Int Unit Unit):=
 (bM (λq:Int=>b7 B p5 u q) D).bind (Fw.elim
 (λe=>some (.n (IntKind.wrap .i64 (p5+1))))
 (λe=>some (.r ())))
def bA (B:Sl Int) (u:Trace) (p5:Int):bf (Fw Int Unit Unit):=
 bt (decide (p5<(len B)))
 (W2 B p5 0 u)
 (some (.x ()))
def W1 (B:Sl Int) (p5:Int) (u:Trace):bf Bool:=
 (bM (λq:Int=>bA B u q) p5).bind (Fw.elim
 (λe=>some true)
 (λe=>some false))
end eC
def eC (u:Trace) (B:Sl Int):bf Bool:=
 eC.W1 B 0 u
open eC in
instance OW (B:Trace) (D:Sl Int):Fc Sy cL (eC B D):=Fc.M 47 [enc B,enc D] (dR 2 2 B (dN 11 (λt=>(bJ [Cv 1 D,Pv 2,Iv 5 t] [Xb 2 B])) (λu=>(0,(bJ [] []))) (λu=>(bJ [Bv 4 false] [])) (λt=>bZ 6 D (bG 3 10 (dN 12 (λz=>(bJ [Cv 1 D,Pv 2,Iv 5 t,Iv 6 z] [Xb 2 B])) (λw=>(2,(bJ [Cv 1 D,Pv 2,Iv 5 t] [Xb 2 B]))) (λw=>(bJ [Bv 4 false] [])) (λz=>cu 7 λC _=>bG 4 18 (bL 11 λG _=>ey 3 26 bn bn) bn) (λw=>bn) (λw=>bn)) bn)) (λu=>bn) (λu=>bn)))
def me (u:Trace) (B:Sl Int):bf Bool:=
 (mO u).bind λt=>
 (bt t
 ((vJ u B).bind λw=>
 some w)
 (some false):bf Bool).bind λz=>
 (bt z
 ((kW u B).bind λC=>
 some C)
 (some false):bf Bool).bind λD=>
 (bt D
 ((eC u B).bind λG=>
 some G)
 (some false):bf Bool).bind λI=>
 some I
instance Kz (u:Trace) (B:Sl Int):Fc Sy cL (me u B):=Fc.M 18 [enc u,enc B] (dR 2 2 u (bL 6 λt _=>cz 1 4 [7] 11 (bG 1 7 (bL 2 λw _=>bD 1) (bD 4)) λz=>cz 1 4 [12] 16 (bG 1 12 (bL 2 λC _=>bD 1) (bD 4)) λD=>cz 1 4 [1,2,17] 21 (bG 1 17 (bL 2 λG _=>bD 1) (bD 4)) λI=>bn))
def gP (u:Sl Int) (B:Trace):bf Bool:=
 (me B u).bind λt=>
 some (!t)
instance HE (u:Sl Int) (B:Trace):Fc Sy cL (gP u B):=Fc.M 17 [enc u,.fptr (cells B)] (bL 9 λt _=>bn)
namespace dy
def b7 (l1:Sl (Sl Int)) (e6 f8 O J T U D:Int) (G:Trace) (W Y aa:Slice) (u:Sl (Sl Int)) (B:Int):bf (Fw ((Sl (Sl Int))×Int) (Sl (Sl Int)) Empty):=
 bt (decide (B<D))
 ((iX (len G.procs) (0:Int)).bind λt=>
 (Sl.jH t J).bind λw=>
 (Sl.put t w (IntKind.wrap .i64 (B+1):Int)).bind λz=>
 (fE G z).bind λC=>
 (eA u (C:Sl Int)).bind λI=>
 some (.n (I,IntKind.wrap .i64 (B+1))))
 (some (.x u))
def W2 (l1:Sl (Sl Int)) (e6 f8 J:Int) (u:Sl (Sl Int)) (O T B D G:Int) (U:Trace) (W Y aa:Slice):bf (Fw ((Sl (Sl Int))×Int) (Sl (Sl Int)) Empty):=
 (bM (λq:(Sl (Sl Int))×Int=>b7 l1 e6 f8 J O T B D U W Y aa q.1 q.2) (u,G)).bind (Fw.elim
 (λe=>some (.n (e,IntKind.wrap .i64 (B+1))))
 (λe=>Empty.elim e))
def bA (W:Sl (Sl Int)) (e6 Y J D:Int) (G:Trace) (O T U:Slice) (u:Sl (Sl Int)) (B:Int):bf (Fw ((Sl (Sl Int))×Int) (Sl (Sl Int)) Empty):=
 bt (decide (B<D))
 ((idx G.procs B).bind λt=>
 W2 W e6 Y J u B D B (len t.events) 0 G O T U)
 (some (.x u))
def W1 (l1:Sl (Sl Int)) (e6 f8 u:Int) (G:Sl (Sl Int)) (ab ad:Int) (B:Trace) (J O D:Slice):bf Bool:=
 (bM (λq:(Sl (Sl Int))×Int=>bA l1 e6 f8 u ab B J O D q.1 q.2) (G,ad)).bind (Fw.elim
 (λe=>(cV B e).bind λt=>
 (dF J t).bind λw=>
 (bt w
 (some (!(e6==0)))
 (some true):bf Bool).bind λC=>
 (bt C
 (some true)
 ((dF O (⟨true,Sl.nil,Sl.nil,Sl.nil⟩:Slice)).bind λI=>
 some (!I)):bf Bool).bind λL=>
 (bt L
 (some true)
 (some (!(f8==0))):bf Bool).bind λQ=>
 bt Q
 (some false)
 (bt (decide ((len l1)>5000))
 ((ja D).bind λS=>
 (bt S
 (some (u==5))
 (some false):bf Bool).bind λT=>
 some T)
 ((c6 l1 (λz=>gP z B)).bind λU=>
 bt U
 ((ja D).bind λW=>
 (bt W
 (some (u==18))
 (some false):bf Bool).bind λX=>
 some X)
 ((cV B l1).bind λY=>
 (dF D Y).bind λZ=>
 (bt Z
 (some (u==0))
 (some false):bf Bool).bind λaa=>
 some aa))))
 (λe=>Empty.elim e))
end dy
def dy (B:Trace) (D:Sl (Sl Int)):bf Bool:=
 (rj).bind λW=>
 (bt W
 ((iH B 40).bind λX=>
 some (!X))
 (some true):bf Bool).bind λY=>
 (bt Y
 (some true)
 ((oB D).bind λZ=>
 (bt Z
 (some false)
 ((bt (decide ((len D)<=5000))
 (some true)
 (some (decide ((len D)>5005))):bf Bool).bind λaa=>
 (bt aa
 (some true)
 (some (decide ((len B.procs)>4))):bf Bool).bind λab=>
 some ab):bf Bool).bind λad=>
 some ad):bf Bool).bind λae=>
 bt ae
 ((rj).bind λaf=>
 some af)
 ((e_ B).bind λt=>
 (q9 B).bind λu=>
 (dH B D).bind λw=>
 (mO B).bind λz=>
 bt z
 ((iX (len B.procs) (0:Int)).bind λC=>
 (eU B).bind λG=>
 dy.W1 D t.2 u.2 w.2 (Sl.row [C,G]:Sl (Sl Int)) (len B.procs) 0 B t.1 u.1 w.1)
 ((ja t.1).bind λI=>
 (bt I
 (some (t.2==1))
 (some false):bf Bool).bind λJ=>
 (bt J
 ((ja u.1).bind λL=>
 some L)
 (some false):bf Bool).bind λO=>
 (bt O
 (some (u.2==1))
 (some false):bf Bool).bind λQ=>
 (bt Q
 ((ja w.1).bind λS=>
 some S)
 (some false):bf Bool).bind λT=>
 (bt T
 (some (w.2==1))
 (some false):bf Bool).bind λU=>
 some U))
open dy in
instance xL (B:Trace) (D:Sl (Sl Int)):Fc Sy cL (dy B D):=Fc.M 3 [enc B,enc D] (dR 2 2 B (bL 6 λaA _=>cz 2 4 [17] 21 (ey 2 17 (bL 1 λaB _=>bD 2) (bD 4)) λaC=>cz 1 20 [22] 42 (bG 1 22 (bD 20) (bL 1 λaD _=>cz 2 15 [26] 41 (ey 2 26 (bD 15) (bZ 1 D (cz 2 4 [30] 34 (bG 2 30 (bD 4) (bZ 1 D (bD 2))) λaE=>cz 1 5 [35] 40 (bG 1 35 (bD 5) (bZ 2 B.procs (bD 2))) λaF=>bD 1))) λaG=>bD 1)) λaH=>bG 2 42 (bL 3 λaI _=>bn) (bL 6 λw _=>iT 4 5 0 w.1 (bL 6 λu _=>iT 4 7 0 u.1 (bL 7 λt _=>iT 4 9 0 t.1 (bL 7 λY _=>ey 3 62 (bZ 7 B.procs (UX 0 λS _=>bL 1 λT _=>DV 0 91 ([S,T]:a_ (Sl Int)) (bZ 8 B.procs (gZ 6 (λC=>(bJ [Cv 1 D,Pv 2,Pv 5,Iv 6 w.2,Pv 7,Iv 8 u.2,Pv 9,Iv 10 t.2,Ov 11,Iv 94 (len B.procs),Iv 95 C.2] [Xb 2 B,Xb 5 w.1,Xb 7 u.1,Xb 9 t.1,Lb 2011 C.1])) (λU=>(0,(bJ [Cv 1 D,Pv 2,Pv 5,Iv 6 w.2,Pv 7,Iv 8 u.2,Pv 9,Iv 10 t.2,Ov 11] [Xb 2 B,Xb 5 w.1,Xb 7 u.1,Xb 9 t.1,Lb 2011 U]))) (λC=>bG 8 96 (cu 16 λI _=>bZ 2 I.events (gZ 6 (λG=>(bJ [Cv 1 D,Pv 2,Pv 5,Iv 6 w.2,Pv 7,Iv 8 u.2,Pv 9,Iv 10 t.2,Ov 11,Iv 12 C.2,Iv 94 (len B.procs),Iv 95 C.2,Iv 104 (len I.events),Iv 105 G.2] [Xb 2 B,Xb 5 w.1,Xb 7 u.1,Xb 9 t.1,Lb 2011 G.1])) (λW=>(2,(bJ [Cv 1 D,Pv 2,Pv 5,Iv 6 w.2,Pv 7,Iv 8 u.2,Pv 9,Iv 10 t.2,Ov 11,Iv 94 (len B.procs),Iv 95 C.2] [Xb 2 B,Xb 5 w.1,Xb 7 u.1,Xb 9 t.1,Lb 2011 W]))) (λG=>bG 8 106 (bZ 15 B.procs (FL 0 111 λZ _=>lX .i64 9 111 λaa _=>AE 0 111 (.int .i64 (IntKind.wrap .i64 (G.2+1))) λab _=>bL 7 λX _=>DV 0 121 ([X]:a_ (Sl Int)) (ri 0 2011 121 122 λad _=>bn))) bn) (λW=>bn))) bn) (λU=>bL 9 λae _=>jf 0 λaf _=>BA 2 3 [129,128] (λJ=>(bJ [Cv 1 D,Pv 2,Pv 7,Iv 8 u.2,Pv 9,Iv 10 t.2,Bv 134 J] [Xb 2 B,Xb 5 w.1,Xb 7 u.1,Xb 9 t.1])) (ey 2 131 (bD 3) (bD 3)) λJ=>BA 1 5 [138,129,128] (λL=>(bJ [Cv 1 D,Pv 2,Iv 8 u.2,Pv 9,Iv 10 t.2,Bv 140 L] [Xb 2 B,Xb 5 w.1,Xb 7 u.1,Xb 9 t.1])) (bG 1 135 (bD 5) (uI 1 (⟨true,Sl.nil,Sl.nil,Sl.nil⟩:Slice) [.bool true] [.bool false,.bE,.bE,.bE] [(0,1)] (by simp only[ji,jR,eH,mq,kI,mS,mG];rfl) rfl (jf 0 λah _=>bD 2))) λL=>BA 1 3 [138,129,128] (λO=>(bJ [Cv 1 D,Pv 2,Pv 9,Iv 10 t.2,Bv 144 O] [Xb 2 B,Xb 5 w.1,Xb 7 u.1,Xb 9 t.1])) (bG 1 141 (bD 3) (bD 3)) λO=>bG 2 144 bn (bZ 8 D (bG 4 145 (bL 4 λai _=>cz 1 3 [10,151] 154 (bG 1 151 (bD 3) (bD 3)) λaj=>bn) (jf (F:=iI 17 [.fptr (cells B)] (λz=>gP z B) nF.vl D) 5 λak _=>bG 3 155 (bL 4 λal _=>cz 1 3 [10,161] 164 (bG 1 161 (bD 3) (bD 3)) λam=>bn) (bL 9 λan _=>jf 0 λao _=>BA 1 3 [169,168] (λQ=>(bJ [Bv 144 false,Bv 145 false,Bv 155 false,Bv 173 Q] [Xb 2 B,Xb 5 w.1,Xb 7 u.1,Xb 9 t.1])) (bG 1 170 (bD 3) (bD 3)) λQ=>bn))))))))) (bL 4 λap _=>cz 1 3 [6,65] 68 (bG 1 65 (bD 3) (bD 3)) λaq=>cz 1 3 [7,69] 72 (bG 1 69 (bL 1 λar _=>bD 1) (bD 3)) λau=>cz 1 3 [8,73] 76 (bG 1 73 (bD 3) (bD 3)) λav=>cz 1 3 [9,77] 80 (bG 1 77 (bL 1 λaw _=>bD 1) (bD 3)) λax=>cz 1 3 [10,81] 84 (bG 1 81 (bD 3) (bD 3)) λay=>bn)))))))
end
end Go.VE
