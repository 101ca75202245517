/-
 Each function of the program that the law reaches: its plain form, and that it comes to that.
-/
import Derived.Test.YtegogepdjcdfcacGreatDoorK1
import Derived.Test.YtegogepdjcdfcacGreatDoorT1
set_option linter.all false
namespace Go.VE
theorem Ze{p:Prop}(h:p:=by kernel_rfl):p:=h
structure Assign where
 var:Int
 value:Int
 deriving Inhabited
instance:bz Assign where
 cells x:=[.int .i64 x.var,.int .i64 x.value]
 agg:=true
 size:=2
 len _:=rfl
 good x:=by simp only[V.cQ,V.good,lF,Bool.and_self]
 one x:=by simp only[List.all_cons,List.all_nil,ox,mS,oF,nX,Bool.and_self]
 plain h:=by cases h
structure Event where
 kind:Int
 peer:Int
 message:Int
 time:Int
 assign:Sl Assign
 deriving Inhabited
instance:bz Event where
 cells x:=[.int .i64 x.kind,.int .i64 x.peer,.int .i64 x.message,.int .i64 x.time,enc x.assign]
 agg:=true
 size:=5
 len _:=rfl
 good x:=by simp only[V.cQ,V.good,lF,Bool.and_self]
 one x:=by simp only[List.all_cons,List.all_nil,ox,mS,oF,nX,Bool.and_self]
 plain h:=by cases h
structure Var where
 name:ByteArray
 init_:Int
 deriving Inhabited
instance:bz Var where
 cells x:=[.str x.name,.int .i64 x.init_]
 agg:=true
 size:=2
 len _:=rfl
 good x:=by simp only[V.cQ,V.good,lF,Bool.and_self]
 one x:=by simp only[List.all_cons,List.all_nil,ox,mS,oF,nX,Bool.and_self]
 plain h:=by cases h
structure cu where
 name:ByteArray
 vars:Sl Var
 events:Sl Event
 deriving Inhabited
instance:bz cu where
 cells x:=[.str x.name,enc x.vars,enc x.events]
 agg:=true
 size:=3
 len _:=rfl
 good x:=by simp only[V.cQ,V.good,lF,Bool.and_self]
 one x:=by simp only[List.all_cons,List.all_nil,ox,mS,oF,nX,Bool.and_self]
 plain h:=by cases h
structure Trace where
 procs:Sl cu
 deriving Inhabited
instance:bz Trace where
 cells x:=[enc x.procs]
 agg:=true
 size:=1
 len _:=rfl
 good x:=by simp only[V.cQ,V.good,lF,Bool.and_self]
 one x:=by simp only[List.all_cons,List.all_nil,ox,mS,oF,nX,Bool.and_self]
 plain h:=by cases h
structure Pred where
 kind:Int
 n:Int
 proc:Int
 peer:Int
 name:ByteArray
 l:Sl Pred
mutual
def Pred.U5:Pred->a_ V
 | ⟨f0,f1,u,B,D,f5⟩=>[.int .i64 f0,.int .i64 f1,.int .i64 u,.int .i64 B,.str D,Pred.Il f5]
def Pred.Il:Sl Pred->V
 | .nil=>.bN
 | .emp=>.c_
 | .row l=>.fsl 6 (Pred.Nj l)
 | .part l=>.fsl 6 (Pred.Nj l)
def Pred.Nj:a_ Pred->a_ (a_ V)
 | []=>[]
 | x::r=>Pred.U5 x::Pred.Nj r
end
instance:Inhabited Pred:=⟨⟨default,default,default,default,default,Sl.nil⟩⟩
mutual
theorem Pred.Sr:∀x:Pred,V.cQ x.U5=true
 | ⟨f0,f1,u,B,D,f5⟩=>by simp only[Pred.U5,V.cQ,V.good,Pred.GO,Bool.and_self]
theorem Pred.GO:∀x:Sl Pred,V.good (Pred.Il x)=true
 | .nil=>rfl
 | .emp=>rfl
 | .row l=>by simp only[Pred.Il,V.good,Pred.BA]
 | .part l=>by simp only[Pred.Il,V.good,Pred.BA]
theorem Pred.BA:∀x:a_ Pred,V.mz (Pred.Nj x)=true
 | []=>rfl
 | x::r=>by simp only[Pred.Nj,V.mz,Pred.Sr,Pred.BA,Bool.and_self]
end
theorem Pred.Sz (s:Sl Pred):V.one (Pred.Il s)=true:=by cases s <;> simp[Pred.Il,V.one]
instance:bz Pred where
 cells x:=[.int .i64 x.kind,.int .i64 x.n,.int .i64 x.proc,.int .i64 x.peer,.str x.name,Pred.Il x.l]
 agg:=true
 size:=6
 len _:=rfl
 good x:=by simp only[V.cQ,V.good,Pred.GO,Bool.and_self]
 one x:=by simp only[List.all_cons,List.all_nil,ox,mS,oF,Pred.Sz,Bool.and_self]
 plain h:=by cases h
structure Slice where
 empty:Bool
 first:Sl Int
 last:Sl Int
 j:Sl (Sl (Sl Int))
 deriving Inhabited
instance:bz Slice where
 cells x:=[.bool x.empty,enc x.first,enc x.last,enc x.j]
 agg:=true
 size:=4
 len _:=rfl
 good x:=by simp only[V.cQ,V.good,lF,Bool.and_self]
 one x:=by simp only[List.all_cons,List.all_nil,ox,mS,oF,nX,Bool.and_self]
 plain h:=by cases h
structure bt where
 from_:bg
 to_:bg
 deriving Inhabited
instance:bz bt where
 cells x:=[.int .i64 x.from_.proc,.int .i64 x.from_.index,.int .i64 x.to_.proc,.int .i64 x.to_.index]
 agg:=true
 size:=4
 len _:=rfl
 good x:=by simp only[V.cQ,V.good,lF,Bool.and_self]
 one x:=by simp only[List.all_cons,List.all_nil,ox,mS,oF,nX,Bool.and_self]
 plain h:=by cases h
def ig (p:Int):Int->a_ Event->a_ (bg×Event)
 | _,[]=>[]
 | j,e::r=>(⟨p,j+1⟩,e)::ig p (j+1) r
def fe:Int->a_ cu->a_ (bg×Event)
 | _,[]=>[]
 | i,p::r=>ig i 0 p.events.l++fe (i+1) r
def Ga (n:Nat):Bool:=decide (n<9223372036854775807)
def iL (t:Trace):bf (a_ (bg×Event)):=
 if Ga t.procs.l.length&&t.procs.l.all λp=>Ga p.events.l.length then some (fe 0 t.procs.l)else none
end Go.VE
namespace Go.VE
def Rl:Nat->Nat->Nat->a_ Nat
 | 0,_,_=>[]
 | f+1,i,m=>bif m % 2==1 then i::Rl f (i+1) (m / 2)else Rl f (i+1) (m / 2)
def gK (g m:Nat) (l:a_ Nat:=[]):Gh:=.keep (Rl 128 0 g) (Rl 128 0 m++l)
def g2 (n g m:Nat) (l:a_ Nat:=[]):Nat×a_ Gh×a_ Gh:=(n,[gK g m l],[gK g m l])
def g1 (n g m:Nat) (l:a_ Nat:=[]):Nat×a_ Gh×a_ Gh:=(n,[gK g m l],[])
def G2 (n:Nat) (x:a_ Gh):Nat×a_ Gh×a_ Gh:=(n,x,x)
def G1 (n:Nat) (x:a_ Gh):Nat×a_ Gh×a_ Gh:=(n,x,[])
def cS (i n:Nat):Gh:=.canon (.s i) (2000+i) n
def cC (i j n:Nat):Gh:=.canon (.c i j) (4000+20*i+j) n
def e0 (n m:Nat):Nat×GD:=(n,⟨m,[],[]⟩)
def e1 (n m:Nat) (l:a_ (Nat×a_ Gh×a_ Gh)):Nat×GD:=(n,⟨m,[],l⟩)
def Kn:a_ (Nat×GD):=[
 e1 51 0x22226260002000201 [g2 6 387 0,g1 12 0 0,g1 22 16 0,g1 27 16 0],
 e0 19 0x226221,
 e0 20 0x2222212,
 e1 52 0x22226260002000201 [g2 6 387 0,g1 12 0 0,g1 22 16 0,g1 27 16 0],
 e0 21 0x226221,
 e0 22 0x2222212,
 e1 5 0x222222206444264402644402644402600262202202000020012 [g2 8 3622 4,g1 14 4 4,g1 26 16 0,g1 31 16 0],
 e1 53 0x22226260002000201 [g2 6 387 0,g1 12 0 0,g1 22 16 0,g1 27 16 0],
 e0 23 0x226221,
 e0 24 0x22221,
 e0 6 0x2644422201,
 e1 54 0x22226260002000201 [g2 6 387 0,g1 12 0 0,g1 22 16 0,g1 27 16 0],
 e0 25 0x226221,
 e0 26 0x22221,
 e0 7 0x2644442644402644402222012,
 e0 147 0x26c4444026402201,
 e0 148 0x26442201,
 e1 105 0x222064c002644c00222600620000644402644022201 [g1 8 4 0,g2 14 9 0,g1 20 0 0,g1 28 4 0,g1 33 4 0],
 e0 106 0x26442201,
 e1 76 0x2222222022226020222062260202260206000022226020622000022202220620226020600002220202602012 [g1 10 16 0,g2 16 102 36,g1 22 32 32,g1 30 16 0,g1 39 16 0,g2 45 160 32,g1 51 32 32,g1 60 16 0,g2 66 416 32,g1 72 160 32,g1 80 16 0,g1 88 16 0,g1 97 16 0,g1 101 16 0],
 e1 77 0x2222220620226020600006444026c444c04040222020260206220000222006cc44c4444c04040440264402220064402644026c04026c44040264402644022200644022202202026022602012 [g1 13 64 0,g1 20 64 0,g1 22 142 136,g1 28 64 0,g1 36 64 0,g2 42 394 136,g1 48 0 0,g1 59 64 0,g2 64 1930 648,g1 70 394 136,g1 78 64 0,g1 84 64 0],
 e0 107 0x2262222262022022,
 e1 108 0x20222222262226c0442602020260226020622260200062200002 [g2 6 206 72,g1 12 64 64,g2 18 462 72,g1 24 206 72,g1 34 64 64,g1 40 64 64],
 e1 78 0x2222226cc40444cc4040444022202602262020622262020000220060e20200022020600122 [g2 30 236 44,g1 36 64 0],
 e1 79 0x22206222602026006220002222203622000622262002062202202026260022602062226020260062200002222012 [G2 6 [cS 3 1,gK 10 2 [2003]],G2 14 [cS 3 1,gK 58 2 [2003]],G1 20 [cS 3 1,gK 26 2 [2003]],G2 24 [cS 3 1,gK 58 2 [2003]],G1 30 [cS 3 1,gK 58 2 [2003]],G1 43 [cS 3 1,gK 58 2 [2003]],G1 46 [cS 3 1,gK 42 2 [2003]],G1 53 [cS 3 1,gK 10 2 [2003]],G2 59 [cS 3 1,gK 266 2 [2003]],g1 65 0 0,g1 73 4 0,g1 78 4 0],
 e1 109 0x22262622222202062026262202022200122 [G1 10 [cS 5 2,gK 44 12 [2005]],G1 20 [.canon (.s 4) 4004 2]],
 (80,⟨0x222222622600262000262016202620026202620022220220220262022226222222602026220000122,[(21,[.put 28])],[G2 8 [cS 5 1,.melt 2005,gK 108 12 [2005]],G1 14 [cS 5 1,.melt 2005,gK 44 12 [2005]],G2 23 [cS 5 1,.melt 2005,cS 7 2,gK 164 4 [2005,2007]],G1 29 [cS 5 1,.melt 2005,gK 32 0 [2005]],(37,[.take 2005 (.c 8 0) 1 6041],[.put 2005]),(42,[.take 2005 (.c 8 0) 1 6050],[.put 2005]),G2 48 [cS 5 1,.melt 2005,cS 7 2,cS 9 2,gK 1700 4 [2005,2007,2009]],G1 54 [cS 5 1,.melt 2005,cS 7 2,gK 164 4 [2005,2007]]]⟩),
 e1 55 0x202222220222620260600206200622260200062200002020222222222220260020620062226020006220002222222226222202e0006222602000622000222222222026006220000206444022220102 [g1 8 12 4,g2 14 22 6,g1 20 6 6,g1 30 12 4,g2 37 70 6,g1 43 6 6,g2 49 198 6,g1 55 70 6,g1 65 12 4,g2 73 518 6,g1 79 6 6,g2 85 1542 6,g1 91 518 6,g1 103 12 4,g1 113 12 4,g2 119 8198 6,g1 125 4 4,g2 131 24582 6,g1 137 8198 6,g1 147 12 4,g1 153 12 4],
 e0 27 0x2222302022212,
 e0 82 0x2236226200026201,
 e1 110 0x22206c444c0404c0022260062000062202012 [g1 8 16 0,g2 14 38 4,g1 20 0 0,g1 28 16 0,g1 33 16 0],
 e1 111 0x2222220626220202062202202026022602062600006200012 [g2 6 38 4,g1 12 0 0,g2 18 102 4,g1 24 38 4,g1 39 16 0,g1 46 16 0],
 e0 81 0x26c44260012,
 e1 56 0x2222226260026cc000262226020260062000012 [G2 8 [cS 5 1,gK 102 4 [2005]],G1 14 [cS 5 1,gK 32 0 [2005]]],
 e1 112 0x2222226260026200001 [g2 8 25 0,g1 14 8 0],
 e1 83 0x222262622260262600260062000262222620201 [g1 8 16 0,g2 14 35 0,g1 20 0 0,g1 28 16 0,g1 33 16 0],
 e1 84 0x2220626002600620000620201 [g1 8 16 0,g2 14 35 0,g1 20 0 0,g1 28 16 0,g1 33 16 0],
 e1 57 0x26622226222266000226c04c00262002226c04c002620001 [g2 6 35 0,g1 12 35 0],
 (28,⟨0x222222222226260026200026260006200000022026022200222220112,[(7,[.closeS (.s 13)])],[G2 8 [.closeS (.s 4),cS 5 1,gK 50 2 [2005]],G1 14 [cS 5 1,gK 32 0 [2005]],G1 24 [cS 2 1,gK 12 0 [2002]],G2 32 [.closeS (.s 4),cS 5 1,gK 242 2 [2005]],G1 38 [cS 5 1,gK 98 2 [2005]],G2 46 [.closeS (.s 4),cS 5 1,gK 1010 2 [2005]],G1 52 [.closeS (.s 4),cS 5 1,gK 242 2 [2005]],G1 61 [cS 2 1,gK 12 0 [2002]]]⟩),
 e0 8 0x26444222220222022012,
 e0 85 0x26c4426201,
 e0 149 0x26c4444026402201,
 e0 150 0x26442201,
 e1 113 0x22064c402644c00222600200020064440264402201 [g1 8 4 0,g2 14 786433 0,g1 20 0 0,g1 30 4 0,g1 35 4 0],
 e0 115 0x26222212,
 e1 151 0x22226260002000201 [g2 6 387 0,g1 12 0 0,g1 22 16 0,g1 27 16 0],
 e0 114 0x226221,
 e0 116 0x26222212,
 e1 86 0x222222022222026c0c4402222022020000020022220026c0c44422220202602012 [g1 11 16 0,g1 17 16 0,g2 23 30064771104 32,g1 29 32 32,g1 40 16 0,g1 46 16 0,g1 55 16 0,g1 59 16 0],
 e0 87 0x2212,
 e1 118 0x2644426c4402622222022202644422202020122 [g1 18 524330 40],
 e0 120 0x26222212,
 e1 152 0x22226260002000201 [g2 6 387 0,g1 12 0 0,g1 22 16 0,g1 27 16 0],
 e0 119 0x226221,
 e1 88 0x2202626220026444022622202022020000020022220026c44022220022e02222226220202200202620201222 [g1 12 440 184,g1 19 64 0,g1 25 64 0,g1 31 64 0,g2 37 31525197391593632 160,g1 43 0 0,g1 54 64 0,g1 60 64 0,g1 65 64 0],
 e0 153 0x26c44426c440222012,
 e0 121 0x2662262221222,
 e1 89 0x2202326222002202001ef200220022022226200223262220022022226200202022020202020200002 [(8,[gK 4158 1086],[gK 0 1086]),g1 27 0 1086,g1 39 0 1086,g1 47 0 1086,g1 53 28 1052],
 e1 122 0x222622262222264444c4400222020262222262622020262020222620220122 [G1 12 [cS 7 2,gK 418 32 [2007]]],
 e1 90 0x20222622230026000226002020000e200262220202622002202202020200022 [(6,[gK 8252 60],[gK 0 60]),G2 14 [cS 8 2,gK 8700 65660 [2008]],g1 20 8252 60,G2 29 [cS 8 2,gK 481036345852 65660 [2008]],G1 35 [cS 8 2,gK 8700 65660 [2008]],g1 46 0 60,g1 58 48 48],
 e1 58 0x20022222020262222222022202002202222202e2002020202222222202600200022002022220002 [g1 8 12 12,g2 14 12582926 14,g1 20 14 14,g1 32 12 12,(39,[gK 68719476750 14],[gK 0 14]),g1 51 0 14,g1 61 12 12,g1 71 12 12,g1 75 12 12],
 e0 29 0x2222302022212,
 e0 123 0x26222221,
 e0 91 0x264c4422012,
 e1 92 0x2206c444c440422022200000212 [g2 6 900 4,g1 12 0 0,g1 22 16 0,g1 27 16 0],
 e0 93 0x26c444422012,
 e1 154 0x200226c0442602020202202022000222 [g1 8 192 192,(14,[gK 33008 240],[gK 0 240]),g1 24 0 240,g1 28 192 192],
 e0 124 0x2220622102,
 e1 95 0x2200222202262222626200203202026220220220200000622260202220000001002 [g2 6 57398 52,g1 12 48 48,g2 20 939581622 52,g1 26 57398 52,g1 44 112 48,g1 50 112 48],
 e0 94 0x22223300200262212,
 e1 59 0x2202620220000222026202200002220262022000000260012 [g1 8 64 0,g2 14 917518 8,g1 20 14 8,g1 30 64 0,g2 37 1879048202 8,g1 43 10 8,g1 53 64 0,g2 60 3848290697224 8,g1 66 0 0,g1 76 64 0,g1 81 64 0],
 e0 31 0x22622212,
 e0 30 0x226221,
 e1 32 0x26200201 [G1 8 [.canon (.s 2) 4004 1],G1 12 [.canon (.s 2) 4004 1]],
 e1 60 0x222236e2620260000020002022201 [G2 8 [cS 7 1,gK 24711 0 [2007]],G1 14 [cS 7 1,gK 128 0 [2007]]],
 e0 61 0x26221,
 e0 33 0x26221,
 e0 62 0x26221,
 e0 34 0x26221,
 e1 37 0x226222262022122 [(3,[.take 194003 (.c 3 0) 1 6005],[.put 194003])],
 e1 36 0x366222222620222020260012 [G1 10 [cC 9500 3 1,.melt 194003,gK 46 8 [9500,194003]],(11,[.take 194003 (.c 3 0) 1 6012],[.put 194003])],
 e1 35 0x222202662200200022220000021 [G2 6 [.drop [0,2,3,4,5,6,7,11,12,13,14,15,16,17,18,19,20,21,22,23,24,25,26,27]],G1 12 [.drop [0,1,2,3,4,5,6,7,8,9,10,11,12,13,14,15,16,17,18,19,20,21,22,23,24,25,26,27]],G2 20 [.drop [0,2,3,4,6,7,11,12,13,14,17,18,19,20,21,22,23,24,25,26,27]],G1 26 [.drop [0,2,3,4,5,6,7,11,12,13,14,15,16,17,18,19,20,21,22,23,24,25,26,27]],G1 36 [.drop [0,1,2,3,5,6,7,8,9,10,11,12,13,14,15,16,17,18,19,20,21,22,23,24,25,26,27]],G1 42 [.drop [0,1,2,3,5,6,7,8,9,10,11,12,13,14,15,16,17,18,19,20,21,22,23,24,25,26,27]]],
 (9,⟨0x222274030306020602020200002223062222220202000022206222022200202220020260002022200202220102,[(42,[.canon (.s 6) 9500 0]),(84,[.closeB 10]),(88,[.closeS (.c 9500 3)])],[G2 35 [cC 9500 3 1,.melt 194003,gK 15393162788946 16 [9500,194003]],G1 41 [cC 9500 3 1,.melt 194003,gK 82 16 [9500,194003]],G2 52 [cC 9500 3 1,.melt 194003,gK 1008806316530991184 16 [9500,194003]],G1 58 [cC 9500 3 1,.melt 194003,gK 80 16 [9500,194003]]]⟩),
 e1 49 0x2220626002600620000620201 [g1 8 16 0,g2 14 35 0,g1 20 0 0,g1 28 16 0,g1 33 16 0],
 e1 18 0x22202626002600620000620201 [g1 8 16 0,g2 14 35 0,g1 20 0 0,g1 28 16 0,g1 33 16 0],
 e1 16 0x222026260202602062200006c440440264c4040264c4040262020122 [g1 8 16 0,g2 14 44 12,g1 20 0 0,g1 28 16 0,g1 33 16 0],
 e0 10 0x260212,
 e1 44 0x2206262026002000200620201 [g1 8 16 0,g2 14 12291 0,g1 20 0 0,g1 30 16 0,g1 35 16 0],
 e1 38 0x2206222622022222000002206c440440264c4040264c400226200122 [g1 8 16 0,g2 14 962072674308 4,g1 20 0 0,g1 30 16 0,g1 35 16 0],
 e1 39 0x22222622222202000022012 [G2 8 [cS 3 1,gK 904 0 [2003]],G1 14 [cS 3 1,gK 8 0 [2003]]],
 e0 63 0x26262222012,
 e1 64 0x2206262026002000200620201 [g1 8 16 0,g2 14 12291 0,g1 20 0 0,g1 30 16 0,g1 35 16 0],
 e0 41 0x26c44426c04026c0426022622226200222222620026001222,
 e0 40 0x2e22212,
 e0 43 0x26262212,
 (42,⟨0x26602062012,[(9,[.closeB 4])],[]⟩),
 (11,⟨0x26220064c4402260026444426444022220200220122,[(34,[.closeB 2,.closeB 3])],[]⟩),
 e0 65 0x26262212,
 (45,⟨0x26cc026c40026c0402220122,[(21,[.closeB 2,.closeB 3])],[]⟩),
 e0 12 0x26c4426c042600122,
 e0 46 0x26622212,
 (13,⟨0x26cc402620000200064c042260011222,[(29,[.closeB 5,.closeB 4])],[]⟩),
 e1 66 0x1ff220002222222002002600222002260000226200112 [G1 9 [cS 6 1,gK 192 0 [2006]],G1 15 [cS 6 1,gK 192 0 [2006]],G2 20 [cS 8 1,gK 268 8 [2008]],G1 30 [cS 6 1,gK 192 0 [2006]]],
 e0 47 0x2220622112,
 (14,⟨0x22223062220222622232202620362200222202000222022020000020206202220020220102,[(50,[.closeS (.s 48)]),(66,[.closeS (.s 59)]),(72,[.closeS (.c 4 1),.closeS (.c 4 3)])],[G2 16 [cC 4 1 1,cC 4 3 1,gK 117440534 22 [4081,4083]],G1 22 [cC 4 1 1,cC 4 3 1,gK 20 20 [4081,4083]],G2 33 [cS 7 1,cC 4 1 1,cC 4 3 1,gK 25887244470 22 [2007,4081,4083]],G1 39 [cS 7 1,cC 4 1 1,cC 4 3 1,gK 117440662 22 [2007,4081,4083]]]⟩),
 e1 73 0x22222622220000201 [g2 8 456 0,g1 14 8 0],
 e0 98 0x26201,
 e0 72 0x62206000200222202201,
 e1 74 0x62222222220262222620062002220000001 [g2 6 3587 0,g1 12 3 0,g1 23 16 0,g1 34 16 0,g1 43 16 0,g1 47 16 0],
 e1 71 0x222222600220000201 [g2 8 456 0,g1 14 8 0,g1 24 4 0,g1 29 4 0],
 e0 70 0x226622620201,
 (48,⟨0x2230222222622232002620026662262000062602026002000202260000220620002222200222200020112,[(10,[.closeS (.s 14)])],[G1 8 [cS 2 1,gK 12 0 [2002]],G2 18 [cS 4 1,gK 114 65538 [2004]],G1 24 [cS 4 1,gK 16 0 [2004]],G1 33 [cS 2 1,gK 12 0 [2002]],G2 40 [cS 4 1,gK 103079215346 65538 [2004]],G1 46 [cS 4 1,gK 114 65538 [2004]],G1 72 [cS 2 1,gK 12 0 [2002]]]⟩),
 e0 15 0x22002222202220026021122,
 e1 3 0x26c44222220202622064402644264426442222220260022202e20022020220064422222202e20022226001cf4002202e0002200002260006c440402260022222220202600206440264402644026440220122 [g1 8 64 0,g1 18 64 0,g1 26 64 0,g2 34 4132070672510939562664 168,g1 40 680 168,g1 51 64 0,g1 66 64 0,g1 69 136 136,g1 81 64 0,g1 87 64 0]]
namespace trace_events_c1
def Bt:a_ RO:=[o1 20 (.s 18) [],o2 21 (ix 5) [.s 16,.s 18] [],o2 22 (lD 5) [.s 21] [21],o2 6 (.a (.alloc 5 [.int .i64 0,.int .i64 0,.int .i64 0,.int .i64 0,.bN])) [] [],o1 5 (.s 20) [20],oz (.l (.store 5)) [.s 6,.s 22] [22]]
def yZ:a_ RO:=[o1 23 (.s 0) [],o1 24 (.s 3) [],o1 25 (.s 5) [5],o2 26 (bI .add) [.s 25,.k (.int .i64 1)] [25],o2 27 (.p (.build [.int .i64 0,.int .i64 0] [(0,1),(1,1)])) [.s 24,.s 26] [24,26],o2 28 (lD 5) [.s 6] [6],
 o2 29 .c [.s 23,.s 27,.s 28] [23,27,28],o2 30 (.p .not) [.s 29] [29]]
def wK:a_ RO:=[o2 31 (bI .add) [.s 18,.k (.int .i64 1)] [],o1 18 (.s 31) [31]]
def Er:RC:=.hg (.seq (.ops [o2 19 (bI .lss) [.s 18,.s 17] []]) (.seq (.cond (.s 19) .skip (.exit 2)) (.seq (.block 3 (.seq (.ops Bt) (.seq (.ops yZ) (.cond (.s 30) .ret .skip)))) (.ops wK)))) (.keep [0,3,8,9,10,16,17,18] [])
def JO:a_ RO:=[o1 12 (.s 10) [],o2 13 (ix 3) [.s 8,.s 10] [],o2 14 (lD 3) [.s 13] [13],o2 4 (.a (.alloc 3 [.str ByteArray.empty,.bN,.bN])) [] [],o1 3 (.s 12) [12],oz (.l (.store 3)) [.s 4,.s 14] [14]]
def Iy:a_ RO:=[o2 15 (fa 2) [.s 4] [],o2 16 (ld 1) [.s 15] [15],o2 17 ln [.s 16] [],o1 18 (.k (.int .i64 0)) []]
def Fh:a_ RO:=[o2 32 (bI .add) [.s 10,.k (.int .i64 1)] [],o1 10 (.s 32) [32]]
def U2:RC:=.block 2 (.gh (.keep [0,3,8,9,10,16,17,18] []) (.loop Er))
def NG:RC:=.hg (.seq (.ops [o2 11 (bI .lss) [.s 10,.s 9] []]) (.seq (.cond (.s 11) .skip (.exit 0)) (.seq (.block 1 (.seq (.ops JO) (.seq (.ops Iy) U2))) (.ops Fh)))) (.keep [0,8,9,10] [])
def Qa:a_ RO:=[o2 7 (fa 0) [.s 1] [1],o2 8 (ld 1) [.s 7] [7],o2 9 ln [.s 8] [],o1 10 (.k (.int .i64 0)) []]
def U1:RC:=.block 0 (.gh (.keep [0,8,9,10] []) (.loop NG))
def text:RF:=⟨33,[],.seq (.ops Qa) U1⟩
section
variable {S:Sys}
abbrev I1 (ps:Sl cu) (i:Int) (u:a_ (a_ V)) (more:Bool) (y:Nat):St:=⟨[(0,.yl y),Cv 8 ps,Iv 9 (len ps),Iv 10 i],[],[],u,more,y⟩
abbrev I2 (ps:Sl cu) (i:Int) (es:Sl Event) (j:Int) (u:a_ (a_ V)) (more:Bool) (y:Nat):St:=⟨[(0,.yl y),Iv 3 i,Cv 8 ps,Iv 9 (len ps),Iv 10 i,Cv 16 es,Iv 17 (len es),Iv 18 j],[],[],u,more,y⟩
abbrev S2 (ps:Sl cu) (i:Int) (es:Sl Event) (j:Int) (b:Bool) (u:a_ (a_ V)) (more:Bool) (y:Nat):St:=⟨[(0,.yl y),Iv 3 i,Cv 8 ps,Iv 9 (len ps),Iv 10 i,Cv 16 es,Iv 17 (len es),Iv 18 j,Bv 19 b],[],[],u,more,y⟩
theorem Ur (ps:Sl cu) (i:Int) (es:Sl Event) (j:Int) (u:a_ (a_ V)) (more:Bool) (y:Nat) (B:decide (j<len es)=false) :
 rn S.bare mY some (.rc Er) [] (I2 ps i es j u more y)=some (.exit 2,S2 ps i es j false u more y):=by
 refine Le.get ?_;refine Kf (n:=7) (fo':=.rc (.cond (.s 19) .skip (.exit 2))) (fs':=[.seq (.seq (.block 3 (.seq (.ops Bt) (.seq (.ops yZ) (.cond (.s 30) .ret .skip)))) (.ops wK)),.gst (.keep [0,3,8,9,10,16,17,18] [])]) (λb=>S2 ps i es j b u more y) B Ze ?_
 exact Le.of_eq Ze
theorem V7 (ps:Sl cu) (i:Int) (es:Sl Event) (j:Int) (e:Event) (u:a_ (a_ V)) (more:Bool) (y:Nat) (B:decide (j<len es)=true) (D:idx es j=some e) (G:(!(more || !u.isEmpty))=false) :
 rn S.bare mY some (.rc Er) [] (I2 ps i es j ([enc (⟨i,IntKind.wrap .i64 (j+1)⟩:bg),enc e]::u) more y)=some (.norm,I2 ps i es (IntKind.wrap .i64 (j+1)) u more y):=by
 refine Le.get ?_;refine Kt (n:=7) (fo':=.rc (.cond (.s 19) .skip (.exit 2))) (fs':=[.seq (.seq (.block 3 (.seq (.ops Bt) (.seq (.ops yZ) (.cond (.s 30) .ret .skip)))) (.ops wK)),.gst (.keep [0,3,8,9,10,16,17,18] [])]) (λb=>S2 ps i es j b ([enc (⟨i,IntKind.wrap .i64 (j+1)⟩:bg),enc e]::u) more y) B Ze ?_
 refine Oy D ?_;refine Pb 8 false [] (Bt.drop 1) [.seq (.seq (.ops yZ) (.cond (.s 30) .ret .skip)),.blk 3,.seq (.ops wK),.gst (.keep [0,3,8,9,10,16,17,18] [])] ⟨[(0,.yl y),Iv 3 i,Cv 8 ps,Iv 9 (len ps),Iv 10 i,Cv 16 es,Iv 17 (len es),Iv 18 j,Bv 19 true,Iv 20 j],[],[],([enc (⟨i,IntKind.wrap .i64 (j+1)⟩:bg),enc e]::u),more,y⟩ .i64 rfl Ze λx h1=>?_
 obtain rfl:x=e:=by grind
 refine UD 1 false [] (Bt.drop 3) [.seq (.seq (.ops yZ) (.cond (.s 30) .ret .skip)),.blk 3,.seq (.ops wK),.gst (.keep [0,3,8,9,10,16,17,18] [])] ⟨[(0,.yl y),Iv 3 i,Cv 8 ps,Iv 9 (len ps),Iv 10 i,Cv 16 es,Iv 17 (len es),Iv 18 j,Bv 19 true,Iv 20 j,Cv 22 x],[],[],([enc (⟨i,IntKind.wrap .i64 (j+1)⟩:bg),enc x]::u),more,y⟩ [iv 0,iv 0,iv 0,iv 0,.v .bN] rfl (by simp only[bF,xJ,qd,rP,pW,rz,s9,rO,tc,pX,rH,xO,sZ,tP,tq,tI,vz,vA,rE,tD,SV.ct];rfl) Ze ?_
 refine Ast 1 false [] (Bt.drop 5) [.seq (.seq (.ops yZ) (.cond (.s 30) .ret .skip)),.blk 3,.seq (.ops wK),.gst (.keep [0,3,8,9,10,16,17,18] [])] ⟨[(0,.yl y),Iv 3 i,Cv 8 ps,Iv 9 (len ps),Iv 10 i,Cv 16 es,Iv 17 (len es),Iv 18 j,Bv 19 true,Cv 22 x,Pv 6,Iv 5 j],[Xb 6 (⟨0,0,0,0,.nil⟩:Event)],[],([enc (⟨i,IntKind.wrap .i64 (j+1)⟩:bg),enc x]::u),more,y⟩ 6 0 x [iv 0,iv 0,iv 0,iv 0,.v .bN] ((cells x).map .v) rfl Ze ?_
 refine Xl (n:=10) (q:=yZ.drop 6) (fs':=[.seq (.cond (.s 30) .ret .skip),.blk 3,.seq (.ops wK),.gst (.keep [0,3,8,9,10,16,17,18] [])]) (st:=⟨[(0,.yl y),Iv 3 i,Cv 8 ps,Iv 9 (len ps),Iv 10 i,Cv 16 es,Iv 17 (len es),Iv 18 j,Bv 19 true,(23,.yl y),Cv 27 (⟨i,IntKind.wrap .i64 (j+1)⟩:bg),Cv 28 x],[Xb 6 x],[],([enc (⟨i,IntKind.wrap .i64 (j+1)⟩:bg),enc x]::u),more,y⟩) (vs:=[cv (⟨i,IntKind.wrap .i64 (j+1)⟩:bg),cv x]) Ze rfl Ze Ze rfl rfl ?_
 refine Kf (n:=3) (fo':=.rc (.cond (.s 30) .ret .skip)) (fs':=[.blk 3,.seq (.ops wK),.gst (.keep [0,3,8,9,10,16,17,18] [])]) (λb=>⟨[(0,.yl y),Iv 3 i,Cv 8 ps,Iv 9 (len ps),Iv 10 i,Cv 16 es,Iv 17 (len es),Iv 18 j,Bv 19 true,Bv 30 b],[Xb 6 x],[],u,more,y⟩) G Ze ?_
 exact Le.of_eq Ze
theorem Ta (ps:Sl cu) (i:Int) (es:Sl Event) (j:Int) (e:Event) (u:a_ (a_ V)) (more:Bool) (y:Nat) (B:decide (j<len es)=true) (D:idx es j=some e) (G:(!(more || !u.isEmpty))=true) :
 rn S.bare mY some (.rc Er) [] (I2 ps i es j ([enc (⟨i,IntKind.wrap .i64 (j+1)⟩:bg),enc e]::u) more y)=some (.ret,⟨[(0,.yl y),Iv 3 i,Cv 8 ps,Iv 9 (len ps),Iv 10 i,Cv 16 es,Iv 17 (len es),Iv 18 j,Bv 19 true,Bv 30 true],[Xb 6 e],[],u,more,y⟩):=by
 refine Le.get ?_;refine Kt (n:=7) (fo':=.rc (.cond (.s 19) .skip (.exit 2))) (fs':=[.seq (.seq (.block 3 (.seq (.ops Bt) (.seq (.ops yZ) (.cond (.s 30) .ret .skip)))) (.ops wK)),.gst (.keep [0,3,8,9,10,16,17,18] [])]) (λb=>S2 ps i es j b ([enc (⟨i,IntKind.wrap .i64 (j+1)⟩:bg),enc e]::u) more y) B Ze ?_
 refine Oy D ?_;refine Pb 8 false [] (Bt.drop 1) [.seq (.seq (.ops yZ) (.cond (.s 30) .ret .skip)),.blk 3,.seq (.ops wK),.gst (.keep [0,3,8,9,10,16,17,18] [])] ⟨[(0,.yl y),Iv 3 i,Cv 8 ps,Iv 9 (len ps),Iv 10 i,Cv 16 es,Iv 17 (len es),Iv 18 j,Bv 19 true,Iv 20 j],[],[],([enc (⟨i,IntKind.wrap .i64 (j+1)⟩:bg),enc e]::u),more,y⟩ .i64 rfl Ze λx h1=>?_
 obtain rfl:x=e:=by grind
 refine UD 1 false [] (Bt.drop 3) [.seq (.seq (.ops yZ) (.cond (.s 30) .ret .skip)),.blk 3,.seq (.ops wK),.gst (.keep [0,3,8,9,10,16,17,18] [])] ⟨[(0,.yl y),Iv 3 i,Cv 8 ps,Iv 9 (len ps),Iv 10 i,Cv 16 es,Iv 17 (len es),Iv 18 j,Bv 19 true,Iv 20 j,Cv 22 x],[],[],([enc (⟨i,IntKind.wrap .i64 (j+1)⟩:bg),enc x]::u),more,y⟩ [iv 0,iv 0,iv 0,iv 0,.v .bN] rfl (by simp only[bF,xJ,qd,rP,pW,rz,s9,rO,tc,pX,rH,xO,sZ,tP,tq,tI,vz,vA,rE,tD,SV.ct];rfl) Ze ?_
 refine Ast 1 false [] (Bt.drop 5) [.seq (.seq (.ops yZ) (.cond (.s 30) .ret .skip)),.blk 3,.seq (.ops wK),.gst (.keep [0,3,8,9,10,16,17,18] [])] ⟨[(0,.yl y),Iv 3 i,Cv 8 ps,Iv 9 (len ps),Iv 10 i,Cv 16 es,Iv 17 (len es),Iv 18 j,Bv 19 true,Cv 22 x,Pv 6,Iv 5 j],[Xb 6 (⟨0,0,0,0,.nil⟩:Event)],[],([enc (⟨i,IntKind.wrap .i64 (j+1)⟩:bg),enc x]::u),more,y⟩ 6 0 x [iv 0,iv 0,iv 0,iv 0,.v .bN] ((cells x).map .v) rfl Ze ?_
 refine Xl (n:=10) (q:=yZ.drop 6) (fs':=[.seq (.cond (.s 30) .ret .skip),.blk 3,.seq (.ops wK),.gst (.keep [0,3,8,9,10,16,17,18] [])]) (st:=⟨[(0,.yl y),Iv 3 i,Cv 8 ps,Iv 9 (len ps),Iv 10 i,Cv 16 es,Iv 17 (len es),Iv 18 j,Bv 19 true,(23,.yl y),Cv 27 (⟨i,IntKind.wrap .i64 (j+1)⟩:bg),Cv 28 x],[Xb 6 x],[],([enc (⟨i,IntKind.wrap .i64 (j+1)⟩:bg),enc x]::u),more,y⟩) (vs:=[cv (⟨i,IntKind.wrap .i64 (j+1)⟩:bg),cv x]) Ze rfl Ze Ze rfl rfl ?_
 refine Kt (n:=3) (fo':=.rc (.cond (.s 30) .ret .skip)) (fs':=[.blk 3,.seq (.ops wK),.gst (.keep [0,3,8,9,10,16,17,18] [])]) (λb=>⟨[(0,.yl y),Iv 3 i,Cv 8 ps,Iv 9 (len ps),Iv 10 i,Cv 16 es,Iv 17 (len es),Iv 18 j,Bv 19 true,Bv 30 b],[Xb 6 x],[],u,more,y⟩) G Ze ?_
 exact Le.of_eq Ze
abbrev S1 (ps:Sl cu) (i:Int) (b:Bool) (u:a_ (a_ V)) (more:Bool) (y:Nat):St:=⟨[(0,.yl y),Cv 8 ps,Iv 9 (len ps),Iv 10 i,Bv 11 b],[],[],u,more,y⟩
theorem Vn (ps:Sl cu) (i:Int) (u:a_ (a_ V)) (more:Bool) (y:Nat) (B:decide (i<len ps)=false) :
 rn S.bare mY some (.rc NG) [] (I1 ps i u more y)=some (.exit 0,S1 ps i false u more y):=by
 refine Le.get ?_;refine Kf (n:=7) (fo':=.rc (.cond (.s 11) .skip (.exit 0))) (fs':=[.seq (.seq (.block 1 (.seq (.ops JO) (.seq (.ops Iy) U2))) (.ops Fh)),.gst (.keep [0,8,9,10] [])]) (λb=>S1 ps i b u more y) B Ze ?_
 exact Le.of_eq Ze
def QK:a_ Fm:=[.blk 2,.blk 1,.seq (.ops Fh),.gst (.keep [0,8,9,10] [])]
theorem QU (ps:Sl cu) (i:Int) (p:cu) (u:a_ (a_ V)) (more:Bool) (y:Nat) (r:Out×St) (B:decide (i<len ps)=true) (D:idx ps i=some p)
 (h:rn S.bare mY some (.rc (.loop Er)) QK (I2 ps i p.events 0 u more y)=some r):rn S.bare mY some (.rc NG) [] (I1 ps i u more y)=some r:=by
 refine Le.get ?_;refine Kt (n:=7) (fo':=.rc (.cond (.s 11) .skip (.exit 0))) (fs':=[.seq (.seq (.block 1 (.seq (.ops JO) (.seq (.ops Iy) U2))) (.ops Fh)),.gst (.keep [0,8,9,10] [])]) (λb=>S1 ps i b u more y) B Ze ?_
 refine Oy D ?_;refine Pb 8 false [] (JO.drop 1) [.seq (.seq (.ops Iy) U2),.blk 1,.seq (.ops Fh),.gst (.keep [0,8,9,10] [])] ⟨[(0,.yl y),Cv 8 ps,Iv 9 (len ps),Iv 10 i,Bv 11 true,Iv 12 i],[],[],u,more,y⟩ .i64 rfl Ze λx h1=>?_
 obtain rfl:x=p:=by grind
 refine UD 1 false [] (JO.drop 3) [.seq (.seq (.ops Iy) U2),.blk 1,.seq (.ops Fh),.gst (.keep [0,8,9,10] [])] ⟨[(0,.yl y),Cv 8 ps,Iv 9 (len ps),Iv 10 i,Bv 11 true,Iv 12 i,Cv 14 x],[],[],u,more,y⟩ [.v (.str ByteArray.empty),.v .bN,.v .bN] rfl (by simp only[bF,xJ,qd,rP,pW,rz,s9,rO,tc,pX,rH,xO,sZ,tP,tq,tI,vz,vA,rE,tD,SV.ct];rfl) Ze ?_
 refine Ast 1 false [] (JO.drop 5) [.seq (.seq (.ops Iy) U2),.blk 1,.seq (.ops Fh),.gst (.keep [0,8,9,10] [])] ⟨[(0,.yl y),Cv 8 ps,Iv 9 (len ps),Iv 10 i,Bv 11 true,Cv 14 x,Pv 4,Iv 3 i],[Xb 4 (⟨ByteArray.empty,.nil,.nil⟩:cu)],[],u,more,y⟩ 4 0 x [.v (.str ByteArray.empty),.v .bN,.v .bN] ((cells x).map .v) rfl Ze ?_
 refine VF 6 false [] (Iy.drop 2) [.seq U2,.blk 1,.seq (.ops Fh),.gst (.keep [0,8,9,10] [])] ⟨[(0,.yl y),Cv 8 ps,Iv 9 (len ps),Iv 10 i,Bv 11 true,Pv 4,Iv 3 i,Cv 16 x.events],[Xb 4 x],[],u,more,y⟩ x.events rfl Ze ?_
 refine zU (n:=5) (fo':=.rc (.loop Er)) (fs':=QK) (st':=I2 ps i x.events 0 u more y) Ze (Le.of_eq h)
theorem SG (ps:Sl cu) (i:Int) (es:Sl Event) (j:Int) (u:a_ (a_ V)) (more:Bool) (y:Nat) :
 rn S.bare mY some (.ex 2) QK (S2 ps i es j false u more y)=some (.norm,I1 ps (IntKind.wrap .i64 (i+1)) u more y):=by kernel_rfl
theorem wrap_small (n:Nat) (h:n<9223372036854775807):IntKind.wrap .i64 ((n:Int)+1)=((n+1:Nat):Int):=by
 simp[IntKind.wrap,IntKind.bits,IntKind.signed];omega
abbrev eI (x:bg×Event):a_ V:=[enc x.1,enc x.2]
theorem De.step {x:a_ V} {B rest:a_ (a_ V)} {more:Bool} (h:De B (x::rest) more):∃u,B=x::u/\((!(more || !u.isEmpty))=false/\De u rest more\/(!(more || !u.isEmpty))=true/\u=[]):=by
 rcases h with⟨rfl,rfl⟩|⟨rfl,t,r,hr⟩
 .exact⟨rest,rfl,.inl ⟨rfl,.inl ⟨rfl,rfl⟩⟩⟩
 cases B with
 | nil=>grind
 | cons w B=>
  simp only[List.cons_append,List.cons.injEq]at hr;obtain⟨rfl,rfl⟩:=hr;refine⟨B,rfl,?_⟩
  cases B with
  | nil=>grind
  | cons z C=>exact .inl ⟨rfl,.inr ⟨rfl,by simp,r,rfl⟩⟩
theorem Hj {α:Type} {s:Sl α} {j:Nat} {x:α} {r:a_ α} (h:s.l.drop j=x::r):idx s (j:Int)=some x/\decide ((j:Int)<len s)=true/\s.l.drop (j+1)=r:=by
 have h1:j<s.l.length:=by
  apply Classical.byContradiction;intro u;rw[List.drop_eq_nil_of_le Za]at h;cases h
 have t:=List.drop_eq_getElem_cons h1;rw[t]at h;simp only[List.cons.injEq]at h;refine⟨?_,by grind,h.2⟩
 unfold idx;simp_all
variable {Q:Out×St->bf (Out×St)} {fs:a_ Fm}
theorem inner (ps:Sl cu) (i:Int) (es:Sl Event) (G:es.l.length<9223372036854775807) (more:Bool) (y:Nat) (R:a_ (a_ V)):∀(rem:a_ Event) (j:Nat),es.l.drop j=rem->∀B,De B ((ig i j rem).map eI++R) more ->
 (∃(u:a_ (a_ V)) (J:Int),De u R more/\rn S.bare mY Q (.rc (.loop Er)) fs (I2 ps i es j B more y)=rn S.bare mY Q (.ex 2) fs (S2 ps i es J false u more y)) \/
 (∃st':St,st'.want=[]/\rn S.bare mY Q (.rc (.loop Er)) fs (I2 ps i es j B more y)=Q (.ret,st'))
 | [],j,hd,B,D=>by
  have h1:decide ((j:Int)<len es)=false:=by
   simp_all
  exact .inl ⟨B,j,by simpa [ig]using D,EW (Ur ps i es j B more y h1)⟩
 | e::rem,j,hd,B,D=>by
  obtain⟨h1,z,C⟩:=Hj hd;have T:j<es.l.length:=by grind
  simp only[ig,List.map_cons,List.cons_append]at D;obtain⟨u,rfl,t⟩:=De.step D;have I:=wrap_small j Za
  have w:((j:Int)+1)=IntKind.wrap .i64 ((j:Int)+1):=by grind
  rcases t with⟨t,L⟩|⟨t,rfl⟩
  .have k:=V7 (S:=S) ps i es j e u more y z h1 t;rw[<-w]at k;have k2:=E_ (Q:=Q) (fs:=fs) k;have O:=inner ps i es G more y R rem (j+1) C u Zd
   rw[show ((j+1:Nat):Int)=(j:Int)+1 from rfl]at O
   grind
  have k:=Ta (S:=S) ps i es j e [] more y z h1 t;rw[<-w]at k;exact .inr ⟨_,by rfl,E3 k⟩
theorem outer (ps:Sl cu) (G:ps.l.length<9223372036854775807) (B:∀p∈ps.l,p.events.l.length<9223372036854775807) (more:Bool) (y:Nat):∀(rem:a_ cu) (i:Nat),ps.l.drop i=rem->∀u,De u ((fe i rem).map eI) more ->
 rn S.bare mY Qi (.rc (.loop NG)) [.blk 0] (I1 ps i u more y)=some ()
 | [],i,hd,u,D=>by
  have h1:decide ((i:Int)<len ps)=false:=by
   simp_all
  rw[EW (Vn ps i u more y h1)];have:u=[]:=by
   rcases D with⟨_,rfl⟩|⟨_,J,r,hr⟩
   .rfl
   have:u=[]:=by cases u with
    | nil=>rfl
    | cons=>simp[fe]at hr
   grind
  subst this;rfl
 | p::rem,i,hd,u,D=>by
  obtain⟨h1,z,C⟩:=Hj hd;have L:i<ps.l.length:=by grind
  have I:p∈ps.l:=List.mem_of_mem_drop (i:=i) Zd
  simp only[fe,List.map_append]at D;have t:=wrap_small i Za
  rcases inner (S:=S) (Q:=some) (fs:=QK) ps i p.events (B p I) more y _ p.events.l 0 rfl u D with⟨w,O,g1,g2⟩|⟨st',g1,g2⟩
  .rw[SG,t]at g2;rw[E_ (QU ps i p u more y _ z h1 g2)];exact outer ps G B more y rem (i+1) C w g1
  rw[E3 (QU ps i p u more y _ z h1 g2)];simp[Qi,g1]
theorem all (t:Trace) (u:a_ (bg×Event)) (h:iL t=some u) (B:a_ (a_ V)) (more:Bool) (D:De B (u.map eI) more) (y:Nat) :
 rn S.bare mY Qi (.rc text.body) [] ⟨xD 0 (([]:a_ V).map .v++.yl y::[V.fptr (cells t)].map .v),[],[],B,more,y⟩=some ():=by
 unfold iL at h;split at h
 .rename_i hk;cases h;simp only[ζh,List.all_eq_true,Ga,decide_eq_true_eq]at hk;refine Le.get ?_;refine VF 4 false [] (Qa.drop 2) [.seq U1] ⟨[(0,.yl y),Cv 8 t.procs],[],[],B,more,y⟩ t.procs rfl Ze ?_
  refine zU (n:=5) (fo':=.rc (.loop NG)) (fs':=[.blk 0]) (st':=I1 t.procs 0 B more y) Ze (Le.of_eq ?_)
  exact outer t.procs hk.1 hk.2 more y t.procs.l 0 rfl B D
 simp_all
end
theorem Ki {α:Type} [bz α] {a b:Sl α} (h:cI a=cI b):rows a.l=rows b.l:=by
 cases a <;> cases b <;> first|rfl|(simp only[cI,Sl.k,jK,V.fsl.injEq,true_and,reduceCtorEq]at h;done)|(simp only[cI,Sl.k,jK,V.fsl.injEq,true_and,reduceCtorEq]at h;omega)
theorem Gp (p:Int):∀(es u:a_ Event) (j:Int),rows es=rows u->(ig p j es).map eI=(ig p j u).map eI
 | [],[],_,_=>rfl
 | [],_::_,_,h=>by simp[rows]at h
 | _::_,[],_,h=>by simp[rows]at h
 | e::es,B::u,j,h=>by
  simp only[rows,List.map_cons,List.cons.injEq]at h;have h1:enc e=enc B:=by show V.agg (cells e)=V.agg (cells B);rw[h.1]
  simp only[ig,List.map_cons,eI,h1,Gp p es u (j+1) h.2]
theorem Ck:∀(ps u:a_ cu) (i:Int),rows ps=rows u->(fe i ps).map eI=(fe i u).map eI
 | [],[],_,_=>rfl
 | [],_::_,_,h=>by simp[rows]at h
 | _::_,[],_,h=>by simp[rows]at h
 | p::ps,p'::u,i,h=>by
  simp only[rows,List.map_cons,List.cons.injEq]at h;have h1:cI p.events=cI p'.events:=by
   have:=h.1;change [V.str p.name,cI p.vars,cI p.events]=[V.str p'.name,cI p'.vars,cI p'.events]at this
   grind
  simp only[fe,List.map_append,Gp i _ _ 0 (Ki h1),Ck ps u (i+1) h.2]
def FY (f:FuncId) (g:FuncId) (a b:a_ V) (xs:a_ (a_ V)):Prop:=∃(t:Trace) (u:a_ (bg×Event)),g=f/\a=[]/\b=[.fptr (cells t)]/\iL t=some u/\xs=u.map eI
theorem FY.uniq {f g:FuncId} {a b:a_ V} {xs ys:a_ (a_ V)} (h:FY f g a b xs) (k:FY f g a b ys):xs=ys:=by
 obtain⟨t,C,rfl,rfl,rfl,h1,rfl⟩:=h;obtain⟨w,z,_,_,B,u,rfl⟩:=k;simp only[List.cons.injEq,V.fptr.injEq,and_true]at B;have D:cI t.procs=cI w.procs:=by
  change [cI t.procs]=[cI w.procs]at B
  grind
 unfold iL at h1 u;split at h1 <;> split at u <;> simp only[ζa,reduceCtorEq]at h1 u;subst h1 u;exact Ck _ _ 0 (Ki D)
end trace_events_c1
end Go.VE
namespace Go.VE
open Go.Proofs.YtegogepdjcdfcacGreatDoor
noncomputable section
noncomputable def LN (f:FuncId):bf ED:=bif Nat.beq f 67 then some (xz false)else bif Nat.beq f 69 then some (sw E)else none
noncomputable def Sy:Sys:=⟨E,λn=>n,x_ (trace_events_c1.FY 117),zZ E,LN⟩
theorem Vy:Sy.prm 67=some (xz false):=by kernel_rfl
theorem Vf:Sy.prm 69=some (sw Sy.E):=by kernel_rfl
theorem Vi:∀f q,LN f=some q->n9 E f q:=by
 intro f q h;unfold LN at h
 cases h1:Nat.beq f 67 with
 | true=>
  rw[h1]at h;cases h;have:=Nat.eq_of_beq_eq_true h1;subst this;exact S6 false D6 Ze Ze (Qh Ze)
 | false=>
  rw[h1]at h
  cases h1:Nat.beq f 69 with
  | true=>
   rw[h1]at h;cases h;have:=Nat.eq_of_beq_eq_true h1;subst this;exact OF Ze Ze Ze Ze
  | false=>
   rw[h1]at h;cases h
def Tx:pe:=OK E some (lk Kn)
abbrev cL:bU:=dc Sy Tx
theorem UK:∃fi,E.ft 117=some fi/\yS E some fi trace_events_c1.text:=Vk Ze
theorem RG:vq Sy Tx where
 fn f rf h:=let ⟨t,h1,u⟩:=PO h;⟨t,some,h1,D6,u⟩
 zR f w y h:=M5 h
 prm:=Vi
theorem JY:∀f a b xs,Sy.items f a b=some xs->gI Sy f a b xs:=by
 intro f a b xs h;obtain⟨t,u,rfl,rfl,rfl,h1,rfl⟩:=LL h;obtain⟨D,w,z⟩:=UK;exact PK Sy w D6 z (Nat.le_of_ble_eq_true rfl) rfl λB more C y=>trace_events_c1.all t u h1 B more C y
theorem yf (t:Trace) (u:a_ (bg×Event)) (h:iL t=some u):Sy.items 117 [] [.fptr (cells t)]=some (u.map λx:bg×Event=>[enc x.1,enc x.2]):=
 LA ⟨t,u,rfl,rfl,rfl,h,rfl⟩ λz w=>w.uniq ⟨t,u,rfl,rfl,rfl,h,rfl⟩
theorem Nn:Sy.zR 4 []=some (.bool true):=FD (IV rfl ⟨1,[],by kernel_rfl⟩)
end
end Go.VE
namespace Go.VE
noncomputable section
def sA:bf Bool:=some true
instance SL:Fc Sy cL sA:=⟨4,[],λr:Bool=>[.bool r],true,l8.zR Ze Ze Nn⟩
namespace fE
def br (s0:Sl Event) (B:Int) (u:Int) (p1:Event->bf Bool):bf (Fw Int Unit Int):=
 bp (decide (u<B))
 ((idx s0 u).bind λt=>
 (p1 t).bind λw=>
 bp w
 (some (.r u))
 (some (.n (IntKind.wrap .i64 (u+1)))))
 (some (.x ()))
def W1 (s0:Sl Event) (u B:Int) (p1:Event->bf Bool):bf Int:=
 (bM (λq:Int=>br s0 u q p1) B).bind (Fw.elim
 (λe=>some (-1))
 (λe=>some e))
end fE
def fE (s0:Sl Event) (p1:Event->bf Bool):bf Int:=
 fE.W1 s0 (len s0) 0 p1
open fE in
abbrev vR (g1:FuncId) (e1:a_ V) (p1:Event->bf Bool) (h1:kG Sy cL g1 [] e1 (λz:Event=>[enc z]) (λr:Bool=>[.bool r]) p1 true) (s0:Sl Event):Fc Sy cL (fE s0 p1):=Fc.M 51 [enc s0,.clo g1 [] e1] (bR 9 s0 (dw 5 (λu=>(bF [Cv 0 s0,(1,.v (.clo g1 [] e1)),Iv 7 (len s0),Iv 8 u] [])) (λt=>(0,(bF [] []))) (λt=>(bF [Iv 4 t] [])) (λu=>bD 7 9 (b9 16 λw _=>wX 1 h1.f w λB _=>bD 2 16 bh bh) bh) (λt=>bh) (λt=>bh)))
def gM (s0:Sl Event) (p1:Event->bf Bool):bf Bool:=
 (fE s0 p1).bind λt=>
 some (decide (t>=0))
abbrev nO (g1:FuncId) (e1:a_ V) (p1:Event->bf Bool) (h1:kG Sy cL g1 [] e1 (λz:Event=>[enc z]) (λr:Bool=>[.bool r]) p1 true) (s0:Sl Event):Fc Sy cL (gM s0 p1):=Fc.M 19 [enc s0,.clo g1 [] e1] (bC (F:=vR g1 e1 p1 h1 s0) 9 λt _=>bh)
def qJ (u:Event):bf Bool:=
 some (decide ((len u.assign)>12))
instance RH (u:Event):Fc Sy cL (qJ u):=Fc.M 20 [enc u] (dn 2 1 u (bR 7 u.assign bh))
namespace gy
def br (s0:Sl Var) (B:Int) (u:Int) (p1:Var->bf Bool):bf (Fw Int Unit Int):=
 bp (decide (u<B))
 ((idx s0 u).bind λt=>
 (p1 t).bind λw=>
 bp w
 (some (.r u))
 (some (.n (IntKind.wrap .i64 (u+1)))))
 (some (.x ()))
def W1 (s0:Sl Var) (u B:Int) (p1:Var->bf Bool):bf Int:=
 (bM (λq:Int=>br s0 u q p1) B).bind (Fw.elim
 (λe=>some (-1))
 (λe=>some e))
end gy
def gy (s0:Sl Var) (p1:Var->bf Bool):bf Int:=
 gy.W1 s0 (len s0) 0 p1
open gy in
abbrev xk (g1:FuncId) (e1:a_ V) (p1:Var->bf Bool) (h1:kG Sy cL g1 [] e1 (λz:Var=>[enc z]) (λr:Bool=>[.bool r]) p1 true) (s0:Sl Var):Fc Sy cL (gy s0 p1):=Fc.M 52 [enc s0,.clo g1 [] e1] (bR 9 s0 (dw 5 (λu=>(bF [Cv 0 s0,(1,.v (.clo g1 [] e1)),Iv 7 (len s0),Iv 8 u] [])) (λt=>(0,(bF [] []))) (λt=>(bF [Iv 4 t] [])) (λu=>bD 7 9 (b9 16 λw _=>wX 1 h1.f w λB _=>bD 2 16 bh bh) bh) (λt=>bh) (λt=>bh)))
def gp (s0:Sl Var) (p1:Var->bf Bool):bf Bool:=
 (gy s0 p1).bind λt=>
 some (decide (t>=0))
abbrev oS (g1:FuncId) (e1:a_ V) (p1:Var->bf Bool) (h1:kG Sy cL g1 [] e1 (λz:Var=>[enc z]) (λr:Bool=>[.bool r]) p1 true) (s0:Sl Var):Fc Sy cL (gp s0 p1):=Fc.M 21 [enc s0,.clo g1 [] e1] (bC (F:=xk g1 e1 p1 h1 s0) 9 λt _=>bh)
def qN (u:Var):bf Bool:=
 some (decide (((ByteArray.size u.name:Nat):Int)>40))
instance Ro (u:Var):Fc Sy cL (qN u):=Fc.M 22 [enc u] (bh)
namespace iO
def br (u:Int) (T:Sl cu) (D:Int) (U:Trace) (O B:Int):bf (Fw (Int×Int) Unit Unit):=
 bp (decide (B<D))
 ((idx T B).bind λt=>
 (bp (decide ((IntKind.wrap .i64 (O+(len t.events)))>u))
 (some true)
 (some (decide ((len t.vars)>12))):bf Bool).bind λw=>
 (bp w
 (some true)
 (some (decide (((ByteArray.size t.name:Nat):Int)>40))):bf Bool).bind λC=>
 (bp C
 (some true)
 ((gM t.events (λz=>qJ z)).bind λG=>
 some G):bf Bool).bind λI=>
 (bp I
 (some true)
 ((gp t.vars (λz=>qN z)).bind λJ=>
 some J):bf Bool).bind λL=>
 bp L
 (some (.r ()))
 (some (.n (IntKind.wrap .i64 (O+(len t.events)),IntKind.wrap .i64 (B+1)))))
 (some (.x ()))
def W1 (u J:Int) (O:Sl cu) (D G:Int) (B:Trace):bf Bool:=
 (bM (λq:Int×Int=>br u O D B q.1 q.2) (J,G)).bind (Fw.elim
 (λe=>some (decide ((len B.procs)<=10)))
 (λe=>some false))
end iO
def iO (B:Trace) (u:Int):bf Bool:=
 iO.W1 u 0 B.procs (len B.procs) 0 B
open iO in
instance Vm (B:Trace) (u:Int):Fc Sy cL (iO B u):=Fc.M 5 [enc B,.int .i64 u] (dn 2 2 B (bR 13 B.procs (dw 5 (λw=>(bF [Iv 1 u,Pv 2,Iv 5 w.1,Cv 9 B.procs,Iv 10 (len B.procs),Iv 11 w.2] [Xb 2 B])) (λC=>(0,(bF [Pv 2] [Xb 2 B]))) (λC=>(bF [Bv 4 false] [])) (λw=>bD 7 12 (b9 7 λt _=>j8 2 7 0 t (bR 7 t.events (bZ 10 5 [23] 28 (bD 10 23 (bB 5) (bR 2 t.vars (bB 2))) λD=>bZ 1 5 [29] 34 (bD 1 29 (bB 5) (bB 5)) λG=>bZ 1 4 [35] 39 (bD 1 35 (bB 4) (bC (F:=nO 20 [] (λz=>qJ z) kG.rM t.events) 2 λI _=>bB 1)) λJ=>bZ 1 4 [7,40] 44 (bD 1 40 (bB 4) (bC (F:=oS 22 [] (λz=>qN z) kG.rM t.vars) 2 λL _=>bB 1)) λO=>bD 2 44 bh bh))) bh) (λC=>bR 6 B.procs bh) (λC=>bh))))
namespace fS
def br (s0:Sl (Sl Int)) (B:Int) (u:Int) (p1:(Sl Int)->bf Bool):bf (Fw Int Unit Int):=
 bp (decide (u<B))
 ((idx s0 u).bind λt=>
 (p1 t).bind λw=>
 bp w
 (some (.r u))
 (some (.n (IntKind.wrap .i64 (u+1)))))
 (some (.x ()))
def W1 (s0:Sl (Sl Int)) (u B:Int) (p1:(Sl Int)->bf Bool):bf Int:=
 (bM (λq:Int=>br s0 u q p1) B).bind (Fw.elim
 (λe=>some (-1))
 (λe=>some e))
end fS
def fS (s0:Sl (Sl Int)) (p1:(Sl Int)->bf Bool):bf Int:=
 fS.W1 s0 (len s0) 0 p1
open fS in
abbrev wk (g1:FuncId) (e1:a_ V) (p1:(Sl Int)->bf Bool) (h1:kG Sy cL g1 [] e1 (λz:Sl Int=>[enc z]) (λr:Bool=>[.bool r]) p1 true) (s0:Sl (Sl Int)):Fc Sy cL (fS s0 p1):=Fc.M 53 [enc s0,.clo g1 [] e1] (bR 9 s0 (dw 5 (λu=>(bF [Cv 0 s0,(1,.v (.clo g1 [] e1)),Iv 7 (len s0),Iv 8 u] [])) (λt=>(0,(bF [] []))) (λt=>(bF [Iv 4 t] [])) (λu=>bD 7 9 (b9 16 λw _=>wX 1 h1.f w λB _=>bD 2 16 bh bh) bh) (λt=>bh) (λt=>bh)))
def dK (s0:Sl (Sl Int)) (p1:(Sl Int)->bf Bool):bf Bool:=
 (fS s0 p1).bind λt=>
 some (decide (t>=0))
abbrev kJ (g1:FuncId) (e1:a_ V) (p1:(Sl Int)->bf Bool) (h1:kG Sy cL g1 [] e1 (λz:Sl Int=>[enc z]) (λr:Bool=>[.bool r]) p1 true) (s0:Sl (Sl Int)):Fc Sy cL (dK s0 p1):=Fc.M 23 [enc s0,.clo g1 [] e1] (bC (F:=wk g1 e1 p1 h1 s0) 9 λt _=>bh)
def mg (u:Sl Int):bf Bool:=
 some (decide ((len u)>12))
instance Og (u:Sl Int):Fc Sy cL (mg u):=Fc.M 24 [enc u] (bR 8 u bh)
def ku (B:Sl (Sl Int)):bf Bool:=
 (bp (decide ((len B)<=60))
 ((dK B (λz=>mg z)).bind λt=>
 some (!t))
 (some false):bf Bool).bind λu=>
 some u
instance Tl (u:Sl (Sl Int)):Fc Sy cL (ku u):=Fc.M 6 [enc u] (bR 8 u (bZ 2 4 [0,6] 10 (bD 2 6 (bC (F:=kJ 24 [] (λz=>mg z) kG.rM u) 1 λt _=>bB 2) (bB 4)) λw=>bh))
namespace fD
def br (s0:Sl (Sl (Sl Int))) (B:Int) (u:Int) (p1:(Sl (Sl Int))->bf Bool):bf (Fw Int Unit Int):=
 bp (decide (u<B))
 ((idx s0 u).bind λt=>
 (p1 t).bind λw=>
 bp w
 (some (.r u))
 (some (.n (IntKind.wrap .i64 (u+1)))))
 (some (.x ()))
def W1 (s0:Sl (Sl (Sl Int))) (u B:Int) (p1:(Sl (Sl Int))->bf Bool):bf Int:=
 (bM (λq:Int=>br s0 u q p1) B).bind (Fw.elim
 (λe=>some (-1))
 (λe=>some e))
end fD
def fD (s0:Sl (Sl (Sl Int))) (p1:(Sl (Sl Int))->bf Bool):bf Int:=
 fD.W1 s0 (len s0) 0 p1
open fD in
abbrev vP (g1:FuncId) (e1:a_ V) (p1:(Sl (Sl Int))->bf Bool) (h1:kG Sy cL g1 [] e1 (λz:Sl (Sl Int)=>[enc z]) (λr:Bool=>[.bool r]) p1 true) (s0:Sl (Sl (Sl Int))):Fc Sy cL (fD s0 p1):=Fc.M 54 [enc s0,.clo g1 [] e1] (bR 9 s0 (dw 5 (λu=>(bF [Cv 0 s0,(1,.v (.clo g1 [] e1)),Iv 7 (len s0),Iv 8 u] [])) (λt=>(0,(bF [] []))) (λt=>(bF [Iv 4 t] [])) (λu=>bD 7 9 (b9 16 λw _=>wX 1 h1.f w λB _=>bD 2 16 bh bh) bh) (λt=>bh) (λt=>bh)))
def ji (s0:Sl (Sl (Sl Int))) (p1:(Sl (Sl Int))->bf Bool):bf Bool:=
 (fD s0 p1).bind λt=>
 some (decide (t>=0))
abbrev uo (g1:FuncId) (e1:a_ V) (p1:(Sl (Sl Int))->bf Bool) (h1:kG Sy cL g1 [] e1 (λz:Sl (Sl Int)=>[enc z]) (λr:Bool=>[.bool r]) p1 true) (s0:Sl (Sl (Sl Int))):Fc Sy cL (ji s0 p1):=Fc.M 25 [enc s0,.clo g1 [] e1] (bC (F:=vP g1 e1 p1 h1 s0) 9 λt _=>bh)
def jv (u:Sl (Sl Int)):bf Bool:=
 (ku u).bind λt=>
 some (!t)
instance Oh (u:Sl (Sl Int)):Fc Sy cL (jv u):=Fc.M 26 [enc u] (bC 8 λt _=>bh)
def sR (s0:Slice):bf Bool:=
 (bp (decide ((len s0.first)<=12))
 (some (decide ((len s0.last)<=12)))
 (some false):bf Bool).bind λt=>
 (bp t
 (some (decide ((len s0.j)<=12)))
 (some false):bf Bool).bind λu=>
 (bp u
 ((ji s0.j (λz=>jv z)).bind λw=>
 some (!w))
 (some false):bf Bool).bind λB=>
 some B
instance TH (s0:Slice):Fc Sy cL (sR s0):=Fc.M 7 [enc s0] (dn 2 1 s0 (bR 7 s0.first (bZ 2 5 [7] 12 (bD 2 7 (bR 2 s0.last (bB 2)) (bB 5)) λt=>bZ 1 5 [13] 18 (bD 1 13 (bR 2 s0.j (bB 2)) (bB 5)) λu=>bZ 1 5 [1,19] 24 (bD 1 19 (bC (F:=uo 26 [] (λz=>jv z) kG.rM s0.j) 2 λw _=>bB 2) (bB 5)) λB=>bh)))
def oh (u:Int):bf Bool:=
 (bp (decide (u>=65))
 (some (decide (u<=90)))
 (some false):bf Bool).bind λt=>
 (bp t
 (some true)
 ((bp (decide (u>=97))
 (some (decide (u<=122)))
 (some false):bf Bool).bind λw=>
 some w):bf Bool).bind λz=>
 some z
instance Rw (u:Int):Fc Sy cL (oh u):=Fc.M 147 [.int .u8 u] (bZ 10 3 [5] 8 (bD 10 5 (bB 3) (bB 3)) λt=>bZ 1 7 [0,9] 16 (bD 1 9 (bB 7) (bZ 3 3 [0,12] 15 (bD 3 12 (bB 3) (bB 3)) λw=>bB 1)) λz=>bh)
def sO (u:Int):bf Bool:=
 (bp (decide (u>=48))
 (some (decide (u<=57)))
 (some false):bf Bool).bind λt=>
 some t
instance Tw (u:Int):Fc Sy cL (sO u):=Fc.M 148 [.int .u8 u] (bZ 10 3 [0,5] 8 (bD 10 5 (bB 3) (bB 3)) λt=>bh)
namespace gE
def br (s0:ByteArray) (i3:Int):bf (Fw Int Unit Unit):=
 bp (decide (i3<((ByteArray.size s0:Nat):Int)))
 ((ki s0 i3).bind λw=>
 (oh w).bind λz=>
 (bp z
 (some false)
 ((ki s0 i3).bind λB=>
 (sO B).bind λC=>
 some (!C)):bf Bool).bind λD=>
 (bp D
 ((ki s0 i3).bind λt=>
 some (!(t==95)))
 (some false):bf Bool).bind λu=>
 bp u
 (some (.r ()))
 (some (.n (IntKind.wrap .i64 (i3+1)))))
 (some (.x ()))
def W1 (s0:ByteArray) (i3:Int):bf Bool:=
 (bM (λq:Int=>br s0 q) i3).bind (Fw.elim
 (λe=>some true)
 (λe=>some false))
end gE
def gE (s0:ByteArray):bf Bool:=
 (bp (decide (((ByteArray.size s0:Nat):Int)<1))
 (some true)
 (some (decide (((ByteArray.size s0:Nat):Int)>16))):bf Bool).bind λt=>
 (bp t
 (some true)
 ((ki s0 0).bind λu=>
 (oh u).bind λw=>
 some (!w)):bf Bool).bind λz=>
 bp z
 (some false)
 (gE.W1 s0 1)
open gE in
instance TQ (s0:ByteArray):Fc Sy cL (gE s0):=Fc.M 105 [.str s0] (bZ 12 4 [7] 11 (bD 12 7 (bB 4) (bB 4)) λB=>bZ 1 5 [12] 17 (bD 1 12 (bB 5) (As 1 .i64 λC _=>bC 0 λD _=>bB 2)) λG=>bD 2 17 bh (dw 11 (λu=>(bF [(0,.v (.str s0)),Iv 3 u] [])) (λt=>(0,(bF [] []))) (λt=>(bF [Bv 2 false] [])) (λu=>bD 10 21 (As 9 .i64 λI _=>bC 0 λJ _=>bZ 2 6 [29] 35 (di 2 29 (bB 6) (As 2 .i64 λL _=>bC 0 λO _=>bB 2)) λQ=>bZ 1 5 [36] 41 (bD 1 36 (As 2 .i64 λw _=>bB 2) (bB 5)) λz=>bD 2 41 bh bh) bh) (λt=>bh) (λt=>bh)))
def o_ (u:Int):bf Bool:=
 (bp (decide (u>=(-1073741824)))
 (some (decide (u<=1073741824)))
 (some false):bf Bool).bind λt=>
 some t
instance Su (u:Int):Fc Sy cL (o_ u):=Fc.M 106 [.int .i64 u] (bZ 10 3 [0,5] 8 (bD 10 5 (bB 3) (bB 3)) λt=>bh)
namespace dM
def eS (D:Int) (u:cu) (B:Int):bf (Fw Int Unit Unit):=
 bp (decide (B<D))
 ((idx u.vars B).bind λt=>
 (idx u.vars D).bind λw=>
 bp (ByteArray.toList t.name==ByteArray.toList w.name)
 (some (.r ()))
 (some (.n (IntKind.wrap .i64 (B+1)))))
 (some (.x ()))
def W3 (B D:Int) (u:cu):bf (Fw Int Unit Int):=
 (bM (λq:Int=>eS B u q) D).bind (Fw.elim
 (λe=>(idx u.vars B).bind λt=>
 (o_ t.init_).bind λw=>
 bp w
 (some (.n (IntKind.wrap .i64 (B+1))))
 (some (.r 2)))
 (λe=>some (.r 13)))
def cm (u:cu) (B:Int):bf (Fw Int Unit Int):=
 bp (decide (B<(len u.vars)))
 ((idx u.vars B).bind λt=>
 (gE t.name).bind λw=>
 bp w
 (W3 B 0 u)
 (some (.r 13)))
 (some (.x ()))
def W2 (B:Int) (u:cu):bf Int:=
 (bM (λq:Int=>cm u q) B).bind (Fw.elim
 (λe=>bp (decide ((len u.events)>64))
 (some 5)
 (some 0))
 (λe=>some e))
def br (p1:Int) (u:Trace) (B:cu) (D:Int):bf (Fw Int Unit Unit):=
 bp (decide (D<p1))
 ((idx u.procs D).bind λt=>
 bp (ByteArray.toList t.name==ByteArray.toList B.name)
 (some (.r ()))
 (some (.n (IntKind.wrap .i64 (D+1)))))
 (some (.x ()))
def W1 (p1 D:Int) (B:Trace) (u:cu):bf Int:=
 (bM (λq:Int=>br p1 B u q) D).bind (Fw.elim
 (λe=>bp (decide ((len u.vars)>8))
 (some 5)
 (dM.W2 0 u))
 (λe=>some 13))
end dM
def dM (B:Trace) (p1:Int):bf Int:=
 (idx B.procs p1).bind λt=>
 (gE t.name).bind λu=>
 bp u
 (dM.W1 p1 0 B t)
 (some 13)
open dM in
instance T6 (G:Trace) (p1:Int):Fc Sy cL (dM G p1):=Fc.M 76 [enc G,.int .i64 p1] (dn 2 2 G (b9 8 λt _=>j8 2 5 0 t (bC 7 λI _=>di 3 17 (dw 11 (λC=>(bF [Iv 1 p1,Pv 2,Pv 5,Iv 6 C] [Xb 2 G,Xb 5 t])) (λz=>(0,(bF [Pv 5] [Xb 5 t]))) (λz=>(bF [Iv 4 13] [])) (λC=>bD 9 20 (b9 10 λJ _=>bD 7 31 bh bh) bh) (λz=>bR 7 t.vars (bD 3 35 bh (dw 11 (λu=>(bF [Pv 5,Iv 7 u] [Xb 5 t])) (λw=>(2,(bF [Pv 5] [Xb 5 t]))) (λw=>(bF [Iv 4 w] [])) (λu=>bR 7 t.vars (bD 3 40 (b9 11 λL _=>bC 2 λO _=>di 3 50 (dw 11 (λD=>(bF [Pv 5,Iv 7 u,Iv 8 D] [Xb 5 t])) (λB=>(4,(bF [Pv 5,Iv 7 u] [Xb 5 t]))) (λB=>(bF [Iv 4 13] [])) (λD=>bD 9 53 (b9 10 λQ _=>b9 5 λS _=>bD 5 68 bh bh) bh) (λB=>b9 7 λT _=>bC 2 λU _=>di 3 76 bh bh) (λB=>bh)) bh) bh)) (λw=>bR 7 t.events (bD 3 80 bh bh)) (λw=>bh)))) (λz=>bh)) bh)))
namespace dN
def eS (p1 G:Int) (J:Trace) (B:Event) (D:Assign) (u:Int):bf (Fw Int Unit Unit):=
 bp (decide (u<G))
 ((idx B.assign u).bind λt=>
 bp (t.var==D.var)
 (some (.r ()))
 (some (.n (IntKind.wrap .i64 (u+1)))))
 (some (.x ()))
def W3 (p1 J u:Int) (B:Trace) (D:Event) (G:Assign):bf (Fw Int Unit Int):=
 (bM (λq:Int=>eS p1 J B D G q) u).bind (Fw.elim
 (λe=>some (.n (IntKind.wrap .i64 (J+1))))
 (λe=>some (.r 8)))
def cm (p1:Int) (B:Trace) (u:Event) (G:Int):bf (Fw Int Unit Int):=
 bp (decide (G<(len u.assign)))
 ((idx u.assign G).bind λt=>
 (bp (decide (t.var<0))
 (some true)
 ((idx B.procs p1).bind λw=>
 some (decide (t.var>=(len w.vars)))):bf Bool).bind λz=>
 (bp z
 (some true)
 ((o_ t.value).bind λC=>
 some (!C)):bf Bool).bind λD=>
 bp D
 (some (.r 2))
 (W3 p1 G 0 B u t))
 (some (.x ()))
def W2 (p1 D:Int) (u:Trace) (B:Event):bf Int:=
 (bM (λq:Int=>cm p1 u B q) D).bind (Fw.elim
 (λe=>some 0)
 (λe=>some e))
def J1 (p1 i2:Int) (B:Trace) (u:Event):bf Int:=
 (bp (decide (u.time<0))
 (some true)
 (some (decide (u.time>1099511627776))):bf Bool).bind λt=>
 (bp t
 (some true)
 ((bp (decide (i2>0))
 ((idx B.procs p1).bind λw=>
 (idx w.events (IntKind.wrap .i64 (i2-1))).bind λz=>
 some (decide (u.time<z.time)))
 (some false):bf Bool).bind λC=>
 some C):bf Bool).bind λD=>
 bp D
 (some 11)
 (bp (decide ((len u.assign)>8))
 (some 5)
 (dN.W2 p1 0 B u))
theorem wz (p1 i2:Int) (B:Trace) (u:Event):Le ((J1 p1 i2 B u).bind (λr=>some [.int .i64 r])) (bX Sy cL (ql (tr Tx 77)) (tn (tb Tx 77) [1,1,1,0] [] (bF [Iv 1 p1,Iv 2 i2,Pv 3,Pv 7] [Xb 3 B,Xb 7 u]))):=
 bZ 7 4 [71] 75 (bD 7 71 (bB 4) (bB 4)) λJ=>bZ 1 19 [2,76] 95 (bD 1 76 (bB 19) (bZ 3 15 [2,79] 94 (bD 3 79 (b9 5 λL _=>b9 4 λO _=>bB 4) (bB 15)) λQ=>bB 1)) λS=>bD 2 95 bh (bR 8 u.assign (bD 3 99 bh (dw 11 (λt=>(bF [Iv 1 p1,Pv 3,Pv 7,Iv 8 t] [Xb 3 B,Xb 7 u])) (λw=>(0,(bF [] []))) (λw=>(bF [Iv 6 w] [])) (λt=>bR 7 u.assign (bD 3 104 (b9 10 λz _=>bZ 12 11 [115] 126 (bD 12 115 (bB 11) (b9 5 λG _=>bR 2 G.vars (bB 2))) λT=>CE 1 5 [130] (λC=>(bF [Iv 1 p1,Pv 3,Pv 7,Iv 8 t,Bv 104 true,Pv 9,Bv 132 C] [Xb 3 B,Xb 7 u,Xb 9 z])) (bD 1 127 (bB 5) (jT 2 λU _=>bB 2)) λC=>bD 2 132 bh (dw 10 (λI=>(bF [Iv 1 p1,Pv 3,Pv 7,Iv 8 t,Pv 9,Iv 10 I] [Xb 3 B,Xb 7 u,Xb 9 z])) (λD=>(2,(bF [Iv 1 p1,Pv 3,Pv 7,Iv 8 t] [Xb 3 B,Xb 7 u]))) (λD=>(bF [Iv 6 8] [])) (λI=>bD 9 135 (b9 10 λW _=>bD 7 146 bh bh) bh) (λD=>bh) (λD=>bh))) bh)) (λw=>bh) (λw=>bh))))
end dN
def dN (u:Trace) (p1 i2:Int):bf Int:=
 (idx u.procs p1).bind λw=>
 (idx w.events i2).bind λt=>
 bp (t.kind==1)
 ((bp (t.peer==0)
 (some (!(t.message==0)))
 (some true):bf Bool).bind λz=>
 bp z
 (some 3)
 (dN.J1 p1 i2 u t))
 ((bp (t.kind==2)
 (some false)
 (some (!(t.kind==3))):bf Bool).bind λB=>
 (bp B
 (some true)
 (some (decide (t.peer<0))):bf Bool).bind λC=>
 (bp C
 (some true)
 (some (decide (t.peer>=(len u.procs)))):bf Bool).bind λD=>
 (bp D
 (some true)
 (some (t.peer==p1)):bf Bool).bind λG=>
 (bp G
 (some true)
 (some (decide (t.message<0))):bf Bool).bind λI=>
 (bp I
 (some true)
 (some (decide (t.message>199))):bf Bool).bind λJ=>
 bp J
 (some 3)
 (dN.J1 p1 i2 u t))
open dN in
instance T3 (u:Trace) (p1 i2:Int):Fc Sy cL (dN u p1 i2):=Fc.M 77 [enc u,.int .i64 p1,.int .i64 i2] (dn 2 3 u (b9 8 λw _=>b9 3 λt _=>j8 2 7 0 t (bD 10 22 (bZ 7 4 [26] 30 (di 7 26 (bB 4) (bB 4)) λz=>bD 2 30 bh (Aw 4 (wz p1 i2 u t))) (bZ 7 4 [34] 38 (di 7 34 (bB 4) (bB 4)) λB=>bZ 1 4 [39] 43 (bD 1 39 (bB 4) (bB 4)) λC=>bZ 1 7 [44] 51 (bD 1 44 (bB 7) (bR 4 u.procs (bB 2))) λD=>bZ 1 5 [52] 57 (bD 1 52 (bB 5) (bB 5)) λG=>bZ 1 4 [58] 62 (bD 1 58 (bB 4) (bB 4)) λI=>bZ 1 4 [63] 67 (bD 1 63 (bB 4) (bB 4)) λJ=>bD 2 67 bh (Aw 4 (wz p1 i2 u t))))))
def uA (D:Trace) (B:bg):bf Event:=
 (idx D.procs B.proc).bind λt=>
 (idx t.events (IntKind.wrap .i64 (B.index-1))).bind λu=>
 some u
instance V2 (u:Trace) (B:bg):Fc Sy cL (uA u B):=Fc.N 107 [enc u,enc B] (dn 2 2 u (b9 10 λw _=>b9 5 λt _=>j8 1 4 0 t bh))
namespace dF
def cm (u D p7:Int) (B:Trace) (G:bg) (i8:Int):bf (Fw Int Unit bg):=
 (idx B.procs p7).bind λw=>
 bp (decide (i8<(len w.events)))
 ((idx B.procs p7).bind λz=>
 (idx z.events i8).bind λt=>
 (bp (t.kind==u)
 (some (t.message==D))
 (some false):bf Bool).bind λC=>
 bp C
 (some (.r (⟨p7,IntKind.wrap .i64 (i8+1)⟩:bg)))
 (some (.n (IntKind.wrap .i64 (i8+1)))))
 (some (.x ()))
def W2 (u G p7 i8:Int) (B:Trace) (D:bg):bf (Fw Int Unit bg):=
 (bM (λq:Int=>cm u G p7 B D q) i8).bind (Fw.elim
 (λe=>some (.n (IntKind.wrap .i64 (p7+1))))
 (λe=>some (.r e)))
def br (u G:Int) (B:Trace) (D:bg) (p7:Int):bf (Fw Int Unit bg):=
 bp (decide (p7<(len B.procs)))
 (W2 u G p7 0 B D)
 (some (.x ()))
def W1 (u G p7:Int) (B:Trace) (D:bg):bf bg:=
 (bM (λq:Int=>br u G B D q) p7).bind (Fw.elim
 (λe=>some ⟨0,0⟩)
 (λe=>some e))
end dF
def dF (B:Trace) (u D:Int):bf bg:=
 dF.W1 u D 0 B (⟨0,0⟩:bg)
open dF in
instance TY (B:Trace) (u D:Int):Fc Sy cL (dF B u D):=Fc.M 108 [enc B,.int .i64 u,.int .i64 D] (dn 2 3 B (dw 11 (λt=>(bF [Iv 1 u,Iv 2 D,Pv 3,Pv 6,Iv 7 t] [Xb 3 B,Xb 6 (⟨0,0⟩:bg)])) (λw=>(0,(bF [Pv 6] [Xb 6 (⟨0,0⟩:bg)]))) (λw=>(bF [Pv 6] [Xb 6 w])) (λt=>bR 7 B.procs (bD 3 14 (dw 12 (λC=>(bF [Iv 1 u,Iv 2 D,Pv 3,Pv 6,Iv 7 t,Iv 8 C] [Xb 3 B,Xb 6 (⟨0,0⟩:bg)])) (λz=>(2,(bF [Iv 1 u,Iv 2 D,Pv 3,Pv 6,Iv 7 t] [Xb 3 B,Xb 6 (⟨0,0⟩:bg)]))) (λz=>(bF [Pv 6] [Xb 6 z])) (λC=>b9 8 λG _=>bR 2 G.events (bD 3 25 (b9 10 λJ _=>b9 3 λI _=>j8 2 9 0 I (bZ 9 5 [9,41] 46 (bD 9 41 (bB 5) (bB 5)) λL=>bD 2 46 bh bh)) bh)) (λz=>bh) (λz=>bh)) bh)) (λw=>bh) (λw=>bh)))
namespace g_
def br (D:Trace) (G:bg) (B:Event) (u:Bool) (J:Int):bf (Fw (Bool×Int) Bool Empty):=
 (idx D.procs B.peer).bind λw=>
 bp (decide (J<(len w.events)))
 ((idx D.procs B.peer).bind λz=>
 (idx z.events J).bind λt=>
 (bp u
 (some true)
 ((bp (t.kind==2)
 (some (t.message==B.message))
 (some false):bf Bool).bind λC=>
 (bp C
 (some (t.peer==G.proc))
 (some false):bf Bool).bind λI=>
 some I):bf Bool).bind λL=>
 some (.n (L,IntKind.wrap .i64 (J+1))))
 (some (.x u))
def W1 (u:Bool) (J:Int) (B:Trace) (D:bg) (G:Event):bf Int:=
 (bM (λq:Bool×Int=>br B D G q.1 q.2) (u,J)).bind (Fw.elim
 (λe=>bp e
 (some 0)
 (some 7))
 (λe=>Empty.elim e))
end g_
def g_ (u:Trace) (B:bg):bf Int:=
 (uA u B).bind λt=>
 bp (t.kind==1)
 (some 0)
 ((dF u t.kind t.message).bind λw=>
 bp (J_ w B)
 (bp (t.kind==3)
 (g_.W1 false 0 u B t)
 (some 0))
 (some 8))
open g_ in
instance Rb (B:Trace) (D:bg):Fc Sy cL (g_ B D):=Fc.M 78 [enc B,enc D] (dn 2 2 B (bC 8 λu _=>j8 1 5 0 u (bD 10 14 bh (jT 11 λG _=>di 4 22 (bD 11 25 (je 14 (λt=>(bF [Pv 2,Pv 3,Pv 5,Bv 6 t.1,Iv 7 t.2] [Xb 2 B,Xb 3 D,Xb 5 u])) (λw=>(0,(bF [Bv 6 w] []))) (λt=>b9 9 λz _=>bR 2 z.events (bD 3 35 (b9 11 λI _=>b9 3 λC _=>j8 2 8 0 C (bZ 5 18 [8,49] 67 (bD 5 49 (bB 18) (bZ 4 6 [53] 59 (bD 4 53 (bB 6) (bB 6)) λJ=>bZ 1 6 [8,60] 66 (bD 1 60 (bB 6) (bB 6)) λL=>bB 1)) λO=>bh)) bh)) (λw=>di 8 69 bh bh)) bh) bh))))
namespace dQ
def J4 (u:Sl Int) (p5:Int) (D:Trace):bf (Fw ((Sl Int)×Bool) ((Sl Int)×Bool) Empty):=
 (Sl.j7 u p5).bind λt=>
 (Sl.get u t).bind λw=>
 (Sl.j7 u p5).bind λz=>
 (Sl.put u z (IntKind.wrap .i64 (w+1):Int)).bind λB=>
 some (.n (B,true))
def eS (p5:Int) (D:Trace) (u:Sl Int) (B:Bool):bf (Fw ((Sl Int)×Bool) ((Sl Int)×Bool) Empty):=
 (Sl.j7 u p5).bind λG=>
 (Sl.get u G).bind λI=>
 (idx D.procs p5).bind λJ=>
 bp (decide (I<(len J.events)))
 ((idx D.procs p5).bind λL=>
 (Sl.j7 u p5).bind λO=>
 (Sl.get u O).bind λQ=>
 (idx L.events Q).bind λt=>
 bp (t.kind==3)
 ((dF D 2 t.message).bind λw=>
 (Sl.j7 u w.proc).bind λz=>
 (Sl.get u z).bind λC=>
 bp (decide (C<w.index))
 (some (.x (u,B)))
 (J4 u p5 D))
 (J4 u p5 D))
 (some (.x (u,B)))
def W3 (B:Sl Int) (u:Bool) (p5:Int) (D:Trace):bf (Fw ((Sl Int)×Bool×Int) ((Sl Int)×Bool) Empty):=
 (bM (λq:(Sl Int)×Bool=>eS p5 D q.1 q.2) (B,u)).bind (Fw.elim
 (λe=>some (.n (e.1,e.2,IntKind.wrap .i64 (p5+1))))
 (λe=>Empty.elim e))
def cm (D:Trace) (B:Sl Int) (u:Bool) (p5:Int):bf (Fw ((Sl Int)×Bool×Int) ((Sl Int)×Bool) Empty):=
 bp (decide (p5<(len D.procs)))
 (W3 B u p5 D)
 (some (.x (B,u)))
def W2 (B:Sl Int) (u:Bool) (p5:Int) (D:Trace):bf (Fw (Sl Int) (Sl Int) Empty):=
 (bM (λq:(Sl Int)×Bool×Int=>cm D q.1 q.2.1 q.2.2) (B,u,p5)).bind (Fw.elim
 (λe=>bp e.2
 (some (.n e.1))
 (some (.x e.1)))
 (λe=>Empty.elim e))
def xK (u:Sl Int) (B:Trace) (D:Int):bf (Fw Int Unit Unit):=
 bp (decide (D<(len B.procs)))
 ((Sl.j7 u D).bind λt=>
 (Sl.get u t).bind λw=>
 (idx B.procs D).bind λz=>
 bp (decide (w<(len z.events)))
 (some (.r ()))
 (some (.n (IntKind.wrap .i64 (D+1)))))
 (some (.x ()))
def W5 (u:Sl Int) (D:Int) (B:Trace):bf Bool:=
 (bM (λq:Int=>xK u B q) D).bind (Fw.elim
 (λe=>some true)
 (λe=>some false))
def br (B:Trace) (u:Sl Int):bf (Fw (Sl Int) (Sl Int) Empty):=
 W2 u false 0 B
def W1 (u:Sl Int) (B:Trace):bf Bool:=
 (bM (λq:Sl Int=>br B q) u).bind (Fw.elim
 (λe=>dQ.W5 e 0 B)
 (λe=>Empty.elim e))
end dQ
def dQ (u:Trace):bf Bool:=
 (kX (len u.procs) (0:Int)).bind λt=>
 dQ.W1 t u
open dQ in
instance Qy (u:Trace):Fc Sy cL (dQ u):=Fc.M 79 [enc u] (dn 2 1 u (bR 7 u.procs (GC 0 12 λad _=>je 7 (λL=>(bF [Pv 1,Ov 3] [Xb 1 u,Lb 2003 L])) (λC=>(0,(bF [Pv 1,Ov 3] [Xb 1 u,Lb 2003 C]))) (λL=>je 17 (λw=>(bF [Pv 1,Ov 3,Bv 4 w.2.1,Iv 5 w.2.2] [Xb 1 u,Lb 2003 w.1])) (λD=>(2,(bF [Pv 1,Ov 3,Bv 4 D.2] [Xb 1 u,Lb 2003 D.1]))) (λw=>bR 8 u.procs (bD 3 17 (je 8 (λG=>(bF [Pv 1,Ov 3,Bv 4 G.2,Iv 5 w.2.2] [Xb 1 u,Lb 2003 G.1])) (λI=>(4,(bF [Pv 1,Ov 3,Bv 4 I.2,Iv 5 w.2.2] [Xb 1 u,Lb 2003 I.1]))) (λG=>mL .i64 7 2003 λae _=>tu 0 2003 0 1 false (λO=>.int .i64 O) λO _=>b9 3 λY _=>bR 2 Y.events (bD 3 31 (b9 9 λaf _=>mL .i64 4 2003 λah _=>tu 0 2003 0 1 false (λQ=>.int .i64 Q) λQ _=>b9 0 λZ _=>j8 2 6 0 Z (bD 10 46 (bC 6 λai _=>mL .i64 9 2003 λaa _=>tu 0 2003 0 1 false (λz=>.int .i64 z) λz _=>bD 5 58 bh (zp 5 (mL .i64 4 2003 λS _=>tu 0 2003 0 1 false (λt=>.int .i64 t) λt _=>mL .i64 1 2003 λT _=>Ep 0 2003 (.int .i64 (IntKind.wrap .i64 (t+1))) λU _=>bh))) (zp 5 (mL .i64 4 2003 λS _=>tu 0 2003 0 1 false (λt=>.int .i64 t) λt _=>mL .i64 1 2003 λT _=>Ep 0 2003 (.int .i64 (IntKind.wrap .i64 (t+1))) λU _=>bh)))) bh)) (λI=>bh)) bh)) (λD=>di 8 66 bh bh)) (λC=>dw 11 (λW=>(bF [Pv 1,Ov 3,Iv 8 W] [Xb 1 u,Lb 2003 C])) (λJ=>(6,(bF [] []))) (λJ=>(bF [Bv 2 false] [])) (λW=>bR 8 u.procs (bD 3 71 (mL .i64 9 2003 λab _=>tu 0 2003 0 1 false (λB=>.int .i64 B) λB _=>b9 3 λX _=>bR 2 X.events (bD 3 85 bh bh)) bh)) (λJ=>bh) (λJ=>bh)))))
namespace dm
def J1 (u:Sl bg) (B:Trace) (D:bg):bf (Sl bg):=
 (uA B D).bind λt=>
 bp (t.kind==3)
 ((dF B 2 t.message).bind λw=>
 (eT u (w:bg)).bind λz=>
 some z)
 (some u)
end dm
def dm (B:Trace) (u:bg):bf (Sl bg):=
 bp (decide (u.index>1))
 (dm.J1 (Sl.row [⟨u.proc,IntKind.wrap .i64 (u.index-1)⟩]:Sl bg) B u)
 (dm.J1 (Sl.nil:Sl bg) B u)
open dm in
theorem rY (B:Trace) (u:bg):z_ Sy cL 109 (λ_:Unit=>[enc B,enc u]) (λ_=>dm B u):=z_.mk' (qz (Tx 109)) (λ_=>dn 2 2 B (bD 17 9 (RL 10 17 18 .bN (⟨u.proc,IntKind.wrap .i64 (u.index-1)⟩:bg) (zp 5 (bC 4 λt _=>j8 1 6 0 t (bD 10 24 (bC 6 λw _=>vH 1 2005 30 31 λz _=>bh) bh)))) (zp 5 (bC 4 λt _=>j8 1 6 0 t (bD 10 24 (bC 6 λw _=>vH 1 2005 30 31 λz _=>bh) bh)))))
namespace fB
def eS (G:Sl (Sl Bool)) (u:Sl bg) (J:Trace) (B:Sl bg) (D:Int):bf (Fw ((Sl bg)×Int) (Sl bg) Empty):=
 bp (decide (D<(len u)))
 ((Sl.j7 u D).bind λt=>
 (Sl.get u t).bind λw=>
 (eT B (w:bg)).bind λz=>
 some (.n (z,IntKind.wrap .i64 (D+1))))
 (some (.x B))
def W3 (u:Sl (Sl Bool)) (B D:Sl bg) (G:Int) (J:Trace):bf (Fw ((Sl (Sl Bool))×(Sl bg)) (Sl (Sl Bool)) Empty):=
 (bM (λq:(Sl bg)×Int=>eS u D J q.1 q.2) (B,G)).bind (Fw.elim
 (λe=>some (.n (u,e)))
 (λe=>Empty.elim e))
def cm (D:Trace) (B:Sl (Sl Bool)) (u:Sl bg):bf (Fw ((Sl (Sl Bool))×(Sl bg)) (Sl (Sl Bool)) Empty):=
 bp (decide ((len u)>0))
 ((Sl.j7 u 0).bind λT=>
 (Sl.get u T).bind λt=>
 (kO u (some 1) none).bind λG=>
 ((idx B t.proc).bind Sl.whole).bind λC=>
 (Sl.j7 C t.index).bind λI=>
 (Sl.get C I).bind λJ=>
 (Sl.whole C).bind λw=>
 bp J
 (some (.n (jG B t.proc w,G)))
 (((idx (jG B t.proc w) t.proc).bind Sl.whole).bind λz=>
 (Sl.j7 z t.index).bind λL=>
 (Sl.put z L (true:Bool)).bind λO=>
 (Sl.whole O).bind λQ=>
 ((dm D t).bind Sl.whole).bind λS=>
 W3 (jG (jG B t.proc w) t.proc Q) G S 0 D))
 (some (.x B))
def W2 (B:Sl (Sl Bool)) (u:Sl bg) (D:Trace):bf (Sl (Sl Bool)):=
 (bM (λq:(Sl (Sl Bool))×(Sl bg)=>cm D q.1 q.2) (B,u)).bind (Fw.elim
 (λe=>some e)
 (λe=>Empty.elim e))
def br (B:Trace) (D:bg) (u:Sl (Sl Bool)) (p6:Int):bf (Fw ((Sl (Sl Bool))×Int) (Sl (Sl Bool)) Empty):=
 bp (decide (p6<(len B.procs)))
 ((idx B.procs p6).bind λt=>
 (kX (IntKind.wrap .i64 ((len t.events)+1)) (false:Bool)).bind λw=>
 (Sl.whole w).bind λz=>
 (eT u (z:Sl Bool)).bind λC=>
 some (.n (C,IntKind.wrap .i64 (p6+1))))
 (some (.x u))
def W1 (B:Sl (Sl Bool)) (p6:Int) (u:Trace) (D:bg):bf (Sl (Sl Bool)):=
 (bM (λq:(Sl (Sl Bool))×Int=>br u D q.1 q.2) (B,p6)).bind (Fw.elim
 (λe=>((dm u D).bind Sl.whole).bind λt=>
 fB.W2 e t u)
 (λe=>Empty.elim e))
end fB
def fB (u:Trace) (B:bg):bf (Sl (Sl Bool)):=
 fB.W1 (Sl.nil:Sl (Sl Bool)) 0 u B
open fB in
instance TW (B:Trace) (T:bg):Fc Sy cL (fB B T):=Fc.N 80 [enc B,enc T] (dn 2 2 B (je 19 (λJ=>(bF [Pv 2,Pv 3,Ov 5,Iv 6 J.2] [Xb 2 B,Xb 3 T,(2005,ko J.1)])) (λQ=>(0,(bF [Pv 2,Pv 3,Ov 5] [Xb 2 B,Xb 3 T,(2005,ko Q)]))) (λJ=>bR 9 B.procs (bD 3 15 (b9 10 λW _=>bR 2 W.events (GC 1 27 λaf _=>Uf (α:=Bool) 0 28 27 (AI 0 28 27 U3 λah _=>WJ 0 2005 28 29 λai _=>bh))) bh)) (λQ=>Lj 6 32 (rY B T) () λX _=>je 9 (λu=>(bF [Pv 2,Ov 5,Ov 7] [Xb 2 B,(2005,ko u.1),Lb 2007 u.2])) (λS=>(2,(bF [Ov 5] [(2005,ko S)]))) (λu=>wA 8 2007 u.2 (bD 3 35 (mL .i64 7 2007 λaj _=>tu 0 2007 0 2 true (λt=>.agg [.int .i64 t.proc,.int .i64 t.index]) λt _=>QV 7 true false 2007 40 [.int .i64 1] λak _=>zx 5 2005 6041 (.c 8 0) λal L=>Gk 5 2005 6041 .i64 L (Hq 0 2005 6041 L (mL .i64 2 6041 λY _=>tu 0 6041 0 1 false (λC=>.bool C) λC _=>AI 1 2005 6041 L λD _=>bD 1 49 bh (zx 4 2005 6050 (.c 8 0) λZ w=>Gk 5 2005 6050 .i64 w (Hq 0 2005 6050 w (mL .i64 2 6050 λaa _=>Ep 0 6050 (.bool true) λab _=>AI 1 2005 6050 w λG _=>Lj 5 60 (rY B t) () λI _=>je 14 (λO=>(bF [Pv 2,Ov 5,Ov 7,Ov 9,Iv 10 O.2] [Xb 2 B,(2005,ko (jG (jG u.1 t.proc D) t.proc G)),Lb 2007 O.1,Lb 2009 I])) (λU=>(4,(bF [Pv 2,Ov 5,Ov 7] [Xb 2 B,(2005,ko (jG (jG u.1 t.proc D) t.proc G)),Lb 2007 U]))) (λO=>wA 10 2009 I (bD 3 64 (mL .i64 9 2009 λad _=>tu 0 2009 0 2 true (λz=>.agg [.int .i64 z.proc,.int .i64 z.index]) λz _=>vH 1 2007 72 73 λae _=>bh) bh)) (λU=>bh))))))) bh)) (λS=>bh))))
namespace cW
def eS (p6:Int) (u:Trace) (D:bg) (B:Int):bf (Fw Int Unit (Int×bg)):=
 (idx u.procs p6).bind λw=>
 bp (decide (B<(len w.events)))
 ((dN u p6 B).bind λt=>
 bp (t==0)
 (some (.n (IntKind.wrap .i64 (B+1))))
 (some (.r (t,(⟨p6,IntKind.wrap .i64 (B+1)⟩:bg)))))
 (some (.x ()))
def W3 (p6 D:Int) (u:Trace) (B:bg):bf (Fw Int Unit (Int×bg)):=
 (bM (λq:Int=>eS p6 u B q) D).bind (Fw.elim
 (λe=>some (.n (IntKind.wrap .i64 (p6+1))))
 (λe=>some (.r (e.1,e.2))))
def xK (D:Int) (B:Trace) (G:bg) (u:Int):bf (Fw Int Unit (Int×bg)):=
 (idx B.procs D).bind λw=>
 bp (decide (u<(len w.events)))
 ((g_ B (⟨D,IntKind.wrap .i64 (u+1)⟩:bg)).bind λt=>
 bp (t==0)
 (some (.n (IntKind.wrap .i64 (u+1))))
 (some (.r (t,(⟨D,IntKind.wrap .i64 (u+1)⟩:bg)))))
 (some (.x ()))
def W5 (G u:Int) (B:Trace) (D:bg):bf (Fw Int Unit (Int×bg)):=
 (bM (λq:Int=>xK G B D q) u).bind (Fw.elim
 (λe=>some (.n (IntKind.wrap .i64 (G+1))))
 (λe=>some (.r (e.1,e.2))))
def Kb (B:Int) (D:Trace) (G:bg) (u:Int):bf (Fw Int Unit bg):=
 (idx D.procs B).bind λw=>
 bp (decide (u<(len w.events)))
 ((fB D (⟨B,IntKind.wrap .i64 (u+1)⟩:bg)).bind λz=>
 (idx z B).bind λC=>
 (idx C (IntKind.wrap .i64 (u+1))).bind λt=>
 bp t
 (some (.r (⟨B,IntKind.wrap .i64 (u+1)⟩:bg)))
 (some (.n (IntKind.wrap .i64 (u+1)))))
 (some (.x ()))
def W7 (u B:Int) (D:Trace) (G:bg):bf (Fw Int Unit bg):=
 (bM (λq:Int=>Kb u D G q) B).bind (Fw.elim
 (λe=>some (.n (IntKind.wrap .i64 (u+1))))
 (λe=>some (.r e)))
def Js (u:Trace) (D:bg) (B:Int):bf (Fw Int Unit bg):=
 bp (decide (B<(len u.procs)))
 (W7 B 0 u D)
 (some (.x ()))
def W6 (u:Int) (B:Trace) (D:bg):bf (bg×Int):=
 (bM (λq:Int=>Js B D q) u).bind (Fw.elim
 (λe=>some (⟨0,0⟩,0))
 (λe=>some (e,10)))
def JB (u:Trace) (B:bg) (D:Int):bf (Fw Int Unit (Int×bg)):=
 bp (decide (D<(len u.procs)))
 (W5 D 0 u B)
 (some (.x ()))
def W4 (D:Int) (u:Trace) (B:bg):bf (bg×Int):=
 (bM (λq:Int=>JB u B q) D).bind (Fw.elim
 (λe=>(dQ u).bind λt=>
 bp t
 (some (⟨0,0⟩,0))
 (cW.W6 0 u B))
 (λe=>some (e.2,e.1)))
def cm (u:Trace) (B:bg) (p6:Int):bf (Fw Int Unit (Int×bg)):=
 bp (decide (p6<(len u.procs)))
 (W3 p6 0 u B)
 (some (.x ()))
def W2 (p6:Int) (u:Trace) (B:bg):bf (bg×Int):=
 (bM (λq:Int=>cm u B q) p6).bind (Fw.elim
 (λe=>cW.W4 0 u B)
 (λe=>some (e.2,e.1)))
def br (u:Trace) (B:bg) (p4:Int):bf (Fw Int Unit (Int×bg)):=
 bp (decide (p4<(len u.procs)))
 ((dM u p4).bind λt=>
 bp (t==0)
 (some (.n (IntKind.wrap .i64 (p4+1))))
 (some (.r (t,(⟨p4,0⟩:bg)))))
 (some (.x ()))
def W1 (p4:Int) (u:Trace) (B:bg):bf (bg×Int):=
 (bM (λq:Int=>br u B q) p4).bind (Fw.elim
 (λe=>cW.W2 0 u B)
 (λe=>some (e.2,e.1)))
end cW
def cW (u:Trace):bf (bg×Int):=
 (bp (decide ((len u.procs)<1))
 (some true)
 (some (decide ((len u.procs)>8))):bf Bool).bind λt=>
 bp t
 (some (⟨0,0⟩,1))
 (cW.W1 0 u (⟨0,0⟩:bg))
open cW in
instance S8 (u:Trace):Fc Sy cL (cW u):=Fc.M 55 [enc u] (dn 2 1 u (bR 9 u.procs (bZ 2 5 [20] 25 (bD 2 20 (bB 5) (bR 2 u.procs (bB 2))) λaa=>bD 2 25 bh (dw 11 (λO=>(bF [Pv 1,Pv 2,Iv 4 O] [Xb 1 u,Xb 2 (⟨0,0⟩:bg)])) (λt=>(0,(bF [Pv 1,Pv 2] [Xb 1 u,Xb 2 (⟨0,0⟩:bg)]))) (λt=>(bF [Pv 2,Iv 3 t.1] [Xb 2 t.2])) (λO=>bR 7 u.procs (bD 3 31 (bC 9 λab _=>di 9 38 bh bh) bh)) (λt=>dw 10 (λD=>(bF [Pv 1,Pv 2,Iv 6 D] [Xb 1 u,Xb 2 (⟨0,0⟩:bg)])) (λw=>(2,(bF [Pv 1,Pv 2] [Xb 1 u,Xb 2 (⟨0,0⟩:bg)]))) (λw=>(bF [Pv 2,Iv 3 w.1] [Xb 2 w.2])) (λD=>bR 7 u.procs (bD 3 46 (dw 12 (λQ=>(bF [Pv 1,Pv 2,Iv 6 D,Iv 7 Q] [Xb 1 u,Xb 2 (⟨0,0⟩:bg)])) (λz=>(4,(bF [Pv 1,Pv 2,Iv 6 D] [Xb 1 u,Xb 2 (⟨0,0⟩:bg)]))) (λz=>(bF [Pv 2,Iv 3 z.1] [Xb 2 z.2])) (λQ=>b9 8 λU _=>bR 2 U.events (bD 3 57 (bC 10 λad _=>di 9 65 bh bh) bh)) (λz=>bh) (λz=>bh)) bh)) (λw=>dw 10 (λG=>(bF [Pv 1,Pv 2,Iv 9 G] [Xb 1 u,Xb 2 (⟨0,0⟩:bg)])) (λB=>(6,(bF [Pv 1,Pv 2] [Xb 1 u,Xb 2 (⟨0,0⟩:bg)]))) (λB=>(bF [Pv 2,Iv 3 B.1] [Xb 2 B.2])) (λG=>bR 7 u.procs (bD 3 75 (dw 12 (λS=>(bF [Pv 1,Pv 2,Iv 9 G,Iv 10 S] [Xb 1 u,Xb 2 (⟨0,0⟩:bg)])) (λC=>(8,(bF [Pv 1,Pv 2,Iv 9 G] [Xb 1 u,Xb 2 (⟨0,0⟩:bg)]))) (λC=>(bF [Pv 2,Iv 3 C.1] [Xb 2 C.2])) (λS=>b9 8 λW _=>bR 2 W.events (bD 3 86 (bC 19 λae _=>di 9 97 bh bh) bh)) (λC=>bh) (λC=>bh)) bh)) (λB=>bC 6 λY _=>bD 2 101 bh (dw 11 (λI=>(bF [Pv 1,Pv 2,Iv 13 I] [Xb 1 u,Xb 2 (⟨0,0⟩:bg)])) (λJ=>(10,(bF [Pv 2] [Xb 2 (⟨0,0⟩:bg)]))) (λJ=>(bF [Pv 2,Iv 3 10] [Xb 2 J])) (λI=>bR 7 u.procs (bD 3 107 (dw 12 (λT=>(bF [Pv 1,Pv 2,Iv 13 I,Iv 14 T] [Xb 1 u,Xb 2 (⟨0,0⟩:bg)])) (λL=>(12,(bF [Pv 1,Pv 2,Iv 13 I] [Xb 1 u,Xb 2 (⟨0,0⟩:bg)]))) (λL=>(bF [Pv 2,Iv 3 10] [Xb 2 L])) (λT=>b9 8 λX _=>bR 2 X.events (bD 3 118 (bC 19 λaf _=>b9 1 λah _=>b9 3 λZ _=>bD 3 134 bh bh) bh)) (λL=>bh) (λL=>bh)) bh)) (λJ=>bh) (λJ=>bh))) (λB=>bh)) (λw=>bh)) (λt=>bh)))))
def nG (u:Trace):bf Bool:=
 (cW u).bind λt=>
 some (t.2==0)
instance SN (u:Trace):Fc Sy cL (nG u):=Fc.M 27 [enc u] (dn 2 1 u (bC 6 λt _=>bh))
def qp (D:Sl Int) (p1:Int):bf (Sl Int):=
 (mI (Sl.row []:Sl Int) D).bind λt=>
 (Sl.j7 t p1).bind λu=>
 (Sl.get t u).bind λw=>
 (Sl.j7 t p1).bind λz=>
 (Sl.put t z (IntKind.wrap .i64 (w+1):Int)).bind λB=>
 some B
instance TN (u:Sl Int) (p1:Int):Fc Sy cL (qp u p1):=Fc.N 82 [enc u,.int .i64 p1] (Aj 9 6 8 λw _=>mL .i64 9 8 λz _=>tu 0 8 0 1 false (λt=>.int .i64 t) λt _=>mL .i64 1 8 λB _=>Ep 0 8 (.int .i64 (IntKind.wrap .i64 (t+1))) λC _=>bh)
namespace me
def br (u:Sl Int) (B:Trace) (p5:Int):bf (Fw Int Unit Unit):=
 bp (decide (p5<(len u)))
 ((idx u p5).bind λt=>
 (bp (decide (t<0))
 (some true)
 ((idx u p5).bind λw=>
 (idx B.procs p5).bind λz=>
 some (decide (w>(len z.events)))):bf Bool).bind λC=>
 bp C
 (some (.r ()))
 (some (.n (IntKind.wrap .i64 (p5+1)))))
 (some (.x ()))
def W1 (u:Sl Int) (p5:Int) (B:Trace):bf Bool:=
 (bM (λq:Int=>br u B q) p5).bind (Fw.elim
 (λe=>some true)
 (λe=>some false))
end me
def me (B:Trace) (u:Sl Int):bf Bool:=
 bp ((len u)==(len B.procs))
 (me.W1 u 0 B)
 (some false)
open me in
instance UJ (B:Trace) (u:Sl Int):Fc Sy cL (me B u):=Fc.M 110 [enc B,enc u] (dn 2 2 B (bR 7 u (bR 2 B.procs (di 3 11 (dw 11 (λw=>(bF [Cv 1 u,Pv 2,Iv 5 w] [Xb 2 B])) (λt=>(0,(bF [] []))) (λt=>(bF [Bv 4 false] [])) (λw=>bR 6 u (bD 3 15 (b9 9 λC _=>bZ 3 13 [23] 36 (bD 3 23 (bB 13) (b9 2 λD _=>b9 4 λz _=>bR 2 z.events (bB 2))) λG=>bD 2 36 bh bh) bh)) (λt=>bh) (λt=>bh)) bh))))
namespace dD
def cm (u:Sl Int) (p5:Int) (B:Trace) (D:Int):bf (Fw Int Unit Unit):=
 (idx u p5).bind λz=>
 bp (decide (D<z))
 ((idx B.procs p5).bind λC=>
 (idx C.events D).bind λt=>
 bp (t.kind==3)
 ((dF B 2 t.message).bind λw=>
 (idx u w.proc).bind λG=>
 bp (decide (w.index>G))
 (some (.r ()))
 (some (.n (IntKind.wrap .i64 (D+1)))))
 (some (.n (IntKind.wrap .i64 (D+1)))))
 (some (.x ()))
def W2 (u:Sl Int) (p5 D:Int) (B:Trace):bf (Fw Int Unit Unit):=
 (bM (λq:Int=>cm u p5 B q) D).bind (Fw.elim
 (λe=>some (.n (IntKind.wrap .i64 (p5+1))))
 (λe=>some (.r ())))
def br (u:Sl Int) (B:Trace) (p5:Int):bf (Fw Int Unit Unit):=
 bp (decide (p5<(len u)))
 (W2 u p5 0 B)
 (some (.x ()))
def W1 (u:Sl Int) (p5:Int) (B:Trace):bf Bool:=
 (bM (λq:Int=>br u B q) p5).bind (Fw.elim
 (λe=>some true)
 (λe=>some false))
end dD
def dD (B:Trace) (u:Sl Int):bf Bool:=
 dD.W1 u 0 B
open dD in
instance Ma (B:Trace) (u:Sl Int):Fc Sy cL (dD B u):=Fc.M 111 [enc B,enc u] (dn 2 2 B (dw 11 (λt=>(bF [Cv 1 u,Pv 2,Iv 5 t] [Xb 2 B])) (λw=>(0,(bF [] []))) (λw=>(bF [Bv 4 false] [])) (λt=>bR 6 u (bD 3 12 (dw 12 (λC=>(bF [Cv 1 u,Pv 2,Iv 5 t,Iv 6 C] [Xb 2 B])) (λz=>(2,(bF [Cv 1 u,Pv 2,Iv 5 t] [Xb 2 B]))) (λz=>(bF [Bv 4 false] [])) (λC=>b9 7 λG _=>bD 4 20 (b9 10 λI _=>b9 3 λD _=>j8 2 7 0 D (bD 9 34 (bC 6 λJ _=>b9 11 λL _=>bD 4 46 bh bh) bh)) bh) (λz=>bh) (λz=>bh)) bh)) (λw=>bh) (λw=>bh)))
def wM (B:Trace) (D:Sl Int):bf Bool:=
 (me B D).bind λt=>
 (bp t
 ((dD B D).bind λu=>
 some u)
 (some false):bf Bool).bind λw=>
 some w
instance VV (u:Trace) (B:Sl Int):Fc Sy cL (wM u B):=Fc.M 81 [enc u,enc B] (dn 2 2 u (bC 7 λt _=>bZ 1 4 [1,2,8] 12 (bD 1 8 (bC 2 λw _=>bB 1) (bB 4)) λz=>bh))
namespace iN
def br (D:Sl Int) (B:Trace) (u:Sl (Sl Int)) (p6:Int):bf (Fw ((Sl (Sl Int))×Int) (Sl (Sl Int)) Empty):=
 bp (decide (p6<(len D)))
 ((idx D p6).bind λt=>
 (idx B.procs p6).bind λw=>
 (bp (decide (t<(len w.events)))
 ((qp D p6).bind λz=>
 (wM B z).bind λC=>
 some C)
 (some false):bf Bool).bind λG=>
 bp G
 ((qp D p6).bind λI=>
 (eT u (I:Sl Int)).bind λJ=>
 some (.n (J,IntKind.wrap .i64 (p6+1))))
 (some (.n (u,IntKind.wrap .i64 (p6+1)))))
 (some (.x u))
def W1 (D:Sl Int) (u:Sl (Sl Int)) (p6:Int) (B:Trace):bf (Sl (Sl Int)):=
 (bM (λq:(Sl (Sl Int))×Int=>br D B q.1 q.2) (u,p6)).bind (Fw.elim
 (λe=>some e)
 (λe=>Empty.elim e))
end iN
def iN (u:Trace) (B:Sl Int):bf (Sl (Sl Int)):=
 iN.W1 B (Sl.nil:Sl (Sl Int)) 0 u
open iN in
instance TO (u:Trace) (B:Sl Int):Fc Sy cL (iN u B):=Fc.N 56 [enc u,enc B] (dn 2 2 u (je 17 (λt=>(bF [Cv 1 B,Pv 2,Ov 5,Iv 6 t.2] [Xb 2 u,Lb 2005 t.1])) (λw=>(0,(bF [Ov 5] [Lb 2005 w]))) (λt=>bR 7 B (bD 3 10 (b9 9 λG _=>b9 4 λC _=>bR 2 C.events (CE 2 6 [30,29] (λz=>(bF [Cv 1 B,Pv 2,Ov 5,Iv 6 t.2,Bv 10 true,Bv 31 z] [Xb 2 u,Lb 2005 t.1])) (bD 2 25 (bC 3 λI _=>jT 0 λJ _=>bB 1) (bB 6)) λz=>bD 2 31 (bC 5 λD _=>Bg 0 36 ([D]:a_ (Sl Int)) (vH 0 2005 36 37 λL _=>bh)) bh)) bh)) (λw=>bh)))
namespace f_
def br (u:Sl Int) (B i4:Int):bf (Fw (Int×Int) Int Empty):=
 bp (decide (i4<(len u)))
 ((idx u i4).bind λt=>
 some (.n (IntKind.wrap .i64 (B+t),IntKind.wrap .i64 (i4+1))))
 (some (.x B))
def W1 (u:Sl Int) (B i4:Int):bf Int:=
 (bM (λq:Int×Int=>br u q.1 q.2) (B,i4)).bind (Fw.elim
 (λe=>some e)
 (λe=>Empty.elim e))
end f_
def f_ (u:Sl Int):bf Int:=
 f_.W1 u 0 0
open f_ in
instance TP (B:Sl Int):Fc Sy cL (f_ B):=Fc.M 112 [enc B] (je 18 (λt=>(bF [Cv 0 B,Iv 3 t.1,Iv 4 t.2] [])) (λu=>(0,(bF [Iv 3 u] []))) (λt=>bR 6 B (bD 3 8 (b9 9 λw _=>bh) bh)) (λu=>bh))
namespace gC
def br (a0 D:Sl Int) (u:Int):bf (Fw Int Unit Bool):=
 bp (decide (u<(len a0)))
 ((idx a0 u).bind λt=>
 (idx D u).bind λw=>
 bp (t==w)
 (some (.n (IntKind.wrap .i64 (u+1))))
 ((idx a0 u).bind λz=>
 (idx D u).bind λB=>
 some (.r (decide (z<B)))))
 (some (.x ()))
def W1 (a0 u:Sl Int) (B:Int):bf Bool:=
 (bM (λq:Int=>br a0 u q) B).bind (Fw.elim
 (λe=>some false)
 (λe=>some e))
end gC
def gC (a0 u:Sl Int):bf Bool:=
 (f_ a0).bind λt=>
 (f_ u).bind λw=>
 bp (t==w)
 (gC.W1 a0 u 0)
 ((f_ a0).bind λz=>
 (f_ u).bind λB=>
 some (decide (z<B)))
open gC in
instance Rm (a0 B:Sl Int):Fc Sy cL (gC a0 B):=Fc.M 83 [enc a0,enc B] (bC 9 λw _=>bC 1 λz _=>di 3 10 (dw 11 (λu=>(bF [Cv 0 a0,Cv 1 B,Iv 5 u] [])) (λt=>(0,(bF [] []))) (λt=>(bF [Bv 4 t] [])) (λu=>bR 6 a0 (bD 3 19 (b9 9 λC _=>b9 3 λD _=>di 4 30 bh (b9 5 λG _=>b9 3 λI _=>bh)) bh)) (λt=>bh) (λt=>bh)) (bC 4 λJ _=>bC 1 λL _=>bh))
namespace eM
def br (a0 B:Sl Int) (u:Int):bf (Fw Int Unit Unit):=
 bp (decide (u<(len a0)))
 ((idx a0 u).bind λt=>
 (idx B u).bind λw=>
 bp (t==w)
 (some (.n (IntKind.wrap .i64 (u+1))))
 (some (.r ())))
 (some (.x ()))
def W1 (a0 u:Sl Int) (B:Int):bf Bool:=
 (bM (λq:Int=>br a0 u q) B).bind (Fw.elim
 (λe=>some true)
 (λe=>some false))
end eM
def eM (a0 u:Sl Int):bf Bool:=
 bp ((len a0)==(len u))
 (eM.W1 a0 u 0)
 (some false)
open eM in
instance Oi (a0 B:Sl Int):Fc Sy cL (eM a0 B):=Fc.M 84 [enc a0,enc B] (bR 9 a0 (bR 1 B (di 3 10 (dw 11 (λu=>(bF [Cv 0 a0,Cv 1 B,Iv 5 u] [])) (λt=>(0,(bF [] []))) (λt=>(bF [Bv 4 false] [])) (λu=>bR 6 a0 (bD 3 14 (b9 9 λw _=>b9 3 λz _=>di 4 25 bh bh) bh)) (λt=>bh) (λt=>bh)) bh)))
namespace gz
def br (B:Sl (Sl Int)) (D:Sl Int) (u:Int):bf (Fw Int Int Empty):=
 (bp (decide (u<(len B)))
 ((idx B u).bind λt=>
 (gC t D).bind λw=>
 some w)
 (some false):bf Bool).bind λz=>
 bp z
 (some (.n (IntKind.wrap .i64 (u+1))))
 (some (.x u))
def W1 (u:Sl (Sl Int)) (D:Sl Int) (B:Int):bf (Sl (Sl Int)):=
 (bM (λq:Int=>br u D q) B).bind (Fw.elim
 (λe=>(bp (decide (e<(len u)))
 ((idx u e).bind λz=>
 (eM z D).bind λC=>
 some C)
 (some false):bf Bool).bind λG=>
 bp G
 (some u)
 ((gm u none (some e)).bind λI=>
 (mI (Sl.row []:Sl (Sl Int)) I).bind λJ=>
 (eT J (D:Sl Int)).bind λL=>
 (gm u (some e) none).bind λt=>
 (mI L t).bind λw=>
 some w))
 (λe=>Empty.elim e))
end gz
def gz (u:Sl (Sl Int)) (B:Sl Int):bf (Sl (Sl Int)):=
 gz.W1 u B 0
open gz in
instance Q4 (u:Sl (Sl Int)) (B:Sl Int):Fc Sy cL (gz u B):=Fc.N 57 [enc u,enc B] (je 13 (λw=>(bF [Cv 0 u,Cv 1 B,Iv 5 w] [])) (λt=>(0,(bF [Cv 0 u,Cv 1 B,Iv 5 t] []))) (λw=>bR 6 u (bZ 2 7 [11] 18 (bD 2 11 (b9 2 λD _=>bC 2 λG _=>bB 1) (bB 7)) λI=>bD 2 18 bh bh)) (λt=>bR 7 u (bZ 2 7 [25] 32 (bD 2 25 (b9 2 λJ _=>bC 2 λL _=>bB 1) (bB 7)) λO=>bD 2 32 bh (Bg 5 34 ([]:a_ (Sl Int)) (Ed 2 false true [.int .i64 t] λQ _=>Aj 0 34 38 λS _=>Bg 7 41 ([B]:a_ (Sl Int)) (vH 0 38 41 42 λT _=>Ed 8 true false [.int .i64 t] λz _=>Aj 0 42 47 λC _=>bh))))))
namespace eA
def eS (B G:Sl (Sl Int)) (T:Int) (J:Sl (Sl Int)) (O:Trace) (u:Sl (Sl Int)) (D:Int):bf (Fw ((Sl (Sl Int))×Int) (Sl (Sl Int)) Empty):=
 bp (decide (D<(len J)))
 ((idx J D).bind λt=>
 (gz u t).bind λw=>
 some (.n (w,IntKind.wrap .i64 (D+1))))
 (some (.x u))
def W3 (u D B:Sl (Sl Int)) (J:Int) (O:Sl (Sl Int)) (T:Int) (G:Trace):bf (Fw ((Sl (Sl Int))×Int) (Sl (Sl Int)) Empty):=
 (bM (λq:(Sl (Sl Int))×Int=>eS u D J O G q.1 q.2) (B,T)).bind (Fw.elim
 (λe=>some (.n (e,IntKind.wrap .i64 (J+1))))
 (λe=>Empty.elim e))
def cm (u D:Sl (Sl Int)) (G:Trace) (B:Sl (Sl Int)) (J:Int):bf (Fw ((Sl (Sl Int))×Int) (Sl (Sl Int)) Empty):=
 bp (decide (J<(len u)))
 ((idx u J).bind λt=>
 (iN G t).bind λw=>
 W3 u D B J w 0 G)
 (some (.x B))
def W2 (u B D:Sl (Sl Int)) (J:Int) (G:Trace):bf (Fw ((Sl (Sl Int))×(Sl (Sl Int))) (Sl (Sl Int)) Unit):=
 (bM (λq:(Sl (Sl Int))×Int=>cm u B G q.1 q.2) (D,J)).bind (Fw.elim
 (λe=>some (.n (e,B)))
 (λe=>Empty.elim e))
def br (D:Trace) (u B:Sl (Sl Int)):bf (Fw ((Sl (Sl Int))×(Sl (Sl Int))) (Sl (Sl Int)) Unit):=
 bp (decide ((len u)>0))
 ((mI B u).bind λt=>
 bp (decide ((len t)>5000))
 (some (.r ()))
 (W2 u t (Sl.nil:Sl (Sl Int)) 0 D))
 (some (.x B))
def W1 (u B:Sl (Sl Int)) (D:Trace):bf ((Sl (Sl Int))×Bool):=
 (bM (λq:(Sl (Sl Int))×(Sl (Sl Int))=>br D q.1 q.2) (u,B)).bind (Fw.elim
 (λe=>some (e,true))
 (λe=>some ((Sl.nil:Sl (Sl Int)),false)))
end eA
def eA (u:Trace):bf ((Sl (Sl Int))×Bool):=
 (kX (len u.procs) (0:Int)).bind λt=>
 eA.W1 (Sl.row [t]:Sl (Sl Int)) (Sl.nil:Sl (Sl Int)) u
open eA in
instance T5 (B:Trace):Fc Sy cL (eA B):=Fc.N 28 [enc B] (dn 2 1 B (bR 8 B.procs (GC 0 13 λJ _=>Bg 1 14 ([J]:a_ (Sl Int)) (dw 13 (λt=>(bF [Pv 1,Cv 4 t.1,Ov 5] [Xb 1 B,Lb 2005 t.2])) (λz=>(0,(bF [Ov 5] [Lb 2005 z]))) (λz=>(bF [Ov 2,Bv 3 false] [Lb 2002 (Sl.nil:Sl (Sl Int))])) (λt=>bR 7 t.1 (bD 3 17 (Aj 8 2005 20 λu _=>wA 7 20 u (bD 3 23 bh (je 18 (λw=>(bF [Pv 1,Cv 4 t.1,Ov 5,Cv 6 w.1,Iv 7 w.2] [Xb 1 B,Lb 2005 u])) (λD=>(2,(bF [Pv 1,Ov 5,Cv 6 D] [Xb 1 B,Lb 2005 u]))) (λw=>bR 8 t.1 (bD 3 27 (b9 10 λL _=>bC 1 λG _=>je 12 (λC=>(bF [Pv 1,Cv 4 t.1,Ov 5,Cv 6 C.1,Iv 7 w.2,Cv 8 G,Iv 9 C.2] [Xb 1 B,Lb 2005 u])) (λI=>(4,(bF [Pv 1,Cv 4 t.1,Ov 5,Cv 6 I,Iv 7 w.2] [Xb 1 B,Lb 2005 u]))) (λC=>bR 8 G (bD 3 39 (b9 9 λO _=>bC 1 λQ _=>bh) bh)) (λI=>bh)) bh)) (λD=>bh)))) bh)) (λz=>bh) (λz=>bh)))))
def lS (B:Trace):bf Bool:=
 (nG B).bind λu=>
 bp u
 ((eA B).bind λt=>
 (bp t.2
 (some (decide ((len t.1)<=300)))
 (some false):bf Bool).bind λw=>
 some w)
 (some true)
instance Tt (u:Trace):Fc Sy cL (lS u):=Fc.M 8 [enc u] (dn 2 1 u (bC 7 λw _=>di 3 7 (bC 6 λt _=>bZ 11 4 [3,14] 18 (bD 11 14 (bR 1 t.1 (bB 2)) (bB 4)) λz=>bh) bh))
def mH (D B u:Int):bf Bool:=
 (bp (decide (D>=B))
 (some (decide (D<=u)))
 (some false):bf Bool).bind λt=>
 some t
instance Wd (D B u:Int):Fc Sy cL (mH D B u):=Fc.M 85 [.int .i64 D,.int .i64 B,.int .i64 u] (bZ 11 4 [0,2,10] 14 (bD 11 10 (bB 4) (bB 4)) λt=>bh)
def o9 (u:Int):bf Bool:=
 (bp (decide (u>=97))
 (some (decide (u<=122)))
 (some false):bf Bool).bind λt=>
 (bp t
 (some true)
 ((bp (decide (u>=65))
 (some (decide (u<=90)))
 (some false):bf Bool).bind λw=>
 some w):bf Bool).bind λz=>
 some z
instance R1 (u:Int):Fc Sy cL (o9 u):=Fc.M 149 [.int .u8 u] (bZ 10 3 [5] 8 (bD 10 5 (bB 3) (bB 3)) λt=>bZ 1 7 [0,9] 16 (bD 1 9 (bB 7) (bZ 3 3 [0,12] 15 (bD 3 12 (bB 3) (bB 3)) λw=>bB 1)) λz=>bh)
def tX (u:Int):bf Bool:=
 (bp (decide (u>=48))
 (some (decide (u<=57)))
 (some false):bf Bool).bind λt=>
 some t
instance T7 (u:Int):Fc Sy cL (tX u):=Fc.M 150 [.int .u8 u] (bZ 10 3 [0,5] 8 (bD 10 5 (bB 3) (bB 3)) λt=>bh)
namespace fM
def br (s0:ByteArray) (B:Int) (u:Int):bf (Fw Int Unit Unit):=
 bp (decide (u<B))
 ((ki s0 u).bind λz=>
 (o9 z).bind λC=>
 (bp C
 (some false)
 ((ki s0 u).bind λD=>
 (tX D).bind λG=>
 some (!G)):bf Bool).bind λI=>
 (bp I
 ((ki s0 u).bind λt=>
 some (!(t==95)))
 (some false):bf Bool).bind λw=>
 bp w
 (some (.r ()))
 (some (.n (IntKind.wrap .i64 (u+1)))))
 (some (.x ()))
def W1 (s0:ByteArray) (u B:Int):bf Bool:=
 (bM (λq:Int=>br s0 u q) B).bind (Fw.elim
 (λe=>some true)
 (λe=>some false))
end fM
def fM (s0:ByteArray):bf Bool:=
 (bp (ByteArray.toList s0==ByteArray.toList ByteArray.empty)
 (some true)
 (some (decide (((ByteArray.size s0:Nat):Int)>16))):bf Bool).bind λt=>
 (bp t
 (some true)
 ((ki s0 0).bind λu=>
 (o9 u).bind λw=>
 some (!w)):bf Bool).bind λz=>
 bp z
 (some false)
 (fM.W1 s0 ((ByteArray.size s0:Nat):Int) 0)
open fM in
instance Ts (s0:ByteArray):Fc Sy cL (fM s0):=Fc.M 113 [.str s0] (bZ 11 4 [6] 10 (bD 11 6 (bB 4) (bB 4)) λB=>bZ 1 5 [11] 16 (bD 1 11 (bB 5) (As 1 .i64 λC _=>bC 0 λD _=>bB 2)) λG=>bD 2 16 bh (dw 13 (λu=>(bF [(0,.v (.str s0)),Iv 18 ((ByteArray.size s0:Nat):Int),Iv 19 u] [])) (λt=>(0,(bF [] []))) (λt=>(bF [Bv 2 false] [])) (λu=>bD 7 20 (As 15 .i64 λI _=>bC 0 λJ _=>bZ 2 6 [27] 33 (di 2 27 (bB 6) (As 2 .i64 λL _=>bC 0 λO _=>bB 2)) λQ=>bZ 1 5 [3,34] 39 (bD 1 34 (As 2 .i64 λw _=>bB 2) (bB 5)) λz=>bD 2 39 bh bh) bh) (λt=>bh) (λt=>bh)))
def jg (u B:cu):bf Bool:=
 some (ByteArray.toList u.name==ByteArray.toList B.name)
instance IG (u B:cu):Fc Sy cL (jg u B):=Fc.M 115 [enc u,.fptr (cells B)] (dn 2 2 u bh)
namespace fP
def br (s0:Sl cu) (B:Int) (u:Int) (p1:cu->bf Bool):bf (Fw Int Unit Int):=
 bp (decide (u<B))
 ((idx s0 u).bind λt=>
 (p1 t).bind λw=>
 bp w
 (some (.r u))
 (some (.n (IntKind.wrap .i64 (u+1)))))
 (some (.x ()))
def W1 (s0:Sl cu) (u B:Int) (p1:cu->bf Bool):bf Int:=
 (bM (λq:Int=>br s0 u q p1) B).bind (Fw.elim
 (λe=>some (-1))
 (λe=>some e))
end fP
def fP (s0:Sl cu) (p1:cu->bf Bool):bf Int:=
 fP.W1 s0 (len s0) 0 p1
open fP in
abbrev wm (g1:FuncId) (e1:a_ V) (p1:cu->bf Bool) (h1:kG Sy cL g1 [] e1 (λz:cu=>[enc z]) (λr:Bool=>[.bool r]) p1 true) (s0:Sl cu):Fc Sy cL (fP s0 p1):=Fc.M 151 [enc s0,.clo g1 [] e1] (bR 9 s0 (dw 5 (λu=>(bF [Cv 0 s0,(1,.v (.clo g1 [] e1)),Iv 7 (len s0),Iv 8 u] [])) (λt=>(0,(bF [] []))) (λt=>(bF [Iv 4 t] [])) (λu=>bD 7 9 (b9 16 λw _=>wX 1 h1.f w λB _=>bD 2 16 bh bh) bh) (λt=>bh) (λt=>bh)))
def gV (s0:Sl cu) (p1:cu->bf Bool):bf Bool:=
 (fP s0 p1).bind λt=>
 some (decide (t>=0))
abbrev uS (g1:FuncId) (e1:a_ V) (p1:cu->bf Bool) (h1:kG Sy cL g1 [] e1 (λz:cu=>[enc z]) (λr:Bool=>[.bool r]) p1 true) (s0:Sl cu):Fc Sy cL (gV s0 p1):=Fc.M 114 [enc s0,.clo g1 [] e1] (bC (F:=wm g1 e1 p1 h1 s0) 9 λt _=>bh)
def jc (u B:Var):bf Bool:=
 some (ByteArray.toList u.name==ByteArray.toList B.name)
instance IF (u B:Var):Fc Sy cL (jc u B):=Fc.M 116 [enc u,.fptr (cells B)] (bh)
namespace dZ
def br (D:Sl Var) (G:Int) (J:cu) (u:Int):bf (Fw Int Unit Int):=
 bp (decide (u<G))
 ((idx D u).bind λt=>
 (fM t.name).bind λC=>
 (bp C
 ((gm J.vars none (some u)).bind λI=>
 (gp I (λz=>jc z t)).bind λL=>
 some L)
 (some true):bf Bool).bind λw=>
 bp w
 (some (.r 13))
 ((mH t.init_ (-1073741824) 1073741824).bind λB=>
 bp B
 (some (.n (IntKind.wrap .i64 (u+1))))
 (some (.r 2))))
 (some (.x ()))
def W1 (B:Sl Var) (D G:Int) (u:cu):bf Int:=
 (bM (λq:Int=>br B D u q) G).bind (Fw.elim
 (λe=>bp (decide ((len u.events)>64))
 (some 5)
 (some 0))
 (λe=>some e))
end dZ
def dZ (D:Trace) (p1:Int):bf Int:=
 (idx D.procs p1).bind λt=>
 (fM t.name).bind λu=>
 (bp u
 ((gm D.procs none (some p1)).bind λw=>
 (gV w (λz=>jg z t)).bind λB=>
 some B)
 (some true):bf Bool).bind λC=>
 bp C
 (some 13)
 (bp (decide ((len t.vars)>8))
 (some 5)
 (dZ.W1 t.vars (len t.vars) 0 t))
open dZ in
instance Lo (D:Trace) (p1:Int):Fc Sy cL (dZ D p1):=Fc.M 86 [enc D,.int .i64 p1] (dn 2 2 D (b9 8 λt _=>j8 2 5 0 t (bC 8 λL _=>bZ 2 7 [1,2,18] 25 (di 2 18 (Ed 3 false true [.int .i64 p1] λC _=>jT (F:=uS 115 [.fptr (cells t)] (λz=>jg z t) kG.rM C) 1 λO _=>bB 1) (bB 7)) λQ=>bD 3 13 bh (bR 5 t.vars (bD 4 26 bh (bR 9 t.vars (dw 5 (λw=>(bF [Pv 5,Cv 32 t.vars,Iv 33 (len t.vars),Iv 34 w] [Xb 5 t])) (λu=>(1,(bF [Pv 5] [Xb 5 t]))) (λu=>(bF [Iv 4 u] [])) (λw=>bD 7 35 (b9 8 λB _=>bC 11 λS _=>bZ 2 7 [6,44] 51 (di 2 44 (Ed 3 false true [.int .i64 w] λG _=>jT (F:=oS 116 [.fptr (cells B)] (λz=>jc z B) kG.rM G) 1 λT _=>bB 1) (bB 7)) λI=>bD 3 39 bh (bC 5 λJ _=>di 4 52 bh bh)) bh) (λu=>bR 7 t.events (bD 3 61 bh bh)) (λu=>bh))))))))
def jw (u:Trace):bf Trace:=
 some u
instance Sb (u:Trace):Fc Sy cL (jw u):=Fc.NE (λr:Trace=>[(.clo 117 [] [.fptr (cells r)])]) 87 [enc u] (dn 2 1 u bh)
namespace gY
def J1 (p1:Int) (B:Bool) (D:Trace) (u:Event):bf Bool:=
 bp B
 ((mH u.peer 0 (IntKind.wrap .i64 ((len D.procs)-1))).bind λt=>
 (bp t
 (some (!(u.peer==p1)))
 (some false):bf Bool).bind λw=>
 (bp w
 ((mH u.message 0 199).bind λz=>
 some z)
 (some false):bf Bool).bind λC=>
 some C)
 (some false)
end gY
def gY (u:Trace) (p1:Int) (e2:Event):bf Bool:=
 bp (e2.kind==1)
 ((bp (e2.peer==0)
 (some (e2.message==0))
 (some false):bf Bool).bind λt=>
 some t)
 (bp (e2.kind==2)
 (gY.J1 p1 true u e2)
 (gY.J1 p1 (e2.kind==3) u e2))
open gY in
instance Sv (u:Trace) (p1:Int) (e2:Event):Fc Sy cL (gY u p1 e2):=Fc.M 118 [enc u,.int .i64 p1,enc e2] (dn 2 3 u (dn 0 5 e2 (bD 17 9 (bZ 7 4 [5,14] 18 (bD 7 14 (bB 4) (bB 4)) λC=>bh) (bD 8 19 (zp 4 (bD 0 19 (bR 7 u.procs (bC 1 λt _=>bZ 1 5 [1,29] 34 (bD 1 29 (bB 5) (bB 5)) λw=>bZ 1 4 [5,35] 39 (bD 1 35 (bC 2 λz _=>bB 1) (bB 4)) λB=>bh)) bh)) (zp 7 (bD 0 19 (bR 7 u.procs (bC 1 λt _=>bZ 1 5 [1,29] 34 (bD 1 29 (bB 5) (bB 5)) λw=>bZ 1 4 [5,35] 39 (bD 1 35 (bC 2 λz _=>bB 1) (bB 4)) λB=>bh)) bh))))))
def jR (u B:Assign):bf Bool:=
 some (u.var==B.var)
instance JZ (u B:Assign):Fc Sy cL (jR u B):=Fc.M 120 [enc u,.fptr (cells B)] (bh)
namespace eW
def br (s0:Sl Assign) (B:Int) (u:Int) (p1:Assign->bf Bool):bf (Fw Int Unit Int):=
 bp (decide (u<B))
 ((idx s0 u).bind λt=>
 (p1 t).bind λw=>
 bp w
 (some (.r u))
 (some (.n (IntKind.wrap .i64 (u+1)))))
 (some (.x ()))
def W1 (s0:Sl Assign) (u B:Int) (p1:Assign->bf Bool):bf Int:=
 (bM (λq:Int=>br s0 u q p1) B).bind (Fw.elim
 (λe=>some (-1))
 (λe=>some e))
end eW
def eW (s0:Sl Assign) (p1:Assign->bf Bool):bf Int:=
 eW.W1 s0 (len s0) 0 p1
open eW in
abbrev vr (g1:FuncId) (e1:a_ V) (p1:Assign->bf Bool) (h1:kG Sy cL g1 [] e1 (λz:Assign=>[enc z]) (λr:Bool=>[.bool r]) p1 true) (s0:Sl Assign):Fc Sy cL (eW s0 p1):=Fc.M 152 [enc s0,.clo g1 [] e1] (bR 9 s0 (dw 5 (λu=>(bF [Cv 0 s0,(1,.v (.clo g1 [] e1)),Iv 7 (len s0),Iv 8 u] [])) (λt=>(0,(bF [] []))) (λt=>(bF [Iv 4 t] [])) (λu=>bD 7 9 (b9 16 λw _=>wX 1 h1.f w λB _=>bD 2 16 bh bh) bh) (λt=>bh) (λt=>bh)))
def gB (s0:Sl Assign) (p1:Assign->bf Bool):bf Bool:=
 (eW s0 p1).bind λt=>
 some (decide (t>=0))
abbrev tv (g1:FuncId) (e1:a_ V) (p1:Assign->bf Bool) (h1:kG Sy cL g1 [] e1 (λz:Assign=>[enc z]) (λr:Bool=>[.bool r]) p1 true) (s0:Sl Assign):Fc Sy cL (gB s0 p1):=Fc.M 119 [enc s0,.clo g1 [] e1] (bC (F:=vr g1 e1 p1 h1 s0) 9 λt _=>bh)
namespace dy
def cm (D:Sl Assign) (G:Int) (J:Event) (O:cu) (u:Int):bf (Fw Int Unit Int):=
 bp (decide (u<G))
 ((idx D u).bind λt=>
 (mH t.var 0 (IntKind.wrap .i64 ((len O.vars)-1))).bind λC=>
 (bp C
 ((mH t.value (-1073741824) 1073741824).bind λI=>
 some (!I))
 (some true):bf Bool).bind λL=>
 bp L
 (some (.r 2))
 ((gm J.assign none (some u)).bind λw=>
 (gB w (λz=>jR z t)).bind λB=>
 bp B
 (some (.r 8))
 (some (.n (IntKind.wrap .i64 (u+1))))))
 (some (.x ()))
def W2 (u:Sl Assign) (B D:Int) (G:Event) (J:cu):bf Int:=
 (bM (λq:Int=>cm u B G J q) D).bind (Fw.elim
 (λe=>some 0)
 (λe=>some e))
def J1 (B:Int) (G:Trace) (D:bg) (u:Event) (J:cu):bf Int:=
 (gY G D.proc u).bind λt=>
 bp t
 ((mH u.time 0 1099511627776).bind λw=>
 (bp w
 (some (decide (u.time<B)))
 (some true):bf Bool).bind λz=>
 bp z
 (some 11)
 (bp (decide ((len u.assign)>8))
 (some 5)
 (dy.W2 u.assign (len u.assign) 0 u J)))
 (some 3)
theorem wz (B:Int) (J:Trace) (G:bg) (u:Event) (D:cu):Le ((J1 B J G u D).bind (λr=>some [.int .i64 r])) (bX Sy cL (ql (tr Tx 88)) (tn (tb Tx 88) [1,1,1,1,0] [] (bF [Pv 3,Pv 4,Pv 5,Pv 7,Iv 8 B] [Xb 3 J,Xb 4 G,Xb 5 u,Xb 7 D]))):=
 bC 8 λO _=>di 4 28 (bC 5 λQ _=>bZ 2 5 [8,40] 45 (di 2 40 (bB 5) (bB 5)) λS=>bD 3 35 bh (bR 5 u.assign (bD 4 46 bh (bR 9 u.assign (dw 5 (λw=>(bF [Pv 5,Pv 7,Cv 52 u.assign,Iv 53 (len u.assign),Iv 54 w] [Xb 5 u,Xb 7 D])) (λt=>(1,(bF [] []))) (λt=>(bF [Iv 6 t] [])) (λw=>bD 7 55 (b9 8 λC _=>bR 13 D.vars (bC 1 λT _=>bZ 2 5 [68] 73 (di 2 68 (bC 2 λU _=>bB 2) (bB 5)) λW=>bD 3 59 bh (Ed 6 false true [.int .i64 w] λI _=>jT (F:=tv 120 [.fptr (cells C)] (λz=>jR z C) kG.rM I) 1 λL _=>bD 3 74 bh bh))) bh) (λt=>bh) (λt=>bh)))))) bh
end dy
def dy (B:Trace) (u:bg) (e2:Event):bf Int:=
 (idx B.procs u.proc).bind λt=>
 bp (decide (u.index>1))
 ((idx t.events (IntKind.wrap .i64 (u.index-2))).bind λw=>
 dy.J1 w.time B u e2 t)
 (dy.J1 0 B u e2 t)
open dy in
instance NT (B:Trace) (u:bg) (e2:Event):Fc Sy cL (dy B u e2):=Fc.M 88 [enc B,enc u,enc e2] (dn 2 3 B (dn 1 5 e2 (b9 9 λt _=>j8 2 7 0 t (bD 15 19 (b9 7 λw _=>Aw 6 (wz w.time B u e2 t)) (Aw 4 (wz 0 B u e2 t))))))
def qc (e0:Event) (B D:Int):bf Bool:=
 (bp (e0.kind==2)
 (some (e0.message==B))
 (some false):bf Bool).bind λt=>
 (bp t
 (some (e0.peer==D))
 (some false):bf Bool).bind λu=>
 some u
instance Pz (e0:Event) (u B:Int):Fc Sy cL (qc e0 u B):=Fc.M 153 [enc e0,.fptr (cells u),.fptr (cells B)] (dn 2 3 e0 (bZ 9 5 [1,8] 13 (bD 9 8 (bB 5) (bB 5)) λt=>bZ 1 5 [2,3,14] 19 (bD 1 14 (bB 5) (bB 5)) λw=>bh))
def tV (B:Trace) (p1 D u:Int):bf Bool:=
 (idx B.procs p1).bind λt=>
 (gM t.events (λz=>qc z D u)).bind λw=>
 some w
instance TS (D:Trace) (p1 B u:Int):Fc Sy cL (tV D p1 B u):=Fc.M 121 [enc D,.int .i64 p1,.int .i64 B,.int .i64 u] (dn 2 4 D (b9 10 λt _=>jT (F:=nO 153 [.fptr (cells B),.fptr (cells u)] (λz=>qc z B u) kG.rM t.events) 3 λw _=>bh))
namespace d_
def tM (B D:Trace) (J:bf (bP 200 bt)) (O:bg) (T:Int) (x:bg×Event) (u:bP 200 bt):bf (Fw (bP 200 bt) Empty (bg×Int×(bP 200 bt))):=
 bp (x.2.kind==2)
 ((bP.at u x.2.message).bind λt=>
 bp (decide (t.from_.index>0))
 (some (.r (x.1,8,u)))
 ((bP.at u x.2.message).bind λw=>
 some (.n (bP.set u x.2.message (⟨x.1,w.to_⟩:bt)))))
 (bp (x.2.kind==3)
 ((bP.at u x.2.message).bind λz=>
 bp (decide (z.to_.index>0))
 (some (.r (x.1,8,u)))
 ((tV D x.2.peer x.2.message x.1.proc).bind λC=>
 bp C
 ((bP.at u x.2.message).bind λG=>
 some (.n (bP.set u x.2.message (⟨G.from_,x.1⟩:bt))))
 (some (.r (x.1,7,u)))))
 (some (.n u)))
def E1 (u D:Trace) (G:bf (bP 200 bt)) (J:bg) (O:Int) (B:bP 200 bt):bf ((bf (bP 200 bt))×bg×Int):=
 (iL u).bind λt=>(nV (λ(x:bg×Event) (q:bP 200 bt)=>tM u D G J O x q) t B).bind (Fw.wN
 (λq=>some (some q,⟨0,0⟩,0))
 (λe=>Empty.elim e)
 (λe=>some ((none:bf (bP 200 bt)),e.1,e.2.1)))
end d_
def d_ (u:Trace):bf ((bf (bP 200 bt))×bg×Int):=
 (jw u).bind λt=>
 d_.E1 t u (none:bf (bP 200 bt)) (⟨0,0⟩:bg) 0 (bP.Mc 200 (⟨⟨0,0⟩,⟨0,0⟩⟩:bt))
open d_ in
instance Ld (B:Trace):Fc Sy cL (d_ B):=Fc.N 89 [enc B] (dn 2 1 B (dn 8 10 (bP.Mc 200 (⟨⟨0,0⟩,⟨0,0⟩⟩:bt)) (Vj 0 5 (bF [Pv 1,Pv 2,Pv 3,Pv 4,Pv 10] [Xb 1 B,(2,.box [cv (none:bf (bP 200 bt))]),Xb 3 (⟨0,0⟩:bg),(4,.box [iv 0]),Xb 10 (bP.Mc 200 (⟨⟨0,0⟩,⟨0,0⟩⟩:bt))]) [cv (none:bf (bP 200 bt))] (by simp only[bF,xJ,qd,rP,pW,rz,s9,rO,tc,pX,rH,xO,sZ,tP,tq,tI,vz,vA,rE,tD];rfl) (bC 7 λz _=>Lg λL C=>F_ 4 [Pv 1,Pv 2,Pv 3,Pv 4,Pv 5,(12,.v (.clo 117 [] [.fptr (cells z)]))] (λu=>[Xb 1 B,(2,.box [cv (none:bf (bP 200 bt))]),Xb 3 (⟨0,0⟩:bg),(4,.box [iv 0]),(5,.box [.ptr 10 0]),Xb 10 u]) (λw=>Empty.elim w) (λw=>[Xb 1 B,(2,.box [cv (none:bf (bP 200 bt))]),Xb 3 w.1,(4,.box [iv w.2.1]),(5,.box [.ptr 10 0]),Xb 10 w.2.2]) (yf z L C) (λt u=>Vj 2 6 ⟨[Pv 1,Pv 2,Pv 3,Pv 4,Pv 5,(12,.v (.clo 117 [] [.fptr (cells z)])),Cv 13 t.1,Cv 14 t.2],[Xb 1 B,(2,.box [cv (none:bf (bP 200 bt))]),Xb 3 (⟨0,0⟩:bg),(4,.box [iv 0]),(5,.box [.ptr 10 0]),Xb 10 u],[1,2,3,4,5],[],true,0⟩ [iv 0,iv 0] (by simp only[bF,xJ,qd,rP,pW,rz,s9,rO,tc,pX,rH,xO,sZ,tP,tq,tI,vz,vA,rE,tD];rfl) (Vj 4 7 ⟨[Pv 1,Pv 2,Pv 3,Pv 4,Pv 5,(12,.v (.clo 117 [] [.fptr (cells z)])),Cv 14 t.2,Pv 6],[Xb 1 B,(2,.box [cv (none:bf (bP 200 bt))]),Xb 3 (⟨0,0⟩:bg),(4,.box [iv 0]),(5,.box [.ptr 10 0]),Xb 10 u,Xb 6 t.1],[1,2,3,4,5],[],true,0⟩ [iv 0,iv 0,iv 0,iv 0,.v .bN] (by simp only[bF,xJ,qd,rP,pW,rz,s9,rO,tc,pX,rH,xO,sZ,tP,tq,tI,vz,vA,rE,tD];rfl) (j8 0 7 0 t.2 (CY 1 (bD 22 19 (FV 7 .i64 10 λD O=>Q3 2 1 false 10 u t.2.message 1 D O (.int .i64 D.from_.index) (by rfl) (bD 3 28 bh (FV 8 .i64 10 λG Q=>RA 1 10 u t.2.message 0 G Q (⟨t.1,G.to_⟩:bt) t.1 rfl bh))) (bD 7 36 (FV 7 .i64 10 λI S=>Q3 2 1 false 10 u t.2.message 3 I S (.int .i64 I.to_.index) (by rfl) (bD 3 45 bh (bC 12 λU _=>di 3 54 (FV 8 .i64 10 λJ T=>RA 1 10 u t.2.message 2 J T (⟨J.from_,t.1⟩:bt) t.1 rfl bh) bh))) bh)))))) (λu=>V_ 13 (bF [Pv 2,Pv 3,Pv 4] [(2,.box [.ptr 10 0]),Xb 3 (⟨0,0⟩:bg),(4,.box [iv 0]),Xb 10 u]) [.ptr 10 0,cv (⟨0,0⟩:bg),iv 0] (R6 (d:=10) (x:=u) (vs:=[enc (⟨0,0⟩:bg),.int .i64 0]) Ze) Ze) (λx=>Empty.elim x) (λw=>bh)))))
namespace iI
def J1 (B:bP 200 bt) (u:Sl bg) (J:Sl Event) (D:bg):bf (Sl bg):=
 (idx J (IntKind.wrap .i64 (D.index-1))).bind λt=>
 (bp (t.kind==2)
 ((bP.at B t.message).bind λw=>
 some (decide (w.to_.index>0)))
 (some false):bf Bool).bind λz=>
 bp z
 ((bP.at B t.message).bind λC=>
 (eT u (C.to_:bg)).bind λG=>
 some G)
 (some u)
theorem wz (u:bP 200 bt) (B:Sl bg) (J:Sl Event) (D:bg):Le ((J1 u B J D).bind (λr=>some [enc r])) (bX Sy cL (ql (tr Tx 122)) (tn (tb Tx 122) [1,1,1,1,0,0] [] (bF [Kv 1 u,Pv 5,Ov 7,Cv 8 J] [Xb 5 D,Lb 2007 B]))):=
 b9 7 λt _=>j8 2 9 0 t (bZ 8 10 [40] 50 (bD 8 40 (Ri 4 .i64 λw z=>Pf 0 2 u t.message 0 w z (Pf 0 1 u t.message 2 w z (Q_ 0 1 false u t.message 3 w z (.int .i64 w.to_.index) (by rfl) (bB 2)))) (bB 10)) λI=>bD 2 50 (Ri 7 .i64 λC G=>Pf 0 2 u t.message 0 C G (Q_ 0 2 true u t.message 2 C G (enc C.to_) (by rfl) (vH 1 2007 59 60 λL _=>bh))) bh)
end iI
def iI (B:Trace) (u:bP 200 bt) (x2:bg):bf (Sl bg):=
 (idx B.procs x2.proc).bind λt=>
 bp (decide (x2.index<(len t.events)))
 (iI.J1 u (Sl.row [⟨x2.proc,IntKind.wrap .i64 (x2.index+1)⟩]:Sl bg) t.events x2)
 (iI.J1 u (Sl.nil:Sl bg) t.events x2)
open iI in
instance T4 (B:Trace) (u:bP 200 bt) (x2:bg):Fc Sy cL (iI B u x2):=Fc.N 122 [enc B,.fptr (cells u),enc x2] (dn 2 3 B (b9 15 λt _=>bR 11 t.events (bD 3 21 (RL 10 29 30 .bN (⟨x2.proc,IntKind.wrap .i64 (x2.index+1)⟩:bg) (Aw 5 (wz u (Sl.row [⟨x2.proc,IntKind.wrap .i64 (x2.index+1)⟩]:Sl bg) t.events x2))) (Aw 5 (wz u (Sl.nil:Sl bg) t.events x2)))))
namespace gX
def eS (J:Trace) (O:Sl bg) (T:Int) (U:Trace) (W:bP 200 bt) (Y:bg) (aa:Bool) (G:bg) (u:Sl bg) (D:Int) (B:Mo bg Bool):bf (Fw ((Sl bg)×Int×(Mo bg Bool)) ((Sl bg)×(Mo bg Bool)) Unit):=
 bp (decide (D<T))
 ((idx O D).bind λt=>
 bp (J_ t G)
 (some (.r ()))
 (bp (wY B t false)
 (some (.n (u,IntKind.wrap .i64 (D+1),B)))
 ((eT u (t:bg)).bind λw=>
 some (.n (w,IntKind.wrap .i64 (D+1),nr B t true)))))
 (some (.x (u,B)))
def W3 (B:Sl bg) (u:Trace) (J:Sl bg) (O T:Int) (U:Trace) (W:bP 200 bt) (Y:bg) (aa:Bool) (D:bg) (G:Mo bg Bool):bf (Fw ((Sl bg)×(Mo bg Bool)) Unit Unit):=
 (bM (λq:(Sl bg)×Int×(Mo bg Bool)=>eS u J O U W Y aa D q.1 q.2.1 q.2.2) (B,T,G)).bind (Fw.elim
 (λe=>some (.n (e.1,e.2)))
 (λe=>some (.r ())))
def cm (B D:Trace) (G:bP 200 bt) (T:bg) (U:Bool) (J:bg) (u:Sl bg) (O:Mo bg Bool):bf (Fw ((Sl bg)×(Mo bg Bool)) Unit Unit):=
 bp (decide ((len u)>0))
 ((Sl.j7 u (IntKind.wrap .i64 ((len u)-1))).bind λw=>
 (Sl.get u w).bind λz=>
 (kO u none (some (IntKind.wrap .i64 ((len u)-1)))).bind λC=>
 (iI D G z).bind λt=>
 W3 C B t (len t) 0 D G T U J O)
 (some (.x ()))
def W2 (D:Sl bg) (u J:Trace) (O:bP 200 bt) (T:bg) (U:Bool) (B:bg) (G:Mo bg Bool):bf (Fw Unit Empty bg):=
 (bM (λq:(Sl bg)×(Mo bg Bool)=>cm u J O T U B q.1 q.2) (D,G)).bind (Fw.elim
 (λe=>some (.n ()))
 (λe=>some (.r B)))
def tM (u B:Trace) (D:bP 200 bt) (G:bg) (J:Bool) (x:bg×Event):bf (Fw Unit Empty bg):=
 W2 (Sl.row [x.1]:Sl bg) u B D G J x.1 []
def E1 (u B:Trace) (D:bP 200 bt) (G:bg) (J:Bool):bf (bg×Bool):=
 (iL u).bind λt=>(nV (λ(x:bg×Event) (q:Unit)=>tM u B D G J x) t ()).bind (Fw.wN
 (λq=>some (⟨0,0⟩,false))
 (λe=>Empty.elim e)
 (λe=>some (e,true)))
end gX
def gX (u:Trace) (B:bP 200 bt):bf (bg×Bool):=
 (jw u).bind λt=>
 gX.E1 t u B (⟨0,0⟩:bg) false
open gX in
instance R5 (B:Trace) (D:bP 200 bt):Fc Sy cL (gX B D):=Fc.M 90 [enc B,.fptr (cells D)] (dn 2 2 B (bC 9 λu _=>Lg λT O=>F_ 4 [Pv 2,Pv 3,Pv 4,Pv 5,(13,.v (.clo 117 [] [.fptr (cells u)]))] (λQ=>[Xb 2 B,(3,.box [cp D]),Xb 4 (⟨0,0⟩:bg),(5,.box [bv false])]) (λG=>Empty.elim G) (λG=>[Xb 2 B,(3,.box [cp D]),Xb 4 G,(5,.box [bv true])]) (yf u T O) (λz Q=>CY 4 (dw 18 (λt=>⟨[Pv 2,Pv 3,Pv 4,Pv 5,Pv 6,(7,.mp 16),Ov 8,(13,.v (.clo 117 [] [.fptr (cells u)]))],[Xb 2 B,(3,.box [cp D]),Xb 4 (⟨0,0⟩:bg),(5,.box [bv false]),Xb 6 z.1,(16,sM t.2),Lb 2008 t.1],[2,3,4,5],[],true,0⟩) (λI=>(2,⟨[Pv 2,Pv 3,Pv 4,Pv 5,(13,.v (.clo 117 [] [.fptr (cells u)]))],[Xb 2 B,(3,.box [cp D]),Xb 4 (⟨0,0⟩:bg),(5,.box [bv false])],[2,3,4,5],[],true,0⟩)) (λI=>⟨[],[Xb 2 B,(3,.box [cp D]),Xb 4 z.1,(5,.box [bv true])],[2,3,4,5],[],true,0⟩) (λt=>wA 6 2008 t.1 (bD 3 21 (wA 8 2008 t.1 (mL .i64 1 2008 λU _=>tu 0 2008 0 2 true (λJ=>.agg [.int .i64 J.proc,.int .i64 J.index]) λJ _=>wA 8 2008 t.1 (QV 1 false true 2008 32 [.int .i64 (IntKind.wrap .i64 ((len t.1)-1))] λW _=>bC 8 λL _=>bR 0 L (dw 6 (λw=>⟨[Pv 2,Pv 3,Pv 4,Pv 5,Pv 6,(7,.mp 16),Ov 8,(13,.v (.clo 117 [] [.fptr (cells u)])),Cv 36 L,Iv 37 (len L),Iv 38 w.2.1],[Xb 2 B,(3,.box [cp D]),Xb 4 (⟨0,0⟩:bg),(5,.box [bv false]),Xb 6 z.1,(16,sM w.2.2),Lb 2008 w.1],[2,3,4,5],[],true,0⟩) (λC=>(4,⟨[Pv 2,Pv 3,Pv 4,Pv 5,Pv 6,(7,.mp 16),Ov 8,(13,.v (.clo 117 [] [.fptr (cells u)]))],[Xb 2 B,(3,.box [cp D]),Xb 4 (⟨0,0⟩:bg),(5,.box [bv false]),Xb 6 z.1,(16,sM C.2),Lb 2008 C.1],[2,3,4,5],[],true,0⟩)) (λC=>⟨[],[Xb 2 B,(3,.box [cp D]),Xb 4 z.1,(5,.box [bv true])],[2,3,4,5],[],true,0⟩) (λw=>bD 8 39 (b9 7 λS _=>bD 13 44 bh (Rp 7 16 w.2.2 S false (di 3 49 bh (Ou 5 16 w.2.2 S true (vH 6 2008 54 55 λX _=>bh))))) bh) (λC=>bh) (λC=>bh))))) bh)) (λI=>bh) (λI=>bh))) (λQ=>bh) (λx=>Empty.elim x) (λG=>bh)))
namespace gF
def JW (u B:Trace) (D:bg) (G:Int) (x:bg×Event):bf (Fw Unit Empty (bg×Int)):=
 (dy B x.1 x.2).bind λt=>
 bp (t==0)
 (some (.n ()))
 (some (.r (x.1,t)))
def E2 (u B:Trace) (D:bg) (G:Int):bf (bg×Int):=
 (iL u).bind λz=>(nV (λ(x:bg×Event) (q:Unit)=>JW u B D G x) z ()).bind (Fw.wN
 (λq=>(d_ B).bind λt=>
 bp (t.2.2==0)
 ((t.1).bind λC=>
 (gX B C).bind λw=>
 bp w.2
 (some (w.1,10))
 (some (⟨0,0⟩,0)))
 (some (t.2.1,t.2.2)))
 (λe=>Empty.elim e)
 (λe=>some (e.1,e.2)))
def br (B:Int) (D:Trace) (G:bg) (J:Int) (u:Int):bf (Fw Int Unit (bg×Int)):=
 bp (decide (u<B))
 ((dZ D u).bind λt=>
 bp (t==0)
 (some (.n (IntKind.wrap .i64 (u+1))))
 (some (.r ((⟨u,0⟩:bg),t))))
 (some (.x ()))
def W1 (G J:Int) (u:Trace) (B:bg) (D:Int):bf (bg×Int):=
 (bM (λq:Int=>br G u B D q) J).bind (Fw.elim
 (λe=>(jw u).bind λt=>
 gF.E2 t u B D)
 (λe=>some (e.1,e.2)))
end gF
def gF (u:Trace):bf (bg×Int):=
 (mH (len u.procs) 1 8).bind λt=>
 bp t
 (gF.W1 (len u.procs) 0 u (⟨0,0⟩:bg) 0)
 (some (⟨0,0⟩,1))
open gF in
instance TZ (u:Trace):Fc Sy cL (gF u):=Fc.M 58 [enc u] (dn 2 1 u (bR 9 u.procs (bC 0 λL _=>di 3 18 (bR 8 u.procs (dw 5 (λB=>(bF [Pv 1,Pv 2,Pv 3,Iv 22 (len u.procs),Iv 23 B] [Xb 1 u,Xb 2 (⟨0,0⟩:bg),(3,.box [iv 0])])) (λt=>(0,(bF [Pv 1,Pv 2,Pv 3] [Xb 1 u,Xb 2 (⟨0,0⟩:bg),(3,.box [iv 0])]))) (λt=>(bF [Pv 2,Pv 3] [Xb 2 t.1,(3,.box [iv t.2])])) (λB=>bD 7 24 (bC 15 λO _=>di 9 30 bh bh) bh) (λt=>bC 6 λz _=>Lg λI C=>F_ 4 [Pv 1,Pv 2,Pv 3,(36,.v (.clo 117 [] [.fptr (cells z)]))] (λD=>[Xb 1 u,Xb 2 (⟨0,0⟩:bg),(3,.box [iv 0])]) (λw=>Empty.elim w) (λw=>[Xb 1 u,Xb 2 w.1,(3,.box [iv w.2])]) (yf z I C) (λJ D=>j8 8 7 0 J.2 (CY 1 (bC 7 λQ _=>di 9 44 bh bh))) (λD=>bC 5 λG _=>di 17 54 (XF 8 (λS=>(bF [Pv 2,Pv 3,(36,.v (.clo 117 [] [.fptr (cells z)])),Pv 10,Iv 11 G.2.2,Bv 54 false,Cv 58 u,Cv 59 S] [Xb 1 u,Xb 2 (⟨0,0⟩:bg),(3,.box [iv 0]),Xb 10 G.2.1])) λT _=>bC 0 λU _=>bD 13 63 bh bh) bh) (λx=>Empty.elim x) (λw=>bh)) (λt=>bh))) bh)))
def cE (u:Trace):bf Bool:=
 (gF u).bind λt=>
 some (t.2==0)
instance T8 (u:Trace):Fc Sy cL (cE u):=Fc.M 29 [enc u] (dn 2 1 u (bC 6 λt _=>bh))
def jF (u:Sl Int) (B:Trace):bf Bool:=
 some (!((len u)==(len B.procs)))
instance RS (u:Sl Int) (B:Trace):Fc Sy cL (jF u B):=Fc.M 123 [enc u,.fptr (cells B)] (bR 8 u (bR 2 B.procs bh))
def uh (B:Trace) (D:Sl (Sl Int)):bf Bool:=
 (cE B).bind λt=>
 (bp t
 ((dK D (λz=>jF z B)).bind λu=>
 some (!u))
 (some false):bf Bool).bind λw=>
 some w
instance VX (u:Trace) (B:Sl (Sl Int)):Fc Sy cL (uh u B):=Fc.M 91 [enc u,enc B] (dn 2 2 u (bC 6 λt _=>bZ 1 5 [1,2,7] 12 (bD 1 7 (jT (F:=kJ 123 [.fptr (cells u)] (λz=>jF z u) kG.rM B) 2 λw _=>bB 2) (bB 5)) λC=>bh))
namespace iJ
def br (D:Sl Int) (G:Int) (B:Trace) (u:Int):bf (Fw Int Unit Unit):=
 bp (decide (u<G))
 ((idx D u).bind λt=>
 (bp (decide (t<0))
 (some true)
 ((idx B.procs u).bind λw=>
 some (decide (t>(len w.events)))):bf Bool).bind λz=>
 bp z
 (some (.r ()))
 (some (.n (IntKind.wrap .i64 (u+1)))))
 (some (.x ()))
def W1 (B:Sl Int) (D G:Int) (u:Trace):bf Bool:=
 (bM (λq:Int=>br B D u q) G).bind (Fw.elim
 (λe=>some true)
 (λe=>some false))
end iJ
def iJ (B:Trace) (u:Sl Int):bf Bool:=
 iJ.W1 u (len u) 0 B
open iJ in
instance Ua (B:Trace) (u:Sl Int):Fc Sy cL (iJ B u):=Fc.M 92 [enc B,enc u] (dn 2 2 B (bR 7 u (dw 5 (λw=>(bF [Pv 2,Cv 7 u,Iv 8 (len u),Iv 9 w] [Xb 2 B])) (λt=>(0,(bF [] []))) (λt=>(bF [Bv 4 false] [])) (λw=>bD 7 10 (b9 8 λC _=>bZ 10 10 [5,6,16] 26 (bD 10 16 (bB 10) (b9 4 λz _=>bR 2 z.events (bB 2))) λD=>bD 2 26 bh bh) bh) (λt=>bh) (λt=>bh))))
def Ba (u:Trace) (p1:Int):bf Bool:=
 (bp (decide (p1>=0))
 (some (decide (p1<(len u.procs))))
 (some false):bf Bool).bind λt=>
 some t
instance TU (u:Trace) (p1:Int):Fc Sy cL (Ba u p1):=Fc.M 93 [enc u,.int .i64 p1] (dn 2 2 u (bZ 8 6 [1,2,7] 13 (bD 8 7 (bR 3 u.procs (bB 2)) (bB 6)) λt=>bh))
namespace k8
def tM (B:Trace) (u D:Int) (G:bg) (J:Bool) (x:bg×Event):bf (Fw Unit Empty bg):=
 (bp (x.2.kind==u)
 (some (x.2.message==D))
 (some false):bf Bool).bind λt=>
 bp t
 (some (.r x.1))
 (some (.n ()))
def E1 (u:Trace) (B D:Int) (G:bg) (J:Bool):bf (bg×Bool):=
 (iL u).bind λt=>(nV (λ(x:bg×Event) (q:Unit)=>tM u B D G J x) t ()).bind (Fw.wN
 (λq=>some (⟨0,0⟩,false))
 (λe=>Empty.elim e)
 (λe=>some (e,true)))
end k8
def k8 (B:Trace) (u D:Int):bf (bg×Bool):=
 (cE B).bind λt=>
 bp t
 ((jw B).bind λw=>
 k8.E1 w u D (⟨0,0⟩:bg) false)
 (some (⟨0,0⟩,false))
open k8 in
instance UP (G:Trace) (u D:Int):Fc Sy cL (k8 G u D):=Fc.M 154 [enc G,.int .i64 u,.int .i64 D] (dn 2 3 G (bC 10 λJ _=>di 3 12 (bC 7 λw _=>Lg λC z=>F_ 4 [Pv 4,Pv 5,Pv 6,Pv 7,(15,.v (.clo 117 [] [.fptr (cells w)]))] (λB=>[(4,.box [iv u]),(5,.box [iv D]),Xb 6 (⟨0,0⟩:bg),(7,.box [bv false])]) (λt=>Empty.elim t) (λt=>[(4,.box [iv u]),(5,.box [iv D]),Xb 6 t,(7,.box [bv true])]) (yf w C z) (λI B=>j8 8 9 0 I.2 (CY 1 (bZ 9 5 [9,22] 27 (bD 9 22 (bB 5) (bB 5)) λL=>bD 2 27 bh bh))) (λB=>bh) (λx=>Empty.elim x) (λt=>bh)) bh))
def si (u:Trace) (m1:Int):bf (bg×Bool):=
 (k8 u 2 m1).bind λt=>
 some (t.1,t.2)
instance S0 (u:Trace) (m1:Int):Fc Sy cL (si u m1):=Fc.M 124 [enc u,.int .i64 m1] (dn 2 2 u (bC 8 λt _=>bh))
namespace ga
def cm (T:Sl Int) (p7:Int) (U:Sl Int) (W Y:Int) (G:Sl Event) (J:Int) (O:Trace) (D B:bg) (u:Int):bf (Fw Int Unit (bg×bg)):=
 bp (decide (u<J))
 ((idx G u).bind λw=>
 bp (w.kind==3)
 ((si O w.message).bind λt=>
 (idx T t.1.proc).bind λz=>
 bp (decide (t.1.index>z))
 (some (.r (t.1,(⟨p7,IntKind.wrap .i64 (u+1)⟩:bg))))
 (some (.n (IntKind.wrap .i64 (u+1)))))
 (some (.n (IntKind.wrap .i64 (u+1)))))
 (some (.x ()))
def W2 (Y:Sl Int) (p7:Int) (G:Sl Int) (J D:Int) (O:Sl Event) (T U:Int) (W:Trace) (B u:bg):bf (Fw Int Unit (bg×bg)):=
 (bM (λq:Int=>cm Y p7 G J D O T W B u q) U).bind (Fw.elim
 (λe=>some (.n (IntKind.wrap .i64 (D+1))))
 (λe=>some (.r (e.1,e.2))))
def br (T G:Sl Int) (J:Int) (O:Trace) (D u:bg) (B:Int):bf (Fw Int Unit (bg×bg)):=
 bp (decide (B<J))
 ((idx G B).bind λw=>
 (idx O.procs B).bind λz=>
 (gm z.events none (some w)).bind λt=>
 W2 T B G J B t (len t) 0 O D u)
 (some (.x ()))
def W1 (T D:Sl Int) (G J:Int) (O:Trace) (B u:bg):bf (bg×bg×Bool):=
 (bM (λq:Int=>br T D G O B u q) J).bind (Fw.elim
 (λe=>some (⟨0,0⟩,⟨0,0⟩,false))
 (λe=>some (e.1,e.2,true)))
end ga
def ga (B:Trace) (u:Sl Int):bf (bg×bg×Bool):=
 ga.W1 u u (len u) 0 B (⟨0,0⟩:bg) (⟨0,0⟩:bg)
open ga in
instance TT (D:Trace) (u:Sl Int):Fc Sy cL (ga D u):=Fc.M 95 [enc D,enc u] (dn 2 2 D (bR 9 u (dw 5 (λt=>(bF [Cv 1 u,Pv 2,Pv 4,Pv 5,Cv 13 u,Iv 14 (len u),Iv 15 t] [Xb 2 D,Xb 4 (⟨0,0⟩:bg),Xb 5 (⟨0,0⟩:bg)])) (λw=>(0,(bF [Pv 4,Pv 5] [Xb 4 (⟨0,0⟩:bg),Xb 5 (⟨0,0⟩:bg)]))) (λw=>(bF [Pv 4,Pv 5,Bv 6 true] [Xb 4 w.1,Xb 5 w.2])) (λt=>bD 7 16 (b9 8 λG _=>b9 10 λJ _=>Ed 3 false true [.int .i64 G] λB _=>bR 0 B (dw 5 (λC=>(bF [Cv 1 u,Pv 2,Pv 4,Pv 5,Iv 7 t,Cv 13 u,Iv 14 (len u),Iv 15 t,Cv 27 B,Iv 28 (len B),Iv 29 C] [Xb 2 D,Xb 4 (⟨0,0⟩:bg),Xb 5 (⟨0,0⟩:bg)])) (λz=>(2,(bF [Cv 1 u,Pv 2,Pv 4,Pv 5,Cv 13 u,Iv 14 (len u),Iv 15 t] [Xb 2 D,Xb 4 (⟨0,0⟩:bg),Xb 5 (⟨0,0⟩:bg)]))) (λz=>(bF [Pv 4,Pv 5,Bv 6 true] [Xb 4 z.1,Xb 5 z.2])) (λC=>bD 7 30 (b9 8 λI _=>j8 3 10 0 I (di 10 36 (bC 8 λL _=>b9 15 λO _=>bD 4 51 bh bh) bh)) bh) (λz=>bh) (λz=>bh))) bh) (λw=>bh) (λw=>bh))))
def yh (u:Trace) (B:Sl Int):bf Bool:=
 (ga u B).bind λt=>
 some (!t.2.2)
instance UL (u:Trace) (B:Sl Int):Fc Sy cL (yh u B):=Fc.M 94 [enc u,enc B] (dn 2 2 u (bC 7 λt _=>bh))
namespace fm
def eS (B:Sl (Sl Int)) (D:Int) (G:Trace) (u:Int):bf (Fw Int Unit Unit):=
 bp (decide (u<D))
 ((idx B u).bind λt=>
 (yh G t).bind λw=>
 bp w
 (some (.n (IntKind.wrap .i64 (u+1))))
 (some (.r ())))
 (some (.x ()))
def W3 (u:Sl (Sl Int)) (B D:Int) (G:Trace):bf Int:=
 (bM (λq:Int=>eS u B G q) D).bind (Fw.elim
 (λe=>some 0)
 (λe=>some 18))
def cm (J:Sl (Sl Int)) (B:Sl Int) (D:Int) (G:Trace) (u:Int):bf (Fw Int Unit Unit):=
 bp (decide (u<D))
 ((idx B u).bind λt=>
 (Ba G t).bind λw=>
 bp w
 (some (.n (IntKind.wrap .i64 (u+1))))
 (some (.r ())))
 (some (.x ()))
def W2 (B:Sl (Sl Int)) (D:Sl Int) (G J:Int) (u:Trace):bf Int:=
 (bM (λq:Int=>cm B D G u q) J).bind (Fw.elim
 (λe=>fm.W3 B (len B) 0 u)
 (λe=>some 2))
def br (O:Sl (Sl Int)) (B:Sl Int) (D:Sl (Sl Int)) (G:Int) (J:Trace) (u:Int):bf (Fw Int Unit Unit):=
 bp (decide (u<G))
 ((idx D u).bind λt=>
 (iJ J t).bind λw=>
 bp w
 (some (.n (IntKind.wrap .i64 (u+1))))
 (some (.r ())))
 (some (.x ()))
def W1 (O:Sl (Sl Int)) (u:Sl Int) (D:Sl (Sl Int)) (G J:Int) (B:Trace):bf Int:=
 (bM (λq:Int=>br O u D G B q) J).bind (Fw.elim
 (λe=>fm.W2 O u (len u) 0 B)
 (λe=>some 2))
end fm
def fm (D:Trace) (B:Sl (Sl Int)) (u:Sl Int):bf Int:=
 (uh D B).bind λt=>
 bp t
 (fm.W1 B u B (len B) 0 D)
 (some 1)
open fm in
instance VZ (D:Trace) (B:Sl (Sl Int)) (u:Sl Int):Fc Sy cL (fm D B u):=Fc.M 59 [enc D,enc B,enc u] (dn 2 3 D (bC 8 λJ _=>di 3 16 (bR 7 B (dw 5 (λC=>(bF [Cv 1 B,Cv 2 u,Pv 3,Cv 17 B,Iv 18 (len B),Iv 19 C] [Xb 3 D])) (λt=>(0,(bF [Cv 1 B,Cv 2 u,Pv 3] [Xb 3 D]))) (λt=>(bF [Iv 6 2] [])) (λC=>bD 7 20 (b9 7 λL _=>bC 8 λO _=>di 3 26 bh bh) bh) (λt=>bR 6 u (dw 5 (λG=>(bF [Cv 1 B,Pv 3,Cv 28 u,Iv 29 (len u),Iv 30 G] [Xb 3 D])) (λw=>(2,(bF [Cv 1 B,Pv 3] [Xb 3 D]))) (λw=>(bF [Iv 6 2] [])) (λG=>bD 7 31 (b9 7 λQ _=>bC 8 λS _=>di 3 37 bh bh) bh) (λw=>bR 6 B (dw 5 (λI=>(bF [Pv 3,Cv 39 B,Iv 40 (len B),Iv 41 I] [Xb 3 D])) (λz=>(4,(bF [] []))) (λz=>(bF [Iv 6 18] [])) (λI=>bD 7 42 (b9 7 λT _=>bC 8 λU _=>di 3 48 bh bh) bh) (λz=>bh) (λz=>bh))) (λw=>bh))) (λt=>bh))) bh))
def hU (u:Trace) (B:Sl Int):bf Bool:=
 (fm u (Sl.row [B]:Sl (Sl Int)) (Sl.nil:Sl Int)).bind λt=>
 some (t==0)
instance Qp (u:Trace) (B:Sl Int):Fc Sy cL (hU u B):=Fc.M 31 [enc u,enc B] (dn 2 2 u (Bg 7 7 ([B]:a_ (Sl Int)) (jT 0 λt _=>bh)))
def jP (u:Sl Int) (B:Trace):bf Bool:=
 (hU B u).bind λt=>
 some (!t)
instance Rn (u:Sl Int) (B:Trace):Fc Sy cL (jP u B):=Fc.M 30 [enc u,.fptr (cells B)] (bC 9 λt _=>bh)
def gw (s0:Sl Int):bf (Sl Int):=
 (Sl.isNil s0).bind λt=>
 bp t
 (some Sl.nil)
 ((mI (Sl.row []:Sl Int) s0).bind λu=>
 some u)
theorem kH:z_ Sy cL 32 (λs0:Sl Int=>[enc s0]) (λz=>gw z):=z_.mk' (qz (Tx 32)) (λs0=>Vv 9 λt _=>bD 2 4 bh (Aj 7 5 7 λu _=>bh))
namespace dS
def br (a0 J:Sl Int) (D:Int) (u:Sl Int) (B:Int) (p2:(Int×Int)->bf Int):bf (Fw ((Sl Int)×Int) (Sl Int) Empty):=
 bp (decide (B<D))
 ((idx a0 B).bind λt=>
 (idx J B).bind λw=>
 (p2 (t,w)).bind λz=>
 (Sl.j7 u B).bind λC=>
 (Sl.put u C (z:Int)).bind λG=>
 some (.n (G,IntKind.wrap .i64 (B+1))))
 (some (.x u))
def W1 (a0 G u:Sl Int) (B D:Int) (p2:(Int×Int)->bf Int):bf (Sl Int):=
 (bM (λq:(Sl Int)×Int=>br a0 G B q.1 q.2 p2) (u,D)).bind (Fw.elim
 (λe=>some e)
 (λe=>Empty.elim e))
end dS
def dS (a0 u:Sl Int) (p2:(Int×Int)->bf Int):bf (Sl Int):=
 (kX (len a0) (0:Int)).bind λt=>
 dS.W1 a0 u t (len a0) 0 p2
open dS in
abbrev wT (g2:FuncId) (e2:a_ V) (p2:(Int×Int)->bf Int) (G:kG Sy cL g2 [] e2 (λz:Int×Int=>[.int .i64 z.1,.int .i64 z.2]) (λr:Int=>[.int .i64 r]) p2 true) (a0 B:Sl Int):Fc Sy cL (dS a0 B p2):=Fc.N 60 [enc a0,enc B,.clo g2 [] e2] (bR 8 a0 (GC 0 11 λI _=>bR 7 a0 (je 6 (λt=>(bF [Cv 0 a0,Cv 1 B,(2,.v (.clo g2 [] e2)),Ov 7,Iv 13 (len a0),Iv 14 t.2] [Lb 2007 t.1])) (λu=>(0,(bF [Ov 7] [Lb 2007 u]))) (λt=>bD 8 15 (b9 17 λw _=>b9 3 λC _=>wX 1 G.f (w,C) λD _=>mL .i64 0 2007 λJ _=>Ep 0 2007 (.int .i64 D) λL _=>bh) bh) (λu=>bh))))
def om (u B:Int):bf Int:=
 some (if B<u then B else u)
instance QS (u B:Int):Fc Sy cL (om u B):=Fc.M 61 [.int .i64 u,.int .i64 B] (bh)
def sN (a0 u:Sl Int):bf (Sl Int):=
 (dS a0 u (λz=>om z.1 z.2)).bind λt=>
 some t
instance Ug (a0 u:Sl Int):Fc Sy cL (sN a0 u):=Fc.N 33 [enc a0,enc u] (bC (F:=wT 61 [] (λz=>om z.1 z.2) kG.rM a0 u) 9 λt _=>bh)
def qH (u B:Int):bf Int:=
 some (if B>u then B else u)
instance RE (u B:Int):Fc Sy cL (qH u B):=Fc.M 62 [.int .i64 u,.int .i64 B] (bh)
def pZ (a0 u:Sl Int):bf (Sl Int):=
 (dS a0 u (λz=>qH z.1 z.2)).bind λt=>
 some t
instance U4 (a0 u:Sl Int):Fc Sy cL (pZ a0 u):=Fc.N 34 [enc a0,enc u] (bC (F:=wT 62 [] (λz=>qH z.1 z.2) kG.rM a0 u) 9 λt _=>bh)
def iS (s0:Slice) (B:bg):bf (Sl Int):=
 (idx s0.j B.proc).bind λt=>
 (idx t (IntKind.wrap .i64 (B.index-1))).bind λu=>
 some u
abbrev kE (s0:Slice) (u:bg):qh Sy cL (iS s0 u):=qh.mk' 37 ([enc s0,enc u].map .v) [] (λr:Sl Int=>[enc r]) (λ_=>[]) (dn 2 2 s0 (b9 12 λt _=>b9 4 λw _=>bh))
def rZ (s0:Slice) (u:bg):bf ((Sl Int)×(Sl (Sl (Sl Int)))):=
 ((idx s0.j u.proc).bind Sl.whole).bind λt=>
 (Sl.j7 t (IntKind.wrap .i64 (u.index-1))).bind λw=>
 (Sl.get t w).bind λz=>
 (Sl.whole t).bind λB=>
 some (z,jG s0.j u.proc B)
abbrev A7 (s0:Slice) (B:bg):qh Sy cL (rZ s0 B):=qh.mk' 37 [.agg [bv s0.empty,cv s0.first,cv s0.last,.own 194003],cv B] [(194003,ko (s0.j:Sl (Sl (Sl Int))))] (λr:(Sl Int)×(Sl (Sl (Sl Int)))=>[enc r.1]) (λr:(Sl Int)×(Sl (Sl (Sl Int)))=>[(194003,ko (r.2:Sl (Sl (Sl Int))))]) (Wt 2 2 [bv s0.empty,cv s0.first,cv s0.last,.own 194003] (by simp only[List.all_cons,Oa,GK,JN,G9,ox,mS,oF,nX,Ju];rfl) (zx 5 194003 6005 (.c 3 0) λw t=>Gk 6 194003 6005 .i64 t (Hq 0 194003 6005 t (mL .i64 3 6005 λz _=>tu 0 6005 0 1 false (λu=>enc u) λu _=>AI 2 194003 6005 t λC _=>bh))))
namespace e_
def J1 (G D:Sl Int) (B:bg) (u:Slice):bf (Bool×Slice):=
 ((idx u.j B.proc).bind Sl.whole).bind λt=>
 (sN D G).bind λw=>
 (Sl.j7 t (IntKind.wrap .i64 (B.index-1))).bind λz=>
 (Sl.put t z (w:Sl Int)).bind λC=>
 (Sl.whole C).bind λI=>
 some (true,(⟨u.empty,u.first,u.last,jG u.j B.proc I⟩:Slice))
end e_
def e_ (B:bg) (u:Slice) (D:Sl Int):bf (Bool×Slice):=
 (rZ u B).bind λt=>
 (Sl.isNil t.1).bind λw=>
 bp w
 (e_.J1 D D B (⟨u.empty,u.first,u.last,t.2⟩:Slice))
 (e_.J1 D t.1 B (⟨u.empty,u.first,u.last,t.2⟩:Slice))
open e_ in
abbrev DC (B:bg) (u:Slice) (J:Sl Int):qh Sy cL (e_ B u J):=qh.mk' 36 [cv B,.ptr 9500 0,.v (.fptr (cells J))] [(9500,.box [bv u.empty,cv u.first,cv u.last,.own 194003]),(194003,ko u.j)] (λr:Bool×Slice=>[.bool r.1]) (λr:Bool×Slice=>[(9500,.box [bv r.2.empty,cv r.2.first,cv r.2.last,.own 194003]),(194003,ko r.2.j)]) (sK 10 (A7 u B) λI _=>Vv 7 λL _=>bD 2 10 (zp 9 (zx 1 194003 6012 (.c 3 0) λw t=>Gk 6 194003 6012 .i64 t (Hq 0 194003 6012 t (bC 5 λz _=>mL .i64 0 6012 λC _=>Ry 0 6012 λD _=>AI 1 194003 6012 t λG _=>bh)))) (zp 6 (zx 1 194003 6012 (.c 3 0) λw t=>Gk 6 194003 6012 .i64 t (Hq 0 194003 6012 t (bC 5 λz _=>mL .i64 0 6012 λC _=>Ry 0 6012 λD _=>AI 1 194003 6012 t λG _=>bh)))))
section
variable {σ:Type} (f:bg->σ->bf (Bool×σ))
def v_ (p n:Int) (q:Int×σ):bf (Fw (Int×σ) σ σ):=bp (decide (q.1<n)) ((f (⟨p,IntKind.wrap .i64 (q.1+1)⟩:bg) q.2).bind λy=>bp y.1 (some (.n (IntKind.wrap .i64 (q.1+1),y.2))) (some (.r y.2))) (some (.x q.2))
def vT (c:Sl Int) (q:Int×σ):bf (Fw (Int×σ) σ σ):=bp (decide (q.1<len c)) ((idx c q.1).bind λy=>(bM (v_ f q.1 y) (0,q.2)).bind (Fw.elim (λe=>some (.n (IntKind.wrap .i64 (q.1+1),e))) (λe=>some (.r e)))) (some (.x q.2))
def oB (c:Sl Int) (f:bg->σ->bf (Bool×σ)) (s:σ):bf (Bool×σ):=(bM (vT f c) (0,s)).bind (Fw.elim (λe=>some (true,e)) (λe=>some (false,e)))
end
section
variable {σ:Type} {gf:FuncId} {ex:a_ SV} {os:σ->c7} {p:bg->σ->bf (Bool×σ)} (h:y8 Sy cL (.clo gf [] ex) gf ex os p) (s0:Sl Int) (x:σ)
abbrev GY:qh Sy cL (oB s0 p x):=qh.mk' 35 [cv s0,(.clo gf [] ex)] (os x) (λr=>[.bool r.1]) (λr=>os r.2)
 (bR 9 s0 (dw 5 (λq=>⟨[(1,(.clo gf [] ex)),Cv 8 s0,Iv 9 (len s0),Iv 10 q.1],os q.2,(os x).map (·.1),[],true,0⟩) (λe=>(0,⟨[],os e,(os x).map (·.1),[],true,0⟩)) (λe=>⟨[Bv 4 false],os e,(os x).map (·.1),[],true,0⟩)
  (λq=>bD 7 11 (b9 8 λy _=>dw 13 (λz=>⟨[(1,(.clo gf [] ex)),Cv 8 s0,Iv 9 (len s0),Iv 10 q.1,Iv 5 q.1,Iv 15 y,Iv 16 z.1],os z.2,(os x).map (·.1),[],true,0⟩) (λe=>(2,⟨[(1,(.clo gf [] ex)),Cv 8 s0,Iv 9 (len s0),Iv 10 q.1],os e,(os x).map (·.1),[],true,0⟩)) (λe=>⟨[Bv 4 false],os e,(os x).map (·.1),[],true,0⟩)
   (λz=>bD 7 17 (M4 18 h (⟨q.1,IntKind.wrap .i64 (z.1+1)⟩:bg) z.2 λr _=>di 3 25 bh bh) bh) (λe=>bh) (λe=>bh)) bh) (λe=>Q8 9 h [.bool true] rfl) (λe=>Le.of_eq (G5 h (ys:=[.bool false]) Ze rfl)))) (hp:=λr=>h.wi x r.2)
end
section
variable {σ:Type} {gf:FuncId} {ex:a_ V} {os:σ->c7} {p:bg->σ->bf (Bool×σ)} (h:y8 Sy cL (.v (.clo gf [] ex)) gf (ex.map .v) os p) (s0:Sl Int) (x:σ)
abbrev HW:qh Sy cL (oB s0 p x):=qh.mk' 35 [cv s0,(.v (.clo gf [] ex))] (os x) (λr=>[.bool r.1]) (λr=>os r.2)
 (bR 9 s0 (dw 5 (λq=>⟨[(1,(.v (.clo gf [] ex))),Cv 8 s0,Iv 9 (len s0),Iv 10 q.1],os q.2,(os x).map (·.1),[],true,0⟩) (λe=>(0,⟨[],os e,(os x).map (·.1),[],true,0⟩)) (λe=>⟨[Bv 4 false],os e,(os x).map (·.1),[],true,0⟩)
  (λq=>bD 7 11 (b9 8 λy _=>dw 13 (λz=>⟨[(1,(.v (.clo gf [] ex))),Cv 8 s0,Iv 9 (len s0),Iv 10 q.1,Iv 5 q.1,Iv 15 y,Iv 16 z.1],os z.2,(os x).map (·.1),[],true,0⟩) (λe=>(2,⟨[(1,(.v (.clo gf [] ex))),Cv 8 s0,Iv 9 (len s0),Iv 10 q.1],os e,(os x).map (·.1),[],true,0⟩)) (λe=>⟨[Bv 4 false],os e,(os x).map (·.1),[],true,0⟩)
   (λz=>bD 7 17 (M4 18 h (⟨q.1,IntKind.wrap .i64 (z.1+1)⟩:bg) z.2 λr _=>di 3 25 bh bh) bh) (λe=>bh) (λe=>bh)) bh) (λe=>Q8 9 h [.bool true] rfl) (λe=>Le.of_eq (G5 h (ys:=[.bool false]) Ze rfl)))) (hp:=λr=>h.wi x r.2)
end
def gu (c:Sl Int) (p:bg->bf Bool):bf Bool:=(oB c (λx u=>(p x).map λb=>(b,u)) ()).map (·.1)
abbrev pF {gf:FuncId} {ex:a_ V} {p:bg->bf Bool} (h:kG Sy cL gf [] ex (λz:bg=>[enc z]) (λr:Bool=>[.bool r]) p true) (s0:Sl Int):qh Sy cL (gu s0 p):=qh.map (HW (y8.X7 h) s0 ()) (·.1) (λr=>[.bool r]) (λ_=>[]) (λ_=>rfl) (λ_=>rfl)
namespace dB
def cm (G:Sl (Sl Int)) (J:Int) (B:Int) (D u:Slice):bf (Fw (Int×Slice×Slice) (Slice×Slice) Empty):=
 bp (decide (B<J))
 ((idx G B).bind λt=>
 (sN u.first t).bind λw=>
 (pZ u.last t).bind λz=>
 (oB t (λx s=>e_ x s t) (⟨u.empty,w,z,u.j⟩:Slice)).bind λC=>
 some (.n (IntKind.wrap .i64 (B+1),(⟨D.empty,Sl.nil,Sl.nil,Sl.nil⟩:Slice),C.2)))
 (some (.x ((⟨D.empty,Sl.nil,Sl.nil,Sl.nil⟩:Slice),u)))
def W2 (B:Sl (Sl Int)) (D G:Int) (J u:Slice):bf (Slice×Int):=
 (bM (λq:Int×Slice×Slice=>cm B D q.1 q.2.1 q.2.2) (G,J,u)).bind (Fw.elim
 (λe=>some (e.2,0))
 (λe=>Empty.elim e))
def br (O:Sl (Sl Int)) (G:Sl cu) (J:Int) (B:Int) (D u:Slice):bf (Fw (Int×Slice×Slice) (Slice×Slice) Empty):=
 bp (decide (B<J))
 ((idx G B).bind λw=>
 (kX (len w.events) (Sl.nil:Sl Int)).bind λz=>
 (Sl.whole z).bind λt=>
 (eT u.j t).bind λC=>
 some (.n (IntKind.wrap .i64 (B+1),(⟨D.empty,Sl.nil,Sl.nil,Sl.nil⟩:Slice),(⟨u.empty,u.first,u.last,C⟩:Slice))))
 (some (.x ((⟨D.empty,Sl.nil,Sl.nil,Sl.nil⟩:Slice),u)))
def W1 (B:Sl (Sl Int)) (D:Sl cu) (G J:Int) (O u:Slice):bf (Slice×Int):=
 (bM (λq:Int×Slice×Slice=>br B D G q.1 q.2.1 q.2.2) (J,O,u)).bind (Fw.elim
 (λe=>dB.W2 B (len B) 0 (⟨e.1.empty,Sl.nil,Sl.nil,Sl.nil⟩:Slice) e.2)
 (λe=>Empty.elim e))
end dB
def dB (B:Trace) (u:Sl (Sl Int)):bf (Slice×Int):=
 (cE B).bind λt=>
 bp t
 (bp (decide ((len u)>5000))
 (some (⟨false,Sl.nil,Sl.nil,Sl.nil⟩,5))
 ((dK u (λz=>jP z B)).bind λw=>
 bp w
 (some (⟨false,Sl.nil,Sl.nil,Sl.nil⟩,18))
 (bp ((len u)==0)
 (some (⟨true,Sl.nil,Sl.nil,Sl.nil⟩,0))
 ((idx u 0).bind λC=>
 (gw C).bind λD=>
 (idx u 0).bind λG=>
 (gw G).bind λI=>
 dB.W1 u B.procs (len B.procs) 0 (⟨false,Sl.nil,Sl.nil,Sl.nil⟩:Slice) (⟨false,D,I,Sl.nil⟩:Slice)))))
 (some (⟨false,Sl.nil,Sl.nil,Sl.nil⟩,1))
open dB in
instance Vx (G:Trace) (D:Sl (Sl Int)):Fc Sy cL (dB G D):=Fc.N 9 [enc G,enc D] (dn 2 2 G (bC 9 λY _=>di 4 11 (bR 4 D (bD 4 16 (B4 3 (⟨false,Sl.nil,Sl.nil,Sl.nil⟩:Slice) [] [.bool false,.bN,.bN,.bN] [] (by simp only[nW,pz,gT,uk,rA,uP,uF];rfl) rfl (j8 0 4 0 (⟨false,Sl.nil,Sl.nil,Sl.nil⟩:Slice) bh)) (jT (F:=kJ 30 [.fptr (cells G)] (λz=>jP z G) kG.rM D) 5 λZ _=>bD 3 21 (B4 3 (⟨false,Sl.nil,Sl.nil,Sl.nil⟩:Slice) [] [.bool false,.bN,.bN,.bN] [] (by simp only[nW,pz,gT,uk,rA,uP,uF];rfl) rfl (j8 0 4 0 (⟨false,Sl.nil,Sl.nil,Sl.nil⟩:Slice) bh)) (bR 4 D (bD 4 26 (B4 3 (⟨true,Sl.nil,Sl.nil,Sl.nil⟩:Slice) [.bool true] [.bool false,.bN,.bN,.bN] [(0,1)] (by simp only[nW,pz,gT,uk,rA,uP,uF];rfl) rfl (j8 0 4 0 (⟨true,Sl.nil,Sl.nil,Sl.nil⟩:Slice) bh)) (b9 7 λT _=>Rt 1 kH T λL _=>b9 1 λU _=>Rt 1 kH U λO _=>B4 0 (⟨false,L,O,Sl.nil⟩:Slice) [enc L,enc O] [.bool false,.bN,.bN,.bN] [(1,1),(2,1)] (by simp only[nW,pz,gT,uk,rA,uP,uF];rfl) rfl (j8 1 6 0 (⟨false,L,O,Sl.nil⟩:Slice) (bR 8 G.procs (je 7 (λw=>(bF [Cv 1 D,Pv 4,(6,.ptr 9500 0),Cv 41 G.procs,Iv 42 (len G.procs),Iv 43 w.1] [Xb 4 (⟨w.2.1.empty,Sl.nil,Sl.nil,Sl.nil⟩:Slice),(9500,.box [bv w.2.2.empty,cv w.2.2.first,cv w.2.2.last,.own 194003]),(194003,ko w.2.2.j)])) (λC=>(1,(bF [Cv 1 D,Pv 4,(6,.ptr 9500 0)] [Xb 4 (⟨C.1.empty,Sl.nil,Sl.nil,Sl.nil⟩:Slice),(9500,.box [bv C.2.empty,cv C.2.first,cv C.2.last,.own 194003]),(194003,ko C.2.j)]))) (λw=>bD 9 44 (b9 7 λS _=>j8 2 8 0 S (bR 7 S.events (GC 0 52 λaa _=>Uf (α:=Sl Int) 0 53 52 (Uv 0 194003 53 52 54 λW _ ab _=>bh)))) bh) (λC=>bR 6 D (je 7 (λt=>(bF [Pv 4,(6,.ptr 9500 0),Cv 57 D,Iv 58 (len D),Iv 59 t.1] [Xb 4 (⟨t.2.1.empty,Sl.nil,Sl.nil,Sl.nil⟩:Slice),(9500,.box [bv t.2.2.empty,cv t.2.2.first,cv t.2.2.last,.own 194003]),(194003,ko t.2.2.j)])) (λB=>(3,(bF [Pv 4,(6,.ptr 9500 0)] [Xb 4 (⟨B.1.empty,Sl.nil,Sl.nil,Sl.nil⟩:Slice),(9500,.box [bv B.2.empty,cv B.2.first,cv B.2.last,.own 194003]),(194003,ko B.2.j)]))) (λt=>bD 9 60 (b9 7 λu _=>j8 2 10 0 u (bC 7 λI _=>bC 3 λJ _=>j8 1 9500 1 I (j8 1 9500 2 J (sK 6 (GY (y8.XZ (σ:=Slice) (g:=36) (e:=[.ptr 9500 0,cp u]) (os:=λs=>[(9500,.box [bv s.empty,cv s.first,cv s.last,.own 194003]),(194003,ko s.j)]) (p:=(λQ s=>e_ Q s u)) (λQ s=>DC Q s u)) u (⟨t.2.2.empty,I,J,t.2.2.j⟩:Slice)) λX _=>bh)))) bh) (λB=>j8 6 4 0 B.2 bh)))))))))))) (B4 3 (⟨false,Sl.nil,Sl.nil,Sl.nil⟩:Slice) [] [.bool false,.bN,.bN,.bN] [] (by simp only[nW,pz,gT,uk,rA,uP,uF];rfl) rfl (j8 0 4 0 (⟨false,Sl.nil,Sl.nil,Sl.nil⟩:Slice) bh))))
namespace dO
def br (a0 B:Sl Int) (u:Int):bf (Fw Int Unit Unit):=
 bp (decide (u<(len a0)))
 ((idx a0 u).bind λt=>
 (idx B u).bind λw=>
 bp (t==w)
 (some (.n (IntKind.wrap .i64 (u+1))))
 (some (.r ())))
 (some (.x ()))
def W1 (a0 u:Sl Int) (B:Int):bf Bool:=
 (bM (λq:Int=>br a0 u q) B).bind (Fw.elim
 (λe=>some true)
 (λe=>some false))
end dO
def dO (a0 u:Sl Int):bf Bool:=
 bp ((len a0)==(len u))
 (dO.W1 a0 u 0)
 (some false)
open dO in
instance Oj (a0 B:Sl Int):Fc Sy cL (dO a0 B):=Fc.M 49 [enc a0,enc B] (bR 9 a0 (bR 1 B (di 3 10 (dw 11 (λu=>(bF [Cv 0 a0,Cv 1 B,Iv 5 u] [])) (λt=>(0,(bF [] []))) (λt=>(bF [Bv 4 false] [])) (λu=>bR 6 a0 (bD 3 14 (b9 9 λw _=>b9 3 λz _=>di 4 25 bh bh) bh)) (λt=>bh) (λt=>bh)) bh)))
namespace eN
def br (a0 B:Sl (Sl Int)) (u:Int):bf (Fw Int Unit Unit):=
 bp (decide (u<(len a0)))
 ((idx a0 u).bind λt=>
 (idx B u).bind λw=>
 (dO t w).bind λz=>
 bp z
 (some (.n (IntKind.wrap .i64 (u+1))))
 (some (.r ())))
 (some (.x ()))
def W1 (a0 u:Sl (Sl Int)) (B:Int):bf Bool:=
 (bM (λq:Int=>br a0 u q) B).bind (Fw.elim
 (λe=>some true)
 (λe=>some false))
end eN
def eN (a0 u:Sl (Sl Int)):bf Bool:=
 bp ((len a0)==(len u))
 (eN.W1 a0 u 0)
 (some false)
open eN in
instance Ng (a0 B:Sl (Sl Int)):Fc Sy cL (eN a0 B):=Fc.M 18 [enc a0,enc B] (bR 9 a0 (bR 1 B (di 3 10 (dw 11 (λu=>(bF [Cv 0 a0,Cv 1 B,Iv 5 u] [])) (λt=>(0,(bF [] []))) (λt=>(bF [Bv 4 false] [])) (λu=>bR 6 a0 (bD 3 14 (b9 9 λw _=>b9 3 λz _=>jT 1 λC _=>di 3 26 bh bh) bh)) (λt=>bh) (λt=>bh)) bh)))
namespace dV
def br (u B:Slice) (p5:Int):bf (Fw Int Unit Unit):=
 bp (decide (p5<(len u.j)))
 ((idx u.j p5).bind λt=>
 (idx B.j p5).bind λw=>
 (eN t w).bind λz=>
 bp z
 (some (.n (IntKind.wrap .i64 (p5+1))))
 (some (.r ())))
 (some (.x ()))
def W1 (p5:Int) (u B:Slice):bf Bool:=
 (bM (λq:Int=>br u B q) p5).bind (Fw.elim
 (λe=>some true)
 (λe=>some false))
end dV
def dV (a0 u:Slice):bf Bool:=
 (bp (a0.empty==u.empty)
 ((dO a0.first u.first).bind λt=>
 some (!t))
 (some true):bf Bool).bind λw=>
 (bp w
 (some true)
 ((dO a0.last u.last).bind λz=>
 some (!z)):bf Bool).bind λB=>
 (bp B
 (some true)
 (some (!((len a0.j)==(len u.j)))):bf Bool).bind λC=>
 bp C
 (some false)
 (dV.W1 0 a0 u)
open dV in
instance T9 (a0 u:Slice):Fc Sy cL (dV a0 u):=Fc.M 16 [enc a0,enc u] (dn 2 2 a0 (dn 0 3 u (bZ 12 7 [11] 18 (di 12 11 (bC 4 λz _=>bB 2) (bB 7)) λB=>bZ 1 7 [19] 26 (bD 1 19 (bB 7) (bC 4 λC _=>bB 2)) λD=>bZ 1 8 [27] 35 (bD 1 27 (bB 8) (bR 2 a0.j (bR 2 u.j (bB 2)))) λG=>bD 2 35 bh (dw 11 (λw=>(bF [Pv 2,Pv 3,Iv 5 w] [Xb 2 a0,Xb 3 u])) (λt=>(0,(bF [] []))) (λt=>(bF [Bv 4 false] [])) (λw=>bR 7 a0.j (bD 3 40 (b9 10 λI _=>b9 4 λJ _=>jT 1 λL _=>di 3 54 bh bh) bh)) (λt=>bh) (λt=>bh)))))
def qt (s0:Slice):bf Bool:=
 (dV s0 (⟨false,Sl.nil,Sl.nil,Sl.nil⟩:Slice)).bind λt=>
 some t
instance TR (s0:Slice):Fc Sy cL (qt s0):=Fc.M 10 [enc s0] (dn 2 1 s0 (B4 6 (⟨false,Sl.nil,Sl.nil,Sl.nil⟩:Slice) [] [.bool false,.bN,.bN,.bN] [] (by simp only[nW,pz,gT,uk,rA,uP,uF];rfl) rfl (bC 0 λt _=>bh)))
namespace gG
def br (a0 D:Sl Int) (B:Int) (u:Int):bf (Fw Int Unit Unit):=
 bp (decide (u<B))
 ((idx a0 u).bind λt=>
 (idx D u).bind λw=>
 bp (decide (t>w))
 (some (.r ()))
 (some (.n (IntKind.wrap .i64 (u+1)))))
 (some (.x ()))
def W1 (a0 D:Sl Int) (u B:Int):bf Bool:=
 (bM (λq:Int=>br a0 D u q) B).bind (Fw.elim
 (λe=>some true)
 (λe=>some false))
end gG
def gG (a0 u:Sl Int):bf Bool:=
 bp ((len a0)==(len u))
 (gG.W1 a0 u (len a0) 0)
 (some false)
open gG in
instance Xd (a0 B:Sl Int):Fc Sy cL (gG a0 B):=Fc.M 44 [enc a0,enc B] (bR 9 a0 (bR 1 B (di 3 10 (bR 7 a0 (dw 5 (λu=>(bF [Cv 0 a0,Cv 1 B,Iv 12 (len a0),Iv 13 u] [])) (λt=>(0,(bF [] []))) (λt=>(bF [Bv 4 false] [])) (λu=>bD 7 14 (b9 15 λw _=>b9 3 λz _=>bD 4 24 bh bh) bh) (λt=>bh) (λt=>bh))) bh)))
namespace gU
def br (B:Sl (Sl (Sl Int))) (D:Int) (G:Trace) (u:Int):bf (Fw Int Unit Unit):=
 bp (decide (u<D))
 ((idx B u).bind λt=>
 (idx G.procs u).bind λw=>
 bp ((len t)==(len w.events))
 (some (.n (IntKind.wrap .i64 (u+1))))
 (some (.r ())))
 (some (.x ()))
def W1 (u:Sl (Sl (Sl Int))) (B D:Int) (G:Trace):bf Bool:=
 (bM (λq:Int=>br u B G q) D).bind (Fw.elim
 (λe=>some true)
 (λe=>some false))
end gU
def gU (B:Trace) (u:Slice):bf Bool:=
 (hU B u.first).bind λt=>
 (bp t
 ((hU B u.last).bind λw=>
 some (!w))
 (some true):bf Bool).bind λz=>
 (bp z
 (some true)
 ((gG u.first u.last).bind λC=>
 some (!C)):bf Bool).bind λD=>
 (bp D
 (some true)
 (some (!((len u.j)==(len B.procs)))):bf Bool).bind λG=>
 bp G
 (some false)
 (gU.W1 u.j (len u.j) 0 B)
open gU in
instance Tg (B:Trace) (u:Slice):Fc Sy cL (gU B u):=Fc.M 38 [enc B,enc u] (dn 2 2 B (dn 0 3 u (bC 9 λD _=>bZ 2 6 [12] 18 (di 2 12 (bC 3 λG _=>bB 2) (bB 6)) λI=>bZ 1 7 [19] 26 (bD 1 19 (bB 7) (bC 4 λJ _=>bB 2)) λL=>bZ 1 8 [27] 35 (bD 1 27 (bB 8) (bR 2 u.j (bR 2 B.procs (bB 2)))) λO=>bD 2 35 bh (bR 8 u.j (dw 5 (λw=>(bF [Pv 2,Cv 37 u.j,Iv 38 (len u.j),Iv 39 w] [Xb 2 B])) (λt=>(0,(bF [] []))) (λt=>(bF [Bv 4 false] [])) (λw=>bD 7 40 (b9 8 λz _=>bR 8 z (b9 3 λC _=>bR 2 C.events (di 3 53 bh bh))) bh) (λt=>bh) (λt=>bh))))))
namespace fV
def br (D:Sl cu) (G:Int) (u:Sl Int) (B:Int):bf (Fw ((Sl Int)×Int) (Sl Int) Empty):=
 bp (decide (B<G))
 ((idx D B).bind λt=>
 (eT u (len t.events:Int)).bind λw=>
 some (.n (w,IntKind.wrap .i64 (B+1))))
 (some (.x u))
def W1 (u:Sl Int) (B:Sl cu) (D G:Int):bf (Sl Int):=
 (bM (λq:(Sl Int)×Int=>br B D q.1 q.2) (u,G)).bind (Fw.elim
 (λe=>some e)
 (λe=>Empty.elim e))
end fV
def fV (u:Trace):bf (Sl Int):=
 fV.W1 (Sl.nil:Sl Int) u.procs (len u.procs) 0
open fV in
instance TX (u:Trace):Fc Sy cL (fV u):=Fc.N 39 [enc u] (dn 2 1 u (bR 13 u.procs (je 6 (λt=>(bF [Ov 3,Cv 7 u.procs,Iv 8 (len u.procs),Iv 9 t.2] [Lb 2003 t.1])) (λw=>(0,(bF [Ov 3] [Lb 2003 w]))) (λt=>bD 8 10 (b9 7 λz _=>j8 2 5 0 z (bR 6 z.events (vH 1 2003 17 18 λB _=>bh))) bh) (λw=>bh))))
def pH (u:bg) (B:Sl Int):bf Bool:=
 (idx B u.proc).bind λt=>
 some (decide (u.index<=t))
instance WG (u:bg) (B:Sl Int):Fc Sy cL (pH u B):=Fc.M 63 [enc u,enc B] (b9 13 λt _=>bh)
namespace eB
def br (B D:Sl Int) (G:Int) (u:Int):bf (Fw Int Unit Unit):=
 bp (decide (u<G))
 ((idx B u).bind λt=>
 (idx D u).bind λw=>
 bp (t==w)
 (some (.n (IntKind.wrap .i64 (u+1))))
 (some (.r ())))
 (some (.x ()))
def W1 (u B:Sl Int) (D G:Int):bf Bool:=
 (bM (λq:Int=>br u B D q) G).bind (Fw.elim
 (λe=>some true)
 (λe=>some false))
end eB
def eB (u B:Sl Int):bf Bool:=
 bp ((len u)==(len B))
 (eB.W1 u B (len u) 0)
 (some false)
open eB in
instance MB (u B:Sl Int):Fc Sy cL (eB u B):=Fc.M 64 [enc u,enc B] (bR 9 u (bR 1 B (di 3 10 (bR 7 u (dw 5 (λw=>(bF [Cv 0 u,Cv 1 B,Iv 12 (len u),Iv 13 w] [])) (λt=>(0,(bF [] []))) (λt=>(bF [Bv 4 false] [])) (λw=>bD 7 14 (b9 15 λz _=>b9 3 λC _=>di 4 24 bh bh) bh) (λt=>bh) (λt=>bh))) bh)))
def tY (T:Trace) (u:Slice) (x2:bg):bf Bool:=
 (iS u x2).bind λt=>
 (pH x2 u.last).bind λB=>
 bp B
 ((pH x2 u.first).bind λC=>
 bp C
 ((eB t u.first).bind λD=>
 some D)
 ((hU T t).bind λG=>
 (bp G
 ((pH x2 t).bind λI=>
 some I)
 (some false):bf Bool).bind λJ=>
 (bp J
 ((gG u.first t).bind λL=>
 some L)
 (some false):bf Bool).bind λO=>
 (bp O
 ((gG t u.last).bind λw=>
 some w)
 (some false):bf Bool).bind λz=>
 some z))
 (some ((len t)==0))
instance Ub (B:Trace) (u:Slice) (x2:bg):Fc Sy cL (tY B u x2):=Fc.M 41 [enc B,enc u,enc x2] (dn 2 3 B (dn 0 4 u (sK 8 (kE u x2) λt _=>bC 10 λC _=>di 4 11 (bC 6 λD _=>bD 3 20 (bC 6 λG _=>bh) (bC 8 λI _=>bZ 1 4 [5,32] 36 (bD 1 32 (bC 2 λJ _=>bB 1) (bB 4)) λL=>bZ 1 5 [37] 42 (bD 1 37 (bC 3 λO _=>bB 1) (bB 5)) λQ=>bZ 1 5 [4,7,43] 48 (bD 1 43 (bC 3 λw _=>bB 1) (bB 5)) λz=>bh)) (bR 4 t bh))))
def nN (u:bg) (B:Trace) (D:Slice):bf Bool:=
 (tY B D u).bind λt=>
 some t
instance Qj (u:bg) (B:Trace) (D:Slice):Fc Sy cL (nN u B D):=Fc.M 40 [enc u,.fptr (cells B),.fptr (cells D)] (bC 11 λt _=>bh)
def mW (B:bg) (D:Slice) (G:Sl Int):bf Bool:=
 (iS D B).bind λt=>
 (gG t G).bind λu=>
 some u
instance L_ (u:bg) (B:Slice) (D:Sl Int):Fc Sy cL (mW u B D):=Fc.M 43 [enc u,.fptr (cells B),.fptr (cells D)] (CA 10 (kE B u) [enc B,enc u] λt _=>jT 1 λw _=>bh)
def qb (D:bg) (B:Slice):bf Bool:=
 (iS B D).bind λt=>
 (gu t (λz=>mW z B t)).bind λu=>
 some u
instance OI (B:bg) (u:Slice):Fc Sy cL (qb B u):=Fc.M 42 [enc B,.fptr (cells u)] (sK 10 (kE u B) λt _=>j8 1 4 0 t (sK 7 (pF (gf:=43) (ex:=[.fptr (cells u),.fptr (cells t)]) (p:=(λz=>mW z u t)) kG.rM t) λw _=>bh))
def fF (B:Trace) (u:Slice):bf Bool:=
 (cE B).bind λt=>
 bp t
 (bp u.empty
 ((bp ((len u.first)==0)
 (some ((len u.last)==0))
 (some false):bf Bool).bind λw=>
 (bp w
 (some ((len u.j)==0))
 (some false):bf Bool).bind λC=>
 some C)
 ((gU B u).bind λD=>
 (bp D
 ((fV B).bind λG=>
 (gu G (λz=>nN z B u)).bind λI=>
 some (!I))
 (some true):bf Bool).bind λJ=>
 bp J
 (some false)
 ((gu u.last (λz=>qb z u)).bind λL=>
 some L)))
 (some false)
instance TV (B:Trace) (u:Slice):Fc Sy cL (fF B u):=Fc.M 11 [enc B,enc u] (dn 2 2 B (dn 0 3 u (bC 7 λC _=>di 3 7 (bD 10 9 (bR 5 u.first (bZ 2 5 [14] 19 (bD 2 14 (bR 2 u.last (bB 2)) (bB 5)) λD=>bZ 1 5 [3,20] 25 (bD 1 20 (bR 2 u.j (bB 2)) (bB 5)) λG=>bh)) (bC 8 λI _=>CE 2 6 [] (λt=>(bF [Kv 3 u,Bv 7 false,Bv 9 false,Bv 36 t] [])) (di 2 30 (bC 1 λw _=>sK 3 (pF (gf:=40) (ex:=[.fptr (cells B),.fptr (cells u)]) (p:=(λz=>nN z B u)) kG.rM w) λJ _=>bB 2) (bB 8)) λt=>bD 2 36 bh (sK 8 (pF (gf:=42) (ex:=[.fptr (cells u)]) (p:=(λz=>qb z u)) kG.rM u.last) λL _=>bh))) bh)))
def nD (B:bg) (D:Slice) (G:Sl Int):bf Bool:=
 (iS D B).bind λt=>
 (gG t G).bind λu=>
 some u
instance TJ (u:bg) (B:Slice) (D:Sl Int):Fc Sy cL (nD u B D):=Fc.M 65 [enc u,.fptr (cells B),.fptr (cells D)] (CA 10 (kE B u) [enc B,enc u] λt _=>jT 1 λw _=>bh)
def pL (s0:Slice) (u:Sl Int):bf Bool:=
 (bp s0.empty
 (some false)
 ((gG s0.first u).bind λt=>
 some t):bf Bool).bind λw=>
 (bp w
 ((gG u s0.last).bind λB=>
 some B)
 (some false):bf Bool).bind λC=>
 (bp C
 ((gu u (λz=>nD z s0 u)).bind λD=>
 some D)
 (some false):bf Bool).bind λG=>
 some G
instance V4 (s0:Slice) (u:Sl Int):Fc Sy cL (pL s0 u):=Fc.M 45 [enc s0,enc u] (dn 2 2 s0 (dn 0 3 u (bZ 9 5 [8] 13 (di 9 8 (bB 5) (bC 3 λw _=>bB 1)) λB=>bZ 1 5 [14] 19 (bD 1 14 (bC 3 λC _=>bB 1) (bB 5)) λD=>CE 1 4 [] (λt=>(bF [Bv 24 t] [])) (bD 1 20 (sK 4 (pF (gf:=65) (ex:=[.fptr (cells s0),.fptr (cells u)]) (p:=(λz=>nD z s0 u)) kG.rM u) λG _=>bB 1) (bB 6)) λt=>bh)))
def pE (D:Trace) (G:Slice) (J:Sl Int):bf Bool:=
 (fF D G).bind λt=>
 (bp t
 ((hU D J).bind λu=>
 some u)
 (some false):bf Bool).bind λw=>
 (bp w
 ((pL G J).bind λz=>
 some z)
 (some false):bf Bool).bind λB=>
 some B
instance VU (u:Trace) (B:Slice) (D:Sl Int):Fc Sy cL (pE u B D):=Fc.M 12 [enc u,enc B,enc D] (dn 2 3 u (dn 0 4 B (bC 7 λt _=>bZ 1 4 [3,10] 14 (bD 1 10 (bC 2 λw _=>bB 1) (bB 4)) λz=>bZ 1 4 [2,4,15] 19 (bD 1 15 (bC 2 λC _=>bB 1) (bB 4)) λG=>bh)))
def lE (B:bg) (D G:Slice):bf Bool:=
 (iS G B).bind λt=>
 (pL D t).bind λu=>
 some u
instance Sw (u:bg) (D B:Slice):Fc Sy cL (lE u D B):=Fc.M 46 [enc u,.fptr (cells D),.fptr (cells B)] (CA 11 (kE B u) [enc B,enc u] λt _=>jT 0 λw _=>bh)
def uG (J:Trace) (u B:Slice):bf (Bool×Int):=
 (fF J u).bind λt=>
 (bp t
 ((fF J B).bind λw=>
 some (!w))
 (some true):bf Bool).bind λC=>
 bp C
 (some (false,1))
 (bp u.empty
 (some (true,0))
 ((pL B u.first).bind λD=>
 (bp D
 ((gu u.last (λz=>lE z B u)).bind λG=>
 some G)
 (some false):bf Bool).bind λI=>
 some (I,0)))
instance VW (D:Trace) (u B:Slice):Fc Sy cL (uG D u B):=Fc.M 13 [enc D,enc u,enc B] (dn 2 3 D (dn 0 4 u (dn 0 5 B (bC 9 λw _=>bZ 2 5 [3,12] 17 (di 2 12 (bC 2 λC _=>bB 2) (bB 5)) λG=>bD 2 17 bh (bD 10 19 bh (bC 8 λI _=>CE 1 5 [] (λt=>(bF [Bv 17 false,Bv 19 false,Bv 29 t] [Xb 3 D])) (bD 1 24 (sK 5 (pF (gf:=46) (ex:=[.fptr (cells B),.fptr (cells u)]) (p:=(λz=>lE z B u)) kG.rM u.last) λJ _=>bB 1) (bB 7)) λt=>bh))))))
namespace iK
def br (B:Trace) (u:Sl Int) (p2:Sl Int->(bg×bg)->bf (Sl Int)):bf (Fw (Sl Int) Empty (Sl Int)):=
 (ga B u).bind λt=>
 bp t.2.2
 ((p2 u (t.1,t.2.1)).bind λw=>
 some (.n w))
 (some (.r u))
def W1 (u:Sl Int) (B:Trace) (p2:Sl Int->(bg×bg)->bf (Sl Int)):bf ((Sl Int)×Int):=
 (bM (λq:Sl Int=>br B q p2) u).bind (Fw.elim
 (λe=>Empty.elim e)
 (λe=>some (e,0)))
end iK
def iK (B:Trace) (u:Sl Int) (p2:Sl Int->(bg×bg)->bf (Sl Int)):bf ((Sl Int)×Int):=
 (uh B (Sl.row [u]:Sl (Sl Int))).bind λt=>
 bp t
 ((iJ B u).bind λw=>
 bp w
 (((gw u).bind Sl.whole).bind λz=>
 iK.W1 z B p2)
 (some ((Sl.nil:Sl Int),2)))
 (some ((Sl.nil:Sl Int),1))
open iK in
abbrev DX (g2:FuncId) (e2:a_ V) (p2:Sl Int->(bg×bg)->bf (Sl Int)) (G:N0 Sy g2 e2 (λz:bg×bg=>[enc z.1,enc z.2]) p2) (D:Trace) (u:Sl Int):Fc Sy cL (iK D u p2):=Fc.N 66 [enc D,enc u,.clo g2 [] e2] (dn 2 3 D (Bg 10 15 ([u]:a_ (Sl Int)) (jT 0 λC _=>di 4 12 (bC 5 λI _=>di 4 18 (Lj 7 24 kH u λJ _=>VC 6 (λt=>(bF [(2,.v (.clo g2 [] e2)),Pv 3,Ov 8] [Xb 3 D,Lb 2008 t])) (λw=>(bF [Ov 6,Iv 7 0] [Lb 2006 w])) (λt=>jT 7 λB _=>di 18 33 (Uy 8 2008 G (B.1,B.2.1) λL _=>bh) bh) (λw=>bh)) bh) bh)))
def uy (B:Trace) (u:Sl Int):bf ((Sl Int)×Int):=
 (iK B u (λs (z:bg×bg)=>s.setAt z.1.proc z.1.index)).bind λt=>
 some (t.1,t.2)
instance V3 (B:Trace) (u:Sl Int):Fc Sy cL (uy B u):=Fc.N 47 [enc B,enc u] (dn 2 2 B (bC (F:=DX 67 [] (λs (z:bg×bg)=>s.setAt z.1.proc z.1.index) (N0.xz (op:=false) Vy Ze Ze) B u) 8 λt _=>bh))
namespace gb
def cm (p5:Int) (T:Sl cu) (U W O:Int) (B:Trace) (u:Sl (Sl Int)) (D:Int) (G J:Slice):bf (Fw ((Sl (Sl Int))×Int×Slice×Slice) ((Sl (Sl Int))×Trace×Slice×Slice) Empty):=
 bp (decide (D<O))
 ((kX (len B.procs) (0:Int)).bind λt=>
 (Sl.j7 t p5).bind λw=>
 (Sl.put t w (IntKind.wrap .i64 (D+1):Int)).bind λz=>
 (uy B z).bind λC=>
 (eT u (C.1:Sl Int)).bind λI=>
 some (.n (I,IntKind.wrap .i64 (D+1),(⟨G.empty,Sl.nil,Sl.nil,Sl.nil⟩:Slice),J)))
 (some (.x (u,B,(⟨G.empty,Sl.nil,Sl.nil,Sl.nil⟩:Slice),J)))
def W2 (p5:Int) (u:Sl (Sl Int)) (D:Sl cu) (G B J O:Int) (T:Trace) (U W:Slice):bf (Fw (Int×Trace×Slice×Slice) (Slice×Slice) Empty):=
 (bM (λq:(Sl (Sl Int))×Int×Slice×Slice=>cm p5 D G B J T q.1 q.2.1 q.2.2.1 q.2.2.2) (u,O,U,W)).bind (Fw.elim
 (λe=>(eT e.2.2.2.j (e.1:Sl (Sl Int))).bind λt=>
 some (.n (IntKind.wrap .i64 (B+1),e.2.1,(⟨e.2.2.1.empty,Sl.nil,Sl.nil,Sl.nil⟩:Slice),(⟨e.2.2.2.empty,e.2.2.2.first,e.2.2.2.last,t⟩:Slice))))
 (λe=>Empty.elim e))
def br (B:Sl cu) (D:Int) (u:Int) (O:Trace) (G J:Slice):bf (Fw (Int×Trace×Slice×Slice) (Slice×Slice) Empty):=
 bp (decide (u<D))
 ((idx B u).bind λt=>
 W2 u (Sl.nil:Sl (Sl Int)) B D u (len t.events) 0 O (⟨G.empty,Sl.nil,Sl.nil,Sl.nil⟩:Slice) J)
 (some (.x ((⟨G.empty,Sl.nil,Sl.nil,Sl.nil⟩:Slice),J)))
def W1 (u:Sl cu) (B D:Int) (G:Trace) (J O:Slice):bf (Slice×Int):=
 (bM (λq:Int×Trace×Slice×Slice=>br u B q.1 q.2.1 q.2.2.1 q.2.2.2) (D,G,J,O)).bind (Fw.elim
 (λe=>some (e.2,0))
 (λe=>Empty.elim e))
end gb
def gb (u:Trace):bf (Slice×Int):=
 (cE u).bind λt=>
 bp t
 ((kX (len u.procs) (0:Int)).bind λw=>
 (fV u).bind λz=>
 gb.W1 u.procs (len u.procs) 0 u (⟨false,Sl.nil,Sl.nil,Sl.nil⟩:Slice) (⟨false,w,z,Sl.nil⟩:Slice))
 (some (⟨false,Sl.nil,Sl.nil,Sl.nil⟩,1))
open gb in
instance T_ (B:Trace):Fc Sy cL (gb B):=Fc.N 14 [enc B] (dn 2 1 B (bC 8 λJ _=>di 3 14 (bR 7 B.procs (GC 0 19 λL _=>bC 1 λC _=>Wr 0 [.own 19,cv C] [bv false,.own 19,cv C,.v .bN] [.bool false,.bN,.bN,.bN] [(1,1),(2,1)] (by simp only[C7,ND,OO,KU,MO,LR,gT,uk,rA,uP,uF];rfl) (Xo 1 4 0 [bv false,.own 19,cv C,.v .bN] (by simp only[List.all_cons,Oa,GK,JN,G9,ox,mS,oF,nX,Ju];rfl) (bR 7 B.procs (je 7 (λt=>(bF [Pv 1,Pv 2,Pv 4,Cv 24 B.procs,Iv 25 (len B.procs),Iv 26 t.1] [Xb 1 t.2.1,Xb 2 (⟨t.2.2.1.empty,Sl.nil,Sl.nil,Sl.nil⟩:Slice),(4,.box [bv t.2.2.2.empty,.own 4081,cv t.2.2.2.last,.own 4083]),Lb 4081 t.2.2.2.first,Lb 4083 t.2.2.2.j])) (λz=>(0,(bF [Pv 2,Pv 4] [Xb 2 (⟨z.1.empty,Sl.nil,Sl.nil,Sl.nil⟩:Slice),(4,.box [bv z.2.empty,.own 4081,cv z.2.last,.own 4083]),Lb 4081 z.2.first,Lb 4083 z.2.j]))) (λt=>bD 9 27 (b9 8 λD _=>j8 3 6 0 D (bR 12 D.events (je 8 (λu=>(bF [Pv 1,Pv 2,Pv 4,Iv 5 t.1,Ov 7,Cv 24 B.procs,Iv 25 (len B.procs),Iv 26 t.1,Iv 33 (len D.events),Iv 34 u.2.1] [Xb 1 t.2.1,Xb 2 (⟨u.2.2.1.empty,Sl.nil,Sl.nil,Sl.nil⟩:Slice),(4,.box [bv u.2.2.2.empty,.own 4081,cv u.2.2.2.last,.own 4083]),Lb 2007 u.1,Lb 4081 u.2.2.2.first,Lb 4083 u.2.2.2.j])) (λw=>(2,(bF [Pv 1,Pv 2,Pv 4,Ov 7,Cv 24 B.procs,Iv 25 (len B.procs),Iv 26 t.1] [Xb 1 w.2.1,Xb 2 (⟨w.2.2.1.empty,Sl.nil,Sl.nil,Sl.nil⟩:Slice),(4,.box [bv w.2.2.2.empty,.own 4081,cv w.2.2.2.last,.own 4083]),Lb 2007 w.1,Lb 4081 w.2.2.2.first,Lb 4083 w.2.2.2.j]))) (λu=>bD 10 35 (bR 15 t.2.1.procs (GC 0 40 λO _=>mL .i64 9 40 λQ _=>Ep 0 40 (.int .i64 (IntKind.wrap .i64 (u.2.1+1))) λS _=>bC 7 λG _=>Bg 10 54 ([G.1]:a_ (Sl Int)) (vH 0 2007 54 55 λT _=>bh))) bh) (λw=>Bg 7 60 ([w.1]:a_ (Sl (Sl Int))) (vH 0 4083 60 61 λI _=>bh))))) bh) (λz=>j8 7 2 0 z.2 bh)))))) (B4 3 (⟨false,Sl.nil,Sl.nil,Sl.nil⟩:Slice) [] [.bool false,.bN,.bN,.bN] [] (by simp only[nW,pz,gT,uk,rA,uP,uF];rfl) rfl (j8 0 2 0 (⟨false,Sl.nil,Sl.nil,Sl.nil⟩:Slice) bh))))
def mR (c:Sl Int):bf (bP 8 Int):=some (sQ 8 c)
instance T0 (c:Sl Int):Fc Sy cL (mR c):=Fc.of (A:=λz:Sl Int=>[enc z]) (E:=λr:bP 8 Int=>[enc r]) (p:=mR) (n:=68) (b:=true) (z:=c) (l8.scalar (l8.XE Ze Ze (λz r h=>by
 cases h;exact FD (Sf Ze rfl (λ_=>rfl) z))) K9)
namespace iX
def br (D:Sl Int) (G:Int) (B u:Int):bf (Fw (Int×Int) Int Empty):=
 bp (decide (u<G))
 ((idx D u).bind λt=>
 some (.n (IntKind.wrap .i64 (B+t),IntKind.wrap .i64 (u+1))))
 (some (.x B))
def W1 (u:Int) (B:Sl Int) (D G:Int):bf Int:=
 (bM (λq:Int×Int=>br B D q.1 q.2) (u,G)).bind (Fw.elim
 (λe=>some e)
 (λe=>Empty.elim e))
end iX
def iX (u:Sl Int):bf Int:=
 iX.W1 0 u (len u) 0
open iX in
instance Vu (u:Sl Int):Fc Sy cL (iX u):=Fc.M 73 [enc u] (bR 14 u (je 5 (λt=>(bF [Iv 3 t.1,Cv 6 u,Iv 7 (len u),Iv 8 t.2] [])) (λw=>(0,(bF [Iv 3 w] []))) (λt=>bD 7 9 (b9 7 λz _=>bh) bh) (λw=>bh)))
def qE (u:Int):bf Bool:=
 some (!(u==u))
instance Q1 (u:Int):Fc Sy cL (qE u):=Fc.M 98 [.int .i64 u] (bh)
def mC (u B:Int):bf Int:=
 (qE u).bind λw=>
 (qE B).bind λt=>
 bp w
 (bp t
 (some 0)
 (some (-1)))
 (bp t
 (some 1)
 (bp (decide (u<B))
 (some (-1))
 (bp (decide (u>B))
 (some 1)
 (some 0))))
instance Ol (u B:Int):Fc Sy cL (mC u B):=Fc.M 72 [.int .i64 u,.int .i64 B] (bC 8 λt _=>bC 6 λw _=>bD 9 11 (bD 7 12 bh bh) (bD 9 13 bh (bD 11 16 bh (bD 11 19 bh bh))))
namespace en
def br (G B J:Sl Int) (D:Int) (u:Int):bf (Fw Int Unit Int):=
 bp (decide (u<D))
 ((idx J u).bind λw=>
 bp (decide (u>=(len B)))
 (some (.r 1))
 ((idx B u).bind λz=>
 (mC w z).bind λt=>
 bp (t==0)
 (some (.n (IntKind.wrap .i64 (u+1))))
 (some (.r t))))
 (some (.x ()))
def W1 (u B J:Sl Int) (D G:Int):bf Int:=
 (bM (λq:Int=>br u B J D q) G).bind (Fw.elim
 (λe=>bp (decide ((len u)<(len B)))
 (some (-1))
 (some 0))
 (λe=>some e))
end en
def en (u B:Sl Int):bf Int:=
 en.W1 u B u (len u) 0
open en in
instance L7 (u B:Sl Int):Fc Sy cL (en u B):=Fc.M 74 [enc u,enc B] (bR 9 u (dw 5 (λw=>(bF [Cv 0 u,Cv 1 B,Cv 9 u,Iv 10 (len u),Iv 11 w] [])) (λt=>(0,(bF [Cv 0 u,Cv 1 B] []))) (λt=>(bF [Iv 4 t] [])) (λw=>bD 7 12 (b9 8 λz _=>bR 10 B (bD 3 19 bh (b9 7 λC _=>bC 8 λD _=>di 9 28 bh bh))) bh) (λt=>bR 6 u (bR 1 B (bD 3 35 bh bh))) (λt=>bh)))
namespace iT
def br (u:Int) (D:Sl Int) (G:Int) (B:Int):bf (Fw Int Unit Int):=
 bp (decide (B<G))
 ((idx D B).bind λt=>
 bp (t==u)
 (some (.n (IntKind.wrap .i64 (B+1))))
 (some (.r t)))
 (some (.x ()))
def W1 (u:Int) (B:Sl Int) (D G:Int):bf Int:=
 (bM (λq:Int=>br u B D q) G).bind (Fw.elim
 (λe=>some u)
 (λe=>some e))
end iT
def iT (u:Sl Int):bf Int:=
 iT.W1 0 u (len u) 0
open iT in
instance Uu (u:Sl Int):Fc Sy cL (iT u):=Fc.M 71 [enc u] (bR 14 u (dw 5 (λw=>(bF [Iv 3 0,Cv 6 u,Iv 7 (len u),Iv 8 w] [])) (λt=>(0,(bF [Iv 3 0] []))) (λt=>(bF [Iv 2 t] [])) (λw=>bD 7 9 (b9 7 λz _=>di 11 14 bh bh) bh) (λt=>bh) (λt=>bh)))
def lT (a0 D:Sl Int):bf Int:=
 (iX a0).bind λt=>
 (iX D).bind λu=>
 (mC t u).bind λw=>
 (en a0 D).bind λz=>
 (iT (Sl.row [w,z]:Sl Int)).bind λB=>
 some B
instance Sg (a0 u:Sl Int):Fc Sy cL (lT a0 u):=Fc.M 70 [enc a0,enc u] (bC 8 λt _=>bC 1 λw _=>bC 0 λz _=>bC 2 λB _=>jT 1 λC _=>bh)
namespace jd
def cm (T:Int) (J:Sl Int) (O:Int) (G:Slice) (D:Sl (Sl Int)) (u:Int) (B:Mo (bP 8 Int) Bool):bf (Fw ((Sl (Sl Int))×Int×(Mo (bP 8 Int) Bool)) ((Sl (Sl Int))×(Mo (bP 8 Int) Bool)) Empty):=
 bp (decide (u<O))
 ((idx J u).bind λI=>
 (idx G.last u).bind λL=>
 bp (I==L)
 (some (.n (D,IntKind.wrap .i64 (u+1),B)))
 ((idx J u).bind λQ=>
 (iS G (⟨u,IntKind.wrap .i64 (Q+1)⟩:bg)).bind λS=>
 (pZ J S).bind λt=>
 (mR t).bind λw=>
 bp (wY B w false)
 (some (.n (D,IntKind.wrap .i64 (u+1),B)))
 ((mR t).bind λz=>
 (eT D (t:Sl Int)).bind λC=>
 some (.n (C,IntKind.wrap .i64 (u+1),nr B z true)))))
 (some (.x (D,B)))
def W2 (u:Sl (Sl Int)) (O:Int) (T:Sl Int) (D G:Int) (J:Slice) (B:Mo (bP 8 Int) Bool):bf (Fw ((Sl (Sl Int))×Int×(Mo (bP 8 Int) Bool)) (Sl (Sl Int)) Unit):=
 (bM (λq:(Sl (Sl Int))×Int×(Mo (bP 8 Int) Bool)=>cm O T D J q.1 q.2.1 q.2.2) (u,G,B)).bind (Fw.elim
 (λe=>some (.n (e.1,IntKind.wrap .i64 (O+1),e.2)))
 (λe=>Empty.elim e))
def br (D:Slice) (u:Sl (Sl Int)) (G:Int) (B:Mo (bP 8 Int) Bool):bf (Fw ((Sl (Sl Int))×Int×(Mo (bP 8 Int) Bool)) (Sl (Sl Int)) Unit):=
 bp (decide (G<(len u)))
 (bp (decide ((len u)>5000))
 (some (.r ()))
 ((Sl.j7 u G).bind λw=>
 (Sl.get u w).bind λt=>
 W2 u G t (len t) 0 D B))
 (some (.x u))
def W1 (u:Sl (Sl Int)) (G:Int) (D:Slice) (B:Mo (bP 8 Int) Bool):bf ((Sl (Sl Int))×Bool):=
 (bM (λq:(Sl (Sl Int))×Int×(Mo (bP 8 Int) Bool)=>br D q.1 q.2.1 q.2.2) (u,G,B)).bind (Fw.elim
 (λe=>(xE e lT).bind λt=>
 some (t,true))
 (λe=>some ((Sl.nil:Sl (Sl Int)),false)))
end jd
def jd (s0:Slice):bf ((Sl (Sl Int))×Bool):=
 bp s0.empty
 (some ((Sl.nil:Sl (Sl Int)),true))
 (((gw s0.first).bind Sl.whole).bind λt=>
 (mR s0.first).bind λu=>
 jd.W1 (Sl.row [t]:Sl (Sl Int)) 0 s0 (nr ([]:Mo (bP 8 Int) Bool) u true))
open jd in
instance V0 (s0:Slice):Fc Sy cL (jd s0):=Fc.N 48 [enc s0] (dn 2 1 s0 (bD 11 11 bh (Lj 7 14 kH s0.first λJ _=>Bg 1 15 ([J]:a_ (Sl Int)) (bC 8 λL _=>Ou 0 16 ([]:Mo (bP 8 Int) Bool) L true (dw 13 (λt=>(bF [Pv 1,Ov 4,(5,.mp 16),Iv 6 t.2.1] [Xb 1 s0,(16,sM t.2.2),Lb 2004 t.1])) (λB=>(0,(bF [Ov 4] [Lb 2004 B]))) (λB=>(bF [Ov 2,Bv 3 false] [Lb 2002 (Sl.nil:Sl (Sl Int))])) (λt=>wA 7 2004 t.1 (bD 3 24 (wA 9 2004 t.1 (bD 3 29 bh (mL .i64 7 2004 λT _=>tu 0 2004 0 1 false (λw=>enc w) λw _=>bR 6 w (je 6 (λu=>(bF [Pv 1,Ov 4,(5,.mp 16),Iv 6 t.2.1,Cv 7 w,Iv 35 (len w),Iv 36 u.2.1] [Xb 1 s0,(16,sM u.2.2),Lb 2004 u.1])) (λC=>(2,(bF [Pv 1,Ov 4,(5,.mp 16),Iv 6 t.2.1] [Xb 1 s0,(16,sM C.2),Lb 2004 C.1]))) (λu=>bD 8 37 (b9 16 λU _=>b9 4 λW _=>bD 4 48 bh (b9 10 λD _=>CA 3 (kE s0 (⟨u.2.1,IntKind.wrap .i64 (D+1)⟩:bg)) [enc s0,enc (⟨u.2.1,IntKind.wrap .i64 (D+1)⟩:bg)] λX _=>bC 0 λO _=>bC 7 λG _=>Rp 0 16 u.2.2 G false (di 3 64 bh (bC 5 λI _=>Ou 0 16 u.2.2 I true (Bg 5 70 ([O]:a_ (Sl Int)) (vH 0 2004 70 71 λQ _=>bh)))))) bh) (λC=>bh))))) bh)) (λB=>Wb 5 2004 RG JY Vf (l8.rM (λz=>inferInstanceAs (Fc Sy cL (lT z.1 z.2))) default (λ_=>rfl) (λ_=>rfl) (λ_=>rfl) (λ_=>rfl)) λS _=>bh) (λB=>bh))))))
def nZ (D:Trace) (B:Slice):bf ((Sl (Sl Int))×Int):=
 (fF D B).bind λu=>
 bp u
 ((jd B).bind λt=>
 bp t.2
 (some (t.1,0))
 (some (Sl.nil,16)))
 (some (Sl.nil,1))
instance Vb (u:Trace) (B:Slice):Fc Sy cL (nZ u B):=Fc.N 15 [enc u,enc B] (dn 2 2 u (dn 0 3 B (bC 9 λt _=>di 3 11 (bC 6 λw _=>di 14 18 bh bh) bh)))
namespace dg
def J2 (u:Trace) (D:Slice):bf Bool:=
 (gb u).bind λw=>
 (uG u D w.1).bind λz=>
 (nZ u D).bind λt=>
 (bp (w.2==0)
 (some (!(z.2==0)))
 (some true):bf Bool).bind λC=>
 (bp C
 (some true)
 (some (!(t.2==0))):bf Bool).bind λG=>
 (bp G
 (some true)
 (some (!z.1)):bf Bool).bind λI=>
 (bp I
 (some true)
 (some (decide ((len t.1)>300))):bf Bool).bind λJ=>
 bp J
 (some false)
 ((dB u t.1).bind λB=>
 (bp (B.2==0)
 ((dV B.1 D).bind λL=>
 some L)
 (some false):bf Bool).bind λO=>
 some O)
def br (G:Sl (Sl Int)) (J:Int) (D:Trace) (O T:Slice) (u:Bool) (B:Int):bf (Fw (Bool×Int) Bool Unit):=
 bp (decide (B<J))
 ((idx G B).bind λt=>
 (pE D T t).bind λw=>
 bp w
 ((bp u
 ((pE D O t).bind λz=>
 some z)
 (some false):bf Bool).bind λC=>
 some (.n (C,IntKind.wrap .i64 (B+1))))
 (some (.r ())))
 (some (.x u))
def W1 (D:Bool) (J:Sl (Sl Int)) (O T:Int) (u:Trace) (G B:Slice):bf Bool:=
 (bM (λq:Bool×Int=>br J O u G B q.1 q.2) (D,T)).bind (Fw.elim
 (λe=>bp e
 ((uG u B G).bind λt=>
 (bp (t.2==0)
 (some (!t.1))
 (some true):bf Bool).bind λw=>
 bp w
 (some false)
 (dg.J2 u B))
 (dg.J2 u B))
 (λe=>some false))
theorem RM (u:Trace) (B:Slice):Le ((J2 u B).bind (λr=>some [.bool r])) (bX Sy cL (ql (tr Tx 3)) (tn (tb Tx 3) [1,1,1,1,1,1,1,1,0] [] (bF [Pv 3,Pv 7] [Xb 3 u,Xb 7 B]))):=
 bC 3 λt _=>j8 4 14 0 t.1 (bC 8 λC _=>bC 11 λw _=>bZ 13 3 [17,122] 125 (di 13 122 (bB 3) (bB 3)) λD=>bZ 1 3 [19,126] 129 (bD 1 126 (bB 3) (bB 3)) λG=>bZ 1 3 [16,130] 133 (bD 1 130 (bB 3) (bB 3)) λI=>bZ 1 4 [134] 138 (bD 1 134 (bB 4) (bR 1 w.1 (bB 2))) λJ=>bD 2 138 bh (bC 7 λz _=>j8 4 20 0 z.1 (bZ 8 4 [7,20,147] 151 (bD 8 147 (bC 2 λL _=>bB 1) (bB 4)) λO=>bh)))
end dg
def dg (u:Trace) (B:Sl (Sl Int)) (J:Slice):bf Bool:=
 (sA).bind λI=>
 (bp I
 ((iO u 14).bind λL=>
 some (!L))
 (some true):bf Bool).bind λO=>
 (bp O
 (some true)
 ((ku B).bind λQ=>
 some (!Q)):bf Bool).bind λS=>
 (bp S
 (some true)
 ((sR J).bind λT=>
 some (!T)):bf Bool).bind λU=>
 (bp U
 (some true)
 ((lS u).bind λW=>
 some (!W)):bf Bool).bind λX=>
 bp X
 ((sA).bind λw=>
 some w)
 ((dB u B).bind λt=>
 bp (t.2==0)
 ((fF u t.1).bind λz=>
 (bp z
 (some (!(t.1.empty==((len B)==0))))
 (some true):bf Bool).bind λC=>
 bp C
 (some false)
 ((fF u J).bind λD=>
 dg.W1 D B (len B) 0 u J t.1))
 ((qt t.1).bind λG=>
 some G))
open dg in
instance zM (B:Trace) (D:Sl (Sl Int)) (G:Slice):Fc Sy cL (dg B D G):=Fc.M 3 [enc B,enc D,enc G] (dn 2 3 B (dn 0 5 G (bC 6 λX _=>bZ 2 4 [23] 27 (di 2 23 (bC 1 λY _=>bB 2) (bB 4)) λZ=>bZ 1 4 [28] 32 (bD 1 28 (bB 4) (bC 1 λaa _=>bB 2)) λab=>bZ 1 4 [33] 37 (bD 1 33 (bB 4) (bC 1 λad _=>bB 2)) λae=>bZ 1 4 [38] 42 (bD 1 38 (bB 4) (bC 1 λaf _=>bB 2)) λah=>bD 2 42 (bC 3 λz _=>bh) (bC 7 λt _=>j8 4 7 0 t.1 (di 10 51 (bC 8 λC _=>bZ 2 7 [58] 65 (di 2 58 (bR 3 D (bB 3)) (bB 7)) λI=>bD 2 65 bh (bC 7 λJ _=>bR 7 D (dw 5 (λw=>(bF [Pv 3,Pv 5,Pv 7,Bv 9 w.1,Cv 69 D,Iv 70 (len D),Iv 71 w.2] [Xb 3 B,Xb 5 G,Xb 7 t.1])) (λu=>(0,(bF [Pv 3,Pv 5,Pv 7,Bv 9 u] [Xb 3 B,Xb 5 G,Xb 7 t.1]))) (λu=>(bF [Bv 6 false] [])) (λw=>bD 7 72 (b9 7 λL _=>bC 10 λO _=>di 3 79 (bZ 6 5 [11,81] 86 (bD 6 81 (bC 3 λQ _=>bB 1) (bB 5)) λS=>bh) bh) bh) (λu=>bD 8 88 (bC 6 λT _=>bZ 12 3 [12,98] 101 (di 12 98 (bB 3) (bB 3)) λU=>bD 2 101 bh (Aw 4 (RM B t.1))) (Aw 4 (RM B t.1))) (λu=>bh)))) (bC 4 λW _=>bh))))))
end
end Go.VE
