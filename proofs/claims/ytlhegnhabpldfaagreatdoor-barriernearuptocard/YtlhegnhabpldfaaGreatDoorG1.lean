/-
 Each function of the program that the law reaches: its plain form, and that it comes to that.
-/
import Derived.Test.YtlhegnhabpldfaaGreatDoorK1
import Derived.Test.YtlhegnhabpldfaaGreatDoorT1
set_option linter.all false
namespace Go.VE
theorem Ze{p:Prop}(h:p:=by kernel_rfl):p:=h
structure Assign where
 var:Int
 value:Int
 deriving Inhabited
instance:bB Assign where
 cells x:=[.int .i64 x.var,.int .i64 x.value]
 agg:=true
 size:=2
 len _:=rfl
 good x:=by simp only[V.cA,V.good,ig,Bool.and_self]
 one x:=by simp only[List.all_cons,List.all_nil,lT,kg,lK,kR,Bool.and_self]
 plain h:=by cases h
structure Event where
 kind:Int
 peer:Int
 message:Int
 time:Int
 assign:Sl Assign
 deriving Inhabited
instance:bB Event where
 cells x:=[.int .i64 x.kind,.int .i64 x.peer,.int .i64 x.message,.int .i64 x.time,enc x.assign]
 agg:=true
 size:=5
 len _:=rfl
 good x:=by simp only[V.cA,V.good,ig,Bool.and_self]
 one x:=by simp only[List.all_cons,List.all_nil,lT,kg,lK,kR,Bool.and_self]
 plain h:=by cases h
structure Var where
 name:ByteArray
 init_:Int
 deriving Inhabited
instance:bB Var where
 cells x:=[.str x.name,.int .i64 x.init_]
 agg:=true
 size:=2
 len _:=rfl
 good x:=by simp only[V.cA,V.good,ig,Bool.and_self]
 one x:=by simp only[List.all_cons,List.all_nil,lT,kg,lK,kR,Bool.and_self]
 plain h:=by cases h
structure cu where
 name:ByteArray
 vars:Sl Var
 events:Sl Event
 deriving Inhabited
instance:bB cu where
 cells x:=[.str x.name,enc x.vars,enc x.events]
 agg:=true
 size:=3
 len _:=rfl
 good x:=by simp only[V.cA,V.good,ig,Bool.and_self]
 one x:=by simp only[List.all_cons,List.all_nil,lT,kg,lK,kR,Bool.and_self]
 plain h:=by cases h
structure Trace where
 procs:Sl cu
 deriving Inhabited
instance:bB Trace where
 cells x:=[enc x.procs]
 agg:=true
 size:=1
 len _:=rfl
 good x:=by simp only[V.cA,V.good,ig,Bool.and_self]
 one x:=by simp only[List.all_cons,List.all_nil,lT,kg,lK,kR,Bool.and_self]
 plain h:=by cases h
structure Pred where
 kind:Int
 n:Int
 proc:Int
 peer:Int
 name:ByteArray
 l:Sl Pred
mutual
def Pred.Us:Pred->List V
 | ⟨f0,f1,f2,f3,B,f5⟩=>[.int .i64 f0,.int .i64 f1,.int .i64 f2,.int .i64 f3,.str B,Pred.Gu f5]
def Pred.Gu:Sl Pred->V
 | .nil=>.bK
 | .emp=>.dD
 | .row l=>.fsl 6 (Pred.ME l)
 | .part l=>.fsl 6 (Pred.ME l)
def Pred.ME:List Pred->List (List V)
 | []=>[]
 | x::r=>Pred.Us x::Pred.ME r
end
instance:Inhabited Pred:=⟨⟨default,default,default,default,default,Sl.nil⟩⟩
mutual
theorem Pred.Q5:∀x:Pred,V.cA x.Us=true
 | ⟨f0,f1,f2,f3,B,f5⟩=>by simp only[Pred.Us,V.cA,V.good,Pred.G3,Bool.and_self]
theorem Pred.G3:∀x:Sl Pred,V.good (Pred.Gu x)=true
 | .nil=>rfl
 | .emp=>rfl
 | .row l=>by simp only[Pred.Gu,V.good,Pred.By]
 | .part l=>by simp only[Pred.Gu,V.good,Pred.By]
theorem Pred.By:∀x:List Pred,V.mG (Pred.ME x)=true
 | []=>rfl
 | x::r=>by simp only[Pred.ME,V.mG,Pred.Q5,Pred.By,Bool.and_self]
end
theorem Pred.SG (s:Sl Pred):V.one (Pred.Gu s)=true:=by cases s <;> simp[Pred.Gu,V.one]
instance:bB Pred where
 cells x:=[.int .i64 x.kind,.int .i64 x.n,.int .i64 x.proc,.int .i64 x.peer,.str x.name,Pred.Gu x.l]
 agg:=true
 size:=6
 len _:=rfl
 good x:=by simp only[V.cA,V.good,Pred.G3,Bool.and_self]
 one x:=by simp only[List.all_cons,List.all_nil,lT,kg,lK,Pred.SG,Bool.and_self]
 plain h:=by cases h
structure Span where
 proc:Int
 from_:Int
 to_:Int
 deriving Inhabited
instance:bB Span where
 cells x:=[.int .i64 x.proc,.int .i64 x.from_,.int .i64 x.to_]
 agg:=true
 size:=3
 len _:=rfl
 good x:=by simp only[V.cA,V.good,ig,Bool.and_self]
 one x:=by simp only[List.all_cons,List.all_nil,lT,kg,lK,kR,Bool.and_self]
 plain h:=by cases h
structure Answer where
 mode:Int
 holds:Bool
 kind:Int
 cut:Sl Int
 cuts:Sl (Sl Int)
 run:Sl (Sl Int)
 spans:Sl Span
 value:Int
 deriving Inhabited
instance:bB Answer where
 cells x:=[.int .i64 x.mode,.bool x.holds,.int .i64 x.kind,enc x.cut,enc x.cuts,enc x.run,enc x.spans,.int .i64 x.value]
 agg:=true
 size:=8
 len _:=rfl
 good x:=by simp only[V.cA,V.good,ig,Bool.and_self]
 one x:=by simp only[List.all_cons,List.all_nil,lT,kg,lK,kR,Bool.and_self]
 plain h:=by cases h
structure bC where
 from_:aZ
 to_:aZ
 deriving Inhabited
instance:bB bC where
 cells x:=[.int .i64 x.from_.proc,.int .i64 x.from_.index,.int .i64 x.to_.proc,.int .i64 x.to_.index]
 agg:=true
 size:=4
 len _:=rfl
 good x:=by simp only[V.cA,V.good,ig,Bool.and_self]
 one x:=by simp only[List.all_cons,List.all_nil,lT,kg,lK,kR,Bool.and_self]
 plain h:=by cases h
structure cq where
 lengths:Sl Int
 need:Sl (Sl aZ)
 deriving Inhabited
instance:bB cq where
 cells x:=[enc x.lengths,enc x.need]
 agg:=true
 size:=2
 len _:=rfl
 good x:=by simp only[V.cA,V.good,ig,Bool.and_self]
 one x:=by simp only[List.all_cons,List.all_nil,lT,kg,lK,kR,Bool.and_self]
 plain h:=by cases h
structure bP where
 list:Sl (Sl Int)
 index:yF (bW 8 Int) Int
 next:Sl (Sl Int)
 deriving Inhabited
instance:bB bP where
 cells x:=[enc x.list,enc x.index,enc x.next]
 agg:=true
 size:=3
 len _:=rfl
 good x:=by simp only[V.cA,V.good,ig,Bool.and_self]
 one x:=by simp only[List.all_cons,List.all_nil,lT,kg,lK,kR,IS,Bool.and_self]
 plain h:=by cases h
structure cz where
 t:Trace
 needs:Sl (Sl aZ)
 deriving Inhabited
instance:bB cz where
 cells x:=[enc x.t.procs,enc x.needs]
 agg:=true
 size:=2
 len _:=rfl
 good x:=by simp only[V.cA,V.good,ig,Bool.and_self]
 one x:=by simp only[List.all_cons,List.all_nil,lT,kg,lK,kR,Bool.and_self]
 plain h:=by cases h
def iD (p:Int):Int->List Event->List (aZ×Event)
 | _,[]=>[]
 | j,e::r=>(⟨p,j+1⟩,e)::iD p (j+1) r
def fI:Int->List cu->List (aZ×Event)
 | _,[]=>[]
 | i,p::r=>iD i 0 p.events.l++fI (i+1) r
def Fe (n:Nat):Bool:=decide (n<9223372036854775807)
def iY (t:Trace):Option (List (aZ×Event)):=
 if Fe t.procs.l.length&&t.procs.l.all λp=>Fe p.events.l.length then some (fI 0 t.procs.l)else none
end Go.VE
namespace Go.VE
def Qm:Nat->Nat->Nat->List Nat
 | 0,_,_=>[]
 | f+1,i,m=>bif m % 2==1 then i::Qm f (i+1) (m / 2)else Qm f (i+1) (m / 2)
def gK (g m:Nat) (l:List Nat:=[]):Gh:=.keep (Qm 128 0 g) (Qm 128 0 m++l)
def g2 (n g m:Nat) (l:List Nat:=[]):Nat×List Gh×List Gh:=(n,[gK g m l],[gK g m l])
def g1 (n g m:Nat) (l:List Nat:=[]):Nat×List Gh×List Gh:=(n,[gK g m l],[])
def G2 (n:Nat) (x:List Gh):Nat×List Gh×List Gh:=(n,x,x)
def G1 (n:Nat) (x:List Gh):Nat×List Gh×List Gh:=(n,x,[])
def cS (i n:Nat):Gh:=.canon (.s i) (2000+i) n
def cC (i j n:Nat):Gh:=.canon (.c i j) (4000+20*i+j) n
def e0 (n m:Nat):Nat×GD:=(n,⟨m,[],[]⟩)
def e1 (n m:Nat) (l:List (Nat×List Gh×List Gh)):Nat×GD:=(n,⟨m,[],l⟩)
def KM:List (Nat×GD):=[
 e1 49 0x22226260002000201 [g2 6 387 0,g1 12 0 0,g1 22 16 0,g1 27 16 0],
 e0 27 0x226221,
 e0 28 0x2222212,
 e1 50 0x22226260002000201 [g2 6 387 0,g1 12 0 0,g1 22 16 0,g1 27 16 0],
 e0 29 0x226221,
 e0 30 0x2222212,
 e1 6 0x222222206444264402644402644402600262202202000020012 [g2 8 3622 4,g1 14 4 4,g1 26 16 0,g1 31 16 0],
 e1 20 0x22226260002000201 [g2 6 387 0,g1 12 0 0,g1 22 16 0,g1 27 16 0],
 e0 13 0x226221,
 e0 31 0x22221,
 e0 7 0x2644422201,
 e0 96 0x26c4444026402201,
 e0 97 0x26442201,
 e1 75 0x222064c002644c00222600620000644402644022201 [g1 8 4 0,g2 14 9 0,g1 20 0 0,g1 28 4 0,g1 33 4 0],
 e0 76 0x26442201,
 e1 51 0x2222222022226020222062260202260206000022226020622000022202220620226020600002220202602012 [g1 10 16 0,g2 16 102 36,g1 22 32 32,g1 30 16 0,g1 39 16 0,g2 45 160 32,g1 51 32 32,g1 60 16 0,g2 66 416 32,g1 72 160 32,g1 80 16 0,g1 88 16 0,g1 97 16 0,g1 101 16 0],
 e1 52 0x2222220620226020600006444026c444c04040222020260206220000222006cc44c4444c04040440264402220064402644026c04026c44040264402644022200644022202202026022602012 [g1 13 64 0,g1 20 64 0,g1 22 142 136,g1 28 64 0,g1 36 64 0,g2 42 394 136,g1 48 0 0,g1 59 64 0,g2 64 1930 648,g1 70 394 136,g1 78 64 0,g1 84 64 0],
 e0 77 0x2262222262022022,
 e1 78 0x20222222262226c0442602020260226020622260200062200002 [g2 6 206 72,g1 12 64 64,g2 18 462 72,g1 24 206 72,g1 34 64 64,g1 40 64 64],
 e1 53 0x2222226cc40444cc4040444022202602262020622262020000220060e20200022020600122 [g2 30 236 44,g1 36 64 0],
 e1 54 0x22206222602026006220002222203622000622262002062202202026260022602062226020260062200002222012 [G2 6 [cS 3 1,gK 10 2 [2003]],G2 14 [cS 3 1,gK 58 2 [2003]],G1 20 [cS 3 1,gK 26 2 [2003]],G2 24 [cS 3 1,gK 58 2 [2003]],G1 30 [cS 3 1,gK 58 2 [2003]],G1 43 [cS 3 1,gK 58 2 [2003]],G1 46 [cS 3 1,gK 42 2 [2003]],G1 53 [cS 3 1,gK 10 2 [2003]],G2 59 [cS 3 1,gK 266 2 [2003]],g1 65 0 0,g1 73 4 0,g1 78 4 0],
 e1 79 0x22262622222202062026262202022200122 [G1 10 [cS 5 2,gK 44 12 [2005]]],
 e1 32 0x202222220222620260600206200622260200062200002020222222222220260020620062226020006220002222222226222202e0006222602000622000222222222026006220000206444022220102 [g1 8 12 4,g2 14 22 6,g1 20 6 6,g1 30 12 4,g2 37 70 6,g1 43 6 6,g2 49 198 6,g1 55 70 6,g1 65 12 4,g2 73 518 6,g1 79 6 6,g2 85 1542 6,g1 91 518 6,g1 103 12 4,g1 113 12 4,g2 119 8198 6,g1 125 4 4,g2 131 24582 6,g1 137 8198 6,g1 147 12 4,g1 153 12 4],
 e0 8 0x2222302022212,
 e0 61 0x2236226200026201,
 e1 83 0x22206c444c0404c0022260062000062202012 [g1 8 16 0,g2 14 38 4,g1 20 0 0,g1 28 16 0,g1 33 16 0],
 e1 84 0x2222220626220202062202202026022602062600006200012 [g2 6 38 4,g1 12 0 0,g2 18 102 4,g1 24 38 4,g1 39 16 0,g1 46 16 0],
 e0 60 0x26c44260012,
 e1 40 0x2222226260026cc000262226020260062000012 [G2 8 [cS 5 1,gK 102 4 [2005]],G1 14 [cS 5 1,gK 32 0 [2005]]],
 e1 85 0x2222226260026200001 [g2 8 25 0,g1 14 8 0],
 e1 62 0x222262622260262600260062000262222620201 [g1 8 16 0,g2 14 35 0,g1 20 0 0,g1 28 16 0,g1 33 16 0],
 e1 63 0x2220626002600620000620201 [g1 8 16 0,g2 14 35 0,g1 20 0 0,g1 28 16 0,g1 33 16 0],
 e1 41 0x26622226222266000226c04c00262002226c04c002620001 [g2 6 35 0,g1 12 35 0],
 (18,⟨0x222222222226260026200026260006200000022026022200222220112,[(7,[.closeS (.s 13)])],[G2 8 [.closeS (.s 4),cS 5 1,gK 50 2 [2005]],G1 14 [cS 5 1,gK 32 0 [2005]],G1 24 [cS 2 1,gK 12 0 [2002]],G2 32 [.closeS (.s 4),cS 5 1,gK 242 2 [2005]],G1 38 [cS 5 1,gK 98 2 [2005]],G2 46 [.closeS (.s 4),cS 5 1,gK 1010 2 [2005]],G1 52 [.closeS (.s 4),cS 5 1,gK 242 2 [2005]],G1 61 [cS 2 1,gK 12 0 [2002]]]⟩),
 e0 9 0x2644422222022212,
 e0 86 0x26c4426201,
 e0 124 0x26c4444026402201,
 e0 125 0x26442201,
 e1 100 0x22064c402644c00222600200020064440264402201 [g1 8 4 0,g2 14 786433 0,g1 20 0 0,g1 30 4 0,g1 35 4 0],
 e0 102 0x26222212,
 e1 126 0x22226260002000201 [g2 6 387 0,g1 12 0 0,g1 22 16 0,g1 27 16 0],
 e0 101 0x226221,
 e0 103 0x26222212,
 e1 87 0x222222022222026c0c4402222022020000020022220026c0c44422220202602012 [g1 11 16 0,g1 17 16 0,g2 23 30064771104 32,g1 29 32 32,g1 40 16 0,g1 46 16 0,g1 55 16 0,g1 59 16 0],
 e0 88 0x2212,
 e1 105 0x2644426c4402622222022202644422202020122 [g1 18 524330 40],
 e0 107 0x26222212,
 e1 127 0x22226260002000201 [g2 6 387 0,g1 12 0 0,g1 22 16 0,g1 27 16 0],
 e0 106 0x226221,
 e1 89 0x2202626220026444022622202022020000020022220026c44022220022e02222226220202200202620201222 [g1 12 440 184,g1 19 64 0,g1 25 64 0,g1 31 64 0,g2 37 31525197391593632 160,g1 43 0 0,g1 54 64 0,g1 60 64 0,g1 65 64 0],
 e0 128 0x26c44426c440222012,
 e0 108 0x2662262221222,
 e1 90 0x2202326222002202001ef200220022022226200223262220022022226200202022020202020200002 [(8,[gK 4158 1086],[gK 0 1086]),g1 27 0 1086,g1 39 0 1086,g1 47 0 1086,g1 53 28 1052],
 e1 109 0x222622262222264444c4400222020262222262622020262020222620220122 [G1 12 [cS 7 2,gK 418 32 [2007]]],
 e1 91 0x20222622230026000226002020000e200262220202622002202202020200022 [(6,[gK 8252 60],[gK 0 60]),G2 14 [cS 8 2,gK 8700 65660 [2008]],g1 20 8252 60,G2 29 [cS 8 2,gK 481036345852 65660 [2008]],G1 35 [cS 8 2,gK 8700 65660 [2008]],g1 46 0 60,g1 58 48 48],
 e1 64 0x20022222020262222222022202002202222202e2002020202222222202600200022002022220002 [g1 8 12 12,g2 14 12582926 14,g1 20 14 14,g1 32 12 12,(39,[gK 68719476750 14],[gK 0 14]),g1 51 0 14,g1 61 12 12,g1 71 12 12,g1 75 12 12],
 e0 43 0x2222302022212,
 e1 169 0x200226c0442602020202202022000222 [g1 8 192 192,(14,[gK 33008 240],[gK 0 240]),g1 24 0 240,g1 28 192 192],
 e0 145 0x2220622102,
 (122,⟨0x2222306222030622222022262222302622022002020000200202000020002,[(53,[.closeS (.s 49)]),(59,[.closeS (.c 3 0),.closeS (.c 3 1)])],[G2 8 [cC 3 0 1,cC 3 1 1,gK 14350 14 [4060,4061]],G1 14 [cC 3 0 1,cC 3 1 1,gK 12 12 [4060,4061]],G2 25 [cS 6 2,cC 3 0 1,cC 3 1 1,gK 1849454 46 [2006,4060,4061]],G1 31 [cS 6 2,cC 3 0 1,cC 3 1 1,gK 14446 46 [2006,4060,4061]],G1 44 [cS 6 2,cC 3 0 1,cC 3 1 1,gK 1849966 558 [2006,4060,4061]]]⟩),
 e0 146 0x26262222020262620260220626020260012,
 e1 37 0x26200201 [G1 8 [.canon (.s 2) 4004 1],G1 12 [.canon (.s 2) 4004 1]],
 e0 194 0x26201,
 e0 172 0x62206000200222202201,
 e1 149 0x62222222220262222620062002220000001 [g2 6 3587 0,g1 12 3 0,g1 23 16 0,g1 34 16 0,g1 43 16 0,g1 47 16 0],
 e0 148 0x26221,
 e1 15 0x2206262026002000200620201 [g1 8 16 0,g2 14 12291 0,g1 20 0 0,g1 30 16 0,g1 35 16 0],
 e0 151 0x26221,
 (123,⟨0x222302222262223622020220e0002000202200002012,[(32,[.closeS (.s 34)])],[G2 8 [cS 5 1,gK 7204 4 [2005]],G1 14 [cS 5 1,gK 32 0 [2005]],G2 22 [cS 5 1,gK 400548 4 [2005]],G1 28 [cS 5 1,gK 7204 4 [2005]]]⟩),
 (99,⟨0x2226202620200202620222000222222202000220112,[(16,[.closeS (.s 16)])],[G1 8 [cS 2 1,gK 12 0 [2002]],G2 20 [.closeS (.s 5),cS 6 1,gK 240 16 [2006]],G1 26 [cS 6 1,gK 64 0 [2006]],G1 37 [cS 2 1,gK 12 0 [2002]],G1 43 [cS 2 1,gK 12 0 [2002]]]⟩),
 e0 82 0x222222220222112,
 e0 59 0x222022112,
 (34,⟨0x2222322622222002226222222202622220342202202020002002200002227222222022200000022600202202220222112,[(75,[gK 1180599563589410376768 167772160 [2011,4542]]),(88,[.closeS (.s 81)])],[g2 18 1879048272 167772160,g1 24 80 167772160,G2 35 [cC 27 2 1,gK 61572651155520 167772160 [4542]],G1 41 [cC 27 2 1,gK 64 167772160 [4542]],G2 52 [cS 11 1,cC 27 2 1,gK 3439272371686464 167772160 [2011,4542]],G1 58 [cS 11 1,cC 27 2 1,gK 61572651157568 167772160 [2011,4542]]]⟩),
 (36,⟨0x2222221620220000262222000262222200262222226002226002220000022200120222222011,[(39,[.closeS (.s 43)])],[G2 12 [cS 6 1,cS 7 1,gK 58720451 0 [2006,2007]],G1 18 [cS 7 1,gK 128 0 [2007]],G1 40 [cS 4 1,gK 48 0 [2004]],G2 45 [cS 6 1,cS 7 1,gK 16140901064554578115 0 [2006,2007]],G1 51 [cS 6 1,cS 7 1,gK 58720451 0 [2006,2007]],G1 61 [cS 4 1,gK 48 0 [2004]]]⟩),
 e0 17 0x220022222026220062222020202202220222112,
 e0 143 0x26222221,
 e0 118 0x264c4422012,
 e1 119 0x2206c444c440422022200000212 [g2 6 900 4,g1 12 0 0,g1 22 16 0,g1 27 16 0],
 e0 120 0x26c444422012,
 e1 144 0x2200222202262222626200203202026220220220200000622260202220000001002 [g2 6 57398 52,g1 12 48 48,g2 20 939581622 52,g1 26 57398 52,g1 44 112 48,g1 50 112 48],
 e0 121 0x22223300200262212,
 e1 98 0x2202620220000222026202200002220262022000000260012 [g1 8 64 0,g2 14 917518 8,g1 20 14 8,g1 30 64 0,g2 37 1879048202 8,g1 43 10 8,g1 53 64 0,g2 60 3848290697224 8,g1 66 0 0,g1 76 64 0,g1 81 64 0],
 e0 81 0x22622212,
 e0 80 0x226221,
 e0 92 0x26c4444222012,
 e0 65 0x22226202226022620221022,
 (44,⟨0x2222322622222002226222230262022002020000220202000020222012,[(49,[.closeS (.s 46)])],[G2 8 [cC 12 1 1,gK 114698 4098 [4241]],G1 14 [cC 12 1 1,gK 8 4096 [4241]],G2 25 [cS 6 2,cC 12 1 1,gK 14794826 4098 [2006,4241]],G1 31 [cS 6 2,cC 12 1 1,gK 114762 4098 [2006,4241]],G1 44 [cS 6 2,cC 12 1 1,gK 14795338 4610 [2006,4241]]]⟩),
 e1 57 0x22222262222220000222201 [G2 8 [cS 3 1,gK 3592 0 [2003]],G1 14 [cS 3 1,gK 8 0 [2003]]],
 e0 70 0x26c4c44440222020262620260222206c44c044404c0026c4002201,
 e0 71 0x2236220202221,
 e1 56 0x22222764c440222002226cc4c4004001cf000222000202622002260020222022322022000022200222202202220220002600002220002220112 [g2 41 15393162790720 1649267441664,g1 47 1856 1649267441664,g2 58 10048 1649267441664,g1 64 1024 1099511627776,g2 75 885443715538058536768 1649267441664,g1 81 59200 1649267441664],
 e1 58 0x22222221 [G1 4 [.canon (.s 2) 4004 1]],
 e0 33 0x226222222022022202620112,
 e0 11 0x2220622112,
 e0 21 0x26221,
 e0 19 0x262212,
 e1 22 0x2206262026002000200620201 [g1 8 16 0,g2 14 12291 0,g1 20 0 0,g1 30 16 0,g1 35 16 0],
 e1 42 0x26200201 [G1 8 [.canon (.s 2) 4004 1],G1 12 [.canon (.s 2) 4004 1]],
 e1 23 0x264422222202622222622264c00260222262222000000220000232202202222226222200000012 [g2 8 7340174 8,g1 14 142 8,G2 29 [cS 10 1,gK 962072675466 8 [2010]],G1 35 [cS 10 1,gK 1032 8 [2010]],G2 46 [cS 10 1,gK 62534723880074 8 [2010]],G1 52 [cS 10 1,gK 962072724618 8 [2010]]],
 e1 66 0x22223622202220000022222201 [G2 8 [cS 3 1,gK 14344 0 [2003]],G1 14 [cS 3 1,gK 8 0 [2003]]],
 e1 68 0x2222362002000202221 [G2 8 [cS 3 1,gK 776 0 [2003]],G1 14 [cS 3 1,gK 8 0 [2003]]],
 e0 69 0x26cc44c4442e0260021,
 e1 67 0x22226260002000201 [g2 6 387 0,g1 12 0 0,g1 22 16 0,g1 27 16 0],
 e1 45 0x2222262220020260018f22222022002000002000064c404c4400264c4044022201122 [G1 8 [cS 4 1,gK 48 0 [2004]],G2 16 [cS 6 1,gK 240518168652 12 [2006]],G1 22 [cS 6 1,gK 64 0 [2006]],G1 35 [cS 4 1,gK 48 0 [2004]],G1 41 [cS 4 1,gK 48 0 [2004]]],
 e0 24 0x22232026222022012,
 e0 25 0x26221,
 e1 4 0x22262264c40220260020200002026022202e22022262226c002260022000000220644c0026202600220000002206c404026442222220260032020220222222222026002064402644026440264402644022012 [g1 8 64 0,g1 18 64 0,g1 30 64 0,g2 40 2166395068749415481073492110 520,g1 46 8334 520,g1 59 64 0,G2 69 [cS 18 1,gK 2271632042004055836897573217853582 520 [2018]],G1 75 [cS 18 1,gK 2166395068749415481073819790 520 [2018]],g1 91 64 0,g1 100 64 0,G2 106 [.keep [1,7,13,138,139,140] [9]],g1 112 0 0,g1 124 64 0,g1 129 64 0]]
namespace trace_events_c1
def A5:List RO:=[o1 20 (.s 18) [],o2 21 (ix 5) [.s 16,.s 18] [],o2 22 (lD 5) [.s 21] [21],o2 6 (.a (.alloc 5 [.int .i64 0,.int .i64 0,.int .i64 0,.int .i64 0,.bK])) [] [],o1 5 (.s 20) [20],oz (.l (.store 5)) [.s 6,.s 22] [22]]
def yI:List RO:=[o1 23 (.s 0) [],o1 24 (.s 3) [],o1 25 (.s 5) [5],o2 26 (bI .add) [.s 25,.k (.int .i64 1)] [25],o2 27 (.p (.build [.int .i64 0,.int .i64 0] [(0,1),(1,1)])) [.s 24,.s 26] [24,26],o2 28 (lD 5) [.s 6] [6],
 o2 29 .c [.s 23,.s 27,.s 28] [23,27,28],o2 30 (.p .not) [.s 29] [29]]
def vC:List RO:=[o2 31 (bI .add) [.s 18,.k (.int .i64 1)] [],o1 18 (.s 31) [31]]
def EL:RC:=.hg (.seq (.ops [o2 19 (bI .lss) [.s 18,.s 17] []]) (.seq (.cond (.s 19) .skip (.exit 2)) (.seq (.block 3 (.seq (.ops A5) (.seq (.ops yI) (.cond (.s 30) .ret .skip)))) (.ops vC)))) (.keep [0,3,8,9,10,16,17,18] [])
def Iy:List RO:=[o1 12 (.s 10) [],o2 13 (ix 3) [.s 8,.s 10] [],o2 14 (lD 3) [.s 13] [13],o2 4 (.a (.alloc 3 [.str ByteArray.empty,.bK,.bK])) [] [],o1 3 (.s 12) [12],oz (.l (.store 3)) [.s 4,.s 14] [14]]
def GA:List RO:=[o2 15 (fa 2) [.s 4] [],o2 16 (ld 1) [.s 15] [15],o2 17 ln [.s 16] [],o1 18 (.k (.int .i64 0)) []]
def D5:List RO:=[o2 32 (bI .add) [.s 10,.k (.int .i64 1)] [],o1 10 (.s 32) [32]]
def U2:RC:=.block 2 (.gh (.keep [0,3,8,9,10,16,17,18] []) (.loop EL))
def LX:RC:=.hg (.seq (.ops [o2 11 (bI .lss) [.s 10,.s 9] []]) (.seq (.cond (.s 11) .skip (.exit 0)) (.seq (.block 1 (.seq (.ops Iy) (.seq (.ops GA) U2))) (.ops D5)))) (.keep [0,8,9,10] [])
def Qa:List RO:=[o2 7 (fa 0) [.s 1] [1],o2 8 (ld 1) [.s 7] [7],o2 9 ln [.s 8] [],o1 10 (.k (.int .i64 0)) []]
def U1:RC:=.block 0 (.gh (.keep [0,8,9,10] []) (.loop LX))
def text:RF:=⟨33,[],.seq (.ops Qa) U1⟩
section
variable {S:Sys}
abbrev I1 (ps:Sl cu) (i:Int) (B:List (List V)) (more:Bool) (y:Nat):St:=⟨[(0,.yl y),Cv 8 ps,Iv 9 (len ps),Iv 10 i],[],[],B,more,y⟩
abbrev I2 (ps:Sl cu) (i:Int) (es:Sl Event) (j:Int) (B:List (List V)) (more:Bool) (y:Nat):St:=⟨[(0,.yl y),Iv 3 i,Cv 8 ps,Iv 9 (len ps),Iv 10 i,Cv 16 es,Iv 17 (len es),Iv 18 j],[],[],B,more,y⟩
abbrev S2 (ps:Sl cu) (i:Int) (es:Sl Event) (j:Int) (b:Bool) (B:List (List V)) (more:Bool) (y:Nat):St:=⟨[(0,.yl y),Iv 3 i,Cv 8 ps,Iv 9 (len ps),Iv 10 i,Cv 16 es,Iv 17 (len es),Iv 18 j,Bv 19 b],[],[],B,more,y⟩
theorem Te (ps:Sl cu) (i:Int) (es:Sl Event) (j:Int) (B:List (List V)) (more:Bool) (y:Nat) (D:decide (j<len es)=false) :
 rn S.bare mY some (.rc EL) [] (I2 ps i es j B more y)=some (.exit 2,S2 ps i es j false B more y):=by
 refine Le.get ?_;refine Kf (n:=7) (fo':=.rc (.cond (.s 19) .skip (.exit 2))) (fs':=[.seq (.seq (.block 3 (.seq (.ops A5) (.seq (.ops yI) (.cond (.s 30) .ret .skip)))) (.ops vC)),.gst (.keep [0,3,8,9,10,16,17,18] [])]) (λb=>S2 ps i es j b B more y) D Ze ?_
 exact Le.of_eq Ze
theorem U3 (ps:Sl cu) (i:Int) (es:Sl Event) (j:Int) (e:Event) (B:List (List V)) (more:Bool) (y:Nat) (G:decide (j<len es)=true) (D:idx es j=some e) (J:(!(more || !B.isEmpty))=false) :
 rn S.bare mY some (.rc EL) [] (I2 ps i es j ([enc (⟨i,IntKind.wrap .i64 (j+1)⟩:aZ),enc e]::B) more y)=some (.norm,I2 ps i es (IntKind.wrap .i64 (j+1)) B more y):=by
 refine Le.get ?_;refine Kt (n:=7) (fo':=.rc (.cond (.s 19) .skip (.exit 2))) (fs':=[.seq (.seq (.block 3 (.seq (.ops A5) (.seq (.ops yI) (.cond (.s 30) .ret .skip)))) (.ops vC)),.gst (.keep [0,3,8,9,10,16,17,18] [])]) (λb=>S2 ps i es j b ([enc (⟨i,IntKind.wrap .i64 (j+1)⟩:aZ),enc e]::B) more y) G Ze ?_
 refine Po D ?_;refine Od 8 false [] (A5.drop 1) [.seq (.seq (.ops yI) (.cond (.s 30) .ret .skip)),.blk 3,.seq (.ops vC),.gst (.keep [0,3,8,9,10,16,17,18] [])] ⟨[(0,.yl y),Iv 3 i,Cv 8 ps,Iv 9 (len ps),Iv 10 i,Cv 16 es,Iv 17 (len es),Iv 18 j,Bv 19 true,Iv 20 j],[],[],([enc (⟨i,IntKind.wrap .i64 (j+1)⟩:aZ),enc e]::B),more,y⟩ .i64 rfl Ze λx h1=>?_
 obtain rfl:x=e:=by rw[D]at h1;cases h1;rfl
 refine Up 1 false [] (A5.drop 3) [.seq (.seq (.ops yI) (.cond (.s 30) .ret .skip)),.blk 3,.seq (.ops vC),.gst (.keep [0,3,8,9,10,16,17,18] [])] ⟨[(0,.yl y),Iv 3 i,Cv 8 ps,Iv 9 (len ps),Iv 10 i,Cv 16 es,Iv 17 (len es),Iv 18 j,Bv 19 true,Iv 20 j,Cv 22 x],[],[],([enc (⟨i,IntKind.wrap .i64 (j+1)⟩:aZ),enc x]::B),more,y⟩ [iv 0,iv 0,iv 0,iv 0,.v .bK] rfl (by simp only[bF,wW,pW,q9,pT,qY,sL,rq,sO,pQ,rE,wZ,sP,s6,sN,sS,uW,uS,q_,s_,SV.cR];rfl) Ze ?_
 refine Ast 1 false [] (A5.drop 5) [.seq (.seq (.ops yI) (.cond (.s 30) .ret .skip)),.blk 3,.seq (.ops vC),.gst (.keep [0,3,8,9,10,16,17,18] [])] ⟨[(0,.yl y),Iv 3 i,Cv 8 ps,Iv 9 (len ps),Iv 10 i,Cv 16 es,Iv 17 (len es),Iv 18 j,Bv 19 true,Cv 22 x,Pv 6,Iv 5 j],[Xb 6 (⟨0,0,0,0,.nil⟩:Event)],[],([enc (⟨i,IntKind.wrap .i64 (j+1)⟩:aZ),enc x]::B),more,y⟩ 6 0 x [iv 0,iv 0,iv 0,iv 0,.v .bK] ((cells x).map .v) rfl Ze ?_
 refine VL (n:=10) (q:=yI.drop 6) (fs':=[.seq (.cond (.s 30) .ret .skip),.blk 3,.seq (.ops vC),.gst (.keep [0,3,8,9,10,16,17,18] [])]) (st:=⟨[(0,.yl y),Iv 3 i,Cv 8 ps,Iv 9 (len ps),Iv 10 i,Cv 16 es,Iv 17 (len es),Iv 18 j,Bv 19 true,(23,.yl y),Cv 27 (⟨i,IntKind.wrap .i64 (j+1)⟩:aZ),Cv 28 x],[Xb 6 x],[],([enc (⟨i,IntKind.wrap .i64 (j+1)⟩:aZ),enc x]::B),more,y⟩) (vs:=[cv (⟨i,IntKind.wrap .i64 (j+1)⟩:aZ),cv x]) Ze rfl Ze Ze rfl rfl ?_
 refine Kf (n:=3) (fo':=.rc (.cond (.s 30) .ret .skip)) (fs':=[.blk 3,.seq (.ops vC),.gst (.keep [0,3,8,9,10,16,17,18] [])]) (λb=>⟨[(0,.yl y),Iv 3 i,Cv 8 ps,Iv 9 (len ps),Iv 10 i,Cv 16 es,Iv 17 (len es),Iv 18 j,Bv 19 true,Bv 30 b],[Xb 6 x],[],B,more,y⟩) J Ze ?_
 exact Le.of_eq Ze
theorem R9 (ps:Sl cu) (i:Int) (es:Sl Event) (j:Int) (e:Event) (B:List (List V)) (more:Bool) (y:Nat) (G:decide (j<len es)=true) (D:idx es j=some e) (J:(!(more || !B.isEmpty))=true) :
 rn S.bare mY some (.rc EL) [] (I2 ps i es j ([enc (⟨i,IntKind.wrap .i64 (j+1)⟩:aZ),enc e]::B) more y)=some (.ret,⟨[(0,.yl y),Iv 3 i,Cv 8 ps,Iv 9 (len ps),Iv 10 i,Cv 16 es,Iv 17 (len es),Iv 18 j,Bv 19 true,Bv 30 true],[Xb 6 e],[],B,more,y⟩):=by
 refine Le.get ?_;refine Kt (n:=7) (fo':=.rc (.cond (.s 19) .skip (.exit 2))) (fs':=[.seq (.seq (.block 3 (.seq (.ops A5) (.seq (.ops yI) (.cond (.s 30) .ret .skip)))) (.ops vC)),.gst (.keep [0,3,8,9,10,16,17,18] [])]) (λb=>S2 ps i es j b ([enc (⟨i,IntKind.wrap .i64 (j+1)⟩:aZ),enc e]::B) more y) G Ze ?_
 refine Po D ?_;refine Od 8 false [] (A5.drop 1) [.seq (.seq (.ops yI) (.cond (.s 30) .ret .skip)),.blk 3,.seq (.ops vC),.gst (.keep [0,3,8,9,10,16,17,18] [])] ⟨[(0,.yl y),Iv 3 i,Cv 8 ps,Iv 9 (len ps),Iv 10 i,Cv 16 es,Iv 17 (len es),Iv 18 j,Bv 19 true,Iv 20 j],[],[],([enc (⟨i,IntKind.wrap .i64 (j+1)⟩:aZ),enc e]::B),more,y⟩ .i64 rfl Ze λx h1=>?_
 obtain rfl:x=e:=by rw[D]at h1;cases h1;rfl
 refine Up 1 false [] (A5.drop 3) [.seq (.seq (.ops yI) (.cond (.s 30) .ret .skip)),.blk 3,.seq (.ops vC),.gst (.keep [0,3,8,9,10,16,17,18] [])] ⟨[(0,.yl y),Iv 3 i,Cv 8 ps,Iv 9 (len ps),Iv 10 i,Cv 16 es,Iv 17 (len es),Iv 18 j,Bv 19 true,Iv 20 j,Cv 22 x],[],[],([enc (⟨i,IntKind.wrap .i64 (j+1)⟩:aZ),enc x]::B),more,y⟩ [iv 0,iv 0,iv 0,iv 0,.v .bK] rfl (by simp only[bF,wW,pW,q9,pT,qY,sL,rq,sO,pQ,rE,wZ,sP,s6,sN,sS,uW,uS,q_,s_,SV.cR];rfl) Ze ?_
 refine Ast 1 false [] (A5.drop 5) [.seq (.seq (.ops yI) (.cond (.s 30) .ret .skip)),.blk 3,.seq (.ops vC),.gst (.keep [0,3,8,9,10,16,17,18] [])] ⟨[(0,.yl y),Iv 3 i,Cv 8 ps,Iv 9 (len ps),Iv 10 i,Cv 16 es,Iv 17 (len es),Iv 18 j,Bv 19 true,Cv 22 x,Pv 6,Iv 5 j],[Xb 6 (⟨0,0,0,0,.nil⟩:Event)],[],([enc (⟨i,IntKind.wrap .i64 (j+1)⟩:aZ),enc x]::B),more,y⟩ 6 0 x [iv 0,iv 0,iv 0,iv 0,.v .bK] ((cells x).map .v) rfl Ze ?_
 refine VL (n:=10) (q:=yI.drop 6) (fs':=[.seq (.cond (.s 30) .ret .skip),.blk 3,.seq (.ops vC),.gst (.keep [0,3,8,9,10,16,17,18] [])]) (st:=⟨[(0,.yl y),Iv 3 i,Cv 8 ps,Iv 9 (len ps),Iv 10 i,Cv 16 es,Iv 17 (len es),Iv 18 j,Bv 19 true,(23,.yl y),Cv 27 (⟨i,IntKind.wrap .i64 (j+1)⟩:aZ),Cv 28 x],[Xb 6 x],[],([enc (⟨i,IntKind.wrap .i64 (j+1)⟩:aZ),enc x]::B),more,y⟩) (vs:=[cv (⟨i,IntKind.wrap .i64 (j+1)⟩:aZ),cv x]) Ze rfl Ze Ze rfl rfl ?_
 refine Kt (n:=3) (fo':=.rc (.cond (.s 30) .ret .skip)) (fs':=[.blk 3,.seq (.ops vC),.gst (.keep [0,3,8,9,10,16,17,18] [])]) (λb=>⟨[(0,.yl y),Iv 3 i,Cv 8 ps,Iv 9 (len ps),Iv 10 i,Cv 16 es,Iv 17 (len es),Iv 18 j,Bv 19 true,Bv 30 b],[Xb 6 x],[],B,more,y⟩) J Ze ?_
 exact Le.of_eq Ze
abbrev S1 (ps:Sl cu) (i:Int) (b:Bool) (B:List (List V)) (more:Bool) (y:Nat):St:=⟨[(0,.yl y),Cv 8 ps,Iv 9 (len ps),Iv 10 i,Bv 11 b],[],[],B,more,y⟩
theorem Ub (ps:Sl cu) (i:Int) (B:List (List V)) (more:Bool) (y:Nat) (D:decide (i<len ps)=false) :
 rn S.bare mY some (.rc LX) [] (I1 ps i B more y)=some (.exit 0,S1 ps i false B more y):=by
 refine Le.get ?_;refine Kf (n:=7) (fo':=.rc (.cond (.s 11) .skip (.exit 0))) (fs':=[.seq (.seq (.block 1 (.seq (.ops Iy) (.seq (.ops GA) U2))) (.ops D5)),.gst (.keep [0,8,9,10] [])]) (λb=>S1 ps i b B more y) D Ze ?_
 exact Le.of_eq Ze
def PW:List Fm:=[.blk 2,.blk 1,.seq (.ops D5),.gst (.keep [0,8,9,10] [])]
theorem Qt (ps:Sl cu) (i:Int) (p:cu) (B:List (List V)) (more:Bool) (y:Nat) (r:Out×St) (G:decide (i<len ps)=true) (D:idx ps i=some p)
 (h:rn S.bare mY some (.rc (.loop EL)) PW (I2 ps i p.events 0 B more y)=some r):rn S.bare mY some (.rc LX) [] (I1 ps i B more y)=some r:=by
 refine Le.get ?_;refine Kt (n:=7) (fo':=.rc (.cond (.s 11) .skip (.exit 0))) (fs':=[.seq (.seq (.block 1 (.seq (.ops Iy) (.seq (.ops GA) U2))) (.ops D5)),.gst (.keep [0,8,9,10] [])]) (λb=>S1 ps i b B more y) G Ze ?_
 refine Po D ?_;refine Od 8 false [] (Iy.drop 1) [.seq (.seq (.ops GA) U2),.blk 1,.seq (.ops D5),.gst (.keep [0,8,9,10] [])] ⟨[(0,.yl y),Cv 8 ps,Iv 9 (len ps),Iv 10 i,Bv 11 true,Iv 12 i],[],[],B,more,y⟩ .i64 rfl Ze λx h1=>?_
 obtain rfl:x=p:=by rw[D]at h1;cases h1;rfl
 refine Up 1 false [] (Iy.drop 3) [.seq (.seq (.ops GA) U2),.blk 1,.seq (.ops D5),.gst (.keep [0,8,9,10] [])] ⟨[(0,.yl y),Cv 8 ps,Iv 9 (len ps),Iv 10 i,Bv 11 true,Iv 12 i,Cv 14 x],[],[],B,more,y⟩ [.v (.str ByteArray.empty),.v .bK,.v .bK] rfl (by simp only[bF,wW,pW,q9,pT,qY,sL,rq,sO,pQ,rE,wZ,sP,s6,sN,sS,uW,uS,q_,s_,SV.cR];rfl) Ze ?_
 refine Ast 1 false [] (Iy.drop 5) [.seq (.seq (.ops GA) U2),.blk 1,.seq (.ops D5),.gst (.keep [0,8,9,10] [])] ⟨[(0,.yl y),Cv 8 ps,Iv 9 (len ps),Iv 10 i,Bv 11 true,Cv 14 x,Pv 4,Iv 3 i],[Xb 4 (⟨ByteArray.empty,.nil,.nil⟩:cu)],[],B,more,y⟩ 4 0 x [.v (.str ByteArray.empty),.v .bK,.v .bK] ((cells x).map .v) rfl Ze ?_
 refine TW 6 false [] (GA.drop 2) [.seq U2,.blk 1,.seq (.ops D5),.gst (.keep [0,8,9,10] [])] ⟨[(0,.yl y),Cv 8 ps,Iv 9 (len ps),Iv 10 i,Bv 11 true,Pv 4,Iv 3 i,Cv 16 x.events],[Xb 4 x],[],B,more,y⟩ x.events rfl Ze ?_
 refine Dg (n:=5) (fo':=.rc (.loop EL)) (fs':=PW) (st':=I2 ps i x.events 0 B more y) Ze (Le.of_eq h)
theorem RN (ps:Sl cu) (i:Int) (es:Sl Event) (j:Int) (B:List (List V)) (more:Bool) (y:Nat) :
 rn S.bare mY some (.ex 2) PW (S2 ps i es j false B more y)=some (.norm,I1 ps (IntKind.wrap .i64 (i+1)) B more y):=by kernel_rfl
theorem wrap_small (n:Nat) (h:n<9223372036854775807):IntKind.wrap .i64 ((n:Int)+1)=((n+1:Nat):Int):=by
 simp[IntKind.wrap,IntKind.bits,IntKind.signed];omega
abbrev eI (x:aZ×Event):List V:=[enc x.1,enc x.2]
theorem Cb.step {x:List V} {D rest:List (List V)} {more:Bool} (h:Cb D (x::rest) more):∃B,D=x::B/\((!(more || !B.isEmpty))=false/\Cb B rest more\/(!(more || !B.isEmpty))=true/\B=[]):=by
 rcases h with⟨rfl,rfl⟩|⟨rfl,u,r,hr⟩
 .exact⟨rest,rfl,.inl ⟨rfl,.inl ⟨rfl,rfl⟩⟩⟩
 cases D with
 | nil=>exact absurd rfl u
 | cons w D=>
  simp only[List.cons_append,List.cons.injEq]at hr;obtain⟨rfl,rfl⟩:=hr;refine⟨D,rfl,?_⟩
  cases D with
  | nil=>exact .inr ⟨rfl,rfl⟩
  | cons z C=>exact .inl ⟨rfl,.inr ⟨rfl,by simp,r,rfl⟩⟩
theorem FW {α:Type} {s:Sl α} {j:Nat} {x:α} {r:List α} (h:s.l.drop j=x::r):idx s (j:Int)=some x/\decide ((j:Int)<len s)=true/\s.l.drop (j+1)=r:=by
 have h1:j<s.l.length:=by
  apply Classical.byContradiction;intro w;rw[List.drop_eq_nil_of_le Za]at h;cases h
 have u:=List.drop_eq_getElem_cons h1;rw[u]at h;simp only[List.cons.injEq]at h;refine⟨?_,by simp[len,h1],h.2⟩
 unfold idx;rw[if_pos Za]
 simp[ζd h1,h.1]
variable {Q:Out×St->Option (Out×St)} {fs:List Fm}
theorem inner (ps:Sl cu) (i:Int) (es:Sl Event) (U:es.l.length<9223372036854775807) (more:Bool) (y:Nat) (R:List (List V)):∀(rem:List Event) (j:Nat),es.l.drop j=rem->∀D,Cb D ((iD i j rem).map eI++R) more ->
 (∃(B:List (List V)) (W:Int),Cb B R more/\rn S.bare mY Q (.rc (.loop EL)) fs (I2 ps i es j D more y)=rn S.bare mY Q (.ex 2) fs (S2 ps i es W false B more y)) \/
 (∃st':St,st'.want=[]/\rn S.bare mY Q (.rc (.loop EL)) fs (I2 ps i es j D more y)=Q (.ret,st'))
 | [],j,J,D,G=>by
  have h1:decide ((j:Int)<len es)=false:=by
   have:es.l.length<=j:=by simpa using J
   simp[len];omega
  exact .inl ⟨D,j,by simpa [iD]using G,DT (Te ps i es j D more y h1)⟩
 | e::rem,j,J,D,G=>by
  obtain⟨h1,z,T⟩:=FW J;have Y:j<es.l.length:=by simpa [len]using z
  simp only[iD,List.map_cons,List.cons_append]at G;obtain⟨B,rfl,u⟩:=Cb.step G;have C:=wrap_small j Za
  have w:((j:Int)+1)=IntKind.wrap .i64 ((j:Int)+1):=by rw[C];simp
  rcases u with⟨u,I⟩|⟨u,rfl⟩
  .have k:=U3 (S:=S) ps i es j e B more y z h1 u;rw[<-w]at k;have k2:=Ed (Q:=Q) (fs:=fs) k;have O:=inner ps i es U more y R rem (j+1) T B (by push_cast;exact I)
   rw[show ((j+1:Nat):Int)=(j:Int)+1 from rfl]at O;rcases O with⟨L,X,g1,g2⟩|⟨st',g1,g2⟩
   .exact .inl ⟨L,X,g1,k2.trans g2⟩
   exact .inr ⟨st',g1,k2.trans g2⟩
  have k:=R9 (S:=S) ps i es j e [] more y z h1 u;rw[<-w]at k;exact .inr ⟨_,by rfl,D9 k⟩
theorem outer (ps:Sl cu) (O:ps.l.length<9223372036854775807) (D:∀p∈ps.l,p.events.l.length<9223372036854775807) (more:Bool) (y:Nat):∀(rem:List cu) (i:Nat),ps.l.drop i=rem->∀B,Cb B ((fI i rem).map eI) more ->
 rn S.bare mY Qi (.rc (.loop LX)) [.blk 0] (I1 ps i B more y)=some ()
 | [],i,G,B,J=>by
  have h1:decide ((i:Int)<len ps)=false:=by
   have:ps.l.length<=i:=by simpa using G
   simp[len];omega
  rw[DT (Ub ps i B more y h1)];have:B=[]:=by
   rcases J with⟨_,rfl⟩|⟨_,C,r,hr⟩
   .rfl
   have:B=[]:=by cases B with
    | nil=>rfl
    | cons=>simp[fI]at hr
   exact absurd this C
  subst this;rfl
 | p::rem,i,G,B,J=>by
  obtain⟨h1,u,I⟩:=FW G;have T:i<ps.l.length:=by simpa [len]using u
  have L:p∈ps.l:=List.mem_of_mem_drop (i:=i) (by rw[G];exact List.mem_cons_self ..)
  simp only[fI,List.map_append]at J;have w:=wrap_small i Za
  rcases inner (S:=S) (Q:=some) (fs:=PW) ps i p.events (D p L) more y _ p.events.l 0 rfl B J with⟨z,U,g1,g2⟩|⟨st',g1,g2⟩
  .rw[RN,w]at g2;rw[Ed (Qt ps i p B more y _ u h1 g2)];exact outer ps O D more y rem (i+1) I z g1
  rw[D9 (Qt ps i p B more y _ u h1 g2)];simp[Qi,g1]
theorem all (t:Trace) (B:List (aZ×Event)) (h:iY t=some B) (D:List (List V)) (more:Bool) (G:Cb D (B.map eI) more) (y:Nat) :
 rn S.bare mY Qi (.rc text.body) [] ⟨wI 0 (([]:List V).map .v++.yl y::[V.fptr (cells t)].map .v),[],[],D,more,y⟩=some ():=by
 unfold iY at h;split at h
 .rename_i hk;cases h;simp only[ζh,List.all_eq_true,Fe,decide_eq_true_eq]at hk;refine Le.get ?_;refine TW 4 false [] (Qa.drop 2) [.seq U1] ⟨[(0,.yl y),Cv 8 t.procs],[],[],D,more,y⟩ t.procs rfl Ze ?_
  refine Dg (n:=5) (fo':=.rc (.loop LX)) (fs':=[.blk 0]) (st':=I1 t.procs 0 D more y) Ze (Le.of_eq ?_)
  exact outer t.procs hk.1 hk.2 more y t.procs.l 0 rfl D G
 cases h
end
theorem Jk {α:Type} [bB α] {a b:Sl α} (h:b8 a=b8 b):rows a.l=rows b.l:=by
 cases a <;> cases b <;> first|rfl|(simp only[b8,Sl.k,nO,V.fsl.injEq,true_and,reduceCtorEq]at h;done)|(simp only[b8,Sl.k,nO,V.fsl.injEq,true_and,reduceCtorEq]at h;exact h)
theorem Hp (p:Int):∀(es B:List Event) (j:Int),rows es=rows B->(iD p j es).map eI=(iD p j B).map eI
 | [],[],_,_=>rfl
 | [],_::_,_,h=>by simp[rows]at h
 | _::_,[],_,h=>by simp[rows]at h
 | e::es,D::B,j,h=>by
  simp only[rows,List.map_cons,List.cons.injEq]at h;have h1:enc e=enc D:=by show V.agg (cells e)=V.agg (cells D);rw[h.1]
  simp only[iD,List.map_cons,eI,h1,Hp p es B (j+1) h.2]
theorem Cn:∀(ps B:List cu) (i:Int),rows ps=rows B->(fI i ps).map eI=(fI i B).map eI
 | [],[],_,_=>rfl
 | [],_::_,_,h=>by simp[rows]at h
 | _::_,[],_,h=>by simp[rows]at h
 | p::ps,p'::B,i,h=>by
  simp only[rows,List.map_cons,List.cons.injEq]at h;have h1:b8 p.events=b8 p'.events:=by
   have:=h.1;change [V.str p.name,b8 p.vars,b8 p.events]=[V.str p'.name,b8 p'.vars,b8 p'.events]at this;simp only[List.cons.injEq]at this;exact this.2.2.1
  simp only[fI,List.map_append,Hp i _ _ 0 (Jk h1),Cn ps B (i+1) h.2]
def Fj (f:FuncId) (g:FuncId) (a b:List V) (xs:List (List V)):Prop:=∃(t:Trace) (u:List (aZ×Event)),g=f/\a=[]/\b=[.fptr (cells t)]/\iY t=some u/\xs=u.map eI
theorem Fj.uniq {f g:FuncId} {a b:List V} {xs ys:List (List V)} (h:Fj f g a b xs) (k:Fj f g a b ys):xs=ys:=by
 obtain⟨t,C,rfl,rfl,rfl,h1,rfl⟩:=h;obtain⟨z,B,_,_,w,u,rfl⟩:=k;simp only[List.cons.injEq,V.fptr.injEq,and_true]at w;have D:b8 t.procs=b8 z.procs:=by
  change [b8 t.procs]=[b8 z.procs]at w;simpa using w
 unfold iY at h1 u;split at h1 <;> split at u <;> simp only[ζa,reduceCtorEq]at h1 u;subst h1 u;exact Cn _ _ 0 (Jk D)
end trace_events_c1
end Go.VE
namespace Go.VE
open Go.Proofs.YtlhegnhabpldfaaGreatDoor
noncomputable section
noncomputable def K8 (f:FuncId):Option Eo:=bif Nat.beq f 150 then some (sq E)else bif Nat.beq f 147 then some (rZ E)else none
noncomputable def Sy:Sys:=⟨E,λn=>n,wP (trace_events_c1.Fj 104),zN E,K8⟩
theorem Rs:Sy.prm 150=some (sq Sy.E):=by kernel_rfl
theorem SA:Sy.prm 147=some (rZ Sy.E):=by kernel_rfl
theorem Uj:∀f q,K8 f=some q->oa E f q:=by
 intro f q h;unfold K8 at h
 cases h1:Nat.beq f 150 with
 | true=>
  rw[h1]at h;cases h;have:=Nat.eq_of_beq_eq_true h1;subst this;exact OK Al Ze Ze (Bo Ze)
 | false=>
  rw[h1]at h
  cases h1:Nat.beq f 147 with
  | true=>
   rw[h1]at h;cases h;have:=Nat.eq_of_beq_eq_true h1;subst this;exact NY Ze Ze Ze Ze
  | false=>
   rw[h1]at h;cases h
def Tx:pI:=OA E some (lk KM)
abbrev cL:ck:=c_ Sy Tx
theorem TY:∃fi,E.ft 104=some fi/\xR E some fi trace_events_c1.text:=T8 Ze
theorem Fu:qH Sy Tx where
 fn f rf h:=let ⟨u,h1,w⟩:=Pw h;⟨u,some,h1,Al,w⟩
 yB f z y h:=LI h
 prm:=Uj
theorem Ah:∀f a b xs,Sy.items f a b=some xs->fH Sy f a b xs:=by
 intro f a b xs h;obtain⟨t,u,rfl,rfl,rfl,h1,rfl⟩:=Ld h;obtain⟨D,w,z⟩:=TY;exact PF Sy w Al z (Nat.le_of_ble_eq_true rfl) rfl λB more C y=>trace_events_c1.all t u h1 B more C y
theorem xB (t:Trace) (B:List (aZ×Event)) (h:iY t=some B):Sy.items 104 [] [.fptr (cells t)]=some (B.map λx:aZ×Event=>[enc x.1,enc x.2]):=
 Ko ⟨t,B,rfl,rfl,rfl,h,rfl⟩ λw u=>u.uniq ⟨t,B,rfl,rfl,rfl,h,rfl⟩
theorem LO:Sy.yB 5 []=some (.bool true):=vK (Ii rfl ⟨1,[],by kernel_rfl⟩)
end
end Go.VE
namespace Go.VE
noncomputable section
def tI (D:Trace) (B:aZ):Option Event:=
 (idx D.procs B.proc).bind λu=>
 (idx u.events (IntKind.wrap .i64 (B.index-1))).bind λw=>
 some w
instance UG (B:Trace) (D:aZ):Fc Sy cL (tI B D):=Fc.N 77 [enc B,enc D] (dR 2 2 B (b9 10 λw _=>b9 5 λu _=>nK 1 4 0 u bg))
namespace dQ
def bX (B G p7:Int) (D:Trace) (J:aZ) (i8:Int):Option (Fw Int Unit aZ):=
 (idx D.procs p7).bind λw=>
 br (decide (i8<(len w.events)))
 ((idx D.procs p7).bind λz=>
 (idx z.events i8).bind λu=>
 (br (u.kind==B)
 (some (u.message==G))
 (some false):Option Bool).bind λC=>
 br C
 (some (.r (⟨p7,IntKind.wrap .i64 (i8+1)⟩:aZ)))
 (some (.n (IntKind.wrap .i64 (i8+1)))))
 (some (.x ()))
def W2 (B J p7 i8:Int) (D:Trace) (G:aZ):Option (Fw Int Unit aZ):=
 (bR (λq:Int=>bX B J p7 D G q) i8).bind (Fw.elim
 (λe=>some (.n (IntKind.wrap .i64 (p7+1))))
 (λe=>some (.r e)))
def bt (B J:Int) (D:Trace) (G:aZ) (p7:Int):Option (Fw Int Unit aZ):=
 br (decide (p7<(len D.procs)))
 (W2 B J p7 0 D G)
 (some (.x ()))
def W1 (B J p7:Int) (D:Trace) (G:aZ):Option aZ:=
 (bR (λq:Int=>bt B J D G q) p7).bind (Fw.elim
 (λe=>some ⟨0,0⟩)
 (λe=>some e))
end dQ
def dQ (D:Trace) (B G:Int):Option aZ:=
 dQ.W1 B G 0 D (⟨0,0⟩:aZ)
open dQ in
instance S0 (D:Trace) (B G:Int):Fc Sy cL (dQ D B G):=Fc.M 78 [enc D,.int .i64 B,.int .i64 G] (dR 2 3 D (dW 11 (λu=>(bF [Iv 1 B,Iv 2 G,Pv 3,Pv 6,Iv 7 u] [Xb 3 D,Xb 6 (⟨0,0⟩:aZ)])) (λw=>(0,(bF [Pv 6] [Xb 6 (⟨0,0⟩:aZ)]))) (λw=>(bF [Pv 6] [Xb 6 w])) (λu=>bU 7 D.procs (bD 3 14 (dW 12 (λC=>(bF [Iv 1 B,Iv 2 G,Pv 3,Pv 6,Iv 7 u,Iv 8 C] [Xb 3 D,Xb 6 (⟨0,0⟩:aZ)])) (λz=>(2,(bF [Iv 1 B,Iv 2 G,Pv 3,Pv 6,Iv 7 u] [Xb 3 D,Xb 6 (⟨0,0⟩:aZ)]))) (λz=>(bF [Pv 6] [Xb 6 z])) (λC=>b9 8 λI _=>bU 2 I.events (bD 3 25 (b9 10 λL _=>b9 3 λJ _=>nK 2 9 0 J (cB 9 5 [9,41] 46 (bD 9 41 (bH 5) (bH 5)) λO=>bD 2 46 bg bg)) bg)) (λz=>bg) (λz=>bg)) bg)) (λw=>bg) (λw=>bg)))
namespace dM
def J1 (B:Sl aZ) (D:Trace) (G:aZ):Option (Sl aZ):=
 (tI D G).bind λu=>
 br (u.kind==3)
 ((dQ D 2 u.message).bind λw=>
 (gw B (w:aZ)).bind λz=>
 some z)
 (some B)
end dM
def dM (D:Trace) (B:aZ):Option (Sl aZ):=
 br (decide (B.index>1))
 (dM.J1 (Sl.row [⟨B.proc,IntKind.wrap .i64 (B.index-1)⟩]:Sl aZ) D B)
 (dM.J1 (Sl.nil:Sl aZ) D B)
open dM in
theorem yJ (D:Trace) (B:aZ):Le ((dM D B).bind λr=>some (cF r)) (ct Sy cL (zK (tr Tx 79)) (.rc (tb Tx 79),[],start ([enc D,enc B].map .v) [])):=
 dR 2 2 D (bD 17 9 (QL 10 17 18 .bK (⟨B.proc,IntKind.wrap .i64 (B.index-1)⟩:aZ) (wu 5 (bN 4 λu _=>nK 1 6 0 u (bD 10 24 (bN 6 λw _=>mm 1 2005 30 31 λz _=>bg) bg)))) (wu 5 (bN 4 λu _=>nK 1 6 0 u (bD 10 24 (bN 6 λw _=>mm 1 2005 30 31 λz _=>bg) bg))))
def nU (dir:aZ->Option (Sl aZ)):List (List Bool)×List aZ->Option (Fw (List (List Bool)×List aZ) (List (List Bool)) Empty)
 | (out,[])=>some (.x out)
 | (out,y::rest)=>if 0<=y.proc/\0<=y.index then(out[y.proc.toNat]?).bind λrow=>(row[y.index.toNat]?).bind λb=>
  br b (some (.n (out,rest))) ((dir y).bind λmore=>if rest.length+more.l.length<=2147483648 then some (.n (out.set y.proc.toNat (row.set y.index.toNat true),rest++more.l))else none)else none
def gC (t:Trace):List (List Bool):=t.procs.l.map λP=>List.replicate (P.events.l.length+1) false
def yO (t:Trace):Bool:=decide (t.procs.l.length<=2147483648)&&t.procs.l.all λP=>decide (P.events.l.length+1<=2147483648)
def nested (out:List (List Bool)):Sl (Sl Bool):=if out=[]then .nil else .row (out.map .row)
def mQ (t:Trace) (x:aZ):Option (Sl (Sl Bool)):=
 if yO t then(dM t x).bind λs=>(bR (nU (dM t)) (gC t,s.l)).bind (Fw.elim (λout=>some (nested out)) (λe=>Empty.elim e))else none
end
namespace pastX
abbrev vI:Nat->FuncId:=λn=>n
def r1:List RO:=[o2 2 (.a .box) [0] [],o2 3 (.a .box) [1] [],o1 4 (.k (.bK)) []]
def r2:List RO:=[o1 5 (.k (.bK)) []]
def r3:List RO:=[o1 6 (.k (.int .i64 0)) []]
def r4:List RO:=[o1 11 6 [],o2 12 (fa 0) [2] [],o2 13 (ld 1) [12] [],o2 14 ln [13] [],o2 15 (bI .lss) [11,14] []]
def r5:List RO:=[o1 18 5 [],o2 19 (fa 0) [2] [],o2 20 (ld 1) [19] [],o1 21 6 [],o2 22 (ix 3) [20,21] [],o2 23 (fa 2) [22] [],o2 24 (ld 1) [23] [],o2 25 ln [24] [],o2 26 (bI .add) [25,.k (.int .i64 1)] [],o2 27 (.a (.makeSl 1 [.bool false])) [26,26] [],o2 28 (.a (.buildSl 1 1 [.bK] [0])) [27] [],o2 29 (.l (.append 1)) [18,28] [],o1 5 29 []]
def r6:List RO:=[o1 16 6 [],o2 17 (bI .add) [16,.k (.int .i64 1)] [],o1 6 17 []]
def L1:RC:=.seq (.seq (.ops r4) (.cond (.s 15) (.skip) (.exit 0))) (.seq (.block 1 (.ops r5)) (.ops r6))
def r7:List RO:=[o2 30 (lD 1) [2] [],o2 31 (lD 2) [3] [],o2 32 .c [.f 79,30,31] [],o1 7 32 []]
def r8:List RO:=[o1 33 7 [],o2 34 ln [33] [],o2 35 (bI .gtr) [34,.k (.int .i64 0)] []]
def r9:List RO:=[o1 36 7 [],o2 37 (ix 2) [36,.k (.int .i64 0)] [],o2 38 (lD 2) [37] [],o2 8 (.a (.alloc 2 [.int .i64 0,.int .i64 0])) [] [],oz (su 2) [8,38] []]
def CM:List RO:=[o1 39 7 [],o2 40 (.p (.slice 2 true false)) [39,.k (.int .i64 1)] [],o1 7 40 []]
def ES:List RO:=[o1 41 5 [],o2 42 (fa 0) [8] [],o2 43 (ld 1) [42] [],o2 44 (ix 1) [41,43] [],o2 45 (ld 1) [44] [],o2 46 (fa 1) [8] [],o2 47 (ld 1) [46] [],on 48 (ix 1) [45,47] [],on 49 (ld 1) [48] []]
def EV:List RO:=[o1 50 5 [],o2 51 (fa 0) [8] [],o2 52 (ld 1) [51] [],o2 53 (ix 1) [50,52] [],o2 54 (ld 1) [53] [],o2 55 (fa 1) [8] [],o2 56 (ld 1) [55] [],on 57 (ix 1) [54,56] [],oy (su 1) [57,.k (.bool true)] []]
def DQ:List RO:=[o2 58 (lD 1) [2] [],o2 59 (lD 2) [8] [],o2 60 .c [.f 79,58,59] [],o1 9 60 []]
def Cr:List RO:=[o1 10 (.k (.int .i64 0)) []]
def EP:List RO:=[o1 61 10 [],o1 62 9 [],o2 63 ln [62] [],o2 64 (bI .lss) [61,63] []]
def D6:List RO:=[o1 67 7 [],o1 68 9 [],o1 69 10 [],o2 70 (ix 2) [68,69] [],o2 71 (lD 2) [70] [],o2 72 (.a (.buildSl 2 1 [.int .i64 0,.int .i64 0] [0])) [71] [],o2 73 (.l (.append 2)) [67,72] [],o1 7 73 []]
def MK:List RO:=[o1 65 10 [],o2 66 (bI .add) [65,.k (.int .i64 1)] [],o1 10 66 []]
def L3:RC:=.seq (.seq (.ops EP) (.cond (.s 64) (.skip) (.exit 4))) (.seq (.block 5 (.ops D6)) (.ops MK))
def L2:RC:=.seq (.seq (.ops r8) (.cond (.s 35) (.skip) (.exit 2))) (.block 3 (.seq (.ops r9) (.seq (.ops CM) (.seq (.seq (.oQ ES) (.cond (.s 49) (.exit 3) (.skip))) (.seq (.oQ EV) (.seq (.ops DQ) (.seq (.ops Cr) (.block 4 (.loop L3)))))))))
def VQ:List RO:=[o1 74 5 [],o1 4 74 []]
def code:RC:=.seq (.ops r1) (.seq (.ops r2) (.seq (.seq (.ops r3) (.block 0 (.loop L1))) (.seq (.ops r7) (.seq (.block 2 (.loop L2)) (.seq (.ops VQ) (.ret))))))
noncomputable abbrev ve:=Go.Proofs.YtlhegnhabpldfaaGreatDoor.E
def jF (out:List (List Bool)):List (List V):=out.map λr=>r.map V.bool
theorem shape:∃fi,ve.ft (vI 55)=some fi/\bQ ⟨ve,some,fi.ntmps⟩ false fi.body=some code/\2<=fi.ntmps/\fi.results=[.tmp 4]:=by
 have h:((ve.ft (vI 55)).map λfi=>(bQ ⟨ve,some,fi.ntmps⟩ false fi.body,Nat.ble 2 fi.ntmps,fi.results))=some (some code,true,[.tmp 4]):=by kernel_rfl
 obtain⟨fi,h1,u⟩:=ζf.1 h;simp only[ζc]at u;exact⟨fi,h1,u.1,Nat.le_of_ble_eq_true u.2.1,u.2.2⟩
section
variable {E:Env} {N:Nat->FuncId} {t:Trace} {x:aZ} {k:Nat} {F:Frame} {H H1:bl} {call:dx} {b:Option Nat}
theorem jA {o:RO} {l:List RO} {v:V} {r:Frame×bl} (hg:o.gd=none) (hv:bE E N call b o.now o.k (o.az.map (bz N F)) H=some (v,H1)) (h:cE E N call b l (bu F o.dst v) H1=some r):cE E N call b (o::l) F H=some r:=by
 simp[cE,hg,hv];omega
theorem vp {o:RO} {l:List RO} {v:V} {r:Frame×bl} (hg:o.gd=none) (hv:bE E N call b o.now o.k (o.az.map (bz N F)) H=some (v,H)) (h:cE E N call b l (bu F o.dst v) H=some r):cE E N call b (o::l) F H=some r:=jA hg hv h
theorem dY:cE E N call b [] F H=some (F,H):=rfl
theorem ld1 (h:H[0]? = some (.row 1 [cells t])):eR H (.load 1 false) [.hptr 0 0 0]=some (b8 t.procs):=by
 simp[eR,ey,h];rfl
theorem Wk {s:Sl cu} {p:cu} {i:Nat} (h:s.l[i]? = some p):lu 3 (b8 s) (i:Int)=some (.fptr (cells p)):=by
 have:=DJ (N:=λn=>n) s .i64 i 3 rfl
 simp[bn]at this;rw[this,show idx s i=some p from by unfold idx;grind];rfl
theorem x4 (f2:get F 2=.hptr 0 0 0) (f6:get F 6=.int .i64 k) (h0:H[0]? = some (.row 1 [cells t])) :
 ∃F',cE E N call none r4 F H=some (F',H)/\get F' 15=.bool (decide (k<t.procs.l.length))/\(∀s,s<11->get F' s=get F s):=by
 refine⟨_,vp (v:=.int .i64 k) rfl ?_ <| vp (v:=.hptr 0 0 0) rfl ?_ <| vp (v:=b8 t.procs) rfl ?_ <| vp (v:=.int .i64 t.procs.l.length) rfl ?_ <| vp (v:=.bool (decide (k<t.procs.l.length))) rfl ?_ dY,?_,?_⟩
 .simp[bE,bz,bn,f6]
 .simp[bE,bz,bn,bu,f2,gT]
 .simp only[bE,List.map_cons,List.map_nil,bz,bu,bA,if_true];rw[ld1 h0];rfl
 .simp only[bE,List.map_cons,List.map_nil,bz,bu,bA,if_true];rw[xV];rfl
 .simp[bE,bz,bn,bu,gN,nJ]
 .simp[bu]
 simp[bu,bA]
 grind
theorem wM {n:Nat} (h:n<=2147483648):IntKind.wrap .i64 ((n:Int)+1)=((n+1:Nat):Int):=by
 simp[IntKind.wrap,IntKind.bits];omega
theorem x5 {P:cu} {o:Nat} {ids:List Nat} {rows:List (List V)} (f2:get F 2=.hptr 0 0 0) (f6:get F 6=.int .i64 k) (h0:H[0]? = some (.row 1 [cells t])) (B:t.procs.l[k]? = some P) (G:P.events.l.length+1<=2147483648)
 (D:l_ H (get F 5) o ids rows) (hr:rows.length+1<=2147483648) :
 ∃F' H',cE E N call none r5 F H=some (F',H')/\l_ H' (get F' 5) (H.length+2) (ids++[H.length]) (rows++[List.replicate (P.events.l.length+1) (.bool false)])/\H.length<=H'.length/\(∀id,id<H.length->id≠o\/rows=[]->H'[id]? = H[id]?)/\(∀s,s<11->s≠5->get F' s=get F s):=by
 obtain⟨H',p1,p2,p3,p4⟩:=D.push (List.replicate (P.events.l.length+1) (.bool false)) hr;have u:iW (List.replicate (P.events.l.length+1) (V.bool false))=List.replicate (P.events.l.length+1) [.bool false]:=by simp[iW]
 rw[u,List.length_replicate]at p1;have w:=wM (n:=P.events.l.length) Za
 refine⟨_,H',vp (v:=get F 5) rfl ?_ <| vp (v:=.hptr 0 0 0) rfl ?_ <| vp (v:=b8 t.procs) rfl ?_ <| vp (v:=.int .i64 k) rfl ?_ <| vp (v:=.fptr (cells P)) rfl ?_ <| vp (v:=.fptr [b8 P.events]) rfl ?_ <| vp (v:=b8 P.events) rfl ?_ <|
  vp (v:=.int .i64 P.events.l.length) rfl ?_ <| vp (v:=.int .i64 (P.events.l.length+1:Nat)) rfl ?_ <| jA (v:=.hsl H.length 1 0 (P.events.l.length+1)) (H1:=H++[.row 1 (List.replicate (P.events.l.length+1) [.bool false])]) rfl ?_ <|
  jA (v:=.hsl (H.length+1) 1 0 1) (H1:=H++[.row 1 (List.replicate (P.events.l.length+1) [.bool false])]++[.row 1 [[.hsl H.length 1 0 (P.events.l.length+1)]]]) rfl ?_ <|
  jA (v:=.hsl (H.length+2) 1 0 (rows.length+1))  rfl ?_ <| vp (v:=.hsl (H.length+2) 1 0 (rows.length+1)) rfl ?_ dY,?_,p3,p4,?_⟩
 .simp[bE,bz,bn]
 .simp[bE,bz,bn,bu,f2,gT]
 .simp only[bE,List.map_cons,List.map_nil,bz,bu,bA,if_true];rw[ld1 h0];rfl
 .simp[bE,bz,bn,bu,f6]
 .simp only[bE,List.map_cons,List.map_nil,bz,bu,bA,Nat.reduceEqDiff,if_true,if_false,bn];rw[Wk B];rfl
 .simp[bE,bz,bu,bA,bn];rfl
 .simp[bE,bz,bu,bA];rfl
 .simp only[bE,List.map_cons,List.map_nil,bz,bu,bA,if_true];rw[xV];rfl
 .simp[bE,bz,bu,bA,bn,gN];grind
 .simp only[bE,List.map_cons,List.map_nil,bz,bu,bA,if_true,iP];rw[if_pos ⟨trivial,trivial,by omega,by omega,by omega⟩]
  simp[Mk.val]
 .simp[bE,bz,bu,bA,iP];simp[gA,V.cells,V.one,Mk.val]
 .simp only[bE,List.map_cons,List.map_nil,bz,bu,bA,Nat.reduceEqDiff,if_true,if_false];omega
 .simp[bE,bz,bn,bu]
 .simp[bu,bA];omega
 intro s z C;simp[bu,bA]
 repeat (rw[if_neg Za])
theorem x6 (f6:get F 6=.int .i64 k) (hk:k<=2147483648):∃F',cE E N call none r6 F H=some (F',H)/\get F' 6=.int .i64 ((k+1:Nat):Int)/\(∀s,s<11->s≠6->get F' s=get F s):=by
 have u:=wM hk;refine⟨_,vp (v:=.int .i64 k) rfl ?_ <| vp (v:=.int .i64 (k+1:Nat)) rfl ?_ <| vp (v:=.int .i64 (k+1:Nat)) rfl ?_ dY,?_,?_⟩
 .simp[bE,bz,bn,f6]
 .simp[bE,bz,bu,bA,bn,gN];grind
 .simp[bE,bz,bn,bu]
 .simp[bu]
 simp[bu,bA]
 grind
end
structure P1 (t:Trace) (x:aZ) (k:Nat) (F:Frame) (H:bl):Prop where
 f2:get F 2=.hptr 0 0 0
 f3:get F 3=.hptr 1 0 0
 f6:get F 6=.int .i64 k
 h0:H[0]? = some (.row 1 [cells t])
 h1:H[1]? = some (.row 2 [cells x])
 ns:∃o ids,l_ H (get F 5) o ids (jF ((gC t).take k))/\(k≠0->2<=o)/\∀id∈ids,2<=id
theorem vr (out:List (List Bool)):(jF out).length=out.length:=by simp[jF]
theorem K2 {E:Env} {N:Nat->FuncId} {t:Trace} {x:aZ} (J:yO t=true):∀(m k:Nat) (F:Frame) (H:bl),k+m=t.procs.l.length->P1 t x k F H->∃F' H',lI E N L1 F H (.exit 0) F' H'/\P1 t x t.procs.l.length F' H':=by
 have B:t.procs.l.length<=2147483648/\∀P∈t.procs.l,P.events.l.length+1<=2147483648:=by
  simpa [yO]using J
 intro m
 induction m with
 | zero=>
  intro k F H hk p;have C:k=t.procs.l.length:=by omega
  obtain⟨F1,e1,e2,e3⟩:=x4 (E:=E)  (call:=⟨0,λ_ _ _=>none⟩) p.f2 p.f6 p.h0
  refine⟨F1,H,lI.stop (Ex.tf (Ex.seq (Ex.cZ λc=>?_) (Ex.oK ?_ Ex.exit)) Zc) Zc,?_⟩
  .have:cE E N c none r4 F H=cE E N ⟨0,λ_ _ _=>none⟩ none r4 F H:=rfl
   exact e1
  .show get F1 15=_;rw[e2];simp[C]
  subst C;exact⟨by rw[e3 2 Za];exact p.f2,by rw[e3 3 Za];exact p.f3,by rw[e3 6 Za];exact p.f6,p.h0,p.h1,by rw[e3 5 Za];exact p.ns⟩
 | succ m Z=>
  intro k F H hk p;have w:k<t.procs.l.length:=by omega
  obtain⟨o,ids,U,n2,n3⟩:=p.ns;obtain⟨F1,e1,e2,e3⟩:=x4 (E:=E) (N:=N) (call:=⟨0,λ_ _ _=>none⟩) p.f2 p.f6 p.h0
  have W:=ζd w;have D:((gC t).take k).length=k:=by simp[gC];omega
  have I:l_ H (get F1 5) o ids (jF ((gC t).take k)):=by rw[e3 5 Za];exact U
  obtain⟨F2,H2,g1,g2,g3,g4,g5⟩:=x5 (E:=E) (N:=N) (call:=⟨0,λ_ _ _=>none⟩) (by rw[e3 2 Za];exact p.f2) (by rw[e3 6 Za];exact p.f6) p.h0 W (B.2 _ (List.getElem_mem w)) I (by rw[vr,D];omega)
  obtain⟨X,q1,q2,L⟩:=x6 (E:=E) (N:=N) (call:=⟨0,λ_ _ _=>none⟩) (H:=H2)   (by rw[g5 6 Za Za,e3 6 Za];exact p.f6) Za
  have Y:=U.lt;have O:=(ζe.1 p.h0).1;have Q:=(ζe.1 p.h1).1;have u:∀i,i<2->i<H.length->H2[i]? = H[i]? := λi hi Y=>g4 i Y (by
   by_cases G:k=0
   .subst G;right;simp[jF]
   left;have:=n2 G;omega)
  have S:P1 t x (k+1) X H2:=by
   refine⟨by rw[L 2 Za Za,g5 2 Za Za,e3 2 Za];exact p.f2,by rw[L 3 Za Za,g5 3 Za Za,e3 3 Za];exact p.f3,q2,
    by rw[u 0 Za O];exact p.h0,by rw[u 1 Za Q];exact p.h1,H.length+2,ids++[H.length],?_,λ_=>by omega,λid T=>?_⟩
   .rw[L 5 Za Za]
    have z:jF ((gC t).take (k+1))=jF ((gC t).take k)++[List.replicate (t.procs.l[k].events.l.length+1) (.bool false)]:=by
     rw[List.take_add_one];have:(gC t)[k]? = some (List.replicate (t.procs.l[k].events.l.length+1) false):=by simp[gC,W]
     rw[this];simp[jF]
    rw[z];exact g2
   rcases List.mem_append.1 T with h|h
   .exact n3 id h
   simp at h;omega
  obtain⟨F',H',r1,r2⟩:=Z (k+1) X H2 Za S
  refine⟨F',H',lI.step (Ex.seq (Ex.seq (Ex.cZ λc=>e1) (Ex.mL ?_ Ex.skip)) (Ex.seq (Ex.block (Ex.cZ λc=>g1)) (Ex.cZ λc=>q1))) r1,r2⟩
  show get F1 15=_;rw[e2];simp[w]
section
variable {E:Env} {N:Nat->FuncId} {t:Trace} {x y:aZ} {F:Frame} {H:bl} {call:dx}
theorem x8 {l:List (List V)} {id:Nat} (h:jU H (get F 7) l id):∃F',cE E N call none r8 F H=some (F',H)/\get F' 35=.bool (decide (0<l.length))/\(∀s,s<11->get F' s=get F s):=by
 refine⟨_,vp (v:=get F 7) rfl ?_ <| vp (v:=.int .i64 l.length) rfl ?_ <| vp (v:=.bool (decide (0<l.length))) rfl ?_ dY,?_,?_⟩
 .simp[bE,bz,bn]
 .simp[bE,bz,bu,bA,bn,h.len]
 .simp[bE,bz,bn,bu,gN,nJ]
 .simp[bu]
 simp[bu,bA]
 grind
theorem x9 {l:List (List V)} {id:Nat} (h:jU H (get F 7) (cells y::l) id):∃F',cE E N call none r9 F H=some (F',H++[.row 2 [cells y]])/\get F' 8=.hptr H.length 0 0/\(∀s,s<11->s≠8->get F' s=get F s):=by
 obtain⟨p,p1,p2⟩:=h.get (i:=0)  rfl;refine⟨_,vp (v:=get F 7) rfl ?_ <| vp (v:=p) rfl ?_ <| vp (v:=.agg (cells y)) rfl ?_ <| jA (v:=.hptr H.length 0 0) (H1:=H++[.row 2 [[.int .i64 0,.int .i64 0]]]) rfl ?_ <| jA (v:=.undef)  rfl ?_ dY,?_,?_⟩
 .simp[bE,bz,bn]
 .simp[bE,bz,bu,bA,bn]
  grind
 .simp only[bE,List.map_cons,bz,bu,bA,if_false]
  grind
 .simp[bE,bz,bu,bA,iP,Mk.val]
 .simp[bE,bz,bu,bA];simp[eZ,V.cells,V.one]
 .simp[bu]
 simp[bu,bA]
 grind
theorem WG {c:List V} {l:List (List V)} {id:Nat} (h:jU H (get F 7) (c::l) id):∃F',cE E N call none CM F H=some (F',H)/\jU H (get F' 7) l id/\(∃off m B,get F 7=.hsl id 2 off m/\get F' 7=.hsl id 2 B l.length)/\(∀s,s<11->s≠7->get F' s=get F s):=by
 obtain⟨w',p1,p2,off,m,B,p3,p4⟩:=h.tail;refine⟨_,vp (v:=get F 7) rfl ?_ <| vp (v:=w') rfl ?_ <| vp (v:=w') rfl ?_ dY,?_,⟨off,m,B,p3,?_⟩,?_⟩
 .simp[bE,bz,bn]
 .simp[bE,bz,bu,bA,bn,lB,p1]
 .simp[bE,bz,bn,bu]
 .simp[bu,bA];omega
 .simp[bu,bA];omega
 simp[bu,bA]
 grind
theorem jK (H:bl):H.take H.length=H:=List.take_length ..
theorem Ur {c:Nat} (hc:H[c]? = some (.row 2 [cells y])):eR H (.load 1 false) [.hptr c 0 0]=some (.int .i64 y.proc)/\eR H (.load 1 false) [.hptr c 0 1]=some (.int .i64 y.index)/\eR H (.load 2 true) [.hptr c 0 0]=some (enc y):=by
 refine⟨?_,?_,?_⟩ <;> simp[eR,ey,hc,cut] <;> rfl
theorem Tz {c o:Nat} {ids:List Nat} {rows:List (List V)} {p j:Nat} {r:List V} {u:V} (B:get F 8=.hptr c 0 0) (hc:H[c]? = some (.row 2 [cells y])) (D:l_ H (get F 5) o ids rows) (G:y.proc=p) (J:y.index=j) (hr:rows[p]? = some r) (hu:r[j]? = some u) :
 ∃F',cE E N call (some H.length) ES F H=some (F',H)/\get F' 49=u/\(∀s,s<11->get F' s=get F s):=by
 obtain⟨id,w,z,C,I,L⟩:=D.cell hr hu;obtain⟨O,Q,_⟩:=Ur hc;refine⟨_,vp (v:=get F 5) rfl ?_ <| vp (v:=.hptr c 0 0) rfl ?_ <| vp (v:=.int .i64 p) rfl ?_ <| vp (v:=.hptr o p 0) rfl ?_ <| vp (v:=.hsl id 1 0 r.length) rfl ?_ <| vp (v:=.hptr c 0 1) rfl ?_ <| vp (v:=.int .i64 j) rfl ?_ <| vp (v:=.hptr id j 0) rfl ?_ <| vp (v:=u) rfl ?_ dY,?_,?_⟩
 .simp[bE,bz,bn]
 .simp[bE,bz,bn,bu,B,gT]
 .simp[bE,bz,bu,bA,jK];grind
 .simp[bE,bz,bu,bA,bn];grind
 .simp[bE,bz,bu,bA,jK];grind
 .simp[bE,bz,bn,bu,B,gT]
 .simp[bE,bz,bu,bA,jK];grind
 .simp[bE,bz,bu,bA,bn];grind
 .simp[bE,bz,bu,bA,jK];simp_all
 .simp[bu]
 simp[bu,bA]
 grind
theorem WT {c o:Nat} {ids:List Nat} {rows:List (List V)} {p j:Nat} {r:List V} {u:V} (B:get F 8=.hptr c 0 0) (hc:H[c]? = some (.row 2 [cells y])) (D:l_ H (get F 5) o ids rows) (O:y.proc=p) (U:y.index=j) (hr:rows[p]? = some r) (hu:r[j]? = some u) :
 ∃F' H',cE E N call (some H.length) EV F H=some (F',H')/\l_ H' (get F' 5) o ids (rows.set p (r.set j (.bool true)))/\H'.length=H.length/\(∀i,i∉ids->H'[i]? = H[i]?)/\(∀s,s<11->get F' s=get F s):=by
 obtain⟨id,w,L,Q,z,S⟩:=D.cell hr hu;obtain⟨T,W,_⟩:=Ur hc;obtain⟨H',C,X,G,I⟩:=D.set hr (ζe.1 hu).1 w (u:=.bool true) rfl rfl;refine⟨_,H',vp (v:=get F 5) rfl ?_ <| vp (v:=.hptr c 0 0) rfl ?_ <| vp (v:=.int .i64 p) rfl ?_ <| vp (v:=.hptr o p 0) rfl ?_ <| vp (v:=.hsl id 1 0 r.length) rfl ?_ <| vp (v:=.hptr c 0 1) rfl ?_ <| vp (v:=.int .i64 j) rfl ?_ <| vp (v:=.hptr id j 0) rfl ?_ <| jA (v:=.undef)  rfl ?_ dY,?_,G,λi J=>I i λe=>J (e▸List.mem_of_getElem? w),?_⟩
 .simp[bE,bz,bn]
 .simp[bE,bz,bn,bu,B,gT]
 .simp[bE,bz,bu,bA,jK];grind
 .simp[bE,bz,bu,bA,bn];grind
 .simp[bE,bz,bu,bA,jK];grind
 .simp[bE,bz,bn,bu,B,gT]
 .simp[bE,bz,bu,bA,jK];grind
 .simp only[bE,List.map_cons,List.map_nil,bz,bu,bA,Nat.reduceEqDiff,if_true,if_false,bn];rw[z];rfl
 .simp[bE,bz,bu,bA,C]
 .simp[bu,bA];omega
 simp[bu,bA]
 grind
def Ft (E:Env) (N:Nat->FuncId) (t:Trace) (dir:aZ->Option (Sl aZ)):Prop:=∀(y:aZ) (s:Sl aZ) (H:bl),dir y=some s ->
 ∃w X id,(∃n,∀k,n<=k->eT E (run E k) (N 79) [enc t,enc y] H=some (w,H++X))/\jU (H++X) w (s.l.map cells) id/\(∀off m,w=.hsl id 2 off m->id=H.length)
theorem VX {a d:Nat} (D:E.keep (N 79)=true) {dir:aZ->Option (Sl aZ)} (G:Ft E N t dir) {s:Sl aZ} (B:dir y=some s) (f2:get F 2=.hptr 0 0 0) (h0:H[0]? = some (.row 1 [cells t])) {c:Nat} (hc:H[c]? = some (.row 2 [cells y])) :
 ∃w X id,jU (H++X) w (s.l.map cells) id/\(∀off m,w=.hsl id 2 off m->id=H.length) /\
  (get F 8=.hptr c 0 0->∃F',(∃n,∀k,n<=k->cE E N (run E k) none DQ F H=some (F',H++X))/\get F' 9=w/\(∀s,s<11->s≠9->get F' s=get F s)) /\
  (get F 3=.hptr c 0 0->∃F',(∃n,∀k,n<=k->cE E N (run E k) none r7 F H=some (F',H++X))/\get F' 7=w/\(∀s,s<11->s≠7->get F' s=get F s)):=by
 obtain⟨w,X,id,⟨n,e1⟩,e2,e3⟩:=G y s H B;have z:eR H (.load 1 true) [.hptr 0 0 0]=some (enc t):=by
  simp[eR,ey,h0,Ob.rows,cut];rfl
 obtain⟨_,_,C⟩:=Ur hc;refine⟨w,X,id,e2,e3,λI=>⟨_,⟨n,λk hk=>vp (v:=enc t) rfl ?_ <| vp (v:=enc y) rfl ?_ <| jA (v:=w) (H1:=H++X) rfl ?_ <| vp (v:=w) rfl ?_ dY⟩,?_,?_⟩,λf3=>⟨_,⟨n,λk hk=>vp (v:=enc t) rfl ?_ <| vp (v:=enc y) rfl ?_ <| jA (v:=w) (H1:=H++X) rfl ?_ <| vp (v:=w) rfl ?_ dY⟩,?_,?_⟩⟩
 .simp only[bE,List.map_cons,List.map_nil,bz,f2];rw[z];rfl
 .simp only[bE,List.map_cons,List.map_nil,bz,bu,bA,Nat.reduceEqDiff,if_true,if_false,I];rw[C];rfl
 .simp only[bE,List.map_cons,List.map_nil,bz,bu,bA,Nat.reduceEqDiff,if_true,if_false,D,List.nil_append,List.append_nil];exact e1 k hk
 .simp[bE,bz,bn,bu]
 .simp[bu]
 .intro s B u;simp only[bu,bA];rw[if_neg (Ne.symm u)]
  repeat (rw[if_neg Za])
 .simp only[bE,List.map_cons,List.map_nil,bz,f2];rw[z];rfl
 .simp only[bE,List.map_cons,List.map_nil,bz,bu,bA,Nat.reduceEqDiff,if_true,if_false,f3];rw[C];rfl
 .simp only[bE,List.map_cons,List.map_nil,bz,bu,bA,Nat.reduceEqDiff,if_true,if_false,D,List.nil_append,List.append_nil];exact e1 k hk
 .simp[bE,bz,bn,bu]
 .simp[bu]
 intro s B u;simp only[bu,bA];rw[if_neg (Ne.symm u)]
 repeat (rw[if_neg Za])
end
section
variable {E:Env} {N:Nat->FuncId} {F:Frame} {H:bl} {call:dx} {i:Nat}
theorem PY {l:List (List V)} {id:Nat} (f10:get F 10=.int .i64 i) (h:jU H (get F 9) l id):∃F',cE E N call none EP F H=some (F',H)/\get F' 64=.bool (decide (i<l.length))/\(∀s,s<11->get F' s=get F s):=by
 refine⟨_,vp (v:=.int .i64 i) rfl ?_ <| vp (v:=get F 9) rfl ?_ <| vp (v:=.int .i64 l.length) rfl ?_ <| vp (v:=.bool (decide (i<l.length))) rfl ?_ dY,?_,?_⟩
 .simp[bE,bz,bn,f10]
 .simp[bE,bz,bn,bu]
 .simp[bE,bz,bu,bA,bn,h.len]
 .simp[bE,bz,bn,bu,gN,nJ]
 .simp[bu]
 simp[bu,bA]
 grind
theorem WI {l D:List (List V)} {id B:Nat} {c:List V} (f10:get F 10=.int .i64 i) (h:jU H (get F 7) l id) (G:jU H (get F 9) D B) (hc:D[i]? = some c) (J:l.length+1<=2147483648) :
 ∃F' H',cE E N call none D6 F H=some (F',H')/\jU H' (get F' 7) (l++[c]) (H.length+1)/\H'.length=H.length+2/\(∀i,i<H.length->(∀off m,get F 7=.hsl id 2 off m->i≠id)->H'[i]? = H[i]?)/\(∀s,s<11->s≠7->get F' s=get F s):=by
 have u:=G.c c (List.mem_of_getElem? hc);obtain⟨p,p1,p2⟩:=G.get hc;obtain⟨H',C,I,w,z⟩:=h.push u J;refine⟨_,H',vp (v:=get F 7) rfl ?_ <| vp (v:=get F 9) rfl ?_ <| vp (v:=.int .i64 i) rfl ?_ <| vp (v:=p) rfl ?_ <| vp (v:=.agg c) rfl ?_ <| jA (v:=.hsl H.length 2 0 1) (H1:=H++[.row 2 [c]]) rfl ?_ <| jA (v:=.hsl (H.length+1) 2 0 (l.length+1))  rfl ?_ <| vp (v:=.hsl (H.length+1) 2 0 (l.length+1)) rfl ?_ dY,?_,w,z,?_⟩
 .simp[bE,bz,bn]
 .simp[bE,bz,bn,bu]
 .simp[bE,bz,bn,bu,f10]
 .simp[bE,bz,bu,bA,bn];grind
 .simp[bE,bz,bu,bA];grind
 .simp[bE,bz,bu,bA,iP];simp[gA,V.cells,Mk.val]
  grind
 .simp[bE,bz,bu,bA];omega
 .simp[bE,bz,bn,bu]
 .simp[bu,bA];omega
 simp[bu,bA]
 grind
theorem WN (f10:get F 10=.int .i64 i) (hk:i<=2147483648):∃F',cE E N call none MK F H=some (F',H)/\get F' 10=.int .i64 ((i+1:Nat):Int)/\(∀s,s<11->s≠10->get F' s=get F s):=by
 have u:=wM hk;refine⟨_,vp (v:=.int .i64 i) rfl ?_ <| vp (v:=.int .i64 (i+1:Nat)) rfl ?_ <| vp (v:=.int .i64 (i+1:Nat)) rfl ?_ dY,?_,?_⟩
 .simp[bE,bz,bn,f10]
 .simp[bE,bz,bu,bA,bn,gN];grind
 .simp[bE,bz,bn,bu]
 .simp[bu]
 simp[bu,bA]
 grind
structure P3 (l l9:List (List V)) (B i:Nat) (F:Frame) (H:bl):Prop where
 f10:get F 10=.int .i64 i
 t9:∃id9,jU H (get F 9) l9 id9/\∃id,jU H (get F 7) l id/\(∀off m,get F 7=.hsl id 2 off m->B<=id/\∀off' m',get F 9=.hsl id9 2 off' m'->id≠id9)
 len:B<=H.length
theorem UL (D:List (List V)) (B:Nat) (Y:D.length<=2147483648):∀(m i:Nat) (l:List (List V)) (F:Frame) (H:bl),i+m=D.length->l.length+m<=2147483648->P3 l D B i F H ->
 ∃F' H',lI E N L3 F H (.exit 4) F' H'/\(∃id,jU H' (get F' 7) (l++D.drop i) id/\∀off m,get F' 7=.hsl id 2 off m->B<=id)/\(∀s,s<7->get F' s=get F s)/\(∀j,j<B->H'[j]? = H[j]?)/\H.length<=H'.length:=by
 intro m
 induction m with
 | zero=>
  intro i l F H Z hl p;obtain⟨u,t9,id,t7,C⟩:=p.t9;obtain⟨F1,e1,e2,e3⟩:=PY (E:=E)  (call:=⟨0,λ_ _ _=>none⟩) p.f10 t9
  refine⟨F1,H,lI.stop (Ex.tf (Ex.seq (Ex.cZ λc=>e1) (Ex.oK ?_ Ex.exit)) Zc) Zc,⟨id,?_,λoff m h=>?_⟩,λs T=>e3 s Za,λ_ _=>rfl,Nat.le_refl _⟩
  .show get F1 64=_
   grind
  .grind
  grind
 | succ m ih=>
  intro i l F H Z hl p;have z:i<D.length:=by omega
  obtain⟨u,t9,id,t7,C⟩:=p.t9;obtain⟨F1,e1,e2,e3⟩:=PY (E:=E)  (call:=⟨0,λ_ _ _=>none⟩) p.f10 t9
  have hc:=ζd z;have G:jU H (get F1 7) l id:=by grind
  have I:jU H (get F1 9) D u:=by grind
  obtain⟨F2,H2,g1,g2,g3,g4,g5⟩:=WI (E:=E)  (call:=⟨0,λ_ _ _=>none⟩) (by rw[e3 10 Za];exact p.f10) G I hc Za
  obtain⟨U,q1,q2,J⟩:=WN (E:=E)  (call:=⟨0,λ_ _ _=>none⟩)    (by rw[g5 10 Za Za,e3 10 Za];exact p.f10) Za
  have keep:∀j,j<H.length->(∀off m,get F 7=.hsl id 2 off m->j≠id)->H2[j]? = H[j]? := λj L h=>g4 j L Zd
  have O:P3 (l++[D[i]]) D B (i+1) U H2:=by
   refine⟨q2,⟨u,?_,H.length+1,by grind,λoff m h=>⟨by have:=p.len;omega,λw m' W=>?_⟩⟩,by have:=p.len;omega⟩
   .rw[J 9 Za Za,g5 9 Za Za,e3 9 Za]
    exact t9.heap λoff n X=>keep u (t9.lt X) λw m' Q=>Ne.symm ((C w m' Q).2 off n X)
   rw[J 9 Za Za,g5 9 Za Za,e3 9 Za]at W
   have:=t9.lt W;omega
  obtain⟨F',H',r1,⟨S,r2,r3⟩,r4,r5,r6⟩:=ih (i+1) (l++[D[i]]) U H2 Za (by simp;omega) O
  refine⟨F',H',lI.step (Ex.seq (Ex.seq (Ex.cZ λc=>e1) (Ex.mL ?_ Ex.skip)) (Ex.seq (Ex.block (Ex.cZ λc=>g1)) (Ex.cZ λc=>q1))) r1,⟨S,?_,r3⟩,λs T=>?_,λj L=>?_,by omega⟩
  .show get F1 64=_
   grind
  .rw[List.append_assoc]at r2;rw[List.drop_eq_getElem_cons z];exact r2
  .rw[r4 s T,J s Za Za,g5 s Za Za,e3 s Za]
  have:=p.len;rw[r5 j L,keep j Za λoff m h=>by have:=(C off m h).1;omega]
end
structure P2 (t:Trace) (out:List (List Bool)) (l:List aZ) (F:Frame) (H:bl):Prop where
 f2:get F 2=.hptr 0 0 0
 h0:H[0]? = some (.row 1 [cells t])
 ns:∃B o ids id,l_ H (get F 5) o ids (jF out)/\(out≠[]->1<=o/\o<B)/\(∀id∈ids,1<=id/\id<B)/\1<=B/\B<=H.length/\jU H (get F 7) (l.map cells) id/\∀off m,get F 7=.hsl id 2 off m->B<=id
theorem OY (out:List (List Bool)) (p j:Nat) (row:List Bool):jF (out.set p (row.set j true))=(jF out).set p ((row.map V.bool).set j (.bool true)):=by
 simp[jF]
theorem FG {out:List (List Bool)}:jF out=[]↔out=[]:=by simp[jF]
theorem NQ {dir:aZ->Option (Sl aZ)} {out:List (List Bool)} {y:aZ} {rest:List aZ} {w:Fw (List (List Bool)×List aZ) (List (List Bool)) Empty} (h:nU dir (out,y::rest)=some w) :
 ∃(p j:Nat) (row:List Bool) (b:Bool),y.proc=p/\y.index=j/\out[p]? = some row/\row[j]? = some b/\((b=true/\w=.n (out,rest))\/(b=false/\∃more,dir y=some more/\rest.length+more.l.length<=2147483648/\w=.n (out.set p (row.set j true),rest++more.l))):=by
 simp only[nU]at h;split at h
 .obtain⟨row,h1,h⟩:=ζg.1 h;obtain⟨b,u,h⟩:=ζg.1 h;refine⟨y.proc.toNat,y.index.toNat,row,b,by omega,by omega,h1,u,?_⟩
  cases b with
  | true=>simp[br]at h;grind
  | false=>
   obtain⟨more,z,h⟩:=ζg.1 h
   grind
 simp_all
theorem KV {E:Env} {N:Nat->FuncId} {t:Trace} {dir:aZ->Option (Sl aZ)} (hd:E.keep (N 79)=true) (hD:Ft E N t dir):∀(k:Nat) (out:List (List Bool)) (l:List aZ) (D:List (List Bool)) (F:Frame) (H:bl),
 jt (nU dir) k (out,l)=some (.x D)->P2 t out l F H->∃F' H',lI E N L2 F H (.exit 2) F' H'/\P2 t D [] F' H':=by
 intro k
 induction k with
 | zero=>intro out l D F H h;simp[jt]at h
 | succ k ih=>
  intro out l D F H h p;obtain⟨B,o,ids,id,n1,n2,Y,n4,n5,t7,t8⟩:=p.ns;obtain⟨F1,e1,e2,e3⟩:=x8 (E:=E) (N:=N) (call:=⟨0,λ_ _ _=>none⟩) t7
  rw[List.length_map]at e2
  cases l with
  | nil=>
   simp only[jt,nU]at h;cases h;refine⟨F1,H,lI.stop (Ex.tf (Ex.seq (Ex.cZ λc=>e1) (Ex.oK ?_ Ex.exit)) Zc) Zc,?_⟩
   .show get F1 35=_;rw[e2];simp
   exact⟨by rw[e3 2 Za];exact p.f2,p.h0,B,o,ids,id,by rw[e3 5 Za];exact n1,n2,Y,n4,n5,by rw[e3 7 Za];exact t7,by rw[e3 7 Za];exact t8⟩
  | cons y rest=>
   simp only[jt]at h
   cases J:nU dir (out,y::rest)with
   | none=>rw[J]at h;cases h
   | some w=>
   rw[J]at h;obtain⟨q,j,row,b,hq,hj,u,hb,L⟩:=NQ J;have O:jU H (get F1 7) (cells y::rest.map cells) id:=by rw[e3 7 Za];exact t7
   obtain⟨F2,g1,g2,g3⟩:=x9 (E:=E) (N:=N) (call:=⟨0,λ_ _ _=>none⟩) O
   have aa:jU (H++[.row 2 [cells y]]) (get F2 7) (cells y::rest.map cells) id:=by rw[g3 7 Za Za];exact O.more _
   obtain⟨F3,i1,i2,⟨G,m1,ab,i3,i4⟩,i5⟩:=WG (E:=E) (N:=N) (call:=⟨0,λ_ _ _=>none⟩) aa
   have Q:(H++[Ob.row 2 [cells y]])[H.length]? = some (.row 2 [cells y]):=by simp
   have f8:get F3 8=.hptr H.length 0 0:=by rw[i5 8 Za Za];exact g2
   have f5:get F3 5=get F 5:=by rw[i5 5 Za Za,g3 5 Za Za,e3 5 Za]
   have f2:get F3 2=.hptr 0 0 0:=by rw[i5 2 Za Za,g3 2 Za Za,e3 2 Za];exact p.f2
   have S:l_ (H++[.row 2 [cells y]]) (get F3 5) o ids (jF out):=by rw[f5];exact n1.more _
   have hr:(jF out)[q]? = some (row.map V.bool):=by simp[jF,u]
   have hu:(row.map V.bool)[j]? = some (.bool b):=by simp[hb]
   have T:B<=id:=by
    have:get F 7=.hsl id 2 G m1:=by rw[<-i3,g3 7 Za Za,e3 7 Za]
    exact t8 _ _ this
   obtain⟨F4,j1,j2,z⟩:=Tz (E:=E) (N:=N) (call:=⟨0,λ_ _ _=>none⟩) f8 Q S hq hj hr hu
   have ad:bz N F1 (.s 35)=.bool true:=by show get F1 35=_;rw[e2];simp
   rcases L with⟨rfl,rfl⟩|⟨rfl,more,hm,aq,rfl⟩
   .simp only at h;have U:P2 t out rest F4 (H++[.row 2 [cells y]]):=by
     refine⟨by rw[z 2 Za];exact f2,by rw[List.getElem?_append_left (ζe.1 p.h0).1];exact p.h0,B,o,ids,id,by rw[z 5 Za];exact S,n2,Y,n4,by simp;omega,by rw[z 7 Za];exact i2,λoff m _=>T⟩
    obtain⟨F',H',r1,r2⟩:=ih out rest D F4 _ h U;exact⟨F',H',lI.step (Ex.seq (Ex.seq (Ex.cZ λc=>e1) (Ex.mL ad Ex.skip)) (Ex.tQ (Ex.seq (Ex.cZ λc=>g1) (Ex.seq (Ex.cZ λc=>i1) (Ex.tf (Ex.seq (Ex.oQ rfl λc=>j1) (Ex.mL j2 Ex.exit)) Zc))))) r1,r2⟩
   simp only at h;have n6:l_ (H++[.row 2 [cells y]]) (get F4 5) o ids (jF out):=by rw[z 5 Za];exact S
   obtain⟨F5,C,k1,k2,k3,k4,k5⟩:=WT (E:=E) (N:=N) (call:=⟨0,λ_ _ _=>none⟩) (by rw[z 8 Za];exact f8) Q n6 hq hj hr hu
   have I:∀i,B<=i->i∉ids:=λi hi hm=>by have:=(Y i hm).2;omega
   have ah:C[H.length]? = some (.row 2 [cells y]):=by rw[k4 _ (I _ n5)];exact Q
   have W:C[0]? = some (.row 1 [cells t]):=by
    rw[k4 0 (λhm=>by have:=(Y 0 hm).1;omega),List.getElem?_append_left (ζe.1 p.h0).1];exact p.h0
   obtain⟨w9,X,ai,aj,m2,m3,_⟩:=VX (a:=0) (d:=0) (F:=F5) hd hD hm (by rw[k5 2 Za,z 2 Za];exact f2) W ah
   obtain⟨Z,⟨nn,ak⟩,ae,o3⟩:=m3 (by rw[k5 8 Za,z 8 Za];exact f8)
   have au:C.length=H.length+1:=by rw[k3];simp
   have i7:get Z 7=.hsl id 2 ab (rest.map cells).length:=by rw[o3 7 Za Za,k5 7 Za,z 7 Za];exact i4
   have ar:id<H.length:=by
    have:=O.lt (off:=G) (m:=m1) (by rw[<-i3,g3 7 Za Za])
    exact this
   have t6:jU (C++X) (get Z 7) (rest.map cells) id:=by
    have:get Z 7=get F3 7:=by rw[o3 7 Za Za,k5 7 Za,z 7 Za]
    rw[this];refine(i2.heap (H':=C) λoff n _=>k4 id (I id T)).more X
   have al:∃F7,(∀c,cE E N c none Cr Z (C++X)=some (F7,C++X))/\get F7 10=.int .i64 ((0:Nat):Int)/\∀s,s<10->get F7 s=get Z s:=
    ⟨set Z 10 (.int .i64 0),λc=>by simp[Cr,cE,bE,bz,bn,bu],by simp,λs hs=>by rw[bA,if_neg Za]⟩
   obtain⟨F7,u1,u2,u3⟩:=al;have am:P3 (rest.map cells) (more.l.map cells) B 0 F7 (C++X):=by
    refine⟨u2,⟨ai,by rw[u3 9 Za,ae];exact aj,id,by rw[u3 7 Za];exact t6,λoff m hh=>⟨T,λaf m' h'=>?_⟩⟩,by simp;omega⟩
    rw[u3 9 Za,ae]at h'
    have:=m2 af m' h';omega
   obtain⟨F8,H8,v1,⟨an,v2,v3⟩,v4,v5,v6⟩:=UL (E:=E) (N:=N) (more.l.map cells) B (by simp;omega) (more.l.map cells).length 0 (rest.map cells) F7 (C++X) Za (by simp;omega) am
   have ao:l_ H8 (get F8 5) o ids (jF (out.set q (row.set j true))):=by
    have h5:get F8 5=get F5 5:=by rw[v4 5 Za,u3 5 Za,o3 5 Za Za]
    rw[h5,OY];refine(k2.more X).heap (λap=>v5 o ?_) λi hi=>v5 i (Y i hi).2
    have:out≠[]:=by intro e;subst e;simp at u
    exact(n2 this).2
   have U:P2 t (out.set q (row.set j true)) (rest++more.l) F8 H8:=by
    refine⟨by rw[v4 2 Za,u3 2 Za,o3 2 Za Za,k5 2 Za,z 2 Za];exact f2,?_,B,o,ids,an,ao,λap=>n2 (by intro e;subst e;simp at u),Y,n4,by simp at v6;omega,?_,v3⟩
    .rw[v5 0 Za,List.getElem?_append_left (ζe.1 W).1];exact W
    rw[List.drop_zero]at v2;rw[List.map_append];exact v2
   obtain⟨F',H',w1,w2⟩:=ih _ _ D F8 H8 h U;exact⟨F',H',lI.step (Ex.seq (Ex.seq (Ex.cZ λc=>e1) (Ex.mL ad Ex.skip)) (Ex.block (Ex.seq (Ex.cZ λc=>g1) (Ex.seq (Ex.cZ λc=>i1) (Ex.seq (Ex.seq (Ex.oQ rfl λc=>j1) (Ex.oK j2 Ex.skip)) (Ex.seq (Ex.oQ rfl λc=>k1)
    (Ex.seq (Ex.ops ⟨nn,ak⟩) (Ex.seq (Ex.cZ u1) (Ex.tQ (Ex.loop v1))))))))) ) w1,w2⟩
theorem Qe {H:bl} {Z:Nat->Prop} {id:Nat} {r:List Bool} (D:Z id) (h:H[id]? = some (.row 1 (iW (r.map V.bool)))):FR H Z (enc (Sl.row r)) (.hsl id 1 0 r.length):=by
 have hr:bp H id=some (1,iW (r.map V.bool)):=by simp[bp,h,Ob.rows]
 have C:enc (Sl.row r)=.fsl 1 (rows r):=rfl;have G:(rows r).length=r.length:=by simp[rows]
 have hc:iW (r.map V.bool)=rows r:=by simp[iW,rows,Function.comp_def]
 rw[hc]at hr;rw[C,<-G];refine .fsl 1 (rows r) id 0 (rows r) D hr Za (λi a b h1 w=>?_) (λi j a b u v h1 w z B=>?_)
 .grind
 rw[Nat.zero_add,h1]at w;cases w;rw[z]at B;cases B;refine .same u ?_;obtain⟨c,I,rfl⟩:∃c∈r,a=[V.bool c]:=by
  have:=List.mem_of_getElem? h1;simp only[rows,List.mem_map]at this;obtain⟨c,hc,rfl⟩:=this;simp_all
 have:=List.mem_of_getElem? z;simp at this;subst this;rfl
theorem N8 {H:bl} {w:V} {o:Nat} {ids:List Nat} {out:List (List Bool)} (n:l_ H w o ids (jF out)):∃Z,FR H Z (enc (nested out)) w/\(∀id,Z id->(bp H id).isSome=true)/\Deep H Z:=by
 have hv:=n.v
 by_cases Q:out=[]
 .subst Q;rw[if_pos (show jF []=[]from rfl)]at hv;subst hv;exact⟨λ_=>False,.same _ rfl,λ_ h=>h.elim,⟨λ_ _ _ h=>h.elim⟩⟩
 have I:jF out≠[]:=λh=>Q (FG.1 h)
 rw[if_neg I,vr]at hv;subst hv;have S:=n.ob I;have J:=n.len;rw[vr]at J;have B:∀(i id:Nat) (r:List Bool),ids[i]? = some id->out[i]? = some r->H[id]? = some (.row 1 (iW (r.map V.bool))):=λi id r h1 D=>n.r i id _ h1 (by simp[jF,D])
 have C:∀(i:Nat) (c:List V),(refs ids (jF out))[i]? = some c->∃id r,ids[i]? = some id/\out[i]? = some r/\c=[.hsl id 1 0 r.length]:=λi c h=>by
  have G:=(ζe.1 h).1;rw[ta n.len,vr]at G;have h1:=ζd (show i<ids.length from by omega)
  have D:=ζd G;have T:=BF (rows:=jF out) (r:=out[i].map V.bool) h1 (by simp[jF,D])
  grind
 have L:bp H o=some (1,refs ids (jF out)):=by simp[bp,S,Ob.rows]
 have O:∀id∈ids,∃(r:List Bool),H[id]? = some (.row 1 (iW (r.map V.bool))):=λid z=>by
  obtain⟨i,G⟩:=List.getElem?_of_mem z;have U:=(ζe.1 G).1;exact⟨_,B i id _ G (ζd (show i<out.length from by omega))⟩
 refine⟨λid=>id=o\/id∈ids,?_,λid h=>?_,⟨λid es ys h hr c hc u hu=>?_⟩⟩
 .have he:enc (nested out)=.fsl 1 (rows (out.map Sl.row)):=by rw[nested,if_neg Q];rfl
  have U:(rows (out.map Sl.row)).length=out.length:=by simp[rows]
  rw[he,<-U];refine .fsl 1 _ o 0 (refs ids (jF out)) (.inl rfl) L (by rw[U,ta n.len,vr];omega) (λi a b h1 D=>?_) (λi j a b u v h1 D T Y=>?_)
  .rw[Nat.zero_add]at D;obtain⟨id,r,_,hr,rfl⟩:=C i b D;simp[rows,hr]at h1;subst h1;rfl
  rw[Nat.zero_add]at D;obtain⟨id,r,z,hr,rfl⟩:=C i b D;have ha:a=[enc (Sl.row r)]:=by simp[rows,hr]at h1;exact h1.symm
  subst ha
  cases j with
  | zero=>
   simp at T Y;subst T Y;exact Qe (.inr (List.mem_of_getElem? z)) (B i id r z hr)
  | succ j=>simp_all
 .rcases h with rfl|h
  .simp_all
  obtain⟨r,hr⟩:=O id h;simp[bp,hr,Ob.rows]
 rcases h with rfl|h
 .rw[L]at hr;cases hr;obtain⟨i,G⟩:=List.getElem?_of_mem hc;obtain⟨id,r,z,W,rfl⟩:=C i c G;simp at hu;subst hu;exact⟨_,Qe (.inr (List.mem_of_getElem? z)) (B i id r z W)⟩
 obtain⟨r,X⟩:=O id h;have:bp H id=some (1,iW (r.map V.bool)):=by simp[bp,X,Ob.rows]
 rw[this]at hr;cases hr;simp only[iW,List.mem_map]at hc;obtain⟨_,⟨c',_,rfl⟩,rfl⟩:=hc;simp at hu;subst hu;exact⟨_,.same _ rfl⟩
theorem RW {t:Trace} {x:aZ} {out:List (List Bool)} {s:Sl aZ} {dir:aZ->Option (Sl aZ)} (U:ve.keep (vI 79)=true) (W:Ft ve vI t dir) (O:yO t=true) (hs:dir x=some s) (hw:bR (nU dir) (gC t,s.l)=some (.x out)) :
 wK ve (vI 55) [enc t,enc x] (enc (nested out)):=by
 obtain⟨fi,g1,g2,g3,g4⟩:=shape;obtain⟨k,hk⟩:=nR.1 hw;have b1:∃F1,(∀c,cE ve vI c none r1 [enc t,enc x] []=some (F1,[.row 1 [cells t],.row 2 [cells x]]))/\get F1 2=.hptr 0 0 0/\get F1 3=.hptr 1 0 0:=by
  refine⟨_,λc=>jA (v:=.hptr 0 0 0) (H1:=[.row 1 [cells t]]) rfl ?_ <| jA (v:=.hptr 1 0 0) (H1:=[.row 1 [cells t],.row 2 [cells x]]) rfl ?_ <| vp (v:=.bK) rfl ?_ dY,?_,?_⟩
  .show (iP .box [enc t]).map _=_;simp only[iP,kE,ow,if_true,Option.map_some,eX];rfl
  .simp only[bE,List.map_cons,List.map_nil,bz,bu,bA,Nat.reduceEqDiff,if_false];show (iP .box [enc x]).map _=_;simp only[iP,kE,ow,if_true,Option.map_some,eX];rfl
  .simp[bE,bz,bn]
  .simp[bu]
  simp[bu]
 obtain⟨F1,c1,c2,c3⟩:=b1;have b3:∃I,(∀c,cE ve vI c none r2 F1 [.row 1 [cells t],.row 2 [cells x]]=some (set F1 5 .bK,[.row 1 [cells t],.row 2 [cells x]]))/\(∀c,cE ve vI c none r3 (set F1 5 .bK) [.row 1 [cells t],.row 2 [cells x]]=some (I,[.row 1 [cells t],.row 2 [cells x]]))/\P1 t x 0 I [.row 1 [cells t],.row 2 [cells x]]:=by
  refine⟨set (set F1 5 .bK) 6 (.int .i64 0),λc=>by simp[r2,cE,bE,bz,bn,bu],λc=>by simp[r3,cE,bE,bz,bn,bu],by simp[c2],by simp[c3],by simp,rfl,rfl,0,[],?_,λh=>absurd rfl h,λid h=>by simp at h⟩
  have:get (set (set F1 5 .bK) 6 (.int .i64 0)) 5=.bK:=by simp
  rw[this,List.take_zero];exact l_.nil _ 0
 obtain⟨I,d1,d2,d3⟩:=b3;obtain⟨F4,S,e1,e2⟩:=K2 (E:=ve) (N:=vI) O t.procs.l.length 0 I _ Za d3
 obtain⟨o,ids,J,n2,n3⟩:=e2.ns;have T:(gC t).length=t.procs.l.length:=by simp[gC]
 rw[List.take_of_length_le Za]at J
 obtain⟨w,X,id,m1,m2,_,m4⟩:=VX (a:=0) (d:=0) (F:=F4) (E:=ve) (N:=vI) U W hs e2.f2 e2.h0 (c:=1) e2.h1;obtain⟨Y,o1,o2,o3⟩:=m4 e2.f3;have Q:P2 t (gC t) s.l Y (S++X):=by
  refine⟨by rw[o3 2 Za Za];exact e2.f2,by rw[List.getElem?_append_left (ζe.1 e2.h0).1];exact e2.h0,S.length,o,ids,id,by rw[o3 5 Za Za];exact J.more X,λu=>?_,λi hi=>⟨by have:=n3 i hi;omega,J.lt.2 i hi⟩,?_,by simp,by rw[o2];exact m1,λoff m h=>?_⟩
  .have z:jF (gC t)≠[]:=λh=>u (FG.1 h)
   have:t.procs.l.length≠0:=by intro h;apply u;exact List.eq_nil_of_length_eq_zero Za
   have:=n2 this;exact⟨by omega,J.lt.1 z⟩
  .have:=(ζe.1 e2.h0).1;omega
  rw[o2]at h;have:=m2 off m h;omega
 obtain⟨C,L,p1,p2⟩:=KV U W k _ _ out Y _ hk Q;obtain⟨B,o',aa,ab,q1,_⟩:=p2.ns;have l1:∃D,(∀c,cE ve vI c none VQ C L=some (D,L))/\get D 4=get C 5:=by
  refine⟨_,λc=>vp (v:=get C 5) rfl ?_ <| vp (v:=get C 5) rfl ?_ dY,?_⟩
  .simp[bE,bz,bn]
  .simp[bE,bz,bn,bu]
  simp[bu]
 obtain⟨D,y1,y2⟩:=l1;have hex:Ex ve vI code [enc t,enc x] [] .ret D L:=
  Ex.seq (Ex.cZ c1) (Ex.seq (Ex.cZ d1) (Ex.seq (Ex.seq (Ex.cZ d2) (Ex.tQ (Ex.loop e1))) (Ex.seq (Ex.ops o1) (Ex.seq (Ex.tQ (Ex.loop p1)) (Ex.seq (Ex.cZ y1) Ex.ret)))))
 obtain⟨n,G⟩:=hex.run (nm:=some) Al g1 g2 (show [enc t,enc x].length<=fi.ntmps from g3) (vs:=[get D 4]) (by rw[g4];rfl)
 obtain⟨Z,z1,z2,z3⟩:=N8 q1;exact⟨n,get C 5,L,Z,by rw[G,y2];rfl,z1,z2,z3⟩
theorem TB (l:List aZ):∀c∈l.map (cells (α:=aZ)),c.length=2/\c.all V.one=true/\c.all V.scalar=true:=λc hc=>by
 obtain⟨e,_,rfl⟩:=List.mem_map.1 hc;exact⟨rfl,rfl,rfl⟩
theorem Vt (t:Trace):Ft ve vI t (dM t):=by
 intro y s H B;have h1:=yJ t y;have I:=h1 (cF s) (by rw[B];rfl)
 have hg:V.cA [enc t,enc y]=true:=by simp only[V.cA,ig,Bool.and_self]
 have w:s.k=.row\/s.k=.nil/\rows s.l=[]:=by
  have D:∀o z,(∃l,o=.row l)\/o=.nil->dM.J1 o t y=some z->(∃l,z=.row l)\/z=.nil:=λo z J u=>by
   unfold dM.J1 at u;obtain⟨e,_,u⟩:=ζg.1 u
   cases G:e.kind==3 with
   | true=>
    rw[G]at u;obtain⟨f,_,u⟩:=ζg.1 u;obtain⟨q,C,u⟩:=ζg.1 u;cases u;unfold gw at C;split at C
    .cases C;exact .inl ⟨_,rfl⟩
    cases C
   | false=>rw[G]at u;cases u;exact J
  have:(∃l,s=.row l)\/s=.nil:=by
   unfold dM at B
   cases hc:decide (y.index>1)with
   | true=>rw[hc]at B;exact D _ s (.inl ⟨_,rfl⟩) B
   | false=>rw[hc]at B;exact D _ s (.inr rfl) B
  rcases this with⟨l,rfl⟩|rfl
  .exact .inl rfl
  exact .inr ⟨rfl,rfl⟩
 obtain⟨n,z,H',r1,r2⟩:=Ua Fu Ah (T:=Tx) (f:=vI 79) (rf:=rJ (Tx 79)) Ze hg (Nat.le_of_ble_eq_true Ze) (k:=s.k) (es:=2) (xs:=rows s.l) (λc hc=>(TB s.l c hc).2.2) w I
 refine Gn (l:=s.l.map cells) (y:=z) (H1:=H') Ze hg (TB s.l) ⟨n,λk hk=>(nr _ hk).go _ _ _ _ r1⟩ ?_ H
 rcases r2 with⟨L,rfl⟩|⟨id,rfl,O⟩
 .left;cases s <;> simp[Sl.k]at L;exact⟨rfl,rfl⟩
 right;exact⟨id,by simp[rows],O⟩
end pastX
theorem OH (t:Trace) (x:aZ) (r:Sl (Sl Bool)) (h:mQ t x=some r):Sy.yB 55 [enc t,enc x]=some (enc r):=by
 unfold mQ at h;split at h
 .rename_i u;obtain⟨s,z,h⟩:=ζg.1 h;obtain⟨w,B,h⟩:=ζg.1 h
  cases w with
  | n a=>exact Empty.elim a
  | r e=>exact Empty.elim e
  | x out=>
   cases h;exact vK (pastX.RW Ze (pastX.Vt t) u z B)
 cases h
noncomputable section
def rQ:Option Bool:=some true
instance QS:Fc Sy cL rQ:=⟨5,[],λr:Bool=>[.bool r],true,kB.yB Ze Ze LO⟩
namespace eW
def bt (D:Sl Event) (G:Int) (B:Int) (p1:Event->Option Bool):Option (Fw Int Unit Int):=
 br (decide (B<G))
 ((idx D B).bind λu=>
 (p1 u).bind λw=>
 br w
 (some (.r B))
 (some (.n (IntKind.wrap .i64 (B+1)))))
 (some (.x ()))
def W1 (B:Sl Event) (D G:Int) (p1:Event->Option Bool):Option Int:=
 (bR (λq:Int=>bt B D q p1) G).bind (Fw.elim
 (λe=>some (-1))
 (λe=>some e))
end eW
def eW (B:Sl Event) (p1:Event->Option Bool):Option Int:=
 eW.W1 B (len B) 0 p1
open eW in
abbrev o4 (g1:FuncId) (e1:List V) (p1:Event->Option Bool) (h1:nN Sy cL g1 [] e1 (λz:Event=>[enc z]) (λr:Bool=>[.bool r]) p1 true) (B:Sl Event):Fc Sy cL (eW B p1):=Fc.M 49 [enc B,.clo g1 [] e1] (bU 9 B (dW 5 (λw=>(bF [Cv 0 B,(1,.v (.clo g1 [] e1)),Iv 7 (len B),Iv 8 w] [])) (λu=>(0,(bF [] []))) (λu=>(bF [Iv 4 u] [])) (λw=>bD 7 9 (b9 16 λC _=>xZ 1 h1.f C λD _=>bD 2 16 bg bg) bg) (λu=>bg) (λu=>bg)))
def gP (B:Sl Event) (p1:Event->Option Bool):Option Bool:=
 (eW B p1).bind λu=>
 some (decide (u>=0))
abbrev nP (g1:FuncId) (e1:List V) (p1:Event->Option Bool) (h1:nN Sy cL g1 [] e1 (λz:Event=>[enc z]) (λr:Bool=>[.bool r]) p1 true) (B:Sl Event):Fc Sy cL (gP B p1):=Fc.M 27 [enc B,.clo g1 [] e1] (bN (F:=o4 g1 e1 p1 h1 B) 9 λu _=>bg)
def qF (B:Event):Option Bool:=
 some (decide ((len B.assign)>12))
instance Qw (B:Event):Fc Sy cL (qF B):=Fc.M 28 [enc B] (dR 2 1 B (bU 7 B.assign bg))
namespace gB
def bt (D:Sl Var) (G:Int) (B:Int) (p1:Var->Option Bool):Option (Fw Int Unit Int):=
 br (decide (B<G))
 ((idx D B).bind λu=>
 (p1 u).bind λw=>
 br w
 (some (.r B))
 (some (.n (IntKind.wrap .i64 (B+1)))))
 (some (.x ()))
def W1 (B:Sl Var) (D G:Int) (p1:Var->Option Bool):Option Int:=
 (bR (λq:Int=>bt B D q p1) G).bind (Fw.elim
 (λe=>some (-1))
 (λe=>some e))
end gB
def gB (B:Sl Var) (p1:Var->Option Bool):Option Int:=
 gB.W1 B (len B) 0 p1
open gB in
abbrev v7 (g1:FuncId) (e1:List V) (p1:Var->Option Bool) (h1:nN Sy cL g1 [] e1 (λz:Var=>[enc z]) (λr:Bool=>[.bool r]) p1 true) (B:Sl Var):Fc Sy cL (gB B p1):=Fc.M 50 [enc B,.clo g1 [] e1] (bU 9 B (dW 5 (λw=>(bF [Cv 0 B,(1,.v (.clo g1 [] e1)),Iv 7 (len B),Iv 8 w] [])) (λu=>(0,(bF [] []))) (λu=>(bF [Iv 4 u] [])) (λw=>bD 7 9 (b9 16 λC _=>xZ 1 h1.f C λD _=>bD 2 16 bg bg) bg) (λu=>bg) (λu=>bg)))
def gx (B:Sl Var) (p1:Var->Option Bool):Option Bool:=
 (gB B p1).bind λu=>
 some (decide (u>=0))
abbrev oR (g1:FuncId) (e1:List V) (p1:Var->Option Bool) (h1:nN Sy cL g1 [] e1 (λz:Var=>[enc z]) (λr:Bool=>[.bool r]) p1 true) (B:Sl Var):Fc Sy cL (gx B p1):=Fc.M 29 [enc B,.clo g1 [] e1] (bN (F:=v7 g1 e1 p1 h1 B) 9 λu _=>bg)
def qG (B:Var):Option Bool:=
 some (decide (((ByteArray.size B.name:Nat):Int)>40))
instance Qs (B:Var):Fc Sy cL (qG B):=Fc.M 30 [enc B] (bg)
namespace jG
def bt (B:Int) (W:Sl cu) (G:Int) (Y:Trace) (U D:Int):Option (Fw (Int×Int) Unit Unit):=
 br (decide (D<G))
 ((idx W D).bind λu=>
 (br (decide ((IntKind.wrap .i64 (U+(len u.events)))>B))
 (some true)
 (some (decide ((len u.vars)>12))):Option Bool).bind λw=>
 (br w
 (some true)
 (some (decide (((ByteArray.size u.name:Nat):Int)>40))):Option Bool).bind λC=>
 (br C
 (some true)
 ((gP u.events (λz=>qF z)).bind λI=>
 some I):Option Bool).bind λJ=>
 (br J
 (some true)
 ((gx u.vars (λz=>qG z)).bind λL=>
 some L):Option Bool).bind λO=>
 br O
 (some (.r ()))
 (some (.n (IntKind.wrap .i64 (U+(len u.events)),IntKind.wrap .i64 (D+1)))))
 (some (.x ()))
def W1 (B O:Int) (U:Sl cu) (G J:Int) (D:Trace):Option Bool:=
 (bR (λq:Int×Int=>bt B U G D q.1 q.2) (O,J)).bind (Fw.elim
 (λe=>some (decide ((len D.procs)<=10)))
 (λe=>some false))
end jG
def jG (D:Trace) (B:Int):Option Bool:=
 jG.W1 B 0 D.procs (len D.procs) 0 D
open jG in
instance Tj (D:Trace) (B:Int):Fc Sy cL (jG D B):=Fc.M 6 [enc D,.int .i64 B] (dR 2 2 D (bU 13 D.procs (dW 5 (λw=>(bF [Iv 1 B,Pv 2,Iv 5 w.1,Cv 9 D.procs,Iv 10 (len D.procs),Iv 11 w.2] [Xb 2 D])) (λC=>(0,(bF [Pv 2] [Xb 2 D]))) (λC=>(bF [Bv 4 false] [])) (λw=>bD 7 12 (b9 7 λu _=>nK 2 7 0 u (bU 7 u.events (cB 10 5 [23] 28 (bD 10 23 (bH 5) (bU 2 u.vars (bH 2))) λG=>cB 1 5 [29] 34 (bD 1 29 (bH 5) (bH 5)) λI=>cB 1 4 [35] 39 (bD 1 35 (bH 4) (bN (F:=nP 28 [] (λz=>qF z) nN.tT u.events) 2 λJ _=>bH 1)) λL=>cB 1 4 [7,40] 44 (bD 1 40 (bH 4) (bN (F:=oR 30 [] (λz=>qG z) nN.tT u.vars) 2 λO _=>bH 1)) λQ=>bD 2 44 bg bg))) bg) (λC=>bU 6 D.procs bg) (λC=>bg))))
namespace eP
def bt (D:Sl (Sl Int)) (G:Int) (B:Int) (p1:(Sl Int)->Option Bool):Option (Fw Int Unit Int):=
 br (decide (B<G))
 ((idx D B).bind λu=>
 (p1 u).bind λw=>
 br w
 (some (.r B))
 (some (.n (IntKind.wrap .i64 (B+1)))))
 (some (.x ()))
def W1 (B:Sl (Sl Int)) (D G:Int) (p1:(Sl Int)->Option Bool):Option Int:=
 (bR (λq:Int=>bt B D q p1) G).bind (Fw.elim
 (λe=>some (-1))
 (λe=>some e))
end eP
def eP (B:Sl (Sl Int)) (p1:(Sl Int)->Option Bool):Option Int:=
 eP.W1 B (len B) 0 p1
open eP in
abbrev qf (g1:FuncId) (e1:List V) (p1:(Sl Int)->Option Bool) (h1:nN Sy cL g1 [] e1 (λz:Sl Int=>[enc z]) (λr:Bool=>[.bool r]) p1 true) (B:Sl (Sl Int)):Fc Sy cL (eP B p1):=Fc.M 20 [enc B,.clo g1 [] e1] (bU 9 B (dW 5 (λw=>(bF [Cv 0 B,(1,.v (.clo g1 [] e1)),Iv 7 (len B),Iv 8 w] [])) (λu=>(0,(bF [] []))) (λu=>(bF [Iv 4 u] [])) (λw=>bD 7 9 (b9 16 λC _=>xZ 1 h1.f C λD _=>bD 2 16 bg bg) bg) (λu=>bg) (λu=>bg)))
def fc (B:Sl (Sl Int)) (p1:(Sl Int)->Option Bool):Option Bool:=
 (eP B p1).bind λu=>
 some (decide (u>=0))
abbrev ja (g1:FuncId) (e1:List V) (p1:(Sl Int)->Option Bool) (h1:nN Sy cL g1 [] e1 (λz:Sl Int=>[enc z]) (λr:Bool=>[.bool r]) p1 true) (B:Sl (Sl Int)):Fc Sy cL (fc B p1):=Fc.M 13 [enc B,.clo g1 [] e1] (bN (F:=qf g1 e1 p1 h1 B) 9 λu _=>bg)
def oT (B:Sl Int):Option Bool:=
 some (decide ((len B)>12))
instance Np (B:Sl Int):Fc Sy cL (oT B):=Fc.M 31 [enc B] (bU 8 B bg)
def sx (B:Sl (Sl Int)):Option Bool:=
 (br (decide ((len B)<=120))
 ((fc B (λz=>oT z)).bind λu=>
 some (!u))
 (some false):Option Bool).bind λw=>
 some w
instance R6 (B:Sl (Sl Int)):Fc Sy cL (sx B):=Fc.M 7 [enc B] (bU 8 B (cB 2 4 [0,6] 10 (bD 2 6 (bN (F:=ja 31 [] (λz=>oT z) nN.tT B) 1 λu _=>bH 2) (bH 4)) λw=>bg))
def oq (B:Int):Option Bool:=
 (br (decide (B>=65))
 (some (decide (B<=90)))
 (some false):Option Bool).bind λu=>
 (br u
 (some true)
 ((br (decide (B>=97))
 (some (decide (B<=122)))
 (some false):Option Bool).bind λw=>
 some w):Option Bool).bind λz=>
 some z
instance Qg (B:Int):Fc Sy cL (oq B):=Fc.M 96 [.int .u8 B] (cB 10 3 [5] 8 (bD 10 5 (bH 3) (bH 3)) λu=>cB 1 7 [0,9] 16 (bD 1 9 (bH 7) (cB 3 3 [0,12] 15 (bD 3 12 (bH 3) (bH 3)) λw=>bH 1)) λz=>bg)
def sw (B:Int):Option Bool:=
 (br (decide (B>=48))
 (some (decide (B<=57)))
 (some false):Option Bool).bind λu=>
 some u
instance Sx (B:Int):Fc Sy cL (sw B):=Fc.M 97 [.int .u8 B] (cB 10 3 [0,5] 8 (bD 10 5 (bH 3) (bH 3)) λu=>bg)
namespace gL
def bt (B:ByteArray) (i3:Int):Option (Fw Int Unit Unit):=
 br (decide (i3<((ByteArray.size B:Nat):Int)))
 ((kK B i3).bind λz=>
 (oq z).bind λC=>
 (br C
 (some false)
 ((kK B i3).bind λD=>
 (sw D).bind λG=>
 some (!G)):Option Bool).bind λI=>
 (br I
 ((kK B i3).bind λu=>
 some (!(u==95)))
 (some false):Option Bool).bind λw=>
 br w
 (some (.r ()))
 (some (.n (IntKind.wrap .i64 (i3+1)))))
 (some (.x ()))
def W1 (B:ByteArray) (i3:Int):Option Bool:=
 (bR (λq:Int=>bt B q) i3).bind (Fw.elim
 (λe=>some true)
 (λe=>some false))
end gL
def gL (B:ByteArray):Option Bool:=
 (br (decide (((ByteArray.size B:Nat):Int)<1))
 (some true)
 (some (decide (((ByteArray.size B:Nat):Int)>16))):Option Bool).bind λu=>
 (br u
 (some true)
 ((kK B 0).bind λw=>
 (oq w).bind λz=>
 some (!z)):Option Bool).bind λC=>
 br C
 (some false)
 (gL.W1 B 1)
open gL in
instance SX (B:ByteArray):Fc Sy cL (gL B):=Fc.M 75 [.str B] (cB 12 4 [7] 11 (bD 12 7 (bH 4) (bH 4)) λD=>cB 1 5 [12] 17 (bD 1 12 (bH 5) (zD 1 .i64 λG _=>bN 0 λI _=>bH 2)) λJ=>bD 2 17 bg (dW 11 (λw=>(bF [(0,.v (.str B)),Iv 3 w] [])) (λu=>(0,(bF [] []))) (λu=>(bF [Bv 2 false] [])) (λw=>bD 10 21 (zD 9 .i64 λL _=>bN 0 λO _=>cB 2 6 [29] 35 (eC 2 29 (bH 6) (zD 2 .i64 λQ _=>bN 0 λS _=>bH 2)) λT=>cB 1 5 [36] 41 (bD 1 36 (zD 2 .i64 λz _=>bH 2) (bH 5)) λC=>bD 2 41 bg bg) bg) (λu=>bg) (λu=>bg)))
def o7 (B:Int):Option Bool:=
 (br (decide (B>=(-1073741824)))
 (some (decide (B<=1073741824)))
 (some false):Option Bool).bind λu=>
 some u
instance SH (B:Int):Fc Sy cL (o7 B):=Fc.M 76 [.int .i64 B] (cB 10 3 [0,5] 8 (bD 10 5 (bH 3) (bH 3)) λu=>bg)
namespace ez
def dH (G:Int) (B:cu) (D:Int):Option (Fw Int Unit Unit):=
 br (decide (D<G))
 ((idx B.vars D).bind λu=>
 (idx B.vars G).bind λw=>
 br (ByteArray.toList u.name==ByteArray.toList w.name)
 (some (.r ()))
 (some (.n (IntKind.wrap .i64 (D+1)))))
 (some (.x ()))
def W3 (D G:Int) (B:cu):Option (Fw Int Unit Int):=
 (bR (λq:Int=>dH D B q) G).bind (Fw.elim
 (λe=>(idx B.vars D).bind λu=>
 (o7 u.init_).bind λw=>
 br w
 (some (.n (IntKind.wrap .i64 (D+1))))
 (some (.r 2)))
 (λe=>some (.r 13)))
def bX (B:cu) (D:Int):Option (Fw Int Unit Int):=
 br (decide (D<(len B.vars)))
 ((idx B.vars D).bind λu=>
 (gL u.name).bind λw=>
 br w
 (W3 D 0 B)
 (some (.r 13)))
 (some (.x ()))
def W2 (D:Int) (B:cu):Option Int:=
 (bR (λq:Int=>bX B q) D).bind (Fw.elim
 (λe=>br (decide ((len B.events)>64))
 (some 5)
 (some 0))
 (λe=>some e))
def bt (p1:Int) (B:Trace) (D:cu) (G:Int):Option (Fw Int Unit Unit):=
 br (decide (G<p1))
 ((idx B.procs G).bind λu=>
 br (ByteArray.toList u.name==ByteArray.toList D.name)
 (some (.r ()))
 (some (.n (IntKind.wrap .i64 (G+1)))))
 (some (.x ()))
def W1 (p1 G:Int) (D:Trace) (B:cu):Option Int:=
 (bR (λq:Int=>bt p1 D B q) G).bind (Fw.elim
 (λe=>br (decide ((len B.vars)>8))
 (some 5)
 (ez.W2 0 B))
 (λe=>some 13))
end ez
def ez (B:Trace) (p1:Int):Option Int:=
 (idx B.procs p1).bind λu=>
 (gL u.name).bind λw=>
 br w
 (ez.W1 p1 0 B u)
 (some 13)
open ez in
instance SQ (J:Trace) (p1:Int):Fc Sy cL (ez J p1):=Fc.M 51 [enc J,.int .i64 p1] (dR 2 2 J (b9 8 λu _=>nK 2 5 0 u (bN 7 λI _=>eC 3 17 (dW 11 (λD=>(bF [Iv 1 p1,Pv 2,Pv 5,Iv 6 D] [Xb 2 J,Xb 5 u])) (λB=>(0,(bF [Pv 5] [Xb 5 u]))) (λB=>(bF [Iv 4 13] [])) (λD=>bD 9 20 (b9 10 λL _=>bD 7 31 bg bg) bg) (λB=>bU 7 u.vars (bD 3 35 bg (dW 11 (λw=>(bF [Pv 5,Iv 7 w] [Xb 5 u])) (λz=>(2,(bF [Pv 5] [Xb 5 u]))) (λz=>(bF [Iv 4 z] [])) (λw=>bU 7 u.vars (bD 3 40 (b9 11 λO _=>bN 2 λQ _=>eC 3 50 (dW 11 (λG=>(bF [Pv 5,Iv 7 w,Iv 8 G] [Xb 5 u])) (λC=>(4,(bF [Pv 5,Iv 7 w] [Xb 5 u]))) (λC=>(bF [Iv 4 13] [])) (λG=>bD 9 53 (b9 10 λS _=>b9 5 λT _=>bD 5 68 bg bg) bg) (λC=>b9 7 λU _=>bN 2 λW _=>eC 3 76 bg bg) (λC=>bg)) bg) bg)) (λz=>bU 7 u.events (bD 3 80 bg bg)) (λz=>bg)))) (λB=>bg)) bg)))
namespace eB
def dH (p1 k8:Int) (J:Trace) (D:Event) (G:Assign) (B:Int):Option (Fw Int Unit Unit):=
 br (decide (B<k8))
 ((idx D.assign B).bind λu=>
 br (u.var==G.var)
 (some (.r ()))
 (some (.n (IntKind.wrap .i64 (B+1)))))
 (some (.x ()))
def W3 (p1 k8 B:Int) (D:Trace) (G:Event) (J:Assign):Option (Fw Int Unit Int):=
 (bR (λq:Int=>dH p1 k8 D G J q) B).bind (Fw.elim
 (λe=>some (.n (IntKind.wrap .i64 (k8+1))))
 (λe=>some (.r 8)))
def bX (p1:Int) (D:Trace) (B:Event) (k8:Int):Option (Fw Int Unit Int):=
 br (decide (k8<(len B.assign)))
 ((idx B.assign k8).bind λu=>
 (br (decide (u.var<0))
 (some true)
 ((idx D.procs p1).bind λw=>
 some (decide (u.var>=(len w.vars)))):Option Bool).bind λz=>
 (br z
 (some true)
 ((o7 u.value).bind λC=>
 some (!C)):Option Bool).bind λG=>
 br G
 (some (.r 2))
 (W3 p1 k8 0 D B u))
 (some (.x ()))
def W2 (p1 k8:Int) (B:Trace) (D:Event):Option Int:=
 (bR (λq:Int=>bX p1 B D q) k8).bind (Fw.elim
 (λe=>some 0)
 (λe=>some e))
def J1 (p1 i2:Int) (D:Trace) (B:Event):Option Int:=
 (br (decide (B.time<0))
 (some true)
 (some (decide (B.time>1099511627776))):Option Bool).bind λu=>
 (br u
 (some true)
 ((br (decide (i2>0))
 ((idx D.procs p1).bind λw=>
 (idx w.events (IntKind.wrap .i64 (i2-1))).bind λz=>
 some (decide (B.time<z.time)))
 (some false):Option Bool).bind λC=>
 some C):Option Bool).bind λG=>
 br G
 (some 11)
 (br (decide ((len B.assign)>8))
 (some 5)
 (eB.W2 p1 0 D B))
theorem vR (p1 i2:Int) (D:Trace) (B:Event):Le ((J1 p1 i2 D B).bind (λr=>some [.int .i64 r])) (ct Sy cL (qU (tr Tx 52)) (uf (tb Tx 52) [1,1,1,0] [] (bF [Iv 1 p1,Iv 2 i2,Pv 3,Pv 7] [Xb 3 D,Xb 7 B]))):=
 cB 7 4 [71] 75 (bD 7 71 (bH 4) (bH 4)) λL=>cB 1 19 [2,76] 95 (bD 1 76 (bH 19) (cB 3 15 [2,79] 94 (bD 3 79 (b9 5 λO _=>b9 4 λQ _=>bH 4) (bH 15)) λS=>bH 1)) λT=>bD 2 95 bg (bU 8 B.assign (bD 3 99 bg (dW 11 (λu=>(bF [Iv 1 p1,Pv 3,Pv 7,Iv 8 u] [Xb 3 D,Xb 7 B])) (λw=>(0,(bF [] []))) (λw=>(bF [Iv 6 w] [])) (λu=>bU 7 B.assign (bD 3 104 (b9 10 λz _=>cB 12 11 [115] 126 (bD 12 115 (bH 11) (b9 5 λI _=>bU 2 I.vars (bH 2))) λU=>Ca 1 5 [130] (λC=>(bF [Iv 1 p1,Pv 3,Pv 7,Iv 8 u,Bv 104 true,Pv 9,Bv 132 C] [Xb 3 D,Xb 7 B,Xb 9 z])) (bD 1 127 (bH 5) (gW 2 λW _=>bH 2)) λC=>bD 2 132 bg (dW 10 (λJ=>(bF [Iv 1 p1,Pv 3,Pv 7,Iv 8 u,Pv 9,Iv 10 J] [Xb 3 D,Xb 7 B,Xb 9 z])) (λG=>(2,(bF [Iv 1 p1,Pv 3,Pv 7,Iv 8 u] [Xb 3 D,Xb 7 B]))) (λG=>(bF [Iv 6 8] [])) (λJ=>bD 9 135 (b9 10 λX _=>bD 7 146 bg bg) bg) (λG=>bg) (λG=>bg))) bg)) (λw=>bg) (λw=>bg))))
end eB
def eB (B:Trace) (p1 i2:Int):Option Int:=
 (idx B.procs p1).bind λw=>
 (idx w.events i2).bind λu=>
 br (u.kind==1)
 ((br (u.peer==0)
 (some (!(u.message==0)))
 (some true):Option Bool).bind λz=>
 br z
 (some 3)
 (eB.J1 p1 i2 B u))
 ((br (u.kind==2)
 (some false)
 (some (!(u.kind==3))):Option Bool).bind λC=>
 (br C
 (some true)
 (some (decide (u.peer<0))):Option Bool).bind λD=>
 (br D
 (some true)
 (some (decide (u.peer>=(len B.procs)))):Option Bool).bind λG=>
 (br G
 (some true)
 (some (u.peer==p1)):Option Bool).bind λI=>
 (br I
 (some true)
 (some (decide (u.message<0))):Option Bool).bind λJ=>
 (br J
 (some true)
 (some (decide (u.message>199))):Option Bool).bind λL=>
 br L
 (some 3)
 (eB.J1 p1 i2 B u))
open eB in
instance SL (B:Trace) (p1 i2:Int):Fc Sy cL (eB B p1 i2):=Fc.M 52 [enc B,.int .i64 p1,.int .i64 i2] (dR 2 3 B (b9 8 λw _=>b9 3 λu _=>nK 2 7 0 u (bD 10 22 (cB 7 4 [26] 30 (eC 7 26 (bH 4) (bH 4)) λz=>bD 2 30 bg (DO 4 (vR p1 i2 B u))) (cB 7 4 [34] 38 (eC 7 34 (bH 4) (bH 4)) λC=>cB 1 4 [39] 43 (bD 1 39 (bH 4) (bH 4)) λD=>cB 1 7 [44] 51 (bD 1 44 (bH 7) (bU 4 B.procs (bH 2))) λG=>cB 1 5 [52] 57 (bD 1 52 (bH 5) (bH 5)) λI=>cB 1 4 [58] 62 (bD 1 58 (bH 4) (bH 4)) λJ=>cB 1 4 [63] 67 (bD 1 63 (bH 4) (bH 4)) λL=>bD 2 67 bg (DO 4 (vR p1 i2 B u))))))
namespace iB
def bt (G:Trace) (J:aZ) (D:Event) (B:Bool) (O:Int):Option (Fw (Bool×Int) Bool Empty):=
 (idx G.procs D.peer).bind λw=>
 br (decide (O<(len w.events)))
 ((idx G.procs D.peer).bind λz=>
 (idx z.events O).bind λu=>
 (br B
 (some true)
 ((br (u.kind==2)
 (some (u.message==D.message))
 (some false):Option Bool).bind λC=>
 (br C
 (some (u.peer==J.proc))
 (some false):Option Bool).bind λI=>
 some I):Option Bool).bind λL=>
 some (.n (L,IntKind.wrap .i64 (O+1))))
 (some (.x B))
def W1 (B:Bool) (O:Int) (D:Trace) (G:aZ) (J:Event):Option Int:=
 (bR (λq:Bool×Int=>bt D G J q.1 q.2) (B,O)).bind (Fw.elim
 (λe=>br e
 (some 0)
 (some 7))
 (λe=>Empty.elim e))
end iB
def iB (B:Trace) (D:aZ):Option Int:=
 (tI B D).bind λu=>
 br (u.kind==1)
 (some 0)
 ((dQ B u.kind u.message).bind λw=>
 br (I6 w D)
 (br (u.kind==3)
 (iB.W1 false 0 B D u)
 (some 0))
 (some 8))
open iB in
instance PV (B:Trace) (D:aZ):Fc Sy cL (iB B D):=Fc.M 53 [enc B,enc D] (dR 2 2 B (bN 8 λw _=>nK 1 5 0 w (bD 10 14 bg (gW 11 λI _=>eC 4 22 (bD 11 25 (fJ 14 (λu=>(bF [Pv 2,Pv 3,Pv 5,Bv 6 u.1,Iv 7 u.2] [Xb 2 B,Xb 3 D,Xb 5 w])) (λz=>(0,(bF [Bv 6 z] []))) (λu=>b9 9 λC _=>bU 2 C.events (bD 3 35 (b9 11 λJ _=>b9 3 λG _=>nK 2 8 0 G (cB 5 18 [8,49] 67 (bD 5 49 (bH 18) (cB 4 6 [53] 59 (bD 4 53 (bH 6) (bH 6)) λL=>cB 1 6 [8,60] 66 (bD 1 60 (bH 6) (bH 6)) λO=>bH 1)) λQ=>bg)) bg)) (λz=>eC 8 69 bg bg)) bg) bg))))
namespace eF
def J4 (B:Sl Int) (p5:Int) (D:Trace):Option (Fw ((Sl Int)×Bool) ((Sl Int)×Bool) Empty):=
 (Sl.mj B p5).bind λu=>
 (Sl.get B u).bind λw=>
 (Sl.mj B p5).bind λz=>
 (Sl.put B z (IntKind.wrap .i64 (w+1):Int)).bind λC=>
 some (.n (C,true))
def dH (p5:Int) (G:Trace) (B:Sl Int) (D:Bool):Option (Fw ((Sl Int)×Bool) ((Sl Int)×Bool) Empty):=
 (Sl.mj B p5).bind λI=>
 (Sl.get B I).bind λJ=>
 (idx G.procs p5).bind λL=>
 br (decide (J<(len L.events)))
 ((idx G.procs p5).bind λO=>
 (Sl.mj B p5).bind λQ=>
 (Sl.get B Q).bind λS=>
 (idx O.events S).bind λu=>
 br (u.kind==3)
 ((dQ G 2 u.message).bind λw=>
 (Sl.mj B w.proc).bind λz=>
 (Sl.get B z).bind λC=>
 br (decide (C<w.index))
 (some (.x (B,D)))
 (J4 B p5 G))
 (J4 B p5 G))
 (some (.x (B,D)))
def W3 (D:Sl Int) (B:Bool) (p5:Int) (G:Trace):Option (Fw ((Sl Int)×Bool×Int) ((Sl Int)×Bool) Empty):=
 (bR (λq:(Sl Int)×Bool=>dH p5 G q.1 q.2) (D,B)).bind (Fw.elim
 (λe=>some (.n (e.1,e.2,IntKind.wrap .i64 (p5+1))))
 (λe=>Empty.elim e))
def bX (G:Trace) (D:Sl Int) (B:Bool) (p5:Int):Option (Fw ((Sl Int)×Bool×Int) ((Sl Int)×Bool) Empty):=
 br (decide (p5<(len G.procs)))
 (W3 D B p5 G)
 (some (.x (D,B)))
def W2 (D:Sl Int) (B:Bool) (p5:Int) (G:Trace):Option (Fw (Sl Int) (Sl Int) Empty):=
 (bR (λq:(Sl Int)×Bool×Int=>bX G q.1 q.2.1 q.2.2) (D,B,p5)).bind (Fw.elim
 (λe=>br e.2
 (some (.n e.1))
 (some (.x e.1)))
 (λe=>Empty.elim e))
def xd (B:Sl Int) (D:Trace) (G:Int):Option (Fw Int Unit Unit):=
 br (decide (G<(len D.procs)))
 ((Sl.mj B G).bind λu=>
 (Sl.get B u).bind λw=>
 (idx D.procs G).bind λz=>
 br (decide (w<(len z.events)))
 (some (.r ()))
 (some (.n (IntKind.wrap .i64 (G+1)))))
 (some (.x ()))
def W5 (B:Sl Int) (G:Int) (D:Trace):Option Bool:=
 (bR (λq:Int=>xd B D q) G).bind (Fw.elim
 (λe=>some true)
 (λe=>some false))
def bt (D:Trace) (B:Sl Int):Option (Fw (Sl Int) (Sl Int) Empty):=
 W2 B false 0 D
def W1 (B:Sl Int) (D:Trace):Option Bool:=
 (bR (λq:Sl Int=>bt D q) B).bind (Fw.elim
 (λe=>eF.W5 e 0 D)
 (λe=>Empty.elim e))
end eF
def eF (B:Trace):Option Bool:=
 (mP (len B.procs) (0:Int)).bind λu=>
 eF.W1 u B
open eF in
instance Pr (B:Trace):Fc Sy cL (eF B):=Fc.M 54 [enc B] (dR 2 1 B (bU 7 B.procs (I4 0 12 λae _=>fJ 7 (λO=>(bF [Pv 1,Ov 3] [Xb 1 B,Lb 2003 O])) (λD=>(0,(bF [Pv 1,Ov 3] [Xb 1 B,Lb 2003 D]))) (λO=>fJ 17 (λw=>(bF [Pv 1,Ov 3,Bv 4 w.2.1,Iv 5 w.2.2] [Xb 1 B,Lb 2003 w.1])) (λG=>(2,(bF [Pv 1,Ov 3,Bv 4 G.2] [Xb 1 B,Lb 2003 G.1]))) (λw=>bU 8 B.procs (bD 3 17 (fJ 8 (λI=>(bF [Pv 1,Ov 3,Bv 4 I.2,Iv 5 w.2.2] [Xb 1 B,Lb 2003 I.1])) (λJ=>(4,(bF [Pv 1,Ov 3,Bv 4 J.2,Iv 5 w.2.2] [Xb 1 B,Lb 2003 J.1]))) (λI=>nF .i64 7 2003 λaf _=>vl 0 2003 0 1 false (λQ=>.int .i64 Q) λQ _=>b9 3 λZ _=>bU 2 Z.events (bD 3 31 (b9 9 λah _=>nF .i64 4 2003 λai _=>vl 0 2003 0 1 false (λS=>.int .i64 S) λS _=>b9 0 λaa _=>nK 2 6 0 aa (bD 10 46 (bN 6 λaj _=>nF .i64 9 2003 λab _=>vl 0 2003 0 1 false (λz=>.int .i64 z) λz _=>bD 5 58 bg (wu 5 (nF .i64 4 2003 λT _=>vl 0 2003 0 1 false (λu=>.int .i64 u) λu _=>nF .i64 1 2003 λU _=>ym 0 2003 (.int .i64 (IntKind.wrap .i64 (u+1))) λW _=>bg))) (wu 5 (nF .i64 4 2003 λT _=>vl 0 2003 0 1 false (λu=>.int .i64 u) λu _=>nF .i64 1 2003 λU _=>ym 0 2003 (.int .i64 (IntKind.wrap .i64 (u+1))) λW _=>bg)))) bg)) (λJ=>bg)) bg)) (λG=>eC 8 66 bg bg)) (λD=>dW 11 (λX=>(bF [Pv 1,Ov 3,Iv 8 X] [Xb 1 B,Lb 2003 D])) (λL=>(6,(bF [] []))) (λL=>(bF [Bv 2 false] [])) (λX=>bU 8 B.procs (bD 3 71 (nF .i64 9 2003 λad _=>vl 0 2003 0 1 false (λC=>.int .i64 C) λC _=>b9 3 λY _=>bU 2 Y.events (bD 3 85 bg bg)) bg)) (λL=>bg) (λL=>bg)))))
instance S3 (t:Trace) (x:aZ):Fc Sy cL (mQ t x):=Fc.of (A:=λz:Trace×aZ=>[enc z.1,enc z.2]) (E:=λr:Sl (Sl Bool)=>[enc r]) (p:=λz=>mQ z.1 z.2) (n:=55) (z:=(t,x)) (kB.NN Ze Ze (λz r hr=>OH z.1 z.2 r hr))
namespace c7
def dH (p6:Int) (B:Trace) (G:aZ) (D:Int):Option (Fw Int Unit (Int×aZ)):=
 (idx B.procs p6).bind λw=>
 br (decide (D<(len w.events)))
 ((eB B p6 D).bind λu=>
 br (u==0)
 (some (.n (IntKind.wrap .i64 (D+1))))
 (some (.r (u,(⟨p6,IntKind.wrap .i64 (D+1)⟩:aZ)))))
 (some (.x ()))
def W3 (p6 G:Int) (B:Trace) (D:aZ):Option (Fw Int Unit (Int×aZ)):=
 (bR (λq:Int=>dH p6 B D q) G).bind (Fw.elim
 (λe=>some (.n (IntKind.wrap .i64 (p6+1))))
 (λe=>some (.r (e.1,e.2))))
def xd (G:Int) (D:Trace) (J:aZ) (B:Int):Option (Fw Int Unit (Int×aZ)):=
 (idx D.procs G).bind λw=>
 br (decide (B<(len w.events)))
 ((iB D (⟨G,IntKind.wrap .i64 (B+1)⟩:aZ)).bind λu=>
 br (u==0)
 (some (.n (IntKind.wrap .i64 (B+1))))
 (some (.r (u,(⟨G,IntKind.wrap .i64 (B+1)⟩:aZ)))))
 (some (.x ()))
def W5 (J B:Int) (D:Trace) (G:aZ):Option (Fw Int Unit (Int×aZ)):=
 (bR (λq:Int=>xd J D G q) B).bind (Fw.elim
 (λe=>some (.n (IntKind.wrap .i64 (J+1))))
 (λe=>some (.r (e.1,e.2))))
def Jg (D:Int) (G:Trace) (J:aZ) (B:Int):Option (Fw Int Unit aZ):=
 (idx G.procs D).bind λw=>
 br (decide (B<(len w.events)))
 ((mQ G (⟨D,IntKind.wrap .i64 (B+1)⟩:aZ)).bind λz=>
 (idx z D).bind λC=>
 (idx C (IntKind.wrap .i64 (B+1))).bind λu=>
 br u
 (some (.r (⟨D,IntKind.wrap .i64 (B+1)⟩:aZ)))
 (some (.n (IntKind.wrap .i64 (B+1)))))
 (some (.x ()))
def W7 (B D:Int) (G:Trace) (J:aZ):Option (Fw Int Unit aZ):=
 (bR (λq:Int=>Jg B G J q) D).bind (Fw.elim
 (λe=>some (.n (IntKind.wrap .i64 (B+1))))
 (λe=>some (.r e)))
def Jj (B:Trace) (G:aZ) (D:Int):Option (Fw Int Unit aZ):=
 br (decide (D<(len B.procs)))
 (W7 D 0 B G)
 (some (.x ()))
def W6 (B:Int) (D:Trace) (G:aZ):Option (aZ×Int):=
 (bR (λq:Int=>Jj D G q) B).bind (Fw.elim
 (λe=>some (⟨0,0⟩,0))
 (λe=>some (e,10)))
def Jd (B:Trace) (D:aZ) (G:Int):Option (Fw Int Unit (Int×aZ)):=
 br (decide (G<(len B.procs)))
 (W5 G 0 B D)
 (some (.x ()))
def W4 (G:Int) (B:Trace) (D:aZ):Option (aZ×Int):=
 (bR (λq:Int=>Jd B D q) G).bind (Fw.elim
 (λe=>(eF B).bind λu=>
 br u
 (some (⟨0,0⟩,0))
 (c7.W6 0 B D))
 (λe=>some (e.2,e.1)))
def bX (B:Trace) (D:aZ) (p6:Int):Option (Fw Int Unit (Int×aZ)):=
 br (decide (p6<(len B.procs)))
 (W3 p6 0 B D)
 (some (.x ()))
def W2 (p6:Int) (B:Trace) (D:aZ):Option (aZ×Int):=
 (bR (λq:Int=>bX B D q) p6).bind (Fw.elim
 (λe=>c7.W4 0 B D)
 (λe=>some (e.2,e.1)))
def bt (B:Trace) (D:aZ) (p4:Int):Option (Fw Int Unit (Int×aZ)):=
 br (decide (p4<(len B.procs)))
 ((ez B p4).bind λu=>
 br (u==0)
 (some (.n (IntKind.wrap .i64 (p4+1))))
 (some (.r (u,(⟨p4,0⟩:aZ)))))
 (some (.x ()))
def W1 (p4:Int) (B:Trace) (D:aZ):Option (aZ×Int):=
 (bR (λq:Int=>bt B D q) p4).bind (Fw.elim
 (λe=>c7.W2 0 B D)
 (λe=>some (e.2,e.1)))
end c7
def c7 (B:Trace):Option (aZ×Int):=
 (br (decide ((len B.procs)<1))
 (some true)
 (some (decide ((len B.procs)>8))):Option Bool).bind λu=>
 br u
 (some (⟨0,0⟩,1))
 (c7.W1 0 B (⟨0,0⟩:aZ))
open c7 in
instance SC (B:Trace):Fc Sy cL (c7 B):=Fc.M 32 [enc B] (dR 2 1 B (bU 9 B.procs (cB 2 5 [20] 25 (bD 2 20 (bH 5) (bU 2 B.procs (bH 2))) λab=>bD 2 25 bg (dW 11 (λQ=>(bF [Pv 1,Pv 2,Iv 4 Q] [Xb 1 B,Xb 2 (⟨0,0⟩:aZ)])) (λu=>(0,(bF [Pv 1,Pv 2] [Xb 1 B,Xb 2 (⟨0,0⟩:aZ)]))) (λu=>(bF [Pv 2,Iv 3 u.1] [Xb 2 u.2])) (λQ=>bU 7 B.procs (bD 3 31 (bN 9 λad _=>eC 9 38 bg bg) bg)) (λu=>dW 10 (λG=>(bF [Pv 1,Pv 2,Iv 6 G] [Xb 1 B,Xb 2 (⟨0,0⟩:aZ)])) (λw=>(2,(bF [Pv 1,Pv 2] [Xb 1 B,Xb 2 (⟨0,0⟩:aZ)]))) (λw=>(bF [Pv 2,Iv 3 w.1] [Xb 2 w.2])) (λG=>bU 7 B.procs (bD 3 46 (dW 12 (λS=>(bF [Pv 1,Pv 2,Iv 6 G,Iv 7 S] [Xb 1 B,Xb 2 (⟨0,0⟩:aZ)])) (λz=>(4,(bF [Pv 1,Pv 2,Iv 6 G] [Xb 1 B,Xb 2 (⟨0,0⟩:aZ)]))) (λz=>(bF [Pv 2,Iv 3 z.1] [Xb 2 z.2])) (λS=>b9 8 λW _=>bU 2 W.events (bD 3 57 (bN 10 λae _=>eC 9 65 bg bg) bg)) (λz=>bg) (λz=>bg)) bg)) (λw=>dW 10 (λI=>(bF [Pv 1,Pv 2,Iv 9 I] [Xb 1 B,Xb 2 (⟨0,0⟩:aZ)])) (λC=>(6,(bF [Pv 1,Pv 2] [Xb 1 B,Xb 2 (⟨0,0⟩:aZ)]))) (λC=>(bF [Pv 2,Iv 3 C.1] [Xb 2 C.2])) (λI=>bU 7 B.procs (bD 3 75 (dW 12 (λT=>(bF [Pv 1,Pv 2,Iv 9 I,Iv 10 T] [Xb 1 B,Xb 2 (⟨0,0⟩:aZ)])) (λD=>(8,(bF [Pv 1,Pv 2,Iv 9 I] [Xb 1 B,Xb 2 (⟨0,0⟩:aZ)]))) (λD=>(bF [Pv 2,Iv 3 D.1] [Xb 2 D.2])) (λT=>b9 8 λX _=>bU 2 X.events (bD 3 86 (bN 19 λaf _=>eC 9 97 bg bg) bg)) (λD=>bg) (λD=>bg)) bg)) (λC=>bN 6 λZ _=>bD 2 101 bg (dW 11 (λJ=>(bF [Pv 1,Pv 2,Iv 13 J] [Xb 1 B,Xb 2 (⟨0,0⟩:aZ)])) (λL=>(10,(bF [Pv 2] [Xb 2 (⟨0,0⟩:aZ)]))) (λL=>(bF [Pv 2,Iv 3 10] [Xb 2 L])) (λJ=>bU 7 B.procs (bD 3 107 (dW 12 (λU=>(bF [Pv 1,Pv 2,Iv 13 J,Iv 14 U] [Xb 1 B,Xb 2 (⟨0,0⟩:aZ)])) (λO=>(12,(bF [Pv 1,Pv 2,Iv 13 J] [Xb 1 B,Xb 2 (⟨0,0⟩:aZ)]))) (λO=>(bF [Pv 2,Iv 3 10] [Xb 2 O])) (λU=>b9 8 λY _=>bU 2 Y.events (bD 3 118 (bN 19 λah _=>b9 1 λai _=>b9 3 λaa _=>bD 3 134 bg bg) bg)) (λO=>bg) (λO=>bg)) bg)) (λL=>bg) (λL=>bg))) (λC=>bg)) (λw=>bg)) (λu=>bg)))))
def rU (B:Trace):Option Bool:=
 (c7 B).bind λu=>
 some (u.2==0)
instance RX (B:Trace):Fc Sy cL (rU B):=Fc.M 8 [enc B] (dR 2 1 B (bN 6 λu _=>bg))
def qw (D:Sl Int) (p1:Int):Option (Sl Int):=
 (nH (Sl.row []:Sl Int) D).bind λu=>
 (Sl.mj u p1).bind λw=>
 (Sl.get u w).bind λz=>
 (Sl.mj u p1).bind λB=>
 (Sl.put u B (IntKind.wrap .i64 (z+1):Int)).bind λC=>
 some C
instance SZ (B:Sl Int) (p1:Int):Fc Sy cL (qw B p1):=Fc.N 61 [enc B,.int .i64 p1] (xh 9 6 8 λw _=>nF .i64 9 8 λz _=>vl 0 8 0 1 false (λu=>.int .i64 u) λu _=>nF .i64 1 8 λC _=>ym 0 8 (.int .i64 (IntKind.wrap .i64 (u+1))) λD _=>bg)
namespace mE
def bt (B:Sl Int) (D:Trace) (p5:Int):Option (Fw Int Unit Unit):=
 br (decide (p5<(len B)))
 ((idx B p5).bind λu=>
 (br (decide (u<0))
 (some true)
 ((idx B p5).bind λw=>
 (idx D.procs p5).bind λz=>
 some (decide (w>(len z.events)))):Option Bool).bind λC=>
 br C
 (some (.r ()))
 (some (.n (IntKind.wrap .i64 (p5+1)))))
 (some (.x ()))
def W1 (B:Sl Int) (p5:Int) (D:Trace):Option Bool:=
 (bR (λq:Int=>bt B D q) p5).bind (Fw.elim
 (λe=>some true)
 (λe=>some false))
end mE
def mE (D:Trace) (B:Sl Int):Option Bool:=
 br ((len B)==(len D.procs))
 (mE.W1 B 0 D)
 (some false)
open mE in
instance TC (D:Trace) (B:Sl Int):Fc Sy cL (mE D B):=Fc.M 83 [enc D,enc B] (dR 2 2 D (bU 7 B (bU 2 D.procs (eC 3 11 (dW 11 (λw=>(bF [Cv 1 B,Pv 2,Iv 5 w] [Xb 2 D])) (λu=>(0,(bF [] []))) (λu=>(bF [Bv 4 false] [])) (λw=>bU 6 B (bD 3 15 (b9 9 λC _=>cB 3 13 [23] 36 (bD 3 23 (bH 13) (b9 2 λG _=>b9 4 λz _=>bU 2 z.events (bH 2))) λI=>bD 2 36 bg bg) bg)) (λu=>bg) (λu=>bg)) bg))))
namespace dN
def bX (B:Sl Int) (p5:Int) (D:Trace) (G:Int):Option (Fw Int Unit Unit):=
 (idx B p5).bind λz=>
 br (decide (G<z))
 ((idx D.procs p5).bind λC=>
 (idx C.events G).bind λu=>
 br (u.kind==3)
 ((dQ D 2 u.message).bind λw=>
 (idx B w.proc).bind λI=>
 br (decide (w.index>I))
 (some (.r ()))
 (some (.n (IntKind.wrap .i64 (G+1)))))
 (some (.n (IntKind.wrap .i64 (G+1)))))
 (some (.x ()))
def W2 (B:Sl Int) (p5 G:Int) (D:Trace):Option (Fw Int Unit Unit):=
 (bR (λq:Int=>bX B p5 D q) G).bind (Fw.elim
 (λe=>some (.n (IntKind.wrap .i64 (p5+1))))
 (λe=>some (.r ())))
def bt (B:Sl Int) (D:Trace) (p5:Int):Option (Fw Int Unit Unit):=
 br (decide (p5<(len B)))
 (W2 B p5 0 D)
 (some (.x ()))
def W1 (B:Sl Int) (p5:Int) (D:Trace):Option Bool:=
 (bR (λq:Int=>bt B D q) p5).bind (Fw.elim
 (λe=>some true)
 (λe=>some false))
end dN
def dN (D:Trace) (B:Sl Int):Option Bool:=
 dN.W1 B 0 D
open dN in
instance Lk (D:Trace) (B:Sl Int):Fc Sy cL (dN D B):=Fc.M 84 [enc D,enc B] (dR 2 2 D (dW 11 (λu=>(bF [Cv 1 B,Pv 2,Iv 5 u] [Xb 2 D])) (λw=>(0,(bF [] []))) (λw=>(bF [Bv 4 false] [])) (λu=>bU 6 B (bD 3 12 (dW 12 (λC=>(bF [Cv 1 B,Pv 2,Iv 5 u,Iv 6 C] [Xb 2 D])) (λz=>(2,(bF [Cv 1 B,Pv 2,Iv 5 u] [Xb 2 D]))) (λz=>(bF [Bv 4 false] [])) (λC=>b9 7 λI _=>bD 4 20 (b9 10 λJ _=>b9 3 λG _=>nK 2 7 0 G (bD 9 34 (bN 6 λL _=>b9 11 λO _=>bD 4 46 bg bg) bg)) bg) (λz=>bg) (λz=>bg)) bg)) (λw=>bg) (λw=>bg)))
def vM (B:Trace) (D:Sl Int):Option Bool:=
 (mE B D).bind λu=>
 (br u
 ((dN B D).bind λw=>
 some w)
 (some false):Option Bool).bind λz=>
 some z
instance UE (B:Trace) (D:Sl Int):Fc Sy cL (vM B D):=Fc.M 60 [enc B,enc D] (dR 2 2 B (bN 7 λu _=>cB 1 4 [1,2,8] 12 (bD 1 8 (bN 2 λw _=>bH 1) (bH 4)) λz=>bg))
namespace iV
def bt (G:Sl Int) (D:Trace) (B:Sl (Sl Int)) (p6:Int):Option (Fw ((Sl (Sl Int))×Int) (Sl (Sl Int)) Empty):=
 br (decide (p6<(len G)))
 ((idx G p6).bind λu=>
 (idx D.procs p6).bind λw=>
 (br (decide (u<(len w.events)))
 ((qw G p6).bind λz=>
 (vM D z).bind λC=>
 some C)
 (some false):Option Bool).bind λI=>
 br I
 ((qw G p6).bind λJ=>
 (gw B (J:Sl Int)).bind λL=>
 some (.n (L,IntKind.wrap .i64 (p6+1))))
 (some (.n (B,IntKind.wrap .i64 (p6+1)))))
 (some (.x B))
def W1 (G:Sl Int) (B:Sl (Sl Int)) (p6:Int) (D:Trace):Option (Sl (Sl Int)):=
 (bR (λq:(Sl (Sl Int))×Int=>bt G D q.1 q.2) (B,p6)).bind (Fw.elim
 (λe=>some e)
 (λe=>Empty.elim e))
end iV
def iV (B:Trace) (D:Sl Int):Option (Sl (Sl Int)):=
 iV.W1 D (Sl.nil:Sl (Sl Int)) 0 B
open iV in
instance SP (B:Trace) (D:Sl Int):Fc Sy cL (iV B D):=Fc.N 40 [enc B,enc D] (dR 2 2 B (fJ 17 (λu=>(bF [Cv 1 D,Pv 2,Ov 5,Iv 6 u.2] [Xb 2 B,Lb 2005 u.1])) (λw=>(0,(bF [Ov 5] [Lb 2005 w]))) (λu=>bU 7 D (bD 3 10 (b9 9 λI _=>b9 4 λC _=>bU 2 C.events (Ca 2 6 [30,29] (λz=>(bF [Cv 1 D,Pv 2,Ov 5,Iv 6 u.2,Bv 10 true,Bv 31 z] [Xb 2 B,Lb 2005 u.1])) (bD 2 25 (bN 3 λJ _=>gW 0 λL _=>bH 1) (bH 6)) λz=>bD 2 31 (bN 5 λG _=>u6 0 36 ([G]:List (Sl Int)) (mm 0 2005 36 37 λO _=>bg)) bg)) bg)) (λw=>bg)))
namespace gm
def bt (B:Sl Int) (D i4:Int):Option (Fw (Int×Int) Int Empty):=
 br (decide (i4<(len B)))
 ((idx B i4).bind λu=>
 some (.n (IntKind.wrap .i64 (D+u),IntKind.wrap .i64 (i4+1))))
 (some (.x D))
def W1 (B:Sl Int) (D i4:Int):Option Int:=
 (bR (λq:Int×Int=>bt B q.1 q.2) (D,i4)).bind (Fw.elim
 (λe=>some e)
 (λe=>Empty.elim e))
end gm
def gm (B:Sl Int):Option Int:=
 gm.W1 B 0 0
open gm in
instance SK (B:Sl Int):Fc Sy cL (gm B):=Fc.M 85 [enc B] (fJ 18 (λu=>(bF [Cv 0 B,Iv 3 u.1,Iv 4 u.2] [])) (λw=>(0,(bF [Iv 3 w] []))) (λu=>bU 6 B (bD 3 8 (b9 9 λz _=>bg) bg)) (λw=>bg))
namespace gG
def bt (a0 D:Sl Int) (B:Int):Option (Fw Int Unit Bool):=
 br (decide (B<(len a0)))
 ((idx a0 B).bind λu=>
 (idx D B).bind λw=>
 br (u==w)
 (some (.n (IntKind.wrap .i64 (B+1))))
 ((idx a0 B).bind λz=>
 (idx D B).bind λC=>
 some (.r (decide (z<C)))))
 (some (.x ()))
def W1 (a0 B:Sl Int) (D:Int):Option Bool:=
 (bR (λq:Int=>bt a0 B q) D).bind (Fw.elim
 (λe=>some false)
 (λe=>some e))
end gG
def gG (a0 B:Sl Int):Option Bool:=
 (gm a0).bind λu=>
 (gm B).bind λw=>
 br (u==w)
 (gG.W1 a0 B 0)
 ((gm a0).bind λz=>
 (gm B).bind λC=>
 some (decide (z<C)))
open gG in
instance Qv (a0 B:Sl Int):Fc Sy cL (gG a0 B):=Fc.M 62 [enc a0,enc B] (bN 9 λz _=>bN 1 λC _=>eC 3 10 (dW 11 (λw=>(bF [Cv 0 a0,Cv 1 B,Iv 5 w] [])) (λu=>(0,(bF [] []))) (λu=>(bF [Bv 4 u] [])) (λw=>bU 6 a0 (bD 3 19 (b9 9 λD _=>b9 3 λG _=>eC 4 30 bg (b9 5 λI _=>b9 3 λJ _=>bg)) bg)) (λu=>bg) (λu=>bg)) (bN 4 λL _=>bN 1 λO _=>bg))
namespace e_
def bt (a0 D:Sl Int) (B:Int):Option (Fw Int Unit Unit):=
 br (decide (B<(len a0)))
 ((idx a0 B).bind λu=>
 (idx D B).bind λw=>
 br (u==w)
 (some (.n (IntKind.wrap .i64 (B+1))))
 (some (.r ())))
 (some (.x ()))
def W1 (a0 B:Sl Int) (D:Int):Option Bool:=
 (bR (λq:Int=>bt a0 B q) D).bind (Fw.elim
 (λe=>some true)
 (λe=>some false))
end e_
def e_ (a0 B:Sl Int):Option Bool:=
 br ((len a0)==(len B))
 (e_.W1 a0 B 0)
 (some false)
open e_ in
instance Nt (a0 B:Sl Int):Fc Sy cL (e_ a0 B):=Fc.M 63 [enc a0,enc B] (bU 9 a0 (bU 1 B (eC 3 10 (dW 11 (λw=>(bF [Cv 0 a0,Cv 1 B,Iv 5 w] [])) (λu=>(0,(bF [] []))) (λu=>(bF [Bv 4 false] [])) (λw=>bU 6 a0 (bD 3 14 (b9 9 λz _=>b9 3 λC _=>eC 4 25 bg bg) bg)) (λu=>bg) (λu=>bg)) bg)))
namespace gE
def bt (D:Sl (Sl Int)) (G:Sl Int) (B:Int):Option (Fw Int Int Empty):=
 (br (decide (B<(len D)))
 ((idx D B).bind λu=>
 (gG u G).bind λw=>
 some w)
 (some false):Option Bool).bind λz=>
 br z
 (some (.n (IntKind.wrap .i64 (B+1))))
 (some (.x B))
def W1 (B:Sl (Sl Int)) (G:Sl Int) (D:Int):Option (Sl (Sl Int)):=
 (bR (λq:Int=>bt B G q) D).bind (Fw.elim
 (λe=>(br (decide (e<(len B)))
 ((idx B e).bind λz=>
 (e_ z G).bind λC=>
 some C)
 (some false):Option Bool).bind λI=>
 br I
 (some B)
 ((fS B none (some e)).bind λJ=>
 (nH (Sl.row []:Sl (Sl Int)) J).bind λL=>
 (gw L (G:Sl Int)).bind λO=>
 (fS B (some e) none).bind λu=>
 (nH O u).bind λw=>
 some w))
 (λe=>Empty.elim e))
end gE
def gE (B:Sl (Sl Int)) (D:Sl Int):Option (Sl (Sl Int)):=
 gE.W1 B D 0
open gE in
instance Qq (B:Sl (Sl Int)) (D:Sl Int):Fc Sy cL (gE B D):=Fc.N 41 [enc B,enc D] (fJ 13 (λw=>(bF [Cv 0 B,Cv 1 D,Iv 5 w] [])) (λu=>(0,(bF [Cv 0 B,Cv 1 D,Iv 5 u] []))) (λw=>bU 6 B (cB 2 7 [11] 18 (bD 2 11 (b9 2 λG _=>bN 2 λI _=>bH 1) (bH 7)) λJ=>bD 2 18 bg bg)) (λu=>bU 7 B (cB 2 7 [25] 32 (bD 2 25 (b9 2 λL _=>bN 2 λO _=>bH 1) (bH 7)) λQ=>bD 2 32 bg (u6 5 34 ([]:List (Sl Int)) (BN 2 false true [.int .i64 u] λS _=>xh 0 34 38 λT _=>u6 7 41 ([D]:List (Sl Int)) (mm 0 38 41 42 λU _=>BN 8 true false [.int .i64 u] λz _=>xh 0 42 47 λC _=>bg))))))
namespace dP
def dH (D G:Sl (Sl Int)) (U:Int) (J:Sl (Sl Int)) (O:Trace) (B:Sl (Sl Int)) (k9:Int):Option (Fw ((Sl (Sl Int))×Int) (Sl (Sl Int)) Empty):=
 br (decide (k9<(len J)))
 ((idx J k9).bind λu=>
 (gE B u).bind λw=>
 some (.n (w,IntKind.wrap .i64 (k9+1))))
 (some (.x B))
def W3 (B G D:Sl (Sl Int)) (O:Int) (U:Sl (Sl Int)) (k9:Int) (J:Trace):Option (Fw ((Sl (Sl Int))×Int) (Sl (Sl Int)) Empty):=
 (bR (λq:(Sl (Sl Int))×Int=>dH B G O U J q.1 q.2) (D,k9)).bind (Fw.elim
 (λe=>some (.n (e,IntKind.wrap .i64 (O+1))))
 (λe=>Empty.elim e))
def bX (B G:Sl (Sl Int)) (J:Trace) (D:Sl (Sl Int)) (O:Int):Option (Fw ((Sl (Sl Int))×Int) (Sl (Sl Int)) Empty):=
 br (decide (O<(len B)))
 ((idx B O).bind λu=>
 (iV J u).bind λw=>
 W3 B G D O w 0 J)
 (some (.x D))
def W2 (B D G:Sl (Sl Int)) (O:Int) (J:Trace):Option (Fw ((Sl (Sl Int))×(Sl (Sl Int))) (Sl (Sl Int)) Unit):=
 (bR (λq:(Sl (Sl Int))×Int=>bX B D J q.1 q.2) (G,O)).bind (Fw.elim
 (λe=>some (.n (e,D)))
 (λe=>Empty.elim e))
def bt (G:Trace) (B D:Sl (Sl Int)):Option (Fw ((Sl (Sl Int))×(Sl (Sl Int))) (Sl (Sl Int)) Unit):=
 br (decide ((len B)>0))
 ((nH D B).bind λu=>
 br (decide ((len u)>5000))
 (some (.r ()))
 (W2 B u (Sl.nil:Sl (Sl Int)) 0 G))
 (some (.x D))
def W1 (B D:Sl (Sl Int)) (G:Trace):Option ((Sl (Sl Int))×Bool):=
 (bR (λq:(Sl (Sl Int))×(Sl (Sl Int))=>bt G q.1 q.2) (B,D)).bind (Fw.elim
 (λe=>some (e,true))
 (λe=>some ((Sl.nil:Sl (Sl Int)),false)))
end dP
def dP (B:Trace):Option ((Sl (Sl Int))×Bool):=
 (mP (len B.procs) (0:Int)).bind λu=>
 dP.W1 (Sl.row [u]:Sl (Sl Int)) (Sl.nil:Sl (Sl Int)) B
open dP in
instance S5 (B:Trace):Fc Sy cL (dP B):=Fc.N 18 [enc B] (dR 2 1 B (bU 8 B.procs (I4 0 13 λL _=>u6 1 14 ([L]:List (Sl Int)) (dW 13 (λu=>(bF [Pv 1,Cv 4 u.1,Ov 5] [Xb 1 B,Lb 2005 u.2])) (λC=>(0,(bF [Ov 5] [Lb 2005 C]))) (λC=>(bF [Ov 2,Bv 3 false] [Lb 2002 (Sl.nil:Sl (Sl Int))])) (λu=>bU 7 u.1 (bD 3 17 (xh 8 2005 20 λw _=>Ck 7 20 w (bD 3 23 bg (fJ 18 (λz=>(bF [Pv 1,Cv 4 u.1,Ov 5,Cv 6 z.1,Iv 7 z.2] [Xb 1 B,Lb 2005 w])) (λG=>(2,(bF [Pv 1,Ov 5,Cv 6 G] [Xb 1 B,Lb 2005 w]))) (λz=>bU 8 u.1 (bD 3 27 (b9 10 λO _=>bN 1 λI _=>fJ 12 (λD=>(bF [Pv 1,Cv 4 u.1,Ov 5,Cv 6 D.1,Iv 7 z.2,Cv 8 I,Iv 9 D.2] [Xb 1 B,Lb 2005 w])) (λJ=>(4,(bF [Pv 1,Cv 4 u.1,Ov 5,Cv 6 J,Iv 7 z.2] [Xb 1 B,Lb 2005 w]))) (λD=>bU 8 I (bD 3 39 (b9 9 λQ _=>bN 1 λS _=>bg) bg)) (λJ=>bg)) bg)) (λG=>bg)))) bg)) (λC=>bg) (λC=>bg)))))
def vq (B:Trace):Option Bool:=
 (dP B).bind λu=>
 (br u.2
 (some (decide ((len u.1)<=400)))
 (some false):Option Bool).bind λw=>
 some w
instance Rj (B:Trace):Fc Sy cL (vq B):=Fc.M 9 [enc B] (dR 2 1 B (bN 6 λu _=>cB 11 4 [3,11] 15 (bD 11 11 (bU 1 u.1 (bH 2)) (bH 4)) λw=>bg))
def mU (G D B:Int):Option Bool:=
 (br (decide (G>=D))
 (some (decide (G<=B)))
 (some false):Option Bool).bind λu=>
 some u
instance Ve (G D B:Int):Fc Sy cL (mU G D B):=Fc.M 86 [.int .i64 G,.int .i64 D,.int .i64 B] (cB 11 4 [0,2,10] 14 (bD 11 10 (bH 4) (bH 4)) λu=>bg)
def o_ (B:Int):Option Bool:=
 (br (decide (B>=97))
 (some (decide (B<=122)))
 (some false):Option Bool).bind λu=>
 (br u
 (some true)
 ((br (decide (B>=65))
 (some (decide (B<=90)))
 (some false):Option Bool).bind λw=>
 some w):Option Bool).bind λz=>
 some z
instance Rx (B:Int):Fc Sy cL (o_ B):=Fc.M 124 [.int .u8 B] (cB 10 3 [5] 8 (bD 10 5 (bH 3) (bH 3)) λu=>cB 1 7 [0,9] 16 (bD 1 9 (bH 7) (cB 3 3 [0,12] 15 (bD 3 12 (bH 3) (bH 3)) λw=>bH 1)) λz=>bg)
def tH (B:Int):Option Bool:=
 (br (decide (B>=48))
 (some (decide (B<=57)))
 (some false):Option Bool).bind λu=>
 some u
instance SO (B:Int):Fc Sy cL (tH B):=Fc.M 125 [.int .u8 B] (cB 10 3 [0,5] 8 (bD 10 5 (bH 3) (bH 3)) λu=>bg)
namespace fV
def bt (D:ByteArray) (G:Int) (B:Int):Option (Fw Int Unit Unit):=
 br (decide (B<G))
 ((kK D B).bind λz=>
 (o_ z).bind λC=>
 (br C
 (some false)
 ((kK D B).bind λI=>
 (tH I).bind λJ=>
 some (!J)):Option Bool).bind λL=>
 (br L
 ((kK D B).bind λu=>
 some (!(u==95)))
 (some false):Option Bool).bind λw=>
 br w
 (some (.r ()))
 (some (.n (IntKind.wrap .i64 (B+1)))))
 (some (.x ()))
def W1 (G:ByteArray) (B D:Int):Option Bool:=
 (bR (λq:Int=>bt G B q) D).bind (Fw.elim
 (λe=>some true)
 (λe=>some false))
end fV
def fV (B:ByteArray):Option Bool:=
 (br (ByteArray.toList B==ByteArray.toList ByteArray.empty)
 (some true)
 (some (decide (((ByteArray.size B:Nat):Int)>16))):Option Bool).bind λu=>
 (br u
 (some true)
 ((kK B 0).bind λw=>
 (o_ w).bind λz=>
 some (!z)):Option Bool).bind λC=>
 br C
 (some false)
 (fV.W1 B ((ByteArray.size B:Nat):Int) 0)
open fV in
instance R2 (B:ByteArray):Fc Sy cL (fV B):=Fc.M 100 [.str B] (cB 11 4 [6] 10 (bD 11 6 (bH 4) (bH 4)) λD=>cB 1 5 [11] 16 (bD 1 11 (bH 5) (zD 1 .i64 λG _=>bN 0 λI _=>bH 2)) λJ=>bD 2 16 bg (dW 13 (λw=>(bF [(0,.v (.str B)),Iv 18 ((ByteArray.size B:Nat):Int),Iv 19 w] [])) (λu=>(0,(bF [] []))) (λu=>(bF [Bv 2 false] [])) (λw=>bD 7 20 (zD 15 .i64 λL _=>bN 0 λO _=>cB 2 6 [27] 33 (eC 2 27 (bH 6) (zD 2 .i64 λQ _=>bN 0 λS _=>bH 2)) λT=>cB 1 5 [3,34] 39 (bD 1 34 (zD 2 .i64 λz _=>bH 2) (bH 5)) λC=>bD 2 39 bg bg) bg) (λu=>bg) (λu=>bg)))
def jr (B D:cu):Option Bool:=
 some (ByteArray.toList B.name==ByteArray.toList D.name)
instance HN (B D:cu):Fc Sy cL (jr B D):=Fc.M 102 [enc B,.fptr (cells D)] (dR 2 2 B bg)
namespace gj
def bt (D:Sl cu) (G:Int) (B:Int) (p1:cu->Option Bool):Option (Fw Int Unit Int):=
 br (decide (B<G))
 ((idx D B).bind λu=>
 (p1 u).bind λw=>
 br w
 (some (.r B))
 (some (.n (IntKind.wrap .i64 (B+1)))))
 (some (.x ()))
def W1 (B:Sl cu) (D G:Int) (p1:cu->Option Bool):Option Int:=
 (bR (λq:Int=>bt B D q p1) G).bind (Fw.elim
 (λe=>some (-1))
 (λe=>some e))
end gj
def gj (B:Sl cu) (p1:cu->Option Bool):Option Int:=
 gj.W1 B (len B) 0 p1
open gj in
abbrev vv (g1:FuncId) (e1:List V) (p1:cu->Option Bool) (h1:nN Sy cL g1 [] e1 (λz:cu=>[enc z]) (λr:Bool=>[.bool r]) p1 true) (B:Sl cu):Fc Sy cL (gj B p1):=Fc.M 126 [enc B,.clo g1 [] e1] (bU 9 B (dW 5 (λw=>(bF [Cv 0 B,(1,.v (.clo g1 [] e1)),Iv 7 (len B),Iv 8 w] [])) (λu=>(0,(bF [] []))) (λu=>(bF [Iv 4 u] [])) (λw=>bD 7 9 (b9 16 λC _=>xZ 1 h1.f C λD _=>bD 2 16 bg bg) bg) (λu=>bg) (λu=>bg)))
def hU (B:Sl cu) (p1:cu->Option Bool):Option Bool:=
 (gj B p1).bind λu=>
 some (decide (u>=0))
abbrev um (g1:FuncId) (e1:List V) (p1:cu->Option Bool) (h1:nN Sy cL g1 [] e1 (λz:cu=>[enc z]) (λr:Bool=>[.bool r]) p1 true) (B:Sl cu):Fc Sy cL (hU B p1):=Fc.M 101 [enc B,.clo g1 [] e1] (bN (F:=vv g1 e1 p1 h1 B) 9 λu _=>bg)
def ji (B D:Var):Option Bool:=
 some (ByteArray.toList B.name==ByteArray.toList D.name)
instance HP (B D:Var):Fc Sy cL (ji B D):=Fc.M 103 [enc B,.fptr (cells D)] (bg)
namespace eO
def bt (D:Sl Var) (G:Int) (J:cu) (B:Int):Option (Fw Int Unit Int):=
 br (decide (B<G))
 ((idx D B).bind λu=>
 (fV u.name).bind λI=>
 (br I
 ((fS J.vars none (some B)).bind λL=>
 (gx L (λz=>ji z u)).bind λO=>
 some O)
 (some true):Option Bool).bind λw=>
 br w
 (some (.r 13))
 ((mU u.init_ (-1073741824) 1073741824).bind λC=>
 br C
 (some (.n (IntKind.wrap .i64 (B+1))))
 (some (.r 2))))
 (some (.x ()))
def W1 (D:Sl Var) (G J:Int) (B:cu):Option Int:=
 (bR (λq:Int=>bt D G B q) J).bind (Fw.elim
 (λe=>br (decide ((len B.events)>64))
 (some 5)
 (some 0))
 (λe=>some e))
end eO
def eO (G:Trace) (p1:Int):Option Int:=
 (idx G.procs p1).bind λu=>
 (fV u.name).bind λw=>
 (br w
 ((fS G.procs none (some p1)).bind λB=>
 (hU B (λz=>jr z u)).bind λC=>
 some C)
 (some true):Option Bool).bind λD=>
 br D
 (some 13)
 (br (decide ((len u.vars)>8))
 (some 5)
 (eO.W1 u.vars (len u.vars) 0 u))
open eO in
instance Kk (D:Trace) (p1:Int):Fc Sy cL (eO D p1):=Fc.M 87 [enc D,.int .i64 p1] (dR 2 2 D (b9 8 λu _=>nK 2 5 0 u (bN 8 λO _=>cB 2 7 [1,2,18] 25 (eC 2 18 (BN 3 false true [.int .i64 p1] λG _=>gW (F:=um 102 [.fptr (cells u)] (λz=>jr z u) nN.tT G) 1 λQ _=>bH 1) (bH 7)) λS=>bD 3 13 bg (bU 5 u.vars (bD 4 26 bg (bU 9 u.vars (dW 5 (λB=>(bF [Pv 5,Cv 32 u.vars,Iv 33 (len u.vars),Iv 34 B] [Xb 5 u])) (λw=>(1,(bF [Pv 5] [Xb 5 u]))) (λw=>(bF [Iv 4 w] [])) (λB=>bD 7 35 (b9 8 λC _=>bN 11 λT _=>cB 2 7 [6,44] 51 (eC 2 44 (BN 3 false true [.int .i64 B] λI _=>gW (F:=oR 103 [.fptr (cells C)] (λz=>ji z C) nN.tT I) 1 λU _=>bH 1) (bH 7)) λJ=>bD 3 39 bg (bN 5 λL _=>eC 4 52 bg bg)) bg) (λw=>bU 7 u.events (bD 3 61 bg bg)) (λw=>bg))))))))
def jE (B:Trace):Option Trace:=
 some B
instance R4 (B:Trace):Fc Sy cL (jE B):=Fc.NE (λr:Trace=>[(.clo 104 [] [.fptr (cells r)])]) 88 [enc B] (dR 2 1 B bg)
namespace iy
def J1 (p1:Int) (D:Bool) (G:Trace) (B:Event):Option Bool:=
 br D
 ((mU B.peer 0 (IntKind.wrap .i64 ((len G.procs)-1))).bind λu=>
 (br u
 (some (!(B.peer==p1)))
 (some false):Option Bool).bind λw=>
 (br w
 ((mU B.message 0 199).bind λz=>
 some z)
 (some false):Option Bool).bind λC=>
 some C)
 (some false)
end iy
def iy (B:Trace) (p1:Int) (e2:Event):Option Bool:=
 br (e2.kind==1)
 ((br (e2.peer==0)
 (some (e2.message==0))
 (some false):Option Bool).bind λu=>
 some u)
 (br (e2.kind==2)
 (iy.J1 p1 true B e2)
 (iy.J1 p1 (e2.kind==3) B e2))
open iy in
instance RL (B:Trace) (p1:Int) (e2:Event):Fc Sy cL (iy B p1 e2):=Fc.M 105 [enc B,.int .i64 p1,enc e2] (dR 2 3 B (dR 0 5 e2 (bD 17 9 (cB 7 4 [5,14] 18 (bD 7 14 (bH 4) (bH 4)) λD=>bg) (bD 8 19 (wu 4 (bD 0 19 (bU 7 B.procs (bN 1 λu _=>cB 1 5 [1,29] 34 (bD 1 29 (bH 5) (bH 5)) λw=>cB 1 4 [5,35] 39 (bD 1 35 (bN 2 λz _=>bH 1) (bH 4)) λC=>bg)) bg)) (wu 7 (bD 0 19 (bU 7 B.procs (bN 1 λu _=>cB 1 5 [1,29] 34 (bD 1 29 (bH 5) (bH 5)) λw=>cB 1 4 [5,35] 39 (bD 1 35 (bN 2 λz _=>bH 1) (bH 4)) λC=>bg)) bg))))))
def jZ (B D:Assign):Option Bool:=
 some (B.var==D.var)
instance IB (B D:Assign):Fc Sy cL (jZ B D):=Fc.M 107 [enc B,.fptr (cells D)] (bg)
namespace fm
def bt (D:Sl Assign) (G:Int) (B:Int) (p1:Assign->Option Bool):Option (Fw Int Unit Int):=
 br (decide (B<G))
 ((idx D B).bind λu=>
 (p1 u).bind λw=>
 br w
 (some (.r B))
 (some (.n (IntKind.wrap .i64 (B+1)))))
 (some (.x ()))
def W1 (B:Sl Assign) (D G:Int) (p1:Assign->Option Bool):Option Int:=
 (bR (λq:Int=>bt B D q p1) G).bind (Fw.elim
 (λe=>some (-1))
 (λe=>some e))
end fm
def fm (B:Sl Assign) (p1:Assign->Option Bool):Option Int:=
 fm.W1 B (len B) 0 p1
open fm in
abbrev uK (g1:FuncId) (e1:List V) (p1:Assign->Option Bool) (h1:nN Sy cL g1 [] e1 (λz:Assign=>[enc z]) (λr:Bool=>[.bool r]) p1 true) (B:Sl Assign):Fc Sy cL (fm B p1):=Fc.M 127 [enc B,.clo g1 [] e1] (bU 9 B (dW 5 (λw=>(bF [Cv 0 B,(1,.v (.clo g1 [] e1)),Iv 7 (len B),Iv 8 w] [])) (λu=>(0,(bF [] []))) (λu=>(bF [Iv 4 u] [])) (λw=>bD 7 9 (b9 16 λC _=>xZ 1 h1.f C λD _=>bD 2 16 bg bg) bg) (λu=>bg) (λu=>bg)))
def gF (B:Sl Assign) (p1:Assign->Option Bool):Option Bool:=
 (fm B p1).bind λu=>
 some (decide (u>=0))
abbrev sE (g1:FuncId) (e1:List V) (p1:Assign->Option Bool) (h1:nN Sy cL g1 [] e1 (λz:Assign=>[enc z]) (λr:Bool=>[.bool r]) p1 true) (B:Sl Assign):Fc Sy cL (gF B p1):=Fc.M 106 [enc B,.clo g1 [] e1] (bN (F:=uK g1 e1 p1 h1 B) 9 λu _=>bg)
namespace dI
def bX (D:Sl Assign) (G:Int) (J:Event) (O:cu) (B:Int):Option (Fw Int Unit Int):=
 br (decide (B<G))
 ((idx D B).bind λu=>
 (mU u.var 0 (IntKind.wrap .i64 ((len O.vars)-1))).bind λI=>
 (br I
 ((mU u.value (-1073741824) 1073741824).bind λL=>
 some (!L))
 (some true):Option Bool).bind λQ=>
 br Q
 (some (.r 2))
 ((fS J.assign none (some B)).bind λw=>
 (gF w (λz=>jZ z u)).bind λC=>
 br C
 (some (.r 8))
 (some (.n (IntKind.wrap .i64 (B+1))))))
 (some (.x ()))
def W2 (B:Sl Assign) (D G:Int) (J:Event) (O:cu):Option Int:=
 (bR (λq:Int=>bX B D J O q) G).bind (Fw.elim
 (λe=>some 0)
 (λe=>some e))
def J1 (D:Int) (J:Trace) (G:aZ) (B:Event) (O:cu):Option Int:=
 (iy J G.proc B).bind λu=>
 br u
 ((mU B.time 0 1099511627776).bind λw=>
 (br w
 (some (decide (B.time<D)))
 (some true):Option Bool).bind λz=>
 br z
 (some 11)
 (br (decide ((len B.assign)>8))
 (some 5)
 (dI.W2 B.assign (len B.assign) 0 B O)))
 (some 3)
theorem vR (D:Int) (O:Trace) (J:aZ) (B:Event) (G:cu):Le ((J1 D O J B G).bind (λr=>some [.int .i64 r])) (ct Sy cL (qU (tr Tx 89)) (uf (tb Tx 89) [1,1,1,1,0] [] (bF [Pv 3,Pv 4,Pv 5,Pv 7,Iv 8 D] [Xb 3 O,Xb 4 J,Xb 5 B,Xb 7 G]))):=
 bN 8 λQ _=>eC 4 28 (bN 5 λS _=>cB 2 5 [8,40] 45 (eC 2 40 (bH 5) (bH 5)) λT=>bD 3 35 bg (bU 5 B.assign (bD 4 46 bg (bU 9 B.assign (dW 5 (λw=>(bF [Pv 5,Pv 7,Cv 52 B.assign,Iv 53 (len B.assign),Iv 54 w] [Xb 5 B,Xb 7 G])) (λu=>(1,(bF [] []))) (λu=>(bF [Iv 6 u] [])) (λw=>bD 7 55 (b9 8 λC _=>bU 13 G.vars (bN 1 λU _=>cB 2 5 [68] 73 (eC 2 68 (bN 2 λW _=>bH 2) (bH 5)) λX=>bD 3 59 bg (BN 6 false true [.int .i64 w] λI _=>gW (F:=sE 107 [.fptr (cells C)] (λz=>jZ z C) nN.tT I) 1 λL _=>bD 3 74 bg bg))) bg) (λu=>bg) (λu=>bg)))))) bg
end dI
def dI (D:Trace) (B:aZ) (e2:Event):Option Int:=
 (idx D.procs B.proc).bind λu=>
 br (decide (B.index>1))
 ((idx u.events (IntKind.wrap .i64 (B.index-2))).bind λw=>
 dI.J1 w.time D B e2 u)
 (dI.J1 0 D B e2 u)
open dI in
instance LL (D:Trace) (B:aZ) (e2:Event):Fc Sy cL (dI D B e2):=Fc.M 89 [enc D,enc B,enc e2] (dR 2 3 D (dR 1 5 e2 (b9 9 λu _=>nK 2 7 0 u (bD 15 19 (b9 7 λw _=>DO 6 (vR w.time D B e2 u)) (DO 4 (vR 0 D B e2 u))))))
def qd (e0:Event) (B D:Int):Option Bool:=
 (br (e0.kind==2)
 (some (e0.message==B))
 (some false):Option Bool).bind λu=>
 (br u
 (some (e0.peer==D))
 (some false):Option Bool).bind λw=>
 some w
instance Oq (e0:Event) (B D:Int):Fc Sy cL (qd e0 B D):=Fc.M 128 [enc e0,.fptr (cells B),.fptr (cells D)] (dR 2 3 e0 (cB 9 5 [1,8] 13 (bD 9 8 (bH 5) (bH 5)) λu=>cB 1 5 [2,3,14] 19 (bD 1 14 (bH 5) (bH 5)) λw=>bg))
def tE (D:Trace) (p1 G B:Int):Option Bool:=
 (idx D.procs p1).bind λu=>
 (gP u.events (λz=>qd z G B)).bind λw=>
 some w
instance SN (G:Trace) (p1 D B:Int):Fc Sy cL (tE G p1 D B):=Fc.M 108 [enc G,.int .i64 p1,.int .i64 D,.int .i64 B] (dR 2 4 G (b9 10 λu _=>gW (F:=nP 128 [.fptr (cells D),.fptr (cells B)] (λz=>qd z D B) nN.tT u.events) 3 λw _=>bg))
namespace eN
def s8 (D G:Trace) (J:Option (bW 200 bC)) (O:aZ) (U:Int) (x:aZ×Event) (B:bW 200 bC):Option (Fw (bW 200 bC) Empty (aZ×Int×(bW 200 bC))):=
 br (x.2.kind==2)
 ((bW.at B x.2.message).bind λu=>
 br (decide (u.from_.index>0))
 (some (.r (x.1,8,B)))
 ((bW.at B x.2.message).bind λw=>
 some (.n (bW.set B x.2.message (⟨x.1,w.to_⟩:bC)))))
 (br (x.2.kind==3)
 ((bW.at B x.2.message).bind λz=>
 br (decide (z.to_.index>0))
 (some (.r (x.1,8,B)))
 ((tE G x.2.peer x.2.message x.1.proc).bind λC=>
 br C
 ((bW.at B x.2.message).bind λI=>
 some (.n (bW.set B x.2.message (⟨I.from_,x.1⟩:bC))))
 (some (.r (x.1,7,B)))))
 (some (.n B)))
def E1 (B G:Trace) (J:Option (bW 200 bC)) (O:aZ) (U:Int) (D:bW 200 bC):Option ((Option (bW 200 bC))×aZ×Int):=
 (iY B).bind λu=>(nT (λ(x:aZ×Event) (q:bW 200 bC)=>s8 B G J O U x q) u D).bind (Fw.vL
 (λq=>some (some q,⟨0,0⟩,0))
 (λe=>Empty.elim e)
 (λe=>some ((none:Option (bW 200 bC)),e.1,e.2.1)))
end eN
def eN (B:Trace):Option ((Option (bW 200 bC))×aZ×Int):=
 (jE B).bind λu=>
 eN.E1 u B (none:Option (bW 200 bC)) (⟨0,0⟩:aZ) 0 (bW.EN 200 (⟨⟨0,0⟩,⟨0,0⟩⟩:bC))
open eN in
instance KN (D:Trace):Fc Sy cL (eN D):=Fc.N 90 [enc D] (dR 2 1 D (dR 8 10 (bW.EN 200 (⟨⟨0,0⟩,⟨0,0⟩⟩:bC)) (Uk 0 5 (bF [Pv 1,Pv 2,Pv 3,Pv 4,Pv 10] [Xb 1 D,(2,.box [cv (none:Option (bW 200 bC))]),Xb 3 (⟨0,0⟩:aZ),(4,.box [iv 0]),Xb 10 (bW.EN 200 (⟨⟨0,0⟩,⟨0,0⟩⟩:bC))]) [cv (none:Option (bW 200 bC))] (by simp only[bF,wW,pW,q9,pT,qY,sL,rq,sO,pQ,rE,wZ,sP,s6,sN,sS,uW,uS,q_,s_];rfl) (bN 7 λB _=>JR λO C=>Fz 4 [Pv 1,Pv 2,Pv 3,Pv 4,Pv 5,(12,.v (.clo 104 [] [.fptr (cells B)]))] (λw=>[Xb 1 D,(2,.box [cv (none:Option (bW 200 bC))]),Xb 3 (⟨0,0⟩:aZ),(4,.box [iv 0]),(5,.box [.ptr 10 0]),Xb 10 w]) (λz=>Empty.elim z) (λz=>[Xb 1 D,(2,.box [cv (none:Option (bW 200 bC))]),Xb 3 z.1,(4,.box [iv z.2.1]),(5,.box [.ptr 10 0]),Xb 10 z.2.2]) (xB B O C) (λu w=>Uk 2 6 ⟨[Pv 1,Pv 2,Pv 3,Pv 4,Pv 5,(12,.v (.clo 104 [] [.fptr (cells B)])),Cv 13 u.1,Cv 14 u.2],[Xb 1 D,(2,.box [cv (none:Option (bW 200 bC))]),Xb 3 (⟨0,0⟩:aZ),(4,.box [iv 0]),(5,.box [.ptr 10 0]),Xb 10 w],[1,2,3,4,5],[],true,0⟩ [iv 0,iv 0] (by simp only[bF,wW,pW,q9,pT,qY,sL,rq,sO,pQ,rE,wZ,sP,s6,sN,sS,uW,uS,q_,s_];rfl) (Uk 4 7 ⟨[Pv 1,Pv 2,Pv 3,Pv 4,Pv 5,(12,.v (.clo 104 [] [.fptr (cells B)])),Cv 14 u.2,Pv 6],[Xb 1 D,(2,.box [cv (none:Option (bW 200 bC))]),Xb 3 (⟨0,0⟩:aZ),(4,.box [iv 0]),(5,.box [.ptr 10 0]),Xb 10 w,Xb 6 u.1],[1,2,3,4,5],[],true,0⟩ [iv 0,iv 0,iv 0,iv 0,.v .bK] (by simp only[bF,wW,pW,q9,pT,qY,sL,rq,sO,pQ,rE,wZ,sP,s6,sN,sS,uW,uS,q_,s_];rfl) (nK 0 7 0 u.2 (CT 1 (bD 22 19 (Aj 7 .i64 10 λG Q=>J_ 2 1 false 10 w u.2.message 1 G Q (.int .i64 G.from_.index) (by rfl) (bD 3 28 bg (Aj 8 .i64 10 λI S=>Qf 1 10 w u.2.message 0 I S (⟨u.1,I.to_⟩:bC) u.1 rfl bg))) (bD 7 36 (Aj 7 .i64 10 λJ T=>J_ 2 1 false 10 w u.2.message 3 J T (.int .i64 J.to_.index) (by rfl) (bD 3 45 bg (bN 12 λW _=>eC 3 54 (Aj 8 .i64 10 λL U=>Qf 1 10 w u.2.message 2 L U (⟨L.from_,u.1⟩:bC) u.1 rfl bg) bg))) bg)))))) (λw=>VF 13 (bF [Pv 2,Pv 3,Pv 4] [(2,.box [.ptr 10 0]),Xb 3 (⟨0,0⟩:aZ),(4,.box [iv 0]),Xb 10 w]) [.ptr 10 0,cv (⟨0,0⟩:aZ),iv 0] (Sv (d:=10) (x:=w) (vs:=[enc (⟨0,0⟩:aZ),.int .i64 0]) Ze) Ze) (λx=>Empty.elim x) (λz=>bg)))))
namespace iT
def J1 (D:bW 200 bC) (B:Sl aZ) (J:Sl Event) (G:aZ):Option (Sl aZ):=
 (idx J (IntKind.wrap .i64 (G.index-1))).bind λu=>
 (br (u.kind==2)
 ((bW.at D u.message).bind λw=>
 some (decide (w.to_.index>0)))
 (some false):Option Bool).bind λz=>
 br z
 ((bW.at D u.message).bind λC=>
 (gw B (C.to_:aZ)).bind λI=>
 some I)
 (some B)
theorem vR (B:bW 200 bC) (D:Sl aZ) (J:Sl Event) (G:aZ):Le ((J1 B D J G).bind (λr=>some [enc r])) (ct Sy cL (qU (tr Tx 109)) (uf (tb Tx 109) [1,1,1,1,0,0] [] (bF [Kv 1 B,Pv 5,Ov 7,Cv 8 J] [Xb 5 G,Lb 2007 D]))):=
 b9 7 λu _=>nK 2 9 0 u (cB 8 10 [40] 50 (bD 8 40 (PT 4 .i64 λw z=>NK 0 2 B u.message 0 w z (NK 0 1 B u.message 2 w z (Qb 0 1 false B u.message 3 w z (.int .i64 w.to_.index) (by rfl) (bH 2)))) (bH 10)) λL=>bD 2 50 (PT 7 .i64 λC I=>NK 0 2 B u.message 0 C I (Qb 0 2 true B u.message 2 C I (enc C.to_) (by rfl) (mm 1 2007 59 60 λO _=>bg))) bg)
end iT
def iT (D:Trace) (B:bW 200 bC) (x2:aZ):Option (Sl aZ):=
 (idx D.procs x2.proc).bind λu=>
 br (decide (x2.index<(len u.events)))
 (iT.J1 B (Sl.row [⟨x2.proc,IntKind.wrap .i64 (x2.index+1)⟩]:Sl aZ) u.events x2)
 (iT.J1 B (Sl.nil:Sl aZ) u.events x2)
open iT in
instance SM (D:Trace) (B:bW 200 bC) (x2:aZ):Fc Sy cL (iT D B x2):=Fc.N 109 [enc D,.fptr (cells B),enc x2] (dR 2 3 D (b9 15 λu _=>bU 11 u.events (bD 3 21 (QL 10 29 30 .bK (⟨x2.proc,IntKind.wrap .i64 (x2.index+1)⟩:aZ) (DO 5 (vR B (Sl.row [⟨x2.proc,IntKind.wrap .i64 (x2.index+1)⟩]:Sl aZ) u.events x2))) (DO 5 (vR B (Sl.nil:Sl aZ) u.events x2)))))
namespace iu
def dH (O:Trace) (U:Sl aZ) (W:Int) (Y:Trace) (aa:bW 200 bC) (ab:aZ) (ad:Bool) (J:aZ) (B:Sl aZ) (G:Int) (D:Mo aZ Bool):Option (Fw ((Sl aZ)×Int×(Mo aZ Bool)) ((Sl aZ)×(Mo aZ Bool)) Unit):=
 br (decide (G<W))
 ((idx U G).bind λu=>
 br (I6 u J)
 (some (.r ()))
 (br (iZ D u false)
 (some (.n (B,IntKind.wrap .i64 (G+1),D)))
 ((gw B (u:aZ)).bind λw=>
 some (.n (w,IntKind.wrap .i64 (G+1),kS D u true)))))
 (some (.x (B,D)))
def W3 (D:Sl aZ) (B:Trace) (O:Sl aZ) (U W:Int) (Y:Trace) (aa:bW 200 bC) (ab:aZ) (ad:Bool) (G:aZ) (J:Mo aZ Bool):Option (Fw ((Sl aZ)×(Mo aZ Bool)) Unit Unit):=
 (bR (λq:(Sl aZ)×Int×(Mo aZ Bool)=>dH B O U Y aa ab ad G q.1 q.2.1 q.2.2) (D,W,J)).bind (Fw.elim
 (λe=>some (.n (e.1,e.2)))
 (λe=>some (.r ())))
def bX (D G:Trace) (J:bW 200 bC) (W:aZ) (Y:Bool) (O:aZ) (B:Sl aZ) (U:Mo aZ Bool):Option (Fw ((Sl aZ)×(Mo aZ Bool)) Unit Unit):=
 br (decide ((len B)>0))
 ((Sl.mj B (IntKind.wrap .i64 ((len B)-1))).bind λw=>
 (Sl.get B w).bind λz=>
 (oh B none (some (IntKind.wrap .i64 ((len B)-1)))).bind λC=>
 (iT G J z).bind λu=>
 W3 C D u (len u) 0 G J W Y O U)
 (some (.x ()))
def W2 (G:Sl aZ) (B O:Trace) (U:bW 200 bC) (W:aZ) (Y:Bool) (D:aZ) (J:Mo aZ Bool):Option (Fw Unit Empty aZ):=
 (bR (λq:(Sl aZ)×(Mo aZ Bool)=>bX B O U W Y D q.1 q.2) (G,J)).bind (Fw.elim
 (λe=>some (.n ()))
 (λe=>some (.r D)))
def s8 (B D:Trace) (G:bW 200 bC) (J:aZ) (O:Bool) (x:aZ×Event):Option (Fw Unit Empty aZ):=
 W2 (Sl.row [x.1]:Sl aZ) B D G J O x.1 []
def E1 (B D:Trace) (G:bW 200 bC) (J:aZ) (O:Bool):Option (aZ×Bool):=
 (iY B).bind λu=>(nT (λ(x:aZ×Event) (q:Unit)=>s8 B D G J O x) u ()).bind (Fw.vL
 (λq=>some (⟨0,0⟩,false))
 (λe=>Empty.elim e)
 (λe=>some (e,true)))
end iu
def iu (B:Trace) (D:bW 200 bC):Option (aZ×Bool):=
 (jE B).bind λu=>
 iu.E1 u B D (⟨0,0⟩:aZ) false
open iu in
instance Q0 (B:Trace) (G:bW 200 bC):Fc Sy cL (iu B G):=Fc.M 91 [enc B,.fptr (cells G)] (dR 2 2 B (bN 9 λw _=>JR λU Q=>Fz 4 [Pv 2,Pv 3,Pv 4,Pv 5,(13,.v (.clo 104 [] [.fptr (cells w)]))] (λS=>[Xb 2 B,(3,.box [cp G]),Xb 4 (⟨0,0⟩:aZ),(5,.box [bv false])]) (λI=>Empty.elim I) (λI=>[Xb 2 B,(3,.box [cp G]),Xb 4 I,(5,.box [bv true])]) (xB w U Q) (λC S=>CT 4 (dW 18 (λu=>⟨[Pv 2,Pv 3,Pv 4,Pv 5,Pv 6,(7,.mp 16),Ov 8,(13,.v (.clo 104 [] [.fptr (cells w)]))],[Xb 2 B,(3,.box [cp G]),Xb 4 (⟨0,0⟩:aZ),(5,.box [bv false]),Xb 6 C.1,(16,iX u.2),Lb 2008 u.1],[2,3,4,5],[],true,0⟩) (λJ=>(2,⟨[Pv 2,Pv 3,Pv 4,Pv 5,(13,.v (.clo 104 [] [.fptr (cells w)]))],[Xb 2 B,(3,.box [cp G]),Xb 4 (⟨0,0⟩:aZ),(5,.box [bv false])],[2,3,4,5],[],true,0⟩)) (λJ=>⟨[],[Xb 2 B,(3,.box [cp G]),Xb 4 C.1,(5,.box [bv true])],[2,3,4,5],[],true,0⟩) (λu=>Ck 6 2008 u.1 (bD 3 21 (Ck 8 2008 u.1 (nF .i64 1 2008 λW _=>vl 0 2008 0 2 true (λL=>.agg [.int .i64 L.proc,.int .i64 L.index]) λL _=>Ck 8 2008 u.1 (VC 1 false true 2008 32 [.int .i64 (IntKind.wrap .i64 ((len u.1)-1))] λX _=>bN 8 λO _=>bU 0 O (dW 6 (λz=>⟨[Pv 2,Pv 3,Pv 4,Pv 5,Pv 6,(7,.mp 16),Ov 8,(13,.v (.clo 104 [] [.fptr (cells w)])),Cv 36 O,Iv 37 (len O),Iv 38 z.2.1],[Xb 2 B,(3,.box [cp G]),Xb 4 (⟨0,0⟩:aZ),(5,.box [bv false]),Xb 6 C.1,(16,iX z.2.2),Lb 2008 z.1],[2,3,4,5],[],true,0⟩) (λD=>(4,⟨[Pv 2,Pv 3,Pv 4,Pv 5,Pv 6,(7,.mp 16),Ov 8,(13,.v (.clo 104 [] [.fptr (cells w)]))],[Xb 2 B,(3,.box [cp G]),Xb 4 (⟨0,0⟩:aZ),(5,.box [bv false]),Xb 6 C.1,(16,iX D.2),Lb 2008 D.1],[2,3,4,5],[],true,0⟩)) (λD=>⟨[],[Xb 2 B,(3,.box [cp G]),Xb 4 C.1,(5,.box [bv true])],[2,3,4,5],[],true,0⟩) (λz=>bD 8 39 (b9 7 λT _=>bD 13 44 bg (Jm 7 16 z.2.2 T false (eC 3 49 bg (KD 5 16 z.2.2 T true (mm 6 2008 54 55 λY _=>bg))))) bg) (λD=>bg) (λD=>bg))))) bg)) (λJ=>bg) (λJ=>bg))) (λS=>bg) (λx=>Empty.elim x) (λI=>bg)))
namespace gM
def Jh (B D:Trace) (G:aZ) (J:Int) (x:aZ×Event):Option (Fw Unit Empty (aZ×Int)):=
 (dI D x.1 x.2).bind λu=>
 br (u==0)
 (some (.n ()))
 (some (.r (x.1,u)))
def E2 (B D:Trace) (G:aZ) (J:Int):Option (aZ×Int):=
 (iY B).bind λz=>(nT (λ(x:aZ×Event) (q:Unit)=>Jh B D G J x) z ()).bind (Fw.vL
 (λq=>(eN D).bind λu=>
 br (u.2.2==0)
 ((u.1).bind λC=>
 (iu D C).bind λw=>
 br w.2
 (some (w.1,10))
 (some (⟨0,0⟩,0)))
 (some (u.2.1,u.2.2)))
 (λe=>Empty.elim e)
 (λe=>some (e.1,e.2)))
def bt (D:Int) (G:Trace) (J:aZ) (O:Int) (B:Int):Option (Fw Int Unit (aZ×Int)):=
 br (decide (B<D))
 ((eO G B).bind λu=>
 br (u==0)
 (some (.n (IntKind.wrap .i64 (B+1))))
 (some (.r ((⟨B,0⟩:aZ),u))))
 (some (.x ()))
def W1 (J O:Int) (B:Trace) (D:aZ) (G:Int):Option (aZ×Int):=
 (bR (λq:Int=>bt J B D G q) O).bind (Fw.elim
 (λe=>(jE B).bind λu=>
 gM.E2 u B D G)
 (λe=>some (e.1,e.2)))
end gM
def gM (B:Trace):Option (aZ×Int):=
 (mU (len B.procs) 1 8).bind λu=>
 br u
 (gM.W1 (len B.procs) 0 B (⟨0,0⟩:aZ) 0)
 (some (⟨0,0⟩,1))
open gM in
instance SY (B:Trace):Fc Sy cL (gM B):=Fc.M 64 [enc B] (dR 2 1 B (bU 9 B.procs (bN 0 λO _=>eC 3 18 (bU 8 B.procs (dW 5 (λC=>(bF [Pv 1,Pv 2,Pv 3,Iv 22 (len B.procs),Iv 23 C] [Xb 1 B,Xb 2 (⟨0,0⟩:aZ),(3,.box [iv 0])])) (λu=>(0,(bF [Pv 1,Pv 2,Pv 3] [Xb 1 B,Xb 2 (⟨0,0⟩:aZ),(3,.box [iv 0])]))) (λu=>(bF [Pv 2,Pv 3] [Xb 2 u.1,(3,.box [iv u.2])])) (λC=>bD 7 24 (bN 15 λQ _=>eC 9 30 bg bg) bg) (λu=>bN 6 λz _=>JR λJ D=>Fz 4 [Pv 1,Pv 2,Pv 3,(36,.v (.clo 104 [] [.fptr (cells z)]))] (λG=>[Xb 1 B,Xb 2 (⟨0,0⟩:aZ),(3,.box [iv 0])]) (λw=>Empty.elim w) (λw=>[Xb 1 B,Xb 2 w.1,(3,.box [iv w.2])]) (xB z J D) (λL G=>nK 8 7 0 L.2 (CT 1 (bN 7 λS _=>eC 9 44 bg bg))) (λG=>bN 5 λI _=>eC 17 54 (Dj 8 (λT=>(bF [Pv 2,Pv 3,(36,.v (.clo 104 [] [.fptr (cells z)])),Pv 10,Iv 11 I.2.2,Bv 54 false,Cv 58 B,Cv 59 T] [Xb 1 B,Xb 2 (⟨0,0⟩:aZ),(3,.box [iv 0]),Xb 10 I.2.1])) λU _=>bN 0 λW _=>bD 13 63 bg bg) bg) (λx=>Empty.elim x) (λw=>bg)) (λu=>bg))) bg)))
def dO (B:Trace):Option Bool:=
 (gM B).bind λu=>
 some (u.2==0)
instance SU (B:Trace):Fc Sy cL (dO B):=Fc.M 43 [enc B] (dR 2 1 B (bN 6 λu _=>bg))
namespace kZ
def s8 (D:Trace) (B G:Int) (J:aZ) (O:Bool) (x:aZ×Event):Option (Fw Unit Empty aZ):=
 (br (x.2.kind==B)
 (some (x.2.message==G))
 (some false):Option Bool).bind λu=>
 br u
 (some (.r x.1))
 (some (.n ()))
def E1 (B:Trace) (D G:Int) (J:aZ) (O:Bool):Option (aZ×Bool):=
 (iY B).bind λu=>(nT (λ(x:aZ×Event) (q:Unit)=>s8 B D G J O x) u ()).bind (Fw.vL
 (λq=>some (⟨0,0⟩,false))
 (λe=>Empty.elim e)
 (λe=>some (e,true)))
end kZ
def kZ (D:Trace) (B G:Int):Option (aZ×Bool):=
 (dO D).bind λu=>
 br u
 ((jE D).bind λw=>
 kZ.E1 w B G (⟨0,0⟩:aZ) false)
 (some (⟨0,0⟩,false))
open kZ in
instance T3 (G:Trace) (B D:Int):Fc Sy cL (kZ G B D):=Fc.M 169 [enc G,.int .i64 B,.int .i64 D] (dR 2 3 G (bN 10 λL _=>eC 3 12 (bN 7 λw _=>JR λI z=>Fz 4 [Pv 4,Pv 5,Pv 6,Pv 7,(15,.v (.clo 104 [] [.fptr (cells w)]))] (λC=>[(4,.box [iv B]),(5,.box [iv D]),Xb 6 (⟨0,0⟩:aZ),(7,.box [bv false])]) (λu=>Empty.elim u) (λu=>[(4,.box [iv B]),(5,.box [iv D]),Xb 6 u,(7,.box [bv true])]) (xB w I z) (λJ C=>nK 8 9 0 J.2 (CT 1 (cB 9 5 [9,22] 27 (bD 9 22 (bH 5) (bH 5)) λO=>bD 2 27 bg bg))) (λC=>bg) (λx=>Empty.elim x) (λu=>bg)) bg))
def pG (B:Trace) (m1:Int):Option (aZ×Bool):=
 (kZ B 2 m1).bind λu=>
 some (u.1,u.2)
instance SI (B:Trace) (m1:Int):Fc Sy cL (pG B m1):=Fc.M 145 [enc B,.int .i64 m1] (dR 2 2 B (bN 8 λu _=>bg))
namespace jN
def J3 (B:Sl aZ) (U:Sl cu) (W Y:Int) (aa:Sl Event) (ab G:Int) (J:Trace) (ad O:cq) (ae:cu) (D:aZ):Option (Fw ((Sl aZ)×Int×Trace×cq×cq) ((Sl aZ)×Trace×cq) Empty):=
 (gw B (D:aZ)).bind λu=>
 some (.n (u,IntKind.wrap .i64 (G+1),J,(⟨Sl.nil,Sl.nil⟩:cq),O))
def bX (W:Sl cu) (Y aa:Int) (J:Sl Event) (O:Int) (ab:cu) (B:Sl aZ) (D:Int) (G:Trace) (ad U:cq):Option (Fw ((Sl aZ)×Int×Trace×cq×cq) ((Sl aZ)×Trace×cq) Empty):=
 br (decide (D<O))
 ((idx J D).bind λu=>
 br (u.kind==3)
 ((pG G u.message).bind λw=>
 J3 B W Y aa J O D G (⟨Sl.nil,Sl.nil⟩:cq) U ab w.1)
 (J3 B W Y aa J O D G (⟨Sl.nil,Sl.nil⟩:cq) U ab (⟨0,0⟩:aZ)))
 (some (.x (B,G,U)))
def W2 (B:Sl aZ) (J:Sl cu) (O D:Int) (U:Sl Event) (W Y:Int) (aa:Trace) (ab ad:cq) (G:cu):Option (Fw (Int×Trace×cq×cq) cq Empty):=
 (bR (λq:(Sl aZ)×Int×Trace×cq×cq=>bX J O D U W G q.1 q.2.1 q.2.2.1 q.2.2.2.1 q.2.2.2.2) (B,Y,aa,ab,ad)).bind (Fw.elim
 (λe=>(gw e.2.2.lengths (len G.events:Int)).bind λu=>
 (gw e.2.2.need (e.1:Sl aZ)).bind λw=>
 some (.n (IntKind.wrap .i64 (D+1),e.2.1,(⟨Sl.nil,Sl.nil⟩:cq),(⟨u,w⟩:cq))))
 (λe=>Empty.elim e))
def bt (D:Sl cu) (G:Int) (B:Int) (O:Trace) (U J:cq):Option (Fw (Int×Trace×cq×cq) cq Empty):=
 br (decide (B<G))
 ((idx D B).bind λu=>
 W2 (Sl.nil:Sl aZ) D G B u.events (len u.events) 0 O (⟨Sl.nil,Sl.nil⟩:cq) J u)
 (some (.x J))
def W1 (B:Sl cu) (D G:Int) (J:Trace) (O U:cq):Option cq:=
 (bR (λq:Int×Trace×cq×cq=>bt B D q.1 q.2.1 q.2.2.1 q.2.2.2) (G,J,O,U)).bind (Fw.elim
 (λe=>some e)
 (λe=>Empty.elim e))
end jN
def jN (B:Trace):Option cq:=
 jN.W1 B.procs (len B.procs) 0 B (⟨Sl.nil,Sl.nil⟩:cq) (⟨Sl.nil,Sl.nil⟩:cq)
open jN in
instance VI (D:Trace):Fc Sy cL (jN D):=Fc.N 122 [enc D] (dR 2 1 D (bU 13 D.procs (fJ 7 (λu=>(bF [Pv 1,Pv 2,Pv 3,Cv 11 D.procs,Iv 12 (len D.procs),Iv 13 u.1] [Xb 1 u.2.1,Xb 2 (⟨Sl.nil,Sl.nil⟩:cq),(3,.box [.own 4060,.own 4061]),Lb 4060 u.2.2.2.lengths,Lb 4061 u.2.2.2.need])) (λC=>(0,(bF [Pv 2,Pv 3] [Xb 2 (⟨Sl.nil,Sl.nil⟩:cq),(3,.box [.own 4060,.own 4061]),Lb 4060 C.lengths,Lb 4061 C.need]))) (λu=>bD 9 14 (b9 7 λw _=>nK 2 5 0 w (bU 12 w.events (fJ 8 (λz=>(bF [Pv 1,Pv 2,Pv 3,Pv 5,Ov 6,Cv 11 D.procs,Iv 12 (len D.procs),Iv 13 u.1,Cv 18 w.events,Iv 19 (len w.events),Iv 20 z.2.1] [Xb 1 z.2.2.1,Xb 2 (⟨Sl.nil,Sl.nil⟩:cq),(3,.box [.own 4060,.own 4061]),Xb 5 w,Lb 2006 z.1,Lb 4060 z.2.2.2.2.lengths,Lb 4061 z.2.2.2.2.need])) (λB=>(2,(bF [Pv 1,Pv 2,Pv 3,Pv 5,Ov 6,Cv 11 D.procs,Iv 12 (len D.procs),Iv 13 u.1] [Xb 1 B.2.1,Xb 2 (⟨Sl.nil,Sl.nil⟩:cq),(3,.box [.own 4060,.own 4061]),Xb 5 w,Lb 2006 B.1,Lb 4060 B.2.2.lengths,Lb 4061 B.2.2.need]))) (λz=>bD 10 21 (b9 7 λG _=>nK 2 8 0 G (bD 15 26 (bN 5 λJ _=>wu 10 (mm 4 2006 36 37 λI _=>bg)) (wu 7 (mm 4 2006 36 37 λI _=>bg)))) bg) (λB=>bU 8 w.events (mm 1 4060 44 45 λL _=>u6 9 50 ([B.1]:List (Sl aZ)) (mm 0 4061 50 51 λO _=>bg)))))) bg) (λC=>nK 7 2 0 C bg))))
def n_ (J:cq) (B:Sl Int) (p2:Int):Option Bool:=
 (idx B p2).bind λw=>
 (idx J.lengths p2).bind λz=>
 br (w==z)
 (some false)
 ((idx J.need p2).bind λC=>
 (idx B p2).bind λD=>
 (idx C D).bind λu=>
 (idx B u.proc).bind λG=>
 some (decide (u.index<=G)))
instance Mc (B:cq) (D:Sl Int) (p2:Int):Fc Sy cL (n_ B D p2):=Fc.M 146 [enc B,enc D,.int .i64 p2] (dR 2 3 B (b9 8 λu _=>b9 4 λw _=>bD 4 17 bg (b9 8 λz _=>b9 3 λC _=>b9 1 λG _=>b9 12 λI _=>bg)))
def ki (B:Sl Int):Option (Sl Int):=
 (Sl.isNil B).bind λu=>
 br u
 (some Sl.nil)
 ((nH (Sl.row []:Sl Int) B).bind λw=>
 some w)
theorem ny:yS Sy cL 37 (λB:Sl Int=>[enc B]) (λz=>ki z):=yS.mk' (rJ (Tx 37)) (λB=>Ul 9 λu _=>bD 2 4 bg (xh 7 5 7 λw _=>bg))
def qL (B:Int):Option Bool:=
 some (!(B==B))
instance Qz (B:Int):Fc Sy cL (qL B):=Fc.M 194 [.int .i64 B] (bg)
def oV (B D:Int):Option Int:=
 (qL B).bind λw=>
 (qL D).bind λu=>
 br w
 (br u
 (some 0)
 (some (-1)))
 (br u
 (some 1)
 (br (decide (B<D))
 (some (-1))
 (br (decide (B>D))
 (some 1)
 (some 0))))
instance Nq (B D:Int):Fc Sy cL (oV B D):=Fc.M 172 [.int .i64 B,.int .i64 D] (bN 8 λu _=>bN 6 λw _=>bD 9 11 (bD 7 12 bg bg) (bD 9 13 bg (bD 11 16 bg (bD 11 19 bg bg))))
namespace eV
def bt (J D O:Sl Int) (G:Int) (B:Int):Option (Fw Int Unit Int):=
 br (decide (B<G))
 ((idx O B).bind λw=>
 br (decide (B>=(len D)))
 (some (.r 1))
 ((idx D B).bind λz=>
 (oV w z).bind λu=>
 br (u==0)
 (some (.n (IntKind.wrap .i64 (B+1))))
 (some (.r u))))
 (some (.x ()))
def W1 (B D O:Sl Int) (G J:Int):Option Int:=
 (bR (λq:Int=>bt B D O G q) J).bind (Fw.elim
 (λe=>br (decide ((len B)<(len D)))
 (some (-1))
 (some 0))
 (λe=>some e))
end eV
def eV (B D:Sl Int):Option Int:=
 eV.W1 B D B (len B) 0
open eV in
instance JB (B D:Sl Int):Fc Sy cL (eV B D):=Fc.M 149 [enc B,enc D] (bU 9 B (dW 5 (λw=>(bF [Cv 0 B,Cv 1 D,Cv 9 B,Iv 10 (len B),Iv 11 w] [])) (λu=>(0,(bF [Cv 0 B,Cv 1 D] []))) (λu=>(bF [Iv 4 u] [])) (λw=>bD 7 12 (b9 8 λz _=>bU 10 D (bD 3 19 bg (b9 7 λC _=>bN 8 λG _=>eC 9 28 bg bg))) bg) (λu=>bU 6 B (bU 1 D (bD 3 35 bg bg))) (λu=>bg)))
def jm (a0 B:Sl Int):Option Int:=
 (eV a0 B).bind λu=>
 some u
instance Jt (a0 B:Sl Int):Fc Sy cL (jm a0 B):=Fc.M 148 [enc a0,enc B] (bN 9 λu _=>bg)
namespace di
def bt (D G:Sl Int) (J:Int) (B:Int):Option (Fw Int Unit Unit):=
 br (decide (B<J))
 ((idx D B).bind λu=>
 (idx G B).bind λw=>
 br (u==w)
 (some (.n (IntKind.wrap .i64 (B+1))))
 (some (.r ())))
 (some (.x ()))
def W1 (B D:Sl Int) (G J:Int):Option Bool:=
 (bR (λq:Int=>bt B D G q) J).bind (Fw.elim
 (λe=>some true)
 (λe=>some false))
end di
def di (B D:Sl Int):Option Bool:=
 br ((len B)==(len D))
 (di.W1 B D (len B) 0)
 (some false)
open di in
instance Ln (B D:Sl Int):Fc Sy cL (di B D):=Fc.M 15 [enc B,enc D] (bU 9 B (bU 1 D (eC 3 10 (bU 7 B (dW 5 (λw=>(bF [Cv 0 B,Cv 1 D,Iv 12 (len B),Iv 13 w] [])) (λu=>(0,(bF [] []))) (λu=>(bF [Bv 4 false] [])) (λw=>bD 7 14 (b9 15 λz _=>b9 3 λC _=>eC 4 24 bg bg) bg) (λu=>bg) (λu=>bg))) bg)))
def kH (a0 B:Sl Int):Option Bool:=
 (di a0 B).bind λu=>
 some u
instance KZ (a0 B:Sl Int):Fc Sy cL (kH a0 B):=Fc.M 151 [enc a0,enc B] (bN 9 λu _=>bg)
namespace eD
def bX (U:Sl Int) (W:Sl (Sl Int)) (Y aa G:Int) (J:cq) (D:Sl (Sl Int)) (B:Int):Option (Fw ((Sl (Sl Int))×Int) (Sl (Sl Int)) Empty):=
 br (decide (B<G))
 ((n_ J U B).bind λw=>
 br w
 (((ki U).bind Sl.whole).bind λu=>
 (Sl.mj u B).bind λz=>
 (Sl.get u z).bind λC=>
 (Sl.mj u B).bind λI=>
 (Sl.put u I (IntKind.wrap .i64 (C+1):Int)).bind λL=>
 (gw D (L:Sl Int)).bind λO=>
 some (.n (O,IntKind.wrap .i64 (B+1))))
 (some (.n (D,IntKind.wrap .i64 (B+1)))))
 (some (.x D))
def W2 (B:Sl (Sl Int)) (Y:Sl Int) (J:Sl (Sl Int)) (D G O U:Int) (W:cq):Option (Fw ((Sl (Sl Int))×Int×Int) (Sl (Sl Int)) Empty):=
 (bR (λq:(Sl (Sl Int))×Int=>bX Y J D G O W q.1 q.2) (B,U)).bind (Fw.elim
 (λe=>some (.n (e,D,IntKind.wrap .i64 (G+1))))
 (λe=>Empty.elim e))
def bt (G:Sl (Sl Int)) (O:cq) (B:Sl (Sl Int)) (J D:Int):Option (Fw ((Sl (Sl Int))×Int×Int) (Sl (Sl Int)) Empty):=
 br (decide (D<J))
 ((idx G D).bind λu=>
 W2 B u G J D (len u) 0 O)
 (some (.x B))
def W1 (B D:Sl (Sl Int)) (G J:Int) (O:cq):Option (Sl (Sl Int)):=
 (bR (λq:(Sl (Sl Int))×Int×Int=>bt D O q.1 q.2.1 q.2.2) (B,G,J)).bind (Fw.elim
 (λe=>(xX e jm).bind λw=>
 (wB w kH).bind λu=>
 some u)
 (λe=>Empty.elim e))
end eD
def eD (D:cq) (B:Sl (Sl Int)):Option (Sl (Sl Int)):=
 eD.W1 (Sl.nil:Sl (Sl Int)) B (len B) 0 D
open eD in
instance Nr (G:cq) (B:Sl (Sl Int)):Fc Sy cL (eD G B):=Fc.N 123 [enc G,enc B] (dR 2 2 G (bU 12 B (fJ 6 (λu=>(bF [Pv 2,Ov 5,Cv 10 B,Iv 11 u.2.1,Iv 12 u.2.2] [Xb 2 G,Lb 2005 u.1])) (λI=>(0,(bF [Ov 5] [Lb 2005 I]))) (λu=>bD 8 13 (b9 7 λw _=>bU 7 w (fJ 6 (λC=>(bF [Pv 2,Ov 5,Cv 7 w,Cv 10 B,Iv 11 u.2.1,Iv 12 u.2.2,Iv 17 (len w),Iv 18 C.2] [Xb 2 G,Lb 2005 C.1])) (λJ=>(2,(bF [Pv 2,Ov 5,Cv 10 B,Iv 11 u.2.1,Iv 12 u.2.2] [Xb 2 G,Lb 2005 J]))) (λC=>bD 8 19 (bN 16 λQ _=>bD 2 24 (G7 4 26 ny w λS _=>nF .i64 7 26 λT _=>vl 0 26 0 1 false (λD=>.int .i64 D) λD _=>nF .i64 1 26 λU _=>ym 0 26 (.int .i64 (IntKind.wrap .i64 (D+1))) λL _=>u6 6 35 ([L]:List (Sl Int)) (mm 0 2005 35 36 λW _=>bg)) bg) bg) (λJ=>bg))) bg) (λI=>UN 5 2005 Fu Ah SA (kB.tT (λz=>inferInstanceAs (Fc Sy cL (jm z.1 z.2))) default (λ_=>rfl) (λ_=>rfl) (λ_=>rfl) (λ_=>rfl)) λX _=>U_ 5 2005 42 Fu Ah Rs (kB.tT (λz=>inferInstanceAs (Fc Sy cL (kH z.1 z.2))) default (λ_=>rfl) (λ_=>rfl) (λ_=>rfl) (λ_=>rfl)) λO _=>bg))))
namespace jC
def bt (J:cq) (B:Sl (Sl Int)) (G:Sl (Sl (Sl Int))) (D:Int):Option (Fw ((Sl (Sl Int))×(Sl (Sl (Sl Int)))×Int) (Sl (Sl (Sl Int))) Unit):=
 br (decide ((len B)>0))
 (br (decide ((IntKind.wrap .i64 (D+(len B)))>5000))
 (some (.r ()))
 ((gw G (B:Sl (Sl Int))).bind λu=>
 (eD J B).bind λw=>
 some (.n (w,u,IntKind.wrap .i64 (D+(len B))))))
 (some (.x G))
def W1 (B:Sl (Sl Int)) (G:Sl (Sl (Sl Int))) (D:Int) (J:cq):Option ((Sl (Sl (Sl Int)))×Int):=
 (bR (λq:(Sl (Sl Int))×(Sl (Sl (Sl Int)))×Int=>bt J q.1 q.2.1 q.2.2) (B,G,D)).bind (Fw.elim
 (λe=>some (e,0))
 (λe=>some ((Sl.nil:Sl (Sl (Sl Int))),16)))
end jC
def jC (B:Trace):Option ((Sl (Sl (Sl Int)))×Int):=
 (dO B).bind λu=>
 br u
 ((jN B).bind λw=>
 (mP (len B.procs) (0:Int)).bind λz=>
 jC.W1 (Sl.row [z]:Sl (Sl Int)) (Sl.nil:Sl (Sl (Sl Int))) 0 w)
 (some ((Sl.nil:Sl (Sl (Sl Int))),1))
open jC in
instance S6 (B:Trace):Fc Sy cL (jC B):=Fc.N 99 [enc B] (dR 2 1 B (bN 8 λD _=>eC 3 10 (bN 6 λz _=>nK 1 4 0 z (bU 6 B.procs (I4 0 16 λC _=>u6 1 17 ([C]:List (Sl Int)) (dW 18 (λu=>(bF [Pv 4,Cv 5 u.1,Ov 6,Iv 7 u.2.2] [Xb 4 z,Lb 2006 u.2.1])) (λw=>(0,(bF [Ov 6] [Lb 2006 w]))) (λw=>(bF [Ov 2,Iv 3 16] [Lb 2002 (Sl.nil:Sl (Sl (Sl Int)))])) (λu=>bU 7 u.1 (bD 3 20 (bU 10 u.1 (bD 10 29 bg (u6 6 32 ([u.1]:List (Sl (Sl Int))) (mm 0 2006 32 33 λG _=>bN 7 λI _=>bg)))) bg)) (λw=>bg) (λw=>bg))))) bg))
def fG (s:Sl (Sl (Sl Int))):Option (Sl (Sl Int)):=if s.l.length<=2147483648/\(s.l.flatMap Sl.l).length<=2147483648 then some (zS s)else none
instance Kc (s:Sl (Sl (Sl Int))):Fc Sy cL (fG s):=Fc.of (A:=λz:Sl (Sl (Sl Int))=>[enc z]) (E:=λr:Sl (Sl Int)=>[enc r]) (p:=fG) (n:=16) (z:=s) (kB.NN Ze Ze (λz r h=>by
 unfold fG at h;split at h
 next hc=>cases h;exact vK (QM (E:=Sy.E) (N:=λn=>n) (gid:=39) (nm:=some) (λ_ _ h=>(Option.some.inj h).symm) rfl Ze Ze (Bo Ze) (Bo Ze) rfl z hc.1 hc.2)
 cases h))
def lE (B:Trace):Option ((Sl (Sl Int))×Int):=
 (jC B).bind λu=>
 (fG u.1).bind λw=>
 some (w,u.2)
instance UC (B:Trace):Fc Sy cL (lE B):=Fc.N 82 [enc B] (dR 2 1 B (bN 7 λu _=>bN 10 λw _=>bg))
def tW (B:Trace):Option ((Sl (Sl Int))×Int):=
 (lE B).bind λu=>
 some (u.1,u.2)
instance UD (B:Trace):Fc Sy cL (tW B):=Fc.N 59 [enc B] (dR 2 1 B (bN 7 λu _=>bg))
def mw (c:Sl Int):Option (bW 8 Int):=some (mO 8 c)
instance QI (c:Sl Int):Fc Sy cL (mw c):=Fc.of (A:=λz:Sl Int=>[enc z]) (E:=λr:bW 8 Int=>[enc r]) (p:=mw) (n:=35) (b:=true) (z:=c) (kB.scalar (kB.NN Ze Ze (λz r h=>by
 cases h;exact vK (Rm Ze rfl (λ_=>rfl) z))) KF)
namespace dL
def dH (O:Sl Int) (W:Sl (Sl Int)) (Y aa U:Int) (J:Mo (bW 8 Int) Int) (D:Sl Int) (G:Int) (B:bP):Option (Fw ((Sl Int)×Int×bP) ((Sl Int)×(Mo (bW 8 Int) Int)×bP) Empty):=
 br (decide (G<U))
 ((mw O).bind λu=>
 (bW.at u G).bind λw=>
 (bW.at u G).bind λC=>
 br (wk J (bW.set u G (IntKind.wrap .i64 (w+1))))
 ((gw D (iZ J (bW.set u G (IntKind.wrap .i64 (w+1))) 0:Int)).bind λz=>
 some (.n (z,IntKind.wrap .i64 (G+1),(⟨B.list,⟨none⟩,B.next⟩:bP))))
 (some (.n (D,IntKind.wrap .i64 (G+1),(⟨B.list,⟨none⟩,B.next⟩:bP)))))
 (some (.x (D,J,(⟨B.list,⟨none⟩,B.next⟩:bP))))
def W3 (O B:Sl Int) (U:Sl (Sl Int)) (W D Y aa:Int) (G:Mo (bW 8 Int) Int) (J:bP):Option (Fw (Int×(Mo (bW 8 Int) Int)×bP) ((Mo (bW 8 Int) Int)×bP) Empty):=
 (bR (λq:(Sl Int)×Int×bP=>dH O U W D Y G q.1 q.2.1 q.2.2) (B,aa,J)).bind (Fw.elim
 (λe=>(gw e.2.2.next (e.1:Sl Int)).bind λu=>
 some (.n (IntKind.wrap .i64 (D+1),e.2.1,(⟨e.2.2.list,⟨none⟩,u⟩:bP))))
 (λe=>Empty.elim e))
def bX (J:Sl (Sl Int)) (O:Int) (G:Int) (D:Mo (bW 8 Int) Int) (B:bP):Option (Fw (Int×(Mo (bW 8 Int) Int)×bP) ((Mo (bW 8 Int) Int)×bP) Empty):=
 br (decide (G<O))
 ((idx J G).bind λu=>
 W3 u (Sl.nil:Sl Int) J O G (len u) 0 D (⟨B.list,⟨none⟩,B.next⟩:bP))
 (some (.x (D,(⟨B.list,⟨none⟩,B.next⟩:bP))))
def W2 (G:Sl (Sl Int)) (J O:Int) (B:Mo (bW 8 Int) Int) (D:bP):Option ((Option bP)×Int):=
 (bR (λq:Int×(Mo (bW 8 Int) Int)×bP=>bX G J q.1 q.2.1 q.2.2) (O,B,D)).bind (Fw.elim
 (λe=>some (some (⟨e.2.list,⟨some e.1⟩,e.2.next⟩:bP),0))
 (λe=>Empty.elim e))
def bt (J O:Sl (Sl Int)) (U:Int) (B:Int) (D:Mo (bW 8 Int) Int) (G:bP):Option (Fw (Int×(Mo (bW 8 Int) Int)×bP) ((Mo (bW 8 Int) Int)×bP) Empty):=
 br (decide (B<U))
 ((idx O B).bind λu=>
 (mw u).bind λw=>
 some (.n (IntKind.wrap .i64 (B+1),kS D w B,(⟨G.list,⟨none⟩,Sl.nil⟩:bP))))
 (some (.x (D,(⟨G.list,⟨none⟩,Sl.nil⟩:bP))))
def W1 (B J:Sl (Sl Int)) (O U:Int) (D:Mo (bW 8 Int) Int) (G:bP):Option ((Option bP)×Int):=
 (bR (λq:Int×(Mo (bW 8 Int) Int)×bP=>bt B J O q.1 q.2.1 q.2.2) (U,D,G)).bind (Fw.elim
 (λe=>dL.W2 B (len B) 0 e.1 (⟨e.2.list,⟨none⟩,Sl.nil⟩:bP))
 (λe=>Empty.elim e))
end dL
def dL (B:Trace):Option ((Option bP)×Int):=
 (tW B).bind λu=>
 br (u.2==0)
 (dL.W1 u.1 u.1 (len u.1) 0 [] (⟨u.1,⟨none⟩,Sl.nil⟩:bP))
 (some (none,u.2))
open dL in
instance QJ (O:Trace):Fc Sy cL (dL O):=Fc.N 34 [enc O] (dR 2 1 O (bN 7 λu _=>eC 14 22 (Vm 7 [cv u.1,.mp 25] [cv u.1,.mp 25,.v .bK] [.bK,.f_,.bK] [(0,1),(1,1)] (by simp only[CO,LH,Ow,Jr,ML,Kb,kE,L6,Iw,MD,Ni];rfl) (UW 0 27 [cv u.1,.mp 25,.v .bK] (by simp only[List.all_cons,Tr,Pt,QZ,Pd,lT,kg,lK,kR,IS];rfl) (bU 7 u.1 (fJ 5 (λB=>(bF [Cv 4 u.1,(6,.ptr 27 0),Cv 28 u.1,Iv 29 (len u.1),Iv 30 B.1] [(25,iX B.2.1),(27,.box [cv B.2.2.list,.mp 25,.v .bK])])) (λL=>(0,(bF [Cv 4 u.1,(6,.ptr 27 0)] [(25,iX L.1),(27,.box [cv L.2.list,.mp 25,.v .bK])]))) (λB=>bD 7 31 (b9 8 λW _=>gW 11 λQ _=>KD 1 25 B.2.1 Q B.1 bg) bg) (λL=>bU 6 u.1 (fJ 6 (λz=>(bF [(6,.ptr 27 0),Cv 43 u.1,Iv 44 (len u.1),Iv 45 z.1] [(25,iX z.2.1),(27,.box [cv z.2.2.list,.mp 25,.own 4542]),Lb 4542 z.2.2.next])) (λJ=>(2,(bF [(6,.ptr 27 0)] [(25,iX J.1),(27,.box [cv J.2.list,.mp 25,.own 4542]),Lb 4542 J.2.next]))) (λz=>bD 8 46 (b9 7 λI _=>bU 13 I (fJ 7 (λw=>(bF [(6,.ptr 27 0),Cv 10 I,Ov 11,Cv 43 u.1,Iv 44 (len u.1),Iv 45 z.1,Iv 50 (len I),Iv 51 w.2.1] [(25,iX z.2.1),(27,.box [cv w.2.2.list,.mp 25,.own 4542]),Lb 2011 w.1,Lb 4542 w.2.2.next])) (λC=>(4,(bF [(6,.ptr 27 0),Ov 11,Cv 43 u.1,Iv 44 (len u.1),Iv 45 z.1] [(25,iX C.2.1),(27,.box [cv C.2.2.list,.mp 25,.own 4542]),Lb 2011 C.1,Lb 4542 C.2.2.next]))) (λw=>bD 9 52 (bN 14 λD _=>RP 0 13 (bF [(6,.ptr 27 0),Cv 10 I,Ov 11,Cv 43 u.1,Iv 44 (len u.1),Iv 45 z.1,Iv 50 (len I),Iv 51 w.2.1,Bv 52 true,Iv 12 w.2.1,Cv 55 D] [(25,iX z.2.1),(27,.box [cv w.2.2.list,.mp 25,.own 4542]),Lb 2011 w.1,Lb 4542 w.2.2.next]) 8 (0:Int) Ze (We 0 13 (bW.EN 8 (0:Int)) D (Aj 5 .i64 13 λG S=>J_ 0 1 false 13 D w.2.1 0 G S (.int .i64 G) (by rfl) (Aj 1 .i64 13 λT U=>Vu 0 1 13 D w.2.1 0 T U (IntKind.wrap .i64 (G+1)) (.int .i64 (IntKind.wrap .i64 (G+1))) (by rfl) (Wi 8 13 (bW.set D w.2.1 (IntKind.wrap .i64 (G+1))) rfl (T5 0 25 z.2.1 (bW.set D w.2.1 (IntKind.wrap .i64 (G+1))) 0 (bD 12 70 (mm 6 2011 73 74 λX _=>bg) bg))))))) bg) (λC=>u6 10 82 ([C.1]:List (Sl Int)) (mm 0 4542 82 83 λY _=>bg)))) bg) (λJ=>bg))))))) bg))
namespace cQ
def bX (W:bP) (O:Sl Bool) (U Y:Sl (Sl Int)) (aa ab:Int) (J:Sl Int) (B:Sl Bool) (G D:Int):Option (Fw ((Sl Bool)×Int×Int) (Sl Bool) Empty):=
 br (decide (D<G))
 ((idx J D).bind λu=>
 (Sl.mj B u).bind λw=>
 (Sl.put B w (true:Bool)).bind λz=>
 some (.n (z,G,IntKind.wrap .i64 (D+1))))
 (some (.x B))
def W2 (O:bP) (G B:Sl Bool) (D U:Sl (Sl Int)) (W J:Int) (Y:Sl Int) (aa ab:Int):Option (Fw ((Sl Bool)×(Sl (Sl Int))×Int) (Sl (Sl Int)) Unit):=
 (bR (λq:(Sl Bool)×Int×Int=>bX O G D U W J Y q.1 q.2.1 q.2.2) (B,aa,ab)).bind (Fw.elim
 (λe=>some (.n (e,D,IntKind.wrap .i64 (J+1))))
 (λe=>Empty.elim e))
def bt (O:bP) (J:Sl Bool) (U:Sl (Sl Int)) (W:Int) (B:Sl Bool) (G:Sl (Sl Int)) (D:Int):Option (Fw ((Sl Bool)×(Sl (Sl Int))×Int) (Sl (Sl Int)) Unit):=
 br (decide (D<W))
 ((idx U D).bind λw=>
 (Sl.mj B D).bind λz=>
 (Sl.get B z).bind λC=>
 br C
 ((idx J D).bind λI=>
 br I
 (((ki w).bind Sl.whole).bind λL=>
 (gw G (L:Sl Int)).bind λQ=>
 some (.n (B,Q,IntKind.wrap .i64 (D+1))))
 (br (D==(IntKind.wrap .i64 ((len O.list)-1)))
 (some (.r ()))
 ((idx O.next D).bind λu=>
 W2 O J B G U W D u (len u) 0)))
 (some (.n (B,G,IntKind.wrap .i64 (D+1)))))
 (some (.x G))
def W1 (J:bP) (D B:Sl Bool) (G O:Sl (Sl Int)) (U W:Int):Option ((Sl (Sl Int))×Bool):=
 (bR (λq:(Sl Bool)×(Sl (Sl Int))×Int=>bt J D O U q.1 q.2.1 q.2.2) (B,G,W)).bind (Fw.elim
 (λe=>some (e,true))
 (λe=>some ((Sl.nil:Sl (Sl Int)),false)))
end cQ
def cQ (D:bP) (B:Sl Bool):Option ((Sl (Sl Int))×Bool):=
 (mP (len D.list) (false:Bool)).bind λu=>
 (Sl.mj u 0).bind λw=>
 (Sl.put u w (true:Bool)).bind λz=>
 cQ.W1 D B z (Sl.nil:Sl (Sl Int)) D.list (len D.list) 0
open cQ in
instance Fq (D:bP) (B:Sl Bool):Fc Sy cL (cQ D B):=Fc.N 36 [.fptr (cells D),enc B] (bU 12 D.list (I4 0 17 λT _=>nF .i64 6 17 λU _=>ym 0 17 (.bool true) λW _=>bU 14 D.list (dW 7 (λu=>(bF [Kv 0 D,Cv 1 B,Ov 6,Ov 7,Cv 23 D.list,Iv 24 (len D.list),Iv 25 u.2.2] [Lb 2006 u.1,Lb 2007 u.2.1])) (λw=>(0,(bF [Ov 7] [Lb 2007 w]))) (λw=>(bF [Ov 4,Bv 5 false] [Lb 2004 (Sl.nil:Sl (Sl Int))])) (λu=>bD 9 26 (b9 8 λJ _=>nF .i64 11 2006 λX _=>vl 0 2006 0 1 false (λG=>.bool G) λG _=>eC 4 30 (b9 5 λY _=>bD 4 36 (G7 5 43 ny J λL _=>u6 1 44 ([L]:List (Sl Int)) (mm 0 2007 44 45 λZ _=>bg)) (bU 8 D.list (bD 5 46 bg (b9 11 λC _=>bU 1 C (fJ 7 (λz=>(bF [Kv 0 D,Cv 1 B,Ov 6,Ov 7,Cv 23 D.list,Iv 24 (len D.list),Iv 25 u.2.2,Cv 61 C,Iv 62 z.2.1,Iv 63 z.2.2] [Lb 2006 z.1,Lb 2007 u.2.1])) (λI=>(3,(bF [Kv 0 D,Cv 1 B,Ov 6,Ov 7,Cv 23 D.list,Iv 24 (len D.list),Iv 25 u.2.2] [Lb 2006 I,Lb 2007 u.2.1]))) (λz=>bD 9 64 (b9 7 λO _=>nF .i64 7 2006 λQ _=>ym 0 2006 (.bool true) λS _=>bg) bg) (λI=>bg)))))) bg) bg) (λw=>bg) (λw=>bg))))
def ug (D:Trace) (B:Sl Bool):Option ((Sl (Sl Int))×Int):=
 (dL D).bind λu=>
 br (u.2==0)
 ((u.1).bind λw=>
 br ((len B)==(len w.list))
 ((cQ w B).bind λz=>
 br z.2
 (some (z.1,0))
 (some (Sl.nil,7)))
 (some (Sl.nil,3)))
 (some (Sl.nil,u.2))
instance Qd (D:Trace) (B:Sl Bool):Fc Sy cL (ug D B):=Fc.N 17 [enc D,enc B] (dR 2 2 D (bN 7 λu _=>eC 14 16 (bU 7 B (Dj 1 (λz=>(bF [Cv 1 B,Cv 6 z,Iv 7 u.2,Bv 16 false,Iv 19 (len B),Cv 20 z] [Xb 2 D])) λw _=>bU 3 w.list (eC 3 25 (bN 7 λC _=>eC 14 33 bg bg) bg))) bg))
def nD (B:Sl Int) (D:Trace):Option Bool:=
 some (!((len B)==(len D.procs)))
instance QT (B:Sl Int) (D:Trace):Fc Sy cL (nD B D):=Fc.M 143 [enc B,.fptr (cells D)] (bU 8 B (bU 2 D.procs bg))
def yR (D:Trace) (G:Sl (Sl Int)):Option Bool:=
 (dO D).bind λu=>
 (br u
 ((fc G (λz=>nD z D)).bind λw=>
 some (!w))
 (some false):Option Bool).bind λB=>
 some B
instance UA (B:Trace) (D:Sl (Sl Int)):Fc Sy cL (yR B D):=Fc.M 118 [enc B,enc D] (dR 2 2 B (bN 6 λu _=>cB 1 5 [1,2,7] 12 (bD 1 7 (gW (F:=ja 143 [.fptr (cells B)] (λz=>nD z B) nN.tT D) 2 λw _=>bH 2) (bH 5)) λC=>bg))
namespace jB
def bt (G:Sl Int) (J:Int) (D:Trace) (B:Int):Option (Fw Int Unit Unit):=
 br (decide (B<J))
 ((idx G B).bind λu=>
 (br (decide (u<0))
 (some true)
 ((idx D.procs B).bind λw=>
 some (decide (u>(len w.events)))):Option Bool).bind λz=>
 br z
 (some (.r ()))
 (some (.n (IntKind.wrap .i64 (B+1)))))
 (some (.x ()))
def W1 (D:Sl Int) (G J:Int) (B:Trace):Option Bool:=
 (bR (λq:Int=>bt D G B q) J).bind (Fw.elim
 (λe=>some true)
 (λe=>some false))
end jB
def jB (D:Trace) (B:Sl Int):Option Bool:=
 jB.W1 B (len B) 0 D
open jB in
instance S4 (D:Trace) (B:Sl Int):Fc Sy cL (jB D B):=Fc.M 119 [enc D,enc B] (dR 2 2 D (bU 7 B (dW 5 (λw=>(bF [Pv 2,Cv 7 B,Iv 8 (len B),Iv 9 w] [Xb 2 D])) (λu=>(0,(bF [] []))) (λu=>(bF [Bv 4 false] [])) (λw=>bD 7 10 (b9 8 λC _=>cB 10 10 [5,6,16] 26 (bD 10 16 (bH 10) (b9 4 λz _=>bU 2 z.events (bH 2))) λG=>bD 2 26 bg bg) bg) (λu=>bg) (λu=>bg))))
def AS (B:Trace) (p1:Int):Option Bool:=
 (br (decide (p1>=0))
 (some (decide (p1<(len B.procs))))
 (some false):Option Bool).bind λu=>
 some u
instance SS (B:Trace) (p1:Int):Fc Sy cL (AS B p1):=Fc.M 120 [enc B,.int .i64 p1] (dR 2 2 B (cB 8 6 [1,2,7] 13 (bD 8 7 (bU 3 B.procs (bH 2)) (bH 6)) λu=>bg))
namespace gI
def bX (W:Sl Int) (p7:Int) (Y:Sl Int) (aa ab:Int) (J:Sl Event) (O:Int) (U:Trace) (G D:aZ) (B:Int):Option (Fw Int Unit (aZ×aZ)):=
 br (decide (B<O))
 ((idx J B).bind λw=>
 br (w.kind==3)
 ((pG U w.message).bind λu=>
 (idx W u.1.proc).bind λz=>
 br (decide (u.1.index>z))
 (some (.r (u.1,(⟨p7,IntKind.wrap .i64 (B+1)⟩:aZ))))
 (some (.n (IntKind.wrap .i64 (B+1)))))
 (some (.n (IntKind.wrap .i64 (B+1)))))
 (some (.x ()))
def W2 (c1:Sl Int) (p7:Int) (J:Sl Int) (O G:Int) (U:Sl Event) (W Y:Int) (aa:Trace) (D B:aZ):Option (Fw Int Unit (aZ×aZ)):=
 (bR (λq:Int=>bX c1 p7 J O G U W aa D B q) Y).bind (Fw.elim
 (λe=>some (.n (IntKind.wrap .i64 (G+1))))
 (λe=>some (.r (e.1,e.2))))
def bt (W J:Sl Int) (O:Int) (U:Trace) (G B:aZ) (D:Int):Option (Fw Int Unit (aZ×aZ)):=
 br (decide (D<O))
 ((idx J D).bind λw=>
 (idx U.procs D).bind λz=>
 (fS z.events none (some w)).bind λu=>
 W2 W D J O D u (len u) 0 U G B)
 (some (.x ()))
def W1 (W G:Sl Int) (J O:Int) (U:Trace) (D B:aZ):Option (aZ×aZ×Bool):=
 (bR (λq:Int=>bt W G J U D B q) O).bind (Fw.elim
 (λe=>some (⟨0,0⟩,⟨0,0⟩,false))
 (λe=>some (e.1,e.2,true)))
end gI
def gI (D:Trace) (B:Sl Int):Option (aZ×aZ×Bool):=
 gI.W1 B B (len B) 0 D (⟨0,0⟩:aZ) (⟨0,0⟩:aZ)
open gI in
instance S8 (D:Trace) (B:Sl Int):Fc Sy cL (gI D B):=Fc.M 144 [enc D,enc B] (dR 2 2 D (bU 9 B (dW 5 (λu=>(bF [Cv 1 B,Pv 2,Pv 4,Pv 5,Cv 13 B,Iv 14 (len B),Iv 15 u] [Xb 2 D,Xb 4 (⟨0,0⟩:aZ),Xb 5 (⟨0,0⟩:aZ)])) (λw=>(0,(bF [Pv 4,Pv 5] [Xb 4 (⟨0,0⟩:aZ),Xb 5 (⟨0,0⟩:aZ)]))) (λw=>(bF [Pv 4,Pv 5,Bv 6 true] [Xb 4 w.1,Xb 5 w.2])) (λu=>bD 7 16 (b9 8 λI _=>b9 10 λL _=>BN 3 false true [.int .i64 I] λC _=>bU 0 C (dW 5 (λG=>(bF [Cv 1 B,Pv 2,Pv 4,Pv 5,Iv 7 u,Cv 13 B,Iv 14 (len B),Iv 15 u,Cv 27 C,Iv 28 (len C),Iv 29 G] [Xb 2 D,Xb 4 (⟨0,0⟩:aZ),Xb 5 (⟨0,0⟩:aZ)])) (λz=>(2,(bF [Cv 1 B,Pv 2,Pv 4,Pv 5,Cv 13 B,Iv 14 (len B),Iv 15 u] [Xb 2 D,Xb 4 (⟨0,0⟩:aZ),Xb 5 (⟨0,0⟩:aZ)]))) (λz=>(bF [Pv 4,Pv 5,Bv 6 true] [Xb 4 z.1,Xb 5 z.2])) (λG=>bD 7 30 (b9 8 λJ _=>nK 3 10 0 J (eC 10 36 (bN 8 λO _=>b9 15 λQ _=>bD 4 51 bg bg) bg)) bg) (λz=>bg) (λz=>bg))) bg) (λw=>bg) (λw=>bg))))
def yp (B:Trace) (D:Sl Int):Option Bool:=
 (gI B D).bind λu=>
 some (!u.2.2)
instance TL (B:Trace) (D:Sl Int):Fc Sy cL (yp B D):=Fc.M 121 [enc B,enc D] (dR 2 2 B (bN 7 λu _=>bg))
namespace fE
def dH (D:Sl (Sl Int)) (G:Int) (J:Trace) (B:Int):Option (Fw Int Unit Unit):=
 br (decide (B<G))
 ((idx D B).bind λu=>
 (yp J u).bind λw=>
 br w
 (some (.n (IntKind.wrap .i64 (B+1))))
 (some (.r ())))
 (some (.x ()))
def W3 (B:Sl (Sl Int)) (D G:Int) (J:Trace):Option Int:=
 (bR (λq:Int=>dH B D J q) G).bind (Fw.elim
 (λe=>some 0)
 (λe=>some 18))
def bX (O:Sl (Sl Int)) (D:Sl Int) (G:Int) (J:Trace) (B:Int):Option (Fw Int Unit Unit):=
 br (decide (B<G))
 ((idx D B).bind λu=>
 (AS J u).bind λw=>
 br w
 (some (.n (IntKind.wrap .i64 (B+1))))
 (some (.r ())))
 (some (.x ()))
def W2 (D:Sl (Sl Int)) (G:Sl Int) (J O:Int) (B:Trace):Option Int:=
 (bR (λq:Int=>bX D G J B q) O).bind (Fw.elim
 (λe=>fE.W3 D (len D) 0 B)
 (λe=>some 2))
def bt (U:Sl (Sl Int)) (D:Sl Int) (G:Sl (Sl Int)) (J:Int) (O:Trace) (B:Int):Option (Fw Int Unit Unit):=
 br (decide (B<J))
 ((idx G B).bind λu=>
 (jB O u).bind λw=>
 br w
 (some (.n (IntKind.wrap .i64 (B+1))))
 (some (.r ())))
 (some (.x ()))
def W1 (U:Sl (Sl Int)) (B:Sl Int) (G:Sl (Sl Int)) (J O:Int) (D:Trace):Option Int:=
 (bR (λq:Int=>bt U B G J D q) O).bind (Fw.elim
 (λe=>fE.W2 U B (len B) 0 D)
 (λe=>some 2))
end fE
def fE (G:Trace) (D:Sl (Sl Int)) (B:Sl Int):Option Int:=
 (yR G D).bind λu=>
 br u
 (fE.W1 D B D (len D) 0 G)
 (some 1)
open fE in
instance UB (G:Trace) (D:Sl (Sl Int)) (B:Sl Int):Fc Sy cL (fE G D B):=Fc.M 98 [enc G,enc D,enc B] (dR 2 3 G (bN 8 λL _=>eC 3 16 (bU 7 D (dW 5 (λC=>(bF [Cv 1 D,Cv 2 B,Pv 3,Cv 17 D,Iv 18 (len D),Iv 19 C] [Xb 3 G])) (λu=>(0,(bF [Cv 1 D,Cv 2 B,Pv 3] [Xb 3 G]))) (λu=>(bF [Iv 6 2] [])) (λC=>bD 7 20 (b9 7 λO _=>bN 8 λQ _=>eC 3 26 bg bg) bg) (λu=>bU 6 B (dW 5 (λI=>(bF [Cv 1 D,Pv 3,Cv 28 B,Iv 29 (len B),Iv 30 I] [Xb 3 G])) (λw=>(2,(bF [Cv 1 D,Pv 3] [Xb 3 G]))) (λw=>(bF [Iv 6 2] [])) (λI=>bD 7 31 (b9 7 λS _=>bN 8 λT _=>eC 3 37 bg bg) bg) (λw=>bU 6 D (dW 5 (λJ=>(bF [Pv 3,Cv 39 D,Iv 40 (len D),Iv 41 J] [Xb 3 G])) (λz=>(4,(bF [] []))) (λz=>(bF [Iv 6 18] [])) (λJ=>bD 7 42 (b9 7 λU _=>bN 8 λW _=>eC 3 48 bg bg) bg) (λz=>bg) (λz=>bg))) (λw=>bg))) (λu=>bg))) bg))
def pP (B:Trace) (D:Sl Int):Option Bool:=
 (fE B (Sl.row [D]:Sl (Sl Int)) (Sl.nil:Sl Int)).bind λu=>
 some (u==0)
instance Px (B:Trace) (D:Sl Int):Fc Sy cL (pP B D):=Fc.M 81 [enc B,enc D] (dR 2 2 B (u6 7 7 ([D]:List (Sl Int)) (gW 0 λu _=>bg)))
def oP (B:Sl Int) (D:Trace):Option Bool:=
 (pP D B).bind λu=>
 some (!u)
instance Ns (B:Sl Int) (D:Trace):Fc Sy cL (oP B D):=Fc.M 80 [enc B,.fptr (cells D)] (bN 9 λu _=>bg)
def qx (f0 B:Event):Option Bool:=
 (br (f0.kind==2)
 (some (f0.message==B.message))
 (some false):Option Bool).bind λu=>
 some u
instance PU (f0 B:Event):Fc Sy cL (qx f0 B):=Fc.M 92 [enc f0,.fptr (cells B)] (dR 2 2 f0 (cB 9 6 [1,2,7] 13 (bD 9 7 (bH 6) (bH 6)) λu=>bg))
def uD (B:Trace) (e1:Event):Option (aZ×Bool):=
 (idx B.procs e1.peer).bind λw=>
 (eW w.events (λz=>qx z e1)).bind λu=>
 some (⟨e1.peer,IntKind.wrap .i64 (u+1)⟩,decide (u>=0))
instance Uc (B:Trace) (e1:Event):Fc Sy cL (uD B e1):=Fc.M 65 [enc B,enc e1] (dR 2 2 B (dR 0 3 e1 (b9 10 λu _=>gW (F:=o4 92 [.fptr (cells e1)] (λz=>qx z e1) nN.tT u.events) 3 λw _=>bg)))
namespace gz
def J3 (O:Sl aZ) (U:Sl cu) (W Y:Int) (aa:Sl Event) (ab G:Int) (J:Trace) (B:aZ) (D:cz):Option (Fw ((Sl aZ)×Int×Trace×cz) ((Sl aZ)×Trace×cz) Empty):=
 (gw O (B:aZ)).bind λu=>
 some (.n (u,IntKind.wrap .i64 (G+1),J,D))
def bX (U:Sl cu) (W Y:Int) (J:Sl Event) (O:Int) (l6:Sl aZ) (D:Int) (G:Trace) (B:cz):Option (Fw ((Sl aZ)×Int×Trace×cz) ((Sl aZ)×Trace×cz) Empty):=
 br (decide (D<O))
 ((idx J D).bind λu=>
 br (u.kind==3)
 ((uD G u).bind λw=>
 J3 l6 U W Y J O D G w.1 B)
 (J3 l6 U W Y J O D G (⟨0,0⟩:aZ) B))
 (some (.x (l6,G,B)))
def W2 (l6:Sl aZ) (G:Sl cu) (J B:Int) (O:Sl Event) (U W:Int) (Y:Trace) (D:cz):Option (Fw (Int×Trace×cz) cz Empty):=
 (bR (λq:(Sl aZ)×Int×Trace×cz=>bX G J B O U q.1 q.2.1 q.2.2.1 q.2.2.2) (l6,W,Y,D)).bind (Fw.elim
 (λe=>(gw e.2.2.needs (e.1:Sl aZ)).bind λu=>
 some (.n (IntKind.wrap .i64 (B+1),e.2.1,(⟨e.2.2.t,u⟩:cz))))
 (λe=>Empty.elim e))
def bt (G:Sl cu) (J:Int) (D:Int) (O:Trace) (B:cz):Option (Fw (Int×Trace×cz) cz Empty):=
 br (decide (D<J))
 ((idx G D).bind λu=>
 W2 (Sl.nil:Sl aZ) G J D u.events (len u.events) 0 O B)
 (some (.x B))
def W1 (D:Sl cu) (G J:Int) (O:Trace) (B:cz):Option (Option cz):=
 (bR (λq:Int×Trace×cz=>bt D G q.1 q.2.1 q.2.2) (J,O,B)).bind (Fw.elim
 (λe=>some (some e))
 (λe=>Empty.elim e))
end gz
def gz (B:Trace):Option (Option cz):=
 gz.W1 B.procs (len B.procs) 0 B (⟨B,Sl.nil⟩:cz)
open gz in
instance Vx (B:Trace):Fc Sy cL (gz B):=Fc.N 44 [enc B] (dR 2 1 B (Wq 6 (⟨B,Sl.nil⟩:cz) [enc B] [.bK,.bK] [(0,1)] (by simp only[JD,MH,kE,L6,Iw,MD,Ni];rfl) rfl (dR 0 12 (⟨B,Sl.nil⟩:cz) (bU 8 B.procs (fJ 6 (λu=>(bF [Pv 1,(3,.ptr 12 0),Cv 14 B.procs,Iv 15 (len B.procs),Iv 16 u.1] [Xb 1 u.2.1,(12,.box [cv u.2.2.t.procs,.own 4241]),Lb 4241 u.2.2.needs])) (λD=>(0,(bF [(3,.ptr 12 0)] [(12,.box [cv D.t.procs,.own 4241]),Lb 4241 D.needs]))) (λu=>bD 8 17 (b9 7 λC _=>nK 2 5 0 C (bU 12 C.events (fJ 7 (λw=>(bF [Pv 1,(3,.ptr 12 0),Ov 6,Cv 14 B.procs,Iv 15 (len B.procs),Iv 16 u.1,Cv 21 C.events,Iv 22 (len C.events),Iv 23 w.2.1] [Xb 1 w.2.2.1,(12,.box [cv w.2.2.2.t.procs,.own 4241]),Lb 2006 w.1,Lb 4241 w.2.2.2.needs])) (λz=>(2,(bF [Pv 1,(3,.ptr 12 0),Ov 6,Cv 14 B.procs,Iv 15 (len B.procs),Iv 16 u.1] [Xb 1 z.2.1,(12,.box [cv z.2.2.t.procs,.own 4241]),Lb 2006 z.1,Lb 4241 z.2.2.needs]))) (λw=>bD 9 24 (b9 7 λG _=>nK 2 8 0 G (bD 15 29 (bN 4 λJ _=>wu 9 (mm 4 2006 38 39 λI _=>bg)) (wu 6 (mm 4 2006 38 39 λI _=>bg)))) bg) (λz=>u6 10 47 ([z.1]:List (Sl aZ)) (mm 0 4241 47 48 λL _=>bg))))) bg) (λD=>bg))))))
namespace iS
def bt (J:Sl Int) (D:Int) (G:Sl U8) (B:Int):Option (Fw ((Sl U8)×Int) (Sl U8) Empty):=
 br (decide (B<D))
 ((idx J B).bind λu=>
 (gw G (⟨IntKind.wrap .u8 u⟩:U8)).bind λw=>
 some (.n (w,IntKind.wrap .i64 (B+1))))
 (some (.x G))
def W1 (G:Sl U8) (J:Sl Int) (B D:Int):Option ByteArray:=
 (bR (λq:(Sl U8)×Int=>bt J B q.1 q.2) (G,D)).bind (Fw.elim
 (λe=>some (JX e))
 (λe=>Empty.elim e))
end iS
def iS (B:Sl Int):Option ByteArray:=
 (uc (len B) (⟨0⟩:U8)).bind λu=>
 iS.W1 u B (len B) 0
open iS in
instance VW (B:Sl Int):Fc Sy cL (iS B):=Fc.M 57 [enc B] (bU 8 B (V7 (zero:=[.int .u8 0]) 0 8 λz _=>bU 7 B (fJ 6 (λu=>(bF [Ov 3,Cv 9 B,Iv 10 (len B),Iv 11 u.2] [Lb 2003 u.1])) (λw=>(0,(bF [Ov 3] [Lb 2003 w]))) (λu=>bD 8 12 (b9 7 λC _=>mm 9 2003 18 19 λD _=>bg) bg) (λw=>Vr 5 2003 w bg))))
def od (O:cz) (B:Sl Int) (p2:Int):Option Bool:=
 (br (decide (p2<0))
 (some true)
 (some (decide (p2>=(len B)))):Option Bool).bind λw=>
 (br w
 (some true)
 ((idx B p2).bind λz=>
 (idx O.needs p2).bind λC=>
 some (decide (z>=(len C)))):Option Bool).bind λD=>
 br D
 (some false)
 ((idx O.needs p2).bind λG=>
 (idx B p2).bind λI=>
 (idx G I).bind λu=>
 (br (u.index==0)
 (some true)
 ((idx B u.proc).bind λJ=>
 some (decide (u.index<=J))):Option Bool).bind λL=>
 some L)
instance P5 (D:cz) (B:Sl Int) (p2:Int):Fc Sy cL (od D B p2):=Fc.M 70 [.fptr (cells D),enc B,.int .i64 p2] (cB 11 5 [10] 15 (bD 11 10 (bH 5) (bU 2 B (bH 2))) λw=>cB 1 14 [16] 30 (bD 1 16 (bH 14) (b9 2 λz _=>b9 6 λu _=>bU 1 u (bH 2))) λC=>bD 2 30 bg (b9 10 λG _=>b9 3 λI _=>b9 1 λJ _=>cB 11 9 [1,7,47] 56 (bD 11 47 (bH 9) (b9 5 λL _=>bH 3)) λO=>bg))
def sW (D:Sl Int) (p1:Int):Option (Sl Int):=
 ((ki D).bind Sl.whole).bind λu=>
 (Sl.mj u p1).bind λw=>
 (Sl.get u w).bind λz=>
 (Sl.mj u p1).bind λB=>
 (Sl.put u B (IntKind.wrap .i64 (z+1):Int)).bind λC=>
 some C
instance UP (B:Sl Int) (p1:Int):Fc Sy cL (sW B p1):=Fc.N 71 [enc B,.int .i64 p1] (G7 8 7 ny B λw _=>nF .i64 7 7 λz _=>vl 0 7 0 1 false (λu=>.int .i64 u) λu _=>nF .i64 1 7 λC _=>ym 0 7 (.int .i64 (IntKind.wrap .i64 (u+1))) λD _=>bg)
namespace en
def dH (W:Sl (Sl Int)) (O:cz) (aa:Int) (G:Sl Int) (U:Int) (Y J:Mo ByteArray Bool) (D:Bool) (B:Int):Option (Fw (Bool×Int) Bool Empty):=
 br (decide (B<U))
 ((br D
 (some true)
 ((od O G B).bind λI=>
 (br I
 ((sW G B).bind λu=>
 (iS u).bind λw=>
 some (iZ J w false))
 (some false):Option Bool).bind λz=>
 some z):Option Bool).bind λC=>
 some (.n (C,IntKind.wrap .i64 (B+1))))
 (some (.x D))
def W3 (J:Sl (Sl Int)) (W:cz) (O:Int) (G:Sl Int) (U:Bool) (Y aa:Int) (B D:Mo ByteArray Bool):Option (Fw (Int×(Mo ByteArray Bool)) (Mo ByteArray Bool) Empty):=
 (bR (λq:Bool×Int=>dH J W O G Y B D q.1 q.2) (U,aa)).bind (Fw.elim
 (λe=>(iS G).bind λu=>
 (br e
 ((iS G).bind λw=>
 some (!iZ B w false))
 (some false):Option Bool).bind λz=>
 some (.n (IntKind.wrap .i64 (O-1),kS D u z)))
 (λe=>Empty.elim e))
def bX (B:Sl (Sl Int)) (O:cz) (J:Mo ByteArray Bool) (D:Int) (G:Mo ByteArray Bool):Option (Fw (Int×(Mo ByteArray Bool)) (Mo ByteArray Bool) Empty):=
 br (decide (D>=0))
 ((idx B D).bind λu=>
 W3 B O D u (D==(IntKind.wrap .i64 ((len B)-1))) (len u) 0 J G)
 (some (.x G))
def W2 (B:Sl (Sl Int)) (J:cz) (O:Int) (D G:Mo ByteArray Bool):Option ((yF ByteArray Bool)×Int):=
 (bR (λq:Int×(Mo ByteArray Bool)=>bX B J D q.1 q.2) (O,G)).bind (Fw.elim
 (λe=>some (⟨some e⟩,0))
 (λe=>Empty.elim e))
def bt (O:Sl (Sl Int)) (W:cz) (G:Sl (Sl Int)) (J:Int) (U:Mo ByteArray Bool) (D:Int) (B:Mo ByteArray Bool):Option (Fw (Int×(Mo ByteArray Bool)) (Mo ByteArray Bool) Empty):=
 br (decide (D<J))
 ((idx G D).bind λu=>
 (iS u).bind λw=>
 some (.n (IntKind.wrap .i64 (D+1),kS B w true)))
 (some (.x B))
def W1 (B:Sl (Sl Int)) (G:cz) (O:Sl (Sl Int)) (U W:Int) (J D:Mo ByteArray Bool):Option ((yF ByteArray Bool)×Int):=
 (bR (λq:Int×(Mo ByteArray Bool)=>bt B G O U D q.1 q.2) (W,J)).bind (Fw.elim
 (λe=>en.W2 B G (IntKind.wrap .i64 ((len B)-1)) e D)
 (λe=>Empty.elim e))
end en
def en (B:Trace) (D:Sl (Sl Int)):Option ((yF ByteArray Bool)×Int):=
 (dO B).bind λw=>
 br w
 (br (decide ((len D)>5000))
 (some (⟨none⟩,5))
 ((fc D (λz=>oP z B)).bind λC=>
 br C
 (some (⟨none⟩,18))
 ((tW B).bind λu=>
 br (u.2==0)
 ((gz B).bind λG=>
 (G).bind λI=>
 en.W1 u.1 I D (len D) 0 [] [])
 (some (⟨none⟩,u.2)))))
 (some (⟨none⟩,1))
open en in
instance Rf (O:Trace) (J:Sl (Sl Int)):Fc Sy cL (en O J):=Fc.NE (λr:(yF ByteArray Bool)×Int=>[enc r.1,.int .i64 r.2]) 56 [enc O,enc J] (dR 2 2 O (bN 9 λab _=>eC 4 17 (bU 4 J (bD 4 21 bg (gW (F:=ja 80 [.fptr (cells O)] (λz=>oP z O) nN.tT J) 5 λad _=>bD 3 25 bg (bN 7 λu _=>eC 14 35 (bN 6 λae _=>Dj 5 (λoo=>(bF [Cv 1 J,Bv 17 false,Bv 21 false,Bv 25 false,Cv 6 u.1,Iv 7 u.2,Bv 35 false,Cv 8 oo] [Xb 2 O])) λC _=>bU 10 J (fJ 5 (λD=>(bF [Cv 6 u.1,Kv 8 C,(9,.mp 39),(10,.mp 40),Cv 41 J,Iv 42 (len J),Iv 43 D.1] [(39,iX D.2),(40,iX ([]:Mo ByteArray Bool))])) (λB=>(1,(bF [Cv 6 u.1,Kv 8 C,(9,.mp 39),(10,.mp 40)] [(39,iX B),(40,iX ([]:Mo ByteArray Bool))]))) (λD=>bD 7 44 (b9 7 λaf _=>bN 7 λX _=>KD 0 39 D.2 X true bg) bg) (λB=>bU 6 u.1 (fJ 6 (λw=>(bF [Cv 6 u.1,Kv 8 C,(9,.mp 39),(10,.mp 40),Iv 13 w.1] [(39,iX B),(40,iX w.2)])) (λL=>(3,(bF [(10,.mp 40)] [(40,iX L)]))) (λw=>bD 8 55 (b9 9 λG _=>bU 8 u.1 (bU 9 G (fJ 5 (λI=>(bF [Cv 6 u.1,Kv 8 C,(9,.mp 39),(10,.mp 40),Iv 13 w.1,Cv 14 G,Bv 15 I.1,Iv 68 (len G),Iv 69 I.2] [(39,iX B),(40,iX w.2)])) (λQ=>(5,(bF [Cv 6 u.1,Kv 8 C,(9,.mp 39),(10,.mp 40),Iv 13 w.1,Cv 14 G,Bv 15 Q] [(39,iX B),(40,iX w.2)]))) (λI=>bD 7 70 (cB 14 13 [16,73] 86 (bD 14 73 (bH 13) (bN 3 λah _=>cB 1 7 [16,78] 85 (bD 1 78 (bN 3 λY _=>bN 0 λS _=>Jm 0 40 w.2 S false (bH 1)) (bH 7)) λZ=>bH 1)) λaa=>bg) bg) (λQ=>bN 5 λT _=>cB 2 6 [14,92] 98 (bD 2 92 (bN 2 λU _=>Jm 0 39 B U false (bH 2)) (bH 6)) λW=>KD 0 40 w.2 T W bg)))) bg) (λL=>bg))))) bg)))) bg))
def jl (B:cz):Option (Sl Int):=
 (mP (len B.needs) (0:Int)).bind λu=>
 some u
theorem oI:yS Sy cL 58 (λB:cz=>[.fptr (cells B)]) (λz=>jl z):=yS.mk' (rJ (Tx 58)) (λB=>bU 11 B.needs (I4 0 8 λu _=>bg))
def ou (D:Trace) (G:Sl (Sl Int)):Option (Bool×Int):=
 (en D G).bind λu=>
 br (u.2==0)
 ((gz D).bind λw=>
 (w).bind λz=>
 ((jl z).bind Sl.whole).bind λB=>
 (iS B).bind λC=>
 some ((!iZ (wD u.1) C false),0))
 (some (false,u.2))
instance S7 (B:Trace) (D:Sl (Sl Int)):Fc Sy cL (ou B D):=Fc.M 33 [enc B,enc D] (dR 2 2 B (bN 8 λu _=>eC 14 15 (bN 7 λC _=>Dj 0 (λG=>(bF [Iv 7 u.2,Bv 15 false,Cv 17 u.1,Cv 19 G] [Xb 2 B])) λw _=>G7 0 20 oI w λI _=>gW 0 λz _=>T_ 0 u.1 z false bg) bg))
def yo (B:Trace) (D:Sl (Sl Int)):Option (Bool×Int):=
 (ou B D).bind λu=>
 some (u.1,u.2)
instance Tc (B:Trace) (D:Sl (Sl Int)):Fc Sy cL (yo B D):=Fc.M 11 [enc B,enc D] (dR 2 2 B (bN 8 λu _=>bg))
def iw (B D:Sl Int):Option Bool:=
 (di D B).bind λu=>
 some u
instance E7 (B D:Sl Int):Fc Sy cL (iw B D):=Fc.M 21 [enc B,.fptr (cells D)] (bN 9 λu _=>bg)
def jq (B:Sl Int) (D:Sl (Sl Int)):Option Int:=
 (eP D (λz=>iw z B)).bind λu=>
 some u
instance HO (B:Sl Int) (D:Sl (Sl Int)):Fc Sy cL (jq B D):=Fc.M 19 [enc B,.fptr (cells D)] (dR 2 2 B (gW (F:=qf 21 [.fptr (cells B)] (λz=>iw z B) nN.tT D) 7 λu _=>bg))
namespace sX
def bt (a0 G:Sl Int) (D:Int) (B:Int):Option (Fw Int Unit Unit):=
 br (decide (B<D))
 ((idx a0 B).bind λu=>
 (idx G B).bind λw=>
 br (decide (u>w))
 (some (.r ()))
 (some (.n (IntKind.wrap .i64 (B+1)))))
 (some (.x ()))
def W1 (a0 G:Sl Int) (B D:Int):Option Bool:=
 (bR (λq:Int=>bt a0 G B q) D).bind (Fw.elim
 (λe=>some true)
 (λe=>some false))
end sX
def sX (a0 B:Sl Int):Option Bool:=
 br ((len a0)==(len B))
 (sX.W1 a0 B (len a0) 0)
 (some false)
open sX in
instance VK (a0 B:Sl Int):Fc Sy cL (sX a0 B):=Fc.M 22 [enc a0,enc B] (bU 9 a0 (bU 1 B (eC 3 10 (bU 7 a0 (dW 5 (λw=>(bF [Cv 0 a0,Cv 1 B,Iv 12 (len a0),Iv 13 w] [])) (λu=>(0,(bF [] []))) (λu=>(bF [Bv 4 false] [])) (λw=>bD 7 14 (b9 15 λz _=>b9 3 λC _=>bD 4 24 bg bg) bg) (λu=>bg) (λu=>bg))) bg)))
def kW (B:Sl (Sl Int)):Option (Sl (Sl Int)):=
 (Sl.isNil B).bind λu=>
 br u
 (some Sl.nil)
 ((nH (Sl.row []:Sl (Sl Int)) B).bind λw=>
 some w)
theorem wH:G9 Sy cL 42 (λB:Sl (Sl Int)=>[enc B]) (λz=>kW z):=G9.mk' (rJ (Tx 42)) (λB=>Ul 9 λu _=>bD 2 4 bg (u6 5 5 ([]:List (Sl Int)) (xh 1 5 7 λw _=>bg)))
namespace dA
def dH (c1:Sl Int) (J:Int) (D:Sl (Sl Int)) (W:Sl Int) (Y:Sl (Sl Int)) (aa ab:Int) (O:Sl Int) (U:Int) (ad:Trace) (G B:Int):Option (Fw (Int×Int) Int Empty):=
 br (decide (B<U))
 ((idx O B).bind λu=>
 some (.n (IntKind.wrap .i64 (G+u),IntKind.wrap .i64 (B+1))))
 (some (.x G))
def W3 (c1:Sl Int) (D:Int) (B:Sl (Sl Int)) (G:Sl Int) (O:Int) (U:Sl (Sl Int)) (W J:Int) (Y:Sl Int) (aa ab:Int) (ad:Trace):Option (Fw ((Sl (Sl Int))×Int) (Sl (Sl Int)) Empty):=
 (bR (λq:Int×Int=>dH c1 D B G U W J Y aa ad q.1 q.2) (O,ab)).bind (Fw.elim
 (λe=>(br (e==D)
 ((di c1 G).bind λu=>
 some (!u))
 (some false):Option Bool).bind λw=>
 br w
 ((gw B (G:Sl Int)).bind λz=>
 some (.n (z,IntKind.wrap .i64 (J+1))))
 (some (.n (B,IntKind.wrap .i64 (J+1)))))
 (λe=>Empty.elim e))
def bX (W:Sl Int) (D:Int) (J:Sl (Sl Int)) (O:Int) (U:Trace) (B:Sl (Sl Int)) (G:Int):Option (Fw ((Sl (Sl Int))×Int) (Sl (Sl Int)) Empty):=
 br (decide (G<O))
 ((idx J G).bind λu=>
 W3 W D B u 0 J O G u (len u) 0 U)
 (some (.x B))
def W2 (W:Sl Int) (D:Int) (B J:Sl (Sl Int)) (O U:Int) (G:Trace):Option Bool:=
 (bR (λq:(Sl (Sl Int))×Int=>bX W D J O G q.1 q.2) (B,U)).bind (Fw.elim
 (λe=>(ou G e).bind λu=>
 (br (u.2==0)
 (some (!u.1))
 (some false):Option Bool).bind λw=>
 some w)
 (λe=>Empty.elim e))
def bt (W:Sl Int) (G:Sl (Sl Int)) (J:Sl Int) (O:Int) (U:Trace) (B D:Int):Option (Fw (Int×Int) Int Empty):=
 br (decide (D<O))
 ((idx J D).bind λu=>
 some (.n (IntKind.wrap .i64 (B+u),IntKind.wrap .i64 (D+1))))
 (some (.x B))
def W1 (W:Sl Int) (B:Sl (Sl Int)) (D:Int) (J:Sl Int) (O U:Int) (G:Trace):Option Bool:=
 (bR (λq:Int×Int=>bt W B J O G q.1 q.2) (D,U)).bind (Fw.elim
 (λe=>(kW B).bind λw=>
 (dP G).bind λu=>
 dA.W2 W e w u.1 (len u.1) 0 G)
 (λe=>Empty.elim e))
end dA
def dA (G:Trace) (D:Sl Int) (B:Sl (Sl Int)):Option Bool:=
 dA.W1 D B 0 D (len D) 0 G
open dA in
instance OQ (G:Trace) (D:Sl Int) (B:Sl (Sl Int)):Fc Sy cL (dA G D B):=Fc.M 23 [enc G,enc D,enc B] (dR 2 3 G (bU 12 D (fJ 5 (λI=>(bF [Cv 1 D,Cv 2 B,Pv 3,Iv 7 I.1,Cv 20 D,Iv 21 (len D),Iv 22 I.2] [Xb 3 G])) (λC=>(0,(bF [Cv 1 D,Cv 2 B,Pv 3,Iv 7 C] [Xb 3 G]))) (λI=>bD 7 23 (b9 7 λS _=>bg) bg) (λC=>UT 5 31 wH B λT _=>bN 6 λu _=>bU 11 u.1 (fJ 6 (λw=>(bF [Cv 1 D,Pv 3,Iv 7 C,Ov 10,Cv 37 u.1,Iv 38 (len u.1),Iv 39 w.2] [Xb 3 G,Lb 2010 w.1])) (λL=>(2,(bF [Pv 3,Ov 10] [Xb 3 G,Lb 2010 L]))) (λw=>bD 8 40 (b9 7 λz _=>bU 13 z (fJ 6 (λJ=>(bF [Cv 1 D,Pv 3,Iv 7 C,Ov 10,Cv 14 z,Iv 15 J.1,Cv 37 u.1,Iv 38 (len u.1),Iv 39 w.2,Cv 43 z,Iv 44 (len z),Iv 45 J.2] [Xb 3 G,Lb 2010 w.1])) (λO=>(4,(bF [Cv 1 D,Pv 3,Iv 7 C,Ov 10,Cv 14 z,Iv 15 O,Cv 37 u.1,Iv 38 (len u.1),Iv 39 w.2] [Xb 3 G,Lb 2010 w.1]))) (λJ=>bD 8 46 (b9 7 λU _=>bg) bg) (λO=>cB 8 5 [56] 61 (bD 8 56 (bN 2 λW _=>bH 2) (bH 5)) λX=>bD 2 61 (u6 4 64 ([z]:List (Sl Int)) (mm 0 2010 64 65 λY _=>bg)) bg))) bg) (λL=>gW 6 λZ _=>cB 12 3 [18,75] 78 (bD 12 75 (bH 3) (bH 3)) λQ=>bg))))))
namespace fZ
def bt (D:Sl (Sl aZ)) (G:Int) (J:Sl Int) (B:Int):Option (Fw ((Sl Int)×Int) (Sl Int) Empty):=
 br (decide (B<G))
 ((idx D B).bind λu=>
 (Sl.mj J B).bind λw=>
 (Sl.put J w (len u:Int)).bind λz=>
 some (.n (z,IntKind.wrap .i64 (B+1))))
 (some (.x J))
def W1 (J:Sl Int) (B:Sl (Sl aZ)) (D G:Int):Option (Sl Int):=
 (bR (λq:(Sl Int)×Int=>bt B D q.1 q.2) (J,G)).bind (Fw.elim
 (λe=>some e)
 (λe=>Empty.elim e))
end fZ
def fZ (B:cz):Option (Sl Int):=
 ((jl B).bind Sl.whole).bind λu=>
 fZ.W1 u B.needs (len B.needs) 0
open fZ in
instance Pg (B:cz):Fc Sy cL (fZ B):=Fc.N 66 [.fptr (cells B)] (G7 8 7 oI B λC _=>bU 10 B.needs (fJ 6 (λu=>(bF [Ov 3,Cv 11 B.needs,Iv 12 (len B.needs),Iv 13 u.2] [Lb 2003 u.1])) (λw=>(0,(bF [Ov 3] [Lb 2003 w]))) (λu=>bD 8 14 (b9 8 λz _=>bU 9 z (nF .i64 0 2003 λD _=>ym 0 2003 (.int .i64 (len z)) λG _=>bg)) bg) (λw=>bg)))
namespace i_
def bt (G:Int) (B:Sl Int) (D:Int):Option (Fw ((Sl Int)×Int) (Sl Int) Empty):=
 br (decide (D<G))
 ((Sl.mj B D).bind λu=>
 (Sl.put B u (D:Int)).bind λw=>
 some (.n (w,IntKind.wrap .i64 (D+1))))
 (some (.x B))
def W1 (B:Sl Int) (D G:Int):Option (Sl Int):=
 (bR (λq:(Sl Int)×Int=>bt D q.1 q.2) (B,G)).bind (Fw.elim
 (λe=>some e)
 (λe=>Empty.elim e))
end i_
def i_ (B:Int):Option (Sl Int):=
 (mP B (0:Int)).bind λu=>
 i_.W1 u (len u) 0
open i_ in
instance SR (B:Int):Fc Sy cL (i_ B):=Fc.N 68 [.int .i64 B] (I4 8 6 λw _=>Ck 7 6 w (fJ 6 (λu=>(bF [Ov 3,Iv 8 (len w),Iv 9 u.2] [Lb 2003 u.1])) (λz=>(0,(bF [Ov 3] [Lb 2003 z]))) (λu=>bD 8 10 (nF .i64 15 2003 λC _=>ym 0 2003 (.int .i64 u.2) λD _=>bg) bg) (λz=>bg)))
def kA (J:Int) (W:Option cz) (O:Sl (Sl Int)) (U:Int) (Y:Sl Int):Option Bool:=
 (idx O U).bind λu=>
 (W).bind λw=>
 (od w u J).bind λz=>
 (br z
 ((idx O U).bind λB=>
 (sW B J).bind λC=>
 (di Y C).bind λD=>
 some D)
 (some false):Option Bool).bind λG=>
 some G
instance Jx (B:Int) (O:Option cz) (D:Sl (Sl Int)) (G:Int) (J:Sl Int):Fc Sy cL (kA B O D G J):=Fc.M 69 [.int .i64 B,.fptr (cells O),.fptr (cells D),.fptr (cells G),.fptr (cells J)] (b9 10 λw _=>Dj 2 (λz=>(bF [Iv 0 B,Kv 2 D,Kv 3 G,Kv 4 J,Cv 7 z,Cv 11 w,Iv 12 B] [])) λC _=>gW 0 λI _=>Ca 1 9 [22,21,13] (λu=>(bF [Bv 23 u] [])) (bD 1 14 (b9 3 λL _=>bN 2 λQ _=>gW 0 λS _=>bH 1) (bH 9)) λu=>bg)
namespace gy
def bt (D:Sl Int) (G:Int) (B:Int) (p1:Int->Option Bool):Option (Fw Int Unit Int):=
 br (decide (B<G))
 ((idx D B).bind λu=>
 (p1 u).bind λw=>
 br w
 (some (.r B))
 (some (.n (IntKind.wrap .i64 (B+1)))))
 (some (.x ()))
def W1 (B:Sl Int) (D G:Int) (p1:Int->Option Bool):Option Int:=
 (bR (λq:Int=>bt B D q p1) G).bind (Fw.elim
 (λe=>some (-1))
 (λe=>some e))
end gy
def gy (B:Sl Int) (p1:Int->Option Bool):Option Int:=
 gy.W1 B (len B) 0 p1
open gy in
abbrev wq (g1:FuncId) (e1:List V) (p1:Int->Option Bool) (h1:nN Sy cL g1 [] e1 (λz:Int=>[.int .i64 z]) (λr:Bool=>[.bool r]) p1 true) (B:Sl Int):Fc Sy cL (gy B p1):=Fc.M 67 [enc B,.clo g1 [] e1] (bU 9 B (dW 5 (λw=>(bF [Cv 0 B,(1,.v (.clo g1 [] e1)),Iv 7 (len B),Iv 8 w] [])) (λu=>(0,(bF [] []))) (λu=>(bF [Iv 4 u] [])) (λw=>bD 7 9 (b9 16 λC _=>xZ 1 h1.f C λD _=>bD 2 16 bg bg) bg) (λu=>bg) (λu=>bg)))
namespace fD
def bt (J:Sl (Sl Int)) (O:Int) (G:cz) (U:Sl (Sl Int)) (D:Sl Int) (B:Int):Option (Fw ((Sl Int)×Int) (Sl Int) Unit):=
 br (decide (B<O))
 ((idx J B).bind λw=>
 (i_ (len G.needs)).bind λC=>
 (gy C (λz=>kA z (some G:Option cz) U B w)).bind λu=>
 br (decide (u<0))
 (some (.r ()))
 ((gw D (u:Int)).bind λI=>
 some (.n (I,IntKind.wrap .i64 (B+1)))))
 (some (.x D))
def W1 (B:Sl Int) (D:Sl (Sl Int)) (G J:Int) (O:cz) (U:Sl (Sl Int)):Option ((Sl Int)×Bool):=
 (bR (λq:(Sl Int)×Int=>bt D G O U q.1 q.2) (B,J)).bind (Fw.elim
 (λe=>some (e,true))
 (λe=>some ((Sl.nil:Sl Int),false)))
end fD
def fD (B:cz) (r1:Sl (Sl Int)):Option ((Sl Int)×Bool):=
 (br ((len r1)==0)
 (some true)
 ((idx r1 0).bind λw=>
 (jl B).bind λz=>
 (di w z).bind λC=>
 some (!C)):Option Bool).bind λD=>
 (br D
 (some true)
 ((idx r1 (IntKind.wrap .i64 ((len r1)-1))).bind λG=>
 (fZ B).bind λI=>
 (di G I).bind λJ=>
 some (!J)):Option Bool).bind λL=>
 br L
 (some ((Sl.nil:Sl Int),false))
 ((fS r1 (some 1) none).bind λu=>
 fD.W1 (Sl.nil:Sl Int) u (len u) 0 B r1)
open fD in
instance Nv (B:cz) (r1:Sl (Sl Int)):Fc Sy cL (fD B r1):=Fc.N 45 [.fptr (cells B),enc r1] (dR 3 3 r1 (bU 8 r1 (Ca 2 8 [19,18] (λG=>(bF [Pv 2,Pv 3,Bv 21 G] [(2,.box [cp B]),(3,.box [cv r1])])) (bD 2 13 (bH 8) (b9 1 λQ _=>Vh 2 oI B λS _=>gW 0 λT _=>bH 2)) λG=>Ca 1 11 [31,30,19,18] (λI=>(bF [Pv 2,Pv 3,Bv 33 I] [(2,.box [cp B]),(3,.box [cv r1])])) (bD 1 22 (bH 11) (bU 2 r1 (b9 1 λU _=>bN 2 λW _=>gW 0 λX _=>bH 2))) λI=>bD 2 33 bg (BN 12 true false [.int .i64 1] λD _=>bU 0 D (dW 6 (λu=>(bF [Pv 2,Pv 3,Ov 6,Cv 35 D,Iv 36 (len D),Iv 37 u.2] [(2,.box [cp B]),(3,.box [cv r1]),Lb 2006 u.1])) (λC=>(0,(bF [Ov 6] [Lb 2006 C]))) (λC=>(bF [Ov 4,Bv 5 false] [Lb 2004 (Sl.nil:Sl Int)])) (λu=>bD 8 38 (b9 8 λw _=>nK 4 8 0 w (bU 8 B.needs (bN 0 λJ _=>gW (F:=wq 69 [.fptr (cells (some B:Option cz)),.fptr (cells r1),.fptr (cells u.2),.fptr (cells w)] (λz=>kA z (some B:Option cz) r1 u.2 w) nN.tT J) 1 λL _=>bD 10 51 bg (mm 7 2006 54 55 λO _=>bg)))) bg) (λC=>bg) (λC=>bg))))))
def zX (D:Trace) (r1:Sl (Sl Int)):Option Bool:=
 (dO D).bind λu=>
 br u
 ((gz D).bind λw=>
 (w).bind λz=>
 (fD z r1).bind λB=>
 some B.2)
 (some false)
instance Wj (B:Trace) (r1:Sl (Sl Int)):Fc Sy cL (zX B r1):=Fc.M 24 [enc B,enc r1] (dR 2 2 B (bN 7 λu _=>eC 3 9 (bN 6 λw _=>Dj 1 (λz=>(bF [Bv 9 false,Cv 12 z,Cv 13 r1] [Xb 2 B])) λC _=>bN 0 λD _=>bg) bg))
def js (B D:Sl Int):Option Bool:=
 (di D B).bind λu=>
 some u
instance HM (B D:Sl Int):Fc Sy cL (js B D):=Fc.M 25 [enc B,.fptr (cells D)] (bN 9 λu _=>bg)
namespace c6
def bX (l1:Sl Bool) (r2 b7:Sl (Sl Int)) (U:Int) (G:Sl Int) (Y:Sl (Sl Int)) (aa ab:Int) (J:Sl (Sl Int)) (O:Int) (ad:Trace) (W:Sl (Sl Int)) (B:Sl (Sl Int)) (D:Int):Option (Fw ((Sl (Sl Int))×Int) (Sl (Sl Int)) Empty):=
 br (decide (D<O))
 ((idx J D).bind λu=>
 (di G u).bind λw=>
 (br w
 (some false)
 ((sX u G).bind λz=>
 some z):Option Bool).bind λC=>
 br C
 ((gw B (u:Sl Int)).bind λI=>
 some (.n (I,IntKind.wrap .i64 (D+1))))
 (some (.n (B,IntKind.wrap .i64 (D+1)))))
 (some (.x B))
def W2 (l1:Sl Bool) (r2 b7:Sl (Sl Int)) (B:Int) (J:Sl Int) (D ab:Sl (Sl Int)) (ad O:Int) (U:Sl (Sl Int)) (W Y:Int) (aa:Trace) (G:Sl (Sl Int)):Option (Fw (Int×Int) Unit Unit):=
 (bR (λq:(Sl (Sl Int))×Int=>bX l1 r2 b7 B J ab ad O U W aa G q.1 q.2) (D,Y)).bind (Fw.elim
 (λe=>(dA aa J e).bind λu=>
 br u
 (some (.n (B,IntKind.wrap .i64 (O+1))))
 (some (.r ())))
 (λe=>Empty.elim e))
def dH (O:Sl Bool) (U G:Sl (Sl Int)) (J:Int) (D:Sl (Sl Int)) (B:Int):Option (Fw Int Unit Bool):=
 br (decide (B<J))
 ((idx G B).bind λu=>
 (jq u D).bind λw=>
 (br (decide (w>=0))
 ((idx O w).bind λC=>
 some C)
 (some false):Option Bool).bind λI=>
 br I
 ((fc U (λz=>js z u)).bind λL=>
 some (.r L))
 (some (.n (IntKind.wrap .i64 (B+1)))))
 (some (.x ()))
def W3 (O:Sl Bool) (U D:Sl (Sl Int)) (G J:Int) (B:Sl (Sl Int)):Option Bool:=
 (bR (λq:Int=>dH O U D G B q) J).bind (Fw.elim
 (λe=>some false)
 (λe=>some e))
def bt (Y:Sl Bool) (r2 U J:Sl (Sl Int)) (O:Int) (W:Trace) (B:Sl (Sl Int)) (D G:Int):Option (Fw (Int×Int) Unit Unit):=
 br (decide (G<O))
 ((idx J G).bind λw=>
 (jq w B).bind λu=>
 (br (decide (u<=D))
 (some true)
 ((idx Y u).bind λz=>
 some (!z)):Option Bool).bind λC=>
 br C
 (some (.r ()))
 (W2 Y r2 U u w (Sl.nil:Sl (Sl Int)) J O G U (len U) 0 W B))
 (some (.x ()))
def W1 (W:Sl Bool) (r2 Y:Sl (Sl Int)) (D:Int) (J:Sl (Sl Int)) (O U:Int) (G:Trace) (B:Sl (Sl Int)):Option Bool:=
 (bR (λq:Int×Int=>bt W r2 Y J O G B q.1 q.2) (D,U)).bind (Fw.elim
 (λe=>(zX G r2).bind λu=>
 br u
 (c6.W3 W Y r2 (len r2) 0 B)
 (some true))
 (λe=>some false))
end c6
def c6 (B:Trace) (J:Sl Bool) (r2:Sl (Sl Int)):Option Bool:=
 (rQ).bind λL=>
 (br L
 ((jG B 14).bind λO=>
 some (!O))
 (some true):Option Bool).bind λQ=>
 (br Q
 (some true)
 (some (decide ((len J)>500))):Option Bool).bind λS=>
 (br S
 (some true)
 ((sx r2).bind λT=>
 some (!T)):Option Bool).bind λU=>
 (br U
 (some true)
 ((rU B).bind λW=>
 some (!W)):Option Bool).bind λX=>
 (br X
 (some true)
 ((vq B).bind λY=>
 some (!Y)):Option Bool).bind λC=>
 br C
 ((rQ).bind λD=>
 some D)
 ((ug B J).bind λu=>
 br (u.2==0)
 ((dP B).bind λw=>
 (yo B u.1).bind λz=>
 (br (z.2==0)
 (some (!z.1))
 (some true):Option Bool).bind λG=>
 (br G
 (some true)
 (some (!((len w.1)==(len J)))):Option Bool).bind λI=>
 br I
 (some false)
 (c6.W1 J r2 u.1 (-1) u.1 (len u.1) 0 B w.1))
 (some ((len u.1)==0)))
open c6 in
instance xS (O:Trace) (D:Sl Bool) (r2:Sl (Sl Int)):Fc Sy cL (c6 O D r2):=Fc.M 4 [enc O,enc D,enc r2] (dR 2 3 O (bN 6 λap _=>cB 2 4 [26] 30 (eC 2 26 (bN 1 λaq _=>bH 2) (bH 4)) λar=>cB 1 4 [31] 35 (bD 1 31 (bH 4) (bU 1 D (bH 2))) λau=>cB 1 4 [36] 40 (bD 1 36 (bH 4) (bN 1 λav _=>bH 2)) λaw=>cB 1 4 [41] 45 (bD 1 41 (bH 4) (bN 1 λax _=>bH 2)) λay=>cB 1 4 [46] 50 (bD 1 46 (bH 4) (bN 1 λaA _=>bH 2)) λW=>bD 2 50 (bN 3 λX _=>bg) (bN 7 λu _=>eC 14 59 (bN 6 λw _=>nK 4 9 0 w.1 (bN 7 λY _=>cB 13 3 [11,76] 79 (eC 13 76 (bH 3) (bH 3)) λZ=>cB 1 6 [80] 86 (bD 1 80 (bH 6) (bU 1 w.1 (bU 1 D (bH 2)))) λaa=>bD 2 86 bg (bU 18 u.1 (dW 5 (λB=>(bF [Cv 1 D,Cv 2 r2,Pv 3,Cv 7 u.1,(13,.clo 19 [] [.ptr 9 0]),Iv 14 B.1,Cv 88 u.1,Iv 89 (len u.1),Iv 90 B.2] [Xb 3 O,(9,.box [cv w.1])])) (λL=>(0,(bF [Cv 1 D,Cv 2 r2,Pv 3,Cv 7 u.1,(13,.clo 19 [] [.ptr 9 0])] [Xb 3 O,(9,.box [cv w.1])]))) (λL=>(bF [Bv 6 false] [])) (λB=>bD 7 91 (b9 7 λI _=>gW 8 λJ _=>cB 10 6 [100] 106 (bD 10 100 (bH 6) (b9 2 λab _=>bH 3)) λad=>bD 2 106 bg (bU 18 u.1 (fJ 6 (λQ=>(bF [Cv 1 D,Cv 2 r2,Pv 3,Cv 7 u.1,(13,.clo 19 [] [.ptr 9 0]),Iv 14 J,Cv 16 I,Ov 18,Cv 88 u.1,Iv 89 (len u.1),Iv 90 B.2,Cv 108 u.1,Iv 109 (len u.1),Iv 110 Q.2] [Xb 3 O,(9,.box [cv w.1]),Lb 2018 Q.1])) (λS=>(2,(bF [Cv 1 D,Cv 2 r2,Pv 3,Cv 7 u.1,(13,.clo 19 [] [.ptr 9 0]),Iv 14 J,Cv 16 I,Ov 18,Cv 88 u.1,Iv 89 (len u.1),Iv 90 B.2] [Xb 3 O,(9,.box [cv w.1]),Lb 2018 S]))) (λQ=>bD 8 111 (b9 7 λT _=>bN 8 λae _=>cB 2 4 [118] 122 (eC 2 118 (bH 4) (bN 2 λaf _=>bH 1)) λah=>bD 2 122 (u6 4 125 ([T]:List (Sl Int)) (mm 0 2018 125 126 λai _=>bg)) bg) bg) (λS=>gW 7 λaj _=>eC 3 132 bg bg)))) bg) (λL=>bN 7 λak _=>eC 3 137 (bU 7 r2 (dW 5 (λU=>(bF [Cv 1 D,Cv 7 u.1,(13,.clo 19 [] [.ptr 9 0]),Cv 138 r2,Iv 139 (len r2),Iv 140 U] [(9,.box [cv w.1])])) (λG=>(4,(bF [] []))) (λG=>(bF [Bv 6 G] [])) (λU=>bD 7 141 (b9 7 λC _=>nK 2 22 0 C (gW 6 λal _=>cB 8 5 [23,149] 154 (bD 8 149 (b9 2 λam _=>bH 2) (bH 5)) λan=>bD 2 154 (gW (F:=ja 25 [.fptr (cells C)] (λz=>js z C) nN.tT u.1) 5 λao _=>bg) bg)) bg) (λG=>bg) (λG=>bg))) bg) (λL=>bg))))) (bU 4 u.1 bg))))
end
end Go.VE
