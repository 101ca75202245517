/-
 Each function of the program that the law reaches: its plain form, and that it comes to that.
-/
import Derived.Test.YtdoibkkdaojjpaaGreatK1
import Derived.Test.YtdoibkkdaojjpaaGreatT1
set_option linter.all false
namespace Go.VE
structure Var where
 name:ByteArray
 init_:Int
 deriving Inhabited
instance:aD Var where
 cells x:=[.str x.name,.int .i64 x.init_]
 agg:=true
 size:=2
 len _:=rfl
 good x:=by simp only[V.bD,V.good,gP,Bool.and_self]
 one x:=by simp only[List.all_cons,List.all_nil,lB,ki,lC,jZ,Bool.and_self]
 plain h:=by cases h
instance {n:Nat}:Lv (n+0) Var:=⟨λx=>by
 show V.bU (n+0) [.str x.name,.int .i64 x.init_]=true;simp only[fB,gQ,mN,kT,mV,lX,Bool.and_self]⟩
structure Assign where
 var:Int
 value:Int
 deriving Inhabited
instance:aD Assign where
 cells x:=[.int .i64 x.var,.int .i64 x.value]
 agg:=true
 size:=2
 len _:=rfl
 good x:=by simp only[V.bD,V.good,gP,Bool.and_self]
 one x:=by simp only[List.all_cons,List.all_nil,lB,ki,lC,jZ,Bool.and_self]
 plain h:=by cases h
instance {n:Nat}:Lv (n+0) Assign:=⟨λx=>by
 show V.bU (n+0) [.int .i64 x.var,.int .i64 x.value]=true;simp only[fB,gQ,mN,kT,mV,lX,Bool.and_self]⟩
structure Event where
 kind:Int
 peer:Int
 message:Int
 time:Int
 assign:Sl Assign
 deriving Inhabited
instance:aD Event where
 cells x:=[.int .i64 x.kind,.int .i64 x.peer,.int .i64 x.message,.int .i64 x.time,enc x.assign]
 agg:=true
 size:=5
 len _:=rfl
 good x:=by simp only[V.bD,V.good,gP,Bool.and_self]
 one x:=by simp only[List.all_cons,List.all_nil,lB,ki,lC,jZ,Bool.and_self]
 plain h:=by cases h
instance {n:Nat}:Lv (n+1) Event:=⟨λx=>by
 show V.bU (n+1) [.int .i64 x.kind,.int .i64 x.peer,.int .i64 x.message,.int .i64 x.time,enc x.assign]=true;simp only[fB,gQ,mN,kT,mV,lX,Bool.and_self]⟩
structure bA where
 name:ByteArray
 vars:Sl Var
 events:Sl Event
 deriving Inhabited
instance:aD bA where
 cells x:=[.str x.name,enc x.vars,enc x.events]
 agg:=true
 size:=3
 len _:=rfl
 good x:=by simp only[V.bD,V.good,gP,Bool.and_self]
 one x:=by simp only[List.all_cons,List.all_nil,lB,ki,lC,jZ,Bool.and_self]
 plain h:=by cases h
instance {n:Nat}:Lv (n+2) bA:=⟨λx=>by
 show V.bU (n+2) [.str x.name,enc x.vars,enc x.events]=true;simp only[fB,gQ,mN,kT,mV,lX,Bool.and_self]⟩
structure Trace where
 procs:Sl bA
 deriving Inhabited
instance:aD Trace where
 cells x:=[enc x.procs]
 agg:=true
 size:=1
 len _:=rfl
 good x:=by simp only[V.bD,V.good,gP,Bool.and_self]
 one x:=by simp only[List.all_cons,List.all_nil,lB,ki,lC,jZ,Bool.and_self]
 plain h:=by cases h
instance {n:Nat}:Lv (n+3) Trace:=⟨λx=>by
 show V.bU (n+3) [enc x.procs]=true;simp only[fB,gQ,mN,kT,mV,lX,Bool.and_self]⟩
structure aI where
 from_:af
 to_:af
 deriving Inhabited
instance:aD aI where
 cells x:=[.int .i64 x.from_.proc,.int .i64 x.from_.index,.int .i64 x.to_.proc,.int .i64 x.to_.index]
 agg:=true
 size:=4
 len _:=rfl
 good x:=by simp only[V.bD,V.good,gP,Bool.and_self]
 one x:=by simp only[List.all_cons,List.all_nil,lB,ki,lC,jZ,Bool.and_self]
 plain h:=by cases h
instance {n:Nat}:Lv (n+0) aI:=⟨λx=>by
 show V.bU (n+0) [.int .i64 x.from_.proc,.int .i64 x.from_.index,.int .i64 x.to_.proc,.int .i64 x.to_.index]=true;simp only[fB,gQ,mN,kT,mV,lX,Bool.and_self]⟩
structure bl where
 lengths:Sl Int
 need:Sl (Sl af)
 deriving Inhabited
instance:aD bl where
 cells x:=[enc x.lengths,enc x.need]
 agg:=true
 size:=2
 len _:=rfl
 good x:=by simp only[V.bD,V.good,gP,Bool.and_self]
 one x:=by simp only[List.all_cons,List.all_nil,lB,ki,lC,jZ,Bool.and_self]
 plain h:=by cases h
instance {n:Nat}:Lv (n+2) bl:=⟨λx=>by
 show V.bU (n+2) [enc x.lengths,enc x.need]=true;simp only[fB,gQ,mN,kT,mV,lX,Bool.and_self]⟩
structure aO where
 truths:Sl Bool
 cuts:Sl (Sl Int)
 places:xw (ai 8 Int) Int
 deriving Inhabited
instance:aD aO where
 cells x:=[enc x.truths,enc x.cuts,enc x.places]
 agg:=true
 size:=3
 len _:=rfl
 good x:=by simp only[V.bD,V.good,gP,Bool.and_self]
 one x:=by simp only[List.all_cons,List.all_nil,lB,ki,lC,jZ,Bq,Bool.and_self]
 plain h:=by cases h
instance {n:Nat}:Lv (n+2) aO:=⟨λx=>by
 show V.bU (n+2) [enc x.truths,enc x.cuts,enc x.places]=true;simp only[fB,gQ,mN,kT,mV,lX,Ox,Bool.and_self]⟩
structure aa where
 holds:Bool
 a:Sl Int
 b:Sl Int
 e:Int
 deriving Inhabited
instance:aD aa where
 cells x:=[.bool x.holds,enc x.a,enc x.b,.int .i64 x.e]
 agg:=true
 size:=4
 len _:=rfl
 good x:=by simp only[V.bD,V.good,gP,Bool.and_self]
 one x:=by simp only[List.all_cons,List.all_nil,lB,ki,lC,jZ,Bool.and_self]
 plain h:=by cases h
instance {n:Nat}:Lv (n+1) aa:=⟨λx=>by
 show V.bU (n+1) [.bool x.holds,enc x.a,enc x.b,.int .i64 x.e]=true;simp only[fB,gQ,mN,kT,mV,lX,Bool.and_self]⟩
def f_ (p:Int):Int->List Event->List (af×Event)
 | _,[]=>[]
 | j,e::r=>(⟨p,j+1⟩,e)::f_ p (j+1) r
def dY:Int->List bA->List (af×Event)
 | _,[]=>[]
 | i,p::r=>f_ i 0 p.events.l++dY (i+1) r
def Dc (n:Nat):Bool:=decide (n<9223372036854775807)
def gF (t:Trace):Option (List (af×Event)):=
 if Dc t.procs.l.length&&t.procs.l.all λp=>Dc p.events.l.length then some (dY 0 t.procs.l)else none
end Go.VE
namespace Go.VE
def UF:List (Nat×GD):=[
 (102,⟨0x22226260002000201,[],[(6,[.keep [0,1,7,8] []],[.keep [0,1,7,8] []]),(12,[.keep [] []],[]),(22,[.keep [4] []],[]),(27,[.keep [4] []],[])]⟩),
 (49,⟨0x226221,[],[]⟩),
 (50,⟨0x2222212,[],[]⟩),
 (9,⟨0x26cc44444c4444044022220220644426444022220262202202000020012,[],[(8,[.keep [1,3,7,8,9] [1]],[.keep [1,3,7,8,9] [1]]),(14,[.keep [1,3] [1]],[]),(26,[.keep [2] []],[]),(31,[.keep [2] []],[])]⟩),
 (157,⟨0x26c4444026402201,[],[]⟩),
 (158,⟨0x26442201,[],[]⟩),
 (137,⟨0x222064c002644c00222600620000644402644022201,[],[(8,[.keep [2] []],[]),(14,[.keep [0,3] []],[.keep [0,3] []]),(20,[.keep [] []],[]),(28,[.keep [2] []],[]),(33,[.keep [2] []],[])]⟩),
 (138,⟨0x26442201,[],[]⟩),
 (103,⟨0x2222222022226020222062260202260206000022226020622000022202220620226020600002220202602012,[],[(10,[.keep [4] []],[]),(16,[.keep [1,2,5,6] [2,5]],[.keep [1,2,5,6] [2,5]]),(22,[.keep [5] [5]],[]),(30,[.keep [4] []],[]),(39,[.keep [4] []],[]),(45,[.keep [5,7] [5]],[.keep [5,7] [5]]),(51,[.keep [5] [5]],[]),(60,[.keep [4] []],[]),(66,[.keep [5,7,8] [5]],[.keep [5,7,8] [5]]),(72,[.keep [5,7] [5]],[]),(80,[.keep [4] []],[]),(88,[.keep [4] []],[]),(97,[.keep [4] []],[]),(101,[.keep [4] []],[])]⟩),
 (104,⟨0x2222220620226020600006444026c444c04040222020260206220000222006cc44c4444c04040440264402220064402644026c04026c44040264402644022200644022202202026022602012,[],[(13,[.keep [6] []],[]),(20,[.keep [6] []],[]),(22,[.keep [1,2,3,7] [3,7]],[]),(28,[.keep [6] []],[]),(36,[.keep [6] []],[]),(42,[.keep [1,3,7,8] [3,7]],[.keep [1,3,7,8] [3,7]]),(48,[.keep [] []],[]),(59,[.keep [6] []],[]),(64,[.keep [1,3,7,8,9,10] [3,7,9]],[.keep [1,3,7,8,9,10] [3,7,9]]),(70,[.keep [1,3,7,8] [3,7]],[]),(78,[.keep [6] []],[]),(84,[.keep [6] []],[])]⟩),
 (139,⟨0x2262222262022022,[],[]⟩),
 (127,⟨0x20222222262226c0442602020260226020622260200062200002,[],[(6,[.keep [1,2,3,6,7] [3,6]],[.keep [1,2,3,6,7] [3,6]]),(12,[.keep [6] [6]],[]),(18,[.keep [1,2,3,6,7,8] [3,6]],[.keep [1,2,3,6,7,8] [3,6]]),(24,[.keep [1,2,3,6,7] [3,6]],[]),(34,[.keep [6] [6]],[]),(40,[.keep [6] [6]],[])]⟩),
 (105,⟨0x2222226cc40444cc4040444022202602262020622262020000220060e20200022020600122,[],[(30,[.keep [2,3,5,6,7] [2,3,5]],[.keep [2,3,5,6,7] [2,3,5]]),(36,[.keep [6] []],[])]⟩),
 (106,⟨0x22206222602026006220002222203622000622262002062202202026260022602062226020260062200002222012,[],[(6,[.canon (.s 3) 2003 1,.keep [1,3] [1,2003]],[.canon (.s 3) 2003 1,.keep [1,3] [1,2003]]),(14,[.canon (.s 3) 2003 1,.keep [1,3,4,5] [1,2003]],[.canon (.s 3) 2003 1,.keep [1,3,4,5] [1,2003]]),(20,[.canon (.s 3) 2003 1,.keep [1,3,4] [1,2003]],[]),(24,[.canon (.s 3) 2003 1,.keep [1,3,4,5] [1,2003]],[.canon (.s 3) 2003 1,.keep [1,3,4,5] [1,2003]]),(30,[.canon (.s 3) 2003 1,.keep [1,3,4,5] [1,2003]],[]),(43,[.canon (.s 3) 2003 1,.keep [1,3,4,5] [1,2003]],[]),(46,[.canon (.s 3) 2003 1,.keep [1,3,5] [1,2003]],[]),(53,[.canon (.s 3) 2003 1,.keep [1,3] [1,2003]],[]),(59,[.canon (.s 3) 2003 1,.keep [1,3,8] [1,2003]],[.canon (.s 3) 2003 1,.keep [1,3,8] [1,2003]]),(65,[.keep [] []],[]),(73,[.keep [2] []],[]),(78,[.keep [2] []],[])]⟩),
 (140,⟨0x22262622222202062026262202022200122,[],[(10,[.canon (.s 5) 2005 2,.keep [2,3,5] [2,3,2005]],[])]⟩),
 (51,⟨0x202222220222620260600206200622260200062200002020222222222220260020620062226020006220002222222226222202e0006222602000622000222222222026006220000206444022220102,[],[(8,[.keep [2,3] [2]],[]),(14,[.keep [1,2,4] [1,2]],[.keep [1,2,4] [1,2]]),(20,[.keep [1,2] [1,2]],[]),(30,[.keep [2,3] [2]],[]),(37,[.keep [1,2,6] [1,2]],[.keep [1,2,6] [1,2]]),(43,[.keep [1,2] [1,2]],[]),(49,[.keep [1,2,6,7] [1,2]],[.keep [1,2,6,7] [1,2]]),(55,[.keep [1,2,6] [1,2]],[]),(65,[.keep [2,3] [2]],[]),(73,[.keep [1,2,9] [1,2]],[.keep [1,2,9] [1,2]]),(79,[.keep [1,2] [1,2]],[]),(85,[.keep [1,2,9,10] [1,2]],[.keep [1,2,9,10] [1,2]]),(91,[.keep [1,2,9] [1,2]],[]),(103,[.keep [2,3] [2]],[]),(113,[.keep [2,3] [2]],[]),(119,[.keep [1,2,13] [1,2]],[.keep [1,2,13] [1,2]]),(125,[.keep [2] [2]],[]),(131,[.keep [1,2,13,14] [1,2]],[.keep [1,2,13,14] [1,2]]),(137,[.keep [1,2,13] [1,2]],[]),(147,[.keep [2,3] [2]],[]),(153,[.keep [2,3] [2]],[])]⟩),
 (10,⟨0x2222302022212,[],[]⟩),
 (142,⟨0x2236226200026201,[],[]⟩),
 (159,⟨0x22206c444c0404c0022260062000062202012,[],[(8,[.keep [4] []],[]),(14,[.keep [1,2,5] [2]],[.keep [1,2,5] [2]]),(20,[.keep [] []],[]),(28,[.keep [4] []],[]),(33,[.keep [4] []],[])]⟩),
 (160,⟨0x2222220626220202062202202026022602062600006200012,[],[(6,[.keep [1,2,5] [2]],[.keep [1,2,5] [2]]),(12,[.keep [] []],[]),(18,[.keep [1,2,5,6] [2]],[.keep [1,2,5,6] [2]]),(24,[.keep [1,2,5] [2]],[]),(39,[.keep [4] []],[]),(46,[.keep [4] []],[])]⟩),
 (141,⟨0x26c44260012,[],[]⟩),
 (108,⟨0x2222226260026cc000262226020260062000012,[],[(8,[.canon (.s 5) 2005 1,.keep [1,2,5,6] [2,2005]],[.canon (.s 5) 2005 1,.keep [1,2,5,6] [2,2005]]),(14,[.canon (.s 5) 2005 1,.keep [5] [2005]],[])]⟩),
 (28,⟨0x2222226260026200001,[],[(8,[.keep [0,3,4] []],[.keep [0,3,4] []]),(14,[.keep [3] []],[])]⟩),
 (143,⟨0x222262622260262600260062000262222620201,[],[(8,[.keep [4] []],[]),(14,[.keep [0,1,5] []],[.keep [0,1,5] []]),(20,[.keep [] []],[]),(28,[.keep [4] []],[]),(33,[.keep [4] []],[])]⟩),
 (115,⟨0x2220626002600620000620201,[],[(8,[.keep [4] []],[]),(14,[.keep [0,1,5] []],[.keep [0,1,5] []]),(20,[.keep [] []],[]),(28,[.keep [4] []],[]),(33,[.keep [4] []],[])]⟩),
 (109,⟨0x26622226222266000226c04c00262002226c04c002620001,[],[(6,[.keep [0,1,5] []],[.keep [0,1,5] []]),(12,[.keep [0,1,5] []],[])]⟩),
 (52,⟨0x222222222226260026200026260006200000022026022200222220112,[(7,[.closeS (.s 13)])],[(8,[.closeS (.s 4),.canon (.s 5) 2005 1,.keep [1,4,5] [1,2005]],[.closeS (.s 4),.canon (.s 5) 2005 1,.keep [1,4,5] [1,2005]]),(14,[.canon (.s 5) 2005 1,.keep [5] [2005]],[]),(24,[.canon (.s 2) 2002 1,.keep [2,3] [2002]],[]),(32,[.closeS (.s 4),.canon (.s 5) 2005 1,.keep [1,4,5,6,7] [1,2005]],[.closeS (.s 4),.canon (.s 5) 2005 1,.keep [1,4,5,6,7] [1,2005]]),(38,[.canon (.s 5) 2005 1,.keep [1,5,6] [1,2005]],[]),(46,[.closeS (.s 4),.canon (.s 5) 2005 1,.keep [1,4,5,6,7,8,9] [1,2005]],[.closeS (.s 4),.canon (.s 5) 2005 1,.keep [1,4,5,6,7,8,9] [1,2005]]),(52,[.closeS (.s 4),.canon (.s 5) 2005 1,.keep [1,4,5,6,7] [1,2005]],[]),(61,[.canon (.s 2) 2002 1,.keep [2,3] [2002]],[])]⟩),
 (11,⟨0x26444222222022212,[],[]⟩),
 (150,⟨0x26c4426201,[],[]⟩),
 (185,⟨0x26c4444026402201,[],[]⟩),
 (186,⟨0x26442201,[],[]⟩),
 (170,⟨0x22064c402644c00222600200020064440264402201,[],[(8,[.keep [2] []],[]),(14,[.keep [0,18,19] []],[.keep [0,18,19] []]),(20,[.keep [] []],[]),(30,[.keep [2] []],[]),(35,[.keep [2] []],[])]⟩),
 (172,⟨0x26222212,[],[]⟩),
 (187,⟨0x22226260002000201,[],[(6,[.keep [0,1,7,8] []],[.keep [0,1,7,8] []]),(12,[.keep [] []],[]),(22,[.keep [4] []],[]),(27,[.keep [4] []],[])]⟩),
 (171,⟨0x226221,[],[]⟩),
 (174,⟨0x26222212,[],[]⟩),
 (188,⟨0x22226260002000201,[],[(6,[.keep [0,1,7,8] []],[.keep [0,1,7,8] []]),(12,[.keep [] []],[]),(22,[.keep [4] []],[]),(27,[.keep [4] []],[])]⟩),
 (173,⟨0x226221,[],[]⟩),
 (151,⟨0x222222022222026c0c4402222022020000020022220026c0c44422220202602012,[],[(11,[.keep [4] []],[]),(17,[.keep [4] []],[]),(23,[.keep [5,32,33,34] [5]],[.keep [5,32,33,34] [5]]),(29,[.keep [5] [5]],[]),(40,[.keep [4] []],[]),(46,[.keep [4] []],[]),(55,[.keep [4] []],[]),(59,[.keep [4] []],[])]⟩),
 (152,⟨0x2212,[],[]⟩),
 (176,⟨0x2644426c4402622222022202644422202020122,[],[(18,[.keep [1,3,5,19] [3,5]],[])]⟩),
 (178,⟨0x26222212,[],[]⟩),
 (189,⟨0x22226260002000201,[],[(6,[.keep [0,1,7,8] []],[.keep [0,1,7,8] []]),(12,[.keep [] []],[]),(22,[.keep [4] []],[]),(27,[.keep [4] []],[])]⟩),
 (177,⟨0x226221,[],[]⟩),
 (153,⟨0x2202626220026444022622202022020000020022220026c44022220022e02222226220202200202620201222,[],[(12,[.keep [3,4,5,7,8] [3,4,5,7]],[]),(19,[.keep [6] []],[]),(25,[.keep [6] []],[]),(31,[.keep [6] []],[]),(37,[.keep [5,7,52,53,54] [5,7]],[.keep [5,7,52,53,54] [5,7]]),(43,[.keep [] []],[]),(54,[.keep [6] []],[]),(60,[.keep [6] []],[]),(65,[.keep [6] []],[])]⟩),
 (190,⟨0x26c44426c440222012,[],[]⟩),
 (179,⟨0x2662262221222,[],[]⟩),
 (154,⟨0x2202326222002202001ef200220022022226200223262220022022226200202022020202020200002,[],[(8,[.keep [1,2,3,4,5,12] [1,2,3,4,5,10]],[.keep [] [1,2,3,4,5,10]]),(27,[.keep [] [1,2,3,4,5,10]],[]),(39,[.keep [] [1,2,3,4,5,10]],[]),(47,[.keep [] [1,2,3,4,5,10]],[]),(53,[.keep [2,3,4] [2,3,4,10]],[])]⟩),
 (180,⟨0x222622262222264444c4400222020262222262622020262020222620220122,[],[(12,[.canon (.s 7) 2007 2,.keep [1,5,7,8] [5,2007]],[])]⟩),
 (155,⟨0x20222622230026000226002020000e200262220202622002202202020200022,[],[(6,[.keep [2,3,4,5,13] [2,3,4,5]],[.keep [] [2,3,4,5]]),(14,[.canon (.s 8) 2008 2,.keep [2,3,4,5,6,7,8,13] [2,3,4,5,6,16,2008]],[.canon (.s 8) 2008 2,.keep [2,3,4,5,6,7,8,13] [2,3,4,5,6,16,2008]]),(20,[.keep [2,3,4,5,13] [2,3,4,5]],[]),(29,[.canon (.s 8) 2008 2,.keep [2,3,4,5,6,7,8,13,36,37,38] [2,3,4,5,6,16,2008]],[.canon (.s 8) 2008 2,.keep [2,3,4,5,6,7,8,13,36,37,38] [2,3,4,5,6,16,2008]]),(35,[.canon (.s 8) 2008 2,.keep [2,3,4,5,6,7,8,13] [2,3,4,5,6,16,2008]],[]),(46,[.keep [] [2,3,4,5]],[]),(58,[.keep [4,5] [4,5]],[])]⟩),
 (129,⟨0x20022222020262222222022202002202222202e2002020202222222202600200022002022220002,[],[(8,[.keep [2,3] [2,3]],[]),(14,[.keep [1,2,3,22,23] [1,2,3]],[.keep [1,2,3,22,23] [1,2,3]]),(20,[.keep [1,2,3] [1,2,3]],[]),(32,[.keep [2,3] [2,3]],[]),(39,[.keep [1,2,3,36] [1,2,3]],[.keep [] [1,2,3]]),(51,[.keep [] [1,2,3]],[]),(61,[.keep [2,3] [2,3]],[]),(71,[.keep [2,3] [2,3]],[]),(75,[.keep [2,3] [2,3]],[])]⟩),
 (88,⟨0x2222302022212,[],[]⟩),
 (135,⟨0x200226c0442602020202202022000222,[],[(8,[.keep [6,7] [6,7]],[]),(14,[.keep [4,5,6,7,15] [4,5,6,7]],[.keep [] [4,5,6,7]]),(24,[.keep [] [4,5,6,7]],[]),(28,[.keep [6,7] [6,7]],[])]⟩),
 (161,⟨0x2220622102,[],[]⟩),
 (144,⟨0x2222306222030622222022262222302622022002020000200202000020002,[(53,[.closeS (.s 49)]),(59,[.closeS (.c 3 0),.closeS (.c 3 1)])],[(8,[.canon (.c 3 0) 4060 1,.canon (.c 3 1) 4061 1,.keep [1,2,3,11,12,13] [1,2,3,4060,4061]],[.canon (.c 3 0) 4060 1,.canon (.c 3 1) 4061 1,.keep [1,2,3,11,12,13] [1,2,3,4060,4061]]),(14,[.canon (.c 3 0) 4060 1,.canon (.c 3 1) 4061 1,.keep [2,3] [2,3,4060,4061]],[]),(25,[.canon (.s 6) 2006 2,.canon (.c 3 0) 4060 1,.canon (.c 3 1) 4061 1,.keep [1,2,3,5,6,11,12,13,18,19,20] [1,2,3,5,2006,4060,4061]],[.canon (.s 6) 2006 2,.canon (.c 3 0) 4060 1,.canon (.c 3 1) 4061 1,.keep [1,2,3,5,6,11,12,13,18,19,20] [1,2,3,5,2006,4060,4061]]),(31,[.canon (.s 6) 2006 2,.canon (.c 3 0) 4060 1,.canon (.c 3 1) 4061 1,.keep [1,2,3,5,6,11,12,13] [1,2,3,5,2006,4060,4061]],[]),(44,[.canon (.s 6) 2006 2,.canon (.c 3 0) 4060 1,.canon (.c 3 1) 4061 1,.keep [1,2,3,5,6,9,11,12,13,18,19,20] [1,2,3,5,9,2006,4060,4061]],[])]⟩),
 (162,⟨0x26262222020262620260220626020260012,[],[]⟩),
 (114,⟨0x26200201,[],[(8,[.canon (.s 2) 4004 1],[]),(12,[.canon (.s 2) 4004 1],[])]⟩),
 (184,⟨0x26201,[],[]⟩),
 (183,⟨0x62206000200222202201,[],[]⟩),
 (165,⟨0x62222222220262222620062002220000001,[],[(6,[.keep [0,1,9,10,11] []],[.keep [0,1,9,10,11] []]),(12,[.keep [0,1] []],[]),(23,[.keep [4] []],[]),(34,[.keep [4] []],[]),(43,[.keep [4] []],[]),(47,[.keep [4] []],[])]⟩),
 (164,⟨0x26221,[],[]⟩),
 (40,⟨0x2206262026002000200620201,[],[(8,[.keep [4] []],[]),(14,[.keep [0,1,12,13] []],[.keep [0,1,12,13] []]),(20,[.keep [] []],[]),(30,[.keep [4] []],[]),(35,[.keep [4] []],[])]⟩),
 (167,⟨0x26221,[],[]⟩),
 (145,⟨0x222302222262223622020220e0002000202200002012,[(32,[.closeS (.s 34)])],[(8,[.canon (.s 5) 2005 1,.keep [2,5,10,11,12] [2,2005]],[.canon (.s 5) 2005 1,.keep [2,5,10,11,12] [2,2005]]),(14,[.canon (.s 5) 2005 1,.keep [5] [2005]],[]),(22,[.canon (.s 5) 2005 1,.keep [2,5,7,10,11,12,17,18] [2,2005]],[.canon (.s 5) 2005 1,.keep [2,5,7,10,11,12,17,18] [2,2005]]),(28,[.canon (.s 5) 2005 1,.keep [2,5,10,11,12] [2,2005]],[])]⟩),
 (118,⟨0x2226202620200202620222000222222202000220112,[(16,[.closeS (.s 16)])],[(8,[.canon (.s 2) 2002 1,.keep [2,3] [2002]],[]),(20,[.closeS (.s 5),.canon (.s 6) 2006 1,.keep [4,5,6,7] [4,2006]],[.closeS (.s 5),.canon (.s 6) 2006 1,.keep [4,5,6,7] [4,2006]]),(26,[.canon (.s 6) 2006 1,.keep [6] [2006]],[]),(37,[.canon (.s 2) 2002 1,.keep [2,3] [2002]],[]),(43,[.canon (.s 2) 2002 1,.keep [2,3] [2002]],[])]⟩),
 (63,⟨0x222222220222112,[],[]⟩),
 (43,⟨0x222022112,[],[]⟩),
 (53,⟨0x222272222022200000220e002020620202220202220222102,[],[(26,[.keep [4,8,30,31,32] [4,8,28]],[.keep [4,8,30,31,32] [4,8,28]]),(32,[.keep [4,8] [4,8,28]],[])]⟩),
 (112,⟨0x222236622620002220000022221,[],[(8,[.canon (.s 5) 2005 1,.keep [5,10,11,12] [2005]],[.canon (.s 5) 2005 1,.keep [5,10,11,12] [2005]]),(14,[.canon (.s 5) 2005 1,.keep [5] [2005]],[])]⟩),
 (111,⟨0x226622222012,[],[]⟩),
 (55,⟨0x26622212,[],[]⟩),
 (54,⟨0x22222202264001cf000226622020222000006202022602022200000201112,[],[(6,[.keep [1,2,12,13,14] [2]],[.keep [1,2,12,13,14] [2]]),(12,[.keep [] []],[]),(26,[.keep [1,2,7,8,12,13,14,29,30,31] [2]],[.keep [1,2,7,8,12,13,14,29,30,31] [2]]),(32,[.keep [1,2,12,13,14] [2]],[]),(42,[.keep [4,5,6] []],[]),(48,[.keep [4,5,6] []],[])]⟩),
 (12,⟨0x22222222220026220200022022020262211112,[],[]⟩),
 (113,⟨0x222236622620002220000022221,[],[(8,[.canon (.s 5) 2005 1,.keep [5,10,11,12] [2005]],[.canon (.s 5) 2005 1,.keep [5,10,11,12] [2005]]),(14,[.canon (.s 5) 2005 1,.keep [5] [2005]],[])]⟩),
 (56,⟨0x26622212,[],[]⟩),
 (13,⟨0x22222222220026220200022022020262211112,[],[]⟩),
 (57,⟨0x26001cf4442e00012,[],[]⟩),
 (14,⟨0x22222222220026220200022022020262211112,[],[]⟩),
 (58,⟨0x222202622222022226cc004402644c04022222026222036220202206222602026002000200226220222000002011122,[],[(6,[.keep [2,3,15,16,17] [2,3]],[.keep [2,3,15,16,17] [2,3]]),(12,[.keep [] []],[]),(29,[.keep [2,3,8,9,15,16,17,29,30] [2,3]],[.keep [2,3,8,9,15,16,17,29,30] [2,3]]),(35,[.keep [2,3,8,9,15,16,17] [2,3]],[]),(63,[.keep [4,5,6] []],[]),(68,[.keep [4,5,6] []],[])]⟩),
 (15,⟨0x2222222222002622200022022020262011112,[],[]⟩),
 (16,⟨0x220062200022222022200220112,[],[]⟩),
 (17,⟨0x26c44426c44026c4440222026444426444026440262202012,[],[]⟩),
 (60,⟨0x2222226262600260026200001,[],[(8,[.canon (.s 5) 2005 1,.keep [0,1,5,6] [2005]],[.canon (.s 5) 2005 1,.keep [0,1,5,6] [2005]]),(14,[.canon (.s 5) 2005 1,.keep [5] [2005]],[])]⟩),
 (59,⟨0x22222602600620001,[],[(6,[.keep [0,1,5] []],[.keep [0,1,5] []]),(12,[.keep [] []],[]),(20,[.keep [4] []],[]),(25,[.keep [4] []],[])]⟩),
 (61,⟨0x2222226262600260026200001,[],[(8,[.canon (.s 5) 2005 1,.keep [0,1,5,6] [2005]],[.canon (.s 5) 2005 1,.keep [0,1,5,6] [2005]]),(14,[.canon (.s 5) 2005 1,.keep [5] [2005]],[])]⟩),
 (18,⟨0x222222022262226206c44ccc4c004c0000402644ccc4c004c000020644c00222600620022062000111,[],[(6,[.keep [0,1,2,3,11] []],[.keep [0,1,2,3,11] []]),(12,[.keep [] []],[]),(18,[.keep [0,1,2,3,11,12] []],[.keep [0,1,2,3,11,12] []]),(24,[.keep [0,1,2,3,11] []],[]),(38,[.keep [8,9,10] []],[]),(44,[.keep [8,9,10] []],[])]⟩),
 (19,⟨0x2222220222622262064cc4c004c0044c0026c444c0044c002644c00226006200062000111,[(55,[.keep [0,1,7,8,18,46,62] []])],[(6,[.keep [0,1,7] []],[.keep [0,1,7] []]),(12,[.keep [] []],[]),(18,[.keep [0,1,7,8] []],[.keep [0,1,7,8] []]),(24,[.keep [0,1,7] []],[]),(32,[.keep [4,5,6] []],[]),(38,[.keep [4,5,6] []],[])]⟩),
 (3,⟨0x2202001ef222222220026002222002001ef2220002011122000002022026022000022022202620232032032032020002600320320320320200026003203203203202000260032032032032020002600006c44044026440222002012,[],[(8,[.keep [4] []],[]),(16,[.keep [4] []],[]),(38,[.keep [7,107,108] []],[.keep [7,107,108] []]),(44,[.keep [] []],[]),(54,[.keep [4] []],[]),(59,[.keep [4] []],[]),(65,[.keep [1,6,116,117] []],[.keep [1,6,116,117] []]),(71,[.keep [] []],[]),(86,[.keep [1,6,11,12,13,14,116,117] [11]],[]),(91,[.keep [4] []],[]),(96,[.keep [4] []],[])]⟩)]
end Go.VE
namespace Go.VE
namespace trace_events_c1
def yU:List RO:=[o1 20 (.s 18) [],o2 21 (ix 5) [.s 16,.s 18] [],o2 22 (lD 5) [.s 21] [21],o2 6 (.a (.alloc 5 [.int .i64 0,.int .i64 0,.int .i64 0,.int .i64 0,.aG])) [] [],o1 5 (.s 20) [20],oz (.l (.store 5)) [.s 6,.s 22] [22]]
def wJ:List RO:=[o1 23 (.s 0) [],o1 24 (.s 3) [],o1 25 (.s 5) [5],o2 26 (bI .add) [.s 25,.k (.int .i64 1)] [25],o2 27 (.p (.build [.int .i64 0,.int .i64 0] [(0,1),(1,1)])) [.s 24,.s 26] [24,26],o2 28 (lD 5) [.s 6] [6],
 o2 29 .c [.s 23,.s 27,.s 28] [23,27,28],o2 30 (.p .not) [.s 29] [29]]
def uv:List RO:=[o2 31 (bI .add) [.s 18,.k (.int .i64 1)] [],o1 18 (.s 31) [31]]
def B5:RC:=.hg (.seq (.ops [o2 19 (bI .lss) [.s 18,.s 17] []]) (.seq (.cond (.s 19) .skip (.exit 2)) (.seq (.block 3 (.seq (.ops yU) (.seq (.ops wJ) (.cond (.s 30) .ret .skip)))) (.ops uv)))) (.keep [0,3,8,9,10,16,17,18] [])
def FN:List RO:=[o1 12 (.s 10) [],o2 13 (ix 3) [.s 8,.s 10] [],o2 14 (lD 3) [.s 13] [13],o2 4 (.a (.alloc 3 [.str ByteArray.empty,.aG,.aG])) [] [],o1 3 (.s 12) [12],oz (.l (.store 3)) [.s 4,.s 14] [14]]
def EM:List RO:=[o2 15 (fa 2) [.s 4] [],o2 16 (ld 1) [.s 15] [15],o2 17 ln [.s 16] [],o1 18 (.k (.int .i64 0)) []]
def C3:List RO:=[o2 32 (bI .add) [.s 10,.k (.int .i64 1)] [],o1 10 (.s 32) [32]]
def U2:RC:=.block 2 (.gh (.keep [0,3,8,9,10,16,17,18] []) (.loop B5))
def Kx:RC:=.hg (.seq (.ops [o2 11 (bI .lss) [.s 10,.s 9] []]) (.seq (.cond (.s 11) .skip (.exit 0)) (.seq (.block 1 (.seq (.ops FN) (.seq (.ops EM) U2))) (.ops C3)))) (.keep [0,8,9,10] [])
def Qa:List RO:=[o2 7 (fa 0) [.s 1] [1],o2 8 (ld 1) [.s 7] [7],o2 9 ln [.s 8] [],o1 10 (.k (.int .i64 0)) []]
def U1:RC:=.block 0 (.gh (.keep [0,8,9,10] []) (.loop Kx))
def text:RF:=⟨33,[],.seq (.ops Qa) U1⟩
section
variable {S:Sys}
abbrev I1 (ps:Sl bA) (i:Int) (ws:List (List V)) (more:Bool) (y:Nat):St:=⟨[(0,.yl y),Cv 8 ps,Iv 9 (len ps),Iv 10 i],[],[],ws,more,y⟩
abbrev I2 (ps:Sl bA) (i:Int) (es:Sl Event) (j:Int) (ws:List (List V)) (more:Bool) (y:Nat):St:=⟨[(0,.yl y),Iv 3 i,Cv 8 ps,Iv 9 (len ps),Iv 10 i,Cv 16 es,Iv 17 (len es),Iv 18 j],[],[],ws,more,y⟩
abbrev S2 (ps:Sl bA) (i:Int) (es:Sl Event) (j:Int) (b:Bool) (ws:List (List V)) (more:Bool) (y:Nat):St:=⟨[(0,.yl y),Iv 3 i,Cv 8 ps,Iv 9 (len ps),Iv 10 i,Cv 16 es,Iv 17 (len es),Iv 18 j,Bv 19 b],[],[],ws,more,y⟩
theorem Qk (ps:Sl bA) (i:Int) (es:Sl Event) (j:Int) (ws:List (List V)) (more:Bool) (y:Nat) (hj:decide (j<len es)=false) :
 rn S.bare lg some (.rc B5) [] (I2 ps i es j ws more y)=some (.exit 2,S2 ps i es j false ws more y):=by
 refine Le.get ?_;refine Kf (n:=7) (fo':=.rc (.cond (.s 19) .skip (.exit 2))) (fs':=[.seq (.seq (.block 3 (.seq (.ops yU) (.seq (.ops wJ) (.cond (.s 30) .ret .skip)))) (.ops uv)),.gst (.keep [0,3,8,9,10,16,17,18] [])]) (λb=>S2 ps i es j b ws more y) hj (by kernel_rfl) ?_
 exact Le.of_eq (by kernel_rfl)
theorem SI (ps:Sl bA) (i:Int) (es:Sl Event) (j:Int) (e:Event) (ws:List (List V)) (more:Bool) (y:Nat) (hj:decide (j<len es)=true) (hx:idx es j=some e) (hb:(!(more || !ws.isEmpty))=false) :
 rn S.bare lg some (.rc B5) [] (I2 ps i es j ([enc (⟨i,IntKind.wrap .i64 (j+1)⟩:af),enc e]::ws) more y)=some (.norm,I2 ps i es (IntKind.wrap .i64 (j+1)) ws more y):=by
 refine Le.get ?_;refine Kt (n:=7) (fo':=.rc (.cond (.s 19) .skip (.exit 2))) (fs':=[.seq (.seq (.block 3 (.seq (.ops yU) (.seq (.ops wJ) (.cond (.s 30) .ret .skip)))) (.ops uv)),.gst (.keep [0,3,8,9,10,16,17,18] [])]) (λb=>S2 ps i es j b ([enc (⟨i,IntKind.wrap .i64 (j+1)⟩:af),enc e]::ws) more y) hj (by kernel_rfl) ?_
 refine K8 hx ?_;refine KN 8 false [] (yU.drop 1) [.seq (.seq (.ops wJ) (.cond (.s 30) .ret .skip)),.blk 3,.seq (.ops uv),.gst (.keep [0,3,8,9,10,16,17,18] [])] ⟨[(0,.yl y),Iv 3 i,Cv 8 ps,Iv 9 (len ps),Iv 10 i,Cv 16 es,Iv 17 (len es),Iv 18 j,Bv 19 true,Iv 20 j],[],[],([enc (⟨i,IntKind.wrap .i64 (j+1)⟩:af),enc e]::ws),more,y⟩ .i64 rfl (by kernel_rfl) λx h1=>?_
 obtain rfl:x=e:=by rw[hx]at h1;cases h1;rfl
 refine Ru 1 false [] (yU.drop 3) [.seq (.seq (.ops wJ) (.cond (.s 30) .ret .skip)),.blk 3,.seq (.ops uv),.gst (.keep [0,3,8,9,10,16,17,18] [])] ⟨[(0,.yl y),Iv 3 i,Cv 8 ps,Iv 9 (len ps),Iv 10 i,Cv 16 es,Iv 17 (len es),Iv 18 j,Bv 19 true,Iv 20 j,Cv 22 x],[],[],([enc (⟨i,IntKind.wrap .i64 (j+1)⟩:af),enc x]::ws),more,y⟩ [iv 0,iv 0,iv 0,iv 0,.v .aG] rfl (by simp only[aP,vi,n9,pR,om,pN,qD,pQ,qW,nW,pX,vf,qF,qH,rq,qT,th,tg,pO,qR,SV.bX];rfl) (by kernel_rfl) ?_
 refine Ast 1 false [] (yU.drop 5) [.seq (.seq (.ops wJ) (.cond (.s 30) .ret .skip)),.blk 3,.seq (.ops uv),.gst (.keep [0,3,8,9,10,16,17,18] [])] ⟨[(0,.yl y),Iv 3 i,Cv 8 ps,Iv 9 (len ps),Iv 10 i,Cv 16 es,Iv 17 (len es),Iv 18 j,Bv 19 true,Cv 22 x,Pv 6,Iv 5 j],[Xb 6 (⟨0,0,0,0,.nil⟩:Event)],[],([enc (⟨i,IntKind.wrap .i64 (j+1)⟩:af),enc x]::ws),more,y⟩ 6 0 x [iv 0,iv 0,iv 0,iv 0,.v .aG] ((cells x).map .v) rfl (by kernel_rfl) ?_
 refine TQ (n:=10) (q:=wJ.drop 6) (fs':=[.seq (.cond (.s 30) .ret .skip),.blk 3,.seq (.ops uv),.gst (.keep [0,3,8,9,10,16,17,18] [])]) (st:=⟨[(0,.yl y),Iv 3 i,Cv 8 ps,Iv 9 (len ps),Iv 10 i,Cv 16 es,Iv 17 (len es),Iv 18 j,Bv 19 true,(23,.yl y),Cv 27 (⟨i,IntKind.wrap .i64 (j+1)⟩:af),Cv 28 x],[Xb 6 x],[],([enc (⟨i,IntKind.wrap .i64 (j+1)⟩:af),enc x]::ws),more,y⟩) (vs:=[cv (⟨i,IntKind.wrap .i64 (j+1)⟩:af),cv x]) (by kernel_rfl) rfl (by kernel_rfl) (by kernel_rfl) rfl rfl ?_
 refine Kf (n:=3) (fo':=.rc (.cond (.s 30) .ret .skip)) (fs':=[.blk 3,.seq (.ops uv),.gst (.keep [0,3,8,9,10,16,17,18] [])]) (λb=>⟨[(0,.yl y),Iv 3 i,Cv 8 ps,Iv 9 (len ps),Iv 10 i,Cv 16 es,Iv 17 (len es),Iv 18 j,Bv 19 true,Bv 30 b],[Xb 6 x],[],ws,more,y⟩) hb (by kernel_rfl) ?_
 exact Le.of_eq (by kernel_rfl)
theorem NZ (ps:Sl bA) (i:Int) (es:Sl Event) (j:Int) (e:Event) (ws:List (List V)) (more:Bool) (y:Nat) (hj:decide (j<len es)=true) (hx:idx es j=some e) (hb:(!(more || !ws.isEmpty))=true) :
 rn S.bare lg some (.rc B5) [] (I2 ps i es j ([enc (⟨i,IntKind.wrap .i64 (j+1)⟩:af),enc e]::ws) more y)=some (.ret,⟨[(0,.yl y),Iv 3 i,Cv 8 ps,Iv 9 (len ps),Iv 10 i,Cv 16 es,Iv 17 (len es),Iv 18 j,Bv 19 true,Bv 30 true],[Xb 6 e],[],ws,more,y⟩):=by
 refine Le.get ?_;refine Kt (n:=7) (fo':=.rc (.cond (.s 19) .skip (.exit 2))) (fs':=[.seq (.seq (.block 3 (.seq (.ops yU) (.seq (.ops wJ) (.cond (.s 30) .ret .skip)))) (.ops uv)),.gst (.keep [0,3,8,9,10,16,17,18] [])]) (λb=>S2 ps i es j b ([enc (⟨i,IntKind.wrap .i64 (j+1)⟩:af),enc e]::ws) more y) hj (by kernel_rfl) ?_
 refine K8 hx ?_;refine KN 8 false [] (yU.drop 1) [.seq (.seq (.ops wJ) (.cond (.s 30) .ret .skip)),.blk 3,.seq (.ops uv),.gst (.keep [0,3,8,9,10,16,17,18] [])] ⟨[(0,.yl y),Iv 3 i,Cv 8 ps,Iv 9 (len ps),Iv 10 i,Cv 16 es,Iv 17 (len es),Iv 18 j,Bv 19 true,Iv 20 j],[],[],([enc (⟨i,IntKind.wrap .i64 (j+1)⟩:af),enc e]::ws),more,y⟩ .i64 rfl (by kernel_rfl) λx h1=>?_
 obtain rfl:x=e:=by rw[hx]at h1;cases h1;rfl
 refine Ru 1 false [] (yU.drop 3) [.seq (.seq (.ops wJ) (.cond (.s 30) .ret .skip)),.blk 3,.seq (.ops uv),.gst (.keep [0,3,8,9,10,16,17,18] [])] ⟨[(0,.yl y),Iv 3 i,Cv 8 ps,Iv 9 (len ps),Iv 10 i,Cv 16 es,Iv 17 (len es),Iv 18 j,Bv 19 true,Iv 20 j,Cv 22 x],[],[],([enc (⟨i,IntKind.wrap .i64 (j+1)⟩:af),enc x]::ws),more,y⟩ [iv 0,iv 0,iv 0,iv 0,.v .aG] rfl (by simp only[aP,vi,n9,pR,om,pN,qD,pQ,qW,nW,pX,vf,qF,qH,rq,qT,th,tg,pO,qR,SV.bX];rfl) (by kernel_rfl) ?_
 refine Ast 1 false [] (yU.drop 5) [.seq (.seq (.ops wJ) (.cond (.s 30) .ret .skip)),.blk 3,.seq (.ops uv),.gst (.keep [0,3,8,9,10,16,17,18] [])] ⟨[(0,.yl y),Iv 3 i,Cv 8 ps,Iv 9 (len ps),Iv 10 i,Cv 16 es,Iv 17 (len es),Iv 18 j,Bv 19 true,Cv 22 x,Pv 6,Iv 5 j],[Xb 6 (⟨0,0,0,0,.nil⟩:Event)],[],([enc (⟨i,IntKind.wrap .i64 (j+1)⟩:af),enc x]::ws),more,y⟩ 6 0 x [iv 0,iv 0,iv 0,iv 0,.v .aG] ((cells x).map .v) rfl (by kernel_rfl) ?_
 refine TQ (n:=10) (q:=wJ.drop 6) (fs':=[.seq (.cond (.s 30) .ret .skip),.blk 3,.seq (.ops uv),.gst (.keep [0,3,8,9,10,16,17,18] [])]) (st:=⟨[(0,.yl y),Iv 3 i,Cv 8 ps,Iv 9 (len ps),Iv 10 i,Cv 16 es,Iv 17 (len es),Iv 18 j,Bv 19 true,(23,.yl y),Cv 27 (⟨i,IntKind.wrap .i64 (j+1)⟩:af),Cv 28 x],[Xb 6 x],[],([enc (⟨i,IntKind.wrap .i64 (j+1)⟩:af),enc x]::ws),more,y⟩) (vs:=[cv (⟨i,IntKind.wrap .i64 (j+1)⟩:af),cv x]) (by kernel_rfl) rfl (by kernel_rfl) (by kernel_rfl) rfl rfl ?_
 refine Kt (n:=3) (fo':=.rc (.cond (.s 30) .ret .skip)) (fs':=[.blk 3,.seq (.ops uv),.gst (.keep [0,3,8,9,10,16,17,18] [])]) (λb=>⟨[(0,.yl y),Iv 3 i,Cv 8 ps,Iv 9 (len ps),Iv 10 i,Cv 16 es,Iv 17 (len es),Iv 18 j,Bv 19 true,Bv 30 b],[Xb 6 x],[],ws,more,y⟩) hb (by kernel_rfl) ?_
 exact Le.of_eq (by kernel_rfl)
abbrev S1 (ps:Sl bA) (i:Int) (b:Bool) (ws:List (List V)) (more:Bool) (y:Nat):St:=⟨[(0,.yl y),Cv 8 ps,Iv 9 (len ps),Iv 10 i,Bv 11 b],[],[],ws,more,y⟩
theorem Qf (ps:Sl bA) (i:Int) (ws:List (List V)) (more:Bool) (y:Nat) (hj:decide (i<len ps)=false) :
 rn S.bare lg some (.rc Kx) [] (I1 ps i ws more y)=some (.exit 0,S1 ps i false ws more y):=by
 refine Le.get ?_;refine Kf (n:=7) (fo':=.rc (.cond (.s 11) .skip (.exit 0))) (fs':=[.seq (.seq (.block 1 (.seq (.ops FN) (.seq (.ops EM) U2))) (.ops C3)),.gst (.keep [0,8,9,10] [])]) (λb=>S1 ps i b ws more y) hj (by kernel_rfl) ?_
 exact Le.of_eq (by kernel_rfl)
def Nj:List Fm:=[.blk 2,.blk 1,.seq (.ops C3),.gst (.keep [0,8,9,10] [])]
theorem Nn (ps:Sl bA) (i:Int) (p:bA) (ws:List (List V)) (more:Bool) (y:Nat) (r:Out×St) (hj:decide (i<len ps)=true) (hx:idx ps i=some p)
 (h:rn S.bare lg some (.rc (.loop B5)) Nj (I2 ps i p.events 0 ws more y)=some r):rn S.bare lg some (.rc Kx) [] (I1 ps i ws more y)=some r:=by
 refine Le.get ?_;refine Kt (n:=7) (fo':=.rc (.cond (.s 11) .skip (.exit 0))) (fs':=[.seq (.seq (.block 1 (.seq (.ops FN) (.seq (.ops EM) U2))) (.ops C3)),.gst (.keep [0,8,9,10] [])]) (λb=>S1 ps i b ws more y) hj (by kernel_rfl) ?_
 refine K8 hx ?_;refine KN 8 false [] (FN.drop 1) [.seq (.seq (.ops EM) U2),.blk 1,.seq (.ops C3),.gst (.keep [0,8,9,10] [])] ⟨[(0,.yl y),Cv 8 ps,Iv 9 (len ps),Iv 10 i,Bv 11 true,Iv 12 i],[],[],ws,more,y⟩ .i64 rfl (by kernel_rfl) λx h1=>?_
 obtain rfl:x=p:=by rw[hx]at h1;cases h1;rfl
 refine Ru 1 false [] (FN.drop 3) [.seq (.seq (.ops EM) U2),.blk 1,.seq (.ops C3),.gst (.keep [0,8,9,10] [])] ⟨[(0,.yl y),Cv 8 ps,Iv 9 (len ps),Iv 10 i,Bv 11 true,Iv 12 i,Cv 14 x],[],[],ws,more,y⟩ [.v (.str ByteArray.empty),.v .aG,.v .aG] rfl (by simp only[aP,vi,n9,pR,om,pN,qD,pQ,qW,nW,pX,vf,qF,qH,rq,qT,th,tg,pO,qR,SV.bX];rfl) (by kernel_rfl) ?_
 refine Ast 1 false [] (FN.drop 5) [.seq (.seq (.ops EM) U2),.blk 1,.seq (.ops C3),.gst (.keep [0,8,9,10] [])] ⟨[(0,.yl y),Cv 8 ps,Iv 9 (len ps),Iv 10 i,Bv 11 true,Cv 14 x,Pv 4,Iv 3 i],[Xb 4 (⟨ByteArray.empty,.nil,.nil⟩:bA)],[],ws,more,y⟩ 4 0 x [.v (.str ByteArray.empty),.v .aG,.v .aG] ((cells x).map .v) rfl (by kernel_rfl) ?_
 refine Rn 6 false [] (EM.drop 2) [.seq U2,.blk 1,.seq (.ops C3),.gst (.keep [0,8,9,10] [])] ⟨[(0,.yl y),Cv 8 ps,Iv 9 (len ps),Iv 10 i,Bv 11 true,Pv 4,Iv 3 i,Cv 16 x.events],[Xb 4 x],[],ws,more,y⟩ x.events rfl (by kernel_rfl) ?_
 refine BW (n:=5) (fo':=.rc (.loop B5)) (fs':=Nj) (st':=I2 ps i x.events 0 ws more y) (by kernel_rfl) (Le.of_eq h)
theorem O2 (ps:Sl bA) (i:Int) (es:Sl Event) (j:Int) (ws:List (List V)) (more:Bool) (y:Nat) :
 rn S.bare lg some (.ex 2) Nj (S2 ps i es j false ws more y)=some (.norm,I1 ps (IntKind.wrap .i64 (i+1)) ws more y):=by kernel_rfl
theorem wrap_small (n:Nat) (h:n<9223372036854775807):IntKind.wrap .i64 ((n:Int)+1)=((n+1:Nat):Int):=by
 simp[IntKind.wrap,IntKind.bits,IntKind.signed];omega
abbrev eI (x:af×Event):List V:=[enc x.1,enc x.2]
theorem A8.step {x:List V} {ws rest:List (List V)} {more:Bool} (h:A8 ws (x::rest) more):∃ws',ws=x::ws'/\((!(more || !ws'.isEmpty))=false/\A8 ws' rest more\/(!(more || !ws'.isEmpty))=true/\ws'=[]):=by
 rcases h with⟨rfl,rfl⟩|⟨rfl,hn,r,hr⟩
 .exact⟨rest,rfl,.inl ⟨rfl,.inl ⟨rfl,rfl⟩⟩⟩
 .cases ws with
  | nil=>exact absurd rfl hn
  | cons w ws=>
   simp only[List.cons_append,List.cons.injEq]at hr;obtain⟨rfl,rfl⟩:=hr;refine⟨ws,rfl,?_⟩
   cases ws with
   | nil=>exact .inr ⟨rfl,rfl⟩
   | cons z zs=>exact .inl ⟨rfl,.inr ⟨rfl,by simp,r,rfl⟩⟩
theorem D0 {α:Type} {s:Sl α} {j:Nat} {x:α} {r:List α} (h:s.l.drop j=x::r):idx s (j:Int)=some x/\decide ((j:Int)<len s)=true/\s.l.drop (j+1)=r:=by
 have h1:j<s.l.length:=by
  apply Classical.byContradiction;intro hn;rw[List.drop_eq_nil_of_le (by omega)]at h;cases h
 have h2:=List.drop_eq_getElem_cons h1;rw[h2]at h;simp only[List.cons.injEq]at h;refine⟨?_,by simp[len,h1],h.2⟩
 unfold idx;rw[if_pos (by omega)]
 simp[ζd h1,h.1]
variable {Q:Out×St->Option (Out×St)} {fs:List Fm}
theorem inner (ps:Sl bA) (i:Int) (es:Sl Event) (hl:es.l.length<9223372036854775807) (more:Bool) (y:Nat) (R:List (List V)):∀(rem:List Event) (j:Nat),es.l.drop j=rem->∀ws,A8 ws ((f_ i j rem).map eI++R) more ->
 (∃(ws':List (List V)) (j':Int),A8 ws' R more/\rn S.bare lg Q (.rc (.loop B5)) fs (I2 ps i es j ws more y)=rn S.bare lg Q (.ex 2) fs (S2 ps i es j' false ws' more y)) \/
 (∃st':St,st'.want=[]/\rn S.bare lg Q (.rc (.loop B5)) fs (I2 ps i es j ws more y)=Q (.ret,st'))
 | [],j,hd,ws,hw=>by
  have h1:decide ((j:Int)<len es)=false:=by
   have:es.l.length<=j:=by simpa using hd
   simp[len];omega
  exact .inl ⟨ws,j,by simpa [f_]using hw,Cz (Qk ps i es j ws more y h1)⟩
 | e::rem,j,hd,ws,hw=>by
  obtain⟨h1,h2,h3⟩:=D0 hd;have hj:j<es.l.length:=by simpa [len]using h2
  simp only[f_,List.map_cons,List.cons_append]at hw;obtain⟨ws',rfl,hb⟩:=A8.step hw;have hwr:=wrap_small j (by omega)
  have hji:((j:Int)+1)=IntKind.wrap .i64 ((j:Int)+1):=by rw[hwr];simp
  rcases hb with⟨hb,hd'⟩|⟨hb,rfl⟩
  .have k:=SI (S:=S) ps i es j e ws' more y h2 h1 hb;rw[<-hji]at k;have k2:=CE (Q:=Q) (fs:=fs) k;have ih:=inner ps i es hl more y R rem (j+1) h3 ws' (by push_cast;exact hd')
   rw[show ((j+1:Nat):Int)=(j:Int)+1 from rfl]at ih;rcases ih with⟨ws2,j2,g1,g2⟩|⟨st',g1,g2⟩
   .exact .inl ⟨ws2,j2,g1,k2.trans g2⟩
   .exact .inr ⟨st',g1,k2.trans g2⟩
  .have k:=NZ (S:=S) ps i es j e [] more y h2 h1 hb;rw[<-hji]at k;exact .inr ⟨_,by rfl,CK k⟩
theorem outer (ps:Sl bA) (hl:ps.l.length<9223372036854775807) (hes:∀p∈ps.l,p.events.l.length<9223372036854775807) (more:Bool) (y:Nat):∀(rem:List bA) (i:Nat),ps.l.drop i=rem->∀ws,A8 ws ((dY i rem).map eI) more ->
 rn S.bare lg Qi (.rc (.loop Kx)) [.blk 0] (I1 ps i ws more y)=some ()
 | [],i,hd,ws,hw=>by
  have h1:decide ((i:Int)<len ps)=false:=by
   have:ps.l.length<=i:=by simpa using hd
   simp[len];omega
  rw[Cz (Qf ps i ws more y h1)];have:ws=[]:=by
   rcases hw with⟨_,rfl⟩|⟨_,hn,r,hr⟩
   .rfl
   .have:ws=[]:=by cases ws with
     | nil=>rfl
     | cons=>simp[dY]at hr
    exact absurd this hn
  subst this;rfl
 | p::rem,i,hd,ws,hw=>by
  obtain⟨h1,h2,h3⟩:=D0 hd;have hi:i<ps.l.length:=by simpa [len]using h2
  have hp:p∈ps.l:=List.mem_of_mem_drop (i:=i) (by rw[hd];exact List.mem_cons_self ..)
  simp only[dY,List.map_append]at hw;have hwr:=wrap_small i (by omega)
  rcases inner (S:=S) (Q:=some) (fs:=Nj) ps i p.events (hes p hp) more y _ p.events.l 0 rfl ws hw with⟨ws',j',g1,g2⟩|⟨st',g1,g2⟩
  .rw[O2,hwr]at g2;rw[CE (Nn ps i p ws more y _ h2 h1 g2)];exact outer ps hl hes more y rem (i+1) h3 ws' g1
  .rw[CK (Nn ps i p ws more y _ h2 h1 g2)];simp[Qi,g1]
theorem all (t:Trace) (its:List (af×Event)) (h:gF t=some its) (ws:List (List V)) (more:Bool) (hw:A8 ws (its.map eI) more) (y:Nat) :
 rn S.bare lg Qi (.rc text.body) [] ⟨uM 0 (([]:List V).map .v++.yl y::[V.fptr (cells t)].map .v),[],[],ws,more,y⟩=some ():=by
 unfold gF at h;split at h
 .rename_i hk;cases h;simp only[ζh,List.all_eq_true,Dc,decide_eq_true_eq]at hk;refine Le.get ?_;refine Rn 4 false [] (Qa.drop 2) [.seq U1] ⟨[(0,.yl y),Cv 8 t.procs],[],[],ws,more,y⟩ t.procs rfl (by kernel_rfl) ?_
  refine BW (n:=5) (fo':=.rc (.loop Kx)) (fs':=[.blk 0]) (st':=I1 t.procs 0 ws more y) (by kernel_rfl) (Le.of_eq ?_)
  exact outer t.procs hk.1 hk.2 more y t.procs.l 0 rfl ws hw
 .cases h
end
theorem Gp {α:Type} [aD α] {a b:Sl α} (h:aZ a=aZ b):rows a.l=rows b.l:=by
 cases a <;> cases b <;> first|rfl|(simp only[aZ,Sl.k,lT,V.fsl.injEq,true_and,reduceCtorEq]at h;done)|(simp only[aZ,Sl.k,lT,V.fsl.injEq,true_and,reduceCtorEq]at h;exact h)
theorem DE (p:Int):∀(es es':List Event) (j:Int),rows es=rows es'->(f_ p j es).map eI=(f_ p j es').map eI
 | [],[],_,_=>rfl
 | [],_::_,_,h=>by simp[rows]at h
 | _::_,[],_,h=>by simp[rows]at h
 | e::es,e'::es',j,h=>by
  simp only[rows,List.map_cons,List.cons.injEq]at h;have h1:enc e=enc e':=by show V.agg (cells e)=V.agg (cells e');rw[h.1]
  simp only[f_,List.map_cons,eI,h1,DE p es es' (j+1) h.2]
theorem Aj:∀(ps ps':List bA) (i:Int),rows ps=rows ps'->(dY i ps).map eI=(dY i ps').map eI
 | [],[],_,_=>rfl
 | [],_::_,_,h=>by simp[rows]at h
 | _::_,[],_,h=>by simp[rows]at h
 | p::ps,p'::ps',i,h=>by
  simp only[rows,List.map_cons,List.cons.injEq]at h;have h1:aZ p.events=aZ p'.events:=by
   have:=h.1;change [V.str p.name,aZ p.vars,aZ p.events]=[V.str p'.name,aZ p'.vars,aZ p'.events]at this;simp only[List.cons.injEq]at this;exact this.2.2.1
  simp only[dY,List.map_append,DE i _ _ 0 (Gp h1),Aj ps ps' (i+1) h.2]
def Di (f:FuncId) (g:FuncId) (a b:List V) (xs:List (List V)):Prop:=∃(t:Trace) (its:List (af×Event)),g=f/\a=[]/\b=[.fptr (cells t)]/\gF t=some its/\xs=its.map eI
theorem Di.uniq {f g:FuncId} {a b:List V} {xs ys:List (List V)} (h:Di f g a b xs) (k:Di f g a b ys):xs=ys:=by
 obtain⟨t,its,rfl,rfl,rfl,h1,rfl⟩:=h;obtain⟨t',its',_,_,h2,h3,rfl⟩:=k;simp only[List.cons.injEq,V.fptr.injEq,and_true]at h2;have h4:aZ t.procs=aZ t'.procs:=by
  change [aZ t.procs]=[aZ t'.procs]at h2;simpa using h2
 unfold gF at h1 h3;split at h1 <;> split at h3 <;> simp only[ζa,reduceCtorEq]at h1 h3;subst h1 h3;exact Aj _ _ 0 (Gp h4)
end trace_events_c1
end Go.VE
namespace Go.VE
open Go.Proofs.YtdoibkkdaojjpaaGreat
noncomputable section
noncomputable def Hu (f:FuncId):Option CY:=bif Nat.beq f 166 then some (qg E)else bif Nat.beq f 163 then some (o7 E)else none
noncomputable def Sy:Sys:=⟨E,λn=>n,vo (trace_events_c1.Di 175),xQ E,Hu⟩
theorem OY:Sy.prm 166=some (qg Sy.E):=by kernel_rfl
theorem NX:Sy.prm 163=some (o7 Sy.E):=by kernel_rfl
theorem RJ:∀f q,Hu f=some q->mm E f q:=by
 intro f q h;unfold Hu at h
 cases h1:Nat.beq f 166 with
 | true=>
  rw[h1]at h;cases h;have:=Nat.eq_of_beq_eq_true h1;subst this;exact Mr yq (by kernel_rfl) (by kernel_rfl) (zy (by kernel_rfl))
 | false=>
  rw[h1]at h
  cases h1:Nat.beq f 163 with
  | true=>
   rw[h1]at h;cases h;have:=Nat.eq_of_beq_eq_true h1;subst this;exact ML (by kernel_rfl) (by kernel_rfl) (by kernel_rfl) (by kernel_rfl)
  | false=>
   rw[h1]at h;cases h
def Tx:qv:=Lc E some (lk UF)
abbrev cL:bH:=cz Sy Tx
theorem RI:∃fi,E.ft 175=some fi/\vG E some fi trace_events_c1.text:=Qd (by kernel_rfl)
theorem Dh:o6 Sy Tx where
 fn f rf h:=let ⟨fi,h1,h2⟩:=LQ h;⟨fi,some,h1,yq,h2⟩
 wG f bs y h:=IV h
 prm:=RJ
theorem yg:∀f a b xs,Sy.items f a b=some xs->dV Sy f a b xs:=by
 intro f a b xs h;obtain⟨t,its,rfl,rfl,rfl,h1,rfl⟩:=GX h;obtain⟨fi,h2,h3⟩:=RI;exact KI Sy h2 yq h3 (Nat.le_of_ble_eq_true rfl) rfl λws more hw y=>trace_events_c1.all t its h1 ws more hw y
theorem we (t:Trace) (its:List (af×Event)) (h:gF t=some its):Sy.items 175 [] [.fptr (cells t)]=some (its.map λx:af×Event=>[enc x.1,enc x.2]):=
 Ht ⟨t,its,rfl,rfl,rfl,h,rfl⟩ λys hy=>hy.uniq ⟨t,its,rfl,rfl,rfl,h,rfl⟩
theorem JC:Sy.wG 8 []=some (.bool true):=uF (FA rfl ⟨1,[],by kernel_rfl⟩)
end
end Go.VE
namespace Go.VE
noncomputable section
def rR (t0:Trace) (x1:af):Option Event:=
 (idx t0.procs x1.proc).bind λx_1=>
 (idx x_1.events (IntKind.wrap .i64 (x1.index-1))).bind λx_2=>
 some x_2
instance R4 (t0:Trace) (x1:af):Fc Sy cL (rR t0 x1):=Fc.N 139 [enc t0,enc x1] (c_ 2 2 t0 (bh 10 λx_1 _=>bh 5 λx_2 _=>kN 1 4 0 x_2 aj))
namespace cC
def bn (kind1 m2 p7:Int) (tb3:Trace) (vb6:af) (i8:Int):Option (Fw Int Unit af):=
 (idx tb3.procs p7).bind λx_1=>
 ay (decide (i8<(len x_1.events)))
 ((idx tb3.procs p7).bind λx_2=>
 (idx x_2.events i8).bind λx_3=>
 (ay (x_3.kind==kind1)
 (some (x_3.message==m2))
 (some false):Option Bool).bind λx_4=>
 ay x_4
 (some (.r (⟨p7,IntKind.wrap .i64 (i8+1)⟩:af)))
 (some (.n (IntKind.wrap .i64 (i8+1)))))
 (some (.x ()))
def W2 (kind1 m2 p7 i8:Int) (tb3:Trace) (vb6:af):Option (Fw Int Unit af):=
 (aX (λq:Int=>bn kind1 m2 p7 tb3 vb6 q) i8).bind (Fw.elim
 (λe=>some (.n (IntKind.wrap .i64 (p7+1))))
 (λe=>some (.r e)))
def aB (kind1 m2:Int) (tb3:Trace) (vb6:af) (p7:Int):Option (Fw Int Unit af):=
 ay (decide (p7<(len tb3.procs)))
 (W2 kind1 m2 p7 0 tb3 vb6)
 (some (.x ()))
def W1 (kind1 m2 p7:Int) (tb3:Trace) (vb6:af):Option af:=
 (aX (λq:Int=>aB kind1 m2 tb3 vb6 q) p7).bind (Fw.elim
 (λe=>some ⟨0,0⟩)
 (λe=>some e))
end cC
def cC (t0:Trace) (kind1 m2:Int):Option af:=
 cC.W1 kind1 m2 0 t0 (⟨0,0⟩:af)
open cC in
instance Py (t0:Trace) (kind1 m2:Int):Fc Sy cL (cC t0 kind1 m2):=Fc.M 127 [enc t0,.int .i64 kind1,.int .i64 m2] (c_ 2 3 t0 (cO 11 (λqW1=>(aP [Iv 1 kind1,Iv 2 m2,Pv 3,Pv 6,Iv 7 qW1] [Xb 3 t0,Xb 6 (⟨0,0⟩:af)])) (λeW1=>(0,(aP [Pv 6] [Xb 6 (⟨0,0⟩:af)]))) (λeW1=>(aP [Pv 6] [Xb 6 eW1])) (λqW1=>bt 7 t0.procs (aK 3 14 (cO 12 (λqW2=>(aP [Iv 1 kind1,Iv 2 m2,Pv 3,Pv 6,Iv 7 qW1,Iv 8 qW2] [Xb 3 t0,Xb 6 (⟨0,0⟩:af)])) (λeW2=>(2,(aP [Iv 1 kind1,Iv 2 m2,Pv 3,Pv 6,Iv 7 qW1] [Xb 3 t0,Xb 6 (⟨0,0⟩:af)]))) (λeW2=>(aP [Pv 6] [Xb 6 eW2])) (λqW2=>bh 8 λx_1 _=>bt 2 x_1.events (aK 3 25 (bh 10 λx_2 _=>bh 3 λx_3 _=>kN 2 9 0 x_3 (bG 9 5 [9,41] 46 (aK 9 41 (aJ 5) (aJ 5)) λx_4=>aK 2 46 aj aj)) aj)) (λeW2=>aj) (λeW2=>aj)) aj)) (λeW1=>aj) (λeW1=>aj)))
namespace cA
def J1 (out5:Sl af) (tb2:Trace) (xb3:af):Option (Sl af):=
 (rR tb2 xb3).bind λx_1=>
 ay (x_1.kind==3)
 ((cC tb2 2 x_1.message).bind λx_2=>
 (ig out5 (x_2:af)).bind λx_3=>
 some x_3)
 (some out5)
end cA
def cA (t0:Trace) (x1:af):Option (Sl af):=
 ay (decide (x1.index>1))
 (cA.J1 (Sl.row [⟨x1.proc,IntKind.wrap .i64 (x1.index-1)⟩]:Sl af) t0 x1)
 (cA.J1 (Sl.nil:Sl af) t0 x1)
open cA in
theorem wK (t0:Trace) (x1:af):Le ((cA t0 x1).bind λr=>some (b7 r)) (bu Sy cL (BN (tr Tx 140)) (.rc (tb Tx 140),[],start ([enc t0,enc x1].map .v) [])):=
 c_ 2 2 t0 (aK 17 9 (Nt 10 17 18 .aG (⟨x1.proc,IntKind.wrap .i64 (x1.index-1)⟩:af) (uU 5 (aT 4 λx_1 _=>kN 1 6 0 x_1 (aK 10 24 (aT 6 λx_2 _=>qh 1 2005 30 31 λx_3 _=>aj) aj)))) (uU 5 (aT 4 λx_1 _=>kN 1 6 0 x_1 (aK 10 24 (aT 6 λx_2 _=>qh 1 2005 30 31 λx_3 _=>aj) aj))))
def mE (dir:af->Option (Sl af)):List (List Bool)×List af->Option (Fw (List (List Bool)×List af) (List (List Bool)) Empty)
 | (out,[])=>some (.x out)
 | (out,y::rest)=>if 0<=y.proc/\0<=y.index then(out[y.proc.toNat]?).bind λrow=>(row[y.index.toNat]?).bind λb=>
  ay b (some (.n (out,rest))) ((dir y).bind λmore=>if rest.length+more.l.length<=2147483648 then some (.n (out.set y.proc.toNat (row.set y.index.toNat true),rest++more.l))else none)else none
def eU (t:Trace):List (List Bool):=t.procs.l.map λP=>List.replicate (P.events.l.length+1) false
def wP (t:Trace):Bool:=decide (t.procs.l.length<=2147483648)&&t.procs.l.all λP=>decide (P.events.l.length+1<=2147483648)
def nested (out:List (List Bool)):Sl (Sl Bool):=if out=[]then .nil else .row (out.map .row)
def kU (t:Trace) (x:af):Option (Sl (Sl Bool)):=
 if wP t then(cA t x).bind λs=>(aX (mE (cA t)) (eU t,s.l)).bind (Fw.elim (λout=>some (nested out)) (λe=>Empty.elim e))else none
end
end Go.VE
namespace Go.VE
namespace pastX
abbrev tY:Nat->FuncId:=λn=>n
def r1:List RO:=[o2 2 (.a .box) [0] [],o2 3 (.a .box) [1] [],o1 4 (.k (.aG)) []]
def r2:List RO:=[o1 5 (.k (.aG)) []]
def r3:List RO:=[o1 6 (.k (.int .i64 0)) []]
def r4:List RO:=[o1 11 6 [],o2 12 (fa 0) [2] [],o2 13 (ld 1) [12] [],o2 14 ln [13] [],o2 15 (bI .lss) [11,14] []]
def r5:List RO:=[o1 18 5 [],o2 19 (fa 0) [2] [],o2 20 (ld 1) [19] [],o1 21 6 [],o2 22 (ix 3) [20,21] [],o2 23 (fa 2) [22] [],o2 24 (ld 1) [23] [],o2 25 ln [24] [],o2 26 (bI .add) [25,.k (.int .i64 1)] [],o2 27 (.a (.makeSl 1 [.bool false])) [26,26] [],o2 28 (.a (.buildSl 1 1 [.aG] [0])) [27] [],o2 29 (.l (.append 1)) [18,28] [],o1 5 29 []]
def r6:List RO:=[o1 16 6 [],o2 17 (bI .add) [16,.k (.int .i64 1)] [],o1 6 17 []]
def L1:RC:=.seq (.seq (.ops r4) (.cond (.s 15) (.skip) (.exit 0))) (.seq (.block 1 (.ops r5)) (.ops r6))
def r7:List RO:=[o2 30 (lD 1) [2] [],o2 31 (lD 2) [3] [],o2 32 .c [.f 140,30,31] [],o1 7 32 []]
def r8:List RO:=[o1 33 7 [],o2 34 ln [33] [],o2 35 (bI .gtr) [34,.k (.int .i64 0)] []]
def r9:List RO:=[o1 36 7 [],o2 37 (ix 2) [36,.k (.int .i64 0)] [],o2 38 (lD 2) [37] [],o2 8 (.a (.alloc 2 [.int .i64 0,.int .i64 0])) [] [],oz (su 2) [8,38] []]
def AM:List RO:=[o1 39 7 [],o2 40 (.p (.slice 2 true false)) [39,.k (.int .i64 1)] [],o1 7 40 []]
def Cl:List RO:=[o1 41 5 [],o2 42 (fa 0) [8] [],o2 43 (ld 1) [42] [],o2 44 (ix 1) [41,43] [],o2 45 (ld 1) [44] [],o2 46 (fa 1) [8] [],o2 47 (ld 1) [46] [],on 48 (ix 1) [45,47] [],on 49 (ld 1) [48] []]
def Ce:List RO:=[o1 50 5 [],o2 51 (fa 0) [8] [],o2 52 (ld 1) [51] [],o2 53 (ix 1) [50,52] [],o2 54 (ld 1) [53] [],o2 55 (fa 1) [8] [],o2 56 (ld 1) [55] [],on 57 (ix 1) [54,56] [],oy (su 1) [57,.k (.bool true)] []]
def CI:List RO:=[o2 58 (lD 1) [2] [],o2 59 (lD 2) [8] [],o2 60 .c [.f 140,58,59] [],o1 9 60 []]
def Bg:List RO:=[o1 10 (.k (.int .i64 0)) []]
def Cw:List RO:=[o1 61 10 [],o1 62 9 [],o2 63 ln [62] [],o2 64 (bI .lss) [61,63] []]
def B1:List RO:=[o1 67 7 [],o1 68 9 [],o1 69 10 [],o2 70 (ix 2) [68,69] [],o2 71 (lD 2) [70] [],o2 72 (.a (.buildSl 2 1 [.int .i64 0,.int .i64 0] [0])) [71] [],o2 73 (.l (.append 2)) [67,72] [],o1 7 73 []]
def Kc:List RO:=[o1 65 10 [],o2 66 (bI .add) [65,.k (.int .i64 1)] [],o1 10 66 []]
def L3:RC:=.seq (.seq (.ops Cw) (.cond (.s 64) (.skip) (.exit 4))) (.seq (.block 5 (.ops B1)) (.ops Kc))
def L2:RC:=.seq (.seq (.ops r8) (.cond (.s 35) (.skip) (.exit 2))) (.block 3 (.seq (.ops r9) (.seq (.ops AM) (.seq (.seq (.nq Cl) (.cond (.s 49) (.exit 3) (.skip))) (.seq (.nq Ce) (.seq (.ops CI) (.seq (.ops Bg) (.block 4 (.loop L3)))))))))
def TH:List RO:=[o1 74 5 [],o1 4 74 []]
def code:RC:=.seq (.ops r1) (.seq (.ops r2) (.seq (.seq (.ops r3) (.block 0 (.loop L1))) (.seq (.ops r7) (.seq (.block 2 (.loop L2)) (.seq (.ops TH) (.ret))))))
noncomputable abbrev tQ:=Go.Proofs.YtdoibkkdaojjpaaGreat.E
def iC (out:List (List Bool)):List (List V):=out.map λr=>r.map V.bool
theorem shape:∃fi,tQ.ft (tY 107)=some fi/\aL ⟨tQ,some,fi.ntmps⟩ false fi.body=some code/\2<=fi.ntmps/\fi.results=[.tmp 4]:=by
 have h:((tQ.ft (tY 107)).map λfi=>(aL ⟨tQ,some,fi.ntmps⟩ false fi.body,Nat.ble 2 fi.ntmps,fi.results))=some (some code,true,[.tmp 4]):=by kernel_rfl
 obtain⟨fi,h1,h2⟩:=ζf.1 h;simp only[ζc]at h2;exact⟨fi,h1,h2.1,Nat.le_of_ble_eq_true h2.2.1,h2.2.2⟩
section
variable {E:Env} {N:Nat->FuncId} {t:Trace} {x:af} {k:Nat} {F:Frame} {H H1:aq} {call:cq} {b:Option Nat}
theorem h_ {o:RO} {l:List RO} {v:V} {r:Frame×aq} (hg:o.gd=none) (hv:aF E N call b o.now o.k (o.az.map (aA N F)) H=some (v,H1)) (h:bF E N call b l (ax F o.dst v) H1=some r):bF E N call b (o::l) F H=some r:=by
 simp only[bF,hg,hv];exact h
theorem vp {o:RO} {l:List RO} {v:V} {r:Frame×aq} (hg:o.gd=none) (hv:aF E N call b o.now o.k (o.az.map (aA N F)) H=some (v,H)) (h:bF E N call b l (ax F o.dst v) H=some r):bF E N call b (o::l) F H=some r:=h_ hg hv h
theorem cH:bF E N call b [] F H=some (F,H):=rfl
theorem ld1 (h:H[0]? = some (.row 1 [cells t])):dG H (.load 1 false) [.hptr 0 0 0]=some (aZ t.procs):=by
 simp[dG,cS,h,Ob.rows];rfl
theorem UK {s:Sl bA} {p:bA} {i:Nat} (h:s.l[i]? = some p):jK 3 (aZ s) (i:Int)=some (.fptr (cells p)):=by
 have:=BI (N:=λn=>n) s .i64 (i:Int) 3 rfl
 simp only[ak]at this;rw[this,show idx s (i:Int)=some p from by unfold idx;rw[if_pos (by omega)];exact h];rfl
theorem x4 (f2:get F 2=.hptr 0 0 0) (f6:get F 6=.int .i64 k) (h0:H[0]? = some (.row 1 [cells t])) :
 ∃F',bF E N call none r4 F H=some (F',H)/\get F' 15=.bool (decide (k<t.procs.l.length))/\(∀s,s<11->get F' s=get F s):=by
 refine⟨_,vp (v:=.int .i64 k) rfl ?_ <| vp (v:=.hptr 0 0 0) rfl ?_ <| vp (v:=aZ t.procs) rfl ?_ <| vp (v:=.int .i64 t.procs.l.length) rfl ?_ <| vp (v:=.bool (decide (k<t.procs.l.length))) rfl ?_ cH,?_,?_⟩
 .simp[aF,aA,ak,f6]
 .simp[aF,aA,ak,ax,f2,fL]
 .simp only[aF,List.map_cons,List.map_nil,aA,ax,aC,Nat.reduceEqDiff,if_true,if_false];rw[ld1 h0];rfl
 .simp only[aF,List.map_cons,List.map_nil,aA,ax,aC,Nat.reduceEqDiff,if_true,if_false];rw[vW];rfl
 .simp[aF,aA,ak,ax,fG,lK]
 .simp[ax]
 .intro s hs;simp only[ax,aC]
  repeat (rw[if_neg (by omega)])
theorem vw {n:Nat} (h:n<=2147483648):IntKind.wrap .i64 ((n:Int)+1)=((n+1:Nat):Int):=by
 simp[IntKind.wrap,IntKind.bits,IntKind.signed];omega
theorem x5 {P:bA} {o:Nat} {ids:List Nat} {rows:List (List V)} (f2:get F 2=.hptr 0 0 0) (f6:get F 6=.int .i64 k) (h0:H[0]? = some (.row 1 [cells t])) (hP:t.procs.l[k]? = some P) (hl:P.events.l.length+1<=2147483648)
 (hn:kf H (get F 5) o ids rows) (hr:rows.length+1<=2147483648) :
 ∃F' H',bF E N call none r5 F H=some (F',H')/\kf H' (get F' 5) (H.length+2) (ids++[H.length]) (rows++[List.replicate (P.events.l.length+1) (.bool false)])/\H.length<=H'.length/\(∀id,id<H.length->id≠o\/rows=[]->H'[id]? = H[id]?)/\(∀s,s<11->s≠5->get F' s=get F s):=by
 obtain⟨H',p1,p2,p3,p4⟩:=hn.push (List.replicate (P.events.l.length+1) (.bool false)) hr;have hrep:gG (List.replicate (P.events.l.length+1) (V.bool false))=List.replicate (P.events.l.length+1) [.bool false]:=by simp[gG]
 rw[hrep,List.length_replicate]at p1;have hb:=vw (n:=P.events.l.length) (by omega)
 refine⟨_,H',vp (v:=get F 5) rfl ?_ <| vp (v:=.hptr 0 0 0) rfl ?_ <| vp (v:=aZ t.procs) rfl ?_ <| vp (v:=.int .i64 k) rfl ?_ <| vp (v:=.fptr (cells P)) rfl ?_ <| vp (v:=.fptr [aZ P.events]) rfl ?_ <| vp (v:=aZ P.events) rfl ?_ <|
  vp (v:=.int .i64 P.events.l.length) rfl ?_ <| vp (v:=.int .i64 ((P.events.l.length+1:Nat):Int)) rfl ?_ <| h_ (v:=.hsl H.length 1 0 (P.events.l.length+1)) (H1:=H++[.row 1 (List.replicate (P.events.l.length+1) [.bool false])]) rfl ?_ <|
  h_ (v:=.hsl (H.length+1) 1 0 1) (H1:=H++[.row 1 (List.replicate (P.events.l.length+1) [.bool false])]++[.row 1 [[.hsl H.length 1 0 (P.events.l.length+1)]]]) rfl ?_ <|
  h_ (v:=.hsl (H.length+2) 1 0 (rows.length+1)) (H1:=H') rfl ?_ <| vp (v:=.hsl (H.length+2) 1 0 (rows.length+1)) rfl ?_ cH,?_,p3,p4,?_⟩
 .simp[aF,aA,ak]
 .simp[aF,aA,ak,ax,f2,fL]
 .simp only[aF,List.map_cons,List.map_nil,aA,ax,aC,Nat.reduceEqDiff,if_true,if_false];rw[ld1 h0];rfl
 .simp[aF,aA,ak,ax,f6]
 .simp only[aF,List.map_cons,List.map_nil,aA,ax,aC,Nat.reduceEqDiff,if_true,if_false,ak];rw[UK hP];rfl
 .simp only[aF,List.map_cons,List.map_nil,aA,ax,aC,Nat.reduceEqDiff,if_true,if_false,ak];rfl
 .simp only[aF,List.map_cons,List.map_nil,aA,ax,aC,Nat.reduceEqDiff,if_true,if_false];rfl
 .simp only[aF,List.map_cons,List.map_nil,aA,ax,aC,Nat.reduceEqDiff,if_true,if_false];rw[vW];rfl
 .simp only[aF,List.map_cons,List.map_nil,aA,ax,aC,Nat.reduceEqDiff,if_true,if_false,ak,fG];rw[hb];rfl
 .simp only[aF,List.map_cons,List.map_nil,aA,ax,aC,Nat.reduceEqDiff,if_true,if_false,iS];rw[if_pos ⟨trivial,trivial,by omega,by omega,by omega⟩]
  simp only[Option.map_some,Mk.val,Int.toNat_natCast]
 .simp only[aF,List.map_cons,List.map_nil,aA,ax,aC,Nat.reduceEqDiff,if_true,if_false,iS];simp[fD,V.cells,V.one,Mk.val]
 .simp only[aF,List.map_cons,List.map_nil,aA,ax,aC,Nat.reduceEqDiff,if_true,if_false];exact p1
 .simp[aF,aA,ak,ax]
 .simp only[ax,aC,if_true];exact p2
 .intro s hs h5;simp only[ax,aC];rw[if_neg (Ne.symm h5)]
  repeat (rw[if_neg (by omega)])
theorem x6 (f6:get F 6=.int .i64 k) (hk:k<=2147483648):∃F',bF E N call none r6 F H=some (F',H)/\get F' 6=.int .i64 ((k+1:Nat):Int)/\(∀s,s<11->s≠6->get F' s=get F s):=by
 have hb:=vw hk;refine⟨_,vp (v:=.int .i64 k) rfl ?_ <| vp (v:=.int .i64 ((k+1:Nat):Int)) rfl ?_ <| vp (v:=.int .i64 ((k+1:Nat):Int)) rfl ?_ cH,?_,?_⟩
 .simp[aF,aA,ak,f6]
 .simp only[aF,List.map_cons,List.map_nil,aA,ax,aC,Nat.reduceEqDiff,if_true,if_false,ak,fG];rw[hb];rfl
 .simp[aF,aA,ak,ax]
 .simp[ax]
 .intro s hs h6;simp only[ax,aC];rw[if_neg (Ne.symm h6)]
  repeat (rw[if_neg (by omega)])
end
structure P1 (t:Trace) (x:af) (k:Nat) (F:Frame) (H:aq):Prop where
 f2:get F 2=.hptr 0 0 0
 f3:get F 3=.hptr 1 0 0
 f6:get F 6=.int .i64 k
 h0:H[0]? = some (.row 1 [cells t])
 h1:H[1]? = some (.row 2 [cells x])
 ns:∃o ids,kf H (get F 5) o ids (iC ((eU t).take k))/\(k≠0->2<=o)/\∀id∈ids,2<=id
theorem tT (out:List (List Bool)):(iC out).length=out.length:=by simp[iC]
theorem GV {E:Env} {N:Nat->FuncId} {t:Trace} {x:af} (hok:wP t=true):∀(m k:Nat) (F:Frame) (H:aq),k+m=t.procs.l.length->P1 t x k F H->∃F' H',jP E N L1 F H (.exit 0) F' H'/\P1 t x t.procs.l.length F' H':=by
 have hok':t.procs.l.length<=2147483648/\∀P∈t.procs.l,P.events.l.length+1<=2147483648:=by
  simpa [wP]using hok
 intro m
 induction m with
 | zero=>
  intro k F H hk p;have hk':k=t.procs.l.length:=by omega
  obtain⟨F1,e1,e2,e3⟩:=x4 (E:=E) (N:=N) (call:=λ_ _ _=>none) p.f2 p.f6 p.h0
  refine⟨F1,H,jP.stop (Ex.qP (Ex.seq (Ex.bS λc=>?_) (Ex.nv ?_ Ex.exit)) (by simp)) (by simp),?_⟩
  .obtain⟨F2,g1,_,_⟩:=x4 (E:=E) (N:=N) (call:=c) p.f2 p.f6 p.h0;have:bF E N c none r4 F H=bF E N (λ_ _ _=>none) none r4 F H:=rfl
   rw[this];exact e1
  .show get F1 15=_;rw[e2];simp[hk']
  .subst hk';exact⟨by rw[e3 2 (by omega)];exact p.f2,by rw[e3 3 (by omega)];exact p.f3,by rw[e3 6 (by omega)];exact p.f6,p.h0,p.h1,by rw[e3 5 (by omega)];exact p.ns⟩
 | succ m ih=>
  intro k F H hk p;have hkl:k<t.procs.l.length:=by omega
  obtain⟨o,ids,n1,n2,n3⟩:=p.ns;obtain⟨F1,e1,e2,e3⟩:=x4 (E:=E) (N:=N) (call:=λ_ _ _=>none) p.f2 p.f6 p.h0
  have hP:=ζd hkl;have hlen:((eU t).take k).length=k:=by simp[eU];omega
  have n1':kf H (get F1 5) o ids (iC ((eU t).take k)):=by rw[e3 5 (by omega)];exact n1
  obtain⟨F2,H2,g1,g2,g3,g4,g5⟩:=x5 (E:=E) (N:=N) (call:=λ_ _ _=>none) (by rw[e3 2 (by omega)];exact p.f2) (by rw[e3 6 (by omega)];exact p.f6) p.h0 hP (hok'.2 _ (List.getElem_mem hkl)) n1' (by rw[tT,hlen];omega)
  obtain⟨F3,q1,q2,q3⟩:=x6 (E:=E) (N:=N) (call:=λ_ _ _=>none) (H:=H2) (k:=k) (F:=F2) (by rw[g5 6 (by omega) (by omega),e3 6 (by omega)];exact p.f6) (by omega)
  have hl:=n1.lt;have h0l:=(ζe.1 p.h0).1;have h1l:=(ζe.1 p.h1).1;have hkeep:∀i,i<2->i<H.length->H2[i]? = H[i]? := λi hi hl=>g4 i hl (by
   by_cases hk0:k=0
   .subst hk0;right;simp[iC]
   .left;have:=n2 hk0;omega)
  have hp3:P1 t x (k+1) F3 H2:=by
   refine⟨by rw[q3 2 (by omega) (by omega),g5 2 (by omega) (by omega),e3 2 (by omega)];exact p.f2,by rw[q3 3 (by omega) (by omega),g5 3 (by omega) (by omega),e3 3 (by omega)];exact p.f3,q2,
    by rw[hkeep 0 (by omega) h0l];exact p.h0,by rw[hkeep 1 (by omega) h1l];exact p.h1,H.length+2,ids++[H.length],?_,λ_=>by omega,λid hid=>?_⟩
   .rw[q3 5 (by omega) (by omega)]
    have hrows:iC ((eU t).take (k+1))=iC ((eU t).take k)++[List.replicate (t.procs.l[k].events.l.length+1) (.bool false)]:=by
     rw[List.take_add_one];have:(eU t)[k]? = some (List.replicate (t.procs.l[k].events.l.length+1) false):=by simp[eU,hP]
     rw[this];simp[iC]
    rw[hrows];exact g2
   .rcases List.mem_append.1 hid with h|h
    .exact n3 id h
    .simp at h;omega
  obtain⟨F',H',r1,r2⟩:=ih (k+1) F3 H2 (by omega) hp3
  refine⟨F',H',jP.step (Ex.seq (Ex.seq (Ex.bS λc=>e1) (Ex.kP ?_ Ex.skip)) (Ex.seq (Ex.block (Ex.bS λc=>g1)) (Ex.bS λc=>q1))) r1,r2⟩
  show get F1 15=_;rw[e2];simp[hkl]
section
variable {E:Env} {N:Nat->FuncId} {t:Trace} {x y:af} {F:Frame} {H:aq} {call:cq}
theorem x8 {l:List (List V)} {id:Nat} (h:iO H (get F 7) l id):∃F',bF E N call none r8 F H=some (F',H)/\get F' 35=.bool (decide (0<l.length))/\(∀s,s<11->get F' s=get F s):=by
 refine⟨_,vp (v:=get F 7) rfl ?_ <| vp (v:=.int .i64 l.length) rfl ?_ <| vp (v:=.bool (decide (0<l.length))) rfl ?_ cH,?_,?_⟩
 .simp[aF,aA,ak]
 .simp only[aF,List.map_cons,List.map_nil,aA,ax,aC,Nat.reduceEqDiff,if_true,if_false,ak,h.len,Option.map_some]
 .simp[aF,aA,ak,ax,fG,lK]
 .simp[ax]
 .intro s hs;simp only[ax,aC]
  repeat (rw[if_neg (by omega)])
theorem x9 {l:List (List V)} {id:Nat} (h:iO H (get F 7) (cells y::l) id):∃F',bF E N call none r9 F H=some (F',H++[.row 2 [cells y]])/\get F' 8=.hptr H.length 0 0/\(∀s,s<11->s≠8->get F' s=get F s):=by
 obtain⟨p,p1,p2⟩:=h.get (i:=0) (c:=cells y) rfl;refine⟨_,vp (v:=get F 7) rfl ?_ <| vp (v:=p) rfl ?_ <| vp (v:=.agg (cells y)) rfl ?_ <| h_ (v:=.hptr H.length 0 0) (H1:=H++[.row 2 [[.int .i64 0,.int .i64 0]]]) rfl ?_ <| h_ (v:=.undef) (H1:=H++[.row 2 [cells y]]) rfl ?_ cH,?_,?_⟩
 .simp[aF,aA,ak]
 .simp only[aF,List.map_cons,List.map_nil,aA,ax,aC,Nat.reduceEqDiff,if_true,if_false,ak];rw[show (0:Int)=((0:Nat):Int)from rfl,p1];rfl
 .simp only[aF,List.map_cons,List.map_nil,aA,ax,aC,Nat.reduceEqDiff,if_true,if_false];rw[p2];rfl
 .simp only[aF,List.map_cons,List.map_nil,aA,ax,aC,Nat.reduceEqDiff,if_true,if_false,iS,Option.map_some,Mk.val]
 .simp only[aF,List.map_cons,List.map_nil,aA,ax,aC,Nat.reduceEqDiff,if_true,if_false];simp[dK,V.cells,V.one]
 .simp[ax]
 .intro s hs h8;simp only[ax,aC];rw[if_neg (Ne.symm h8)]
  repeat (rw[if_neg (by omega)])
theorem U3 {c:List V} {l:List (List V)} {id:Nat} (h:iO H (get F 7) (c::l) id):∃F',bF E N call none AM F H=some (F',H)/\iO H (get F' 7) l id/\(∃off m off',get F 7=.hsl id 2 off m/\get F' 7=.hsl id 2 off' l.length)/\(∀s,s<11->s≠7->get F' s=get F s):=by
 obtain⟨w',p1,p2,off,m,off',p3,p4⟩:=h.tail;refine⟨_,vp (v:=get F 7) rfl ?_ <| vp (v:=w') rfl ?_ <| vp (v:=w') rfl ?_ cH,?_,⟨off,m,off',p3,?_⟩,?_⟩
 .simp[aF,aA,ak]
 .simp only[aF,List.map_cons,List.map_nil,aA,ax,aC,Nat.reduceEqDiff,if_true,if_false,ak,jy,ζb,p1,Option.map_some]
 .simp[aF,aA,ak,ax]
 .simp only[ax,aC,if_true];exact p2
 .simp only[ax,aC,if_true];exact p4
 .intro s hs h8;simp only[ax,aC];rw[if_neg (Ne.symm h8)]
  repeat (rw[if_neg (by omega)])
theorem iz (H:aq):H.take H.length=H:=List.take_length ..
theorem P_ {c:Nat} (hc:H[c]? = some (.row 2 [cells y])):dG H (.load 1 false) [.hptr c 0 0]=some (.int .i64 y.proc)/\dG H (.load 1 false) [.hptr c 0 1]=some (.int .i64 y.index)/\dG H (.load 2 true) [.hptr c 0 0]=some (enc y):=by
 refine⟨?_,?_,?_⟩ <;> simp[dG,cS,hc,Ob.rows,cut] <;> rfl
theorem PO {c o:Nat} {ids:List Nat} {rows:List (List V)} {p j:Nat} {r:List V} {u:V} (f8:get F 8=.hptr c 0 0) (hc:H[c]? = some (.row 2 [cells y])) (hn:kf H (get F 5) o ids rows) (hp:y.proc=p) (hj:y.index=j) (hr:rows[p]? = some r) (hu:r[j]? = some u) :
 ∃F',bF E N call (some H.length) Cl F H=some (F',H)/\get F' 49=u/\(∀s,s<11->get F' s=get F s):=by
 obtain⟨id,q0,q1,q2,q3,q4⟩:=hn.cell hr hu;obtain⟨c1,c2,_⟩:=P_ hc;rw[hp]at c1;rw[hj]at c2;refine⟨_,vp (v:=get F 5) rfl ?_ <| vp (v:=.hptr c 0 0) rfl ?_ <| vp (v:=.int .i64 p) rfl ?_ <| vp (v:=.hptr o p 0) rfl ?_ <| vp (v:=.hsl id 1 0 r.length) rfl ?_ <| vp (v:=.hptr c 0 1) rfl ?_ <| vp (v:=.int .i64 j) rfl ?_ <| vp (v:=.hptr id j 0) rfl ?_ <| vp (v:=u) rfl ?_ cH,?_,?_⟩
 .simp[aF,aA,ak]
 .simp[aF,aA,ak,ax,f8,fL]
 .simp only[aF,List.map_cons,List.map_nil,aA,ax,aC,Nat.reduceEqDiff,if_true,if_false,iz];rw[c1];rfl
 .simp only[aF,List.map_cons,List.map_nil,aA,ax,aC,Nat.reduceEqDiff,if_true,if_false,ak];rw[q1];rfl
 .simp only[aF,List.map_cons,List.map_nil,aA,ax,aC,Nat.reduceEqDiff,if_true,if_false,iz];rw[q2];rfl
 .simp[aF,aA,ak,ax,f8,fL]
 .simp only[aF,List.map_cons,List.map_nil,aA,ax,aC,Nat.reduceEqDiff,if_true,if_false,iz];rw[c2];rfl
 .simp only[aF,List.map_cons,List.map_nil,aA,ax,aC,Nat.reduceEqDiff,if_true,if_false,ak];rw[q3];rfl
 .simp only[aF,List.map_cons,List.map_nil,aA,ax,aC,Nat.reduceEqDiff,if_true,if_false,iz];rw[q4];rfl
 .simp[ax]
 .intro s hs;simp only[ax,aC]
  repeat (rw[if_neg (by omega)])
theorem U0 {c o:Nat} {ids:List Nat} {rows:List (List V)} {p j:Nat} {r:List V} {u:V} (f8:get F 8=.hptr c 0 0) (hc:H[c]? = some (.row 2 [cells y])) (hn:kf H (get F 5) o ids rows) (hp:y.proc=p) (hj:y.index=j) (hr:rows[p]? = some r) (hu:r[j]? = some u) :
 ∃F' H',bF E N call (some H.length) Ce F H=some (F',H')/\kf H' (get F' 5) o ids (rows.set p (r.set j (.bool true)))/\H'.length=H.length/\(∀i,i∉ids->H'[i]? = H[i]?)/\(∀s,s<11->get F' s=get F s):=by
 obtain⟨id,q0,q1,q2,q3,q4⟩:=hn.cell hr hu;obtain⟨c1,c2,_⟩:=P_ hc;rw[hp]at c1;rw[hj]at c2;obtain⟨H',s1,s2,s3,s4⟩:=hn.set hr (ζe.1 hu).1 q0 (u:=.bool true) rfl rfl;refine⟨_,H',vp (v:=get F 5) rfl ?_ <| vp (v:=.hptr c 0 0) rfl ?_ <| vp (v:=.int .i64 p) rfl ?_ <| vp (v:=.hptr o p 0) rfl ?_ <| vp (v:=.hsl id 1 0 r.length) rfl ?_ <| vp (v:=.hptr c 0 1) rfl ?_ <| vp (v:=.int .i64 j) rfl ?_ <| vp (v:=.hptr id j 0) rfl ?_ <| h_ (v:=.undef) (H1:=H') rfl ?_ cH,?_,s3,λi hi=>s4 i λe=>hi (e▸List.mem_of_getElem? q0),?_⟩
 .simp[aF,aA,ak]
 .simp[aF,aA,ak,ax,f8,fL]
 .simp only[aF,List.map_cons,List.map_nil,aA,ax,aC,Nat.reduceEqDiff,if_true,if_false,iz];rw[c1];rfl
 .simp only[aF,List.map_cons,List.map_nil,aA,ax,aC,Nat.reduceEqDiff,if_true,if_false,ak];rw[q1];rfl
 .simp only[aF,List.map_cons,List.map_nil,aA,ax,aC,Nat.reduceEqDiff,if_true,if_false,iz];rw[q2];rfl
 .simp[aF,aA,ak,ax,f8,fL]
 .simp only[aF,List.map_cons,List.map_nil,aA,ax,aC,Nat.reduceEqDiff,if_true,if_false,iz];rw[c2];rfl
 .simp only[aF,List.map_cons,List.map_nil,aA,ax,aC,Nat.reduceEqDiff,if_true,if_false,ak];rw[q3];rfl
 .simp only[aF,List.map_cons,List.map_nil,aA,ax,aC,Nat.reduceEqDiff,if_true,if_false,s1]
 .simp only[ax,aC,Nat.reduceEqDiff,if_false];exact s2
 .intro s hs;simp only[ax,aC]
  repeat (rw[if_neg (by omega)])
def Dn (E:Env) (N:Nat->FuncId) (t:Trace) (dir:af->Option (Sl af)):Prop:=∀(y:af) (s:Sl af) (H:aq),dir y=some s ->
 ∃w X id,(∃n,∀k,n<=k->dM E (run E k) (N 140) [enc t,enc y] H=some (w,H++X))/\iO (H++X) w (s.l.map cells) id/\(∀off m,w=.hsl id 2 off m->id=H.length)
theorem TU {a d:Nat} (hd:E.keep (N 140)=true) {dir:af->Option (Sl af)} (hD:Dn E N t dir) {s:Sl af} (hs:dir y=some s) (f2:get F 2=.hptr 0 0 0) (h0:H[0]? = some (.row 1 [cells t])) {c:Nat} (hc:H[c]? = some (.row 2 [cells y])) :
 ∃w X id,iO (H++X) w (s.l.map cells) id/\(∀off m,w=.hsl id 2 off m->id=H.length) /\
  (get F 8=.hptr c 0 0->∃F',(∃n,∀k,n<=k->bF E N (run E k) none CI F H=some (F',H++X))/\get F' 9=w/\(∀s,s<11->s≠9->get F' s=get F s)) /\
  (get F 3=.hptr c 0 0->∃F',(∃n,∀k,n<=k->bF E N (run E k) none r7 F H=some (F',H++X))/\get F' 7=w/\(∀s,s<11->s≠7->get F' s=get F s)):=by
 obtain⟨w,X,id,⟨n,e1⟩,e2,e3⟩:=hD y s H hs;have ht:dG H (.load 1 true) [.hptr 0 0 0]=some (enc t):=by
  simp[dG,cS,h0,Ob.rows,cut];rfl
 obtain⟨_,_,hy⟩:=P_ hc;refine⟨w,X,id,e2,e3,λf8=>⟨_,⟨n,λk hk=>vp (v:=enc t) rfl ?_ <| vp (v:=enc y) rfl ?_ <| h_ (v:=w) (H1:=H++X) rfl ?_ <| vp (v:=w) rfl ?_ cH⟩,?_,?_⟩,λf3=>⟨_,⟨n,λk hk=>vp (v:=enc t) rfl ?_ <| vp (v:=enc y) rfl ?_ <| h_ (v:=w) (H1:=H++X) rfl ?_ <| vp (v:=w) rfl ?_ cH⟩,?_,?_⟩⟩
 .simp only[aF,List.map_cons,List.map_nil,aA,f2];rw[ht];rfl
 .simp only[aF,List.map_cons,List.map_nil,aA,ax,aC,Nat.reduceEqDiff,if_true,if_false,f8];rw[hy];rfl
 .simp only[aF,List.map_cons,List.map_nil,aA,ax,aC,Nat.reduceEqDiff,if_true,if_false,hd,List.nil_append,List.append_nil];exact e1 k hk
 .simp[aF,aA,ak,ax]
 .simp[ax]
 .intro s hs h9;simp only[ax,aC];rw[if_neg (Ne.symm h9)]
  repeat (rw[if_neg (by omega)])
 .simp only[aF,List.map_cons,List.map_nil,aA,f2];rw[ht];rfl
 .simp only[aF,List.map_cons,List.map_nil,aA,ax,aC,Nat.reduceEqDiff,if_true,if_false,f3];rw[hy];rfl
 .simp only[aF,List.map_cons,List.map_nil,aA,ax,aC,Nat.reduceEqDiff,if_true,if_false,hd,List.nil_append,List.append_nil];exact e1 k hk
 .simp[aF,aA,ak,ax]
 .simp[ax]
 .intro s hs h9;simp only[ax,aC];rw[if_neg (Ne.symm h9)]
  repeat (rw[if_neg (by omega)])
end
section
variable {E:Env} {N:Nat->FuncId} {F:Frame} {H:aq} {call:cq} {i:Nat}
theorem Np {l:List (List V)} {id:Nat} (f10:get F 10=.int .i64 i) (h:iO H (get F 9) l id):∃F',bF E N call none Cw F H=some (F',H)/\get F' 64=.bool (decide (i<l.length))/\(∀s,s<11->get F' s=get F s):=by
 refine⟨_,vp (v:=.int .i64 i) rfl ?_ <| vp (v:=get F 9) rfl ?_ <| vp (v:=.int .i64 l.length) rfl ?_ <| vp (v:=.bool (decide (i<l.length))) rfl ?_ cH,?_,?_⟩
 .simp[aF,aA,ak,f10]
 .simp[aF,aA,ak,ax]
 .simp only[aF,List.map_cons,List.map_nil,aA,ax,aC,Nat.reduceEqDiff,if_true,if_false,ak,h.len,Option.map_some]
 .simp[aF,aA,ak,ax,fG,lK]
 .simp[ax]
 .intro s hs;simp only[ax,aC]
  repeat (rw[if_neg (by omega)])
theorem UQ {l l9:List (List V)} {id id9:Nat} {c:List V} (f10:get F 10=.int .i64 i) (h:iO H (get F 7) l id) (h9:iO H (get F 9) l9 id9) (hc:l9[i]? = some c) (hl:l.length+1<=2147483648) :
 ∃F' H',bF E N call none B1 F H=some (F',H')/\iO H' (get F' 7) (l++[c]) (H.length+1)/\H'.length=H.length+2/\(∀i,i<H.length->(∀off m,get F 7=.hsl id 2 off m->i≠id)->H'[i]? = H[i]?)/\(∀s,s<11->s≠7->get F' s=get F s):=by
 have hcc:=h9.c c (List.mem_of_getElem? hc);obtain⟨p,p1,p2⟩:=h9.get hc;obtain⟨H',q1,q2,q3,q4⟩:=h.push hcc hl;refine⟨_,H',vp (v:=get F 7) rfl ?_ <| vp (v:=get F 9) rfl ?_ <| vp (v:=.int .i64 i) rfl ?_ <| vp (v:=p) rfl ?_ <| vp (v:=.agg c) rfl ?_ <| h_ (v:=.hsl H.length 2 0 1) (H1:=H++[.row 2 [c]]) rfl ?_ <| h_ (v:=.hsl (H.length+1) 2 0 (l.length+1)) (H1:=H') rfl ?_ <| vp (v:=.hsl (H.length+1) 2 0 (l.length+1)) rfl ?_ cH,?_,q3,q4,?_⟩
 .simp[aF,aA,ak]
 .simp[aF,aA,ak,ax]
 .simp[aF,aA,ak,ax,f10]
 .simp only[aF,List.map_cons,List.map_nil,aA,ax,aC,Nat.reduceEqDiff,if_true,if_false,ak];rw[p1];rfl
 .simp only[aF,List.map_cons,List.map_nil,aA,ax,aC,Nat.reduceEqDiff,if_true,if_false];rw[p2];rfl
 .simp only[aF,List.map_cons,List.map_nil,aA,ax,aC,Nat.reduceEqDiff,if_true,if_false,iS];have h2:c.all V.one=true:=hcc.2;simp[fD,V.cells,hcc.1,Mk.val];exact λa ha=>List.all_eq_true.1 h2 a ha
 .simp only[aF,List.map_cons,List.map_nil,aA,ax,aC,Nat.reduceEqDiff,if_true,if_false];exact q1
 .simp[aF,aA,ak,ax]
 .simp only[ax,aC,if_true];exact q2
 .intro s hs h8;simp only[ax,aC];rw[if_neg (Ne.symm h8)]
  repeat (rw[if_neg (by omega)])
theorem UU (f10:get F 10=.int .i64 i) (hk:i<=2147483648):∃F',bF E N call none Kc F H=some (F',H)/\get F' 10=.int .i64 ((i+1:Nat):Int)/\(∀s,s<11->s≠10->get F' s=get F s):=by
 have hb:=vw hk;refine⟨_,vp (v:=.int .i64 i) rfl ?_ <| vp (v:=.int .i64 ((i+1:Nat):Int)) rfl ?_ <| vp (v:=.int .i64 ((i+1:Nat):Int)) rfl ?_ cH,?_,?_⟩
 .simp[aF,aA,ak,f10]
 .simp only[aF,List.map_cons,List.map_nil,aA,ax,aC,Nat.reduceEqDiff,if_true,if_false,ak,fG];rw[hb];rfl
 .simp[aF,aA,ak,ax]
 .simp[ax]
 .intro s hs h6;simp only[ax,aC];rw[if_neg (Ne.symm h6)]
  repeat (rw[if_neg (by omega)])
structure P3 (l l9:List (List V)) (B i:Nat) (F:Frame) (H:aq):Prop where
 f10:get F 10=.int .i64 i
 t9:∃id9,iO H (get F 9) l9 id9/\∃id,iO H (get F 7) l id/\(∀off m,get F 7=.hsl id 2 off m->B<=id/\∀off' m',get F 9=.hsl id9 2 off' m'->id≠id9)
 len:B<=H.length
theorem S9 (l9:List (List V)) (B:Nat) (hl9:l9.length<=2147483648):∀(m i:Nat) (l:List (List V)) (F:Frame) (H:aq),i+m=l9.length->l.length+m<=2147483648->P3 l l9 B i F H ->
 ∃F' H',jP E N L3 F H (.exit 4) F' H'/\(∃id,iO H' (get F' 7) (l++l9.drop i) id/\∀off m,get F' 7=.hsl id 2 off m->B<=id)/\(∀s,s<7->get F' s=get F s)/\(∀j,j<B->H'[j]? = H[j]?)/\H.length<=H'.length:=by
 intro m
 induction m with
 | zero=>
  intro i l F H hi hl p;obtain⟨id9,t9,id,t7,ap⟩:=p.t9;obtain⟨F1,e1,e2,e3⟩:=Np (E:=E) (N:=N) (call:=λ_ _ _=>none) p.f10 t9
  refine⟨F1,H,jP.stop (Ex.qP (Ex.seq (Ex.bS λc=>e1) (Ex.nv ?_ Ex.exit)) (by simp)) (by simp),⟨id,?_,λoff m h=>?_⟩,λs hs=>e3 s (by omega),λ_ _=>rfl,Nat.le_refl _⟩
  .show get F1 64=_;rw[e2];simp;omega
  .rw[e3 7 (by omega),List.drop_of_length_le (by omega),List.append_nil];exact t7
  .rw[e3 7 (by omega)]at h;exact(ap off m h).1
 | succ m ih=>
  intro i l F H hi hl p;have hil:i<l9.length:=by omega
  obtain⟨id9,t9,id,t7,ap⟩:=p.t9;obtain⟨F1,e1,e2,e3⟩:=Np (E:=E) (N:=N) (call:=λ_ _ _=>none) p.f10 t9
  have hc:=ζd hil;have t7':iO H (get F1 7) l id:=by rw[e3 7 (by omega)];exact t7
  have t9':iO H (get F1 9) l9 id9:=by rw[e3 9 (by omega)];exact t9
  obtain⟨F2,H2,g1,g2,g3,g4,g5⟩:=UQ (E:=E) (N:=N) (call:=λ_ _ _=>none) (by rw[e3 10 (by omega)];exact p.f10) t7' t9' hc (by omega)
  obtain⟨F3,q1,q2,q3⟩:=UU (E:=E) (N:=N) (call:=λ_ _ _=>none) (H:=H2) (i:=i) (F:=F2) (by rw[g5 10 (by omega) (by omega),e3 10 (by omega)];exact p.f10) (by omega)
  have keep:∀j,j<H.length->(∀off m,get F 7=.hsl id 2 off m->j≠id)->H2[j]? = H[j]? := λj hj h=>g4 j hj (by rw[e3 7 (by omega)];exact h)
  have hp3:P3 (l++[l9[i]]) l9 B (i+1) F3 H2:=by
   refine⟨q2,⟨id9,?_,H.length+1,by rw[q3 7 (by omega) (by omega)];exact g2,λoff m h=>⟨by have:=p.len;omega,λoff' m' h'=>?_⟩⟩,by have:=p.len;omega⟩
   .rw[q3 9 (by omega) (by omega),g5 9 (by omega) (by omega),e3 9 (by omega)]
    exact t9.heap λoff n hw=>keep id9 (t9.lt hw) λoff' m' hw'=>Ne.symm ((ap off' m' hw').2 off n hw)
   .rw[q3 9 (by omega) (by omega),g5 9 (by omega) (by omega),e3 9 (by omega)]at h'
    have:=t9.lt h';omega
  obtain⟨F',H',r1,⟨id',r2,r3⟩,r4,r5,r6⟩:=ih (i+1) (l++[l9[i]]) F3 H2 (by omega) (by simp;omega) hp3
  refine⟨F',H',jP.step (Ex.seq (Ex.seq (Ex.bS λc=>e1) (Ex.kP ?_ Ex.skip)) (Ex.seq (Ex.block (Ex.bS λc=>g1)) (Ex.bS λc=>q1))) r1,⟨id',?_,r3⟩,λs hs=>?_,λj hj=>?_,by omega⟩
  .show get F1 64=_;rw[e2];simp[hil]
  .rw[List.append_assoc]at r2;rw[List.drop_eq_getElem_cons hil];exact r2
  .rw[r4 s hs,q3 s (by omega) (by omega),g5 s (by omega) (by omega),e3 s (by omega)]
  .have:=p.len;rw[r5 j hj,keep j (by omega) λoff m h=>by have:=(ap off m h).1;omega]
end
structure P2 (t:Trace) (out:List (List Bool)) (l:List af) (F:Frame) (H:aq):Prop where
 f2:get F 2=.hptr 0 0 0
 h0:H[0]? = some (.row 1 [cells t])
 ns:∃B o ids id,kf H (get F 5) o ids (iC out)/\(out≠[]->1<=o/\o<B)/\(∀id∈ids,1<=id/\id<B)/\1<=B/\B<=H.length/\iO H (get F 7) (l.map cells) id/\∀off m,get F 7=.hsl id 2 off m->B<=id
theorem MJ (out:List (List Bool)) (p j:Nat) (row:List Bool):iC (out.set p (row.set j true))=(iC out).set p ((row.map V.bool).set j (.bool true)):=by
 simp[iC,List.map_set]
theorem Ej {out:List (List Bool)}:iC out=[]↔out=[]:=by simp[iC]
theorem KK {dir:af->Option (Sl af)} {out:List (List Bool)} {y:af} {rest:List af} {w:Fw (List (List Bool)×List af) (List (List Bool)) Empty} (h:mE dir (out,y::rest)=some w) :
 ∃(p j:Nat) (row:List Bool) (b:Bool),y.proc=p/\y.index=j/\out[p]? = some row/\row[j]? = some b/\((b=true/\w=.n (out,rest))\/(b=false/\∃more,dir y=some more/\rest.length+more.l.length<=2147483648/\w=.n (out.set p (row.set j true),rest++more.l))):=by
 simp only[mE]at h;split at h
 .rename_i hy;obtain⟨row,h1,h⟩:=ζg.1 h;obtain⟨b,h2,h⟩:=ζg.1 h;refine⟨y.proc.toNat,y.index.toNat,row,b,by omega,by omega,h1,h2,?_⟩
  cases b with
  | true=>left;simp only[ay]at h;exact⟨rfl,by simpa using h.symm⟩
  | false=>
   right;simp only[ay,Bool.false_eq_true,if_false]at h;obtain⟨more,h3,h⟩:=ζg.1 h;split at h
   .rename_i hl;exact⟨rfl,more,h3,hl,by simpa using h.symm⟩
   .cases h
 .cases h
theorem G8 {E:Env} {N:Nat->FuncId} {t:Trace} {dir:af->Option (Sl af)} (hd:E.keep (N 140)=true) (hD:Dn E N t dir):∀(k:Nat) (out:List (List Bool)) (l:List af) (out':List (List Bool)) (F:Frame) (H:aq),
 gW (mE dir) k (out,l)=some (.x out')->P2 t out l F H->∃F' H',jP E N L2 F H (.exit 2) F' H'/\P2 t out' [] F' H':=by
 intro k
 induction k with
 | zero=>intro out l out' F H h;simp[gW]at h
 | succ k ih=>
  intro out l out' F H h p;obtain⟨B,o,ids,id,n1,n2,n3,n4,n5,t7,t8⟩:=p.ns;obtain⟨F1,e1,e2,e3⟩:=x8 (E:=E) (N:=N) (call:=λ_ _ _=>none) t7
  rw[List.length_map]at e2
  cases l with
  | nil=>
   simp only[gW,mE]at h;cases h;refine⟨F1,H,jP.stop (Ex.qP (Ex.seq (Ex.bS λc=>e1) (Ex.nv ?_ Ex.exit)) (by simp)) (by simp),?_⟩
   .show get F1 35=_;rw[e2];simp
   .exact⟨by rw[e3 2 (by omega)];exact p.f2,p.h0,B,o,ids,id,by rw[e3 5 (by omega)];exact n1,n2,n3,n4,n5,by rw[e3 7 (by omega)];exact t7,by rw[e3 7 (by omega)];exact t8⟩
  | cons y rest=>
   simp only[gW]at h
   cases hst:mE dir (out,y::rest)with
   | none=>rw[hst]at h;cases h
   | some w=>
   rw[hst]at h;obtain⟨q,j,row,b,hq,hj,hrow,hb,hcase⟩:=KK hst;have t7':iO H (get F1 7) (cells y::rest.map cells) id:=by rw[e3 7 (by omega)];exact t7
   obtain⟨F2,g1,g2,g3⟩:=x9 (E:=E) (N:=N) (call:=λ_ _ _=>none) t7'
   have t7'':iO (H++[.row 2 [cells y]]) (get F2 7) (cells y::rest.map cells) id:=by rw[g3 7 (by omega) (by omega)];exact t7'.more _
   obtain⟨F3,i1,i2,⟨off1,m1,off2,i3,i4⟩,i5⟩:=U3 (E:=E) (N:=N) (call:=λ_ _ _=>none) t7''
   have hcl:(H++[Ob.row 2 [cells y]])[H.length]? = some (.row 2 [cells y]):=by simp
   have f8:get F3 8=.hptr H.length 0 0:=by rw[i5 8 (by omega) (by omega)];exact g2
   have f5:get F3 5=get F 5:=by rw[i5 5 (by omega) (by omega),g3 5 (by omega) (by omega),e3 5 (by omega)]
   have f2:get F3 2=.hptr 0 0 0:=by rw[i5 2 (by omega) (by omega),g3 2 (by omega) (by omega),e3 2 (by omega)];exact p.f2
   have n5':kf (H++[.row 2 [cells y]]) (get F3 5) o ids (iC out):=by rw[f5];exact n1.more _
   have hr:(iC out)[q]? = some (row.map V.bool):=by simp[iC,hrow]
   have hu:(row.map V.bool)[j]? = some (.bool b):=by simp[hb]
   have hB8:B<=id:=by
    have:get F 7=.hsl id 2 off1 m1:=by rw[<-i3,g3 7 (by omega) (by omega),e3 7 (by omega)]
    exact t8 _ _ this
   obtain⟨F4,j1,j2,j3⟩:=PO (E:=E) (N:=N) (call:=λ_ _ _=>none) f8 hcl n5' hq hj hr hu
   have h35:aA N F1 (.s 35)=.bool true:=by show get F1 35=_;rw[e2];simp
   rcases hcase with⟨rfl,rfl⟩|⟨rfl,more,hm,hlen,rfl⟩
   .simp only at h;have hp2:P2 t out rest F4 (H++[.row 2 [cells y]]):=by
     refine⟨by rw[j3 2 (by omega)];exact f2,by rw[List.getElem?_append_left (ζe.1 p.h0).1];exact p.h0,B,o,ids,id,by rw[j3 5 (by omega)];exact n5',n2,n3,n4,by simp;omega,by rw[j3 7 (by omega)];exact i2,λoff m _=>hB8⟩
    obtain⟨F',H',r1,r2⟩:=ih out rest out' F4 _ h hp2;exact⟨F',H',jP.step (Ex.seq (Ex.seq (Ex.bS λc=>e1) (Ex.kP h35 Ex.skip)) (Ex.rQ (Ex.seq (Ex.bS λc=>g1) (Ex.seq (Ex.bS λc=>i1) (Ex.qP (Ex.seq (Ex.nq rfl λc=>j1) (Ex.kP j2 Ex.exit)) (by simp)))))) r1,r2⟩
   .simp only at h;have n6:kf (H++[.row 2 [cells y]]) (get F4 5) o ids (iC out):=by rw[j3 5 (by omega)];exact n5'
    obtain⟨F5,H5,k1,k2,k3,k4,k5⟩:=U0 (E:=E) (N:=N) (call:=λ_ _ _=>none) (by rw[j3 8 (by omega)];exact f8) hcl n6 hq hj hr hu
    have hnid:∀i,B<=i->i∉ids:=λi hi hm=>by have:=(n3 i hm).2;omega
    have hc5:H5[H.length]? = some (.row 2 [cells y]):=by rw[k4 _ (hnid _ n5)];exact hcl
    have h05:H5[0]? = some (.row 1 [cells t]):=by
     rw[k4 0 (λhm=>by have:=(n3 0 hm).1;omega),List.getElem?_append_left (ζe.1 p.h0).1];exact p.h0
    obtain⟨w9,X,id9,m1',m2,m3,_⟩:=TU (a:=0) (d:=0) (F:=F5) hd hD hm (by rw[k5 2 (by omega),j3 2 (by omega)];exact f2) h05 hc5
    obtain⟨F6,⟨nn,o1'⟩,o2',o3⟩:=m3 (by rw[k5 8 (by omega),j3 8 (by omega)];exact f8)
    have hl5:H5.length=H.length+1:=by rw[k3];simp
    have i7:get F6 7=.hsl id 2 off2 (rest.map cells).length:=by rw[o3 7 (by omega) (by omega),k5 7 (by omega),j3 7 (by omega)];exact i4
    have hidl:id<H.length:=by
     have:=t7'.lt (off:=off1) (m:=m1) (by rw[<-i3,g3 7 (by omega) (by omega)])
     exact this
    have t6:iO (H5++X) (get F6 7) (rest.map cells) id:=by
     have:get F6 7=get F3 7:=by rw[o3 7 (by omega) (by omega),k5 7 (by omega),j3 7 (by omega)]
     rw[this];refine(i2.heap (H':=H5) λoff n _=>k4 id (hnid id hB8)).more X
    have s10:∃F7,(∀c,bF E N c none Bg F6 (H5++X)=some (F7,H5++X))/\get F7 10=.int .i64 ((0:Nat):Int)/\∀s,s<10->get F7 s=get F6 s:=
     ⟨set F6 10 (.int .i64 0),λc=>by simp[Bg,bF,aF,aA,ak,ax],by simp,λs hs=>by rw[aC,if_neg (by omega)]⟩
    obtain⟨F7,u1,u2,u3⟩:=s10;have hp3:P3 (rest.map cells) (more.l.map cells) B 0 F7 (H5++X):=by
     refine⟨u2,⟨id9,by rw[u3 9 (by omega),o2'];exact m1',id,by rw[u3 7 (by omega)];exact t6,λoff m hh=>⟨hB8,λoff' m' h'=>?_⟩⟩,by simp;omega⟩
     rw[u3 9 (by omega),o2']at h'
     have:=m2 off' m' h';omega
    obtain⟨F8,H8,v1,⟨id8,v2,v3⟩,v4,v5,v6⟩:=S9 (E:=E) (N:=N) (more.l.map cells) B (by simp;omega) (more.l.map cells).length 0 (rest.map cells) F7 (H5++X) (by omega) (by simp;omega) hp3
    have hn8:kf H8 (get F8 5) o ids (iC (out.set q (row.set j true))):=by
     have h5:get F8 5=get F5 5:=by rw[v4 5 (by omega),u3 5 (by omega),o3 5 (by omega) (by omega)]
     rw[h5,MJ];refine(k2.more X).heap (λhne=>v5 o ?_) λi hi=>v5 i (n3 i hi).2
     have:out≠[]:=by intro e;subst e;simp at hrow
     exact(n2 this).2
    have hp2:P2 t (out.set q (row.set j true)) (rest++more.l) F8 H8:=by
     refine⟨by rw[v4 2 (by omega),u3 2 (by omega),o3 2 (by omega) (by omega),k5 2 (by omega),j3 2 (by omega)];exact f2,?_,B,o,ids,id8,hn8,λhne=>n2 (by intro e;subst e;simp at hrow),n3,n4,by simp at v6;omega,?_,v3⟩
     .rw[v5 0 (by omega),List.getElem?_append_left (ζe.1 h05).1];exact h05
     .rw[List.drop_zero]at v2;rw[List.map_append];exact v2
    obtain⟨F',H',w1,w2⟩:=ih _ _ out' F8 H8 h hp2;exact⟨F',H',jP.step (Ex.seq (Ex.seq (Ex.bS λc=>e1) (Ex.kP h35 Ex.skip)) (Ex.block (Ex.seq (Ex.bS λc=>g1) (Ex.seq (Ex.bS λc=>i1) (Ex.seq (Ex.seq (Ex.nq rfl λc=>j1) (Ex.nv j2 Ex.skip)) (Ex.seq (Ex.nq rfl λc=>k1)
     (Ex.seq (Ex.ops ⟨nn,o1'⟩) (Ex.seq (Ex.bS u1) (Ex.rQ (Ex.loop v1))))))))) ) w1,w2⟩
theorem MY {H:aq} {Z:Nat->Prop} {id:Nat} {r:List Bool} (hz:Z id) (h:H[id]? = some (.row 1 (gG (r.map V.bool)))):FR H Z (enc (Sl.row r)) (.hsl id 1 0 r.length):=by
 have hr:au H id=some (1,gG (r.map V.bool)):=by simp[au,h,Ob.rows]
 have he:enc (Sl.row r)=.fsl 1 (rows r):=rfl;have hl:(rows r).length=r.length:=by simp[rows]
 have hc:gG (r.map V.bool)=rows r:=by simp[gG,rows,List.map_map,Function.comp_def]
 rw[hc]at hr;rw[he,<-hl];refine .fsl 1 (rows r) id 0 (rows r) hz hr (by omega) (λi a b h1 h2=>?_) (λi j a b u v h1 h2 h3 h4=>?_)
 .rw[Nat.zero_add,h1]at h2;cases h2;rfl
 .rw[Nat.zero_add,h1]at h2;cases h2;rw[h3]at h4;cases h4;refine .same u ?_;obtain⟨c,hc1,rfl⟩:∃c∈r,a=[V.bool c]:=by
   have:=List.mem_of_getElem? h1;simp only[rows,List.mem_map]at this;obtain⟨c,hc,rfl⟩:=this;exact⟨c,hc,rfl⟩
  have:=List.mem_of_getElem? h3;simp at this;subst this;rfl
theorem Ls {H:aq} {w:V} {o:Nat} {ids:List Nat} {out:List (List Bool)} (n:kf H w o ids (iC out)):∃Z,FR H Z (enc (nested out)) w/\(∀id,Z id->(au H id).isSome=true)/\Deep H Z:=by
 have hv:=n.v
 by_cases ho:out=[]
 .subst ho;rw[if_pos (show iC []=[]from rfl)]at hv;subst hv;exact⟨λ_=>False,.same _ rfl,λ_ h=>h.elim,⟨λ_ _ _ h=>h.elim⟩⟩
 .have hne:iC out≠[]:=λh=>ho (Ej.1 h)
  rw[if_neg hne,tT]at hv;subst hv;have hob:=n.ob hne;have hlen:=n.len;rw[tT]at hlen;have hrow:∀(i id:Nat) (r:List Bool),ids[i]? = some id->out[i]? = some r->H[id]? = some (.row 1 (gG (r.map V.bool))):=λi id r h1 h2=>n.r i id _ h1 (by simp[iC,h2])
  have href:∀(i:Nat) (c:List V),(refs ids (iC out))[i]? = some c->∃id r,ids[i]? = some id/\out[i]? = some r/\c=[.hsl id 1 0 r.length]:=λi c h=>by
   have hi:=(ζe.1 h).1;rw[qS n.len,tT]at hi;have h1:=ζd (show i<ids.length from by omega)
   have h2:=ζd hi;have h3:=zw (rows:=iC out) (r:=out[i].map V.bool) h1 (by simp[iC,h2])
   rw[h]at h3;exact⟨_,_,h1,h2,by simpa using h3⟩
  have hzo:au H o=some (1,refs ids (iC out)):=by simp[au,hob,Ob.rows]
  have hzi:∀id∈ids,∃(r:List Bool),H[id]? = some (.row 1 (gG (r.map V.bool))):=λid hid=>by
   obtain⟨i,hi⟩:=List.getElem?_of_mem hid;have hl:=(ζe.1 hi).1;exact⟨_,hrow i id _ hi (ζd (show i<out.length from by omega))⟩
  refine⟨λid=>id=o\/id∈ids,?_,λid h=>?_,⟨λid es ys h hr c hc u hu=>?_⟩⟩
  .have he:enc (nested out)=.fsl 1 (rows (out.map Sl.row)):=by rw[nested,if_neg ho];rfl
   have hl:(rows (out.map Sl.row)).length=out.length:=by simp[rows]
   rw[he,<-hl];refine .fsl 1 _ o 0 (refs ids (iC out)) (.inl rfl) hzo (by rw[hl,qS n.len,tT];omega) (λi a b h1 h2=>?_) (λi j a b u v h1 h2 h3 h4=>?_)
   .rw[Nat.zero_add]at h2;obtain⟨id,r,_,hr,rfl⟩:=href i b h2;simp[rows,hr]at h1;subst h1;rfl
   .rw[Nat.zero_add]at h2;obtain⟨id,r,hid,hr,rfl⟩:=href i b h2;have ha:a=[enc (Sl.row r)]:=by simp[rows,hr]at h1;exact h1.symm
    subst ha
    cases j with
    | zero=>
     simp at h3 h4;subst h3 h4;exact MY (.inr (List.mem_of_getElem? hid)) (hrow i id r hid hr)
    | succ j=>simp at h3
  .rcases h with rfl|h
   .simp[hzo]
   .obtain⟨r,hr⟩:=hzi id h;simp[au,hr,Ob.rows]
  .rcases h with rfl|h
   .rw[hzo]at hr;cases hr;obtain⟨i,hi⟩:=List.getElem?_of_mem hc;obtain⟨id,r,hid,hro,rfl⟩:=href i c hi;simp at hu;subst hu;exact⟨_,MY (.inr (List.mem_of_getElem? hid)) (hrow i id r hid hro)⟩
   .obtain⟨r,hr'⟩:=hzi id h;have:au H id=some (1,gG (r.map V.bool)):=by simp[au,hr',Ob.rows]
    rw[this]at hr;cases hr;simp only[gG,List.mem_map]at hc;obtain⟨_,⟨c',_,rfl⟩,rfl⟩:=hc;simp at hu;subst hu;exact⟨_,.same _ rfl⟩
theorem NF {t:Trace} {x:af} {out:List (List Bool)} {s:Sl af} {dir:af->Option (Sl af)} (hd:tQ.keep (tY 140)=true) (hD:Dn tQ tY t dir) (hok:wP t=true) (hs:dir x=some s) (hw:aX (mE dir) (eU t,s.l)=some (.x out)) :
 uK tQ (tY 107) [enc t,enc x] (enc (nested out)):=by
 obtain⟨fi,g1,g2,g3,g4⟩:=shape;obtain⟨k,hk⟩:=lS.1 hw;have b1:∃F1,(∀c,bF tQ tY c none r1 [enc t,enc x] []=some (F1,[.row 1 [cells t],.row 2 [cells x]]))/\get F1 2=.hptr 0 0 0/\get F1 3=.hptr 1 0 0:=by
  refine⟨_,λc=>h_ (v:=.hptr 0 0 0) (H1:=[.row 1 [cells t]]) rfl ?_ <| h_ (v:=.hptr 1 0 0) (H1:=[.row 1 [cells t],.row 2 [cells x]]) rfl ?_ <| vp (v:=.aG) rfl ?_ cH,?_,?_⟩
  .show (iS .box [enc t]).map _=_;simp only[iS,jd,od,if_true,Option.map_some,dN];rfl
  .simp only[aF,List.map_cons,List.map_nil,aA,ax,aC,Nat.reduceEqDiff,if_false];show (iS .box [enc x]).map _=_;simp only[iS,jd,od,if_true,Option.map_some,dN];rfl
  .simp[aF,aA,ak]
  .simp[ax]
  .simp[ax]
 obtain⟨F1,c1,c2,c3⟩:=b1;have b3:∃F3,(∀c,bF tQ tY c none r2 F1 [.row 1 [cells t],.row 2 [cells x]]=some (set F1 5 .aG,[.row 1 [cells t],.row 2 [cells x]]))/\(∀c,bF tQ tY c none r3 (set F1 5 .aG) [.row 1 [cells t],.row 2 [cells x]]=some (F3,[.row 1 [cells t],.row 2 [cells x]]))/\P1 t x 0 F3 [.row 1 [cells t],.row 2 [cells x]]:=by
  refine⟨set (set F1 5 .aG) 6 (.int .i64 0),λc=>by simp[r2,bF,aF,aA,ak,ax],λc=>by simp[r3,bF,aF,aA,ak,ax],by simp[c2],by simp[c3],by simp,rfl,rfl,0,[],?_,λh=>absurd rfl h,λid h=>by simp at h⟩
  have:get (set (set F1 5 .aG) 6 (.int .i64 0)) 5=.aG:=by simp
  rw[this,List.take_zero];exact kf.nil _ 0
 obtain⟨F3,d1,d2,d3⟩:=b3;obtain⟨F4,H4,e1,e2⟩:=GV (E:=tQ) (N:=tY) hok t.procs.l.length 0 F3 _ (by omega) d3
 obtain⟨o,ids,n1,n2,n3⟩:=e2.ns;have hlen:(eU t).length=t.procs.l.length:=by simp[eU]
 rw[List.take_of_length_le (by omega)]at n1
 obtain⟨w,X,id,m1,m2,_,m4⟩:=TU (a:=0) (d:=0) (F:=F4) (E:=tQ) (N:=tY) hd hD hs e2.f2 e2.h0 (c:=1) e2.h1;obtain⟨F5,o1,o2,o3⟩:=m4 e2.f3;have hp2:P2 t (eU t) s.l F5 (H4++X):=by
  refine⟨by rw[o3 2 (by omega) (by omega)];exact e2.f2,by rw[List.getElem?_append_left (ζe.1 e2.h0).1];exact e2.h0,H4.length,o,ids,id,by rw[o3 5 (by omega) (by omega)];exact n1.more X,λhne=>?_,λi hi=>⟨by have:=n3 i hi;omega,n1.lt.2 i hi⟩,?_,by simp,by rw[o2];exact m1,λoff m h=>?_⟩
  .have hne':iC (eU t)≠[]:=λh=>hne (Ej.1 h)
   have:t.procs.l.length≠0:=by intro h;apply hne;exact List.eq_nil_of_length_eq_zero (by omega)
   have:=n2 this;exact⟨by omega,n1.lt.1 hne'⟩
  .have:=(ζe.1 e2.h0).1;omega
  .rw[o2]at h;have:=m2 off m h;omega
 obtain⟨F6,H6,p1,p2⟩:=G8 hd hD k _ _ out F5 _ hk hp2;obtain⟨B,o',ids',id',q1,_⟩:=p2.ns;have l1:∃F7,(∀c,bF tQ tY c none TH F6 H6=some (F7,H6))/\get F7 4=get F6 5:=by
  refine⟨_,λc=>vp (v:=get F6 5) rfl ?_ <| vp (v:=get F6 5) rfl ?_ cH,?_⟩
  .simp[aF,aA,ak]
  .simp[aF,aA,ak,ax]
  .simp[ax]
 obtain⟨F7,y1,y2⟩:=l1;have hex:Ex tQ tY code [enc t,enc x] [] .ret F7 H6:=
  Ex.seq (Ex.bS c1) (Ex.seq (Ex.bS d1) (Ex.seq (Ex.seq (Ex.bS d2) (Ex.rQ (Ex.loop e1))) (Ex.seq (Ex.ops o1) (Ex.seq (Ex.rQ (Ex.loop p1)) (Ex.seq (Ex.bS y1) Ex.ret)))))
 obtain⟨n,hrun⟩:=hex.run (nm:=some) yq g1 g2 (show [enc t,enc x].length<=fi.ntmps from g3) (vs:=[get F7 4]) (by rw[g4];rfl)
 obtain⟨Z,z1,z2,z3⟩:=Ls q1;exact⟨n,get F6 5,H6,Z,by rw[hrun,y2];rfl,z1,z2,z3⟩
theorem Rw (l:List af):∀c∈l.map (cells (α:=af)),c.length=2/\c.all V.one=true/\c.all V.scalar=true:=λc hc=>by
 obtain⟨e,_,rfl⟩:=List.mem_map.1 hc;exact⟨rfl,rfl,rfl⟩
theorem Ss (t:Trace):Dn tQ tY t (cA t):=by
 intro y s H hs;have h1:=wK t y;have h2:=h1 (b7 s) (by rw[hs];rfl)
 have hg:V.bD [enc t,enc y]=true:=by simp only[V.bD,gP,Bool.and_self]
 have hkind:s.k=.row\/s.k=.nil/\rows s.l=[]:=by
  have hj:∀o z,(∃l,o=.row l)\/o=.nil->cA.J1 o t y=some z->(∃l,z=.row l)\/z=.nil:=λo z ho hz=>by
   unfold cA.J1 at hz;obtain⟨e,_,hz⟩:=ζg.1 hz
   cases he:e.kind==3 with
   | true=>
    rw[he]at hz;obtain⟨f,_,hz⟩:=ζg.1 hz;obtain⟨q,hq,hz⟩:=ζg.1 hz;cases hz;unfold ig at hq;split at hq
    .cases hq;exact .inl ⟨_,rfl⟩
    .cases hq
   | false=>rw[he]at hz;cases hz;exact ho
  have:(∃l,s=.row l)\/s=.nil:=by
   unfold cA at hs
   cases hc:decide (y.index>1)with
   | true=>rw[hc]at hs;exact hj _ s (.inl ⟨_,rfl⟩) hs
   | false=>rw[hc]at hs;exact hj _ s (.inr rfl) hs
  rcases this with⟨l,rfl⟩|rfl
  .exact .inl rfl
  .exact .inr ⟨rfl,rfl⟩
 obtain⟨n,z,H',r1,r2⟩:=Rr Dh yg (T:=Tx) (f:=tY 140) (rf:=A_ (Tx 140)) (by kernel_rfl) hg (Nat.le_of_ble_eq_true (by kernel_rfl)) (k:=s.k) (es:=2) (xs:=rows s.l) (λc hc=>(Rw s.l c hc).2.2) hkind h2
 refine Ee (l:=s.l.map cells) (y:=z) (H1:=H') (by kernel_rfl) hg (Rw s.l) ⟨n,λk hk=>lH _ hk _ _ _ _ r1⟩ ?_ H
 rcases r2 with⟨h3,rfl⟩|⟨id,rfl,h4⟩
 .left;cases s <;> simp[Sl.k]at h3;exact⟨rfl,rfl⟩
 .right;exact⟨id,by simp[rows],h4⟩
end pastX
theorem Ld (t:Trace) (x:af) (r:Sl (Sl Bool)) (h:kU t x=some r):Sy.wG 107 [enc t,enc x]=some (enc r):=by
 unfold kU at h;split at h
 .rename_i hok;obtain⟨s,hs,h⟩:=ζg.1 h;obtain⟨w,hw,h⟩:=ζg.1 h
  cases w with
  | n a=>exact Empty.elim a
  | r e=>exact Empty.elim e
  | x out=>
   cases h;exact uF (pastX.NF (by kernel_rfl) (pastX.Ss t) hok hs hw)
 .cases h
end Go.VE
namespace Go.VE
noncomputable section
def tu:Option Bool:=some true
instance N3:Fc Sy cL tu:=⟨8,[],λr:Bool=>[.bool r],true,ji.wG (by kernel_rfl) (by kernel_rfl) JC⟩
namespace ec
def aB (s0:Sl Event) (v7:Int) (v8:Int) (p1:Event->Option Bool):Option (Fw Int Unit Int):=
 ay (decide (v8<v7))
 ((idx s0 v8).bind λx_1=>
 (p1 x_1).bind λx_2=>
 ay x_2
 (some (.r v8))
 (some (.n (IntKind.wrap .i64 (v8+1)))))
 (some (.x ()))
def W1 (s0:Sl Event) (v7 v8:Int) (p1:Event->Option Bool):Option Int:=
 (aX (λq:Int=>aB s0 v7 q p1) v8).bind (Fw.elim
 (λe=>some (-1))
 (λe=>some e))
end ec
def ec (s0:Sl Event) (p1:Event->Option Bool):Option Int:=
 ec.W1 s0 (len s0) 0 p1
open ec in
abbrev tC (g1:FuncId) (e1:List V) (p1:Event->Option Bool) (h1:ql Sy cL g1 [] e1 (λz:Event=>[enc z]) (λr:Bool=>[.bool r]) p1 true) (s0:Sl Event):Fc Sy cL (ec s0 p1):=Fc.M 102 [enc s0,.clo g1 [] e1] (bt 9 s0 (cO 5 (λqW1=>(aP [Cv 0 s0,(1,.v (.clo g1 [] e1)),Iv 7 (len s0),Iv 8 qW1] [])) (λeW1=>(0,(aP [] []))) (λeW1=>(aP [Iv 4 eW1] [])) (λqW1=>aK 7 9 (bh 16 λx_1 _=>yA 1 h1.f x_1 λx_2 _=>aK 2 16 aj aj) aj) (λeW1=>aj) (λeW1=>aj))) (l:=by simp[h1.d])
def fM (s0:Sl Event) (p1:Event->Option Bool):Option Bool:=
 (ec s0 p1).bind λx_1=>
 some (decide (x_1>=0))
abbrev lP (g1:FuncId) (e1:List V) (p1:Event->Option Bool) (h1:ql Sy cL g1 [] e1 (λz:Event=>[enc z]) (λr:Bool=>[.bool r]) p1 true) (s0:Sl Event):Fc Sy cL (fM s0 p1):=Fc.M 49 [enc s0,.clo g1 [] e1] (aT (F:=tC g1 e1 p1 h1 s0) 9 λx_1 _=>aj) (l:=by simp[h1.d])
def oW (x0:Event):Option Bool:=
 some (decide ((len x0.assign)>20))
instance Nw (x0:Event):Fc Sy cL (oW x0):=Fc.M 50 [enc x0] (c_ 2 1 x0 (bt 7 x0.assign aj))
namespace ga
def aB (v7:Sl bA) (v8:Int) (tb1:Trace) (n3 v9:Int):Option (Fw (Int×Int) Int Unit):=
 ay (decide (v9<v8))
 ((idx v7 v9).bind λx_1=>
 (ay (decide ((len x_1.events)>12))
 (some true)
 (some (decide ((len x_1.vars)>20))):Option Bool).bind λx_2=>
 (ay x_2
 (some true)
 ((fM x_1.events (λz=>oW z)).bind λx_3=>
 some x_3):Option Bool).bind λx_4=>
 ay x_4
 (some (.r ()))
 (some (.n (IntKind.wrap .i64 (n3+(len x_1.events)),IntKind.wrap .i64 (v9+1)))))
 (some (.x n3))
def W1 (n3:Int) (v7:Sl bA) (v8 v9:Int) (tb1:Trace):Option Bool:=
 (aX (λq:Int×Int=>aB v7 v8 tb1 q.1 q.2) (n3,v9)).bind (Fw.elim
 (λe=>(ay (decide ((len tb1.procs)<=10))
 ((ay (decide (e<=16))
 (some true)
 ((ay (decide (e>=24))
 (some (decide (e<=40)))
 (some false):Option Bool).bind λx_5=>
 (ay x_5
 (some ((len tb1.procs)==6))
 (some false):Option Bool).bind λx_6=>
 some x_6):Option Bool).bind λx_7=>
 some x_7)
 (some false):Option Bool).bind λx_8=>
 some x_8)
 (λe=>some false))
end ga
def ga (t0:Trace):Option Bool:=
 ga.W1 0 t0.procs (len t0.procs) 0 t0
open ga in
instance Qh (t0:Trace):Fc Sy cL (ga t0):=Fc.M 9 [enc t0] (c_ 2 1 t0 (bt 13 t0.procs (cO 5 (λqW1=>(aP [Pv 1,Iv 3 qW1.1,Cv 7 t0.procs,Iv 8 (len t0.procs),Iv 9 qW1.2] [Xb 1 t0])) (λeW1=>(0,(aP [Pv 1,Iv 3 eW1] [Xb 1 t0]))) (λeW1=>(aP [Bv 2 false] [])) (λqW1=>aK 7 10 (bh 7 λx_1 _=>kN 2 5 0 x_1 (bt 7 x_1.events (bt 8 x_1.events (bG 2 5 [22] 27 (aK 2 22 (aJ 5) (bt 2 x_1.vars (aJ 2))) λx_2=>bG 1 4 [5,28] 32 (aK 1 28 (aJ 4) (aT (F:=lP 50 [] (λz=>oW z) ql.wI x_1.events) 2 λx_3 _=>aJ 1)) λx_4=>aK 2 32 aj aj)))) aj) (λeW1=>bt 6 t0.procs (bG 2 17 [1,3,38] 55 (aK 2 38 (bG 3 13 [1,3,41] 54 (aK 3 41 (aJ 13) (bG 3 3 [3,44] 47 (aK 3 44 (aJ 3) (aJ 3)) λx_5=>bG 1 5 [1,48] 53 (aK 1 48 (bt 2 t0.procs (aJ 2)) (aJ 5)) λx_6=>aJ 1)) λx_7=>aJ 1) (aJ 17)) λx_8=>aj)) (λeW1=>aj))))
def mL (c0:Int):Option Bool:=
 (ay (decide (c0>=65))
 (some (decide (c0<=90)))
 (some false):Option Bool).bind λx_1=>
 (ay x_1
 (some true)
 ((ay (decide (c0>=97))
 (some (decide (c0<=122)))
 (some false):Option Bool).bind λx_2=>
 some x_2):Option Bool).bind λx_3=>
 some x_3
instance Nq (c0:Int):Fc Sy cL (mL c0):=Fc.M 157 [.int .u8 c0] (bG 10 3 [5] 8 (aK 10 5 (aJ 3) (aJ 3)) λx_1=>bG 1 7 [0,9] 16 (aK 1 9 (aJ 7) (bG 3 3 [0,12] 15 (aK 3 12 (aJ 3) (aJ 3)) λx_2=>aJ 1)) λx_3=>aj)
def qo (c0:Int):Option Bool:=
 (ay (decide (c0>=48))
 (some (decide (c0<=57)))
 (some false):Option Bool).bind λx_1=>
 some x_1
instance NI (c0:Int):Fc Sy cL (qo c0):=Fc.M 158 [.int .u8 c0] (bG 10 3 [0,5] 8 (aK 10 5 (aJ 3) (aJ 3)) λx_1=>aj)
namespace fA
def aB (s0:ByteArray) (i3:Int):Option (Fw Int Unit Unit):=
 ay (decide (i3<((ByteArray.size s0:Nat):Int)))
 ((iU s0 i3).bind λx_5=>
 (mL x_5).bind λx_6=>
 (ay x_6
 (some false)
 ((iU s0 i3).bind λx_7=>
 (qo x_7).bind λx_8=>
 some (!x_8)):Option Bool).bind λx_9=>
 (ay x_9
 ((iU s0 i3).bind λx_10=>
 some (!(x_10==95)))
 (some false):Option Bool).bind λx_11=>
 ay x_11
 (some (.r ()))
 (some (.n (IntKind.wrap .i64 (i3+1)))))
 (some (.x ()))
def W1 (s0:ByteArray) (i3:Int):Option Bool:=
 (aX (λq:Int=>aB s0 q) i3).bind (Fw.elim
 (λe=>some true)
 (λe=>some false))
end fA
def fA (s0:ByteArray):Option Bool:=
 (ay (decide (((ByteArray.size s0:Nat):Int)<1))
 (some true)
 (some (decide (((ByteArray.size s0:Nat):Int)>16))):Option Bool).bind λx_1=>
 (ay x_1
 (some true)
 ((iU s0 0).bind λx_2=>
 (mL x_2).bind λx_3=>
 some (!x_3)):Option Bool).bind λx_4=>
 ay x_4
 (some false)
 (fA.W1 s0 1)
open fA in
instance Pf (s0:ByteArray):Fc Sy cL (fA s0):=Fc.M 137 [.str s0] (bG 12 4 [7] 11 (aK 12 7 (aJ 4) (aJ 4)) λx_1=>bG 1 5 [12] 17 (aK 1 12 (aJ 5) (xY 1 .i64 λx_2 _=>aT 0 λx_3 _=>aJ 2)) λx_4=>aK 2 17 aj (cO 11 (λqW1=>(aP [(0,.v (.str s0)),Iv 3 qW1] [])) (λeW1=>(0,(aP [] []))) (λeW1=>(aP [Bv 2 false] [])) (λqW1=>aK 10 21 (xY 9 .i64 λx_5 _=>aT 0 λx_6 _=>bG 2 6 [29] 35 (c9 2 29 (aJ 6) (xY 2 .i64 λx_7 _=>aT 0 λx_8 _=>aJ 2)) λx_9=>bG 1 5 [36] 41 (aK 1 36 (xY 2 .i64 λx_10 _=>aJ 2) (aJ 5)) λx_11=>aK 2 41 aj aj) aj) (λeW1=>aj) (λeW1=>aj)))
def nJ (n0:Int):Option Bool:=
 (ay (decide (n0>=(-1073741824)))
 (some (decide (n0<=1073741824)))
 (some false):Option Bool).bind λx_1=>
 some x_1
instance NK (n0:Int):Fc Sy cL (nJ n0):=Fc.M 138 [.int .i64 n0] (bG 10 3 [0,5] 8 (aK 10 5 (aJ 3) (aJ 3)) λx_1=>aj)
namespace cT
def fN (i7:Int) (xb5:bA) (j8:Int):Option (Fw Int Unit Unit):=
 ay (decide (j8<i7))
 ((idx xb5.vars j8).bind λx_6=>
 (idx xb5.vars i7).bind λx_7=>
 ay (ByteArray.toList x_6.name==ByteArray.toList x_7.name)
 (some (.r ()))
 (some (.n (IntKind.wrap .i64 (j8+1)))))
 (some (.x ()))
def W3 (i7 j8:Int) (xb5:bA):Option (Fw Int Unit Int):=
 (aX (λq:Int=>fN i7 xb5 q) j8).bind (Fw.elim
 (λe=>(idx xb5.vars i7).bind λx_8=>
 (nJ x_8.init_).bind λx_9=>
 ay x_9
 (some (.n (IntKind.wrap .i64 (i7+1))))
 (some (.r 2)))
 (λe=>some (.r 13)))
def bn (xb5:bA) (i7:Int):Option (Fw Int Unit Int):=
 ay (decide (i7<(len xb5.vars)))
 ((idx xb5.vars i7).bind λx_4=>
 (fA x_4.name).bind λx_5=>
 ay x_5
 (W3 i7 0 xb5)
 (some (.r 13)))
 (some (.x ()))
def W2 (i7:Int) (xb5:bA):Option Int:=
 (aX (λq:Int=>bn xb5 q) i7).bind (Fw.elim
 (λe=>ay (decide ((len xb5.events)>64))
 (some 5)
 (some 0))
 (λe=>some e))
def aB (p1:Int) (tb2:Trace) (xb5:bA) (i6:Int):Option (Fw Int Unit Unit):=
 ay (decide (i6<p1))
 ((idx tb2.procs i6).bind λx_3=>
 ay (ByteArray.toList x_3.name==ByteArray.toList xb5.name)
 (some (.r ()))
 (some (.n (IntKind.wrap .i64 (i6+1)))))
 (some (.x ()))
def W1 (p1 i6:Int) (tb2:Trace) (xb5:bA):Option Int:=
 (aX (λq:Int=>aB p1 tb2 xb5 q) i6).bind (Fw.elim
 (λe=>ay (decide ((len xb5.vars)>8))
 (some 5)
 (cT.W2 0 xb5))
 (λe=>some 13))
end cT
def cT (t0:Trace) (p1:Int):Option Int:=
 (idx t0.procs p1).bind λx_1=>
 (fA x_1.name).bind λx_2=>
 ay x_2
 (cT.W1 p1 0 t0 x_1)
 (some 13)
open cT in
instance Pt (t0:Trace) (p1:Int):Fc Sy cL (cT t0 p1):=Fc.M 103 [enc t0,.int .i64 p1] (c_ 2 2 t0 (bh 8 λx_1 _=>kN 2 5 0 x_1 (aT 7 λx_2 _=>c9 3 17 (cO 11 (λqW1=>(aP [Iv 1 p1,Pv 2,Pv 5,Iv 6 qW1] [Xb 2 t0,Xb 5 x_1])) (λeW1=>(0,(aP [Pv 5] [Xb 5 x_1]))) (λeW1=>(aP [Iv 4 13] [])) (λqW1=>aK 9 20 (bh 10 λx_3 _=>aK 7 31 aj aj) aj) (λeW1=>bt 7 x_1.vars (aK 3 35 aj (cO 11 (λqW2=>(aP [Pv 5,Iv 7 qW2] [Xb 5 x_1])) (λeW2=>(2,(aP [Pv 5] [Xb 5 x_1]))) (λeW2=>(aP [Iv 4 eW2] [])) (λqW2=>bt 7 x_1.vars (aK 3 40 (bh 11 λx_4 _=>aT 2 λx_5 _=>c9 3 50 (cO 11 (λqW3=>(aP [Pv 5,Iv 7 qW2,Iv 8 qW3] [Xb 5 x_1])) (λeW3=>(4,(aP [Pv 5,Iv 7 qW2] [Xb 5 x_1]))) (λeW3=>(aP [Iv 4 13] [])) (λqW3=>aK 9 53 (bh 10 λx_6 _=>bh 5 λx_7 _=>aK 5 68 aj aj) aj) (λeW3=>bh 7 λx_8 _=>aT 2 λx_9 _=>c9 3 76 aj aj) (λeW3=>aj)) aj) aj)) (λeW2=>bt 7 x_1.events (aK 3 80 aj aj)) (λeW2=>aj)))) (λeW1=>aj)) aj)))
namespace cU
def fN (p1 k8:Int) (tb3:Trace) (xb7:Event) (ab9:Assign) (j10:Int):Option (Fw Int Unit Unit):=
 ay (decide (j10<k8))
 ((idx xb7.assign j10).bind λx_20=>
 ay (x_20.var==ab9.var)
 (some (.r ()))
 (some (.n (IntKind.wrap .i64 (j10+1)))))
 (some (.x ()))
def W3 (p1 k8 j10:Int) (tb3:Trace) (xb7:Event) (ab9:Assign):Option (Fw Int Unit Int):=
 (aX (λq:Int=>fN p1 k8 tb3 xb7 ab9 q) j10).bind (Fw.elim
 (λe=>some (.n (IntKind.wrap .i64 (k8+1))))
 (λe=>some (.r 8)))
def bn (p1:Int) (tb3:Trace) (xb7:Event) (k8:Int):Option (Fw Int Unit Int):=
 ay (decide (k8<(len xb7.assign)))
 ((idx xb7.assign k8).bind λx_15=>
 (ay (decide (x_15.var<0))
 (some true)
 ((idx tb3.procs p1).bind λx_16=>
 some (decide (x_15.var>=(len x_16.vars)))):Option Bool).bind λx_17=>
 (ay x_17
 (some true)
 ((nJ x_15.value).bind λx_18=>
 some (!x_18)):Option Bool).bind λx_19=>
 ay x_19
 (some (.r 2))
 (W3 p1 k8 0 tb3 xb7 x_15))
 (some (.x ()))
def W2 (p1 k8:Int) (tb3:Trace) (xb7:Event):Option Int:=
 (aX (λq:Int=>bn p1 tb3 xb7 q) k8).bind (Fw.elim
 (λe=>some 0)
 (λe=>some e))
def J1 (p1 i2:Int) (tb3:Trace) (xb7:Event):Option Int:=
 (ay (decide (xb7.time<0))
 (some true)
 (some (decide (xb7.time>1099511627776))):Option Bool).bind λx_10=>
 (ay x_10
 (some true)
 ((ay (decide (i2>0))
 ((idx tb3.procs p1).bind λx_11=>
 (idx x_11.events (IntKind.wrap .i64 (i2-1))).bind λx_12=>
 some (decide (xb7.time<x_12.time)))
 (some false):Option Bool).bind λx_13=>
 some x_13):Option Bool).bind λx_14=>
 ay x_14
 (some 11)
 (ay (decide ((len xb7.assign)>8))
 (some 5)
 (cU.W2 p1 0 tb3 xb7))
theorem uE (p1 i2:Int) (tb3:Trace) (xb7:Event):Le ((J1 p1 i2 tb3 xb7).bind (λr=>some [.int .i64 r])) (bu Sy cL (pz (tr Tx 104)) (sA (tb Tx 104) [1,1,1,0] [] (aP [Iv 1 p1,Iv 2 i2,Pv 3,Pv 7] [Xb 3 tb3,Xb 7 xb7]))):=
 bG 7 4 [71] 75 (aK 7 71 (aJ 4) (aJ 4)) λx_10=>bG 1 19 [2,76] 95 (aK 1 76 (aJ 19) (bG 3 15 [2,79] 94 (aK 3 79 (bh 5 λx_11 _=>bh 4 λx_12 _=>aJ 4) (aJ 15)) λx_13=>aJ 1)) λx_14=>aK 2 95 aj (bt 8 xb7.assign (aK 3 99 aj (cO 11 (λqW2=>(aP [Iv 1 p1,Pv 3,Pv 7,Iv 8 qW2] [Xb 3 tb3,Xb 7 xb7])) (λeW2=>(0,(aP [] []))) (λeW2=>(aP [Iv 6 eW2] [])) (λqW2=>bt 7 xb7.assign (aK 3 104 (bh 10 λx_15 _=>bG 12 11 [115] 126 (aK 12 115 (aJ 11) (bh 5 λx_16 _=>bt 2 x_16.vars (aJ 2))) λx_17=>vS 1 5 [130] (λx_19=>(aP [Iv 1 p1,Pv 3,Pv 7,Iv 8 qW2,Bv 104 true,Pv 9,Bv 132 x_19] [Xb 3 tb3,Xb 7 xb7,Xb 9 x_15])) (aK 1 127 (aJ 5) (jh 2 λx_18 _=>aJ 2)) λx_19=>aK 2 132 aj (cO 10 (λqW3=>(aP [Iv 1 p1,Pv 3,Pv 7,Iv 8 qW2,Pv 9,Iv 10 qW3] [Xb 3 tb3,Xb 7 xb7,Xb 9 x_15])) (λeW3=>(2,(aP [Iv 1 p1,Pv 3,Pv 7,Iv 8 qW2] [Xb 3 tb3,Xb 7 xb7]))) (λeW3=>(aP [Iv 6 8] [])) (λqW3=>aK 9 135 (bh 10 λx_20 _=>aK 7 146 aj aj) aj) (λeW3=>aj) (λeW3=>aj))) aj)) (λeW2=>aj) (λeW2=>aj))))
end cU
def cU (t0:Trace) (p1 i2:Int):Option Int:=
 (idx t0.procs p1).bind λx_1=>
 (idx x_1.events i2).bind λx_2=>
 ay (x_2.kind==1)
 ((ay (x_2.peer==0)
 (some (!(x_2.message==0)))
 (some true):Option Bool).bind λx_3=>
 ay x_3
 (some 3)
 (cU.J1 p1 i2 t0 x_2))
 ((ay (x_2.kind==2)
 (some false)
 (some (!(x_2.kind==3))):Option Bool).bind λx_4=>
 (ay x_4
 (some true)
 (some (decide (x_2.peer<0))):Option Bool).bind λx_5=>
 (ay x_5
 (some true)
 (some (decide (x_2.peer>=(len t0.procs)))):Option Bool).bind λx_6=>
 (ay x_6
 (some true)
 (some (x_2.peer==p1)):Option Bool).bind λx_7=>
 (ay x_7
 (some true)
 (some (decide (x_2.message<0))):Option Bool).bind λx_8=>
 (ay x_8
 (some true)
 (some (decide (x_2.message>199))):Option Bool).bind λx_9=>
 ay x_9
 (some 3)
 (cU.J1 p1 i2 t0 x_2))
open cU in
instance Pg (t0:Trace) (p1 i2:Int):Fc Sy cL (cU t0 p1 i2):=Fc.M 104 [enc t0,.int .i64 p1,.int .i64 i2] (c_ 2 3 t0 (bh 8 λx_1 _=>bh 3 λx_2 _=>kN 2 7 0 x_2 (aK 10 22 (bG 7 4 [26] 30 (c9 7 26 (aJ 4) (aJ 4)) λx_3=>aK 2 30 aj (BX 4 (uE p1 i2 t0 x_2))) (bG 7 4 [34] 38 (c9 7 34 (aJ 4) (aJ 4)) λx_4=>bG 1 4 [39] 43 (aK 1 39 (aJ 4) (aJ 4)) λx_5=>bG 1 7 [44] 51 (aK 1 44 (aJ 7) (bt 4 t0.procs (aJ 2))) λx_6=>bG 1 5 [52] 57 (aK 1 52 (aJ 5) (aJ 5)) λx_7=>bG 1 4 [58] 62 (aK 1 58 (aJ 4) (aJ 4)) λx_8=>bG 1 4 [63] 67 (aK 1 63 (aJ 4) (aJ 4)) λx_9=>aK 2 67 aj (BX 4 (uE p1 i2 t0 x_2))))))
namespace fZ
def aB (tb2:Trace) (xb3:af) (eb5:Event) (sent6:Bool) (i7:Int):Option (Fw (Bool×Int) Bool Empty):=
 (idx tb2.procs eb5.peer).bind λx_3=>
 ay (decide (i7<(len x_3.events)))
 ((idx tb2.procs eb5.peer).bind λx_4=>
 (idx x_4.events i7).bind λx_5=>
 (ay sent6
 (some true)
 ((ay (x_5.kind==2)
 (some (x_5.message==eb5.message))
 (some false):Option Bool).bind λx_6=>
 (ay x_6
 (some (x_5.peer==xb3.proc))
 (some false):Option Bool).bind λx_7=>
 some x_7):Option Bool).bind λx_8=>
 some (.n (x_8,IntKind.wrap .i64 (i7+1))))
 (some (.x sent6))
def W1 (sent6:Bool) (i7:Int) (tb2:Trace) (xb3:af) (eb5:Event):Option Int:=
 (aX (λq:Bool×Int=>aB tb2 xb3 eb5 q.1 q.2) (sent6,i7)).bind (Fw.elim
 (λe=>ay e
 (some 0)
 (some 7))
 (λe=>Empty.elim e))
end fZ
def fZ (t0:Trace) (x1:af):Option Int:=
 (rR t0 x1).bind λx_1=>
 ay (x_1.kind==1)
 (some 0)
 ((cC t0 x_1.kind x_1.message).bind λx_2=>
 ay (Gs x_2 x1)
 (ay (x_1.kind==3)
 (fZ.W1 false 0 t0 x1 x_1)
 (some 0))
 (some 8))
open fZ in
instance Nl (t0:Trace) (x1:af):Fc Sy cL (fZ t0 x1):=Fc.M 105 [enc t0,enc x1] (c_ 2 2 t0 (aT 8 λx_1 _=>kN 1 5 0 x_1 (aK 10 14 aj (jh 11 λx_2 _=>c9 4 22 (aK 11 25 (iq 14 (λqW1=>(aP [Pv 2,Pv 3,Pv 5,Bv 6 qW1.1,Iv 7 qW1.2] [Xb 2 t0,Xb 3 x1,Xb 5 x_1])) (λeW1=>(0,(aP [Bv 6 eW1] []))) (λqW1=>bh 9 λx_3 _=>bt 2 x_3.events (aK 3 35 (bh 11 λx_4 _=>bh 3 λx_5 _=>kN 2 8 0 x_5 (bG 5 18 [8,49] 67 (aK 5 49 (aJ 18) (bG 4 6 [53] 59 (aK 4 53 (aJ 6) (aJ 6)) λx_6=>bG 1 6 [8,60] 66 (aK 1 60 (aJ 6) (aJ 6)) λx_7=>aJ 1)) λx_8=>aj)) aj)) (λeW1=>c9 8 69 aj aj)) aj) aj))))
namespace bZ
def J4 (done3:Sl Int) (p5:Int) (tb1:Trace):Option (Fw ((Sl Int)×Bool) ((Sl Int)×Bool) Empty):=
 (Sl.kZ done3 p5).bind λx_12=>
 (Sl.get done3 x_12).bind λx_13=>
 (Sl.kZ done3 p5).bind λx_14=>
 (Sl.put done3 x_14 (IntKind.wrap .i64 (x_13+1):Int)).bind λx_15=>
 some (.n (x_15,true))
def fN (p5:Int) (tb1:Trace) (done3:Sl Int) (moved4:Bool):Option (Fw ((Sl Int)×Bool) ((Sl Int)×Bool) Empty):=
 (Sl.kZ done3 p5).bind λx_2=>
 (Sl.get done3 x_2).bind λx_3=>
 (idx tb1.procs p5).bind λx_4=>
 ay (decide (x_3<(len x_4.events)))
 ((idx tb1.procs p5).bind λx_5=>
 (Sl.kZ done3 p5).bind λx_6=>
 (Sl.get done3 x_6).bind λx_7=>
 (idx x_5.events x_7).bind λx_8=>
 ay (x_8.kind==3)
 ((cC tb1 2 x_8.message).bind λx_9=>
 (Sl.kZ done3 x_9.proc).bind λx_10=>
 (Sl.get done3 x_10).bind λx_11=>
 ay (decide (x_11<x_9.index))
 (some (.x (done3,moved4)))
 (J4 done3 p5 tb1))
 (J4 done3 p5 tb1))
 (some (.x (done3,moved4)))
def W3 (done3:Sl Int) (moved4:Bool) (p5:Int) (tb1:Trace):Option (Fw ((Sl Int)×Bool×Int) ((Sl Int)×Bool) Empty):=
 (aX (λq:(Sl Int)×Bool=>fN p5 tb1 q.1 q.2) (done3,moved4)).bind (Fw.elim
 (λe=>some (.n (e.1,e.2,IntKind.wrap .i64 (p5+1))))
 (λe=>Empty.elim e))
def bn (tb1:Trace) (done3:Sl Int) (moved4:Bool) (p5:Int):Option (Fw ((Sl Int)×Bool×Int) ((Sl Int)×Bool) Empty):=
 ay (decide (p5<(len tb1.procs)))
 (W3 done3 moved4 p5 tb1)
 (some (.x (done3,moved4)))
def W2 (done3:Sl Int) (moved4:Bool) (p5:Int) (tb1:Trace):Option (Fw (Sl Int) (Sl Int) Empty):=
 (aX (λq:(Sl Int)×Bool×Int=>bn tb1 q.1 q.2.1 q.2.2) (done3,moved4,p5)).bind (Fw.elim
 (λe=>ay e.2
 (some (.n e.1))
 (some (.x e.1)))
 (λe=>Empty.elim e))
def vc (done3:Sl Int) (tb1:Trace) (p8:Int):Option (Fw Int Unit Unit):=
 ay (decide (p8<(len tb1.procs)))
 ((Sl.kZ done3 p8).bind λx_16=>
 (Sl.get done3 x_16).bind λx_17=>
 (idx tb1.procs p8).bind λx_18=>
 ay (decide (x_17<(len x_18.events)))
 (some (.r ()))
 (some (.n (IntKind.wrap .i64 (p8+1)))))
 (some (.x ()))
def W5 (done3:Sl Int) (p8:Int) (tb1:Trace):Option Bool:=
 (aX (λq:Int=>vc done3 tb1 q) p8).bind (Fw.elim
 (λe=>some true)
 (λe=>some false))
def aB (tb1:Trace) (done3:Sl Int):Option (Fw (Sl Int) (Sl Int) Empty):=
 W2 done3 false 0 tb1
def W1 (done3:Sl Int) (tb1:Trace):Option Bool:=
 (aX (λq:Sl Int=>aB tb1 q) done3).bind (Fw.elim
 (λe=>bZ.W5 e 0 tb1)
 (λe=>Empty.elim e))
end bZ
def bZ (t0:Trace):Option Bool:=
 (sr (len t0.procs) (0:Int)).bind λx_1=>
 bZ.W1 x_1 t0
open bZ in
instance LG (t0:Trace):Fc Sy cL (bZ t0):=Fc.M 106 [enc t0] (c_ 2 1 t0 (bt 7 t0.procs (RQ 0 12 λx_1 _=>iq 7 (λqW1=>(aP [Pv 1,Ov 3] [Xb 1 t0,Lb 2003 qW1])) (λeW1=>(0,(aP [Pv 1,Ov 3] [Xb 1 t0,Lb 2003 eW1]))) (λqW1=>iq 17 (λqW2=>(aP [Pv 1,Ov 3,Bv 4 qW2.2.1,Iv 5 qW2.2.2] [Xb 1 t0,Lb 2003 qW2.1])) (λeW2=>(2,(aP [Pv 1,Ov 3,Bv 4 eW2.2] [Xb 1 t0,Lb 2003 eW2.1]))) (λqW2=>bt 8 t0.procs (aK 3 17 (iq 8 (λqW3=>(aP [Pv 1,Ov 3,Bv 4 qW3.2,Iv 5 qW2.2.2] [Xb 1 t0,Lb 2003 qW3.1])) (λeW3=>(4,(aP [Pv 1,Ov 3,Bv 4 eW3.2,Iv 5 qW2.2.2] [Xb 1 t0,Lb 2003 eW3.1]))) (λqW3=>me .i64 7 2003 λx_2 _=>sw 0 2003 0 1 false (λx_3=>.int .i64 x_3) λx_3 _=>bh 3 λx_4 _=>bt 2 x_4.events (aK 3 31 (bh 9 λx_5 _=>me .i64 4 2003 λx_6 _=>sw 0 2003 0 1 false (λx_7=>.int .i64 x_7) λx_7 _=>bh 0 λx_8 _=>kN 2 6 0 x_8 (aK 10 46 (aT 6 λx_9 _=>me .i64 9 2003 λx_10 _=>sw 0 2003 0 1 false (λx_11=>.int .i64 x_11) λx_11 _=>aK 5 58 aj (uU 5 (me .i64 4 2003 λx_12 _=>sw 0 2003 0 1 false (λx_13=>.int .i64 x_13) λx_13 _=>me .i64 1 2003 λx_14 _=>z6 0 2003 (.int .i64 (IntKind.wrap .i64 (x_13+1))) λx_15 _=>aj))) (uU 5 (me .i64 4 2003 λx_12 _=>sw 0 2003 0 1 false (λx_13=>.int .i64 x_13) λx_13 _=>me .i64 1 2003 λx_14 _=>z6 0 2003 (.int .i64 (IntKind.wrap .i64 (x_13+1))) λx_15 _=>aj)))) aj)) (λeW3=>aj)) aj)) (λeW2=>c9 8 66 aj aj)) (λeW1=>cO 11 (λqW5=>(aP [Pv 1,Ov 3,Iv 8 qW5] [Xb 1 t0,Lb 2003 eW1])) (λeW5=>(6,(aP [] []))) (λeW5=>(aP [Bv 2 false] [])) (λqW5=>bt 8 t0.procs (aK 3 71 (me .i64 9 2003 λx_16 _=>sw 0 2003 0 1 false (λx_17=>.int .i64 x_17) λx_17 _=>bh 3 λx_18 _=>bt 2 x_18.events (aK 3 85 aj aj)) aj)) (λeW5=>aj) (λeW5=>aj)))))
instance Pe (t:Trace) (x:af):Fc Sy cL (kU t x):=Fc.of (A:=λz:Trace×af=>[enc z.1,enc z.2]) (E:=λr:Sl (Sl Bool)=>[enc r]) (p:=λz=>kU z.1 z.2) (n:=107) (z:=(t,x)) (ji.My (by kernel_rfl) (by kernel_rfl) (λz r hr=>Ld z.1 z.2 r hr))
namespace bT
def fN (p6:Int) (tb1:Trace) (vb2:af) (i7:Int):Option (Fw Int Unit (Int×af)):=
 (idx tb1.procs p6).bind λx_3=>
 ay (decide (i7<(len x_3.events)))
 ((cU tb1 p6 i7).bind λx_4=>
 ay (x_4==0)
 (some (.n (IntKind.wrap .i64 (i7+1))))
 (some (.r (x_4,(⟨p6,IntKind.wrap .i64 (i7+1)⟩:af)))))
 (some (.x ()))
def W3 (p6 i7:Int) (tb1:Trace) (vb2:af):Option (Fw Int Unit (Int×af)):=
 (aX (λq:Int=>fN p6 tb1 vb2 q) i7).bind (Fw.elim
 (λe=>some (.n (IntKind.wrap .i64 (p6+1))))
 (λe=>some (.r (e.1,e.2))))
def vc (p9:Int) (tb1:Trace) (vb2:af) (i10:Int):Option (Fw Int Unit (Int×af)):=
 (idx tb1.procs p9).bind λx_5=>
 ay (decide (i10<(len x_5.events)))
 ((fZ tb1 (⟨p9,IntKind.wrap .i64 (i10+1)⟩:af)).bind λx_6=>
 ay (x_6==0)
 (some (.n (IntKind.wrap .i64 (i10+1))))
 (some (.r (x_6,(⟨p9,IntKind.wrap .i64 (i10+1)⟩:af)))))
 (some (.x ()))
def W5 (p9 i10:Int) (tb1:Trace) (vb2:af):Option (Fw Int Unit (Int×af)):=
 (aX (λq:Int=>vc p9 tb1 vb2 q) i10).bind (Fw.elim
 (λe=>some (.n (IntKind.wrap .i64 (p9+1))))
 (λe=>some (.r (e.1,e.2))))
def FL (p13:Int) (tb1:Trace) (vb2:af) (i14:Int):Option (Fw Int Unit af):=
 (idx tb1.procs p13).bind λx_7=>
 ay (decide (i14<(len x_7.events)))
 ((kU tb1 (⟨p13,IntKind.wrap .i64 (i14+1)⟩:af)).bind λx_8=>
 (idx x_8 p13).bind λx_9=>
 (idx x_9 (IntKind.wrap .i64 (i14+1))).bind λx_10=>
 ay x_10
 (some (.r (⟨p13,IntKind.wrap .i64 (i14+1)⟩:af)))
 (some (.n (IntKind.wrap .i64 (i14+1)))))
 (some (.x ()))
def W7 (p13 i14:Int) (tb1:Trace) (vb2:af):Option (Fw Int Unit af):=
 (aX (λq:Int=>FL p13 tb1 vb2 q) i14).bind (Fw.elim
 (λe=>some (.n (IntKind.wrap .i64 (p13+1))))
 (λe=>some (.r e)))
def Gb (tb1:Trace) (vb2:af) (p13:Int):Option (Fw Int Unit af):=
 ay (decide (p13<(len tb1.procs)))
 (W7 p13 0 tb1 vb2)
 (some (.x ()))
def W6 (p13:Int) (tb1:Trace) (vb2:af):Option (af×Int):=
 (aX (λq:Int=>Gb tb1 vb2 q) p13).bind (Fw.elim
 (λe=>some (⟨0,0⟩,0))
 (λe=>some (e,10)))
def Gi (tb1:Trace) (vb2:af) (p9:Int):Option (Fw Int Unit (Int×af)):=
 ay (decide (p9<(len tb1.procs)))
 (W5 p9 0 tb1 vb2)
 (some (.x ()))
def W4 (p9:Int) (tb1:Trace) (vb2:af):Option (af×Int):=
 (aX (λq:Int=>Gi tb1 vb2 q) p9).bind (Fw.elim
 (λe=>(bZ tb1).bind λx_11=>
 ay x_11
 (some (⟨0,0⟩,0))
 (bT.W6 0 tb1 vb2))
 (λe=>some (e.2,e.1)))
def bn (tb1:Trace) (vb2:af) (p6:Int):Option (Fw Int Unit (Int×af)):=
 ay (decide (p6<(len tb1.procs)))
 (W3 p6 0 tb1 vb2)
 (some (.x ()))
def W2 (p6:Int) (tb1:Trace) (vb2:af):Option (af×Int):=
 (aX (λq:Int=>bn tb1 vb2 q) p6).bind (Fw.elim
 (λe=>bT.W4 0 tb1 vb2)
 (λe=>some (e.2,e.1)))
def aB (tb1:Trace) (vb2:af) (p4:Int):Option (Fw Int Unit (Int×af)):=
 ay (decide (p4<(len tb1.procs)))
 ((cT tb1 p4).bind λx_2=>
 ay (x_2==0)
 (some (.n (IntKind.wrap .i64 (p4+1))))
 (some (.r (x_2,(⟨p4,0⟩:af)))))
 (some (.x ()))
def W1 (p4:Int) (tb1:Trace) (vb2:af):Option (af×Int):=
 (aX (λq:Int=>aB tb1 vb2 q) p4).bind (Fw.elim
 (λe=>bT.W2 0 tb1 vb2)
 (λe=>some (e.2,e.1)))
end bT
def bT (t0:Trace):Option (af×Int):=
 (ay (decide ((len t0.procs)<1))
 (some true)
 (some (decide ((len t0.procs)>8))):Option Bool).bind λx_1=>
 ay x_1
 (some (⟨0,0⟩,1))
 (bT.W1 0 t0 (⟨0,0⟩:af))
open bT in
instance NW (t0:Trace):Fc Sy cL (bT t0):=Fc.M 51 [enc t0] (c_ 2 1 t0 (bt 9 t0.procs (bG 2 5 [20] 25 (aK 2 20 (aJ 5) (bt 2 t0.procs (aJ 2))) λx_1=>aK 2 25 aj (cO 11 (λqW1=>(aP [Pv 1,Pv 2,Iv 4 qW1] [Xb 1 t0,Xb 2 (⟨0,0⟩:af)])) (λeW1=>(0,(aP [Pv 1,Pv 2] [Xb 1 t0,Xb 2 (⟨0,0⟩:af)]))) (λeW1=>(aP [Pv 2,Iv 3 eW1.1] [Xb 2 eW1.2])) (λqW1=>bt 7 t0.procs (aK 3 31 (aT 9 λx_2 _=>c9 9 38 aj aj) aj)) (λeW1=>cO 10 (λqW2=>(aP [Pv 1,Pv 2,Iv 6 qW2] [Xb 1 t0,Xb 2 (⟨0,0⟩:af)])) (λeW2=>(2,(aP [Pv 1,Pv 2] [Xb 1 t0,Xb 2 (⟨0,0⟩:af)]))) (λeW2=>(aP [Pv 2,Iv 3 eW2.1] [Xb 2 eW2.2])) (λqW2=>bt 7 t0.procs (aK 3 46 (cO 12 (λqW3=>(aP [Pv 1,Pv 2,Iv 6 qW2,Iv 7 qW3] [Xb 1 t0,Xb 2 (⟨0,0⟩:af)])) (λeW3=>(4,(aP [Pv 1,Pv 2,Iv 6 qW2] [Xb 1 t0,Xb 2 (⟨0,0⟩:af)]))) (λeW3=>(aP [Pv 2,Iv 3 eW3.1] [Xb 2 eW3.2])) (λqW3=>bh 8 λx_3 _=>bt 2 x_3.events (aK 3 57 (aT 10 λx_4 _=>c9 9 65 aj aj) aj)) (λeW3=>aj) (λeW3=>aj)) aj)) (λeW2=>cO 10 (λqW4=>(aP [Pv 1,Pv 2,Iv 9 qW4] [Xb 1 t0,Xb 2 (⟨0,0⟩:af)])) (λeW4=>(6,(aP [Pv 1,Pv 2] [Xb 1 t0,Xb 2 (⟨0,0⟩:af)]))) (λeW4=>(aP [Pv 2,Iv 3 eW4.1] [Xb 2 eW4.2])) (λqW4=>bt 7 t0.procs (aK 3 75 (cO 12 (λqW5=>(aP [Pv 1,Pv 2,Iv 9 qW4,Iv 10 qW5] [Xb 1 t0,Xb 2 (⟨0,0⟩:af)])) (λeW5=>(8,(aP [Pv 1,Pv 2,Iv 9 qW4] [Xb 1 t0,Xb 2 (⟨0,0⟩:af)]))) (λeW5=>(aP [Pv 2,Iv 3 eW5.1] [Xb 2 eW5.2])) (λqW5=>bh 8 λx_5 _=>bt 2 x_5.events (aK 3 86 (aT 19 λx_6 _=>c9 9 97 aj aj) aj)) (λeW5=>aj) (λeW5=>aj)) aj)) (λeW4=>aT 6 λx_11 _=>aK 2 101 aj (cO 11 (λqW6=>(aP [Pv 1,Pv 2,Iv 13 qW6] [Xb 1 t0,Xb 2 (⟨0,0⟩:af)])) (λeW6=>(10,(aP [Pv 2] [Xb 2 (⟨0,0⟩:af)]))) (λeW6=>(aP [Pv 2,Iv 3 10] [Xb 2 eW6])) (λqW6=>bt 7 t0.procs (aK 3 107 (cO 12 (λqW7=>(aP [Pv 1,Pv 2,Iv 13 qW6,Iv 14 qW7] [Xb 1 t0,Xb 2 (⟨0,0⟩:af)])) (λeW7=>(12,(aP [Pv 1,Pv 2,Iv 13 qW6] [Xb 1 t0,Xb 2 (⟨0,0⟩:af)]))) (λeW7=>(aP [Pv 2,Iv 3 10] [Xb 2 eW7])) (λqW7=>bh 8 λx_7 _=>bt 2 x_7.events (aK 3 118 (aT 19 λx_8 _=>bh 1 λx_9 _=>bh 3 λx_10 _=>aK 3 134 aj aj) aj)) (λeW7=>aj) (λeW7=>aj)) aj)) (λeW6=>aj) (λeW6=>aj))) (λeW4=>aj)) (λeW2=>aj)) (λeW1=>aj)))))
def kj (t0:Trace):Option Bool:=
 (bT t0).bind λx_1=>
 some (x_1.2==0)
instance OP (t0:Trace):Fc Sy cL (kj t0):=Fc.M 10 [enc t0] (c_ 2 1 t0 (aT 6 λx_1 _=>aj))
def oN (c0:Sl Int) (p1:Int):Option (Sl Int):=
 (lU (Sl.row []:Sl Int) c0).bind λx_1=>
 (Sl.kZ x_1 p1).bind λx_2=>
 (Sl.get x_1 x_2).bind λx_3=>
 (Sl.kZ x_1 p1).bind λx_4=>
 (Sl.put x_1 x_4 (IntKind.wrap .i64 (x_3+1):Int)).bind λx_5=>
 some x_5
instance Pn (c0:Sl Int) (p1:Int):Fc Sy cL (oN c0 p1):=Fc.N 142 [enc c0,.int .i64 p1] (wN 9 6 8 λx_1 _=>me .i64 9 8 λx_2 _=>sw 0 8 0 1 false (λx_3=>.int .i64 x_3) λx_3 _=>me .i64 1 8 λx_4 _=>z6 0 8 (.int .i64 (IntKind.wrap .i64 (x_3+1))) λx_5 _=>aj)
namespace kR
def aB (counts1:Sl Int) (tb2:Trace) (p5:Int):Option (Fw Int Unit Unit):=
 ay (decide (p5<(len counts1)))
 ((idx counts1 p5).bind λx_1=>
 (ay (decide (x_1<0))
 (some true)
 ((idx counts1 p5).bind λx_2=>
 (idx tb2.procs p5).bind λx_3=>
 some (decide (x_2>(len x_3.events)))):Option Bool).bind λx_4=>
 ay x_4
 (some (.r ()))
 (some (.n (IntKind.wrap .i64 (p5+1)))))
 (some (.x ()))
def W1 (counts1:Sl Int) (p5:Int) (tb2:Trace):Option Bool:=
 (aX (λq:Int=>aB counts1 tb2 q) p5).bind (Fw.elim
 (λe=>some true)
 (λe=>some false))
end kR
def kR (t0:Trace) (counts1:Sl Int):Option Bool:=
 ay ((len counts1)==(len t0.procs))
 (kR.W1 counts1 0 t0)
 (some false)
open kR in
instance Qc (t0:Trace) (counts1:Sl Int):Fc Sy cL (kR t0 counts1):=Fc.M 159 [enc t0,enc counts1] (c_ 2 2 t0 (bt 7 counts1 (bt 2 t0.procs (c9 3 11 (cO 11 (λqW1=>(aP [Cv 1 counts1,Pv 2,Iv 5 qW1] [Xb 2 t0])) (λeW1=>(0,(aP [] []))) (λeW1=>(aP [Bv 4 false] [])) (λqW1=>bt 6 counts1 (aK 3 15 (bh 9 λx_1 _=>bG 3 13 [23] 36 (aK 3 23 (aJ 13) (bh 2 λx_2 _=>bh 4 λx_3 _=>bt 2 x_3.events (aJ 2))) λx_4=>aK 2 36 aj aj) aj)) (λeW1=>aj) (λeW1=>aj)) aj))))
namespace cB
def bn (counts1:Sl Int) (p5:Int) (tb2:Trace) (i6:Int):Option (Fw Int Unit Unit):=
 (idx counts1 p5).bind λx_1=>
 ay (decide (i6<x_1))
 ((idx tb2.procs p5).bind λx_2=>
 (idx x_2.events i6).bind λx_3=>
 ay (x_3.kind==3)
 ((cC tb2 2 x_3.message).bind λx_4=>
 (idx counts1 x_4.proc).bind λx_5=>
 ay (decide (x_4.index>x_5))
 (some (.r ()))
 (some (.n (IntKind.wrap .i64 (i6+1)))))
 (some (.n (IntKind.wrap .i64 (i6+1)))))
 (some (.x ()))
def W2 (counts1:Sl Int) (p5 i6:Int) (tb2:Trace):Option (Fw Int Unit Unit):=
 (aX (λq:Int=>bn counts1 p5 tb2 q) i6).bind (Fw.elim
 (λe=>some (.n (IntKind.wrap .i64 (p5+1))))
 (λe=>some (.r ())))
def aB (counts1:Sl Int) (tb2:Trace) (p5:Int):Option (Fw Int Unit Unit):=
 ay (decide (p5<(len counts1)))
 (W2 counts1 p5 0 tb2)
 (some (.x ()))
def W1 (counts1:Sl Int) (p5:Int) (tb2:Trace):Option Bool:=
 (aX (λq:Int=>aB counts1 tb2 q) p5).bind (Fw.elim
 (λe=>some true)
 (λe=>some false))
end cB
def cB (t0:Trace) (counts1:Sl Int):Option Bool:=
 cB.W1 counts1 0 t0
open cB in
instance Ix (t0:Trace) (counts1:Sl Int):Fc Sy cL (cB t0 counts1):=Fc.M 160 [enc t0,enc counts1] (c_ 2 2 t0 (cO 11 (λqW1=>(aP [Cv 1 counts1,Pv 2,Iv 5 qW1] [Xb 2 t0])) (λeW1=>(0,(aP [] []))) (λeW1=>(aP [Bv 4 false] [])) (λqW1=>bt 6 counts1 (aK 3 12 (cO 12 (λqW2=>(aP [Cv 1 counts1,Pv 2,Iv 5 qW1,Iv 6 qW2] [Xb 2 t0])) (λeW2=>(2,(aP [Cv 1 counts1,Pv 2,Iv 5 qW1] [Xb 2 t0]))) (λeW2=>(aP [Bv 4 false] [])) (λqW2=>bh 7 λx_1 _=>aK 4 20 (bh 10 λx_2 _=>bh 3 λx_3 _=>kN 2 7 0 x_3 (aK 9 34 (aT 6 λx_4 _=>bh 11 λx_5 _=>aK 4 46 aj aj) aj)) aj) (λeW2=>aj) (λeW2=>aj)) aj)) (λeW1=>aj) (λeW1=>aj)))
def uh (t0:Trace) (c1:Sl Int):Option Bool:=
 (kR t0 c1).bind λx_1=>
 (ay x_1
 ((cB t0 c1).bind λx_2=>
 some x_2)
 (some false):Option Bool).bind λx_3=>
 some x_3
instance RZ (t0:Trace) (c1:Sl Int):Fc Sy cL (uh t0 c1):=Fc.M 141 [enc t0,enc c1] (c_ 2 2 t0 (aT 7 λx_1 _=>bG 1 4 [1,2,8] 12 (aK 1 8 (aT 2 λx_2 _=>aJ 1) (aJ 4)) λx_3=>aj))
namespace gE
def aB (c1:Sl Int) (tb2:Trace) (out5:Sl (Sl Int)) (p6:Int):Option (Fw ((Sl (Sl Int))×Int) (Sl (Sl Int)) Empty):=
 ay (decide (p6<(len c1)))
 ((idx c1 p6).bind λx_1=>
 (idx tb2.procs p6).bind λx_2=>
 (ay (decide (x_1<(len x_2.events)))
 ((oN c1 p6).bind λx_3=>
 (uh tb2 x_3).bind λx_4=>
 some x_4)
 (some false):Option Bool).bind λx_5=>
 ay x_5
 ((oN c1 p6).bind λx_6=>
 (ig out5 (x_6:Sl Int)).bind λx_7=>
 some (.n (x_7,IntKind.wrap .i64 (p6+1))))
 (some (.n (out5,IntKind.wrap .i64 (p6+1)))))
 (some (.x out5))
def W1 (c1:Sl Int) (out5:Sl (Sl Int)) (p6:Int) (tb2:Trace):Option (Sl (Sl Int)):=
 (aX (λq:(Sl (Sl Int))×Int=>aB c1 tb2 q.1 q.2) (out5,p6)).bind (Fw.elim
 (λe=>some e)
 (λe=>Empty.elim e))
end gE
def gE (t0:Trace) (c1:Sl Int):Option (Sl (Sl Int)):=
 gE.W1 c1 (Sl.nil:Sl (Sl Int)) 0 t0
open gE in
instance Px (t0:Trace) (c1:Sl Int):Fc Sy cL (gE t0 c1):=Fc.N 108 [enc t0,enc c1] (c_ 2 2 t0 (iq 17 (λqW1=>(aP [Cv 1 c1,Pv 2,Ov 5,Iv 6 qW1.2] [Xb 2 t0,Lb 2005 qW1.1])) (λeW1=>(0,(aP [Ov 5] [Lb 2005 eW1]))) (λqW1=>bt 7 c1 (aK 3 10 (bh 9 λx_1 _=>bh 4 λx_2 _=>bt 2 x_2.events (vS 2 6 [30,29] (λx_5=>(aP [Cv 1 c1,Pv 2,Ov 5,Iv 6 qW1.2,Bv 10 true,Bv 31 x_5] [Xb 2 t0,Lb 2005 qW1.1])) (aK 2 25 (aT 3 λx_3 _=>jh 0 λx_4 _=>aJ 1) (aJ 6)) λx_5=>aK 2 31 (aT 5 λx_6 _=>AT 0 36 ([x_6]:List (Sl Int)) (qh 0 2005 36 37 λx_7 _=>aj)) aj)) aj)) (λeW1=>aj)))
namespace dQ
def aB (c0:Sl Int) (n3 i4:Int):Option (Fw (Int×Int) Int Empty):=
 ay (decide (i4<(len c0)))
 ((idx c0 i4).bind λx_1=>
 some (.n (IntKind.wrap .i64 (n3+x_1),IntKind.wrap .i64 (i4+1))))
 (some (.x n3))
def W1 (c0:Sl Int) (n3 i4:Int):Option Int:=
 (aX (λq:Int×Int=>aB c0 q.1 q.2) (n3,i4)).bind (Fw.elim
 (λe=>some e)
 (λe=>Empty.elim e))
end dQ
def dQ (c0:Sl Int):Option Int:=
 dQ.W1 c0 0 0
open dQ in
instance Pj (c0:Sl Int):Fc Sy cL (dQ c0):=Fc.M 28 [enc c0] (iq 18 (λqW1=>(aP [Cv 0 c0,Iv 3 qW1.1,Iv 4 qW1.2] [])) (λeW1=>(0,(aP [Iv 3 eW1] []))) (λqW1=>bt 6 c0 (aK 3 8 (bh 9 λx_1 _=>aj) aj)) (λeW1=>aj))
namespace eY
def aB (a0 b1:Sl Int) (i5:Int):Option (Fw Int Unit Bool):=
 ay (decide (i5<(len a0)))
 ((idx a0 i5).bind λx_5=>
 (idx b1 i5).bind λx_6=>
 ay (x_5==x_6)
 (some (.n (IntKind.wrap .i64 (i5+1))))
 ((idx a0 i5).bind λx_7=>
 (idx b1 i5).bind λx_8=>
 some (.r (decide (x_7<x_8)))))
 (some (.x ()))
def W1 (a0 b1:Sl Int) (i5:Int):Option Bool:=
 (aX (λq:Int=>aB a0 b1 q) i5).bind (Fw.elim
 (λe=>some false)
 (λe=>some e))
end eY
def eY (a0 b1:Sl Int):Option Bool:=
 (dQ a0).bind λx_1=>
 (dQ b1).bind λx_2=>
 ay (x_1==x_2)
 (eY.W1 a0 b1 0)
 ((dQ a0).bind λx_3=>
 (dQ b1).bind λx_4=>
 some (decide (x_3<x_4)))
open eY in
instance M7 (a0 b1:Sl Int):Fc Sy cL (eY a0 b1):=Fc.M 143 [enc a0,enc b1] (aT 9 λx_1 _=>aT 1 λx_2 _=>c9 3 10 (cO 11 (λqW1=>(aP [Cv 0 a0,Cv 1 b1,Iv 5 qW1] [])) (λeW1=>(0,(aP [] []))) (λeW1=>(aP [Bv 4 eW1] [])) (λqW1=>bt 6 a0 (aK 3 19 (bh 9 λx_5 _=>bh 3 λx_6 _=>c9 4 30 aj (bh 5 λx_7 _=>bh 3 λx_8 _=>aj)) aj)) (λeW1=>aj) (λeW1=>aj)) (aT 4 λx_3 _=>aT 1 λx_4 _=>aj))
namespace c6
def aB (a0 b1:Sl Int) (i5:Int):Option (Fw Int Unit Unit):=
 ay (decide (i5<(len a0)))
 ((idx a0 i5).bind λx_1=>
 (idx b1 i5).bind λx_2=>
 ay (x_1==x_2)
 (some (.n (IntKind.wrap .i64 (i5+1))))
 (some (.r ())))
 (some (.x ()))
def W1 (a0 b1:Sl Int) (i5:Int):Option Bool:=
 (aX (λq:Int=>aB a0 b1 q) i5).bind (Fw.elim
 (λe=>some true)
 (λe=>some false))
end c6
def c6 (a0 b1:Sl Int):Option Bool:=
 ay ((len a0)==(len b1))
 (c6.W1 a0 b1 0)
 (some false)
open c6 in
instance KC (a0 b1:Sl Int):Fc Sy cL (c6 a0 b1):=Fc.M 115 [enc a0,enc b1] (bt 9 a0 (bt 1 b1 (c9 3 10 (cO 11 (λqW1=>(aP [Cv 0 a0,Cv 1 b1,Iv 5 qW1] [])) (λeW1=>(0,(aP [] []))) (λeW1=>(aP [Bv 4 false] [])) (λqW1=>bt 6 a0 (aK 3 14 (bh 9 λx_1 _=>bh 3 λx_2 _=>c9 4 25 aj aj) aj)) (λeW1=>aj) (λeW1=>aj)) aj)))
namespace eX
def aB (l0:Sl (Sl Int)) (c1:Sl Int) (at_5:Int):Option (Fw Int Int Empty):=
 (ay (decide (at_5<(len l0)))
 ((idx l0 at_5).bind λx_1=>
 (eY x_1 c1).bind λx_2=>
 some x_2)
 (some false):Option Bool).bind λx_3=>
 ay x_3
 (some (.n (IntKind.wrap .i64 (at_5+1))))
 (some (.x at_5))
def W1 (l0:Sl (Sl Int)) (c1:Sl Int) (at_5:Int):Option (Sl (Sl Int)):=
 (aX (λq:Int=>aB l0 c1 q) at_5).bind (Fw.elim
 (λe=>(ay (decide (e<(len l0)))
 ((idx l0 e).bind λx_4=>
 (c6 x_4 c1).bind λx_5=>
 some x_5)
 (some false):Option Bool).bind λx_6=>
 ay x_6
 (some l0)
 ((eM l0 none (some e)).bind λx_7=>
 (lU (Sl.row []:Sl (Sl Int)) x_7).bind λx_8=>
 (ig x_8 (c1:Sl Int)).bind λx_9=>
 (eM l0 (some e) none).bind λx_10=>
 (lU x_9 x_10).bind λx_11=>
 some x_11))
 (λe=>Empty.elim e))
end eX
def eX (l0:Sl (Sl Int)) (c1:Sl Int):Option (Sl (Sl Int)):=
 eX.W1 l0 c1 0
open eX in
instance Nk (l0:Sl (Sl Int)) (c1:Sl Int):Fc Sy cL (eX l0 c1):=Fc.N 109 [enc l0,enc c1] (iq 13 (λqW1=>(aP [Cv 0 l0,Cv 1 c1,Iv 5 qW1] [])) (λeW1=>(0,(aP [Cv 0 l0,Cv 1 c1,Iv 5 eW1] []))) (λqW1=>bt 6 l0 (bG 2 7 [11] 18 (aK 2 11 (bh 2 λx_1 _=>aT 2 λx_2 _=>aJ 1) (aJ 7)) λx_3=>aK 2 18 aj aj)) (λeW1=>bt 7 l0 (bG 2 7 [25] 32 (aK 2 25 (bh 2 λx_4 _=>aT 2 λx_5 _=>aJ 1) (aJ 7)) λx_6=>aK 2 32 aj (AT 5 34 ([]:List (Sl Int)) (BB 2 false true [.int .i64 eW1] λx_7 _=>wN 0 34 38 λx_8 _=>AT 7 41 ([c1]:List (Sl Int)) (qh 0 38 41 42 λx_9 _=>BB 8 true false [.int .i64 eW1] λx_10 _=>wN 0 42 47 λx_11 _=>aj))))))
namespace cQ
def fN (level4 out5:Sl (Sl Int)) (i7:Int) (l8:Sl (Sl Int)) (tb1:Trace) (more6:Sl (Sl Int)) (k9:Int):Option (Fw ((Sl (Sl Int))×Int) (Sl (Sl Int)) Empty):=
 ay (decide (k9<(len l8)))
 ((idx l8 k9).bind λx_5=>
 (eX more6 x_5).bind λx_6=>
 some (.n (x_6,IntKind.wrap .i64 (k9+1))))
 (some (.x more6))
def W3 (level4 out5 more6:Sl (Sl Int)) (i7:Int) (l8:Sl (Sl Int)) (k9:Int) (tb1:Trace):Option (Fw ((Sl (Sl Int))×Int) (Sl (Sl Int)) Empty):=
 (aX (λq:(Sl (Sl Int))×Int=>fN level4 out5 i7 l8 tb1 q.1 q.2) (more6,k9)).bind (Fw.elim
 (λe=>some (.n (e,IntKind.wrap .i64 (i7+1))))
 (λe=>Empty.elim e))
def bn (level4 out5:Sl (Sl Int)) (tb1:Trace) (more6:Sl (Sl Int)) (i7:Int):Option (Fw ((Sl (Sl Int))×Int) (Sl (Sl Int)) Empty):=
 ay (decide (i7<(len level4)))
 ((idx level4 i7).bind λx_3=>
 (gE tb1 x_3).bind λx_4=>
 W3 level4 out5 more6 i7 x_4 0 tb1)
 (some (.x more6))
def W2 (level4 out5 more6:Sl (Sl Int)) (i7:Int) (tb1:Trace):Option (Fw ((Sl (Sl Int))×(Sl (Sl Int))) (Sl (Sl Int)) Unit):=
 (aX (λq:(Sl (Sl Int))×Int=>bn level4 out5 tb1 q.1 q.2) (more6,i7)).bind (Fw.elim
 (λe=>some (.n (e,out5)))
 (λe=>Empty.elim e))
def aB (tb1:Trace) (level4 out5:Sl (Sl Int)):Option (Fw ((Sl (Sl Int))×(Sl (Sl Int))) (Sl (Sl Int)) Unit):=
 ay (decide ((len level4)>0))
 ((lU out5 level4).bind λx_2=>
 ay (decide ((len x_2)>5000))
 (some (.r ()))
 (W2 level4 x_2 (Sl.nil:Sl (Sl Int)) 0 tb1))
 (some (.x out5))
def W1 (level4 out5:Sl (Sl Int)) (tb1:Trace):Option ((Sl (Sl Int))×Bool):=
 (aX (λq:(Sl (Sl Int))×(Sl (Sl Int))=>aB tb1 q.1 q.2) (level4,out5)).bind (Fw.elim
 (λe=>some (e,true))
 (λe=>some ((Sl.nil:Sl (Sl Int)),false)))
end cQ
def cQ (t0:Trace):Option ((Sl (Sl Int))×Bool):=
 (sr (len t0.procs) (0:Int)).bind λx_1=>
 cQ.W1 (Sl.row [x_1]:Sl (Sl Int)) (Sl.nil:Sl (Sl Int)) t0
open cQ in
instance Pb (t0:Trace):Fc Sy cL (cQ t0):=Fc.N 52 [enc t0] (c_ 2 1 t0 (bt 8 t0.procs (RQ 0 13 λx_1 _=>AT 1 14 ([x_1]:List (Sl Int)) (cO 13 (λqW1=>(aP [Pv 1,Cv 4 qW1.1,Ov 5] [Xb 1 t0,Lb 2005 qW1.2])) (λeW1=>(0,(aP [Ov 5] [Lb 2005 eW1]))) (λeW1=>(aP [Ov 2,Bv 3 false] [Lb 2002 (Sl.nil:Sl (Sl Int))])) (λqW1=>bt 7 qW1.1 (aK 3 17 (wN 8 2005 20 λx_2 _=>Dj 7 20 x_2 (aK 3 23 aj (iq 18 (λqW2=>(aP [Pv 1,Cv 4 qW1.1,Ov 5,Cv 6 qW2.1,Iv 7 qW2.2] [Xb 1 t0,Lb 2005 x_2])) (λeW2=>(2,(aP [Pv 1,Ov 5,Cv 6 eW2] [Xb 1 t0,Lb 2005 x_2]))) (λqW2=>bt 8 qW1.1 (aK 3 27 (bh 10 λx_3 _=>aT 1 λx_4 _=>iq 12 (λqW3=>(aP [Pv 1,Cv 4 qW1.1,Ov 5,Cv 6 qW3.1,Iv 7 qW2.2,Cv 8 x_4,Iv 9 qW3.2] [Xb 1 t0,Lb 2005 x_2])) (λeW3=>(4,(aP [Pv 1,Cv 4 qW1.1,Ov 5,Cv 6 eW3,Iv 7 qW2.2] [Xb 1 t0,Lb 2005 x_2]))) (λqW3=>bt 8 x_4 (aK 3 39 (bh 9 λx_5 _=>aT 1 λx_6 _=>aj) aj)) (λeW3=>aj)) aj)) (λeW2=>aj)))) aj)) (λeW1=>aj) (λeW1=>aj)))))
def jR (t0:Trace):Option Bool:=
 (cQ t0).bind λx_1=>
 (ay x_1.2
 (some (decide ((len x_1.1)<=200)))
 (some true):Option Bool).bind λx_2=>
 some x_2
instance Pq (t0:Trace):Fc Sy cL (jR t0):=Fc.M 11 [enc t0] (c_ 2 1 t0 (aT 6 λx_1 _=>bG 12 4 [3,12] 16 (c9 12 12 (bt 1 x_1.1 (aJ 2)) (aJ 4)) λx_2=>aj))
def kX (x0 low1 high2:Int):Option Bool:=
 (ay (decide (x0>=low1))
 (some (decide (x0<=high2)))
 (some false):Option Bool).bind λx_1=>
 some x_1
instance SB (x0 low1 high2:Int):Fc Sy cL (kX x0 low1 high2):=Fc.M 150 [.int .i64 x0,.int .i64 low1,.int .i64 high2] (bG 11 4 [0,2,10] 14 (aK 11 10 (aJ 4) (aJ 4)) λx_1=>aj)
def nL (c0:Int):Option Bool:=
 (ay (decide (c0>=97))
 (some (decide (c0<=122)))
 (some false):Option Bool).bind λx_1=>
 (ay x_1
 (some true)
 ((ay (decide (c0>=65))
 (some (decide (c0<=90)))
 (some false):Option Bool).bind λx_2=>
 some x_2):Option Bool).bind λx_3=>
 some x_3
instance OB (c0:Int):Fc Sy cL (nL c0):=Fc.M 185 [.int .u8 c0] (bG 10 3 [5] 8 (aK 10 5 (aJ 3) (aJ 3)) λx_1=>bG 1 7 [0,9] 16 (aK 1 9 (aJ 7) (bG 3 3 [0,12] 15 (aK 3 12 (aJ 3) (aJ 3)) λx_2=>aJ 1)) λx_3=>aj)
def rF (c0:Int):Option Bool:=
 (ay (decide (c0>=48))
 (some (decide (c0<=57)))
 (some false):Option Bool).bind λx_1=>
 some x_1
instance Pd (c0:Int):Fc Sy cL (rF c0):=Fc.M 186 [.int .u8 c0] (bG 10 3 [0,5] 8 (aK 10 5 (aJ 3) (aJ 3)) λx_1=>aj)
namespace eA
def aB (s0:ByteArray) (v18:Int) (v19:Int):Option (Fw Int Unit Unit):=
 ay (decide (v19<v18))
 ((iU s0 v19).bind λx_5=>
 (nL x_5).bind λx_6=>
 (ay x_6
 (some false)
 ((iU s0 v19).bind λx_7=>
 (rF x_7).bind λx_8=>
 some (!x_8)):Option Bool).bind λx_9=>
 (ay x_9
 ((iU s0 v19).bind λx_10=>
 some (!(x_10==95)))
 (some false):Option Bool).bind λx_11=>
 ay x_11
 (some (.r ()))
 (some (.n (IntKind.wrap .i64 (v19+1)))))
 (some (.x ()))
def W1 (s0:ByteArray) (v18 v19:Int):Option Bool:=
 (aX (λq:Int=>aB s0 v18 q) v19).bind (Fw.elim
 (λe=>some true)
 (λe=>some false))
end eA
def eA (s0:ByteArray):Option Bool:=
 (ay (ByteArray.toList s0==ByteArray.toList ByteArray.empty)
 (some true)
 (some (decide (((ByteArray.size s0:Nat):Int)>16))):Option Bool).bind λx_1=>
 (ay x_1
 (some true)
 ((iU s0 0).bind λx_2=>
 (nL x_2).bind λx_3=>
 some (!x_3)):Option Bool).bind λx_4=>
 ay x_4
 (some false)
 (eA.W1 s0 ((ByteArray.size s0:Nat):Int) 0)
open eA in
instance Om (s0:ByteArray):Fc Sy cL (eA s0):=Fc.M 170 [.str s0] (bG 11 4 [6] 10 (aK 11 6 (aJ 4) (aJ 4)) λx_1=>bG 1 5 [11] 16 (aK 1 11 (aJ 5) (xY 1 .i64 λx_2 _=>aT 0 λx_3 _=>aJ 2)) λx_4=>aK 2 16 aj (cO 13 (λqW1=>(aP [(0,.v (.str s0)),Iv 18 ((ByteArray.size s0:Nat):Int),Iv 19 qW1] [])) (λeW1=>(0,(aP [] []))) (λeW1=>(aP [Bv 2 false] [])) (λqW1=>aK 7 20 (xY 15 .i64 λx_5 _=>aT 0 λx_6 _=>bG 2 6 [27] 33 (c9 2 27 (aJ 6) (xY 2 .i64 λx_7 _=>aT 0 λx_8 _=>aJ 2)) λx_9=>bG 1 5 [3,34] 39 (aK 1 34 (xY 2 .i64 λx_10 _=>aJ 2) (aJ 5)) λx_11=>aK 2 39 aj aj) aj) (λeW1=>aj) (λeW1=>aj)))
def g_ (y0 v1:bA):Option Bool:=
 some (ByteArray.toList y0.name==ByteArray.toList v1.name)
instance E9 (y0 v1:bA):Fc Sy cL (g_ y0 v1):=Fc.M 172 [enc y0,.fptr (cells v1)] (c_ 2 2 y0 aj)
namespace ez
def aB (s0:Sl bA) (v7:Int) (v8:Int) (p1:bA->Option Bool):Option (Fw Int Unit Int):=
 ay (decide (v8<v7))
 ((idx s0 v8).bind λx_1=>
 (p1 x_1).bind λx_2=>
 ay x_2
 (some (.r v8))
 (some (.n (IntKind.wrap .i64 (v8+1)))))
 (some (.x ()))
def W1 (s0:Sl bA) (v7 v8:Int) (p1:bA->Option Bool):Option Int:=
 (aX (λq:Int=>aB s0 v7 q p1) v8).bind (Fw.elim
 (λe=>some (-1))
 (λe=>some e))
end ez
def ez (s0:Sl bA) (p1:bA->Option Bool):Option Int:=
 ez.W1 s0 (len s0) 0 p1
open ez in
abbrev tU (g1:FuncId) (e1:List V) (p1:bA->Option Bool) (h1:ql Sy cL g1 [] e1 (λz:bA=>[enc z]) (λr:Bool=>[.bool r]) p1 true) (s0:Sl bA):Fc Sy cL (ez s0 p1):=Fc.M 187 [enc s0,.clo g1 [] e1] (bt 9 s0 (cO 5 (λqW1=>(aP [Cv 0 s0,(1,.v (.clo g1 [] e1)),Iv 7 (len s0),Iv 8 qW1] [])) (λeW1=>(0,(aP [] []))) (λeW1=>(aP [Iv 4 eW1] [])) (λqW1=>aK 7 9 (bh 16 λx_1 _=>yA 1 h1.f x_1 λx_2 _=>aK 2 16 aj aj) aj) (λeW1=>aj) (λeW1=>aj))) (l:=by simp[h1.d])
def fT (s0:Sl bA) (p1:bA->Option Bool):Option Bool:=
 (ez s0 p1).bind λx_1=>
 some (decide (x_1>=0))
abbrev sD (g1:FuncId) (e1:List V) (p1:bA->Option Bool) (h1:ql Sy cL g1 [] e1 (λz:bA=>[enc z]) (λr:Bool=>[.bool r]) p1 true) (s0:Sl bA):Fc Sy cL (fT s0 p1):=Fc.M 171 [enc s0,.clo g1 [] e1] (aT (F:=tU g1 e1 p1 h1 s0) 9 λx_1 _=>aj) (l:=by simp[h1.d])
def hG (w0 v1:Var):Option Bool:=
 some (ByteArray.toList w0.name==ByteArray.toList v1.name)
instance E8 (w0 v1:Var):Fc Sy cL (hG w0 v1):=Fc.M 174 [enc w0,.fptr (cells v1)] (aj)
namespace eV
def aB (s0:Sl Var) (v7:Int) (v8:Int) (p1:Var->Option Bool):Option (Fw Int Unit Int):=
 ay (decide (v8<v7))
 ((idx s0 v8).bind λx_1=>
 (p1 x_1).bind λx_2=>
 ay x_2
 (some (.r v8))
 (some (.n (IntKind.wrap .i64 (v8+1)))))
 (some (.x ()))
def W1 (s0:Sl Var) (v7 v8:Int) (p1:Var->Option Bool):Option Int:=
 (aX (λq:Int=>aB s0 v7 q p1) v8).bind (Fw.elim
 (λe=>some (-1))
 (λe=>some e))
end eV
def eV (s0:Sl Var) (p1:Var->Option Bool):Option Int:=
 eV.W1 s0 (len s0) 0 p1
open eV in
abbrev uZ (g1:FuncId) (e1:List V) (p1:Var->Option Bool) (h1:ql Sy cL g1 [] e1 (λz:Var=>[enc z]) (λr:Bool=>[.bool r]) p1 true) (s0:Sl Var):Fc Sy cL (eV s0 p1):=Fc.M 188 [enc s0,.clo g1 [] e1] (bt 9 s0 (cO 5 (λqW1=>(aP [Cv 0 s0,(1,.v (.clo g1 [] e1)),Iv 7 (len s0),Iv 8 qW1] [])) (λeW1=>(0,(aP [] []))) (λeW1=>(aP [Iv 4 eW1] [])) (λqW1=>aK 7 9 (bh 16 λx_1 _=>yA 1 h1.f x_1 λx_2 _=>aK 2 16 aj aj) aj) (λeW1=>aj) (λeW1=>aj))) (l:=by simp[h1.d])
def gu (s0:Sl Var) (p1:Var->Option Bool):Option Bool:=
 (eV s0 p1).bind λx_1=>
 some (decide (x_1>=0))
abbrev sN (g1:FuncId) (e1:List V) (p1:Var->Option Bool) (h1:ql Sy cL g1 [] e1 (λz:Var=>[enc z]) (λr:Bool=>[.bool r]) p1 true) (s0:Sl Var):Fc Sy cL (gu s0 p1):=Fc.M 173 [enc s0,.clo g1 [] e1] (aT (F:=uZ g1 e1 p1 h1 s0) 9 λx_1 _=>aj) (l:=by simp[h1.d])
namespace dn
def aB (v32:Sl Var) (v33:Int) (xb5:bA) (v34:Int):Option (Fw Int Unit Int):=
 ay (decide (v34<v33))
 ((idx v32 v34).bind λx_6=>
 (eA x_6.name).bind λx_7=>
 (ay x_7
 ((eM xb5.vars none (some v34)).bind λx_8=>
 (gu x_8 (λz=>hG z x_6)).bind λx_9=>
 some x_9)
 (some true):Option Bool).bind λx_10=>
 ay x_10
 (some (.r 13))
 ((kX x_6.init_ (-1073741824) 1073741824).bind λx_11=>
 ay x_11
 (some (.n (IntKind.wrap .i64 (v34+1))))
 (some (.r 2))))
 (some (.x ()))
def W1 (v32:Sl Var) (v33 v34:Int) (xb5:bA):Option Int:=
 (aX (λq:Int=>aB v32 v33 xb5 q) v34).bind (Fw.elim
 (λe=>ay (decide ((len xb5.events)>64))
 (some 5)
 (some 0))
 (λe=>some e))
end dn
def dn (t0:Trace) (p1:Int):Option Int:=
 (idx t0.procs p1).bind λx_1=>
 (eA x_1.name).bind λx_2=>
 (ay x_2
 ((eM t0.procs none (some p1)).bind λx_3=>
 (fT x_3 (λz=>g_ z x_1)).bind λx_4=>
 some x_4)
 (some true):Option Bool).bind λx_5=>
 ay x_5
 (some 13)
 (ay (decide ((len x_1.vars)>8))
 (some 5)
 (dn.W1 x_1.vars (len x_1.vars) 0 x_1))
open dn in
instance GG (t0:Trace) (p1:Int):Fc Sy cL (dn t0 p1):=Fc.M 151 [enc t0,.int .i64 p1] (c_ 2 2 t0 (bh 8 λx_1 _=>kN 2 5 0 x_1 (aT 8 λx_2 _=>bG 2 7 [1,2,18] 25 (c9 2 18 (BB 3 false true [.int .i64 p1] λx_3 _=>jh (F:=sD 172 [.fptr (cells x_1)] (λz=>g_ z x_1) ql.wI x_3) 1 λx_4 _=>aJ 1) (aJ 7)) λx_5=>aK 3 13 aj (bt 5 x_1.vars (aK 4 26 aj (bt 9 x_1.vars (cO 5 (λqW1=>(aP [Pv 5,Cv 32 x_1.vars,Iv 33 (len x_1.vars),Iv 34 qW1] [Xb 5 x_1])) (λeW1=>(1,(aP [Pv 5] [Xb 5 x_1]))) (λeW1=>(aP [Iv 4 eW1] [])) (λqW1=>aK 7 35 (bh 8 λx_6 _=>aT 11 λx_7 _=>bG 2 7 [6,44] 51 (c9 2 44 (BB 3 false true [.int .i64 qW1] λx_8 _=>jh (F:=sN 174 [.fptr (cells x_6)] (λz=>hG z x_6) ql.wI x_8) 1 λx_9 _=>aJ 1) (aJ 7)) λx_10=>aK 3 39 aj (aT 5 λx_11 _=>c9 4 52 aj aj)) aj) (λeW1=>bt 7 x_1.events (aK 3 61 aj aj)) (λeW1=>aj))))))))
def ir (t0:Trace):Option Trace:=
 some t0
instance Ow (t0:Trace):Fc Sy cL (ir t0):=Fc.NE (λr:Trace=>[(.clo 175 [] [.fptr (cells r)])]) 152 [enc t0] (c_ 2 1 t0 aj)
namespace fQ
def J1 (p1:Int) (v19:Bool) (tb3:Trace) (eb5:Event):Option Bool:=
 ay v19
 ((kX eb5.peer 0 (IntKind.wrap .i64 ((len tb3.procs)-1))).bind λx_2=>
 (ay x_2
 (some (!(eb5.peer==p1)))
 (some false):Option Bool).bind λx_3=>
 (ay x_3
 ((kX eb5.message 0 199).bind λx_4=>
 some x_4)
 (some false):Option Bool).bind λx_5=>
 some x_5)
 (some false)
end fQ
def fQ (t0:Trace) (p1:Int) (e2:Event):Option Bool:=
 ay (e2.kind==1)
 ((ay (e2.peer==0)
 (some (e2.message==0))
 (some false):Option Bool).bind λx_1=>
 some x_1)
 (ay (e2.kind==2)
 (fQ.J1 p1 true t0 e2)
 (fQ.J1 p1 (e2.kind==3) t0 e2))
open fQ in
instance Oh (t0:Trace) (p1:Int) (e2:Event):Fc Sy cL (fQ t0 p1 e2):=Fc.M 176 [enc t0,.int .i64 p1,enc e2] (c_ 2 3 t0 (c_ 0 5 e2 (aK 17 9 (bG 7 4 [5,14] 18 (aK 7 14 (aJ 4) (aJ 4)) λx_1=>aj) (aK 8 19 (uU 4 (aK 0 19 (bt 7 t0.procs (aT 1 λx_2 _=>bG 1 5 [1,29] 34 (aK 1 29 (aJ 5) (aJ 5)) λx_3=>bG 1 4 [5,35] 39 (aK 1 35 (aT 2 λx_4 _=>aJ 1) (aJ 4)) λx_5=>aj)) aj)) (uU 7 (aK 0 19 (bt 7 t0.procs (aT 1 λx_2 _=>bG 1 5 [1,29] 34 (aK 1 29 (aJ 5) (aJ 5)) λx_3=>bG 1 4 [5,35] 39 (aK 1 35 (aT 2 λx_4 _=>aJ 1) (aJ 4)) λx_5=>aj)) aj))))))
def iT (b0 v1:Assign):Option Bool:=
 some (b0.var==v1.var)
instance FO (b0 v1:Assign):Fc Sy cL (iT b0 v1):=Fc.M 178 [enc b0,.fptr (cells v1)] (aj)
namespace dS
def aB (s0:Sl Assign) (v7:Int) (v8:Int) (p1:Assign->Option Bool):Option (Fw Int Unit Int):=
 ay (decide (v8<v7))
 ((idx s0 v8).bind λx_1=>
 (p1 x_1).bind λx_2=>
 ay x_2
 (some (.r v8))
 (some (.n (IntKind.wrap .i64 (v8+1)))))
 (some (.x ()))
def W1 (s0:Sl Assign) (v7 v8:Int) (p1:Assign->Option Bool):Option Int:=
 (aX (λq:Int=>aB s0 v7 q p1) v8).bind (Fw.elim
 (λe=>some (-1))
 (λe=>some e))
end dS
def dS (s0:Sl Assign) (p1:Assign->Option Bool):Option Int:=
 dS.W1 s0 (len s0) 0 p1
open dS in
abbrev sQ (g1:FuncId) (e1:List V) (p1:Assign->Option Bool) (h1:ql Sy cL g1 [] e1 (λz:Assign=>[enc z]) (λr:Bool=>[.bool r]) p1 true) (s0:Sl Assign):Fc Sy cL (dS s0 p1):=Fc.M 189 [enc s0,.clo g1 [] e1] (bt 9 s0 (cO 5 (λqW1=>(aP [Cv 0 s0,(1,.v (.clo g1 [] e1)),Iv 7 (len s0),Iv 8 qW1] [])) (λeW1=>(0,(aP [] []))) (λeW1=>(aP [Iv 4 eW1] [])) (λqW1=>aK 7 9 (bh 16 λx_1 _=>yA 1 h1.f x_1 λx_2 _=>aK 2 16 aj aj) aj) (λeW1=>aj) (λeW1=>aj))) (l:=by simp[h1.d])
def e_ (s0:Sl Assign) (p1:Assign->Option Bool):Option Bool:=
 (dS s0 p1).bind λx_1=>
 some (decide (x_1>=0))
abbrev qM (g1:FuncId) (e1:List V) (p1:Assign->Option Bool) (h1:ql Sy cL g1 [] e1 (λz:Assign=>[enc z]) (λr:Bool=>[.bool r]) p1 true) (s0:Sl Assign):Fc Sy cL (e_ s0 p1):=Fc.M 177 [enc s0,.clo g1 [] e1] (aT (F:=sQ g1 e1 p1 h1 s0) 9 λx_1 _=>aj) (l:=by simp[h1.d])
namespace ct
def bn (v52:Sl Assign) (v53:Int) (eb5:Event) (xb7:bA) (v54:Int):Option (Fw Int Unit Int):=
 ay (decide (v54<v53))
 ((idx v52 v54).bind λx_6=>
 (kX x_6.var 0 (IntKind.wrap .i64 ((len xb7.vars)-1))).bind λx_7=>
 (ay x_7
 ((kX x_6.value (-1073741824) 1073741824).bind λx_8=>
 some (!x_8))
 (some true):Option Bool).bind λx_9=>
 ay x_9
 (some (.r 2))
 ((eM eb5.assign none (some v54)).bind λx_10=>
 (e_ x_10 (λz=>iT z x_6)).bind λx_11=>
 ay x_11
 (some (.r 8))
 (some (.n (IntKind.wrap .i64 (v54+1))))))
 (some (.x ()))
def W2 (v52:Sl Assign) (v53 v54:Int) (eb5:Event) (xb7:bA):Option Int:=
 (aX (λq:Int=>bn v52 v53 eb5 xb7 q) v54).bind (Fw.elim
 (λe=>some 0)
 (λe=>some e))
def J1 (last8:Int) (tb3:Trace) (idb4:af) (eb5:Event) (xb7:bA):Option Int:=
 (fQ tb3 idb4.proc eb5).bind λx_3=>
 ay x_3
 ((kX eb5.time 0 1099511627776).bind λx_4=>
 (ay x_4
 (some (decide (eb5.time<last8)))
 (some true):Option Bool).bind λx_5=>
 ay x_5
 (some 11)
 (ay (decide ((len eb5.assign)>8))
 (some 5)
 (ct.W2 eb5.assign (len eb5.assign) 0 eb5 xb7)))
 (some 3)
theorem uE (last8:Int) (tb3:Trace) (idb4:af) (eb5:Event) (xb7:bA):Le ((J1 last8 tb3 idb4 eb5 xb7).bind (λr=>some [.int .i64 r])) (bu Sy cL (pz (tr Tx 153)) (sA (tb Tx 153) [1,1,1,1,0] [] (aP [Pv 3,Pv 4,Pv 5,Pv 7,Iv 8 last8] [Xb 3 tb3,Xb 4 idb4,Xb 5 eb5,Xb 7 xb7]))):=
 aT 8 λx_3 _=>c9 4 28 (aT 5 λx_4 _=>bG 2 5 [8,40] 45 (c9 2 40 (aJ 5) (aJ 5)) λx_5=>aK 3 35 aj (bt 5 eb5.assign (aK 4 46 aj (bt 9 eb5.assign (cO 5 (λqW2=>(aP [Pv 5,Pv 7,Cv 52 eb5.assign,Iv 53 (len eb5.assign),Iv 54 qW2] [Xb 5 eb5,Xb 7 xb7])) (λeW2=>(1,(aP [] []))) (λeW2=>(aP [Iv 6 eW2] [])) (λqW2=>aK 7 55 (bh 8 λx_6 _=>bt 13 xb7.vars (aT 1 λx_7 _=>bG 2 5 [68] 73 (c9 2 68 (aT 2 λx_8 _=>aJ 2) (aJ 5)) λx_9=>aK 3 59 aj (BB 6 false true [.int .i64 qW2] λx_10 _=>jh (F:=qM 178 [.fptr (cells x_6)] (λz=>iT z x_6) ql.wI x_10) 1 λx_11 _=>aK 3 74 aj aj))) aj) (λeW2=>aj) (λeW2=>aj)))))) aj
end ct
def ct (t0:Trace) (id1:af) (e2:Event):Option Int:=
 (idx t0.procs id1.proc).bind λx_1=>
 ay (decide (id1.index>1))
 ((idx x_1.events (IntKind.wrap .i64 (id1.index-2))).bind λx_2=>
 ct.J1 x_2.time t0 id1 e2 x_1)
 (ct.J1 0 t0 id1 e2 x_1)
open ct in
instance KA (t0:Trace) (id1:af) (e2:Event):Fc Sy cL (ct t0 id1 e2):=Fc.M 153 [enc t0,enc id1,enc e2] (c_ 2 3 t0 (c_ 1 5 e2 (bh 9 λx_1 _=>kN 2 7 0 x_1 (aK 15 19 (bh 7 λx_2 _=>BX 6 (uE x_2.time t0 id1 e2 x_1)) (BX 4 (uE 0 t0 id1 e2 x_1))))))
def nX (e0:Event) (v1 v2:Int):Option Bool:=
 (ay (e0.kind==2)
 (some (e0.message==v1))
 (some false):Option Bool).bind λx_1=>
 (ay x_1
 (some (e0.peer==v2))
 (some false):Option Bool).bind λx_2=>
 some x_2
instance KH (e0:Event) (v1 v2:Int):Fc Sy cL (nX e0 v1 v2):=Fc.M 190 [enc e0,.fptr (cells v1),.fptr (cells v2)] (c_ 2 3 e0 (bG 9 5 [1,8] 13 (aK 9 8 (aJ 5) (aJ 5)) λx_1=>bG 1 5 [2,3,14] 19 (aK 1 14 (aJ 5) (aJ 5)) λx_2=>aj))
def rH (t0:Trace) (p1 m2 to_3:Int):Option Bool:=
 (idx t0.procs p1).bind λx_1=>
 (fM x_1.events (λz=>nX z m2 to_3)).bind λx_2=>
 some x_2
instance Pk (t0:Trace) (p1 m2 to_3:Int):Fc Sy cL (rH t0 p1 m2 to_3):=Fc.M 179 [enc t0,.int .i64 p1,.int .i64 m2,.int .i64 to_3] (c_ 2 4 t0 (bh 10 λx_1 _=>jh (F:=lP 190 [.fptr (cells m2),.fptr (cells to_3)] (λz=>nX z m2 to_3) ql.wI x_1.events) 3 λx_2 _=>aj))
namespace di
def pM (vk0_12 tb1:Trace) (vb2:Option (ai 200 aI)) (vb3:af) (vb4:Int) (x:af×Event) (vb10:ai 200 aI):Option (Fw (ai 200 aI) Empty (af×Int×(ai 200 aI))):=
 ay (x.2.kind==2)
 ((ai.at vb10 x.2.message).bind λx_2=>
 ay (decide (x_2.from_.index>0))
 (some (.r (x.1,8,vb10)))
 ((ai.at vb10 x.2.message).bind λx_3=>
 some (.n (ai.set vb10 x.2.message (⟨x.1,x_3.to_⟩:aI)))))
 (ay (x.2.kind==3)
 ((ai.at vb10 x.2.message).bind λx_4=>
 ay (decide (x_4.to_.index>0))
 (some (.r (x.1,8,vb10)))
 ((rH tb1 x.2.peer x.2.message x.1.proc).bind λx_5=>
 ay x_5
 ((ai.at vb10 x.2.message).bind λx_6=>
 some (.n (ai.set vb10 x.2.message (⟨x_6.from_,x.1⟩:aI))))
 (some (.r (x.1,7,vb10)))))
 (some (.n vb10)))
def E1 (vk0_12 tb1:Trace) (vb2:Option (ai 200 aI)) (vb3:af) (vb4:Int) (vb10:ai 200 aI):Option ((Option (ai 200 aI))×af×Int):=
 (gF vk0_12).bind λits=>(lZ (λ(x:af×Event) (q:ai 200 aI)=>pM vk0_12 tb1 vb2 vb3 vb4 x q) its vb10).bind (Fw.uu
 (λq=>some (some q,⟨0,0⟩,0))
 (λe=>Empty.elim e)
 (λe=>some ((none:Option (ai 200 aI)),e.1,e.2.1)))
end di
def di (t0:Trace):Option ((Option (ai 200 aI))×af×Int):=
 (ir t0).bind λx_1=>
 di.E1 x_1 t0 (none:Option (ai 200 aI)) (⟨0,0⟩:af) 0 (ai.gw 200 (⟨⟨0,0⟩,⟨0,0⟩⟩:aI))
open di in
instance HQ (t0:Trace):Fc Sy cL (di t0):=Fc.N 154 [enc t0] (c_ 2 1 t0 (c_ 8 10 (ai.gw 200 (⟨⟨0,0⟩,⟨0,0⟩⟩:aI)) (Rj 0 5 (aP [Pv 1,Pv 2,Pv 3,Pv 4,Pv 10] [Xb 1 t0,(2,.box [cv (none:Option (ai 200 aI))]),Xb 3 (⟨0,0⟩:af),(4,.box [iv 0]),Xb 10 (ai.gw 200 (⟨⟨0,0⟩,⟨0,0⟩⟩:aI))]) [cv (none:Option (ai 200 aI))] (by simp only[aP,vi,n9,pR,om,pN,qD,pQ,qW,nW,pX,vf,qF,qH,rq,qT,th,tg,pO,qR];rfl) (aT 7 λx_1 _=>G9 λits hits=>Dl 4 [Pv 1,Pv 2,Pv 3,Pv 4,Pv 5,(12,.v (.clo 175 [] [.fptr (cells x_1)]))] (λqE1=>[Xb 1 t0,(2,.box [cv (none:Option (ai 200 aI))]),Xb 3 (⟨0,0⟩:af),(4,.box [iv 0]),(5,.box [.ptr 10 0]),Xb 10 qE1]) (λeE1=>Empty.elim eE1) (λeE1=>[Xb 1 t0,(2,.box [cv (none:Option (ai 200 aI))]),Xb 3 eE1.1,(4,.box [iv eE1.2.1]),(5,.box [.ptr 10 0]),Xb 10 eE1.2.2]) (we x_1 its hits) (λxE1 qE1=>Rj 2 6 ⟨[Pv 1,Pv 2,Pv 3,Pv 4,Pv 5,(12,.v (.clo 175 [] [.fptr (cells x_1)])),Cv 13 xE1.1,Cv 14 xE1.2],[Xb 1 t0,(2,.box [cv (none:Option (ai 200 aI))]),Xb 3 (⟨0,0⟩:af),(4,.box [iv 0]),(5,.box [.ptr 10 0]),Xb 10 qE1],[1,2,3,4,5],[],true,0⟩ [iv 0,iv 0] (by simp only[aP,vi,n9,pR,om,pN,qD,pQ,qW,nW,pX,vf,qF,qH,rq,qT,th,tg,pO,qR];rfl) (Rj 4 7 ⟨[Pv 1,Pv 2,Pv 3,Pv 4,Pv 5,(12,.v (.clo 175 [] [.fptr (cells x_1)])),Cv 14 xE1.2,Pv 6],[Xb 1 t0,(2,.box [cv (none:Option (ai 200 aI))]),Xb 3 (⟨0,0⟩:af),(4,.box [iv 0]),(5,.box [.ptr 10 0]),Xb 10 qE1,Xb 6 xE1.1],[1,2,3,4,5],[],true,0⟩ [iv 0,iv 0,iv 0,iv 0,.v .aG] (by simp only[aP,vi,n9,pR,om,pN,qD,pQ,qW,nW,pX,vf,qF,qH,rq,qT,th,tg,pO,qR];rfl) (kN 0 7 0 xE1.2 (Bk 1 (aK 22 19 (js 7 .i64 10 λx_2 h_2=>Nf 2 1 false 10 qE1 xE1.2.message 1 x_2 h_2 (.int .i64 x_2.from_.index) (by rfl) (aK 3 28 aj (js 8 .i64 10 λx_3 h_3=>rD 1 10 qE1 xE1.2.message 0 x_3 h_3 (⟨xE1.1,x_3.to_⟩:aI) xE1.1 rfl aj))) (aK 7 36 (js 7 .i64 10 λx_4 h_4=>Nf 2 1 false 10 qE1 xE1.2.message 3 x_4 h_4 (.int .i64 x_4.to_.index) (by rfl) (aK 3 45 aj (aT 12 λx_5 _=>c9 3 54 (js 8 .i64 10 λx_6 h_6=>rD 1 10 qE1 xE1.2.message 2 x_6 h_6 (⟨x_6.from_,xE1.1⟩:aI) xE1.1 rfl aj) aj))) aj)))))) (λqE1=>Sq 13 (aP [Pv 2,Pv 3,Pv 4] [(2,.box [.ptr 10 0]),Xb 3 (⟨0,0⟩:af),(4,.box [iv 0]),Xb 10 qE1]) [.ptr 10 0,cv (⟨0,0⟩:af),iv 0] (OZ (d:=10) (x:=qE1) (vs:=[enc (⟨0,0⟩:af),.int .i64 0]) (by kernel_rfl)) (by kernel_rfl)) (λx=>Empty.elim x) (λeE1=>aj)))))
namespace gJ
def J1 (lq1:ai 200 aI) (out7:Sl af) (p8:Sl Event) (xb5:af):Option (Sl af):=
 (idx p8 (IntKind.wrap .i64 (xb5.index-1))).bind λx_2=>
 (ay (x_2.kind==2)
 ((ai.at lq1 x_2.message).bind λx_3=>
 some (decide (x_3.to_.index>0)))
 (some false):Option Bool).bind λx_4=>
 ay x_4
 ((ai.at lq1 x_2.message).bind λx_5=>
 (ig out7 (x_5.to_:af)).bind λx_6=>
 some x_6)
 (some out7)
theorem uE (lq1:ai 200 aI) (out7:Sl af) (p8:Sl Event) (xb5:af):Le ((J1 lq1 out7 p8 xb5).bind (λr=>some [enc r])) (bu Sy cL (pz (tr Tx 180)) (sA (tb Tx 180) [1,1,1,1,0,0] [] (aP [Kv 1 lq1,Pv 5,Ov 7,Cv 8 p8] [Xb 5 xb5,Lb 2007 out7]))):=
 bh 7 λx_2 _=>kN 2 9 0 x_2 (bG 8 10 [40] 50 (aK 8 40 (MZ 4 .i64 λx_3 h_3=>MB 0 2 lq1 x_2.message 0 x_3 h_3 (MB 0 1 lq1 x_2.message 2 x_3 h_3 (Nh 0 1 false lq1 x_2.message 3 x_3 h_3 (.int .i64 x_3.to_.index) (by rfl) (aJ 2)))) (aJ 10)) λx_4=>aK 2 50 (MZ 7 .i64 λx_5 h_5=>MB 0 2 lq1 x_2.message 0 x_5 h_5 (Nh 0 2 true lq1 x_2.message 2 x_5 h_5 (enc x_5.to_) (by rfl) (qh 1 2007 59 60 λx_6 _=>aj))) aj)
end gJ
def gJ (t0:Trace) (l1:ai 200 aI) (x2:af):Option (Sl af):=
 (idx t0.procs x2.proc).bind λx_1=>
 ay (decide (x2.index<(len x_1.events)))
 (gJ.J1 l1 (Sl.row [⟨x2.proc,IntKind.wrap .i64 (x2.index+1)⟩]:Sl af) x_1.events x2)
 (gJ.J1 l1 (Sl.nil:Sl af) x_1.events x2)
open gJ in
instance Pz (t0:Trace) (l1:ai 200 aI) (x2:af):Fc Sy cL (gJ t0 l1 x2):=Fc.N 180 [enc t0,.fptr (cells l1),enc x2] (c_ 2 3 t0 (bh 15 λx_1 _=>bt 11 x_1.events (aK 3 21 (Nt 10 29 30 .aG (⟨x2.proc,IntKind.wrap .i64 (x2.index+1)⟩:af) (BX 5 (uE l1 (Sl.row [⟨x2.proc,IntKind.wrap .i64 (x2.index+1)⟩]:Sl af) x_1.events x2))) (BX 5 (uE l1 (Sl.nil:Sl af) x_1.events x2)))))
namespace dW
def fN (vk0_13:Trace) (v36:Sl af) (v37:Int) (tb2:Trace) (lb3:ai 200 aI) (vb4:af) (vb5:Bool) (idb6:af) (rest8:Sl af) (v38:Int) (vb16:Mo af Bool):Option (Fw ((Sl af)×Int×(Mo af Bool)) ((Sl af)×(Mo af Bool)) Unit):=
 ay (decide (v38<v37))
 ((idx v36 v38).bind λx_6=>
 ay (Gs x_6 idb6)
 (some (.r ()))
 (ay (nh vb16 x_6 false)
 (some (.n (rest8,IntKind.wrap .i64 (v38+1),vb16)))
 ((ig rest8 (x_6:af)).bind λx_7=>
 some (.n (x_7,IntKind.wrap .i64 (v38+1),mZ vb16 x_6 true)))))
 (some (.x (rest8,vb16)))
def W3 (rest8:Sl af) (vk0_13:Trace) (v36:Sl af) (v37 v38:Int) (tb2:Trace) (lb3:ai 200 aI) (vb4:af) (vb5:Bool) (idb6:af) (vb16:Mo af Bool):Option (Fw ((Sl af)×(Mo af Bool)) Unit Unit):=
 (aX (λq:(Sl af)×Int×(Mo af Bool)=>fN vk0_13 v36 v37 tb2 lb3 vb4 vb5 idb6 q.1 q.2.1 q.2.2) (rest8,v38,vb16)).bind (Fw.elim
 (λe=>some (.n (e.1,e.2)))
 (λe=>some (.r ())))
def bn (vk0_13 tb2:Trace) (lb3:ai 200 aI) (vb4:af) (vb5:Bool) (idb6:af) (rest8:Sl af) (vb16:Mo af Bool):Option (Fw ((Sl af)×(Mo af Bool)) Unit Unit):=
 ay (decide ((len rest8)>0))
 ((Sl.kZ rest8 (IntKind.wrap .i64 ((len rest8)-1))).bind λx_2=>
 (Sl.get rest8 x_2).bind λx_3=>
 (mH rest8 none (some (IntKind.wrap .i64 ((len rest8)-1)))).bind λx_4=>
 (gJ tb2 lb3 x_3).bind λx_5=>
 W3 x_4 vk0_13 x_5 (len x_5) 0 tb2 lb3 vb4 vb5 idb6 vb16)
 (some (.x ()))
def W2 (rest8:Sl af) (vk0_13 tb2:Trace) (lb3:ai 200 aI) (vb4:af) (vb5:Bool) (idb6:af) (vb16:Mo af Bool):Option (Fw Unit Empty af):=
 (aX (λq:(Sl af)×(Mo af Bool)=>bn vk0_13 tb2 lb3 vb4 vb5 idb6 q.1 q.2) (rest8,vb16)).bind (Fw.elim
 (λe=>some (.n ()))
 (λe=>some (.r idb6)))
def pM (vk0_13 tb2:Trace) (lb3:ai 200 aI) (vb4:af) (vb5:Bool) (x:af×Event):Option (Fw Unit Empty af):=
 W2 (Sl.row [x.1]:Sl af) vk0_13 tb2 lb3 vb4 vb5 x.1 []
def E1 (vk0_13 tb2:Trace) (lb3:ai 200 aI) (vb4:af) (vb5:Bool):Option (af×Bool):=
 (gF vk0_13).bind λits=>(lZ (λ(x:af×Event) (q:Unit)=>pM vk0_13 tb2 lb3 vb4 vb5 x) its ()).bind (Fw.uu
 (λq=>some (⟨0,0⟩,false))
 (λe=>Empty.elim e)
 (λe=>some (e,true)))
end dW
def dW (t0:Trace) (l1:ai 200 aI):Option (af×Bool):=
 (ir t0).bind λx_1=>
 dW.E1 x_1 t0 l1 (⟨0,0⟩:af) false
open dW in
instance OJ (t0:Trace) (l1:ai 200 aI):Fc Sy cL (dW t0 l1):=Fc.M 155 [enc t0,.fptr (cells l1)] (c_ 2 2 t0 (aT 9 λx_1 _=>G9 λits hits=>Dl 4 [Pv 2,Pv 3,Pv 4,Pv 5,(13,.v (.clo 175 [] [.fptr (cells x_1)]))] (λqE1=>[Xb 2 t0,(3,.box [cp l1]),Xb 4 (⟨0,0⟩:af),(5,.box [bv false])]) (λeE1=>Empty.elim eE1) (λeE1=>[Xb 2 t0,(3,.box [cp l1]),Xb 4 eE1,(5,.box [bv true])]) (we x_1 its hits) (λxE1 qE1=>Bk 4 (cO 18 (λqW2=>⟨[Pv 2,Pv 3,Pv 4,Pv 5,Pv 6,(7,.mp 16),Ov 8,(13,.v (.clo 175 [] [.fptr (cells x_1)]))],[Xb 2 t0,(3,.box [cp l1]),Xb 4 (⟨0,0⟩:af),(5,.box [bv false]),Xb 6 xE1.1,(16,q9 qW2.2),Lb 2008 qW2.1],[2,3,4,5],[],true,0⟩) (λeW2=>(2,⟨[Pv 2,Pv 3,Pv 4,Pv 5,(13,.v (.clo 175 [] [.fptr (cells x_1)]))],[Xb 2 t0,(3,.box [cp l1]),Xb 4 (⟨0,0⟩:af),(5,.box [bv false])],[2,3,4,5],[],true,0⟩)) (λeW2=>⟨[],[Xb 2 t0,(3,.box [cp l1]),Xb 4 xE1.1,(5,.box [bv true])],[2,3,4,5],[],true,0⟩) (λqW2=>Dj 6 2008 qW2.1 (aK 3 21 (Dj 8 2008 qW2.1 (me .i64 1 2008 λx_2 _=>sw 0 2008 0 2 true (λx_3=>.agg [.int .i64 x_3.proc,.int .i64 x_3.index]) λx_3 _=>Dj 8 2008 qW2.1 (SR 1 false true 2008 32 [.int .i64 (IntKind.wrap .i64 ((len qW2.1)-1))] λx_4 _=>aT 8 λx_5 _=>bt 0 x_5 (cO 6 (λqW3=>⟨[Pv 2,Pv 3,Pv 4,Pv 5,Pv 6,(7,.mp 16),Ov 8,(13,.v (.clo 175 [] [.fptr (cells x_1)])),Cv 36 x_5,Iv 37 (len x_5),Iv 38 qW3.2.1],[Xb 2 t0,(3,.box [cp l1]),Xb 4 (⟨0,0⟩:af),(5,.box [bv false]),Xb 6 xE1.1,(16,q9 qW3.2.2),Lb 2008 qW3.1],[2,3,4,5],[],true,0⟩) (λeW3=>(4,⟨[Pv 2,Pv 3,Pv 4,Pv 5,Pv 6,(7,.mp 16),Ov 8,(13,.v (.clo 175 [] [.fptr (cells x_1)]))],[Xb 2 t0,(3,.box [cp l1]),Xb 4 (⟨0,0⟩:af),(5,.box [bv false]),Xb 6 xE1.1,(16,q9 eW3.2),Lb 2008 eW3.1],[2,3,4,5],[],true,0⟩)) (λeW3=>⟨[],[Xb 2 t0,(3,.box [cp l1]),Xb 4 xE1.1,(5,.box [bv true])],[2,3,4,5],[],true,0⟩) (λqW3=>aK 8 39 (bh 7 λx_6 _=>aK 13 44 aj (Su 7 16 qW3.2.2 x_6 false (c9 3 49 aj (Qb 5 16 qW3.2.2 x_6 true (qh 6 2008 54 55 λx_7 _=>aj))))) aj) (λeW3=>aj) (λeW3=>aj))))) aj)) (λeW2=>aj) (λeW2=>aj))) (λqE1=>aj) (λx=>Empty.elim x) (λeE1=>aj)))
namespace fh
def FZ (vk0_36 tb1:Trace) (vb2:af) (vb3:Int) (x:af×Event):Option (Fw Unit Empty (af×Int)):=
 (ct tb1 x.1 x.2).bind λx_3=>
 ay (x_3==0)
 (some (.n ()))
 (some (.r (x.1,x_3)))
def E2 (vk0_36 tb1:Trace) (vb2:af) (vb3:Int):Option (af×Int):=
 (gF vk0_36).bind λits=>(lZ (λ(x:af×Event) (q:Unit)=>FZ vk0_36 tb1 vb2 vb3 x) its ()).bind (Fw.uu
 (λq=>(di tb1).bind λx_5=>
 ay (x_5.2.2==0)
 ((x_5.1).bind λx_6=>
 (dW tb1 x_6).bind λx_7=>
 ay x_7.2
 (some (x_7.1,10))
 (some (⟨0,0⟩,0)))
 (some (x_5.2.1,x_5.2.2)))
 (λe=>Empty.elim e)
 (λe=>some (e.1,e.2)))
def aB (v22:Int) (tb1:Trace) (vb2:af) (vb3:Int) (v23:Int):Option (Fw Int Unit (af×Int)):=
 ay (decide (v23<v22))
 ((dn tb1 v23).bind λx_2=>
 ay (x_2==0)
 (some (.n (IntKind.wrap .i64 (v23+1))))
 (some (.r ((⟨v23,0⟩:af),x_2))))
 (some (.x ()))
def W1 (v22 v23:Int) (tb1:Trace) (vb2:af) (vb3:Int):Option (af×Int):=
 (aX (λq:Int=>aB v22 tb1 vb2 vb3 q) v23).bind (Fw.elim
 (λe=>(ir tb1).bind λx_4=>
 fh.E2 x_4 tb1 vb2 vb3)
 (λe=>some (e.1,e.2)))
end fh
def fh (t0:Trace):Option (af×Int):=
 (kX (len t0.procs) 1 8).bind λx_1=>
 ay x_1
 (fh.W1 (len t0.procs) 0 t0 (⟨0,0⟩:af) 0)
 (some (⟨0,0⟩,1))
open fh in
instance Pc (t0:Trace):Fc Sy cL (fh t0):=Fc.M 129 [enc t0] (c_ 2 1 t0 (bt 9 t0.procs (aT 0 λx_1 _=>c9 3 18 (bt 8 t0.procs (cO 5 (λqW1=>(aP [Pv 1,Pv 2,Pv 3,Iv 22 (len t0.procs),Iv 23 qW1] [Xb 1 t0,Xb 2 (⟨0,0⟩:af),(3,.box [iv 0])])) (λeW1=>(0,(aP [Pv 1,Pv 2,Pv 3] [Xb 1 t0,Xb 2 (⟨0,0⟩:af),(3,.box [iv 0])]))) (λeW1=>(aP [Pv 2,Pv 3] [Xb 2 eW1.1,(3,.box [iv eW1.2])])) (λqW1=>aK 7 24 (aT 15 λx_2 _=>c9 9 30 aj aj) aj) (λeW1=>aT 6 λx_4 _=>G9 λits hits=>Dl 4 [Pv 1,Pv 2,Pv 3,(36,.v (.clo 175 [] [.fptr (cells x_4)]))] (λqE2=>[Xb 1 t0,Xb 2 (⟨0,0⟩:af),(3,.box [iv 0])]) (λeE2=>Empty.elim eE2) (λeE2=>[Xb 1 t0,Xb 2 eE2.1,(3,.box [iv eE2.2])]) (we x_4 its hits) (λxE2 qE2=>kN 8 7 0 xE2.2 (Bk 1 (aT 7 λx_3 _=>c9 9 44 aj aj))) (λqE2=>aT 5 λx_5 _=>c9 17 54 (Us 8 (λoo=>(aP [Pv 2,Pv 3,(36,.v (.clo 175 [] [.fptr (cells x_4)])),Pv 10,Iv 11 x_5.2.2,Bv 54 false,Cv 58 t0,Cv 59 oo] [Xb 1 t0,Xb 2 (⟨0,0⟩:af),(3,.box [iv 0]),Xb 10 x_5.2.1])) λx_6 _=>aT 0 λx_7 _=>aK 13 63 aj aj) aj) (λx=>Empty.elim x) (λeE2=>aj)) (λeW1=>aj))) aj)))
def fV (t0:Trace):Option Bool:=
 (fh t0).bind λx_1=>
 some (x_1.2==0)
instance Pw (t0:Trace):Fc Sy cL (fV t0):=Fc.M 88 [enc t0] (c_ 2 1 t0 (aT 6 λx_1 _=>aj))
namespace jI
def pM (vk0_15:Trace) (kindb4 mb5:Int) (vb6:af) (vb7:Bool) (x:af×Event):Option (Fw Unit Empty af):=
 (ay (x.2.kind==kindb4)
 (some (x.2.message==mb5))
 (some false):Option Bool).bind λx_3=>
 ay x_3
 (some (.r x.1))
 (some (.n ()))
def E1 (vk0_15:Trace) (kindb4 mb5:Int) (vb6:af) (vb7:Bool):Option (af×Bool):=
 (gF vk0_15).bind λits=>(lZ (λ(x:af×Event) (q:Unit)=>pM vk0_15 kindb4 mb5 vb6 vb7 x) its ()).bind (Fw.uu
 (λq=>some (⟨0,0⟩,false))
 (λe=>Empty.elim e)
 (λe=>some (e,true)))
end jI
def jI (t0:Trace) (kind1 m2:Int):Option (af×Bool):=
 (fV t0).bind λx_1=>
 ay x_1
 ((ir t0).bind λx_2=>
 jI.E1 x_2 kind1 m2 (⟨0,0⟩:af) false)
 (some (⟨0,0⟩,false))
open jI in
instance Qq (t0:Trace) (kind1 m2:Int):Fc Sy cL (jI t0 kind1 m2):=Fc.M 135 [enc t0,.int .i64 kind1,.int .i64 m2] (c_ 2 3 t0 (aT 10 λx_1 _=>c9 3 12 (aT 7 λx_2 _=>G9 λits hits=>Dl 4 [Pv 4,Pv 5,Pv 6,Pv 7,(15,.v (.clo 175 [] [.fptr (cells x_2)]))] (λqE1=>[(4,.box [iv kind1]),(5,.box [iv m2]),Xb 6 (⟨0,0⟩:af),(7,.box [bv false])]) (λeE1=>Empty.elim eE1) (λeE1=>[(4,.box [iv kind1]),(5,.box [iv m2]),Xb 6 eE1,(7,.box [bv true])]) (we x_2 its hits) (λxE1 qE1=>kN 8 9 0 xE1.2 (Bk 1 (bG 9 5 [9,22] 27 (aK 9 22 (aJ 5) (aJ 5)) λx_3=>aK 2 27 aj aj))) (λqE1=>aj) (λx=>Empty.elim x) (λeE1=>aj)) aj))
def qt (t0:Trace) (m1:Int):Option (af×Bool):=
 (jI t0 2 m1).bind λx_1=>
 some (x_1.1,x_1.2)
instance O4 (t0:Trace) (m1:Int):Fc Sy cL (qt t0 m1):=Fc.M 161 [enc t0,.int .i64 m1] (c_ 2 2 t0 (aT 8 λx_1 _=>aj))
namespace iH
def J3 (need6:Sl af) (v11:Sl bA) (v12 v13:Int) (v18:Sl Event) (v19 v20:Int) (tb1:Trace) (vb2 mb3:bl) (xb5:bA) (idb9:af):Option (Fw ((Sl af)×Int×Trace×bl×bl) ((Sl af)×Trace×bl) Empty):=
 (ig need6 (idb9:af)).bind λx_4=>
 some (.n (x_4,IntKind.wrap .i64 (v20+1),tb1,(⟨Sl.nil,Sl.nil⟩:bl),mb3))
def bn (v11:Sl bA) (v12 v13:Int) (v18:Sl Event) (v19:Int) (xb5:bA) (need6:Sl af) (v20:Int) (tb1:Trace) (vb2 mb3:bl):Option (Fw ((Sl af)×Int×Trace×bl×bl) ((Sl af)×Trace×bl) Empty):=
 ay (decide (v20<v19))
 ((idx v18 v20).bind λx_2=>
 ay (x_2.kind==3)
 ((qt tb1 x_2.message).bind λx_3=>
 J3 need6 v11 v12 v13 v18 v19 v20 tb1 (⟨Sl.nil,Sl.nil⟩:bl) mb3 xb5 x_3.1)
 (J3 need6 v11 v12 v13 v18 v19 v20 tb1 (⟨Sl.nil,Sl.nil⟩:bl) mb3 xb5 (⟨0,0⟩:af)))
 (some (.x (need6,tb1,mb3)))
def W2 (need6:Sl af) (v11:Sl bA) (v12 v13:Int) (v18:Sl Event) (v19 v20:Int) (tb1:Trace) (vb2 mb3:bl) (xb5:bA):Option (Fw (Int×Trace×bl×bl) bl Empty):=
 (aX (λq:(Sl af)×Int×Trace×bl×bl=>bn v11 v12 v13 v18 v19 xb5 q.1 q.2.1 q.2.2.1 q.2.2.2.1 q.2.2.2.2) (need6,v20,tb1,vb2,mb3)).bind (Fw.elim
 (λe=>(ig e.2.2.lengths (len xb5.events:Int)).bind λx_5=>
 (ig e.2.2.need (e.1:Sl af)).bind λx_6=>
 some (.n (IntKind.wrap .i64 (v13+1),e.2.1,(⟨Sl.nil,Sl.nil⟩:bl),(⟨x_5,x_6⟩:bl))))
 (λe=>Empty.elim e))
def aB (v11:Sl bA) (v12:Int) (v13:Int) (tb1:Trace) (vb2 mb3:bl):Option (Fw (Int×Trace×bl×bl) bl Empty):=
 ay (decide (v13<v12))
 ((idx v11 v13).bind λx_1=>
 W2 (Sl.nil:Sl af) v11 v12 v13 x_1.events (len x_1.events) 0 tb1 (⟨Sl.nil,Sl.nil⟩:bl) mb3 x_1)
 (some (.x mb3))
def W1 (v11:Sl bA) (v12 v13:Int) (tb1:Trace) (vb2 mb3:bl):Option bl:=
 (aX (λq:Int×Trace×bl×bl=>aB v11 v12 q.1 q.2.1 q.2.2.1 q.2.2.2) (v13,tb1,vb2,mb3)).bind (Fw.elim
 (λe=>some e)
 (λe=>Empty.elim e))
end iH
def iH (t0:Trace):Option bl:=
 iH.W1 t0.procs (len t0.procs) 0 t0 (⟨Sl.nil,Sl.nil⟩:bl) (⟨Sl.nil,Sl.nil⟩:bl)
open iH in
instance Ta (t0:Trace):Fc Sy cL (iH t0):=Fc.N 144 [enc t0] (c_ 2 1 t0 (bt 13 t0.procs (iq 7 (λqW1=>(aP [Pv 1,Pv 2,Pv 3,Cv 11 t0.procs,Iv 12 (len t0.procs),Iv 13 qW1.1] [Xb 1 qW1.2.1,Xb 2 (⟨Sl.nil,Sl.nil⟩:bl),(3,.box [.own 4060,.own 4061]),Lb 4060 qW1.2.2.2.lengths,Lb 4061 qW1.2.2.2.need])) (λeW1=>(0,(aP [Pv 2,Pv 3] [Xb 2 (⟨Sl.nil,Sl.nil⟩:bl),(3,.box [.own 4060,.own 4061]),Lb 4060 eW1.lengths,Lb 4061 eW1.need]))) (λqW1=>aK 9 14 (bh 7 λx_1 _=>kN 2 5 0 x_1 (bt 12 x_1.events (iq 8 (λqW2=>(aP [Pv 1,Pv 2,Pv 3,Pv 5,Ov 6,Cv 11 t0.procs,Iv 12 (len t0.procs),Iv 13 qW1.1,Cv 18 x_1.events,Iv 19 (len x_1.events),Iv 20 qW2.2.1] [Xb 1 qW2.2.2.1,Xb 2 (⟨Sl.nil,Sl.nil⟩:bl),(3,.box [.own 4060,.own 4061]),Xb 5 x_1,Lb 2006 qW2.1,Lb 4060 qW2.2.2.2.2.lengths,Lb 4061 qW2.2.2.2.2.need])) (λeW2=>(2,(aP [Pv 1,Pv 2,Pv 3,Pv 5,Ov 6,Cv 11 t0.procs,Iv 12 (len t0.procs),Iv 13 qW1.1] [Xb 1 eW2.2.1,Xb 2 (⟨Sl.nil,Sl.nil⟩:bl),(3,.box [.own 4060,.own 4061]),Xb 5 x_1,Lb 2006 eW2.1,Lb 4060 eW2.2.2.lengths,Lb 4061 eW2.2.2.need]))) (λqW2=>aK 10 21 (bh 7 λx_2 _=>kN 2 8 0 x_2 (aK 15 26 (aT 5 λx_3 _=>uU 10 (qh 4 2006 36 37 λx_4 _=>aj)) (uU 7 (qh 4 2006 36 37 λx_4 _=>aj)))) aj) (λeW2=>bt 8 x_1.events (qh 1 4060 44 45 λx_5 _=>AT 9 50 ([eW2.1]:List (Sl af)) (qh 0 4061 50 51 λx_6 _=>aj)))))) aj) (λeW1=>kN 7 2 0 eW1 aj))))
def mA (m0:bl) (c1:Sl Int) (p2:Int):Option Bool:=
 (idx c1 p2).bind λx_1=>
 (idx m0.lengths p2).bind λx_2=>
 ay (x_1==x_2)
 (some false)
 ((idx m0.need p2).bind λx_3=>
 (idx c1 p2).bind λx_4=>
 (idx x_3 x_4).bind λx_5=>
 (idx c1 x_5.proc).bind λx_6=>
 some (decide (x_5.index<=x_6)))
instance Jj (m0:bl) (c1:Sl Int) (p2:Int):Fc Sy cL (mA m0 c1 p2):=Fc.M 162 [enc m0,enc c1,.int .i64 p2] (c_ 2 3 m0 (bh 8 λx_1 _=>bh 4 λx_2 _=>aK 4 17 aj (bh 8 λx_3 _=>bh 3 λx_4 _=>bh 1 λx_5 _=>bh 12 λx_6 _=>aj)))
def gT (s0:Sl Int):Option (Sl Int):=
 (Sl.isNil s0).bind λx_1=>
 ay x_1
 (some Sl.nil)
 ((lU (Sl.row []:Sl Int) s0).bind λx_2=>
 some x_2)
theorem jw:En Sy cL 114 (λs0:Sl Int=>[enc s0]) (λz=>gT z):=En.mk' (A_ (Tx 114)) (λs0=>UE 9 λx_1 _=>aK 2 4 aj (wN 7 5 7 λx_2 _=>aj))
def oU (x0:Int):Option Bool:=
 some (!(x0==x0))
instance M9 (x0:Int):Fc Sy cL (oU x0):=Fc.M 184 [.int .i64 x0] (aj)
def ny (x0 y1:Int):Option Int:=
 (oU x0).bind λx_1=>
 (oU y1).bind λx_2=>
 ay x_1
 (ay x_2
 (some 0)
 (some (-1)))
 (ay x_2
 (some 1)
 (ay (decide (x0<y1))
 (some (-1))
 (ay (decide (x0>y1))
 (some 1)
 (some 0))))
instance KD (x0 y1:Int):Fc Sy cL (ny x0 y1):=Fc.M 183 [.int .i64 x0,.int .i64 y1] (aT 8 λx_1 _=>aT 6 λx_2 _=>aK 9 11 (aK 7 12 aj aj) (aK 9 13 aj (aK 11 16 aj (aK 11 19 aj aj))))
namespace dH
def aB (s10 s21 v9:Sl Int) (v10:Int) (v11:Int):Option (Fw Int Unit Int):=
 ay (decide (v11<v10))
 ((idx v9 v11).bind λx_1=>
 ay (decide (v11>=(len s21)))
 (some (.r 1))
 ((idx s21 v11).bind λx_2=>
 (ny x_1 x_2).bind λx_3=>
 ay (x_3==0)
 (some (.n (IntKind.wrap .i64 (v11+1))))
 (some (.r x_3))))
 (some (.x ()))
def W1 (s10 s21 v9:Sl Int) (v10 v11:Int):Option Int:=
 (aX (λq:Int=>aB s10 s21 v9 v10 q) v11).bind (Fw.elim
 (λe=>ay (decide ((len s10)<(len s21)))
 (some (-1))
 (some 0))
 (λe=>some e))
end dH
def dH (s10 s21:Sl Int):Option Int:=
 dH.W1 s10 s21 s10 (len s10) 0
open dH in
instance Ia (s10 s21:Sl Int):Fc Sy cL (dH s10 s21):=Fc.M 165 [enc s10,enc s21] (bt 9 s10 (cO 5 (λqW1=>(aP [Cv 0 s10,Cv 1 s21,Cv 9 s10,Iv 10 (len s10),Iv 11 qW1] [])) (λeW1=>(0,(aP [Cv 0 s10,Cv 1 s21] []))) (λeW1=>(aP [Iv 4 eW1] [])) (λqW1=>aK 7 12 (bh 8 λx_1 _=>bt 10 s21 (aK 3 19 aj (bh 7 λx_2 _=>aT 8 λx_3 _=>c9 9 28 aj aj))) aj) (λeW1=>bt 6 s10 (bt 1 s21 (aK 3 35 aj aj))) (λeW1=>aj)))
def gU (a0 b1:Sl Int):Option Int:=
 (dH a0 b1).bind λx_1=>
 some x_1
instance GL (a0 b1:Sl Int):Fc Sy cL (gU a0 b1):=Fc.M 164 [enc a0,enc b1] (aT 9 λx_1 _=>aj)
namespace dc
def aB (s10 s21:Sl Int) (v12:Int) (v13:Int):Option (Fw Int Unit Unit):=
 ay (decide (v13<v12))
 ((idx s10 v13).bind λx_1=>
 (idx s21 v13).bind λx_2=>
 ay (x_1==x_2)
 (some (.n (IntKind.wrap .i64 (v13+1))))
 (some (.r ())))
 (some (.x ()))
def W1 (s10 s21:Sl Int) (v12 v13:Int):Option Bool:=
 (aX (λq:Int=>aB s10 s21 v12 q) v13).bind (Fw.elim
 (λe=>some true)
 (λe=>some false))
end dc
def dc (s10 s21:Sl Int):Option Bool:=
 ay ((len s10)==(len s21))
 (dc.W1 s10 s21 (len s10) 0)
 (some false)
open dc in
instance Kb (s10 s21:Sl Int):Fc Sy cL (dc s10 s21):=Fc.M 40 [enc s10,enc s21] (bt 9 s10 (bt 1 s21 (c9 3 10 (bt 7 s10 (cO 5 (λqW1=>(aP [Cv 0 s10,Cv 1 s21,Iv 12 (len s10),Iv 13 qW1] [])) (λeW1=>(0,(aP [] []))) (λeW1=>(aP [Bv 4 false] [])) (λqW1=>aK 7 14 (bh 15 λx_1 _=>bh 3 λx_2 _=>c9 4 24 aj aj) aj) (λeW1=>aj) (λeW1=>aj))) aj)))
def jf (a0 b1:Sl Int):Option Bool:=
 (dc a0 b1).bind λx_1=>
 some x_1
instance Ik (a0 b1:Sl Int):Fc Sy cL (jf a0 b1):=Fc.M 167 [enc a0,enc b1] (aT 9 λx_1 _=>aj)
namespace c8
def bn (c7:Sl Int) (v10:Sl (Sl Int)) (v11 v12 v17:Int) (mb2:bl) (out5:Sl (Sl Int)) (v18:Int):Option (Fw ((Sl (Sl Int))×Int) (Sl (Sl Int)) Empty):=
 ay (decide (v18<v17))
 ((mA mb2 c7 v18).bind λx_2=>
 ay x_2
 (((gT c7).bind Sl.whole).bind λx_3=>
 (Sl.kZ x_3 v18).bind λx_4=>
 (Sl.get x_3 x_4).bind λx_5=>
 (Sl.kZ x_3 v18).bind λx_6=>
 (Sl.put x_3 x_6 (IntKind.wrap .i64 (x_5+1):Int)).bind λx_7=>
 (ig out5 (x_7:Sl Int)).bind λx_8=>
 some (.n (x_8,IntKind.wrap .i64 (v18+1))))
 (some (.n (out5,IntKind.wrap .i64 (v18+1)))))
 (some (.x out5))
def W2 (out5:Sl (Sl Int)) (c7:Sl Int) (v10:Sl (Sl Int)) (v11 v12 v17 v18:Int) (mb2:bl):Option (Fw ((Sl (Sl Int))×Int×Int) (Sl (Sl Int)) Empty):=
 (aX (λq:(Sl (Sl Int))×Int=>bn c7 v10 v11 v12 v17 mb2 q.1 q.2) (out5,v18)).bind (Fw.elim
 (λe=>some (.n (e,v11,IntKind.wrap .i64 (v12+1))))
 (λe=>Empty.elim e))
def aB (v10:Sl (Sl Int)) (mb2:bl) (out5:Sl (Sl Int)) (v11 v12:Int):Option (Fw ((Sl (Sl Int))×Int×Int) (Sl (Sl Int)) Empty):=
 ay (decide (v12<v11))
 ((idx v10 v12).bind λx_1=>
 W2 out5 x_1 v10 v11 v12 (len x_1) 0 mb2)
 (some (.x out5))
def W1 (out5 v10:Sl (Sl Int)) (v11 v12:Int) (mb2:bl):Option (Sl (Sl Int)):=
 (aX (λq:(Sl (Sl Int))×Int×Int=>aB v10 mb2 q.1 q.2.1 q.2.2) (out5,v11,v12)).bind (Fw.elim
 (λe=>(vI e gU).bind λx_9=>
 (uX x_9 jf).bind λx_10=>
 some x_10)
 (λe=>Empty.elim e))
end c8
def c8 (m0:bl) (level1:Sl (Sl Int)):Option (Sl (Sl Int)):=
 c8.W1 (Sl.nil:Sl (Sl Int)) level1 (len level1) 0 m0
open c8 in
instance KE (m0:bl) (level1:Sl (Sl Int)):Fc Sy cL (c8 m0 level1):=Fc.N 145 [enc m0,enc level1] (c_ 2 2 m0 (bt 12 level1 (iq 6 (λqW1=>(aP [Pv 2,Ov 5,Cv 10 level1,Iv 11 qW1.2.1,Iv 12 qW1.2.2] [Xb 2 m0,Lb 2005 qW1.1])) (λeW1=>(0,(aP [Ov 5] [Lb 2005 eW1]))) (λqW1=>aK 8 13 (bh 7 λx_1 _=>bt 7 x_1 (iq 6 (λqW2=>(aP [Pv 2,Ov 5,Cv 7 x_1,Cv 10 level1,Iv 11 qW1.2.1,Iv 12 qW1.2.2,Iv 17 (len x_1),Iv 18 qW2.2] [Xb 2 m0,Lb 2005 qW2.1])) (λeW2=>(2,(aP [Pv 2,Ov 5,Cv 10 level1,Iv 11 qW1.2.1,Iv 12 qW1.2.2] [Xb 2 m0,Lb 2005 eW2]))) (λqW2=>aK 8 19 (aT 16 λx_2 _=>aK 2 24 (GY 4 26 jw x_1 λx_3 _=>me .i64 7 26 λx_4 _=>sw 0 26 0 1 false (λx_5=>.int .i64 x_5) λx_5 _=>me .i64 1 26 λx_6 _=>z6 0 26 (.int .i64 (IntKind.wrap .i64 (x_5+1))) λx_7 _=>AT 6 35 ([x_7]:List (Sl Int)) (qh 0 2005 35 36 λx_8 _=>aj)) aj) aj) (λeW2=>aj))) aj) (λeW1=>R8 5 2005 Dh yg NX (ji.wI (λz=>inferInstanceAs (Fc Sy cL (gU z.1 z.2))) default (λ_=>rfl) (λ_=>rfl) (λ_=>rfl) (λ_=>rfl)) λx_9 _=>SQ 5 2005 42 Dh yg OY (ji.wI (λz=>inferInstanceAs (Fc Sy cL (jf z.1 z.2))) default (λ_=>rfl) (λ_=>rfl) (λ_=>rfl) (λ_=>rfl)) λx_10 _=>aj))))
namespace gI
def aB (mb4:bl) (level5:Sl (Sl Int)) (out6:Sl (Sl (Sl Int))) (total7:Int):Option (Fw ((Sl (Sl Int))×(Sl (Sl (Sl Int)))×Int) (Sl (Sl (Sl Int))) Unit):=
 ay (decide ((len level5)>0))
 (ay (decide ((IntKind.wrap .i64 (total7+(len level5)))>5000))
 (some (.r ()))
 ((ig out6 (level5:Sl (Sl Int))).bind λx_4=>
 (c8 mb4 level5).bind λx_5=>
 some (.n (x_5,x_4,IntKind.wrap .i64 (total7+(len level5))))))
 (some (.x out6))
def W1 (level5:Sl (Sl Int)) (out6:Sl (Sl (Sl Int))) (total7:Int) (mb4:bl):Option ((Sl (Sl (Sl Int)))×Int):=
 (aX (λq:(Sl (Sl Int))×(Sl (Sl (Sl Int)))×Int=>aB mb4 q.1 q.2.1 q.2.2) (level5,out6,total7)).bind (Fw.elim
 (λe=>some (e,0))
 (λe=>some ((Sl.nil:Sl (Sl (Sl Int))),16)))
end gI
def gI (t0:Trace):Option ((Sl (Sl (Sl Int)))×Int):=
 (fV t0).bind λx_1=>
 ay x_1
 ((iH t0).bind λx_2=>
 (sr (len t0.procs) (0:Int)).bind λx_3=>
 gI.W1 (Sl.row [x_3]:Sl (Sl Int)) (Sl.nil:Sl (Sl (Sl Int))) 0 x_2)
 (some ((Sl.nil:Sl (Sl (Sl Int))),1))
open gI in
instance Po (t0:Trace):Fc Sy cL (gI t0):=Fc.N 118 [enc t0] (c_ 2 1 t0 (aT 8 λx_1 _=>c9 3 10 (aT 6 λx_2 _=>kN 1 4 0 x_2 (bt 6 t0.procs (RQ 0 16 λx_3 _=>AT 1 17 ([x_3]:List (Sl Int)) (cO 18 (λqW1=>(aP [Pv 4,Cv 5 qW1.1,Ov 6,Iv 7 qW1.2.2] [Xb 4 x_2,Lb 2006 qW1.2.1])) (λeW1=>(0,(aP [Ov 6] [Lb 2006 eW1]))) (λeW1=>(aP [Ov 2,Iv 3 16] [Lb 2002 (Sl.nil:Sl (Sl (Sl Int)))])) (λqW1=>bt 7 qW1.1 (aK 3 20 (bt 10 qW1.1 (aK 10 29 aj (AT 6 32 ([qW1.1]:List (Sl (Sl Int))) (qh 0 2006 32 33 λx_4 _=>aT 7 λx_5 _=>aj)))) aj)) (λeW1=>aj) (λeW1=>aj))))) aj))
def dX (s:Sl (Sl (Sl Int))):Option (Sl (Sl Int)):=if s.l.length<=2147483648/\(s.l.flatMap Sl.l).length<=2147483648 then some (xR s)else none
instance HV (s:Sl (Sl (Sl Int))):Fc Sy cL (dX s):=Fc.of (A:=λz:Sl (Sl (Sl Int))=>[enc z]) (E:=λr:Sl (Sl Int)=>[enc r]) (p:=dX) (n:=119) (z:=s) (ji.My (by kernel_rfl) (by kernel_rfl) (λz r h=>by
 unfold dX at h;split at h
 .rename_i hc;cases h;exact uF (OG (E:=Sy.E) (N:=λn=>n) (gid:=146) (nm:=some) (λ_ _ h=>(Option.some.inj h).symm) rfl (by kernel_rfl) (by kernel_rfl) (zy (by kernel_rfl)) (zy (by kernel_rfl)) rfl z hc.1 hc.2)
 .cases h))
def lN (t0:Trace):Option ((Sl (Sl Int))×Int):=
 (gI t0).bind λx_1=>
 (dX x_1.1).bind λx_2=>
 some (x_2,x_1.2)
instance R3 (t0:Trace):Fc Sy cL (lN t0):=Fc.N 63 [enc t0] (c_ 2 1 t0 (aT 7 λx_1 _=>aT 10 λx_2 _=>aj))
def pS (t0:Trace):Option ((Sl (Sl Int))×Int):=
 (lN t0).bind λx_1=>
 some (x_1.1,x_1.2)
instance R6 (t0:Trace):Fc Sy cL (pS t0):=Fc.N 43 [enc t0] (c_ 2 1 t0 (aT 7 λx_1 _=>aj))
def kO (c:Sl Int):Option (ai 8 Int):=some (oD 8 c)
instance Rm (c:Sl Int):Fc Sy cL (kO c):=Fc.of (A:=λz:Sl Int=>[enc z]) (E:=λr:ai 8 Int=>[enc r]) (p:=kO) (n:=110) (b:=true) (z:=c) (ji.scalar (ji.My (by kernel_rfl) (by kernel_rfl) (λz r h=>by
 cases h;exact uF (NM (by kernel_rfl) rfl (λ_=>rfl) z))) Hy)
namespace dO
def aB (v30:Sl (Sl Int)) (v31:Int) (v32:Int) (vb4 outb8:aO) (vb28:Mo (ai 8 Int) Int):Option (Fw (Int×aO×aO×(Mo (ai 8 Int) Int)) (aO×aO×(Mo (ai 8 Int) Int)) Empty):=
 ay (decide (v32<v31))
 ((idx v30 v32).bind λx_2=>
 (kO x_2).bind λx_3=>
 some (.n (IntKind.wrap .i64 (v32+1),(⟨Sl.nil,Sl.nil,vb4.places⟩:aO),(⟨outb8.truths,outb8.cuts,⟨none⟩⟩:aO),mZ vb28 x_3 v32)))
 (some (.x ((⟨Sl.nil,Sl.nil,vb4.places⟩:aO),(⟨outb8.truths,outb8.cuts,⟨none⟩⟩:aO),vb28)))
def W1 (v30:Sl (Sl Int)) (v31 v32:Int) (vb4 outb8:aO) (vb28:Mo (ai 8 Int) Int):Option (aO×Int):=
 (aX (λq:Int×aO×aO×(Mo (ai 8 Int) Int)=>aB v30 v31 q.1 q.2.1 q.2.2.1 q.2.2.2) (v32,vb4,outb8,vb28)).bind (Fw.elim
 (λe=>some (⟨e.2.1.truths,e.2.1.cuts,⟨some e.2.2⟩⟩,0))
 (λe=>Empty.elim e))
end dO
def dO (t0:Trace) (l1:Sl Bool):Option (aO×Int):=
 (pS t0).bind λx_1=>
 ay (x_1.2==0)
 (ay ((len l1)==(len x_1.1))
 (dO.W1 x_1.1 (len x_1.1) 0 (⟨Sl.nil,Sl.nil,⟨none⟩⟩:aO) (⟨l1,x_1.1,⟨none⟩⟩:aO) [])
 (some (⟨Sl.nil,Sl.nil,⟨none⟩⟩,3)))
 (some (⟨Sl.nil,Sl.nil,⟨none⟩⟩,x_1.2))
open dO in
instance R2 (t0:Trace) (l1:Sl Bool):Fc Sy cL (dO t0 l1):=Fc.N 53 [enc t0,enc l1] (c_ 2 2 t0 (aT 7 λx_1 _=>c9 14 17 (bt 7 l1 (bt 1 x_1.1 (c9 3 24 (SZ 8 [cv l1,cv x_1.1,.mp 28] [cv l1,cv x_1.1,.mp 28] [.aG,.aG,.en] [(0,1),(1,1),(2,1)] (by simp only[AS,IU,KO,HJ,JV,GJ,jd,EZ,BC,EJ,EI];rfl) (QX 1 8 0 [cv l1,cv x_1.1,.mp 28] (by simp only[List.all_cons,Jh,Ey,Gv,DP,lB,ki,lC,jZ,Bq];rfl) (bt 6 x_1.1 (iq 5 (λqW1=>(aP [Pv 4,Pv 8,Cv 30 x_1.1,Iv 31 (len x_1.1),Iv 32 qW1.1] [Xb 4 (⟨Sl.nil,Sl.nil,qW1.2.1.places⟩:aO),(8,.box [cv qW1.2.2.1.truths,cv qW1.2.2.1.cuts,.mp 28]),(28,q9 qW1.2.2.2)])) (λeW1=>(0,(aP [Pv 4,Pv 8] [Xb 4 (⟨Sl.nil,Sl.nil,eW1.1.places⟩:aO),(8,.box [cv eW1.2.1.truths,cv eW1.2.1.cuts,.mp 28]),(28,q9 eW1.2.2)]))) (λqW1=>aK 7 33 (bh 8 λx_2 _=>jh 9 λx_3 _=>Qb 1 28 qW1.2.2.2 x_3 qW1.1 aj) aj) (λeW1=>QX 5 4 0 [cv eW1.2.1.truths,cv eW1.2.1.cuts,.mp 28] (by simp only[List.all_cons,Jh,Ey,Gv,DP,lB,ki,lC,jZ,Bq];rfl) aj))))) (PU 3 (⟨Sl.nil,Sl.nil,⟨none⟩⟩:aO) [] [.aG,.aG,.en] [] (by simp only[A5,Cn,jd,EZ,BC,EJ,EI];rfl) rfl (kN 0 4 0 (⟨Sl.nil,Sl.nil,⟨none⟩⟩:aO) aj))))) (PU 3 (⟨Sl.nil,Sl.nil,⟨none⟩⟩:aO) [] [.aG,.aG,.en] [] (by simp only[A5,Cn,jd,EZ,BC,EJ,EI];rfl) rfl (kN 1 4 0 (⟨Sl.nil,Sl.nil,⟨none⟩⟩:aO) aj))))
namespace fu
def aB (v10:Sl Int) (v11:Int) (out5:Sl Int) (v12:Int):Option (Fw ((Sl Int)×Int) (Sl Int) Empty):=
 ay (decide (v12<v11))
 ((idx v10 v12).bind λx_2=>
 (Sl.kZ out5 v12).bind λx_3=>
 (Sl.get out5 x_3).bind λx_4=>
 (Sl.kZ out5 v12).bind λx_5=>
 (Sl.put out5 x_5 ((if x_2<x_4 then x_2 else x_4):Int)).bind λx_6=>
 some (.n (x_6,IntKind.wrap .i64 (v12+1))))
 (some (.x out5))
def W1 (out5 v10:Sl Int) (v11 v12:Int):Option (Sl Int):=
 (aX (λq:(Sl Int)×Int=>aB v10 v11 q.1 q.2) (out5,v12)).bind (Fw.elim
 (λe=>some e)
 (λe=>Empty.elim e))
end fu
def fu (a0 b1:Sl Int):Option (Sl Int):=
 ((gT a0).bind Sl.whole).bind λx_1=>
 fu.W1 x_1 b1 (len b1) 0
open fu in
instance Pa (a0 b1:Sl Int):Fc Sy cL (fu a0 b1):=Fc.N 112 [enc a0,enc b1] (GY 8 9 jw a0 λx_1 _=>bt 7 b1 (iq 6 (λqW1=>(aP [Ov 5,Cv 10 b1,Iv 11 (len b1),Iv 12 qW1.2] [Lb 2005 qW1.1])) (λeW1=>(0,(aP [Ov 5] [Lb 2005 eW1]))) (λqW1=>aK 8 13 (bh 8 λx_2 _=>me .i64 10 2005 λx_3 _=>sw 0 2005 0 1 false (λx_4=>.int .i64 x_4) λx_4 _=>me .i64 2 2005 λx_5 _=>z6 0 2005 (.int .i64 (if x_2<x_4 then x_2 else x_4)) λx_6 _=>aj) aj) (λeW1=>aj)))
def jl (x0:aO) (c1:Sl Int):Option Bool:=
 (kO c1).bind λx_1=>
 (idx x0.truths (nh (lV x0.places) x_1 0)).bind λx_2=>
 some x_2
instance Hj (x0:aO) (c1:Sl Int):Fc Sy cL (jl x0 c1):=Fc.M 111 [enc x0,enc c1] (c_ 2 2 x0 (jh 10 λx_1 _=>QY 0 x0.places x_1 0 (bh 0 λx_2 _=>aj)))
def eG (x0:aO) (a1 b2:Sl Int):Option Bool:=
 (fu a1 b2).bind λx_1=>
 (jl x0 x_1).bind λx_2=>
 some x_2
instance HW (x0:aO) (a1 b2:Sl Int):Fc Sy cL (eG x0 a1 b2):=Fc.M 55 [enc x0,enc a1,enc b2] (c_ 2 3 x0 (aT 8 λx_1 _=>jh 0 λx_2 _=>aj))
namespace bV
def bn (i7:Int) (a8:Sl Int) (v12:Sl (Sl Int)) (v13 v14:Int) (v29:Sl (Sl Int)) (v30:Int) (xb2:aO) (v31:Int) (p1:((Sl Int)×(Sl Int))->Option Bool):Option (Fw Int Unit (Sl Int)):=
 ay (decide (v31<v30))
 ((idx v29 v31).bind λx_4=>
 (idx xb2.truths (IntKind.wrap .i64 ((IntKind.wrap .i64 (i7+1))+v31))).bind λx_5=>
 (ay x_5
 ((p1 (a8,x_4)).bind λx_6=>
 some (!x_6))
 (some false):Option Bool).bind λx_7=>
 ay x_7
 (some (.r x_4))
 (some (.n (IntKind.wrap .i64 (v31+1)))))
 (some (.x ()))
def W2 (i7:Int) (a8:Sl Int) (v12:Sl (Sl Int)) (v13 v14:Int) (v29:Sl (Sl Int)) (v30 v31:Int) (xb2:aO) (p1:((Sl Int)×(Sl Int))->Option Bool):Option (Fw Int Unit ((Sl Int)×(Sl Int))):=
 (aX (λq:Int=>bn i7 a8 v12 v13 v14 v29 v30 xb2 q p1) v31).bind (Fw.elim
 (λe=>some (.n (IntKind.wrap .i64 (v14+1))))
 (λe=>some (.r (a8,e))))
def aB (v12:Sl (Sl Int)) (v13:Int) (xb2:aO) (v14:Int) (p1:((Sl Int)×(Sl Int))->Option Bool):Option (Fw Int Unit ((Sl Int)×(Sl Int))):=
 ay (decide (v14<v13))
 ((idx v12 v14).bind λx_1=>
 (idx xb2.truths v14).bind λx_2=>
 ay x_2
 ((eM xb2.cuts (some (IntKind.wrap .i64 (v14+1))) none).bind λx_3=>
 W2 v14 x_1 v12 v13 v14 x_3 (len x_3) 0 xb2 p1)
 (some (.n (IntKind.wrap .i64 (v14+1)))))
 (some (.x ()))
def W1 (v12:Sl (Sl Int)) (v13 v14:Int) (xb2:aO) (p1:((Sl Int)×(Sl Int))->Option Bool):Option (Bool×(Sl Int)×(Sl Int)):=
 (aX (λq:Int=>aB v12 v13 xb2 q p1) v14).bind (Fw.elim
 (λe=>some (true,Sl.nil,Sl.nil))
 (λe=>some (false,e.1,e.2)))
end bV
def bV (x0:aO) (p1:((Sl Int)×(Sl Int))->Option Bool):Option (Bool×(Sl Int)×(Sl Int)):=
 bV.W1 x0.cuts (len x0.cuts) 0 x0 p1
open bV in
abbrev lW (g1:FuncId) (w1:V) (e1:List V) (p1:((Sl Int)×(Sl Int))->Option Bool) (h1:ql Sy cL g1 [w1] e1 (λz:(Sl Int)×(Sl Int)=>[enc z.1,enc z.2]) (λr:Bool=>[.bool r]) p1 true) (x0:aO):Fc Sy cL (bV x0 p1):=Fc.N 54 [enc x0,.clo g1 [w1] e1] (c_ 2 2 x0 (bt 10 x0.cuts (cO 5 (λqW1=>(aP [(1,.v (.clo g1 [w1] e1)),Pv 2,Cv 12 x0.cuts,Iv 13 (len x0.cuts),Iv 14 qW1] [Xb 2 x0])) (λeW1=>(0,(aP [] []))) (λeW1=>(aP [Bv 4 false,Cv 5 eW1.1,Cv 6 eW1.2] [])) (λqW1=>aK 7 15 (bh 8 λx_1 _=>bh 11 λx_2 _=>c9 4 24 (BB 9 true false [.int .i64 (IntKind.wrap .i64 (qW1+1))] λx_3 _=>bt 0 x_3 (cO 5 (λqW2=>(aP [(1,.v (.clo g1 [w1] e1)),Pv 2,Iv 7 qW1,Cv 8 x_1,Cv 12 x0.cuts,Iv 13 (len x0.cuts),Iv 14 qW1,Cv 29 x_3,Iv 30 (len x_3),Iv 31 qW2] [Xb 2 x0])) (λeW2=>(2,(aP [(1,.v (.clo g1 [w1] e1)),Pv 2,Cv 12 x0.cuts,Iv 13 (len x0.cuts),Iv 14 qW1] [Xb 2 x0]))) (λeW2=>(aP [Bv 4 false,Cv 5 x_1,Cv 6 eW2] [])) (λqW2=>aK 7 32 (bh 8 λx_4 _=>bh 13 λx_5 _=>bG 2 6 [44] 50 (aK 2 44 (yA 3 h1.f (x_1,x_4) λx_6 _=>aJ 2) (aJ 6)) λx_7=>aK 2 50 aj aj) aj) (λeW2=>aj) (λeW2=>aj))) aj) aj) (λeW1=>aj) (λeW1=>aj)))) (l:=by simp[h1.d,(by simpa using h1.dw:V.lvl 7 w1=true)])
def ku (t0:Trace) (l1:Sl Bool):Option (Bool×(Sl Int)×(Sl Int)×Int):=
 (dO t0 l1).bind λx_1=>
 ay (x_1.2==0)
 ((bV x_1.1 (λz=>eG x_1.1 z.1 z.2)).bind λx_2=>
 some (x_2.1,x_2.2.1,x_2.2.2,0))
 (some (false,Sl.nil,Sl.nil,x_1.2))
instance No (t0:Trace) (l1:Sl Bool):Fc Sy cL (ku t0 l1):=Fc.N 12 [enc t0,enc l1] (c_ 2 2 t0 (aT 10 λx_1 _=>kN 4 8 0 x_1.1 (c9 10 16 (aT (F:=lW 55 (enc x_1.1) [] (λz=>eG x_1.1 z.1 z.2) ql.wI x_1.1) 8 λx_2 _=>aj) aj)))
namespace fq
def aB (v10:Sl Int) (v11:Int) (out5:Sl Int) (v12:Int):Option (Fw ((Sl Int)×Int) (Sl Int) Empty):=
 ay (decide (v12<v11))
 ((idx v10 v12).bind λx_2=>
 (Sl.kZ out5 v12).bind λx_3=>
 (Sl.get out5 x_3).bind λx_4=>
 (Sl.kZ out5 v12).bind λx_5=>
 (Sl.put out5 x_5 ((if x_2>x_4 then x_2 else x_4):Int)).bind λx_6=>
 some (.n (x_6,IntKind.wrap .i64 (v12+1))))
 (some (.x out5))
def W1 (out5 v10:Sl Int) (v11 v12:Int):Option (Sl Int):=
 (aX (λq:(Sl Int)×Int=>aB v10 v11 q.1 q.2) (out5,v12)).bind (Fw.elim
 (λe=>some e)
 (λe=>Empty.elim e))
end fq
def fq (a0 b1:Sl Int):Option (Sl Int):=
 ((gT a0).bind Sl.whole).bind λx_1=>
 fq.W1 x_1 b1 (len b1) 0
open fq in
instance Ph (a0 b1:Sl Int):Fc Sy cL (fq a0 b1):=Fc.N 113 [enc a0,enc b1] (GY 8 9 jw a0 λx_1 _=>bt 7 b1 (iq 6 (λqW1=>(aP [Ov 5,Cv 10 b1,Iv 11 (len b1),Iv 12 qW1.2] [Lb 2005 qW1.1])) (λeW1=>(0,(aP [Ov 5] [Lb 2005 eW1]))) (λqW1=>aK 8 13 (bh 8 λx_2 _=>me .i64 10 2005 λx_3 _=>sw 0 2005 0 1 false (λx_4=>.int .i64 x_4) λx_4 _=>me .i64 2 2005 λx_5 _=>z6 0 2005 (.int .i64 (if x_2>x_4 then x_2 else x_4)) λx_6 _=>aj) aj) (λeW1=>aj)))
def eP (x0:aO) (a1 b2:Sl Int):Option Bool:=
 (fq a1 b2).bind λx_1=>
 (jl x0 x_1).bind λx_2=>
 some x_2
instance G1 (x0:aO) (a1 b2:Sl Int):Fc Sy cL (eP x0 a1 b2):=Fc.M 56 [enc x0,enc a1,enc b2] (c_ 2 3 x0 (aT 8 λx_1 _=>jh 0 λx_2 _=>aj))
def iK (t0:Trace) (l1:Sl Bool):Option (Bool×(Sl Int)×(Sl Int)×Int):=
 (dO t0 l1).bind λx_1=>
 ay (x_1.2==0)
 ((bV x_1.1 (λz=>eP x_1.1 z.1 z.2)).bind λx_2=>
 some (x_2.1,x_2.2.1,x_2.2.2,0))
 (some (false,Sl.nil,Sl.nil,x_1.2))
instance Iy (t0:Trace) (l1:Sl Bool):Fc Sy cL (iK t0 l1):=Fc.N 13 [enc t0,enc l1] (c_ 2 2 t0 (aT 10 λx_1 _=>kN 4 8 0 x_1.1 (c9 10 16 (aT (F:=lW 56 (enc x_1.1) [] (λz=>eP x_1.1 z.1 z.2) ql.wI x_1.1) 8 λx_2 _=>aj) aj)))
def iI (x0:aO) (a1 b2:Sl Int):Option Bool:=
 (eG x0 a1 b2).bind λx_1=>
 (ay x_1
 ((eP x0 a1 b2).bind λx_2=>
 some x_2)
 (some false):Option Bool).bind λx_3=>
 some x_3
instance Iw (x0:aO) (a1 b2:Sl Int):Fc Sy cL (iI x0 a1 b2):=Fc.M 57 [enc x0,enc a1,enc b2] (c_ 2 3 x0 (aT 8 λx_1 _=>bG 1 5 [1,2,3,11] 16 (aK 1 11 (aT 3 λx_2 _=>aJ 1) (aJ 5)) λx_3=>aj))
def jX (t0:Trace) (l1:Sl Bool):Option (Bool×(Sl Int)×(Sl Int)×Int):=
 (dO t0 l1).bind λx_1=>
 ay (x_1.2==0)
 ((bV x_1.1 (λz=>iI x_1.1 z.1 z.2)).bind λx_2=>
 some (x_2.1,x_2.2.1,x_2.2.2,0))
 (some (false,Sl.nil,Sl.nil,x_1.2))
instance MG (t0:Trace) (l1:Sl Bool):Fc Sy cL (jX t0 l1):=Fc.N 14 [enc t0,enc l1] (c_ 2 2 t0 (aT 10 λx_1 _=>kN 4 8 0 x_1.1 (c9 10 16 (aT (F:=lW 57 (enc x_1.1) [] (λz=>iI x_1.1 z.1 z.2) ql.wI x_1.1) 8 λx_2 _=>aj) aj)))
namespace ck
def bn (a8:Sl Int) (v15:Sl (Sl Int)) (v16 v17 v29:Int) (xb2:aO) (tb3:Trace) (least9 v30:Int):Option (Fw (Int×Int) Int Empty):=
 ay (decide (v30<v29))
 ((idx a8 v30).bind λx_3=>
 (idx tb3.procs v30).bind λx_4=>
 ay (x_3==(len x_4.events))
 (some (.n (least9,IntKind.wrap .i64 (v30+1))))
 (((gT a8).bind Sl.whole).bind λx_5=>
 (Sl.kZ x_5 v30).bind λx_6=>
 (Sl.get x_5 x_6).bind λx_7=>
 (Sl.kZ x_5 v30).bind λx_8=>
 (Sl.put x_5 x_8 (IntKind.wrap .i64 (x_7+1):Int)).bind λx_9=>
 (kO x_9).bind λx_10=>
 (ay (zW (lV xb2.places) x_10)
 ((idx xb2.truths (nh (lV xb2.places) x_10 0)).bind λx_11=>
 some (!x_11))
 (some false):Option Bool).bind λx_12=>
 (ay x_12
 ((ay (decide (least9<0))
 (some true)
 (some (decide ((nh (lV xb2.places) x_10 0)<least9))):Option Bool).bind λx_13=>
 some x_13)
 (some false):Option Bool).bind λx_14=>
 ay x_14
 (some (.n (nh (lV xb2.places) x_10 0,IntKind.wrap .i64 (v30+1))))
 (some (.n (least9,IntKind.wrap .i64 (v30+1))))))
 (some (.x least9))
def W2 (a8:Sl Int) (least9:Int) (v15:Sl (Sl Int)) (v16 v17 v29 v30:Int) (xb2:aO) (tb3:Trace):Option (Fw Int Unit ((Sl Int)×(Sl Int))):=
 (aX (λq:Int×Int=>bn a8 v15 v16 v17 v29 xb2 tb3 q.1 q.2) (least9,v30)).bind (Fw.elim
 (λe=>ay (decide (e>=0))
 ((idx xb2.cuts e).bind λx_15=>
 some (.r (a8,x_15)))
 (some (.n (IntKind.wrap .i64 (v17+1)))))
 (λe=>Empty.elim e))
def aB (v15:Sl (Sl Int)) (v16:Int) (xb2:aO) (tb3:Trace) (v17:Int):Option (Fw Int Unit ((Sl Int)×(Sl Int))):=
 ay (decide (v17<v16))
 ((idx v15 v17).bind λx_1=>
 (idx xb2.truths v17).bind λx_2=>
 ay x_2
 (W2 x_1 (-1) v15 v16 v17 (len x_1) 0 xb2 tb3)
 (some (.n (IntKind.wrap .i64 (v17+1)))))
 (some (.x ()))
def W1 (v15:Sl (Sl Int)) (v16 v17:Int) (xb2:aO) (tb3:Trace):Option (Bool×(Sl Int)×(Sl Int)):=
 (aX (λq:Int=>aB v15 v16 xb2 tb3 q) v17).bind (Fw.elim
 (λe=>some (true,Sl.nil,Sl.nil))
 (λe=>some (false,e.1,e.2)))
end ck
def ck (x0:aO) (t1:Trace):Option (Bool×(Sl Int)×(Sl Int)):=
 ck.W1 x0.cuts (len x0.cuts) 0 x0 t1
open ck in
instance Gf (x0:aO) (t1:Trace):Fc Sy cL (ck x0 t1):=Fc.N 58 [enc x0,enc t1] (c_ 2 2 x0 (c_ 0 3 t1 (bt 10 x0.cuts (cO 5 (λqW1=>(aP [Pv 2,Pv 3,Cv 15 x0.cuts,Iv 16 (len x0.cuts),Iv 17 qW1] [Xb 2 x0,Xb 3 t1])) (λeW1=>(0,(aP [] []))) (λeW1=>(aP [Bv 4 false,Cv 5 eW1.1,Cv 6 eW1.2] [])) (λqW1=>aK 7 18 (bh 8 λx_1 _=>bh 11 λx_2 _=>c9 4 27 (bt 12 x_1 (iq 5 (λqW2=>(aP [Pv 2,Pv 3,Cv 8 x_1,Iv 9 qW2.1,Cv 15 x0.cuts,Iv 16 (len x0.cuts),Iv 17 qW1,Iv 29 (len x_1),Iv 30 qW2.2] [Xb 2 x0,Xb 3 t1])) (λeW2=>(2,(aP [Pv 2,Pv 3,Cv 8 x_1,Iv 9 eW2,Cv 15 x0.cuts,Iv 16 (len x0.cuts),Iv 17 qW1] [Xb 2 x0,Xb 3 t1]))) (λqW2=>aK 7 31 (bh 16 λx_3 _=>bh 4 λx_4 _=>bt 2 x_4.events (aK 3 44 aj (GY 6 46 jw x_1 λx_5 _=>me .i64 7 46 λx_6 _=>sw 0 46 0 1 false (λx_7=>.int .i64 x_7) λx_7 _=>me .i64 1 46 λx_8 _=>z6 0 46 (.int .i64 (IntKind.wrap .i64 (x_7+1))) λx_9 _=>jh 7 λx_10 _=>Oz 0 x0.places x_10 0 (bG 11 7 [62] 69 (aK 11 62 (bh 3 λx_11 _=>aJ 3) (aJ 7)) λx_12=>bG 1 8 [70] 78 (aK 1 70 (bG 3 4 [73] 77 (aK 3 73 (aJ 4) (aJ 4)) λx_13=>aJ 1) (aJ 8)) λx_14=>aK 2 78 aj aj)))) aj) (λeW2=>aK 8 82 (bh 7 λx_15 _=>aj) aj))) aj) aj) (λeW1=>aj) (λeW1=>aj)))))
def kz (t0:Trace) (l1:Sl Bool):Option (Bool×(Sl Int)×(Sl Int)×Int):=
 (dO t0 l1).bind λx_1=>
 ay (x_1.2==0)
 ((ck x_1.1 t0).bind λx_2=>
 some (x_2.1,x_2.2.1,x_2.2.2,0))
 (some (false,Sl.nil,Sl.nil,x_1.2))
instance NA (t0:Trace) (l1:Sl Bool):Fc Sy cL (kz t0 l1):=Fc.N 15 [enc t0,enc l1] (c_ 2 2 t0 (aT 10 λx_1 _=>kN 4 8 0 x_1.1 (c9 10 16 (aT 7 λx_2 _=>aj) aj)))
def jM (t0:Trace) (n1:Int):Option ((Sl (Sl Int))×Int):=
 (kj t0).bind λx_1=>
 ay x_1
 ((cQ t0).bind λx_2=>
 ay x_2.2
 (ay ((len x_2.1)==n1)
 (some (x_2.1,0))
 (some (Sl.nil,3)))
 (some (Sl.nil,16)))
 (some (Sl.nil,1))
instance Pr (t0:Trace) (n1:Int):Fc Sy cL (jM t0 n1):=Fc.N 16 [enc t0,.int .i64 n1] (c_ 2 2 t0 (aT 8 λx_1 _=>c9 3 10 (aT 6 λx_2 _=>c9 14 17 (bt 7 x_2.1 (c9 4 21 aj aj)) aj) aj))
def dy (x0:aa) (fault1:Int) (a2 b3:Sl Int) (found4:Bool):Option Bool:=
 ay (fault1==0)
 ((ay (x0.e==0)
 (some (x0.holds==(!found4)))
 (some false):Option Bool).bind λx_1=>
 (ay x_1
 ((dc x0.a a2).bind λx_2=>
 some x_2)
 (some false):Option Bool).bind λx_3=>
 (ay x_3
 ((dc x0.b b3).bind λx_4=>
 some x_4)
 (some false):Option Bool).bind λx_5=>
 some x_5)
 ((ay (x0.e==fault1)
 (some (!x0.holds))
 (some false):Option Bool).bind λx_6=>
 (ay x_6
 (some ((len x0.a)==0))
 (some false):Option Bool).bind λx_7=>
 (ay x_7
 (some ((len x0.b)==0))
 (some false):Option Bool).bind λx_8=>
 some x_8)
instance KF (x0:aa) (fault1:Int) (a2 b3:Sl Int) (found4:Bool):Fc Sy cL (dy x0 fault1 a2 b3 found4):=Fc.M 17 [enc x0,.int .i64 fault1,enc a2,enc b3,.bool found4] (c_ 2 5 x0 (c9 10 12 (bG 9 6 [4,37] 43 (aK 9 37 (aJ 6) (aJ 6)) λx_1=>bG 1 5 [2,44] 49 (aK 1 44 (aT 3 λx_2 _=>aJ 1) (aJ 5)) λx_3=>bG 1 5 [3,5,50] 55 (aK 1 50 (aT 3 λx_4 _=>aJ 1) (aJ 5)) λx_5=>aj) (bG 8 4 [17] 21 (aK 8 17 (aJ 4) (aJ 4)) λx_6=>bG 1 5 [22] 27 (aK 1 22 (bt 2 x0.a (aJ 2)) (aJ 5)) λx_7=>bG 1 5 [5,28] 33 (aK 1 28 (bt 2 x0.b (aJ 2)) (aJ 5)) λx_8=>aj)))
namespace jQ
def aB (a0 b1:Sl Int) (out5:Sl Int) (i6:Int):Option (Fw ((Sl Int)×Int) (Sl Int) Empty):=
 ay (decide (i6<(len a0)))
 ((idx a0 i6).bind λx_1=>
 (idx b1 i6).bind λx_2=>
 (ig out5 ((if x_2<x_1 then x_2 else x_1):Int)).bind λx_3=>
 some (.n (x_3,IntKind.wrap .i64 (i6+1))))
 (some (.x out5))
def W1 (a0 b1 out5:Sl Int) (i6:Int):Option (Sl Int):=
 (aX (λq:(Sl Int)×Int=>aB a0 b1 q.1 q.2) (out5,i6)).bind (Fw.elim
 (λe=>some e)
 (λe=>Empty.elim e))
end jQ
def jQ (a0 b1:Sl Int):Option (Sl Int):=
 jQ.W1 a0 b1 (Sl.nil:Sl Int) 0
open jQ in
instance Pp (a0 b1:Sl Int):Fc Sy cL (jQ a0 b1):=Fc.N 60 [enc a0,enc b1] (iq 19 (λqW1=>(aP [Cv 0 a0,Cv 1 b1,Ov 5,Iv 6 qW1.2] [Lb 2005 qW1.1])) (λeW1=>(0,(aP [Ov 5] [Lb 2005 eW1]))) (λqW1=>bt 7 a0 (aK 3 10 (bh 9 λx_1 _=>bh 3 λx_2 _=>qh 3 2005 23 24 λx_3 _=>aj) aj)) (λeW1=>aj))
namespace fW
def aB (l0:Sl (Sl Int)) (c1:Sl Int) (i5:Int):Option (Fw Int Unit Int):=
 ay (decide (i5<(len l0)))
 ((idx l0 i5).bind λx_1=>
 (c6 x_1 c1).bind λx_2=>
 ay x_2
 (some (.r i5))
 (some (.n (IntKind.wrap .i64 (i5+1)))))
 (some (.x ()))
def W1 (l0:Sl (Sl Int)) (c1:Sl Int) (i5:Int):Option Int:=
 (aX (λq:Int=>aB l0 c1 q) i5).bind (Fw.elim
 (λe=>some (-1))
 (λe=>some e))
end fW
def fW (l0:Sl (Sl Int)) (c1:Sl Int):Option Int:=
 fW.W1 l0 c1 0
open fW in
instance Pu (l0:Sl (Sl Int)) (c1:Sl Int):Fc Sy cL (fW l0 c1):=Fc.M 59 [enc l0,enc c1] (cO 13 (λqW1=>(aP [Cv 0 l0,Cv 1 c1,Iv 5 qW1] [])) (λeW1=>(0,(aP [] []))) (λeW1=>(aP [Iv 4 eW1] [])) (λqW1=>bt 6 l0 (aK 3 9 (bh 9 λx_1 _=>aT 2 λx_2 _=>aK 2 17 aj aj) aj)) (λeW1=>aj) (λeW1=>aj))
namespace iZ
def aB (a0 b1:Sl Int) (out5:Sl Int) (i6:Int):Option (Fw ((Sl Int)×Int) (Sl Int) Empty):=
 ay (decide (i6<(len a0)))
 ((idx a0 i6).bind λx_1=>
 (idx b1 i6).bind λx_2=>
 (ig out5 ((if x_2>x_1 then x_2 else x_1):Int)).bind λx_3=>
 some (.n (x_3,IntKind.wrap .i64 (i6+1))))
 (some (.x out5))
def W1 (a0 b1 out5:Sl Int) (i6:Int):Option (Sl Int):=
 (aX (λq:(Sl Int)×Int=>aB a0 b1 q.1 q.2) (out5,i6)).bind (Fw.elim
 (λe=>some e)
 (λe=>Empty.elim e))
end iZ
def iZ (a0 b1:Sl Int):Option (Sl Int):=
 iZ.W1 a0 b1 (Sl.nil:Sl Int) 0
open iZ in
instance Pm (a0 b1:Sl Int):Fc Sy cL (iZ a0 b1):=Fc.N 61 [enc a0,enc b1] (iq 19 (λqW1=>(aP [Cv 0 a0,Cv 1 b1,Ov 5,Iv 6 qW1.2] [Lb 2005 qW1.1])) (λeW1=>(0,(aP [Ov 5] [Lb 2005 eW1]))) (λqW1=>bt 7 a0 (aK 3 10 (bh 9 λx_1 _=>bh 3 λx_2 _=>qh 3 2005 23 24 λx_3 _=>aj) aj)) (λeW1=>aj))
namespace cI
def bn (list0:Sl (Sl Int)) (l1:Sl Bool) (down2 up3:Bool) (i11:Int) (wE:Int):Option (Fw Int Unit ((Sl Int)×(Sl Int))):=
 ay (decide (wE<(len l1)))
 ((idx l1 i11).bind λx_1=>
 (ay x_1
 ((idx l1 wE).bind λx_2=>
 some (!x_2))
 (some true):Option Bool).bind λx_3=>
 ay x_3
 (some (.n (IntKind.wrap .i64 (wE+1))))
 ((ay down2
 ((idx list0 i11).bind λx_4=>
 (idx list0 wE).bind λx_5=>
 (jQ x_4 x_5).bind λx_6=>
 (fW list0 x_6).bind λx_7=>
 (idx l1 x_7).bind λx_8=>
 some (!x_8))
 (some false):Option Bool).bind λx_9=>
 (ay x_9
 (some true)
 ((ay up3
 ((idx list0 i11).bind λx_10=>
 (idx list0 wE).bind λx_11=>
 (iZ x_10 x_11).bind λx_12=>
 (fW list0 x_12).bind λx_13=>
 (idx l1 x_13).bind λx_14=>
 some (!x_14))
 (some false):Option Bool).bind λx_15=>
 some x_15):Option Bool).bind λx_16=>
 ay x_16
 ((idx list0 i11).bind λx_17=>
 (idx list0 wE).bind λx_18=>
 some (.r (x_17,x_18)))
 (some (.n (IntKind.wrap .i64 (wE+1))))))
 (some (.x ()))
def W2 (list0:Sl (Sl Int)) (l1:Sl Bool) (down2 up3:Bool) (i11 wE:Int):Option (Fw Int Unit ((Sl Int)×(Sl Int))):=
 (aX (λq:Int=>bn list0 l1 down2 up3 i11 q) wE).bind (Fw.elim
 (λe=>some (.n (IntKind.wrap .i64 (i11+1))))
 (λe=>some (.r (e.1,e.2))))
def aB (list0:Sl (Sl Int)) (l1:Sl Bool) (down2 up3:Bool) (i11:Int):Option (Fw Int Unit ((Sl Int)×(Sl Int))):=
 ay (decide (i11<(len l1)))
 (W2 list0 l1 down2 up3 i11 (IntKind.wrap .i64 (i11+1)))
 (some (.x ()))
def W1 (list0:Sl (Sl Int)) (l1:Sl Bool) (down2 up3:Bool) (i11:Int):Option ((Sl Int)×(Sl Int)×Bool):=
 (aX (λq:Int=>aB list0 l1 down2 up3 q) i11).bind (Fw.elim
 (λe=>some (Sl.nil,Sl.nil,false))
 (λe=>some (e.1,e.2,true)))
end cI
def cI (list0:Sl (Sl Int)) (l1:Sl Bool) (down2 up3:Bool):Option ((Sl Int)×(Sl Int)×Bool):=
 cI.W1 list0 l1 down2 up3 0
open cI in
instance Nz (list0:Sl (Sl Int)) (l1:Sl Bool) (down2 up3:Bool):Fc Sy cL (cI list0 l1 down2 up3):=Fc.N 18 [enc list0,enc l1,.bool down2,.bool up3] (cO 15 (λqW1=>(aP [Cv 0 list0,Cv 1 l1,Bv 2 down2,Bv 3 up3,Iv 11 qW1] [])) (λeW1=>(0,(aP [] []))) (λeW1=>(aP [Cv 8 eW1.1,Cv 9 eW1.2,Bv 10 true] [])) (λqW1=>bt 6 l1 (aK 3 16 (cO 14 (λqW2=>(aP [Cv 0 list0,Cv 1 l1,Bv 2 down2,Bv 3 up3,Iv 11 qW1,Iv 12 qW2] [])) (λeW2=>(2,(aP [Cv 0 list0,Cv 1 l1,Bv 2 down2,Bv 3 up3,Iv 11 qW1] []))) (λeW2=>(aP [Cv 8 eW2.1,Cv 9 eW2.2,Bv 10 true] [])) (λqW2=>bt 6 l1 (aK 3 24 (bh 10 λx_1 _=>bG 3 6 [32] 38 (c9 3 32 (bh 2 λx_2 _=>aJ 3) (aJ 6)) λx_3=>aK 2 38 aj (vS 7 16 [52,51] (λx_9=>(aP [Cv 0 list0,Cv 1 l1,Bv 2 down2,Bv 3 up3,Iv 11 qW1,Iv 12 qW2,Bv 24 true,Bv 38 false,Bv 56 x_9] [])) (aK 7 40 (bh 4 λx_4 _=>bh 3 λx_5 _=>aT 1 λx_6 _=>jh 0 λx_7 _=>bh 0 λx_8 _=>aJ 3) (aJ 16)) λx_9=>vS 1 19 [71,70,52,51] (λx_16=>(aP [Cv 0 list0,Cv 1 l1,Bv 2 down2,Bv 3 up3,Iv 11 qW1,Iv 12 qW2,Bv 24 true,Bv 38 false,Bv 76 x_16] [])) (aK 1 57 (aJ 19) (vS 2 16 [71,70,52,51] (λx_15=>(aP [Cv 0 list0,Cv 1 l1,Bv 2 down2,Bv 3 up3,Iv 11 qW1,Iv 12 qW2,Bv 24 true,Bv 38 false,Bv 57 false,Bv 75 x_15] [])) (aK 2 59 (bh 4 λx_10 _=>bh 3 λx_11 _=>aT 1 λx_12 _=>jh 0 λx_13 _=>bh 0 λx_14 _=>aJ 3) (aJ 16)) λx_15=>aJ 1)) λx_16=>aK 2 76 (bh 5 λx_17 _=>bh 3 λx_18 _=>aj) aj)) aj)) (λeW2=>aj) (λeW2=>aj)) aj)) (λeW1=>aj) (λeW1=>aj))
namespace dB
def bn (list0:Sl (Sl Int)) (l1:Sl Bool) (i7:Int) (k8:Int):Option (Fw Int Unit ((Sl Int)×(Sl Int))):=
 ay (decide (k8<(len l1)))
 ((idx l1 i7).bind λx_1=>
 (ay x_1
 ((idx l1 k8).bind λx_2=>
 some (!x_2))
 (some false):Option Bool).bind λx_3=>
 (ay x_3
 ((idx list0 k8).bind λx_4=>
 (dQ x_4).bind λx_5=>
 (idx list0 i7).bind λx_6=>
 (dQ x_6).bind λx_7=>
 some (x_5==(IntKind.wrap .i64 (x_7+1))))
 (some false):Option Bool).bind λx_8=>
 (ay x_8
 ((idx list0 k8).bind λx_9=>
 (idx list0 i7).bind λx_10=>
 (idx list0 k8).bind λx_11=>
 (iZ x_10 x_11).bind λx_12=>
 (fW (Sl.row [x_9]:Sl (Sl Int)) x_12).bind λx_13=>
 some (x_13==0))
 (some false):Option Bool).bind λx_14=>
 ay x_14
 ((idx list0 i7).bind λx_15=>
 (idx list0 k8).bind λx_16=>
 some (.r (x_15,x_16)))
 (some (.n (IntKind.wrap .i64 (k8+1)))))
 (some (.x ()))
def W2 (list0:Sl (Sl Int)) (l1:Sl Bool) (i7 k8:Int):Option (Fw Int Unit ((Sl Int)×(Sl Int))):=
 (aX (λq:Int=>bn list0 l1 i7 q) k8).bind (Fw.elim
 (λe=>some (.n (IntKind.wrap .i64 (i7+1))))
 (λe=>some (.r (e.1,e.2))))
def aB (list0:Sl (Sl Int)) (l1:Sl Bool) (i7:Int):Option (Fw Int Unit ((Sl Int)×(Sl Int))):=
 ay (decide (i7<(len l1)))
 (W2 list0 l1 i7 0)
 (some (.x ()))
def W1 (list0:Sl (Sl Int)) (l1:Sl Bool) (i7:Int):Option ((Sl Int)×(Sl Int)×Bool):=
 (aX (λq:Int=>aB list0 l1 q) i7).bind (Fw.elim
 (λe=>some (Sl.nil,Sl.nil,false))
 (λe=>some (e.1,e.2,true)))
end dB
def dB (list0:Sl (Sl Int)) (l1:Sl Bool):Option ((Sl Int)×(Sl Int)×Bool):=
 dB.W1 list0 l1 0
open dB in
instance MP (list0:Sl (Sl Int)) (l1:Sl Bool):Fc Sy cL (dB list0 l1):=Fc.N 19 [enc list0,enc l1] (cO 15 (λqW1=>(aP [Cv 0 list0,Cv 1 l1,Iv 7 qW1] [])) (λeW1=>(0,(aP [] []))) (λeW1=>(aP [Cv 4 eW1.1,Cv 5 eW1.2,Bv 6 true] [])) (λqW1=>bt 6 l1 (aK 3 12 (cO 12 (λqW2=>(aP [Cv 0 list0,Cv 1 l1,Iv 7 qW1,Iv 8 qW2] [])) (λeW2=>(2,(aP [Cv 0 list0,Cv 1 l1,Iv 7 qW1] []))) (λeW2=>(aP [Cv 4 eW2.1,Cv 5 eW2.2,Bv 6 true] [])) (λqW2=>bt 6 l1 (aK 3 18 (bh 9 λx_1 _=>bG 2 6 [25] 31 (aK 2 25 (bh 2 λx_2 _=>aJ 3) (aJ 6)) λx_3=>vS 1 13 [42,37] (λx_8=>(aP [Cv 0 list0,Cv 1 l1,Iv 7 qW1,Iv 8 qW2,Bv 18 true,Bv 45 x_8] [])) (aK 1 32 (bh 2 λx_4 _=>jh 1 λx_5 _=>bh 2 λx_6 _=>jh 1 λx_7 _=>aJ 3) (aJ 13)) λx_8=>vS 1 17 [61,60,51,42,37] (λx_14=>(aP [Cv 0 list0,Cv 1 l1,Iv 7 qW1,Iv 8 qW2,Bv 18 true,Bv 63 x_14] [])) (aK 1 46 (bh 2 λx_9 _=>AT 1 51 ([x_9]:List (Sl Int)) (bh 2 λx_10 _=>bh 3 λx_11 _=>aT 1 λx_12 _=>jh 0 λx_13 _=>aJ 3)) (aJ 18)) λx_14=>aK 2 63 (bh 5 λx_15 _=>bh 3 λx_16 _=>aj) aj) aj)) (λeW2=>aj) (λeW2=>aj)) aj)) (λeW1=>aj) (λeW1=>aj))
namespace a_
def aB (e7:Int) (v107:ai 4 aa) (v108:Int):Option (Fw Int Unit Unit):=
 ay (decide (v108<4))
 ((ai.at v107 v108).bind λx_29=>
 (dy x_29 e7 (Sl.nil:Sl Int) (Sl.nil:Sl Int) false).bind λx_30=>
 ay x_30
 (some (.n (IntKind.wrap .i64 (v108+1))))
 (some (.r ())))
 (some (.x ()))
def W1 (e7:Int) (v107:ai 4 aa) (v108:Int):Option Bool:=
 (aX (λq:Int=>aB e7 v107 q) v108).bind (Fw.elim
 (λe=>some true)
 (λe=>some false))
def J3 (l1:Sl Bool) (list6:Sl (Sl Int)) (a12 b13:Sl Int) (found14:Bool) (v116:ai 4 aa) (v117:Int) (yb11:aa):Option (Fw Int Unit Unit):=
 (dy yb11 0 a12 b13 found14).bind λx_34=>
 ay x_34
 (some (.n (IntKind.wrap .i64 (v117+1))))
 (some (.r ()))
def bn (l1:Sl Bool) (list6:Sl (Sl Int)) (v116:ai 4 aa) (v117:Int):Option (Fw Int Unit Unit):=
 ay (decide (v117<4))
 ((ai.at v116 v117).bind λx_31=>
 ay (decide (v117<3))
 ((cI list6 l1 (!(v117==1)) (!(v117==0))).bind λx_32=>
 J3 l1 list6 x_32.1 x_32.2.1 x_32.2.2 v116 v117 x_31)
 ((dB list6 l1).bind λx_33=>
 J3 l1 list6 x_33.1 x_33.2.1 x_33.2.2 v116 v117 x_31))
 (some (.x ()))
def W2 (l1:Sl Bool) (list6:Sl (Sl Int)) (v116:ai 4 aa) (v117:Int):Option Bool:=
 (aX (λq:Int=>bn l1 list6 v116 q) v117).bind (Fw.elim
 (λe=>some true)
 (λe=>some false))
end a_
def a_ (t0:Trace) (l1:Sl Bool):Option Bool:=
 (tu).bind λx_1=>
 ay x_1
 ((ga t0).bind λx_2=>
 (ay x_2
 (some (decide ((len l1)>6000)))
 (some true):Option Bool).bind λx_3=>
 (ay x_3
 (some true)
 ((kj t0).bind λx_4=>
 (ay x_4
 ((jR t0).bind λx_5=>
 some (!x_5))
 (some false):Option Bool).bind λx_6=>
 some x_6):Option Bool).bind λx_7=>
 ay x_7
 (some true)
 ((ku t0 l1).bind λx_8=>
 (ai.at (ai.gw 4 (⟨false,Sl.nil,Sl.nil,0⟩:aa)) 0).bind λx_9=>
 (ai.at (ai.set (ai.gw 4 (⟨false,Sl.nil,Sl.nil,0⟩:aa)) 0 (⟨x_8.1,x_9.a,x_9.b,x_9.e⟩:aa)) 0).bind λx_10=>
 (ai.at (ai.set (ai.set (ai.gw 4 (⟨false,Sl.nil,Sl.nil,0⟩:aa)) 0 (⟨x_8.1,x_9.a,x_9.b,x_9.e⟩:aa)) 0 (⟨x_10.holds,x_8.2.1,x_10.b,x_10.e⟩:aa)) 0).bind λx_11=>
 (ai.at (ai.set (ai.set (ai.set (ai.gw 4 (⟨false,Sl.nil,Sl.nil,0⟩:aa)) 0 (⟨x_8.1,x_9.a,x_9.b,x_9.e⟩:aa)) 0 (⟨x_10.holds,x_8.2.1,x_10.b,x_10.e⟩:aa)) 0 (⟨x_11.holds,x_11.a,x_8.2.2.1,x_11.e⟩:aa)) 0).bind λx_12=>
 (iK t0 l1).bind λx_13=>
 (ai.at (ai.set (ai.set (ai.set (ai.set (ai.gw 4 (⟨false,Sl.nil,Sl.nil,0⟩:aa)) 0 (⟨x_8.1,x_9.a,x_9.b,x_9.e⟩:aa)) 0 (⟨x_10.holds,x_8.2.1,x_10.b,x_10.e⟩:aa)) 0 (⟨x_11.holds,x_11.a,x_8.2.2.1,x_11.e⟩:aa)) 0 (⟨x_12.holds,x_12.a,x_12.b,x_8.2.2.2⟩:aa)) 1).bind λx_14=>
 (ai.at (ai.set (ai.set (ai.set (ai.set (ai.set (ai.gw 4 (⟨false,Sl.nil,Sl.nil,0⟩:aa)) 0 (⟨x_8.1,x_9.a,x_9.b,x_9.e⟩:aa)) 0 (⟨x_10.holds,x_8.2.1,x_10.b,x_10.e⟩:aa)) 0 (⟨x_11.holds,x_11.a,x_8.2.2.1,x_11.e⟩:aa)) 0 (⟨x_12.holds,x_12.a,x_12.b,x_8.2.2.2⟩:aa)) 1 (⟨x_13.1,x_14.a,x_14.b,x_14.e⟩:aa)) 1).bind λx_15=>
 (ai.at (ai.set (ai.set (ai.set (ai.set (ai.set (ai.set (ai.gw 4 (⟨false,Sl.nil,Sl.nil,0⟩:aa)) 0 (⟨x_8.1,x_9.a,x_9.b,x_9.e⟩:aa)) 0 (⟨x_10.holds,x_8.2.1,x_10.b,x_10.e⟩:aa)) 0 (⟨x_11.holds,x_11.a,x_8.2.2.1,x_11.e⟩:aa)) 0 (⟨x_12.holds,x_12.a,x_12.b,x_8.2.2.2⟩:aa)) 1 (⟨x_13.1,x_14.a,x_14.b,x_14.e⟩:aa)) 1 (⟨x_15.holds,x_13.2.1,x_15.b,x_15.e⟩:aa)) 1).bind λx_16=>
 (ai.at (ai.set (ai.set (ai.set (ai.set (ai.set (ai.set (ai.set (ai.gw 4 (⟨false,Sl.nil,Sl.nil,0⟩:aa)) 0 (⟨x_8.1,x_9.a,x_9.b,x_9.e⟩:aa)) 0 (⟨x_10.holds,x_8.2.1,x_10.b,x_10.e⟩:aa)) 0 (⟨x_11.holds,x_11.a,x_8.2.2.1,x_11.e⟩:aa)) 0 (⟨x_12.holds,x_12.a,x_12.b,x_8.2.2.2⟩:aa)) 1 (⟨x_13.1,x_14.a,x_14.b,x_14.e⟩:aa)) 1 (⟨x_15.holds,x_13.2.1,x_15.b,x_15.e⟩:aa)) 1 (⟨x_16.holds,x_16.a,x_13.2.2.1,x_16.e⟩:aa)) 1).bind λx_17=>
 (jX t0 l1).bind λx_18=>
 (ai.at (ai.set (ai.set (ai.set (ai.set (ai.set (ai.set (ai.set (ai.set (ai.gw 4 (⟨false,Sl.nil,Sl.nil,0⟩:aa)) 0 (⟨x_8.1,x_9.a,x_9.b,x_9.e⟩:aa)) 0 (⟨x_10.holds,x_8.2.1,x_10.b,x_10.e⟩:aa)) 0 (⟨x_11.holds,x_11.a,x_8.2.2.1,x_11.e⟩:aa)) 0 (⟨x_12.holds,x_12.a,x_12.b,x_8.2.2.2⟩:aa)) 1 (⟨x_13.1,x_14.a,x_14.b,x_14.e⟩:aa)) 1 (⟨x_15.holds,x_13.2.1,x_15.b,x_15.e⟩:aa)) 1 (⟨x_16.holds,x_16.a,x_13.2.2.1,x_16.e⟩:aa)) 1 (⟨x_17.holds,x_17.a,x_17.b,x_13.2.2.2⟩:aa)) 2).bind λx_19=>
 (ai.at (ai.set (ai.set (ai.set (ai.set (ai.set (ai.set (ai.set (ai.set (ai.set (ai.gw 4 (⟨false,Sl.nil,Sl.nil,0⟩:aa)) 0 (⟨x_8.1,x_9.a,x_9.b,x_9.e⟩:aa)) 0 (⟨x_10.holds,x_8.2.1,x_10.b,x_10.e⟩:aa)) 0 (⟨x_11.holds,x_11.a,x_8.2.2.1,x_11.e⟩:aa)) 0 (⟨x_12.holds,x_12.a,x_12.b,x_8.2.2.2⟩:aa)) 1 (⟨x_13.1,x_14.a,x_14.b,x_14.e⟩:aa)) 1 (⟨x_15.holds,x_13.2.1,x_15.b,x_15.e⟩:aa)) 1 (⟨x_16.holds,x_16.a,x_13.2.2.1,x_16.e⟩:aa)) 1 (⟨x_17.holds,x_17.a,x_17.b,x_13.2.2.2⟩:aa)) 2 (⟨x_18.1,x_19.a,x_19.b,x_19.e⟩:aa)) 2).bind λx_20=>
 (ai.at (ai.set (ai.set (ai.set (ai.set (ai.set (ai.set (ai.set (ai.set (ai.set (ai.set (ai.gw 4 (⟨false,Sl.nil,Sl.nil,0⟩:aa)) 0 (⟨x_8.1,x_9.a,x_9.b,x_9.e⟩:aa)) 0 (⟨x_10.holds,x_8.2.1,x_10.b,x_10.e⟩:aa)) 0 (⟨x_11.holds,x_11.a,x_8.2.2.1,x_11.e⟩:aa)) 0 (⟨x_12.holds,x_12.a,x_12.b,x_8.2.2.2⟩:aa)) 1 (⟨x_13.1,x_14.a,x_14.b,x_14.e⟩:aa)) 1 (⟨x_15.holds,x_13.2.1,x_15.b,x_15.e⟩:aa)) 1 (⟨x_16.holds,x_16.a,x_13.2.2.1,x_16.e⟩:aa)) 1 (⟨x_17.holds,x_17.a,x_17.b,x_13.2.2.2⟩:aa)) 2 (⟨x_18.1,x_19.a,x_19.b,x_19.e⟩:aa)) 2 (⟨x_20.holds,x_18.2.1,x_20.b,x_20.e⟩:aa)) 2).bind λx_21=>
 (ai.at (ai.set (ai.set (ai.set (ai.set (ai.set (ai.set (ai.set (ai.set (ai.set (ai.set (ai.set (ai.gw 4 (⟨false,Sl.nil,Sl.nil,0⟩:aa)) 0 (⟨x_8.1,x_9.a,x_9.b,x_9.e⟩:aa)) 0 (⟨x_10.holds,x_8.2.1,x_10.b,x_10.e⟩:aa)) 0 (⟨x_11.holds,x_11.a,x_8.2.2.1,x_11.e⟩:aa)) 0 (⟨x_12.holds,x_12.a,x_12.b,x_8.2.2.2⟩:aa)) 1 (⟨x_13.1,x_14.a,x_14.b,x_14.e⟩:aa)) 1 (⟨x_15.holds,x_13.2.1,x_15.b,x_15.e⟩:aa)) 1 (⟨x_16.holds,x_16.a,x_13.2.2.1,x_16.e⟩:aa)) 1 (⟨x_17.holds,x_17.a,x_17.b,x_13.2.2.2⟩:aa)) 2 (⟨x_18.1,x_19.a,x_19.b,x_19.e⟩:aa)) 2 (⟨x_20.holds,x_18.2.1,x_20.b,x_20.e⟩:aa)) 2 (⟨x_21.holds,x_21.a,x_18.2.2.1,x_21.e⟩:aa)) 2).bind λx_22=>
 (kz t0 l1).bind λx_23=>
 (ai.at (ai.set (ai.set (ai.set (ai.set (ai.set (ai.set (ai.set (ai.set (ai.set (ai.set (ai.set (ai.set (ai.gw 4 (⟨false,Sl.nil,Sl.nil,0⟩:aa)) 0 (⟨x_8.1,x_9.a,x_9.b,x_9.e⟩:aa)) 0 (⟨x_10.holds,x_8.2.1,x_10.b,x_10.e⟩:aa)) 0 (⟨x_11.holds,x_11.a,x_8.2.2.1,x_11.e⟩:aa)) 0 (⟨x_12.holds,x_12.a,x_12.b,x_8.2.2.2⟩:aa)) 1 (⟨x_13.1,x_14.a,x_14.b,x_14.e⟩:aa)) 1 (⟨x_15.holds,x_13.2.1,x_15.b,x_15.e⟩:aa)) 1 (⟨x_16.holds,x_16.a,x_13.2.2.1,x_16.e⟩:aa)) 1 (⟨x_17.holds,x_17.a,x_17.b,x_13.2.2.2⟩:aa)) 2 (⟨x_18.1,x_19.a,x_19.b,x_19.e⟩:aa)) 2 (⟨x_20.holds,x_18.2.1,x_20.b,x_20.e⟩:aa)) 2 (⟨x_21.holds,x_21.a,x_18.2.2.1,x_21.e⟩:aa)) 2 (⟨x_22.holds,x_22.a,x_22.b,x_18.2.2.2⟩:aa)) 3).bind λx_24=>
 (ai.at (ai.set (ai.set (ai.set (ai.set (ai.set (ai.set (ai.set (ai.set (ai.set (ai.set (ai.set (ai.set (ai.set (ai.gw 4 (⟨false,Sl.nil,Sl.nil,0⟩:aa)) 0 (⟨x_8.1,x_9.a,x_9.b,x_9.e⟩:aa)) 0 (⟨x_10.holds,x_8.2.1,x_10.b,x_10.e⟩:aa)) 0 (⟨x_11.holds,x_11.a,x_8.2.2.1,x_11.e⟩:aa)) 0 (⟨x_12.holds,x_12.a,x_12.b,x_8.2.2.2⟩:aa)) 1 (⟨x_13.1,x_14.a,x_14.b,x_14.e⟩:aa)) 1 (⟨x_15.holds,x_13.2.1,x_15.b,x_15.e⟩:aa)) 1 (⟨x_16.holds,x_16.a,x_13.2.2.1,x_16.e⟩:aa)) 1 (⟨x_17.holds,x_17.a,x_17.b,x_13.2.2.2⟩:aa)) 2 (⟨x_18.1,x_19.a,x_19.b,x_19.e⟩:aa)) 2 (⟨x_20.holds,x_18.2.1,x_20.b,x_20.e⟩:aa)) 2 (⟨x_21.holds,x_21.a,x_18.2.2.1,x_21.e⟩:aa)) 2 (⟨x_22.holds,x_22.a,x_22.b,x_18.2.2.2⟩:aa)) 3 (⟨x_23.1,x_24.a,x_24.b,x_24.e⟩:aa)) 3).bind λx_25=>
 (ai.at (ai.set (ai.set (ai.set (ai.set (ai.set (ai.set (ai.set (ai.set (ai.set (ai.set (ai.set (ai.set (ai.set (ai.set (ai.gw 4 (⟨false,Sl.nil,Sl.nil,0⟩:aa)) 0 (⟨x_8.1,x_9.a,x_9.b,x_9.e⟩:aa)) 0 (⟨x_10.holds,x_8.2.1,x_10.b,x_10.e⟩:aa)) 0 (⟨x_11.holds,x_11.a,x_8.2.2.1,x_11.e⟩:aa)) 0 (⟨x_12.holds,x_12.a,x_12.b,x_8.2.2.2⟩:aa)) 1 (⟨x_13.1,x_14.a,x_14.b,x_14.e⟩:aa)) 1 (⟨x_15.holds,x_13.2.1,x_15.b,x_15.e⟩:aa)) 1 (⟨x_16.holds,x_16.a,x_13.2.2.1,x_16.e⟩:aa)) 1 (⟨x_17.holds,x_17.a,x_17.b,x_13.2.2.2⟩:aa)) 2 (⟨x_18.1,x_19.a,x_19.b,x_19.e⟩:aa)) 2 (⟨x_20.holds,x_18.2.1,x_20.b,x_20.e⟩:aa)) 2 (⟨x_21.holds,x_21.a,x_18.2.2.1,x_21.e⟩:aa)) 2 (⟨x_22.holds,x_22.a,x_22.b,x_18.2.2.2⟩:aa)) 3 (⟨x_23.1,x_24.a,x_24.b,x_24.e⟩:aa)) 3 (⟨x_25.holds,x_23.2.1,x_25.b,x_25.e⟩:aa)) 3).bind λx_26=>
 (ai.at (ai.set (ai.set (ai.set (ai.set (ai.set (ai.set (ai.set (ai.set (ai.set (ai.set (ai.set (ai.set (ai.set (ai.set (ai.set (ai.gw 4 (⟨false,Sl.nil,Sl.nil,0⟩:aa)) 0 (⟨x_8.1,x_9.a,x_9.b,x_9.e⟩:aa)) 0 (⟨x_10.holds,x_8.2.1,x_10.b,x_10.e⟩:aa)) 0 (⟨x_11.holds,x_11.a,x_8.2.2.1,x_11.e⟩:aa)) 0 (⟨x_12.holds,x_12.a,x_12.b,x_8.2.2.2⟩:aa)) 1 (⟨x_13.1,x_14.a,x_14.b,x_14.e⟩:aa)) 1 (⟨x_15.holds,x_13.2.1,x_15.b,x_15.e⟩:aa)) 1 (⟨x_16.holds,x_16.a,x_13.2.2.1,x_16.e⟩:aa)) 1 (⟨x_17.holds,x_17.a,x_17.b,x_13.2.2.2⟩:aa)) 2 (⟨x_18.1,x_19.a,x_19.b,x_19.e⟩:aa)) 2 (⟨x_20.holds,x_18.2.1,x_20.b,x_20.e⟩:aa)) 2 (⟨x_21.holds,x_21.a,x_18.2.2.1,x_21.e⟩:aa)) 2 (⟨x_22.holds,x_22.a,x_22.b,x_18.2.2.2⟩:aa)) 3 (⟨x_23.1,x_24.a,x_24.b,x_24.e⟩:aa)) 3 (⟨x_25.holds,x_23.2.1,x_25.b,x_25.e⟩:aa)) 3 (⟨x_26.holds,x_26.a,x_23.2.2.1,x_26.e⟩:aa)) 3).bind λx_27=>
 (jM t0 (len l1)).bind λx_28=>
 ay (x_28.2==0)
 (a_.W2 l1 x_28.1 (ai.set (ai.set (ai.set (ai.set (ai.set (ai.set (ai.set (ai.set (ai.set (ai.set (ai.set (ai.set (ai.set (ai.set (ai.set (ai.set (ai.gw 4 (⟨false,Sl.nil,Sl.nil,0⟩:aa)) 0 (⟨x_8.1,x_9.a,x_9.b,x_9.e⟩:aa)) 0 (⟨x_10.holds,x_8.2.1,x_10.b,x_10.e⟩:aa)) 0 (⟨x_11.holds,x_11.a,x_8.2.2.1,x_11.e⟩:aa)) 0 (⟨x_12.holds,x_12.a,x_12.b,x_8.2.2.2⟩:aa)) 1 (⟨x_13.1,x_14.a,x_14.b,x_14.e⟩:aa)) 1 (⟨x_15.holds,x_13.2.1,x_15.b,x_15.e⟩:aa)) 1 (⟨x_16.holds,x_16.a,x_13.2.2.1,x_16.e⟩:aa)) 1 (⟨x_17.holds,x_17.a,x_17.b,x_13.2.2.2⟩:aa)) 2 (⟨x_18.1,x_19.a,x_19.b,x_19.e⟩:aa)) 2 (⟨x_20.holds,x_18.2.1,x_20.b,x_20.e⟩:aa)) 2 (⟨x_21.holds,x_21.a,x_18.2.2.1,x_21.e⟩:aa)) 2 (⟨x_22.holds,x_22.a,x_22.b,x_18.2.2.2⟩:aa)) 3 (⟨x_23.1,x_24.a,x_24.b,x_24.e⟩:aa)) 3 (⟨x_25.holds,x_23.2.1,x_25.b,x_25.e⟩:aa)) 3 (⟨x_26.holds,x_26.a,x_23.2.2.1,x_26.e⟩:aa)) 3 (⟨x_27.holds,x_27.a,x_27.b,x_23.2.2.2⟩:aa)) 0)
 (a_.W1 x_28.2 (ai.set (ai.set (ai.set (ai.set (ai.set (ai.set (ai.set (ai.set (ai.set (ai.set (ai.set (ai.set (ai.set (ai.set (ai.set (ai.set (ai.gw 4 (⟨false,Sl.nil,Sl.nil,0⟩:aa)) 0 (⟨x_8.1,x_9.a,x_9.b,x_9.e⟩:aa)) 0 (⟨x_10.holds,x_8.2.1,x_10.b,x_10.e⟩:aa)) 0 (⟨x_11.holds,x_11.a,x_8.2.2.1,x_11.e⟩:aa)) 0 (⟨x_12.holds,x_12.a,x_12.b,x_8.2.2.2⟩:aa)) 1 (⟨x_13.1,x_14.a,x_14.b,x_14.e⟩:aa)) 1 (⟨x_15.holds,x_13.2.1,x_15.b,x_15.e⟩:aa)) 1 (⟨x_16.holds,x_16.a,x_13.2.2.1,x_16.e⟩:aa)) 1 (⟨x_17.holds,x_17.a,x_17.b,x_13.2.2.2⟩:aa)) 2 (⟨x_18.1,x_19.a,x_19.b,x_19.e⟩:aa)) 2 (⟨x_20.holds,x_18.2.1,x_20.b,x_20.e⟩:aa)) 2 (⟨x_21.holds,x_21.a,x_18.2.2.1,x_21.e⟩:aa)) 2 (⟨x_22.holds,x_22.a,x_22.b,x_18.2.2.2⟩:aa)) 3 (⟨x_23.1,x_24.a,x_24.b,x_24.e⟩:aa)) 3 (⟨x_25.holds,x_23.2.1,x_25.b,x_25.e⟩:aa)) 3 (⟨x_26.holds,x_26.a,x_23.2.2.1,x_26.e⟩:aa)) 3 (⟨x_27.holds,x_27.a,x_27.b,x_23.2.2.2⟩:aa)) 0)))
 (some false)
open a_ in
instance ve (t0:Trace) (l1:Sl Bool):Fc Sy cL (a_ t0 l1):=Fc.M 3 [enc t0,enc l1] (c_ 2 2 t0 (aT 6 λx_1 _=>c9 3 16 (aT 7 λx_2 _=>bG 2 4 [20] 24 (c9 2 20 (bt 1 l1 (aJ 2)) (aJ 4)) λx_3=>bG 1 8 [25] 33 (aK 1 25 (aJ 8) (aT 1 λx_4 _=>bG 1 4 [28] 32 (aK 1 28 (aT 1 λx_5 _=>aJ 2) (aJ 4)) λx_6=>aJ 1)) λx_7=>aK 2 33 aj (NY 5 5 (aP [Cv 1 l1,Pv 2,Bv 16 false,Bv 33 false] [Xb 2 t0]) 4 (⟨false,Sl.nil,Sl.nil,0⟩:aa) (by kernel_rfl) (aT 6 λx_8 _=>js 5 .i64 5 λx_9 h_9=>ue 1 1 5 (ai.gw 4 (⟨false,Sl.nil,Sl.nil,0⟩:aa)) 0 0 x_9 h_9 (⟨x_8.1,x_9.a,x_9.b,x_9.e⟩:aa) (.bool x_8.1) (by rfl) (js 0 .i64 5 λx_10 h_10=>rD 1 5 (ai.set (ai.gw 4 (⟨false,Sl.nil,Sl.nil,0⟩:aa)) 0 (⟨x_8.1,x_9.a,x_9.b,x_9.e⟩:aa)) 0 1 x_10 h_10 (⟨x_10.holds,x_8.2.1,x_10.b,x_10.e⟩:aa) x_8.2.1 rfl (js 0 .i64 5 λx_11 h_11=>rD 1 5 (ai.set (ai.set (ai.gw 4 (⟨false,Sl.nil,Sl.nil,0⟩:aa)) 0 (⟨x_8.1,x_9.a,x_9.b,x_9.e⟩:aa)) 0 (⟨x_10.holds,x_8.2.1,x_10.b,x_10.e⟩:aa)) 0 2 x_11 h_11 (⟨x_11.holds,x_11.a,x_8.2.2.1,x_11.e⟩:aa) x_8.2.2.1 rfl (js 0 .i64 5 λx_12 h_12=>ue 1 1 5 (ai.set (ai.set (ai.set (ai.gw 4 (⟨false,Sl.nil,Sl.nil,0⟩:aa)) 0 (⟨x_8.1,x_9.a,x_9.b,x_9.e⟩:aa)) 0 (⟨x_10.holds,x_8.2.1,x_10.b,x_10.e⟩:aa)) 0 (⟨x_11.holds,x_11.a,x_8.2.2.1,x_11.e⟩:aa)) 0 3 x_12 h_12 (⟨x_12.holds,x_12.a,x_12.b,x_8.2.2.2⟩:aa) (.int .i64 x_8.2.2.2) (by rfl) (aT 6 λx_13 _=>js 5 .i64 5 λx_14 h_14=>ue 1 1 5 (ai.set (ai.set (ai.set (ai.set (ai.gw 4 (⟨false,Sl.nil,Sl.nil,0⟩:aa)) 0 (⟨x_8.1,x_9.a,x_9.b,x_9.e⟩:aa)) 0 (⟨x_10.holds,x_8.2.1,x_10.b,x_10.e⟩:aa)) 0 (⟨x_11.holds,x_11.a,x_8.2.2.1,x_11.e⟩:aa)) 0 (⟨x_12.holds,x_12.a,x_12.b,x_8.2.2.2⟩:aa)) 1 0 x_14 h_14 (⟨x_13.1,x_14.a,x_14.b,x_14.e⟩:aa) (.bool x_13.1) (by rfl) (js 0 .i64 5 λx_15 h_15=>rD 1 5 (ai.set (ai.set (ai.set (ai.set (ai.set (ai.gw 4 (⟨false,Sl.nil,Sl.nil,0⟩:aa)) 0 (⟨x_8.1,x_9.a,x_9.b,x_9.e⟩:aa)) 0 (⟨x_10.holds,x_8.2.1,x_10.b,x_10.e⟩:aa)) 0 (⟨x_11.holds,x_11.a,x_8.2.2.1,x_11.e⟩:aa)) 0 (⟨x_12.holds,x_12.a,x_12.b,x_8.2.2.2⟩:aa)) 1 (⟨x_13.1,x_14.a,x_14.b,x_14.e⟩:aa)) 1 1 x_15 h_15 (⟨x_15.holds,x_13.2.1,x_15.b,x_15.e⟩:aa) x_13.2.1 rfl (js 0 .i64 5 λx_16 h_16=>rD 1 5 (ai.set (ai.set (ai.set (ai.set (ai.set (ai.set (ai.gw 4 (⟨false,Sl.nil,Sl.nil,0⟩:aa)) 0 (⟨x_8.1,x_9.a,x_9.b,x_9.e⟩:aa)) 0 (⟨x_10.holds,x_8.2.1,x_10.b,x_10.e⟩:aa)) 0 (⟨x_11.holds,x_11.a,x_8.2.2.1,x_11.e⟩:aa)) 0 (⟨x_12.holds,x_12.a,x_12.b,x_8.2.2.2⟩:aa)) 1 (⟨x_13.1,x_14.a,x_14.b,x_14.e⟩:aa)) 1 (⟨x_15.holds,x_13.2.1,x_15.b,x_15.e⟩:aa)) 1 2 x_16 h_16 (⟨x_16.holds,x_16.a,x_13.2.2.1,x_16.e⟩:aa) x_13.2.2.1 rfl (js 0 .i64 5 λx_17 h_17=>ue 1 1 5 (ai.set (ai.set (ai.set (ai.set (ai.set (ai.set (ai.set (ai.gw 4 (⟨false,Sl.nil,Sl.nil,0⟩:aa)) 0 (⟨x_8.1,x_9.a,x_9.b,x_9.e⟩:aa)) 0 (⟨x_10.holds,x_8.2.1,x_10.b,x_10.e⟩:aa)) 0 (⟨x_11.holds,x_11.a,x_8.2.2.1,x_11.e⟩:aa)) 0 (⟨x_12.holds,x_12.a,x_12.b,x_8.2.2.2⟩:aa)) 1 (⟨x_13.1,x_14.a,x_14.b,x_14.e⟩:aa)) 1 (⟨x_15.holds,x_13.2.1,x_15.b,x_15.e⟩:aa)) 1 (⟨x_16.holds,x_16.a,x_13.2.2.1,x_16.e⟩:aa)) 1 3 x_17 h_17 (⟨x_17.holds,x_17.a,x_17.b,x_13.2.2.2⟩:aa) (.int .i64 x_13.2.2.2) (by rfl) (aT 6 λx_18 _=>js 5 .i64 5 λx_19 h_19=>ue 1 1 5 (ai.set (ai.set (ai.set (ai.set (ai.set (ai.set (ai.set (ai.set (ai.gw 4 (⟨false,Sl.nil,Sl.nil,0⟩:aa)) 0 (⟨x_8.1,x_9.a,x_9.b,x_9.e⟩:aa)) 0 (⟨x_10.holds,x_8.2.1,x_10.b,x_10.e⟩:aa)) 0 (⟨x_11.holds,x_11.a,x_8.2.2.1,x_11.e⟩:aa)) 0 (⟨x_12.holds,x_12.a,x_12.b,x_8.2.2.2⟩:aa)) 1 (⟨x_13.1,x_14.a,x_14.b,x_14.e⟩:aa)) 1 (⟨x_15.holds,x_13.2.1,x_15.b,x_15.e⟩:aa)) 1 (⟨x_16.holds,x_16.a,x_13.2.2.1,x_16.e⟩:aa)) 1 (⟨x_17.holds,x_17.a,x_17.b,x_13.2.2.2⟩:aa)) 2 0 x_19 h_19 (⟨x_18.1,x_19.a,x_19.b,x_19.e⟩:aa) (.bool x_18.1) (by rfl) (js 0 .i64 5 λx_20 h_20=>rD 1 5 (ai.set (ai.set (ai.set (ai.set (ai.set (ai.set (ai.set (ai.set (ai.set (ai.gw 4 (⟨false,Sl.nil,Sl.nil,0⟩:aa)) 0 (⟨x_8.1,x_9.a,x_9.b,x_9.e⟩:aa)) 0 (⟨x_10.holds,x_8.2.1,x_10.b,x_10.e⟩:aa)) 0 (⟨x_11.holds,x_11.a,x_8.2.2.1,x_11.e⟩:aa)) 0 (⟨x_12.holds,x_12.a,x_12.b,x_8.2.2.2⟩:aa)) 1 (⟨x_13.1,x_14.a,x_14.b,x_14.e⟩:aa)) 1 (⟨x_15.holds,x_13.2.1,x_15.b,x_15.e⟩:aa)) 1 (⟨x_16.holds,x_16.a,x_13.2.2.1,x_16.e⟩:aa)) 1 (⟨x_17.holds,x_17.a,x_17.b,x_13.2.2.2⟩:aa)) 2 (⟨x_18.1,x_19.a,x_19.b,x_19.e⟩:aa)) 2 1 x_20 h_20 (⟨x_20.holds,x_18.2.1,x_20.b,x_20.e⟩:aa) x_18.2.1 rfl (js 0 .i64 5 λx_21 h_21=>rD 1 5 (ai.set (ai.set (ai.set (ai.set (ai.set (ai.set (ai.set (ai.set (ai.set (ai.set (ai.gw 4 (⟨false,Sl.nil,Sl.nil,0⟩:aa)) 0 (⟨x_8.1,x_9.a,x_9.b,x_9.e⟩:aa)) 0 (⟨x_10.holds,x_8.2.1,x_10.b,x_10.e⟩:aa)) 0 (⟨x_11.holds,x_11.a,x_8.2.2.1,x_11.e⟩:aa)) 0 (⟨x_12.holds,x_12.a,x_12.b,x_8.2.2.2⟩:aa)) 1 (⟨x_13.1,x_14.a,x_14.b,x_14.e⟩:aa)) 1 (⟨x_15.holds,x_13.2.1,x_15.b,x_15.e⟩:aa)) 1 (⟨x_16.holds,x_16.a,x_13.2.2.1,x_16.e⟩:aa)) 1 (⟨x_17.holds,x_17.a,x_17.b,x_13.2.2.2⟩:aa)) 2 (⟨x_18.1,x_19.a,x_19.b,x_19.e⟩:aa)) 2 (⟨x_20.holds,x_18.2.1,x_20.b,x_20.e⟩:aa)) 2 2 x_21 h_21 (⟨x_21.holds,x_21.a,x_18.2.2.1,x_21.e⟩:aa) x_18.2.2.1 rfl (js 0 .i64 5 λx_22 h_22=>ue 1 1 5 (ai.set (ai.set (ai.set (ai.set (ai.set (ai.set (ai.set (ai.set (ai.set (ai.set (ai.set (ai.gw 4 (⟨false,Sl.nil,Sl.nil,0⟩:aa)) 0 (⟨x_8.1,x_9.a,x_9.b,x_9.e⟩:aa)) 0 (⟨x_10.holds,x_8.2.1,x_10.b,x_10.e⟩:aa)) 0 (⟨x_11.holds,x_11.a,x_8.2.2.1,x_11.e⟩:aa)) 0 (⟨x_12.holds,x_12.a,x_12.b,x_8.2.2.2⟩:aa)) 1 (⟨x_13.1,x_14.a,x_14.b,x_14.e⟩:aa)) 1 (⟨x_15.holds,x_13.2.1,x_15.b,x_15.e⟩:aa)) 1 (⟨x_16.holds,x_16.a,x_13.2.2.1,x_16.e⟩:aa)) 1 (⟨x_17.holds,x_17.a,x_17.b,x_13.2.2.2⟩:aa)) 2 (⟨x_18.1,x_19.a,x_19.b,x_19.e⟩:aa)) 2 (⟨x_20.holds,x_18.2.1,x_20.b,x_20.e⟩:aa)) 2 (⟨x_21.holds,x_21.a,x_18.2.2.1,x_21.e⟩:aa)) 2 3 x_22 h_22 (⟨x_22.holds,x_22.a,x_22.b,x_18.2.2.2⟩:aa) (.int .i64 x_18.2.2.2) (by rfl) (aT 6 λx_23 _=>js 5 .i64 5 λx_24 h_24=>ue 1 1 5 (ai.set (ai.set (ai.set (ai.set (ai.set (ai.set (ai.set (ai.set (ai.set (ai.set (ai.set (ai.set (ai.gw 4 (⟨false,Sl.nil,Sl.nil,0⟩:aa)) 0 (⟨x_8.1,x_9.a,x_9.b,x_9.e⟩:aa)) 0 (⟨x_10.holds,x_8.2.1,x_10.b,x_10.e⟩:aa)) 0 (⟨x_11.holds,x_11.a,x_8.2.2.1,x_11.e⟩:aa)) 0 (⟨x_12.holds,x_12.a,x_12.b,x_8.2.2.2⟩:aa)) 1 (⟨x_13.1,x_14.a,x_14.b,x_14.e⟩:aa)) 1 (⟨x_15.holds,x_13.2.1,x_15.b,x_15.e⟩:aa)) 1 (⟨x_16.holds,x_16.a,x_13.2.2.1,x_16.e⟩:aa)) 1 (⟨x_17.holds,x_17.a,x_17.b,x_13.2.2.2⟩:aa)) 2 (⟨x_18.1,x_19.a,x_19.b,x_19.e⟩:aa)) 2 (⟨x_20.holds,x_18.2.1,x_20.b,x_20.e⟩:aa)) 2 (⟨x_21.holds,x_21.a,x_18.2.2.1,x_21.e⟩:aa)) 2 (⟨x_22.holds,x_22.a,x_22.b,x_18.2.2.2⟩:aa)) 3 0 x_24 h_24 (⟨x_23.1,x_24.a,x_24.b,x_24.e⟩:aa) (.bool x_23.1) (by rfl) (js 0 .i64 5 λx_25 h_25=>rD 1 5 (ai.set (ai.set (ai.set (ai.set (ai.set (ai.set (ai.set (ai.set (ai.set (ai.set (ai.set (ai.set (ai.set (ai.gw 4 (⟨false,Sl.nil,Sl.nil,0⟩:aa)) 0 (⟨x_8.1,x_9.a,x_9.b,x_9.e⟩:aa)) 0 (⟨x_10.holds,x_8.2.1,x_10.b,x_10.e⟩:aa)) 0 (⟨x_11.holds,x_11.a,x_8.2.2.1,x_11.e⟩:aa)) 0 (⟨x_12.holds,x_12.a,x_12.b,x_8.2.2.2⟩:aa)) 1 (⟨x_13.1,x_14.a,x_14.b,x_14.e⟩:aa)) 1 (⟨x_15.holds,x_13.2.1,x_15.b,x_15.e⟩:aa)) 1 (⟨x_16.holds,x_16.a,x_13.2.2.1,x_16.e⟩:aa)) 1 (⟨x_17.holds,x_17.a,x_17.b,x_13.2.2.2⟩:aa)) 2 (⟨x_18.1,x_19.a,x_19.b,x_19.e⟩:aa)) 2 (⟨x_20.holds,x_18.2.1,x_20.b,x_20.e⟩:aa)) 2 (⟨x_21.holds,x_21.a,x_18.2.2.1,x_21.e⟩:aa)) 2 (⟨x_22.holds,x_22.a,x_22.b,x_18.2.2.2⟩:aa)) 3 (⟨x_23.1,x_24.a,x_24.b,x_24.e⟩:aa)) 3 1 x_25 h_25 (⟨x_25.holds,x_23.2.1,x_25.b,x_25.e⟩:aa) x_23.2.1 rfl (js 0 .i64 5 λx_26 h_26=>rD 1 5 (ai.set (ai.set (ai.set (ai.set (ai.set (ai.set (ai.set (ai.set (ai.set (ai.set (ai.set (ai.set (ai.set (ai.set (ai.gw 4 (⟨false,Sl.nil,Sl.nil,0⟩:aa)) 0 (⟨x_8.1,x_9.a,x_9.b,x_9.e⟩:aa)) 0 (⟨x_10.holds,x_8.2.1,x_10.b,x_10.e⟩:aa)) 0 (⟨x_11.holds,x_11.a,x_8.2.2.1,x_11.e⟩:aa)) 0 (⟨x_12.holds,x_12.a,x_12.b,x_8.2.2.2⟩:aa)) 1 (⟨x_13.1,x_14.a,x_14.b,x_14.e⟩:aa)) 1 (⟨x_15.holds,x_13.2.1,x_15.b,x_15.e⟩:aa)) 1 (⟨x_16.holds,x_16.a,x_13.2.2.1,x_16.e⟩:aa)) 1 (⟨x_17.holds,x_17.a,x_17.b,x_13.2.2.2⟩:aa)) 2 (⟨x_18.1,x_19.a,x_19.b,x_19.e⟩:aa)) 2 (⟨x_20.holds,x_18.2.1,x_20.b,x_20.e⟩:aa)) 2 (⟨x_21.holds,x_21.a,x_18.2.2.1,x_21.e⟩:aa)) 2 (⟨x_22.holds,x_22.a,x_22.b,x_18.2.2.2⟩:aa)) 3 (⟨x_23.1,x_24.a,x_24.b,x_24.e⟩:aa)) 3 (⟨x_25.holds,x_23.2.1,x_25.b,x_25.e⟩:aa)) 3 2 x_26 h_26 (⟨x_26.holds,x_26.a,x_23.2.2.1,x_26.e⟩:aa) x_23.2.2.1 rfl (js 0 .i64 5 λx_27 h_27=>ue 1 1 5 (ai.set (ai.set (ai.set (ai.set (ai.set (ai.set (ai.set (ai.set (ai.set (ai.set (ai.set (ai.set (ai.set (ai.set (ai.set (ai.gw 4 (⟨false,Sl.nil,Sl.nil,0⟩:aa)) 0 (⟨x_8.1,x_9.a,x_9.b,x_9.e⟩:aa)) 0 (⟨x_10.holds,x_8.2.1,x_10.b,x_10.e⟩:aa)) 0 (⟨x_11.holds,x_11.a,x_8.2.2.1,x_11.e⟩:aa)) 0 (⟨x_12.holds,x_12.a,x_12.b,x_8.2.2.2⟩:aa)) 1 (⟨x_13.1,x_14.a,x_14.b,x_14.e⟩:aa)) 1 (⟨x_15.holds,x_13.2.1,x_15.b,x_15.e⟩:aa)) 1 (⟨x_16.holds,x_16.a,x_13.2.2.1,x_16.e⟩:aa)) 1 (⟨x_17.holds,x_17.a,x_17.b,x_13.2.2.2⟩:aa)) 2 (⟨x_18.1,x_19.a,x_19.b,x_19.e⟩:aa)) 2 (⟨x_20.holds,x_18.2.1,x_20.b,x_20.e⟩:aa)) 2 (⟨x_21.holds,x_21.a,x_18.2.2.1,x_21.e⟩:aa)) 2 (⟨x_22.holds,x_22.a,x_22.b,x_18.2.2.2⟩:aa)) 3 (⟨x_23.1,x_24.a,x_24.b,x_24.e⟩:aa)) 3 (⟨x_25.holds,x_23.2.1,x_25.b,x_25.e⟩:aa)) 3 (⟨x_26.holds,x_26.a,x_23.2.2.1,x_26.e⟩:aa)) 3 3 x_27 h_27 (⟨x_27.holds,x_27.a,x_27.b,x_23.2.2.2⟩:aa) (.int .i64 x_23.2.2.2) (by rfl) (bt 6 l1 (aT 0 λx_28 _=>c9 14 106 (Rl 6 5 (ai.set (ai.set (ai.set (ai.set (ai.set (ai.set (ai.set (ai.set (ai.set (ai.set (ai.set (ai.set (ai.set (ai.set (ai.set (ai.set (ai.gw 4 (⟨false,Sl.nil,Sl.nil,0⟩:aa)) 0 (⟨x_8.1,x_9.a,x_9.b,x_9.e⟩:aa)) 0 (⟨x_10.holds,x_8.2.1,x_10.b,x_10.e⟩:aa)) 0 (⟨x_11.holds,x_11.a,x_8.2.2.1,x_11.e⟩:aa)) 0 (⟨x_12.holds,x_12.a,x_12.b,x_8.2.2.2⟩:aa)) 1 (⟨x_13.1,x_14.a,x_14.b,x_14.e⟩:aa)) 1 (⟨x_15.holds,x_13.2.1,x_15.b,x_15.e⟩:aa)) 1 (⟨x_16.holds,x_16.a,x_13.2.2.1,x_16.e⟩:aa)) 1 (⟨x_17.holds,x_17.a,x_17.b,x_13.2.2.2⟩:aa)) 2 (⟨x_18.1,x_19.a,x_19.b,x_19.e⟩:aa)) 2 (⟨x_20.holds,x_18.2.1,x_20.b,x_20.e⟩:aa)) 2 (⟨x_21.holds,x_21.a,x_18.2.2.1,x_21.e⟩:aa)) 2 (⟨x_22.holds,x_22.a,x_22.b,x_18.2.2.2⟩:aa)) 3 (⟨x_23.1,x_24.a,x_24.b,x_24.e⟩:aa)) 3 (⟨x_25.holds,x_23.2.1,x_25.b,x_25.e⟩:aa)) 3 (⟨x_26.holds,x_26.a,x_23.2.2.1,x_26.e⟩:aa)) 3 (⟨x_27.holds,x_27.a,x_27.b,x_23.2.2.2⟩:aa)) rfl (cO 5 (λqW2=>(aP [Cv 1 l1,Cv 6 x_28.1,Cv 116 (ai.set (ai.set (ai.set (ai.set (ai.set (ai.set (ai.set (ai.set (ai.set (ai.set (ai.set (ai.set (ai.set (ai.set (ai.set (ai.set (ai.gw 4 (⟨false,Sl.nil,Sl.nil,0⟩:aa)) 0 (⟨x_8.1,x_9.a,x_9.b,x_9.e⟩:aa)) 0 (⟨x_10.holds,x_8.2.1,x_10.b,x_10.e⟩:aa)) 0 (⟨x_11.holds,x_11.a,x_8.2.2.1,x_11.e⟩:aa)) 0 (⟨x_12.holds,x_12.a,x_12.b,x_8.2.2.2⟩:aa)) 1 (⟨x_13.1,x_14.a,x_14.b,x_14.e⟩:aa)) 1 (⟨x_15.holds,x_13.2.1,x_15.b,x_15.e⟩:aa)) 1 (⟨x_16.holds,x_16.a,x_13.2.2.1,x_16.e⟩:aa)) 1 (⟨x_17.holds,x_17.a,x_17.b,x_13.2.2.2⟩:aa)) 2 (⟨x_18.1,x_19.a,x_19.b,x_19.e⟩:aa)) 2 (⟨x_20.holds,x_18.2.1,x_20.b,x_20.e⟩:aa)) 2 (⟨x_21.holds,x_21.a,x_18.2.2.1,x_21.e⟩:aa)) 2 (⟨x_22.holds,x_22.a,x_22.b,x_18.2.2.2⟩:aa)) 3 (⟨x_23.1,x_24.a,x_24.b,x_24.e⟩:aa)) 3 (⟨x_25.holds,x_23.2.1,x_25.b,x_25.e⟩:aa)) 3 (⟨x_26.holds,x_26.a,x_23.2.2.1,x_26.e⟩:aa)) 3 (⟨x_27.holds,x_27.a,x_27.b,x_23.2.2.2⟩:aa)),Iv 117 qW2] [])) (λeW2=>(2,(aP [] []))) (λeW2=>(aP [Bv 4 false] [])) (λqW2=>aK 7 118 (NB 8 .i64 λx_31 _=>kN 2 11 0 x_31 (aK 20 122 (aT 8 λx_32 _=>uU 10 (aT 6 λx_34 _=>c9 3 146 aj aj)) (aT 4 λx_33 _=>uU 10 (aT 6 λx_34 _=>c9 3 146 aj aj)))) aj) (λeW2=>aj) (λeW2=>aj))) (Rl 4 5 (ai.set (ai.set (ai.set (ai.set (ai.set (ai.set (ai.set (ai.set (ai.set (ai.set (ai.set (ai.set (ai.set (ai.set (ai.set (ai.set (ai.gw 4 (⟨false,Sl.nil,Sl.nil,0⟩:aa)) 0 (⟨x_8.1,x_9.a,x_9.b,x_9.e⟩:aa)) 0 (⟨x_10.holds,x_8.2.1,x_10.b,x_10.e⟩:aa)) 0 (⟨x_11.holds,x_11.a,x_8.2.2.1,x_11.e⟩:aa)) 0 (⟨x_12.holds,x_12.a,x_12.b,x_8.2.2.2⟩:aa)) 1 (⟨x_13.1,x_14.a,x_14.b,x_14.e⟩:aa)) 1 (⟨x_15.holds,x_13.2.1,x_15.b,x_15.e⟩:aa)) 1 (⟨x_16.holds,x_16.a,x_13.2.2.1,x_16.e⟩:aa)) 1 (⟨x_17.holds,x_17.a,x_17.b,x_13.2.2.2⟩:aa)) 2 (⟨x_18.1,x_19.a,x_19.b,x_19.e⟩:aa)) 2 (⟨x_20.holds,x_18.2.1,x_20.b,x_20.e⟩:aa)) 2 (⟨x_21.holds,x_21.a,x_18.2.2.1,x_21.e⟩:aa)) 2 (⟨x_22.holds,x_22.a,x_22.b,x_18.2.2.2⟩:aa)) 3 (⟨x_23.1,x_24.a,x_24.b,x_24.e⟩:aa)) 3 (⟨x_25.holds,x_23.2.1,x_25.b,x_25.e⟩:aa)) 3 (⟨x_26.holds,x_26.a,x_23.2.2.1,x_26.e⟩:aa)) 3 (⟨x_27.holds,x_27.a,x_27.b,x_23.2.2.2⟩:aa)) rfl (cO 5 (λqW1=>(aP [Iv 7 x_28.2,Cv 107 (ai.set (ai.set (ai.set (ai.set (ai.set (ai.set (ai.set (ai.set (ai.set (ai.set (ai.set (ai.set (ai.set (ai.set (ai.set (ai.set (ai.gw 4 (⟨false,Sl.nil,Sl.nil,0⟩:aa)) 0 (⟨x_8.1,x_9.a,x_9.b,x_9.e⟩:aa)) 0 (⟨x_10.holds,x_8.2.1,x_10.b,x_10.e⟩:aa)) 0 (⟨x_11.holds,x_11.a,x_8.2.2.1,x_11.e⟩:aa)) 0 (⟨x_12.holds,x_12.a,x_12.b,x_8.2.2.2⟩:aa)) 1 (⟨x_13.1,x_14.a,x_14.b,x_14.e⟩:aa)) 1 (⟨x_15.holds,x_13.2.1,x_15.b,x_15.e⟩:aa)) 1 (⟨x_16.holds,x_16.a,x_13.2.2.1,x_16.e⟩:aa)) 1 (⟨x_17.holds,x_17.a,x_17.b,x_13.2.2.2⟩:aa)) 2 (⟨x_18.1,x_19.a,x_19.b,x_19.e⟩:aa)) 2 (⟨x_20.holds,x_18.2.1,x_20.b,x_20.e⟩:aa)) 2 (⟨x_21.holds,x_21.a,x_18.2.2.1,x_21.e⟩:aa)) 2 (⟨x_22.holds,x_22.a,x_22.b,x_18.2.2.2⟩:aa)) 3 (⟨x_23.1,x_24.a,x_24.b,x_24.e⟩:aa)) 3 (⟨x_25.holds,x_23.2.1,x_25.b,x_25.e⟩:aa)) 3 (⟨x_26.holds,x_26.a,x_23.2.2.1,x_26.e⟩:aa)) 3 (⟨x_27.holds,x_27.a,x_27.b,x_23.2.2.2⟩:aa)),Iv 108 qW1] [])) (λeW1=>(0,(aP [] []))) (λeW1=>(aP [Bv 4 false] [])) (λqW1=>aK 7 109 (NB 7 .i64 λx_29 _=>kN 1 9 0 x_29 (aT 6 λx_30 _=>c9 3 114 aj aj)) aj) (λeW1=>aj) (λeW1=>aj))))))))))))))))))))))) aj))
end
end Go.VE
