/-
 Each function of the program that the law reaches: its plain form, and that it comes to that.
-/
import Derived.Test.YtdoibkkdaojjpaaGreatK1
import Derived.Test.YtdoibkkdaojjpaaGreatT1
set_option linter.all false
namespace Go.VE
structure Var where
 name:ByteArray
 init_:Int
 deriving Inhabited
instance:aB Var where
 cells x:=[.str x.name,.int .i64 x.init_]
 agg:=true
 size:=2
 len _:=rfl
 good x:=by simp only[V.bE,V.good,g_,Bool.and_self]
 one x:=by simp only[List.all_cons,List.all_nil,mC,kL,mw,kM,Bool.and_self]
 plain h:=by cases h
instance {n:Nat}:Lv (n+0) Var:=⟨λx=>by
 show V.bR (n+0) [.str x.name,.int .i64 x.init_]=true;simp only[fT,iw,nL,lX,nW,nq,Bool.and_self]⟩
structure Assign where
 var:Int
 value:Int
 deriving Inhabited
instance:aB Assign where
 cells x:=[.int .i64 x.var,.int .i64 x.value]
 agg:=true
 size:=2
 len _:=rfl
 good x:=by simp only[V.bE,V.good,g_,Bool.and_self]
 one x:=by simp only[List.all_cons,List.all_nil,mC,kL,mw,kM,Bool.and_self]
 plain h:=by cases h
instance {n:Nat}:Lv (n+0) Assign:=⟨λx=>by
 show V.bR (n+0) [.int .i64 x.var,.int .i64 x.value]=true;simp only[fT,iw,nL,lX,nW,nq,Bool.and_self]⟩
structure Event where
 kind:Int
 peer:Int
 message:Int
 time:Int
 assign:Sl Assign
 deriving Inhabited
instance:aB Event where
 cells x:=[.int .i64 x.kind,.int .i64 x.peer,.int .i64 x.message,.int .i64 x.time,enc x.assign]
 agg:=true
 size:=5
 len _:=rfl
 good x:=by simp only[V.bE,V.good,g_,Bool.and_self]
 one x:=by simp only[List.all_cons,List.all_nil,mC,kL,mw,kM,Bool.and_self]
 plain h:=by cases h
instance {n:Nat}:Lv (n+1) Event:=⟨λx=>by
 show V.bR (n+1) [.int .i64 x.kind,.int .i64 x.peer,.int .i64 x.message,.int .i64 x.time,enc x.assign]=true;simp only[fT,iw,nL,lX,nW,nq,Bool.and_self]⟩
structure bA where
 name:ByteArray
 vars:Sl Var
 events:Sl Event
 deriving Inhabited
instance:aB bA where
 cells x:=[.str x.name,enc x.vars,enc x.events]
 agg:=true
 size:=3
 len _:=rfl
 good x:=by simp only[V.bE,V.good,g_,Bool.and_self]
 one x:=by simp only[List.all_cons,List.all_nil,mC,kL,mw,kM,Bool.and_self]
 plain h:=by cases h
instance {n:Nat}:Lv (n+2) bA:=⟨λx=>by
 show V.bR (n+2) [.str x.name,enc x.vars,enc x.events]=true;simp only[fT,iw,nL,lX,nW,nq,Bool.and_self]⟩
structure Trace where
 procs:Sl bA
 deriving Inhabited
instance:aB Trace where
 cells x:=[enc x.procs]
 agg:=true
 size:=1
 len _:=rfl
 good x:=by simp only[V.bE,V.good,g_,Bool.and_self]
 one x:=by simp only[List.all_cons,List.all_nil,mC,kL,mw,kM,Bool.and_self]
 plain h:=by cases h
instance {n:Nat}:Lv (n+3) Trace:=⟨λx=>by
 show V.bR (n+3) [enc x.procs]=true;simp only[fT,iw,nL,lX,nW,nq,Bool.and_self]⟩
structure aF where
 from_:aa
 to_:aa
 deriving Inhabited
instance:aB aF where
 cells x:=[.int .i64 x.from_.proc,.int .i64 x.from_.index,.int .i64 x.to_.proc,.int .i64 x.to_.index]
 agg:=true
 size:=4
 len _:=rfl
 good x:=by simp only[V.bE,V.good,g_,Bool.and_self]
 one x:=by simp only[List.all_cons,List.all_nil,mC,kL,mw,kM,Bool.and_self]
 plain h:=by cases h
instance {n:Nat}:Lv (n+0) aF:=⟨λx=>by
 show V.bR (n+0) [.int .i64 x.from_.proc,.int .i64 x.from_.index,.int .i64 x.to_.proc,.int .i64 x.to_.index]=true;simp only[fT,iw,nL,lX,nW,nq,Bool.and_self]⟩
structure a_ where
 lengths:Sl Int
 need:Sl (Sl aa)
 deriving Inhabited
instance:aB a_ where
 cells x:=[enc x.lengths,enc x.need]
 agg:=true
 size:=2
 len _:=rfl
 good x:=by simp only[V.bE,V.good,g_,Bool.and_self]
 one x:=by simp only[List.all_cons,List.all_nil,mC,kL,mw,kM,Bool.and_self]
 plain h:=by cases h
instance {n:Nat}:Lv (n+2) a_:=⟨λx=>by
 show V.bR (n+2) [enc x.lengths,enc x.need]=true;simp only[fT,iw,nL,lX,nW,nq,Bool.and_self]⟩
structure aL where
 truths:Sl Bool
 cuts:Sl (Sl Int)
 places:wP (br 8 Int) Int
 deriving Inhabited
instance:aB aL where
 cells x:=[enc x.truths,enc x.cuts,enc x.places]
 agg:=true
 size:=3
 len _:=rfl
 good x:=by simp only[V.bE,V.good,g_,Bool.and_self]
 one x:=by simp only[List.all_cons,List.all_nil,mC,kL,mw,kM,BN,Bool.and_self]
 plain h:=by cases h
instance {n:Nat}:Lv (n+2) aL:=⟨λx=>by
 show V.bR (n+2) [enc x.truths,enc x.cuts,enc x.places]=true;simp only[fT,iw,nL,lX,nW,nq,NJ,Bool.and_self]⟩
def gj (p:Int):Int->List Event->List (aa×Event)
 | _,[]=>[]
 | j,e::r=>(⟨p,j+1⟩,e)::gj p (j+1) r
def dX:Int->List bA->List (aa×Event)
 | _,[]=>[]
 | i,p::r=>gj i 0 p.events.l++dX (i+1) r
def Dp (n:Nat):Bool:=decide (n<9223372036854775807)
def gE (t:Trace):Option (List (aa×Event)):=
 if Dp t.procs.l.length&&t.procs.l.all λp=>Dp p.events.l.length then some (dX 0 t.procs.l)else none
end Go.VE
namespace Go.VE
def UK:List (Nat×GD):=[
 (102,⟨0x22226260002000201,[],[(6,[.keep [0,1,7,8] []],[.keep [0,1,7,8] []]),(12,[.keep [] []],[]),(22,[.keep [4] []],[]),(27,[.keep [4] []],[])]⟩),
 (49,⟨0x226221,[],[]⟩),
 (50,⟨0x2222212,[],[]⟩),
 (9,⟨0x26cc44444c4444044022220220644426444022220262202202000020012,[],[(8,[.keep [1,3,7,8,9] [1]],[.keep [1,3,7,8,9] [1]]),(14,[.keep [1,3] [1]],[]),(26,[.keep [2] []],[]),(31,[.keep [2] []],[])]⟩),
 (157,⟨0x26c4444026402201,[],[]⟩),
 (158,⟨0x26442201,[],[]⟩),
 (137,⟨0x222064c002644c00222600620000644402644022201,[],[(8,[.keep [2] []],[]),(14,[.keep [0,3] []],[.keep [0,3] []]),(20,[.keep [] []],[]),(28,[.keep [2] []],[]),(33,[.keep [2] []],[])]⟩),
 (138,⟨0x26442201,[],[]⟩),
 (103,⟨0x2222222022226020222062260202260206000022226020622000022202220620226020600002220202602012,[],[(10,[.keep [4] []],[]),(16,[.keep [1,2,5,6] [2,5]],[.keep [1,2,5,6] [2,5]]),(22,[.keep [5] [5]],[]),(30,[.keep [4] []],[]),(39,[.keep [4] []],[]),(45,[.keep [5,7] [5]],[.keep [5,7] [5]]),(51,[.keep [5] [5]],[]),(60,[.keep [4] []],[]),(66,[.keep [5,7,8] [5]],[.keep [5,7,8] [5]]),(72,[.keep [5,7] [5]],[]),(80,[.keep [4] []],[]),(88,[.keep [4] []],[]),(97,[.keep [4] []],[]),(101,[.keep [4] []],[])]⟩),
 (104,⟨0x2222220620226020600006444026c444c04040222020260206220000222006cc44c4444c04040440264402220064402644026c04026c44040264402644022200644022202202026022602012,[],[(13,[.keep [6] []],[]),(20,[.keep [6] []],[]),(22,[.keep [1,2,3,7] [3,7]],[]),(28,[.keep [6] []],[]),(36,[.keep [6] []],[]),(42,[.keep [1,3,7,8] [3,7]],[.keep [1,3,7,8] [3,7]]),(48,[.keep [] []],[]),(59,[.keep [6] []],[]),(64,[.keep [1,3,7,8,9,10] [3,7,9]],[.keep [1,3,7,8,9,10] [3,7,9]]),(70,[.keep [1,3,7,8] [3,7]],[]),(78,[.keep [6] []],[]),(84,[.keep [6] []],[])]⟩),
 (139,⟨0x2262222262022022,[],[]⟩),
 (127,⟨0x20222222262226c0442602020260226020622260200062200002,[],[(6,[.keep [1,2,3,6,7] [3,6]],[.keep [1,2,3,6,7] [3,6]]),(12,[.keep [6] [6]],[]),(18,[.keep [1,2,3,6,7,8] [3,6]],[.keep [1,2,3,6,7,8] [3,6]]),(24,[.keep [1,2,3,6,7] [3,6]],[]),(34,[.keep [6] [6]],[]),(40,[.keep [6] [6]],[])]⟩),
 (105,⟨0x2222226cc40444cc4040444022202602262020622262020000220060e20200022020600122,[],[(30,[.keep [2,3,5,6,7] [2,3,5]],[.keep [2,3,5,6,7] [2,3,5]]),(36,[.keep [6] []],[])]⟩),
 (106,⟨0x22206222602026006220002222203622000622262002062202202026260022602062226020260062200002222012,[],[(6,[.canon (.s 3) 2003 1,.keep [1,3] [1,2003]],[.canon (.s 3) 2003 1,.keep [1,3] [1,2003]]),(14,[.canon (.s 3) 2003 1,.keep [1,3,4,5] [1,2003]],[.canon (.s 3) 2003 1,.keep [1,3,4,5] [1,2003]]),(20,[.canon (.s 3) 2003 1,.keep [1,3,4] [1,2003]],[]),(24,[.canon (.s 3) 2003 1,.keep [1,3,4,5] [1,2003]],[.canon (.s 3) 2003 1,.keep [1,3,4,5] [1,2003]]),(30,[.canon (.s 3) 2003 1,.keep [1,3,4,5] [1,2003]],[]),(43,[.canon (.s 3) 2003 1,.keep [1,3,4,5] [1,2003]],[]),(46,[.canon (.s 3) 2003 1,.keep [1,3,5] [1,2003]],[]),(53,[.canon (.s 3) 2003 1,.keep [1,3] [1,2003]],[]),(59,[.canon (.s 3) 2003 1,.keep [1,3,8] [1,2003]],[.canon (.s 3) 2003 1,.keep [1,3,8] [1,2003]]),(65,[.keep [] []],[]),(73,[.keep [2] []],[]),(78,[.keep [2] []],[])]⟩),
 (140,⟨0x22262622222202062026262202022200122,[],[(10,[.canon (.s 5) 2005 2,.keep [2,3,5] [2,3,2005]],[])]⟩),
 (51,⟨0x202222220222620260600206200622260200062200002020222222222220260020620062226020006220002222222226222202e0006222602000622000222222222026006220000206444022220102,[],[(8,[.keep [2,3] [2]],[]),(14,[.keep [1,2,4] [1,2]],[.keep [1,2,4] [1,2]]),(20,[.keep [1,2] [1,2]],[]),(30,[.keep [2,3] [2]],[]),(37,[.keep [1,2,6] [1,2]],[.keep [1,2,6] [1,2]]),(43,[.keep [1,2] [1,2]],[]),(49,[.keep [1,2,6,7] [1,2]],[.keep [1,2,6,7] [1,2]]),(55,[.keep [1,2,6] [1,2]],[]),(65,[.keep [2,3] [2]],[]),(73,[.keep [1,2,9] [1,2]],[.keep [1,2,9] [1,2]]),(79,[.keep [1,2] [1,2]],[]),(85,[.keep [1,2,9,10] [1,2]],[.keep [1,2,9,10] [1,2]]),(91,[.keep [1,2,9] [1,2]],[]),(103,[.keep [2,3] [2]],[]),(113,[.keep [2,3] [2]],[]),(119,[.keep [1,2,13] [1,2]],[.keep [1,2,13] [1,2]]),(125,[.keep [2] [2]],[]),(131,[.keep [1,2,13,14] [1,2]],[.keep [1,2,13,14] [1,2]]),(137,[.keep [1,2,13] [1,2]],[]),(147,[.keep [2,3] [2]],[]),(153,[.keep [2,3] [2]],[])]⟩),
 (10,⟨0x2222302022212,[],[]⟩),
 (142,⟨0x2236226200026201,[],[]⟩),
 (159,⟨0x22206c444c0404c0022260062000062202012,[],[(8,[.keep [4] []],[]),(14,[.keep [1,2,5] [2]],[.keep [1,2,5] [2]]),(20,[.keep [] []],[]),(28,[.keep [4] []],[]),(33,[.keep [4] []],[])]⟩),
 (160,⟨0x2222220626220202062202202026022602062600006200012,[],[(6,[.keep [1,2,5] [2]],[.keep [1,2,5] [2]]),(12,[.keep [] []],[]),(18,[.keep [1,2,5,6] [2]],[.keep [1,2,5,6] [2]]),(24,[.keep [1,2,5] [2]],[]),(39,[.keep [4] []],[]),(46,[.keep [4] []],[])]⟩),
 (141,⟨0x26c44260012,[],[]⟩),
 (108,⟨0x2222226260026cc000262226020260062000012,[],[(8,[.canon (.s 5) 2005 1,.keep [1,2,5,6] [2,2005]],[.canon (.s 5) 2005 1,.keep [1,2,5,6] [2,2005]]),(14,[.canon (.s 5) 2005 1,.keep [5] [2005]],[])]⟩),
 (28,⟨0x2222226260026200001,[],[(8,[.keep [0,3,4] []],[.keep [0,3,4] []]),(14,[.keep [3] []],[])]⟩),
 (143,⟨0x222262622260262600260062000262222620201,[],[(8,[.keep [4] []],[]),(14,[.keep [0,1,5] []],[.keep [0,1,5] []]),(20,[.keep [] []],[]),(28,[.keep [4] []],[]),(33,[.keep [4] []],[])]⟩),
 (115,⟨0x2220626002600620000620201,[],[(8,[.keep [4] []],[]),(14,[.keep [0,1,5] []],[.keep [0,1,5] []]),(20,[.keep [] []],[]),(28,[.keep [4] []],[]),(33,[.keep [4] []],[])]⟩),
 (109,⟨0x26622226222266000226c04c00262002226c04c002620001,[],[(6,[.keep [0,1,5] []],[.keep [0,1,5] []]),(12,[.keep [0,1,5] []],[])]⟩),
 (52,⟨0x222222222226260026200026260006200000022026022200222220112,[(7,[.closeS (.s 13)])],[(8,[.closeS (.s 4),.canon (.s 5) 2005 1,.keep [1,4,5] [1,2005]],[.closeS (.s 4),.canon (.s 5) 2005 1,.keep [1,4,5] [1,2005]]),(14,[.canon (.s 5) 2005 1,.keep [5] [2005]],[]),(24,[.canon (.s 2) 2002 1,.keep [2,3] [2002]],[]),(32,[.closeS (.s 4),.canon (.s 5) 2005 1,.keep [1,4,5,6,7] [1,2005]],[.closeS (.s 4),.canon (.s 5) 2005 1,.keep [1,4,5,6,7] [1,2005]]),(38,[.canon (.s 5) 2005 1,.keep [1,5,6] [1,2005]],[]),(46,[.closeS (.s 4),.canon (.s 5) 2005 1,.keep [1,4,5,6,7,8,9] [1,2005]],[.closeS (.s 4),.canon (.s 5) 2005 1,.keep [1,4,5,6,7,8,9] [1,2005]]),(52,[.closeS (.s 4),.canon (.s 5) 2005 1,.keep [1,4,5,6,7] [1,2005]],[]),(61,[.canon (.s 2) 2002 1,.keep [2,3] [2002]],[])]⟩),
 (11,⟨0x26444222222022212,[],[]⟩),
 (150,⟨0x26c4426201,[],[]⟩),
 (185,⟨0x26c4444026402201,[],[]⟩),
 (186,⟨0x26442201,[],[]⟩),
 (170,⟨0x22064c402644c00222600200020064440264402201,[],[(8,[.keep [2] []],[]),(14,[.keep [0,18,19] []],[.keep [0,18,19] []]),(20,[.keep [] []],[]),(30,[.keep [2] []],[]),(35,[.keep [2] []],[])]⟩),
 (172,⟨0x26222212,[],[]⟩),
 (187,⟨0x22226260002000201,[],[(6,[.keep [0,1,7,8] []],[.keep [0,1,7,8] []]),(12,[.keep [] []],[]),(22,[.keep [4] []],[]),(27,[.keep [4] []],[])]⟩),
 (171,⟨0x226221,[],[]⟩),
 (174,⟨0x26222212,[],[]⟩),
 (188,⟨0x22226260002000201,[],[(6,[.keep [0,1,7,8] []],[.keep [0,1,7,8] []]),(12,[.keep [] []],[]),(22,[.keep [4] []],[]),(27,[.keep [4] []],[])]⟩),
 (173,⟨0x226221,[],[]⟩),
 (151,⟨0x222222022222026c0c4402222022020000020022220026c0c44422220202602012,[],[(11,[.keep [4] []],[]),(17,[.keep [4] []],[]),(23,[.keep [5,32,33,34] [5]],[.keep [5,32,33,34] [5]]),(29,[.keep [5] [5]],[]),(40,[.keep [4] []],[]),(46,[.keep [4] []],[]),(55,[.keep [4] []],[]),(59,[.keep [4] []],[])]⟩),
 (152,⟨0x2212,[],[]⟩),
 (176,⟨0x2644426c4402622222022202644422202020122,[],[(18,[.keep [1,3,5,19] [3,5]],[])]⟩),
 (178,⟨0x26222212,[],[]⟩),
 (189,⟨0x22226260002000201,[],[(6,[.keep [0,1,7,8] []],[.keep [0,1,7,8] []]),(12,[.keep [] []],[]),(22,[.keep [4] []],[]),(27,[.keep [4] []],[])]⟩),
 (177,⟨0x226221,[],[]⟩),
 (153,⟨0x2202626220026444022622202022020000020022220026c44022220022e02222226220202200202620201222,[],[(12,[.keep [3,4,5,7,8] [3,4,5,7]],[]),(19,[.keep [6] []],[]),(25,[.keep [6] []],[]),(31,[.keep [6] []],[]),(37,[.keep [5,7,52,53,54] [5,7]],[.keep [5,7,52,53,54] [5,7]]),(43,[.keep [] []],[]),(54,[.keep [6] []],[]),(60,[.keep [6] []],[]),(65,[.keep [6] []],[])]⟩),
 (190,⟨0x26c44426c440222012,[],[]⟩),
 (179,⟨0x2662262221222,[],[]⟩),
 (154,⟨0x2202326222002202001ef200220022022226200223262220022022226200202022020202020200002,[],[(8,[.keep [1,2,3,4,5,12] [1,2,3,4,5,10]],[.keep [] [1,2,3,4,5,10]]),(27,[.keep [] [1,2,3,4,5,10]],[]),(39,[.keep [] [1,2,3,4,5,10]],[]),(47,[.keep [] [1,2,3,4,5,10]],[]),(53,[.keep [2,3,4] [2,3,4,10]],[])]⟩),
 (180,⟨0x222622262222264444c4400222020262222262622020262020222620220122,[],[(12,[.canon (.s 7) 2007 2,.keep [1,5,7,8] [5,2007]],[])]⟩),
 (155,⟨0x20222622230026000226002020000e200262220202622002202202020200022,[],[(6,[.keep [2,3,4,5,13] [2,3,4,5]],[.keep [] [2,3,4,5]]),(14,[.canon (.s 8) 2008 2,.keep [2,3,4,5,6,7,8,13] [2,3,4,5,6,16,2008]],[.canon (.s 8) 2008 2,.keep [2,3,4,5,6,7,8,13] [2,3,4,5,6,16,2008]]),(20,[.keep [2,3,4,5,13] [2,3,4,5]],[]),(29,[.canon (.s 8) 2008 2,.keep [2,3,4,5,6,7,8,13,36,37,38] [2,3,4,5,6,16,2008]],[.canon (.s 8) 2008 2,.keep [2,3,4,5,6,7,8,13,36,37,38] [2,3,4,5,6,16,2008]]),(35,[.canon (.s 8) 2008 2,.keep [2,3,4,5,6,7,8,13] [2,3,4,5,6,16,2008]],[]),(46,[.keep [] [2,3,4,5]],[]),(58,[.keep [4,5] [4,5]],[])]⟩),
 (129,⟨0x20022222020262222222022202002202222202e2002020202222222202600200022002022220002,[],[(8,[.keep [2,3] [2,3]],[]),(14,[.keep [1,2,3,22,23] [1,2,3]],[.keep [1,2,3,22,23] [1,2,3]]),(20,[.keep [1,2,3] [1,2,3]],[]),(32,[.keep [2,3] [2,3]],[]),(39,[.keep [1,2,3,36] [1,2,3]],[.keep [] [1,2,3]]),(51,[.keep [] [1,2,3]],[]),(61,[.keep [2,3] [2,3]],[]),(71,[.keep [2,3] [2,3]],[]),(75,[.keep [2,3] [2,3]],[])]⟩),
 (88,⟨0x2222302022212,[],[]⟩),
 (156,⟨0x26222221,[],[]⟩),
 (64,⟨0x22226260002000201,[],[(6,[.keep [0,1,7,8] []],[.keep [0,1,7,8] []]),(12,[.keep [] []],[]),(22,[.keep [4] []],[]),(27,[.keep [4] []],[])]⟩),
 (116,⟨0x226221,[],[]⟩),
 (131,⟨0x264c4422012,[],[]⟩),
 (132,⟨0x2206c444c440422022200000212,[],[(6,[.keep [2,7,8,9] [2]],[.keep [2,7,8,9] [2]]),(12,[.keep [] []],[]),(22,[.keep [4] []],[]),(27,[.keep [4] []],[])]⟩),
 (133,⟨0x26c444422012,[],[]⟩),
 (135,⟨0x200226c0442602020202202022000222,[],[(8,[.keep [6,7] [6,7]],[]),(14,[.keep [4,5,6,7,15] [4,5,6,7]],[.keep [] [4,5,6,7]]),(24,[.keep [] [4,5,6,7]],[]),(28,[.keep [6,7] [6,7]],[])]⟩),
 (161,⟨0x2220622102,[],[]⟩),
 (148,⟨0x2200222202262222626200203202026220220220200000622260202220000001002,[],[(6,[.keep [1,2,4,5,13,14,15] [2,4,5]],[.keep [1,2,4,5,13,14,15] [2,4,5]]),(12,[.keep [4,5] [4,5]],[]),(20,[.keep [1,2,4,5,7,13,14,15,27,28,29] [2,4,5]],[.keep [1,2,4,5,7,13,14,15,27,28,29] [2,4,5]]),(26,[.keep [1,2,4,5,13,14,15] [2,4,5]],[]),(44,[.keep [4,5,6] [4,5]],[]),(50,[.keep [4,5,6] [4,5]],[])]⟩),
 (134,⟨0x22223300200262212,[],[]⟩),
 (97,⟨0x2202620220000222026202200002220262022000000260012,[],[(8,[.keep [6] []],[]),(14,[.keep [1,2,3,17,18,19] [3]],[.keep [1,2,3,17,18,19] [3]]),(20,[.keep [1,2,3] [3]],[]),(30,[.keep [6] []],[]),(37,[.keep [1,3,28,29,30] [3]],[.keep [1,3,28,29,30] [3]]),(43,[.keep [1,3] [3]],[]),(53,[.keep [6] []],[]),(60,[.keep [3,39,40,41] [3]],[.keep [3,39,40,41] [3]]),(66,[.keep [] []],[]),(76,[.keep [6] []],[]),(81,[.keep [6] []],[])]⟩),
 (99,⟨0x22622212,[],[]⟩),
 (117,⟨0x226221,[],[]⟩),
 (62,⟨0x622022012,[],[]⟩),
 (144,⟨0x2222306222030622222022262222302622022002020000200202000020002,[(53,[.closeS (.s 49)]),(59,[.closeS (.c 3 0),.closeS (.c 3 1)])],[(8,[.canon (.c 3 0) 4060 1,.canon (.c 3 1) 4061 1,.keep [1,2,3,11,12,13] [1,2,3,4060,4061]],[.canon (.c 3 0) 4060 1,.canon (.c 3 1) 4061 1,.keep [1,2,3,11,12,13] [1,2,3,4060,4061]]),(14,[.canon (.c 3 0) 4060 1,.canon (.c 3 1) 4061 1,.keep [2,3] [2,3,4060,4061]],[]),(25,[.canon (.s 6) 2006 2,.canon (.c 3 0) 4060 1,.canon (.c 3 1) 4061 1,.keep [1,2,3,5,6,11,12,13,18,19,20] [1,2,3,5,2006,4060,4061]],[.canon (.s 6) 2006 2,.canon (.c 3 0) 4060 1,.canon (.c 3 1) 4061 1,.keep [1,2,3,5,6,11,12,13,18,19,20] [1,2,3,5,2006,4060,4061]]),(31,[.canon (.s 6) 2006 2,.canon (.c 3 0) 4060 1,.canon (.c 3 1) 4061 1,.keep [1,2,3,5,6,11,12,13] [1,2,3,5,2006,4060,4061]],[]),(44,[.canon (.s 6) 2006 2,.canon (.c 3 0) 4060 1,.canon (.c 3 1) 4061 1,.keep [1,2,3,5,6,9,11,12,13,18,19,20] [1,2,3,5,9,2006,4060,4061]],[])]⟩),
 (162,⟨0x26262222020262620260220626020260012,[],[]⟩),
 (114,⟨0x26200201,[],[(8,[.canon (.s 2) 4004 1],[]),(12,[.canon (.s 2) 4004 1],[])]⟩),
 (184,⟨0x26201,[],[]⟩),
 (183,⟨0x62206000200222202201,[],[]⟩),
 (165,⟨0x62222222220262222620062002220000001,[],[(6,[.keep [0,1,9,10,11] []],[.keep [0,1,9,10,11] []]),(12,[.keep [0,1] []],[]),(23,[.keep [4] []],[]),(34,[.keep [4] []],[]),(43,[.keep [4] []],[]),(47,[.keep [4] []],[])]⟩),
 (164,⟨0x26221,[],[]⟩),
 (40,⟨0x2206262026002000200620201,[],[(8,[.keep [4] []],[]),(14,[.keep [0,1,12,13] []],[.keep [0,1,12,13] []]),(20,[.keep [] []],[]),(30,[.keep [4] []],[]),(35,[.keep [4] []],[])]⟩),
 (167,⟨0x26221,[],[]⟩),
 (145,⟨0x222302222262223622020220e0002000202200002012,[(32,[.closeS (.s 34)])],[(8,[.canon (.s 5) 2005 1,.keep [2,5,10,11,12] [2,2005]],[.canon (.s 5) 2005 1,.keep [2,5,10,11,12] [2,2005]]),(14,[.canon (.s 5) 2005 1,.keep [5] [2005]],[]),(22,[.canon (.s 5) 2005 1,.keep [2,5,7,10,11,12,17,18] [2,2005]],[.canon (.s 5) 2005 1,.keep [2,5,7,10,11,12,17,18] [2,2005]]),(28,[.canon (.s 5) 2005 1,.keep [2,5,10,11,12] [2,2005]],[])]⟩),
 (118,⟨0x2226202620200202620222000222222202000220112,[(16,[.closeS (.s 16)])],[(8,[.canon (.s 2) 2002 1,.keep [2,3] [2002]],[]),(20,[.closeS (.s 5),.canon (.s 6) 2006 1,.keep [4,5,6,7] [4,2006]],[.closeS (.s 5),.canon (.s 6) 2006 1,.keep [4,5,6,7] [4,2006]]),(26,[.canon (.s 6) 2006 1,.keep [6] [2006]],[]),(37,[.canon (.s 2) 2002 1,.keep [2,3] [2002]],[]),(43,[.canon (.s 2) 2002 1,.keep [2,3] [2002]],[])]⟩),
 (63,⟨0x222222220222112,[],[]⟩),
 (65,⟨0x26221,[],[]⟩),
 (23,⟨0x262220220222022220220262001122,[],[]⟩),
 (22,⟨0x22622006c400264026442222220262211,[],[]⟩),
 (24,⟨0x222222220222112,[],[]⟩),
 (43,⟨0x222022112,[],[]⟩),
 (53,⟨0x222272222022200000220e002020620202220202220222102,[],[(26,[.keep [4,8,30,31,32] [4,8,28]],[.keep [4,8,30,31,32] [4,8,28]]),(32,[.keep [4,8] [4,8,28]],[])]⟩),
 (112,⟨0x222236622620002220000022221,[],[(8,[.canon (.s 5) 2005 1,.keep [5,10,11,12] [2005]],[.canon (.s 5) 2005 1,.keep [5,10,11,12] [2005]]),(14,[.canon (.s 5) 2005 1,.keep [5] [2005]],[])]⟩),
 (111,⟨0x226622222012,[],[]⟩),
 (55,⟨0x26622212,[],[]⟩),
 (113,⟨0x222236622620002220000022221,[],[(8,[.canon (.s 5) 2005 1,.keep [5,10,11,12] [2005]],[.canon (.s 5) 2005 1,.keep [5,10,11,12] [2005]]),(14,[.canon (.s 5) 2005 1,.keep [5] [2005]],[])]⟩),
 (56,⟨0x26622212,[],[]⟩),
 (57,⟨0x26001cf4442e00012,[],[]⟩),
 (54,⟨0x22222202264001cf000226622020222000006202022602022200000201112,[],[(6,[.keep [1,2,12,13,14] [2]],[.keep [1,2,12,13,14] [2]]),(12,[.keep [] []],[]),(26,[.keep [1,2,7,8,12,13,14,29,30,31] [2]],[.keep [1,2,7,8,12,13,14,29,30,31] [2]]),(32,[.keep [1,2,12,13,14] [2]],[]),(42,[.keep [4,5,6] []],[]),(48,[.keep [4,5,6] []],[])]⟩),
 (14,⟨0x22222222220026220200022022020262211112,[],[]⟩),
 (66,⟨0x222236e26202600000200020222020220266002112,[],[(18,[.canon (.s 11) 2011 1,.keep [1,2,3,11,25,26] [2011]],[.canon (.s 11) 2011 1,.keep [1,2,3,11,25,26] [2011]]),(24,[.canon (.s 11) 2011 1,.keep [11] [2011]],[])]⟩),
 (67,⟨0x26221,[],[]⟩),
 (25,⟨0x2220e222112,[],[]⟩),
 (68,⟨0x26221,[],[]⟩),
 (26,⟨0x2220e222112,[],[]⟩),
 (58,⟨0x222202622222022226cc004402644c04022222026222036220202206222602026002000200226220222000002011122,[],[(6,[.keep [2,3,15,16,17] [2,3]],[.keep [2,3,15,16,17] [2,3]]),(12,[.keep [] []],[]),(29,[.keep [2,3,8,9,15,16,17,29,30] [2,3]],[.keep [2,3,8,9,15,16,17,29,30] [2,3]]),(35,[.keep [2,3,8,9,15,16,17] [2,3]],[]),(63,[.keep [4,5,6] []],[]),(68,[.keep [4,5,6] []],[])]⟩),
 (15,⟨0x2222222222002622200022022020262011112,[],[]⟩),
 (27,⟨0x2206262026002000200620201,[],[(8,[.keep [4] []],[]),(14,[.keep [0,1,12,13] []],[.keep [0,1,12,13] []]),(20,[.keep [] []],[]),(30,[.keep [4] []],[]),(35,[.keep [4] []],[])]⟩),
 (5,⟨0x26c4444426c002644264264222220260222202600264442222202222222000262206c4442644264426442644264422222202e20e220022202e20e000022202600222026002202222222000260006c4042222220220200644026440264402220020122,[],[(60,[.keep [2,3,5] [2,3]],[])]⟩)]
end Go.VE
namespace Go.VE
namespace trace_events_c1
def zh:List RO:=[o1 20 (.s 18) [],o2 21 (ix 5) [.s 16,.s 18] [],o2 22 (lD 5) [.s 21] [21],o2 6 (.a (.alloc 5 [.int .i64 0,.int .i64 0,.int .i64 0,.int .i64 0,.aG])) [] [],o1 5 (.s 20) [20],oz (.l (.store 5)) [.s 6,.s 22] [22]]
def wF:List RO:=[o1 23 (.s 0) [],o1 24 (.s 3) [],o1 25 (.s 5) [5],o2 26 (bI .add) [.s 25,.k (.int .i64 1)] [25],o2 27 (.p (.build [.int .i64 0,.int .i64 0] [(0,1),(1,1)])) [.s 24,.s 26] [24,26],o2 28 (lD 5) [.s 6] [6],
 o2 29 .c [.s 23,.s 27,.s 28] [23,27,28],o2 30 (.p .not) [.s 29] [29]]
def uf:List RO:=[o2 31 (bI .add) [.s 18,.k (.int .i64 1)] [],o1 18 (.s 31) [31]]
def B4:RC:=.hg (.seq (.ops [o2 19 (bI .lss) [.s 18,.s 17] []]) (.seq (.cond (.s 19) .skip (.exit 2)) (.seq (.block 3 (.seq (.ops zh) (.seq (.ops wF) (.cond (.s 30) .ret .skip)))) (.ops uf)))) (.keep [0,3,8,9,10,16,17,18] [])
def FP:List RO:=[o1 12 (.s 10) [],o2 13 (ix 3) [.s 8,.s 10] [],o2 14 (lD 3) [.s 13] [13],o2 4 (.a (.alloc 3 [.str ByteArray.empty,.aG,.aG])) [] [],o1 3 (.s 12) [12],oz (.l (.store 3)) [.s 4,.s 14] [14]]
def EZ:List RO:=[o2 15 (fa 2) [.s 4] [],o2 16 (ld 1) [.s 15] [15],o2 17 ln [.s 16] [],o1 18 (.k (.int .i64 0)) []]
def CD:List RO:=[o2 32 (bI .add) [.s 10,.k (.int .i64 1)] [],o1 10 (.s 32) [32]]
def U2:RC:=.block 2 (.gh (.keep [0,3,8,9,10,16,17,18] []) (.loop B4))
def JO:RC:=.hg (.seq (.ops [o2 11 (bI .lss) [.s 10,.s 9] []]) (.seq (.cond (.s 11) .skip (.exit 0)) (.seq (.block 1 (.seq (.ops FP) (.seq (.ops EZ) U2))) (.ops CD)))) (.keep [0,8,9,10] [])
def Qa:List RO:=[o2 7 (fa 0) [.s 1] [1],o2 8 (ld 1) [.s 7] [7],o2 9 ln [.s 8] [],o1 10 (.k (.int .i64 0)) []]
def U1:RC:=.block 0 (.gh (.keep [0,8,9,10] []) (.loop JO))
def text:RF:=⟨33,[],.seq (.ops Qa) U1⟩
section
variable {S:Sys}
abbrev I1 (ps:Sl bA) (i:Int) (ws:List (List V)) (more:Bool) (y:Nat):St:=⟨[(0,.yl y),Cv 8 ps,Iv 9 (len ps),Iv 10 i],[],[],ws,more,y⟩
abbrev I2 (ps:Sl bA) (i:Int) (es:Sl Event) (j:Int) (ws:List (List V)) (more:Bool) (y:Nat):St:=⟨[(0,.yl y),Iv 3 i,Cv 8 ps,Iv 9 (len ps),Iv 10 i,Cv 16 es,Iv 17 (len es),Iv 18 j],[],[],ws,more,y⟩
abbrev S2 (ps:Sl bA) (i:Int) (es:Sl Event) (j:Int) (b:Bool) (ws:List (List V)) (more:Bool) (y:Nat):St:=⟨[(0,.yl y),Iv 3 i,Cv 8 ps,Iv 9 (len ps),Iv 10 i,Cv 16 es,Iv 17 (len es),Iv 18 j,Bv 19 b],[],[],ws,more,y⟩
theorem Qe (ps:Sl bA) (i:Int) (es:Sl Event) (j:Int) (ws:List (List V)) (more:Bool) (y:Nat) (hj:decide (j<len es)=false) :
 rn S.bare kP some (.rc B4) [] (I2 ps i es j ws more y)=some (.exit 2,S2 ps i es j false ws more y):=by
 refine Le.get ?_;refine Kf (n:=7) (fo':=.rc (.cond (.s 19) .skip (.exit 2))) (fs':=[.seq (.seq (.block 3 (.seq (.ops zh) (.seq (.ops wF) (.cond (.s 30) .ret .skip)))) (.ops uf)),.gst (.keep [0,3,8,9,10,16,17,18] [])]) (λb=>S2 ps i es j b ws more y) hj (by kernel_rfl) ?_
 exact Le.of_eq (by kernel_rfl)
theorem Tj (ps:Sl bA) (i:Int) (es:Sl Event) (j:Int) (e:Event) (ws:List (List V)) (more:Bool) (y:Nat) (hj:decide (j<len es)=true) (hx:idx es j=some e) (hb:(!(more || !ws.isEmpty))=false) :
 rn S.bare kP some (.rc B4) [] (I2 ps i es j ([enc (⟨i,IntKind.wrap .i64 (j+1)⟩:aa),enc e]::ws) more y)=some (.norm,I2 ps i es (IntKind.wrap .i64 (j+1)) ws more y):=by
 refine Le.get ?_;refine Kt (n:=7) (fo':=.rc (.cond (.s 19) .skip (.exit 2))) (fs':=[.seq (.seq (.block 3 (.seq (.ops zh) (.seq (.ops wF) (.cond (.s 30) .ret .skip)))) (.ops uf)),.gst (.keep [0,3,8,9,10,16,17,18] [])]) (λb=>S2 ps i es j b ([enc (⟨i,IntKind.wrap .i64 (j+1)⟩:aa),enc e]::ws) more y) hj (by kernel_rfl) ?_
 refine Mg hx ?_;refine Mf 8 false [] (zh.drop 1) [.seq (.seq (.ops wF) (.cond (.s 30) .ret .skip)),.blk 3,.seq (.ops uf),.gst (.keep [0,3,8,9,10,16,17,18] [])] ⟨[(0,.yl y),Iv 3 i,Cv 8 ps,Iv 9 (len ps),Iv 10 i,Cv 16 es,Iv 17 (len es),Iv 18 j,Bv 19 true,Iv 20 j],[],[],([enc (⟨i,IntKind.wrap .i64 (j+1)⟩:aa),enc e]::ws),more,y⟩ .i64 rfl (by kernel_rfl) λx h1=>?_
 obtain rfl:x=e:=by rw[hx]at h1;cases h1;rfl
 refine QM 1 false [] (zh.drop 3) [.seq (.seq (.ops wF) (.cond (.s 30) .ret .skip)),.blk 3,.seq (.ops uf),.gst (.keep [0,3,8,9,10,16,17,18] [])] ⟨[(0,.yl y),Iv 3 i,Cv 8 ps,Iv 9 (len ps),Iv 10 i,Cv 16 es,Iv 17 (len es),Iv 18 j,Bv 19 true,Iv 20 j,Cv 22 x],[],[],([enc (⟨i,IntKind.wrap .i64 (j+1)⟩:aa),enc x]::ws),more,y⟩ [iv 0,iv 0,iv 0,iv 0,.v .aG] rfl (by simp only[aN,vv,nH,pe,nR,pq,qF,pN,q9,nM,pF,vz,qZ,qO,qD,rj,ta,tf,pQ,qQ,SV.bT];rfl) (by kernel_rfl) ?_
 refine Ast 1 false [] (zh.drop 5) [.seq (.seq (.ops wF) (.cond (.s 30) .ret .skip)),.blk 3,.seq (.ops uf),.gst (.keep [0,3,8,9,10,16,17,18] [])] ⟨[(0,.yl y),Iv 3 i,Cv 8 ps,Iv 9 (len ps),Iv 10 i,Cv 16 es,Iv 17 (len es),Iv 18 j,Bv 19 true,Cv 22 x,Pv 6,Iv 5 j],[Xb 6 (⟨0,0,0,0,.nil⟩:Event)],[],([enc (⟨i,IntKind.wrap .i64 (j+1)⟩:aa),enc x]::ws),more,y⟩ 6 0 x [iv 0,iv 0,iv 0,iv 0,.v .aG] ((cells x).map .v) rfl (by kernel_rfl) ?_
 refine TG (n:=10) (q:=wF.drop 6) (fs':=[.seq (.cond (.s 30) .ret .skip),.blk 3,.seq (.ops uf),.gst (.keep [0,3,8,9,10,16,17,18] [])]) (st:=⟨[(0,.yl y),Iv 3 i,Cv 8 ps,Iv 9 (len ps),Iv 10 i,Cv 16 es,Iv 17 (len es),Iv 18 j,Bv 19 true,(23,.yl y),Cv 27 (⟨i,IntKind.wrap .i64 (j+1)⟩:aa),Cv 28 x],[Xb 6 x],[],([enc (⟨i,IntKind.wrap .i64 (j+1)⟩:aa),enc x]::ws),more,y⟩) (vs:=[cv (⟨i,IntKind.wrap .i64 (j+1)⟩:aa),cv x]) (by kernel_rfl) rfl (by kernel_rfl) (by kernel_rfl) rfl rfl ?_
 refine Kf (n:=3) (fo':=.rc (.cond (.s 30) .ret .skip)) (fs':=[.blk 3,.seq (.ops uf),.gst (.keep [0,3,8,9,10,16,17,18] [])]) (λb=>⟨[(0,.yl y),Iv 3 i,Cv 8 ps,Iv 9 (len ps),Iv 10 i,Cv 16 es,Iv 17 (len es),Iv 18 j,Bv 19 true,Bv 30 b],[Xb 6 x],[],ws,more,y⟩) hb (by kernel_rfl) ?_
 exact Le.of_eq (by kernel_rfl)
theorem Od (ps:Sl bA) (i:Int) (es:Sl Event) (j:Int) (e:Event) (ws:List (List V)) (more:Bool) (y:Nat) (hj:decide (j<len es)=true) (hx:idx es j=some e) (hb:(!(more || !ws.isEmpty))=true) :
 rn S.bare kP some (.rc B4) [] (I2 ps i es j ([enc (⟨i,IntKind.wrap .i64 (j+1)⟩:aa),enc e]::ws) more y)=some (.ret,⟨[(0,.yl y),Iv 3 i,Cv 8 ps,Iv 9 (len ps),Iv 10 i,Cv 16 es,Iv 17 (len es),Iv 18 j,Bv 19 true,Bv 30 true],[Xb 6 e],[],ws,more,y⟩):=by
 refine Le.get ?_;refine Kt (n:=7) (fo':=.rc (.cond (.s 19) .skip (.exit 2))) (fs':=[.seq (.seq (.block 3 (.seq (.ops zh) (.seq (.ops wF) (.cond (.s 30) .ret .skip)))) (.ops uf)),.gst (.keep [0,3,8,9,10,16,17,18] [])]) (λb=>S2 ps i es j b ([enc (⟨i,IntKind.wrap .i64 (j+1)⟩:aa),enc e]::ws) more y) hj (by kernel_rfl) ?_
 refine Mg hx ?_;refine Mf 8 false [] (zh.drop 1) [.seq (.seq (.ops wF) (.cond (.s 30) .ret .skip)),.blk 3,.seq (.ops uf),.gst (.keep [0,3,8,9,10,16,17,18] [])] ⟨[(0,.yl y),Iv 3 i,Cv 8 ps,Iv 9 (len ps),Iv 10 i,Cv 16 es,Iv 17 (len es),Iv 18 j,Bv 19 true,Iv 20 j],[],[],([enc (⟨i,IntKind.wrap .i64 (j+1)⟩:aa),enc e]::ws),more,y⟩ .i64 rfl (by kernel_rfl) λx h1=>?_
 obtain rfl:x=e:=by rw[hx]at h1;cases h1;rfl
 refine QM 1 false [] (zh.drop 3) [.seq (.seq (.ops wF) (.cond (.s 30) .ret .skip)),.blk 3,.seq (.ops uf),.gst (.keep [0,3,8,9,10,16,17,18] [])] ⟨[(0,.yl y),Iv 3 i,Cv 8 ps,Iv 9 (len ps),Iv 10 i,Cv 16 es,Iv 17 (len es),Iv 18 j,Bv 19 true,Iv 20 j,Cv 22 x],[],[],([enc (⟨i,IntKind.wrap .i64 (j+1)⟩:aa),enc x]::ws),more,y⟩ [iv 0,iv 0,iv 0,iv 0,.v .aG] rfl (by simp only[aN,vv,nH,pe,nR,pq,qF,pN,q9,nM,pF,vz,qZ,qO,qD,rj,ta,tf,pQ,qQ,SV.bT];rfl) (by kernel_rfl) ?_
 refine Ast 1 false [] (zh.drop 5) [.seq (.seq (.ops wF) (.cond (.s 30) .ret .skip)),.blk 3,.seq (.ops uf),.gst (.keep [0,3,8,9,10,16,17,18] [])] ⟨[(0,.yl y),Iv 3 i,Cv 8 ps,Iv 9 (len ps),Iv 10 i,Cv 16 es,Iv 17 (len es),Iv 18 j,Bv 19 true,Cv 22 x,Pv 6,Iv 5 j],[Xb 6 (⟨0,0,0,0,.nil⟩:Event)],[],([enc (⟨i,IntKind.wrap .i64 (j+1)⟩:aa),enc x]::ws),more,y⟩ 6 0 x [iv 0,iv 0,iv 0,iv 0,.v .aG] ((cells x).map .v) rfl (by kernel_rfl) ?_
 refine TG (n:=10) (q:=wF.drop 6) (fs':=[.seq (.cond (.s 30) .ret .skip),.blk 3,.seq (.ops uf),.gst (.keep [0,3,8,9,10,16,17,18] [])]) (st:=⟨[(0,.yl y),Iv 3 i,Cv 8 ps,Iv 9 (len ps),Iv 10 i,Cv 16 es,Iv 17 (len es),Iv 18 j,Bv 19 true,(23,.yl y),Cv 27 (⟨i,IntKind.wrap .i64 (j+1)⟩:aa),Cv 28 x],[Xb 6 x],[],([enc (⟨i,IntKind.wrap .i64 (j+1)⟩:aa),enc x]::ws),more,y⟩) (vs:=[cv (⟨i,IntKind.wrap .i64 (j+1)⟩:aa),cv x]) (by kernel_rfl) rfl (by kernel_rfl) (by kernel_rfl) rfl rfl ?_
 refine Kt (n:=3) (fo':=.rc (.cond (.s 30) .ret .skip)) (fs':=[.blk 3,.seq (.ops uf),.gst (.keep [0,3,8,9,10,16,17,18] [])]) (λb=>⟨[(0,.yl y),Iv 3 i,Cv 8 ps,Iv 9 (len ps),Iv 10 i,Cv 16 es,Iv 17 (len es),Iv 18 j,Bv 19 true,Bv 30 b],[Xb 6 x],[],ws,more,y⟩) hb (by kernel_rfl) ?_
 exact Le.of_eq (by kernel_rfl)
abbrev S1 (ps:Sl bA) (i:Int) (b:Bool) (ws:List (List V)) (more:Bool) (y:Nat):St:=⟨[(0,.yl y),Cv 8 ps,Iv 9 (len ps),Iv 10 i,Bv 11 b],[],[],ws,more,y⟩
theorem Rh (ps:Sl bA) (i:Int) (ws:List (List V)) (more:Bool) (y:Nat) (hj:decide (i<len ps)=false) :
 rn S.bare kP some (.rc JO) [] (I1 ps i ws more y)=some (.exit 0,S1 ps i false ws more y):=by
 refine Le.get ?_;refine Kf (n:=7) (fo':=.rc (.cond (.s 11) .skip (.exit 0))) (fs':=[.seq (.seq (.block 1 (.seq (.ops FP) (.seq (.ops EZ) U2))) (.ops CD)),.gst (.keep [0,8,9,10] [])]) (λb=>S1 ps i b ws more y) hj (by kernel_rfl) ?_
 exact Le.of_eq (by kernel_rfl)
def MZ:List Fm:=[.blk 2,.blk 1,.seq (.ops CD),.gst (.keep [0,8,9,10] [])]
theorem MO (ps:Sl bA) (i:Int) (p:bA) (ws:List (List V)) (more:Bool) (y:Nat) (r:Out×St) (hj:decide (i<len ps)=true) (hx:idx ps i=some p)
 (h:rn S.bare kP some (.rc (.loop B4)) MZ (I2 ps i p.events 0 ws more y)=some r):rn S.bare kP some (.rc JO) [] (I1 ps i ws more y)=some r:=by
 refine Le.get ?_;refine Kt (n:=7) (fo':=.rc (.cond (.s 11) .skip (.exit 0))) (fs':=[.seq (.seq (.block 1 (.seq (.ops FP) (.seq (.ops EZ) U2))) (.ops CD)),.gst (.keep [0,8,9,10] [])]) (λb=>S1 ps i b ws more y) hj (by kernel_rfl) ?_
 refine Mg hx ?_;refine Mf 8 false [] (FP.drop 1) [.seq (.seq (.ops EZ) U2),.blk 1,.seq (.ops CD),.gst (.keep [0,8,9,10] [])] ⟨[(0,.yl y),Cv 8 ps,Iv 9 (len ps),Iv 10 i,Bv 11 true,Iv 12 i],[],[],ws,more,y⟩ .i64 rfl (by kernel_rfl) λx h1=>?_
 obtain rfl:x=p:=by rw[hx]at h1;cases h1;rfl
 refine QM 1 false [] (FP.drop 3) [.seq (.seq (.ops EZ) U2),.blk 1,.seq (.ops CD),.gst (.keep [0,8,9,10] [])] ⟨[(0,.yl y),Cv 8 ps,Iv 9 (len ps),Iv 10 i,Bv 11 true,Iv 12 i,Cv 14 x],[],[],ws,more,y⟩ [.v (.str ByteArray.empty),.v .aG,.v .aG] rfl (by simp only[aN,vv,nH,pe,nR,pq,qF,pN,q9,nM,pF,vz,qZ,qO,qD,rj,ta,tf,pQ,qQ,SV.bT];rfl) (by kernel_rfl) ?_
 refine Ast 1 false [] (FP.drop 5) [.seq (.seq (.ops EZ) U2),.blk 1,.seq (.ops CD),.gst (.keep [0,8,9,10] [])] ⟨[(0,.yl y),Cv 8 ps,Iv 9 (len ps),Iv 10 i,Bv 11 true,Cv 14 x,Pv 4,Iv 3 i],[Xb 4 (⟨ByteArray.empty,.nil,.nil⟩:bA)],[],ws,more,y⟩ 4 0 x [.v (.str ByteArray.empty),.v .aG,.v .aG] ((cells x).map .v) rfl (by kernel_rfl) ?_
 refine QK 6 false [] (EZ.drop 2) [.seq U2,.blk 1,.seq (.ops CD),.gst (.keep [0,8,9,10] [])] ⟨[(0,.yl y),Cv 8 ps,Iv 9 (len ps),Iv 10 i,Bv 11 true,Pv 4,Iv 3 i,Cv 16 x.events],[Xb 4 x],[],ws,more,y⟩ x.events rfl (by kernel_rfl) ?_
 refine BC (n:=5) (fo':=.rc (.loop B4)) (fs':=MZ) (st':=I2 ps i x.events 0 ws more y) (by kernel_rfl) (Le.of_eq h)
theorem OX (ps:Sl bA) (i:Int) (es:Sl Event) (j:Int) (ws:List (List V)) (more:Bool) (y:Nat) :
 rn S.bare kP some (.ex 2) MZ (S2 ps i es j false ws more y)=some (.norm,I1 ps (IntKind.wrap .i64 (i+1)) ws more y):=by kernel_rfl
theorem wrap_small (n:Nat) (h:n<9223372036854775807):IntKind.wrap .i64 ((n:Int)+1)=((n+1:Nat):Int):=by
 simp[IntKind.wrap,IntKind.bits,IntKind.signed];omega
abbrev eI (x:aa×Event):List V:=[enc x.1,enc x.2]
theorem Bk.step {x:List V} {ws rest:List (List V)} {more:Bool} (h:Bk ws (x::rest) more):∃ws',ws=x::ws'/\((!(more || !ws'.isEmpty))=false/\Bk ws' rest more\/(!(more || !ws'.isEmpty))=true/\ws'=[]):=by
 rcases h with⟨rfl,rfl⟩|⟨rfl,hn,r,hr⟩
 .exact⟨rest,rfl,.inl ⟨rfl,.inl ⟨rfl,rfl⟩⟩⟩
 .cases ws with
  | nil=>exact absurd rfl hn
  | cons w ws=>
   simp only[List.cons_append,List.cons.injEq]at hr;obtain⟨rfl,rfl⟩:=hr;refine⟨ws,rfl,?_⟩
   cases ws with
   | nil=>exact .inr ⟨rfl,rfl⟩
   | cons z zs=>exact .inl ⟨rfl,.inr ⟨rfl,by simp,r,rfl⟩⟩
theorem Er {α:Type} {s:Sl α} {j:Nat} {x:α} {r:List α} (h:s.l.drop j=x::r):idx s (j:Int)=some x/\decide ((j:Int)<len s)=true/\s.l.drop (j+1)=r:=by
 have h1:j<s.l.length:=by
  apply Classical.byContradiction;intro hn;rw[List.drop_eq_nil_of_le (by omega)]at h;cases h
 have h2:=List.drop_eq_getElem_cons h1;rw[h2]at h;simp only[List.cons.injEq]at h;refine⟨?_,by simp[len,h1],h.2⟩
 unfold idx;rw[if_pos (by omega)]
 simp[ζd h1,h.1]
variable {Q:Out×St->Option (Out×St)} {fs:List Fm}
theorem inner (ps:Sl bA) (i:Int) (es:Sl Event) (hl:es.l.length<9223372036854775807) (more:Bool) (y:Nat) (R:List (List V)):∀(rem:List Event) (j:Nat),es.l.drop j=rem->∀ws,Bk ws ((gj i j rem).map eI++R) more ->
 (∃(ws':List (List V)) (j':Int),Bk ws' R more/\rn S.bare kP Q (.rc (.loop B4)) fs (I2 ps i es j ws more y)=rn S.bare kP Q (.ex 2) fs (S2 ps i es j' false ws' more y)) \/
 (∃st':St,st'.want=[]/\rn S.bare kP Q (.rc (.loop B4)) fs (I2 ps i es j ws more y)=Q (.ret,st'))
 | [],j,hd,ws,hw=>by
  have h1:decide ((j:Int)<len es)=false:=by
   have:es.l.length<=j:=by simpa using hd
   simp[len];omega
  exact .inl ⟨ws,j,by simpa [gj]using hw,Co (Qe ps i es j ws more y h1)⟩
 | e::rem,j,hd,ws,hw=>by
  obtain⟨h1,h2,h3⟩:=Er hd;have hj:j<es.l.length:=by simpa [len]using h2
  simp only[gj,List.map_cons,List.cons_append]at hw;obtain⟨ws',rfl,hb⟩:=Bk.step hw;have hwr:=wrap_small j (by omega)
  have hji:((j:Int)+1)=IntKind.wrap .i64 ((j:Int)+1):=by rw[hwr];simp
  rcases hb with⟨hb,hd'⟩|⟨hb,rfl⟩
  .have k:=Tj (S:=S) ps i es j e ws' more y h2 h1 hb;rw[<-hji]at k;have k2:=C1 (Q:=Q) (fs:=fs) k;have ih:=inner ps i es hl more y R rem (j+1) h3 ws' (by push_cast;exact hd')
   rw[show ((j+1:Nat):Int)=(j:Int)+1 from rfl]at ih;rcases ih with⟨ws2,j2,g1,g2⟩|⟨st',g1,g2⟩
   .exact .inl ⟨ws2,j2,g1,k2.trans g2⟩
   .exact .inr ⟨st',g1,k2.trans g2⟩
  .have k:=Od (S:=S) ps i es j e [] more y h2 h1 hb;rw[<-hji]at k;exact .inr ⟨_,by rfl,Cx k⟩
theorem outer (ps:Sl bA) (hl:ps.l.length<9223372036854775807) (hes:∀p∈ps.l,p.events.l.length<9223372036854775807) (more:Bool) (y:Nat):∀(rem:List bA) (i:Nat),ps.l.drop i=rem->∀ws,Bk ws ((dX i rem).map eI) more ->
 rn S.bare kP Qi (.rc (.loop JO)) [.blk 0] (I1 ps i ws more y)=some ()
 | [],i,hd,ws,hw=>by
  have h1:decide ((i:Int)<len ps)=false:=by
   have:ps.l.length<=i:=by simpa using hd
   simp[len];omega
  rw[Co (Rh ps i ws more y h1)];have:ws=[]:=by
   rcases hw with⟨_,rfl⟩|⟨_,hn,r,hr⟩
   .rfl
   .have:ws=[]:=by cases ws with
     | nil=>rfl
     | cons=>simp[dX]at hr
    exact absurd this hn
  subst this;rfl
 | p::rem,i,hd,ws,hw=>by
  obtain⟨h1,h2,h3⟩:=Er hd;have hi:i<ps.l.length:=by simpa [len]using h2
  have hp:p∈ps.l:=List.mem_of_mem_drop (i:=i) (by rw[hd];exact List.mem_cons_self ..)
  simp only[dX,List.map_append]at hw;have hwr:=wrap_small i (by omega)
  rcases inner (S:=S) (Q:=some) (fs:=MZ) ps i p.events (hes p hp) more y _ p.events.l 0 rfl ws hw with⟨ws',j',g1,g2⟩|⟨st',g1,g2⟩
  .rw[OX,hwr]at g2;rw[C1 (MO ps i p ws more y _ h2 h1 g2)];exact outer ps hl hes more y rem (i+1) h3 ws' g1
  .rw[Cx (MO ps i p ws more y _ h2 h1 g2)];simp[Qi,g1]
theorem all (t:Trace) (its:List (aa×Event)) (h:gE t=some its) (ws:List (List V)) (more:Bool) (hw:Bk ws (its.map eI) more) (y:Nat) :
 rn S.bare kP Qi (.rc text.body) [] ⟨u5 0 (([]:List V).map .v++.yl y::[V.fptr (cells t)].map .v),[],[],ws,more,y⟩=some ():=by
 unfold gE at h;split at h
 .rename_i hk;cases h;simp only[ζh,List.all_eq_true,Dp,decide_eq_true_eq]at hk;refine Le.get ?_;refine QK 4 false [] (Qa.drop 2) [.seq U1] ⟨[(0,.yl y),Cv 8 t.procs],[],[],ws,more,y⟩ t.procs rfl (by kernel_rfl) ?_
  refine BC (n:=5) (fo':=.rc (.loop JO)) (fs':=[.blk 0]) (st':=I1 t.procs 0 ws more y) (by kernel_rfl) (Le.of_eq ?_)
  exact outer t.procs hk.1 hk.2 more y t.procs.l 0 rfl ws hw
 .cases h
end
theorem FY {α:Type} [aB α] {a b:Sl α} (h:aX a=aX b):rows a.l=rows b.l:=by
 cases a <;> cases b <;> first|rfl|(simp only[aX,Sl.k,lq,V.fsl.injEq,true_and,reduceCtorEq]at h;done)|(simp only[aX,Sl.k,lq,V.fsl.injEq,true_and,reduceCtorEq]at h;exact h)
theorem D2 (p:Int):∀(es es':List Event) (j:Int),rows es=rows es'->(gj p j es).map eI=(gj p j es').map eI
 | [],[],_,_=>rfl
 | [],_::_,_,h=>by simp[rows]at h
 | _::_,[],_,h=>by simp[rows]at h
 | e::es,e'::es',j,h=>by
  simp only[rows,List.map_cons,List.cons.injEq]at h;have h1:enc e=enc e':=by show V.agg (cells e)=V.agg (cells e');rw[h.1]
  simp only[gj,List.map_cons,eI,h1,D2 p es es' (j+1) h.2]
theorem AA:∀(ps ps':List bA) (i:Int),rows ps=rows ps'->(dX i ps).map eI=(dX i ps').map eI
 | [],[],_,_=>rfl
 | [],_::_,_,h=>by simp[rows]at h
 | _::_,[],_,h=>by simp[rows]at h
 | p::ps,p'::ps',i,h=>by
  simp only[rows,List.map_cons,List.cons.injEq]at h;have h1:aX p.events=aX p'.events:=by
   have:=h.1;change [V.str p.name,aX p.vars,aX p.events]=[V.str p'.name,aX p'.vars,aX p'.events]at this;simp only[List.cons.injEq]at this;exact this.2.2.1
  simp only[dX,List.map_append,D2 i _ _ 0 (FY h1),AA ps ps' (i+1) h.2]
def Di (f:FuncId) (g:FuncId) (a b:List V) (xs:List (List V)):Prop:=∃(t:Trace) (its:List (aa×Event)),g=f/\a=[]/\b=[.fptr (cells t)]/\gE t=some its/\xs=its.map eI
theorem Di.uniq {f g:FuncId} {a b:List V} {xs ys:List (List V)} (h:Di f g a b xs) (k:Di f g a b ys):xs=ys:=by
 obtain⟨t,its,rfl,rfl,rfl,h1,rfl⟩:=h;obtain⟨t',its',_,_,h2,h3,rfl⟩:=k;simp only[List.cons.injEq,V.fptr.injEq,and_true]at h2;have h4:aX t.procs=aX t'.procs:=by
  change [aX t.procs]=[aX t'.procs]at h2;simpa using h2
 unfold gE at h1 h3;split at h1 <;> split at h3 <;> simp only[ζa,reduceCtorEq]at h1 h3;subst h1 h3;exact AA _ _ 0 (FY h4)
end trace_events_c1
end Go.VE
namespace Go.VE
open Go.Proofs.YtdoibkkdaojjpaaGreat
noncomputable section
noncomputable def HP (f:FuncId):Option CF:=bif Nat.beq f 166 then some (qd E)else bif Nat.beq f 163 then some (oJ E)else none
noncomputable def Sy:Sys:=⟨E,λn=>n,ve (trace_events_c1.Di 175),xu E,HP⟩
theorem OJ:Sy.prm 166=some (qd Sy.E):=by kernel_rfl
theorem N6:Sy.prm 163=some (oJ Sy.E):=by kernel_rfl
theorem Rz:∀f q,HP f=some q->lT E f q:=by
 intro f q h;unfold HP at h
 cases h1:Nat.beq f 166 with
 | true=>
  rw[h1]at h;cases h;have:=Nat.eq_of_beq_eq_true h1;subst this;exact Lw yH (by kernel_rfl) (by kernel_rfl) (Aj (by kernel_rfl))
 | false=>
  rw[h1]at h
  cases h1:Nat.beq f 163 with
  | true=>
   rw[h1]at h;cases h;have:=Nat.eq_of_beq_eq_true h1;subst this;exact Lt (by kernel_rfl) (by kernel_rfl) (by kernel_rfl) (by kernel_rfl)
  | false=>
   rw[h1]at h;cases h
def Tx:qt:=LU E some (lk UK)
abbrev cL:bF:=cA Sy Tx
theorem RU:∃fi,E.ft 175=some fi/\v_ E some fi trace_events_c1.text:=Rm (by kernel_rfl)
theorem Df:oK Sy Tx where
 fn f rf h:=let ⟨fi,h1,h2⟩:=K8 h;⟨fi,some,h1,yH,h2⟩
 wD f bs y h:=I7 h
 prm:=Rz
theorem yI:∀f a b xs,Sy.items f a b=some xs->dW Sy f a b xs:=by
 intro f a b xs h;obtain⟨t,its,rfl,rfl,rfl,h1,rfl⟩:=HG h;obtain⟨fi,h2,h3⟩:=RU;exact LL Sy h2 yH h3 (Nat.le_of_ble_eq_true rfl) rfl λws more hw y=>trace_events_c1.all t its h1 ws more hw y
theorem wh (t:Trace) (its:List (aa×Event)) (h:gE t=some its):Sy.items 175 [] [.fptr (cells t)]=some (its.map λx:aa×Event=>[enc x.1,enc x.2]):=
 HA ⟨t,its,rfl,rfl,rfl,h,rfl⟩ λys hy=>hy.uniq ⟨t,its,rfl,rfl,rfl,h,rfl⟩
theorem Jj:Sy.wD 8 []=some (.bool true):=tV (FA rfl ⟨1,[],by kernel_rfl⟩)
end
end Go.VE
namespace Go.VE
noncomputable section
def rM (t0:Trace) (x1:aa):Option Event:=
 (idx t0.procs x1.proc).bind λx_1=>
 (idx x_1.events (IntKind.wrap .i64 (x1.index-1))).bind λx_2=>
 some x_2
instance Sd (t0:Trace) (x1:aa):Fc Sy cL (rM t0 x1):=Fc.N 139 [enc t0,enc x1] (cw 2 2 t0 (bq 10 λx_1 _=>bq 5 λx_2 _=>lp 1 4 0 x_2 ah))
namespace cD
def bt (kind1 m2 p7:Int) (tb3:Trace) (vb6:aa) (i8:Int):Option (Fw Int Unit aa):=
 (idx tb3.procs p7).bind λx_1=>
 aq (decide (i8<(len x_1.events)))
 ((idx tb3.procs p7).bind λx_2=>
 (idx x_2.events i8).bind λx_3=>
 (aq (x_3.kind==kind1)
 (some (x_3.message==m2))
 (some false):Option Bool).bind λx_4=>
 aq x_4
 (some (.r (⟨p7,IntKind.wrap .i64 (i8+1)⟩:aa)))
 (some (.n (IntKind.wrap .i64 (i8+1)))))
 (some (.x ()))
def W2 (kind1 m2 p7 i8:Int) (tb3:Trace) (vb6:aa):Option (Fw Int Unit aa):=
 (aV (λq:Int=>bt kind1 m2 p7 tb3 vb6 q) i8).bind (Fw.elim
 (λe=>some (.n (IntKind.wrap .i64 (p7+1))))
 (λe=>some (.r e)))
def ax (kind1 m2:Int) (tb3:Trace) (vb6:aa) (p7:Int):Option (Fw Int Unit aa):=
 aq (decide (p7<(len tb3.procs)))
 (W2 kind1 m2 p7 0 tb3 vb6)
 (some (.x ()))
def W1 (kind1 m2 p7:Int) (tb3:Trace) (vb6:aa):Option aa:=
 (aV (λq:Int=>ax kind1 m2 tb3 vb6 q) p7).bind (Fw.elim
 (λe=>some ⟨0,0⟩)
 (λe=>some e))
end cD
def cD (t0:Trace) (kind1 m2:Int):Option aa:=
 cD.W1 kind1 m2 0 t0 (⟨0,0⟩:aa)
open cD in
instance Pe (t0:Trace) (kind1 m2:Int):Fc Sy cL (cD t0 kind1 m2):=Fc.M 127 [enc t0,.int .i64 kind1,.int .i64 m2] (cw 2 3 t0 (cN 11 (λqW1=>(aN [Iv 1 kind1,Iv 2 m2,Pv 3,Pv 6,Iv 7 qW1] [Xb 3 t0,Xb 6 (⟨0,0⟩:aa)])) (λeW1=>(0,(aN [Pv 6] [Xb 6 (⟨0,0⟩:aa)]))) (λeW1=>(aN [Pv 6] [Xb 6 eW1])) (λqW1=>bf 7 t0.procs (aH 3 14 (cN 12 (λqW2=>(aN [Iv 1 kind1,Iv 2 m2,Pv 3,Pv 6,Iv 7 qW1,Iv 8 qW2] [Xb 3 t0,Xb 6 (⟨0,0⟩:aa)])) (λeW2=>(2,(aN [Iv 1 kind1,Iv 2 m2,Pv 3,Pv 6,Iv 7 qW1] [Xb 3 t0,Xb 6 (⟨0,0⟩:aa)]))) (λeW2=>(aN [Pv 6] [Xb 6 eW2])) (λqW2=>bq 8 λx_1 _=>bf 2 x_1.events (aH 3 25 (bq 10 λx_2 _=>bq 3 λx_3 _=>lp 2 9 0 x_3 (bh 9 5 [9,41] 46 (aH 9 41 (aC 5) (aC 5)) λx_4=>aH 2 46 ah ah)) ah)) (λeW2=>ah) (λeW2=>ah)) ah)) (λeW1=>ah) (λeW1=>ah)))
namespace cB
def J1 (out5:Sl aa) (tb2:Trace) (xb3:aa):Option (Sl aa):=
 (rM tb2 xb3).bind λx_1=>
 aq (x_1.kind==3)
 ((cD tb2 2 x_1.message).bind λx_2=>
 (iT out5 (x_2:aa)).bind λx_3=>
 some x_3)
 (some out5)
end cB
def cB (t0:Trace) (x1:aa):Option (Sl aa):=
 aq (decide (x1.index>1))
 (cB.J1 (Sl.row [⟨x1.proc,IntKind.wrap .i64 (x1.index-1)⟩]:Sl aa) t0 x1)
 (cB.J1 (Sl.nil:Sl aa) t0 x1)
open cB in
theorem wL (t0:Trace) (x1:aa):Le ((cB t0 x1).bind λr=>some (bW r)) (bz Sy cL (BL (tr Tx 140)) (.rc (tb Tx 140),[],start ([enc t0,enc x1].map .v) [])):=
 cw 2 2 t0 (aH 17 9 (Nc 10 17 18 .aG (⟨x1.proc,IntKind.wrap .i64 (x1.index-1)⟩:aa) (xU 5 (aO 4 λx_1 _=>lp 1 6 0 x_1 (aH 10 24 (aO 6 λx_2 _=>sj 1 2005 30 31 λx_3 _=>ah) ah)))) (xU 5 (aO 4 λx_1 _=>lp 1 6 0 x_1 (aH 10 24 (aO 6 λx_2 _=>sj 1 2005 30 31 λx_3 _=>ah) ah))))
def lH (dir:aa->Option (Sl aa)):List (List Bool)×List aa->Option (Fw (List (List Bool)×List aa) (List (List Bool)) Empty)
 | (out,[])=>some (.x out)
 | (out,y::rest)=>if 0<=y.proc/\0<=y.index then(out[y.proc.toNat]?).bind λrow=>(row[y.index.toNat]?).bind λb=>
  aq b (some (.n (out,rest))) ((dir y).bind λmore=>if rest.length+more.l.length<=2147483648 then some (.n (out.set y.proc.toNat (row.set y.index.toNat true),rest++more.l))else none)else none
def eT (t:Trace):List (List Bool):=t.procs.l.map λP=>List.replicate (P.events.l.length+1) false
def wQ (t:Trace):Bool:=decide (t.procs.l.length<=2147483648)&&t.procs.l.all λP=>decide (P.events.l.length+1<=2147483648)
def nested (out:List (List Bool)):Sl (Sl Bool):=if out=[]then .nil else .row (out.map .row)
def kK (t:Trace) (x:aa):Option (Sl (Sl Bool)):=
 if wQ t then(cB t x).bind λs=>(aV (lH (cB t)) (eT t,s.l)).bind (Fw.elim (λout=>some (nested out)) (λe=>Empty.elim e))else none
end
end Go.VE
namespace Go.VE
namespace pastX
abbrev tY:Nat->FuncId:=λn=>n
def r1:List RO:=[o2 2 (.a .box) [0] [],o2 3 (.a .box) [1] [],o1 4 (.k (.aG)) []]
def r2:List RO:=[o1 5 (.k (.aG)) []]
def r3:List RO:=[o1 6 (.k (.int .i64 0)) []]
def r4:List RO:=[o1 11 6 [],o2 12 (fa 0) [2] [],o2 13 (ld 1) [12] [],o2 14 ln [13] [],o2 15 (bI .lss) [11,14] []]
def r5:List RO:=[o1 18 5 [],o2 19 (fa 0) [2] [],o2 20 (ld 1) [19] [],o1 21 6 [],o2 22 (ix 3) [20,21] [],o2 23 (fa 2) [22] [],o2 24 (ld 1) [23] [],o2 25 ln [24] [],o2 26 (bI .add) [25,.k (.int .i64 1)] [],o2 27 (.a (.makeSl 1 [.bool false])) [26,26] [],o2 28 (.a (.buildSl 1 1 [.aG] [0])) [27] [],o2 29 (.l (.append 1)) [18,28] [],o1 5 29 []]
def r6:List RO:=[o1 16 6 [],o2 17 (bI .add) [16,.k (.int .i64 1)] [],o1 6 17 []]
def L1:RC:=.seq (.seq (.ops r4) (.cond (.s 15) (.skip) (.exit 0))) (.seq (.block 1 (.ops r5)) (.ops r6))
def r7:List RO:=[o2 30 (lD 1) [2] [],o2 31 (lD 2) [3] [],o2 32 .c [.f 140,30,31] [],o1 7 32 []]
def r8:List RO:=[o1 33 7 [],o2 34 ln [33] [],o2 35 (bI .gtr) [34,.k (.int .i64 0)] []]
def r9:List RO:=[o1 36 7 [],o2 37 (ix 2) [36,.k (.int .i64 0)] [],o2 38 (lD 2) [37] [],o2 8 (.a (.alloc 2 [.int .i64 0,.int .i64 0])) [] [],oz (su 2) [8,38] []]
def AX:List RO:=[o1 39 7 [],o2 40 (.p (.slice 2 true false)) [39,.k (.int .i64 1)] [],o1 7 40 []]
def CV:List RO:=[o1 41 5 [],o2 42 (fa 0) [8] [],o2 43 (ld 1) [42] [],o2 44 (ix 1) [41,43] [],o2 45 (ld 1) [44] [],o2 46 (fa 1) [8] [],o2 47 (ld 1) [46] [],on 48 (ix 1) [45,47] [],on 49 (ld 1) [48] []]
def Ct:List RO:=[o1 50 5 [],o2 51 (fa 0) [8] [],o2 52 (ld 1) [51] [],o2 53 (ix 1) [50,52] [],o2 54 (ld 1) [53] [],o2 55 (fa 1) [8] [],o2 56 (ld 1) [55] [],on 57 (ix 1) [54,56] [],oy (su 1) [57,.k (.bool true)] []]
def Cq:List RO:=[o2 58 (lD 1) [2] [],o2 59 (lD 2) [8] [],o2 60 .c [.f 140,58,59] [],o1 9 60 []]
def AD:List RO:=[o1 10 (.k (.int .i64 0)) []]
def Cp:List RO:=[o1 61 10 [],o1 62 9 [],o2 63 ln [62] [],o2 64 (bI .lss) [61,63] []]
def Cr:List RO:=[o1 67 7 [],o1 68 9 [],o1 69 10 [],o2 70 (ix 2) [68,69] [],o2 71 (lD 2) [70] [],o2 72 (.a (.buildSl 2 1 [.int .i64 0,.int .i64 0] [0])) [71] [],o2 73 (.l (.append 2)) [67,72] [],o1 7 73 []]
def Jv:List RO:=[o1 65 10 [],o2 66 (bI .add) [65,.k (.int .i64 1)] [],o1 10 66 []]
def L3:RC:=.seq (.seq (.ops Cp) (.cond (.s 64) (.skip) (.exit 4))) (.seq (.block 5 (.ops Cr)) (.ops Jv))
def L2:RC:=.seq (.seq (.ops r8) (.cond (.s 35) (.skip) (.exit 2))) (.block 3 (.seq (.ops r9) (.seq (.ops AX) (.seq (.seq (.mR CV) (.cond (.s 49) (.exit 3) (.skip))) (.seq (.mR Ct) (.seq (.ops Cq) (.seq (.ops AD) (.block 4 (.loop L3)))))))))
def T4:List RO:=[o1 74 5 [],o1 4 74 []]
def code:RC:=.seq (.ops r1) (.seq (.ops r2) (.seq (.seq (.ops r3) (.block 0 (.loop L1))) (.seq (.ops r7) (.seq (.block 2 (.loop L2)) (.seq (.ops T4) (.ret))))))
noncomputable abbrev tj:=Go.Proofs.YtdoibkkdaojjpaaGreat.E
def iz (out:List (List Bool)):List (List V):=out.map λr=>r.map V.bool
theorem shape:∃fi,tj.ft (tY 107)=some fi/\aJ ⟨tj,some,fi.ntmps⟩ false fi.body=some code/\2<=fi.ntmps/\fi.results=[.tmp 4]:=by
 have h:((tj.ft (tY 107)).map λfi=>(aJ ⟨tj,some,fi.ntmps⟩ false fi.body,Nat.ble 2 fi.ntmps,fi.results))=some (some code,true,[.tmp 4]):=by kernel_rfl
 obtain⟨fi,h1,h2⟩:=ζf.1 h;simp only[ζc]at h2;exact⟨fi,h1,h2.1,Nat.le_of_ble_eq_true h2.2.1,h2.2.2⟩
section
variable {E:Env} {N:Nat->FuncId} {t:Trace} {x:aa} {k:Nat} {F:Frame} {H H1:ak} {call:cm} {b:Option Nat}
theorem gW {o:RO} {l:List RO} {v:V} {r:Frame×ak} (hg:o.gd=none) (hv:aD E N call b o.now o.k (o.az.map (ay N F)) H=some (v,H1)) (h:bD E N call b l (au F o.dst v) H1=some r):bD E N call b (o::l) F H=some r:=by
 simp only[bD,hg,hv];exact h
theorem vp {o:RO} {l:List RO} {v:V} {r:Frame×ak} (hg:o.gd=none) (hv:aD E N call b o.now o.k (o.az.map (ay N F)) H=some (v,H)) (h:bD E N call b l (au F o.dst v) H=some r):bD E N call b (o::l) F H=some r:=gW hg hv h
theorem cI:bD E N call b [] F H=some (F,H):=rfl
theorem ld1 (h:H[0]? = some (.row 1 [cells t])):dF H (.load 1 false) [.hptr 0 0 0]=some (aX t.procs):=by
 simp[dF,cV,h,Ob.rows];rfl
theorem UN {s:Sl bA} {p:bA} {i:Nat} (h:s.l[i]? = some p):jJ 3 (aX s) (i:Int)=some (.fptr (cells p)):=by
 have:=BW (N:=λn=>n) s .i64 (i:Int) 3 rfl
 simp only[ai]at this;rw[this,show idx s (i:Int)=some p from by unfold idx;rw[if_pos (by omega)];exact h];rfl
theorem x4 (f2:get F 2=.hptr 0 0 0) (f6:get F 6=.int .i64 k) (h0:H[0]? = some (.row 1 [cells t])) :
 ∃F',bD E N call none r4 F H=some (F',H)/\get F' 15=.bool (decide (k<t.procs.l.length))/\(∀s,s<11->get F' s=get F s):=by
 refine⟨_,vp (v:=.int .i64 k) rfl ?_ <| vp (v:=.hptr 0 0 0) rfl ?_ <| vp (v:=aX t.procs) rfl ?_ <| vp (v:=.int .i64 t.procs.l.length) rfl ?_ <| vp (v:=.bool (decide (k<t.procs.l.length))) rfl ?_ cI,?_,?_⟩
 .simp[aD,ay,ai,f6]
 .simp[aD,ay,ai,au,f2,fJ]
 .simp only[aD,List.map_cons,List.map_nil,ay,au,aA,Nat.reduceEqDiff,if_true,if_false];rw[ld1 h0];rfl
 .simp only[aD,List.map_cons,List.map_nil,ay,au,aA,Nat.reduceEqDiff,if_true,if_false];rw[vQ];rfl
 .simp[aD,ay,ai,au,fE,kU]
 .simp[au]
 .intro s hs;simp only[au,aA]
  repeat (rw[if_neg (by omega)])
theorem vo {n:Nat} (h:n<=2147483648):IntKind.wrap .i64 ((n:Int)+1)=((n+1:Nat):Int):=by
 simp[IntKind.wrap,IntKind.bits,IntKind.signed];omega
theorem x5 {P:bA} {o:Nat} {ids:List Nat} {rows:List (List V)} (f2:get F 2=.hptr 0 0 0) (f6:get F 6=.int .i64 k) (h0:H[0]? = some (.row 1 [cells t])) (hP:t.procs.l[k]? = some P) (hl:P.events.l.length+1<=2147483648)
 (hn:jV H (get F 5) o ids rows) (hr:rows.length+1<=2147483648) :
 ∃F' H',bD E N call none r5 F H=some (F',H')/\jV H' (get F' 5) (H.length+2) (ids++[H.length]) (rows++[List.replicate (P.events.l.length+1) (.bool false)])/\H.length<=H'.length/\(∀id,id<H.length->id≠o\/rows=[]->H'[id]? = H[id]?)/\(∀s,s<11->s≠5->get F' s=get F s):=by
 obtain⟨H',p1,p2,p3,p4⟩:=hn.push (List.replicate (P.events.l.length+1) (.bool false)) hr;have hrep:gF (List.replicate (P.events.l.length+1) (V.bool false))=List.replicate (P.events.l.length+1) [.bool false]:=by simp[gF]
 rw[hrep,List.length_replicate]at p1;have hb:=vo (n:=P.events.l.length) (by omega)
 refine⟨_,H',vp (v:=get F 5) rfl ?_ <| vp (v:=.hptr 0 0 0) rfl ?_ <| vp (v:=aX t.procs) rfl ?_ <| vp (v:=.int .i64 k) rfl ?_ <| vp (v:=.fptr (cells P)) rfl ?_ <| vp (v:=.fptr [aX P.events]) rfl ?_ <| vp (v:=aX P.events) rfl ?_ <|
  vp (v:=.int .i64 P.events.l.length) rfl ?_ <| vp (v:=.int .i64 ((P.events.l.length+1:Nat):Int)) rfl ?_ <| gW (v:=.hsl H.length 1 0 (P.events.l.length+1)) (H1:=H++[.row 1 (List.replicate (P.events.l.length+1) [.bool false])]) rfl ?_ <|
  gW (v:=.hsl (H.length+1) 1 0 1) (H1:=H++[.row 1 (List.replicate (P.events.l.length+1) [.bool false])]++[.row 1 [[.hsl H.length 1 0 (P.events.l.length+1)]]]) rfl ?_ <|
  gW (v:=.hsl (H.length+2) 1 0 (rows.length+1)) (H1:=H') rfl ?_ <| vp (v:=.hsl (H.length+2) 1 0 (rows.length+1)) rfl ?_ cI,?_,p3,p4,?_⟩
 .simp[aD,ay,ai]
 .simp[aD,ay,ai,au,f2,fJ]
 .simp only[aD,List.map_cons,List.map_nil,ay,au,aA,Nat.reduceEqDiff,if_true,if_false];rw[ld1 h0];rfl
 .simp[aD,ay,ai,au,f6]
 .simp only[aD,List.map_cons,List.map_nil,ay,au,aA,Nat.reduceEqDiff,if_true,if_false,ai];rw[UN hP];rfl
 .simp only[aD,List.map_cons,List.map_nil,ay,au,aA,Nat.reduceEqDiff,if_true,if_false,ai];rfl
 .simp only[aD,List.map_cons,List.map_nil,ay,au,aA,Nat.reduceEqDiff,if_true,if_false];rfl
 .simp only[aD,List.map_cons,List.map_nil,ay,au,aA,Nat.reduceEqDiff,if_true,if_false];rw[vQ];rfl
 .simp only[aD,List.map_cons,List.map_nil,ay,au,aA,Nat.reduceEqDiff,if_true,if_false,ai,fE];rw[hb];rfl
 .simp only[aD,List.map_cons,List.map_nil,ay,au,aA,Nat.reduceEqDiff,if_true,if_false,iO];rw[if_pos ⟨trivial,trivial,by omega,by omega,by omega⟩]
  simp only[Option.map_some,Mk.val,Int.toNat_natCast]
 .simp only[aD,List.map_cons,List.map_nil,ay,au,aA,Nat.reduceEqDiff,if_true,if_false,iO];simp[fD,V.cells,V.one,Mk.val]
 .simp only[aD,List.map_cons,List.map_nil,ay,au,aA,Nat.reduceEqDiff,if_true,if_false];exact p1
 .simp[aD,ay,ai,au]
 .simp only[au,aA,if_true];exact p2
 .intro s hs h5;simp only[au,aA];rw[if_neg (Ne.symm h5)]
  repeat (rw[if_neg (by omega)])
theorem x6 (f6:get F 6=.int .i64 k) (hk:k<=2147483648):∃F',bD E N call none r6 F H=some (F',H)/\get F' 6=.int .i64 ((k+1:Nat):Int)/\(∀s,s<11->s≠6->get F' s=get F s):=by
 have hb:=vo hk;refine⟨_,vp (v:=.int .i64 k) rfl ?_ <| vp (v:=.int .i64 ((k+1:Nat):Int)) rfl ?_ <| vp (v:=.int .i64 ((k+1:Nat):Int)) rfl ?_ cI,?_,?_⟩
 .simp[aD,ay,ai,f6]
 .simp only[aD,List.map_cons,List.map_nil,ay,au,aA,Nat.reduceEqDiff,if_true,if_false,ai,fE];rw[hb];rfl
 .simp[aD,ay,ai,au]
 .simp[au]
 .intro s hs h6;simp only[au,aA];rw[if_neg (Ne.symm h6)]
  repeat (rw[if_neg (by omega)])
end
structure P1 (t:Trace) (x:aa) (k:Nat) (F:Frame) (H:ak):Prop where
 f2:get F 2=.hptr 0 0 0
 f3:get F 3=.hptr 1 0 0
 f6:get F 6=.int .i64 k
 h0:H[0]? = some (.row 1 [cells t])
 h1:H[1]? = some (.row 2 [cells x])
 ns:∃o ids,jV H (get F 5) o ids (iz ((eT t).take k))/\(k≠0->2<=o)/\∀id∈ids,2<=id
theorem tP (out:List (List Bool)):(iz out).length=out.length:=by simp[iz]
theorem HQ {E:Env} {N:Nat->FuncId} {t:Trace} {x:aa} (hok:wQ t=true):∀(m k:Nat) (F:Frame) (H:ak),k+m=t.procs.l.length->P1 t x k F H->∃F' H',jN E N L1 F H (.exit 0) F' H'/\P1 t x t.procs.l.length F' H':=by
 have hok':t.procs.l.length<=2147483648/\∀P∈t.procs.l,P.events.l.length+1<=2147483648:=by
  simpa [wQ]using hok
 intro m
 induction m with
 | zero=>
  intro k F H hk p;have hk':k=t.procs.l.length:=by omega
  obtain⟨F1,e1,e2,e3⟩:=x4 (E:=E) (N:=N) (call:=λ_ _ _=>none) p.f2 p.f6 p.h0
  refine⟨F1,H,jN.stop (Ex.qH (Ex.seq (Ex.bQ λc=>?_) (Ex.mO ?_ Ex.exit)) (by simp)) (by simp),?_⟩
  .obtain⟨F2,g1,_,_⟩:=x4 (E:=E) (N:=N) (call:=c) p.f2 p.f6 p.h0;have:bD E N c none r4 F H=bD E N (λ_ _ _=>none) none r4 F H:=rfl
   rw[this];exact e1
  .show get F1 15=_;rw[e2];simp[hk']
  .subst hk';exact⟨by rw[e3 2 (by omega)];exact p.f2,by rw[e3 3 (by omega)];exact p.f3,by rw[e3 6 (by omega)];exact p.f6,p.h0,p.h1,by rw[e3 5 (by omega)];exact p.ns⟩
 | succ m ih=>
  intro k F H hk p;have hkl:k<t.procs.l.length:=by omega
  obtain⟨o,ids,n1,n2,n3⟩:=p.ns;obtain⟨F1,e1,e2,e3⟩:=x4 (E:=E) (N:=N) (call:=λ_ _ _=>none) p.f2 p.f6 p.h0
  have hP:=ζd hkl;have hlen:((eT t).take k).length=k:=by simp[eT];omega
  have n1':jV H (get F1 5) o ids (iz ((eT t).take k)):=by rw[e3 5 (by omega)];exact n1
  obtain⟨F2,H2,g1,g2,g3,g4,g5⟩:=x5 (E:=E) (N:=N) (call:=λ_ _ _=>none) (by rw[e3 2 (by omega)];exact p.f2) (by rw[e3 6 (by omega)];exact p.f6) p.h0 hP (hok'.2 _ (List.getElem_mem hkl)) n1' (by rw[tP,hlen];omega)
  obtain⟨F3,q1,q2,q3⟩:=x6 (E:=E) (N:=N) (call:=λ_ _ _=>none) (H:=H2) (k:=k) (F:=F2) (by rw[g5 6 (by omega) (by omega),e3 6 (by omega)];exact p.f6) (by omega)
  have hl:=n1.lt;have h0l:=(ζe.1 p.h0).1;have h1l:=(ζe.1 p.h1).1;have hkeep:∀i,i<2->i<H.length->H2[i]? = H[i]? := λi hi hl=>g4 i hl (by
   by_cases hk0:k=0
   .subst hk0;right;simp[iz]
   .left;have:=n2 hk0;omega)
  have hp3:P1 t x (k+1) F3 H2:=by
   refine⟨by rw[q3 2 (by omega) (by omega),g5 2 (by omega) (by omega),e3 2 (by omega)];exact p.f2,by rw[q3 3 (by omega) (by omega),g5 3 (by omega) (by omega),e3 3 (by omega)];exact p.f3,q2,
    by rw[hkeep 0 (by omega) h0l];exact p.h0,by rw[hkeep 1 (by omega) h1l];exact p.h1,H.length+2,ids++[H.length],?_,λ_=>by omega,λid hid=>?_⟩
   .rw[q3 5 (by omega) (by omega)]
    have hrows:iz ((eT t).take (k+1))=iz ((eT t).take k)++[List.replicate (t.procs.l[k].events.l.length+1) (.bool false)]:=by
     rw[List.take_add_one];have:(eT t)[k]? = some (List.replicate (t.procs.l[k].events.l.length+1) false):=by simp[eT,hP]
     rw[this];simp[iz]
    rw[hrows];exact g2
   .rcases List.mem_append.1 hid with h|h
    .exact n3 id h
    .simp at h;omega
  obtain⟨F',H',r1,r2⟩:=ih (k+1) F3 H2 (by omega) hp3
  refine⟨F',H',jN.step (Ex.seq (Ex.seq (Ex.bQ λc=>e1) (Ex.ki ?_ Ex.skip)) (Ex.seq (Ex.block (Ex.bQ λc=>g1)) (Ex.bQ λc=>q1))) r1,r2⟩
  show get F1 15=_;rw[e2];simp[hkl]
section
variable {E:Env} {N:Nat->FuncId} {t:Trace} {x y:aa} {F:Frame} {H:ak} {call:cm}
theorem x8 {l:List (List V)} {id:Nat} (h:iK H (get F 7) l id):∃F',bD E N call none r8 F H=some (F',H)/\get F' 35=.bool (decide (0<l.length))/\(∀s,s<11->get F' s=get F s):=by
 refine⟨_,vp (v:=get F 7) rfl ?_ <| vp (v:=.int .i64 l.length) rfl ?_ <| vp (v:=.bool (decide (0<l.length))) rfl ?_ cI,?_,?_⟩
 .simp[aD,ay,ai]
 .simp only[aD,List.map_cons,List.map_nil,ay,au,aA,Nat.reduceEqDiff,if_true,if_false,ai,h.len,Option.map_some]
 .simp[aD,ay,ai,au,fE,kU]
 .simp[au]
 .intro s hs;simp only[au,aA]
  repeat (rw[if_neg (by omega)])
theorem x9 {l:List (List V)} {id:Nat} (h:iK H (get F 7) (cells y::l) id):∃F',bD E N call none r9 F H=some (F',H++[.row 2 [cells y]])/\get F' 8=.hptr H.length 0 0/\(∀s,s<11->s≠8->get F' s=get F s):=by
 obtain⟨p,p1,p2⟩:=h.get (i:=0) (c:=cells y) rfl;refine⟨_,vp (v:=get F 7) rfl ?_ <| vp (v:=p) rfl ?_ <| vp (v:=.agg (cells y)) rfl ?_ <| gW (v:=.hptr H.length 0 0) (H1:=H++[.row 2 [[.int .i64 0,.int .i64 0]]]) rfl ?_ <| gW (v:=.undef) (H1:=H++[.row 2 [cells y]]) rfl ?_ cI,?_,?_⟩
 .simp[aD,ay,ai]
 .simp only[aD,List.map_cons,List.map_nil,ay,au,aA,Nat.reduceEqDiff,if_true,if_false,ai];rw[show (0:Int)=((0:Nat):Int)from rfl,p1];rfl
 .simp only[aD,List.map_cons,List.map_nil,ay,au,aA,Nat.reduceEqDiff,if_true,if_false];rw[p2];rfl
 .simp only[aD,List.map_cons,List.map_nil,ay,au,aA,Nat.reduceEqDiff,if_true,if_false,iO,Option.map_some,Mk.val]
 .simp only[aD,List.map_cons,List.map_nil,ay,au,aA,Nat.reduceEqDiff,if_true,if_false];simp[dL,V.cells,V.one]
 .simp[au]
 .intro s hs h8;simp only[au,aA];rw[if_neg (Ne.symm h8)]
  repeat (rw[if_neg (by omega)])
theorem Vl {c:List V} {l:List (List V)} {id:Nat} (h:iK H (get F 7) (c::l) id):∃F',bD E N call none AX F H=some (F',H)/\iK H (get F' 7) l id/\(∃off m off',get F 7=.hsl id 2 off m/\get F' 7=.hsl id 2 off' l.length)/\(∀s,s<11->s≠7->get F' s=get F s):=by
 obtain⟨w',p1,p2,off,m,off',p3,p4⟩:=h.tail;refine⟨_,vp (v:=get F 7) rfl ?_ <| vp (v:=w') rfl ?_ <| vp (v:=w') rfl ?_ cI,?_,⟨off,m,off',p3,?_⟩,?_⟩
 .simp[aD,ay,ai]
 .simp only[aD,List.map_cons,List.map_nil,ay,au,aA,Nat.reduceEqDiff,if_true,if_false,ai,jB,ζb,p1,Option.map_some]
 .simp[aD,ay,ai,au]
 .simp only[au,aA,if_true];exact p2
 .simp only[au,aA,if_true];exact p4
 .intro s hs h8;simp only[au,aA];rw[if_neg (Ne.symm h8)]
  repeat (rw[if_neg (by omega)])
theorem ig (H:ak):H.take H.length=H:=List.take_length ..
theorem Qw {c:Nat} (hc:H[c]? = some (.row 2 [cells y])):dF H (.load 1 false) [.hptr c 0 0]=some (.int .i64 y.proc)/\dF H (.load 1 false) [.hptr c 0 1]=some (.int .i64 y.index)/\dF H (.load 2 true) [.hptr c 0 0]=some (enc y):=by
 refine⟨?_,?_,?_⟩ <;> simp[dF,cV,hc,Ob.rows,cut] <;> rfl
theorem Qc {c o:Nat} {ids:List Nat} {rows:List (List V)} {p j:Nat} {r:List V} {u:V} (f8:get F 8=.hptr c 0 0) (hc:H[c]? = some (.row 2 [cells y])) (hn:jV H (get F 5) o ids rows) (hp:y.proc=p) (hj:y.index=j) (hr:rows[p]? = some r) (hu:r[j]? = some u) :
 ∃F',bD E N call (some H.length) CV F H=some (F',H)/\get F' 49=u/\(∀s,s<11->get F' s=get F s):=by
 obtain⟨id,q0,q1,q2,q3,q4⟩:=hn.cell hr hu;obtain⟨c1,c2,_⟩:=Qw hc;rw[hp]at c1;rw[hj]at c2;refine⟨_,vp (v:=get F 5) rfl ?_ <| vp (v:=.hptr c 0 0) rfl ?_ <| vp (v:=.int .i64 p) rfl ?_ <| vp (v:=.hptr o p 0) rfl ?_ <| vp (v:=.hsl id 1 0 r.length) rfl ?_ <| vp (v:=.hptr c 0 1) rfl ?_ <| vp (v:=.int .i64 j) rfl ?_ <| vp (v:=.hptr id j 0) rfl ?_ <| vp (v:=u) rfl ?_ cI,?_,?_⟩
 .simp[aD,ay,ai]
 .simp[aD,ay,ai,au,f8,fJ]
 .simp only[aD,List.map_cons,List.map_nil,ay,au,aA,Nat.reduceEqDiff,if_true,if_false,ig];rw[c1];rfl
 .simp only[aD,List.map_cons,List.map_nil,ay,au,aA,Nat.reduceEqDiff,if_true,if_false,ai];rw[q1];rfl
 .simp only[aD,List.map_cons,List.map_nil,ay,au,aA,Nat.reduceEqDiff,if_true,if_false,ig];rw[q2];rfl
 .simp[aD,ay,ai,au,f8,fJ]
 .simp only[aD,List.map_cons,List.map_nil,ay,au,aA,Nat.reduceEqDiff,if_true,if_false,ig];rw[c2];rfl
 .simp only[aD,List.map_cons,List.map_nil,ay,au,aA,Nat.reduceEqDiff,if_true,if_false,ai];rw[q3];rfl
 .simp only[aD,List.map_cons,List.map_nil,ay,au,aA,Nat.reduceEqDiff,if_true,if_false,ig];rw[q4];rfl
 .simp[au]
 .intro s hs;simp only[au,aA]
  repeat (rw[if_neg (by omega)])
theorem U_ {c o:Nat} {ids:List Nat} {rows:List (List V)} {p j:Nat} {r:List V} {u:V} (f8:get F 8=.hptr c 0 0) (hc:H[c]? = some (.row 2 [cells y])) (hn:jV H (get F 5) o ids rows) (hp:y.proc=p) (hj:y.index=j) (hr:rows[p]? = some r) (hu:r[j]? = some u) :
 ∃F' H',bD E N call (some H.length) Ct F H=some (F',H')/\jV H' (get F' 5) o ids (rows.set p (r.set j (.bool true)))/\H'.length=H.length/\(∀i,i∉ids->H'[i]? = H[i]?)/\(∀s,s<11->get F' s=get F s):=by
 obtain⟨id,q0,q1,q2,q3,q4⟩:=hn.cell hr hu;obtain⟨c1,c2,_⟩:=Qw hc;rw[hp]at c1;rw[hj]at c2;obtain⟨H',s1,s2,s3,s4⟩:=hn.set hr (ζe.1 hu).1 q0 (u:=.bool true) rfl rfl;refine⟨_,H',vp (v:=get F 5) rfl ?_ <| vp (v:=.hptr c 0 0) rfl ?_ <| vp (v:=.int .i64 p) rfl ?_ <| vp (v:=.hptr o p 0) rfl ?_ <| vp (v:=.hsl id 1 0 r.length) rfl ?_ <| vp (v:=.hptr c 0 1) rfl ?_ <| vp (v:=.int .i64 j) rfl ?_ <| vp (v:=.hptr id j 0) rfl ?_ <| gW (v:=.undef) (H1:=H') rfl ?_ cI,?_,s3,λi hi=>s4 i λe=>hi (e▸List.mem_of_getElem? q0),?_⟩
 .simp[aD,ay,ai]
 .simp[aD,ay,ai,au,f8,fJ]
 .simp only[aD,List.map_cons,List.map_nil,ay,au,aA,Nat.reduceEqDiff,if_true,if_false,ig];rw[c1];rfl
 .simp only[aD,List.map_cons,List.map_nil,ay,au,aA,Nat.reduceEqDiff,if_true,if_false,ai];rw[q1];rfl
 .simp only[aD,List.map_cons,List.map_nil,ay,au,aA,Nat.reduceEqDiff,if_true,if_false,ig];rw[q2];rfl
 .simp[aD,ay,ai,au,f8,fJ]
 .simp only[aD,List.map_cons,List.map_nil,ay,au,aA,Nat.reduceEqDiff,if_true,if_false,ig];rw[c2];rfl
 .simp only[aD,List.map_cons,List.map_nil,ay,au,aA,Nat.reduceEqDiff,if_true,if_false,ai];rw[q3];rfl
 .simp only[aD,List.map_cons,List.map_nil,ay,au,aA,Nat.reduceEqDiff,if_true,if_false,s1]
 .simp only[au,aA,Nat.reduceEqDiff,if_false];exact s2
 .intro s hs;simp only[au,aA]
  repeat (rw[if_neg (by omega)])
def Dr (E:Env) (N:Nat->FuncId) (t:Trace) (dir:aa->Option (Sl aa)):Prop:=∀(y:aa) (s:Sl aa) (H:ak),dir y=some s ->
 ∃w X id,(∃n,∀k,n<=k->dN E (run E k) (N 140) [enc t,enc y] H=some (w,H++X))/\iK (H++X) w (s.l.map cells) id/\(∀off m,w=.hsl id 2 off m->id=H.length)
theorem Uo {a d:Nat} (hd:E.keep (N 140)=true) {dir:aa->Option (Sl aa)} (hD:Dr E N t dir) {s:Sl aa} (hs:dir y=some s) (f2:get F 2=.hptr 0 0 0) (h0:H[0]? = some (.row 1 [cells t])) {c:Nat} (hc:H[c]? = some (.row 2 [cells y])) :
 ∃w X id,iK (H++X) w (s.l.map cells) id/\(∀off m,w=.hsl id 2 off m->id=H.length) /\
  (get F 8=.hptr c 0 0->∃F',(∃n,∀k,n<=k->bD E N (run E k) none Cq F H=some (F',H++X))/\get F' 9=w/\(∀s,s<11->s≠9->get F' s=get F s)) /\
  (get F 3=.hptr c 0 0->∃F',(∃n,∀k,n<=k->bD E N (run E k) none r7 F H=some (F',H++X))/\get F' 7=w/\(∀s,s<11->s≠7->get F' s=get F s)):=by
 obtain⟨w,X,id,⟨n,e1⟩,e2,e3⟩:=hD y s H hs;have ht:dF H (.load 1 true) [.hptr 0 0 0]=some (enc t):=by
  simp[dF,cV,h0,Ob.rows,cut];rfl
 obtain⟨_,_,hy⟩:=Qw hc;refine⟨w,X,id,e2,e3,λf8=>⟨_,⟨n,λk hk=>vp (v:=enc t) rfl ?_ <| vp (v:=enc y) rfl ?_ <| gW (v:=w) (H1:=H++X) rfl ?_ <| vp (v:=w) rfl ?_ cI⟩,?_,?_⟩,λf3=>⟨_,⟨n,λk hk=>vp (v:=enc t) rfl ?_ <| vp (v:=enc y) rfl ?_ <| gW (v:=w) (H1:=H++X) rfl ?_ <| vp (v:=w) rfl ?_ cI⟩,?_,?_⟩⟩
 .simp only[aD,List.map_cons,List.map_nil,ay,f2];rw[ht];rfl
 .simp only[aD,List.map_cons,List.map_nil,ay,au,aA,Nat.reduceEqDiff,if_true,if_false,f8];rw[hy];rfl
 .simp only[aD,List.map_cons,List.map_nil,ay,au,aA,Nat.reduceEqDiff,if_true,if_false,hd,List.nil_append,List.append_nil];exact e1 k hk
 .simp[aD,ay,ai,au]
 .simp[au]
 .intro s hs h9;simp only[au,aA];rw[if_neg (Ne.symm h9)]
  repeat (rw[if_neg (by omega)])
 .simp only[aD,List.map_cons,List.map_nil,ay,f2];rw[ht];rfl
 .simp only[aD,List.map_cons,List.map_nil,ay,au,aA,Nat.reduceEqDiff,if_true,if_false,f3];rw[hy];rfl
 .simp only[aD,List.map_cons,List.map_nil,ay,au,aA,Nat.reduceEqDiff,if_true,if_false,hd,List.nil_append,List.append_nil];exact e1 k hk
 .simp[aD,ay,ai,au]
 .simp[au]
 .intro s hs h9;simp only[au,aA];rw[if_neg (Ne.symm h9)]
  repeat (rw[if_neg (by omega)])
end
section
variable {E:Env} {N:Nat->FuncId} {F:Frame} {H:ak} {call:cm} {i:Nat}
theorem No {l:List (List V)} {id:Nat} (f10:get F 10=.int .i64 i) (h:iK H (get F 9) l id):∃F',bD E N call none Cp F H=some (F',H)/\get F' 64=.bool (decide (i<l.length))/\(∀s,s<11->get F' s=get F s):=by
 refine⟨_,vp (v:=.int .i64 i) rfl ?_ <| vp (v:=get F 9) rfl ?_ <| vp (v:=.int .i64 l.length) rfl ?_ <| vp (v:=.bool (decide (i<l.length))) rfl ?_ cI,?_,?_⟩
 .simp[aD,ay,ai,f10]
 .simp[aD,ay,ai,au]
 .simp only[aD,List.map_cons,List.map_nil,ay,au,aA,Nat.reduceEqDiff,if_true,if_false,ai,h.len,Option.map_some]
 .simp[aD,ay,ai,au,fE,kU]
 .simp[au]
 .intro s hs;simp only[au,aA]
  repeat (rw[if_neg (by omega)])
theorem Vi {l l9:List (List V)} {id id9:Nat} {c:List V} (f10:get F 10=.int .i64 i) (h:iK H (get F 7) l id) (h9:iK H (get F 9) l9 id9) (hc:l9[i]? = some c) (hl:l.length+1<=2147483648) :
 ∃F' H',bD E N call none Cr F H=some (F',H')/\iK H' (get F' 7) (l++[c]) (H.length+1)/\H'.length=H.length+2/\(∀i,i<H.length->(∀off m,get F 7=.hsl id 2 off m->i≠id)->H'[i]? = H[i]?)/\(∀s,s<11->s≠7->get F' s=get F s):=by
 have hcc:=h9.c c (List.mem_of_getElem? hc);obtain⟨p,p1,p2⟩:=h9.get hc;obtain⟨H',q1,q2,q3,q4⟩:=h.push hcc hl;refine⟨_,H',vp (v:=get F 7) rfl ?_ <| vp (v:=get F 9) rfl ?_ <| vp (v:=.int .i64 i) rfl ?_ <| vp (v:=p) rfl ?_ <| vp (v:=.agg c) rfl ?_ <| gW (v:=.hsl H.length 2 0 1) (H1:=H++[.row 2 [c]]) rfl ?_ <| gW (v:=.hsl (H.length+1) 2 0 (l.length+1)) (H1:=H') rfl ?_ <| vp (v:=.hsl (H.length+1) 2 0 (l.length+1)) rfl ?_ cI,?_,q3,q4,?_⟩
 .simp[aD,ay,ai]
 .simp[aD,ay,ai,au]
 .simp[aD,ay,ai,au,f10]
 .simp only[aD,List.map_cons,List.map_nil,ay,au,aA,Nat.reduceEqDiff,if_true,if_false,ai];rw[p1];rfl
 .simp only[aD,List.map_cons,List.map_nil,ay,au,aA,Nat.reduceEqDiff,if_true,if_false];rw[p2];rfl
 .simp only[aD,List.map_cons,List.map_nil,ay,au,aA,Nat.reduceEqDiff,if_true,if_false,iO];have h2:c.all V.one=true:=hcc.2;simp[fD,V.cells,hcc.1,Mk.val];exact λa ha=>List.all_eq_true.1 h2 a ha
 .simp only[aD,List.map_cons,List.map_nil,ay,au,aA,Nat.reduceEqDiff,if_true,if_false];exact q1
 .simp[aD,ay,ai,au]
 .simp only[au,aA,if_true];exact q2
 .intro s hs h8;simp only[au,aA];rw[if_neg (Ne.symm h8)]
  repeat (rw[if_neg (by omega)])
theorem Vb (f10:get F 10=.int .i64 i) (hk:i<=2147483648):∃F',bD E N call none Jv F H=some (F',H)/\get F' 10=.int .i64 ((i+1:Nat):Int)/\(∀s,s<11->s≠10->get F' s=get F s):=by
 have hb:=vo hk;refine⟨_,vp (v:=.int .i64 i) rfl ?_ <| vp (v:=.int .i64 ((i+1:Nat):Int)) rfl ?_ <| vp (v:=.int .i64 ((i+1:Nat):Int)) rfl ?_ cI,?_,?_⟩
 .simp[aD,ay,ai,f10]
 .simp only[aD,List.map_cons,List.map_nil,ay,au,aA,Nat.reduceEqDiff,if_true,if_false,ai,fE];rw[hb];rfl
 .simp[aD,ay,ai,au]
 .simp[au]
 .intro s hs h6;simp only[au,aA];rw[if_neg (Ne.symm h6)]
  repeat (rw[if_neg (by omega)])
structure P3 (l l9:List (List V)) (B i:Nat) (F:Frame) (H:ak):Prop where
 f10:get F 10=.int .i64 i
 t9:∃id9,iK H (get F 9) l9 id9/\∃id,iK H (get F 7) l id/\(∀off m,get F 7=.hsl id 2 off m->B<=id/\∀off' m',get F 9=.hsl id9 2 off' m'->id≠id9)
 len:B<=H.length
theorem SO (l9:List (List V)) (B:Nat) (hl9:l9.length<=2147483648):∀(m i:Nat) (l:List (List V)) (F:Frame) (H:ak),i+m=l9.length->l.length+m<=2147483648->P3 l l9 B i F H ->
 ∃F' H',jN E N L3 F H (.exit 4) F' H'/\(∃id,iK H' (get F' 7) (l++l9.drop i) id/\∀off m,get F' 7=.hsl id 2 off m->B<=id)/\(∀s,s<7->get F' s=get F s)/\(∀j,j<B->H'[j]? = H[j]?)/\H.length<=H'.length:=by
 intro m
 induction m with
 | zero=>
  intro i l F H hi hl p;obtain⟨id9,t9,id,t7,ap⟩:=p.t9;obtain⟨F1,e1,e2,e3⟩:=No (E:=E) (N:=N) (call:=λ_ _ _=>none) p.f10 t9
  refine⟨F1,H,jN.stop (Ex.qH (Ex.seq (Ex.bQ λc=>e1) (Ex.mO ?_ Ex.exit)) (by simp)) (by simp),⟨id,?_,λoff m h=>?_⟩,λs hs=>e3 s (by omega),λ_ _=>rfl,Nat.le_refl _⟩
  .show get F1 64=_;rw[e2];simp;omega
  .rw[e3 7 (by omega),List.drop_of_length_le (by omega),List.append_nil];exact t7
  .rw[e3 7 (by omega)]at h;exact(ap off m h).1
 | succ m ih=>
  intro i l F H hi hl p;have hil:i<l9.length:=by omega
  obtain⟨id9,t9,id,t7,ap⟩:=p.t9;obtain⟨F1,e1,e2,e3⟩:=No (E:=E) (N:=N) (call:=λ_ _ _=>none) p.f10 t9
  have hc:=ζd hil;have t7':iK H (get F1 7) l id:=by rw[e3 7 (by omega)];exact t7
  have t9':iK H (get F1 9) l9 id9:=by rw[e3 9 (by omega)];exact t9
  obtain⟨F2,H2,g1,g2,g3,g4,g5⟩:=Vi (E:=E) (N:=N) (call:=λ_ _ _=>none) (by rw[e3 10 (by omega)];exact p.f10) t7' t9' hc (by omega)
  obtain⟨F3,q1,q2,q3⟩:=Vb (E:=E) (N:=N) (call:=λ_ _ _=>none) (H:=H2) (i:=i) (F:=F2) (by rw[g5 10 (by omega) (by omega),e3 10 (by omega)];exact p.f10) (by omega)
  have keep:∀j,j<H.length->(∀off m,get F 7=.hsl id 2 off m->j≠id)->H2[j]? = H[j]? := λj hj h=>g4 j hj (by rw[e3 7 (by omega)];exact h)
  have hp3:P3 (l++[l9[i]]) l9 B (i+1) F3 H2:=by
   refine⟨q2,⟨id9,?_,H.length+1,by rw[q3 7 (by omega) (by omega)];exact g2,λoff m h=>⟨by have:=p.len;omega,λoff' m' h'=>?_⟩⟩,by have:=p.len;omega⟩
   .rw[q3 9 (by omega) (by omega),g5 9 (by omega) (by omega),e3 9 (by omega)]
    exact t9.heap λoff n hw=>keep id9 (t9.lt hw) λoff' m' hw'=>Ne.symm ((ap off' m' hw').2 off n hw)
   .rw[q3 9 (by omega) (by omega),g5 9 (by omega) (by omega),e3 9 (by omega)]at h'
    have:=t9.lt h';omega
  obtain⟨F',H',r1,⟨id',r2,r3⟩,r4,r5,r6⟩:=ih (i+1) (l++[l9[i]]) F3 H2 (by omega) (by simp;omega) hp3
  refine⟨F',H',jN.step (Ex.seq (Ex.seq (Ex.bQ λc=>e1) (Ex.ki ?_ Ex.skip)) (Ex.seq (Ex.block (Ex.bQ λc=>g1)) (Ex.bQ λc=>q1))) r1,⟨id',?_,r3⟩,λs hs=>?_,λj hj=>?_,by omega⟩
  .show get F1 64=_;rw[e2];simp[hil]
  .rw[List.append_assoc]at r2;rw[List.drop_eq_getElem_cons hil];exact r2
  .rw[r4 s hs,q3 s (by omega) (by omega),g5 s (by omega) (by omega),e3 s (by omega)]
  .have:=p.len;rw[r5 j hj,keep j (by omega) λoff m h=>by have:=(ap off m h).1;omega]
end
structure P2 (t:Trace) (out:List (List Bool)) (l:List aa) (F:Frame) (H:ak):Prop where
 f2:get F 2=.hptr 0 0 0
 h0:H[0]? = some (.row 1 [cells t])
 ns:∃B o ids id,jV H (get F 5) o ids (iz out)/\(out≠[]->1<=o/\o<B)/\(∀id∈ids,1<=id/\id<B)/\1<=B/\B<=H.length/\iK H (get F 7) (l.map cells) id/\∀off m,get F 7=.hsl id 2 off m->B<=id
theorem ME (out:List (List Bool)) (p j:Nat) (row:List Bool):iz (out.set p (row.set j true))=(iz out).set p ((row.map V.bool).set j (.bool true)):=by
 simp[iz,List.map_set]
theorem D9 {out:List (List Bool)}:iz out=[]↔out=[]:=by simp[iz]
theorem K7 {dir:aa->Option (Sl aa)} {out:List (List Bool)} {y:aa} {rest:List aa} {w:Fw (List (List Bool)×List aa) (List (List Bool)) Empty} (h:lH dir (out,y::rest)=some w) :
 ∃(p j:Nat) (row:List Bool) (b:Bool),y.proc=p/\y.index=j/\out[p]? = some row/\row[j]? = some b/\((b=true/\w=.n (out,rest))\/(b=false/\∃more,dir y=some more/\rest.length+more.l.length<=2147483648/\w=.n (out.set p (row.set j true),rest++more.l))):=by
 simp only[lH]at h;split at h
 .rename_i hy;obtain⟨row,h1,h⟩:=ζg.1 h;obtain⟨b,h2,h⟩:=ζg.1 h;refine⟨y.proc.toNat,y.index.toNat,row,b,by omega,by omega,h1,h2,?_⟩
  cases b with
  | true=>left;simp only[aq]at h;exact⟨rfl,by simpa using h.symm⟩
  | false=>
   right;simp only[aq,Bool.false_eq_true,if_false]at h;obtain⟨more,h3,h⟩:=ζg.1 h;split at h
   .rename_i hl;exact⟨rfl,more,h3,hl,by simpa using h.symm⟩
   .cases h
 .cases h
theorem Hx {E:Env} {N:Nat->FuncId} {t:Trace} {dir:aa->Option (Sl aa)} (hd:E.keep (N 140)=true) (hD:Dr E N t dir):∀(k:Nat) (out:List (List Bool)) (l:List aa) (out':List (List Bool)) (F:Frame) (H:ak),
 gQ (lH dir) k (out,l)=some (.x out')->P2 t out l F H->∃F' H',jN E N L2 F H (.exit 2) F' H'/\P2 t out' [] F' H':=by
 intro k
 induction k with
 | zero=>intro out l out' F H h;simp[gQ]at h
 | succ k ih=>
  intro out l out' F H h p;obtain⟨B,o,ids,id,n1,n2,n3,n4,n5,t7,t8⟩:=p.ns;obtain⟨F1,e1,e2,e3⟩:=x8 (E:=E) (N:=N) (call:=λ_ _ _=>none) t7
  rw[List.length_map]at e2
  cases l with
  | nil=>
   simp only[gQ,lH]at h;cases h;refine⟨F1,H,jN.stop (Ex.qH (Ex.seq (Ex.bQ λc=>e1) (Ex.mO ?_ Ex.exit)) (by simp)) (by simp),?_⟩
   .show get F1 35=_;rw[e2];simp
   .exact⟨by rw[e3 2 (by omega)];exact p.f2,p.h0,B,o,ids,id,by rw[e3 5 (by omega)];exact n1,n2,n3,n4,n5,by rw[e3 7 (by omega)];exact t7,by rw[e3 7 (by omega)];exact t8⟩
  | cons y rest=>
   simp only[gQ]at h
   cases hst:lH dir (out,y::rest)with
   | none=>rw[hst]at h;cases h
   | some w=>
   rw[hst]at h;obtain⟨q,j,row,b,hq,hj,hrow,hb,hcase⟩:=K7 hst;have t7':iK H (get F1 7) (cells y::rest.map cells) id:=by rw[e3 7 (by omega)];exact t7
   obtain⟨F2,g1,g2,g3⟩:=x9 (E:=E) (N:=N) (call:=λ_ _ _=>none) t7'
   have t7'':iK (H++[.row 2 [cells y]]) (get F2 7) (cells y::rest.map cells) id:=by rw[g3 7 (by omega) (by omega)];exact t7'.more _
   obtain⟨F3,i1,i2,⟨off1,m1,off2,i3,i4⟩,i5⟩:=Vl (E:=E) (N:=N) (call:=λ_ _ _=>none) t7''
   have hcl:(H++[Ob.row 2 [cells y]])[H.length]? = some (.row 2 [cells y]):=by simp
   have f8:get F3 8=.hptr H.length 0 0:=by rw[i5 8 (by omega) (by omega)];exact g2
   have f5:get F3 5=get F 5:=by rw[i5 5 (by omega) (by omega),g3 5 (by omega) (by omega),e3 5 (by omega)]
   have f2:get F3 2=.hptr 0 0 0:=by rw[i5 2 (by omega) (by omega),g3 2 (by omega) (by omega),e3 2 (by omega)];exact p.f2
   have n5':jV (H++[.row 2 [cells y]]) (get F3 5) o ids (iz out):=by rw[f5];exact n1.more _
   have hr:(iz out)[q]? = some (row.map V.bool):=by simp[iz,hrow]
   have hu:(row.map V.bool)[j]? = some (.bool b):=by simp[hb]
   have hB8:B<=id:=by
    have:get F 7=.hsl id 2 off1 m1:=by rw[<-i3,g3 7 (by omega) (by omega),e3 7 (by omega)]
    exact t8 _ _ this
   obtain⟨F4,j1,j2,j3⟩:=Qc (E:=E) (N:=N) (call:=λ_ _ _=>none) f8 hcl n5' hq hj hr hu
   have h35:ay N F1 (.s 35)=.bool true:=by show get F1 35=_;rw[e2];simp
   rcases hcase with⟨rfl,rfl⟩|⟨rfl,more,hm,hlen,rfl⟩
   .simp only at h;have hp2:P2 t out rest F4 (H++[.row 2 [cells y]]):=by
     refine⟨by rw[j3 2 (by omega)];exact f2,by rw[List.getElem?_append_left (ζe.1 p.h0).1];exact p.h0,B,o,ids,id,by rw[j3 5 (by omega)];exact n5',n2,n3,n4,by simp;omega,by rw[j3 7 (by omega)];exact i2,λoff m _=>hB8⟩
    obtain⟨F',H',r1,r2⟩:=ih out rest out' F4 _ h hp2;exact⟨F',H',jN.step (Ex.seq (Ex.seq (Ex.bQ λc=>e1) (Ex.ki h35 Ex.skip)) (Ex.sg (Ex.seq (Ex.bQ λc=>g1) (Ex.seq (Ex.bQ λc=>i1) (Ex.qH (Ex.seq (Ex.mR rfl λc=>j1) (Ex.ki j2 Ex.exit)) (by simp)))))) r1,r2⟩
   .simp only at h;have n6:jV (H++[.row 2 [cells y]]) (get F4 5) o ids (iz out):=by rw[j3 5 (by omega)];exact n5'
    obtain⟨F5,H5,k1,k2,k3,k4,k5⟩:=U_ (E:=E) (N:=N) (call:=λ_ _ _=>none) (by rw[j3 8 (by omega)];exact f8) hcl n6 hq hj hr hu
    have hnid:∀i,B<=i->i∉ids:=λi hi hm=>by have:=(n3 i hm).2;omega
    have hc5:H5[H.length]? = some (.row 2 [cells y]):=by rw[k4 _ (hnid _ n5)];exact hcl
    have h05:H5[0]? = some (.row 1 [cells t]):=by
     rw[k4 0 (λhm=>by have:=(n3 0 hm).1;omega),List.getElem?_append_left (ζe.1 p.h0).1];exact p.h0
    obtain⟨w9,X,id9,m1',m2,m3,_⟩:=Uo (a:=0) (d:=0) (F:=F5) hd hD hm (by rw[k5 2 (by omega),j3 2 (by omega)];exact f2) h05 hc5
    obtain⟨F6,⟨nn,o1'⟩,o2',o3⟩:=m3 (by rw[k5 8 (by omega),j3 8 (by omega)];exact f8)
    have hl5:H5.length=H.length+1:=by rw[k3];simp
    have i7:get F6 7=.hsl id 2 off2 (rest.map cells).length:=by rw[o3 7 (by omega) (by omega),k5 7 (by omega),j3 7 (by omega)];exact i4
    have hidl:id<H.length:=by
     have:=t7'.lt (off:=off1) (m:=m1) (by rw[<-i3,g3 7 (by omega) (by omega)])
     exact this
    have t6:iK (H5++X) (get F6 7) (rest.map cells) id:=by
     have:get F6 7=get F3 7:=by rw[o3 7 (by omega) (by omega),k5 7 (by omega),j3 7 (by omega)]
     rw[this];refine(i2.heap (H':=H5) λoff n _=>k4 id (hnid id hB8)).more X
    have s10:∃F7,(∀c,bD E N c none AD F6 (H5++X)=some (F7,H5++X))/\get F7 10=.int .i64 ((0:Nat):Int)/\∀s,s<10->get F7 s=get F6 s:=
     ⟨set F6 10 (.int .i64 0),λc=>by simp[AD,bD,aD,ay,ai,au],by simp,λs hs=>by rw[aA,if_neg (by omega)]⟩
    obtain⟨F7,u1,u2,u3⟩:=s10;have hp3:P3 (rest.map cells) (more.l.map cells) B 0 F7 (H5++X):=by
     refine⟨u2,⟨id9,by rw[u3 9 (by omega),o2'];exact m1',id,by rw[u3 7 (by omega)];exact t6,λoff m hh=>⟨hB8,λoff' m' h'=>?_⟩⟩,by simp;omega⟩
     rw[u3 9 (by omega),o2']at h'
     have:=m2 off' m' h';omega
    obtain⟨F8,H8,v1,⟨id8,v2,v3⟩,v4,v5,v6⟩:=SO (E:=E) (N:=N) (more.l.map cells) B (by simp;omega) (more.l.map cells).length 0 (rest.map cells) F7 (H5++X) (by omega) (by simp;omega) hp3
    have hn8:jV H8 (get F8 5) o ids (iz (out.set q (row.set j true))):=by
     have h5:get F8 5=get F5 5:=by rw[v4 5 (by omega),u3 5 (by omega),o3 5 (by omega) (by omega)]
     rw[h5,ME];refine(k2.more X).heap (λhne=>v5 o ?_) λi hi=>v5 i (n3 i hi).2
     have:out≠[]:=by intro e;subst e;simp at hrow
     exact(n2 this).2
    have hp2:P2 t (out.set q (row.set j true)) (rest++more.l) F8 H8:=by
     refine⟨by rw[v4 2 (by omega),u3 2 (by omega),o3 2 (by omega) (by omega),k5 2 (by omega),j3 2 (by omega)];exact f2,?_,B,o,ids,id8,hn8,λhne=>n2 (by intro e;subst e;simp at hrow),n3,n4,by simp at v6;omega,?_,v3⟩
     .rw[v5 0 (by omega),List.getElem?_append_left (ζe.1 h05).1];exact h05
     .rw[List.drop_zero]at v2;rw[List.map_append];exact v2
    obtain⟨F',H',w1,w2⟩:=ih _ _ out' F8 H8 h hp2;exact⟨F',H',jN.step (Ex.seq (Ex.seq (Ex.bQ λc=>e1) (Ex.ki h35 Ex.skip)) (Ex.block (Ex.seq (Ex.bQ λc=>g1) (Ex.seq (Ex.bQ λc=>i1) (Ex.seq (Ex.seq (Ex.mR rfl λc=>j1) (Ex.mO j2 Ex.skip)) (Ex.seq (Ex.mR rfl λc=>k1)
     (Ex.seq (Ex.ops ⟨nn,o1'⟩) (Ex.seq (Ex.bQ u1) (Ex.sg (Ex.loop v1))))))))) ) w1,w2⟩
theorem MR {H:ak} {Z:Nat->Prop} {id:Nat} {r:List Bool} (hz:Z id) (h:H[id]? = some (.row 1 (gF (r.map V.bool)))):FR H Z (enc (Sl.row r)) (.hsl id 1 0 r.length):=by
 have hr:an H id=some (1,gF (r.map V.bool)):=by simp[an,h,Ob.rows]
 have he:enc (Sl.row r)=.fsl 1 (rows r):=rfl;have hl:(rows r).length=r.length:=by simp[rows]
 have hc:gF (r.map V.bool)=rows r:=by simp[gF,rows,List.map_map,Function.comp_def]
 rw[hc]at hr;rw[he,<-hl];refine .fsl 1 (rows r) id 0 (rows r) hz hr (by omega) (λi a b h1 h2=>?_) (λi j a b u v h1 h2 h3 h4=>?_)
 .rw[Nat.zero_add,h1]at h2;cases h2;rfl
 .rw[Nat.zero_add,h1]at h2;cases h2;rw[h3]at h4;cases h4;refine .same u ?_;obtain⟨c,hc1,rfl⟩:∃c∈r,a=[V.bool c]:=by
   have:=List.mem_of_getElem? h1;simp only[rows,List.mem_map]at this;obtain⟨c,hc,rfl⟩:=this;exact⟨c,hc,rfl⟩
  have:=List.mem_of_getElem? h3;simp at this;subst this;rfl
theorem LN {H:ak} {w:V} {o:Nat} {ids:List Nat} {out:List (List Bool)} (n:jV H w o ids (iz out)):∃Z,FR H Z (enc (nested out)) w/\(∀id,Z id->(an H id).isSome=true)/\Deep H Z:=by
 have hv:=n.v
 by_cases ho:out=[]
 .subst ho;rw[if_pos (show iz []=[]from rfl)]at hv;subst hv;exact⟨λ_=>False,.same _ rfl,λ_ h=>h.elim,⟨λ_ _ _ h=>h.elim⟩⟩
 .have hne:iz out≠[]:=λh=>ho (D9.1 h)
  rw[if_neg hne,tP]at hv;subst hv;have hob:=n.ob hne;have hlen:=n.len;rw[tP]at hlen;have hrow:∀(i id:Nat) (r:List Bool),ids[i]? = some id->out[i]? = some r->H[id]? = some (.row 1 (gF (r.map V.bool))):=λi id r h1 h2=>n.r i id _ h1 (by simp[iz,h2])
  have href:∀(i:Nat) (c:List V),(refs ids (iz out))[i]? = some c->∃id r,ids[i]? = some id/\out[i]? = some r/\c=[.hsl id 1 0 r.length]:=λi c h=>by
   have hi:=(ζe.1 h).1;rw[ru n.len,tP]at hi;have h1:=ζd (show i<ids.length from by omega)
   have h2:=ζd hi;have h3:=zW (rows:=iz out) (r:=out[i].map V.bool) h1 (by simp[iz,h2])
   rw[h]at h3;exact⟨_,_,h1,h2,by simpa using h3⟩
  have hzo:an H o=some (1,refs ids (iz out)):=by simp[an,hob,Ob.rows]
  have hzi:∀id∈ids,∃(r:List Bool),H[id]? = some (.row 1 (gF (r.map V.bool))):=λid hid=>by
   obtain⟨i,hi⟩:=List.getElem?_of_mem hid;have hl:=(ζe.1 hi).1;exact⟨_,hrow i id _ hi (ζd (show i<out.length from by omega))⟩
  refine⟨λid=>id=o\/id∈ids,?_,λid h=>?_,⟨λid es ys h hr c hc u hu=>?_⟩⟩
  .have he:enc (nested out)=.fsl 1 (rows (out.map Sl.row)):=by rw[nested,if_neg ho];rfl
   have hl:(rows (out.map Sl.row)).length=out.length:=by simp[rows]
   rw[he,<-hl];refine .fsl 1 _ o 0 (refs ids (iz out)) (.inl rfl) hzo (by rw[hl,ru n.len,tP];omega) (λi a b h1 h2=>?_) (λi j a b u v h1 h2 h3 h4=>?_)
   .rw[Nat.zero_add]at h2;obtain⟨id,r,_,hr,rfl⟩:=href i b h2;simp[rows,hr]at h1;subst h1;rfl
   .rw[Nat.zero_add]at h2;obtain⟨id,r,hid,hr,rfl⟩:=href i b h2;have ha:a=[enc (Sl.row r)]:=by simp[rows,hr]at h1;exact h1.symm
    subst ha
    cases j with
    | zero=>
     simp at h3 h4;subst h3 h4;exact MR (.inr (List.mem_of_getElem? hid)) (hrow i id r hid hr)
    | succ j=>simp at h3
  .rcases h with rfl|h
   .simp[hzo]
   .obtain⟨r,hr⟩:=hzi id h;simp[an,hr,Ob.rows]
  .rcases h with rfl|h
   .rw[hzo]at hr;cases hr;obtain⟨i,hi⟩:=List.getElem?_of_mem hc;obtain⟨id,r,hid,hro,rfl⟩:=href i c hi;simp at hu;subst hu;exact⟨_,MR (.inr (List.mem_of_getElem? hid)) (hrow i id r hid hro)⟩
   .obtain⟨r,hr'⟩:=hzi id h;have:an H id=some (1,gF (r.map V.bool)):=by simp[an,hr',Ob.rows]
    rw[this]at hr;cases hr;simp only[gF,List.mem_map]at hc;obtain⟨_,⟨c',_,rfl⟩,rfl⟩:=hc;simp at hu;subst hu;exact⟨_,.same _ rfl⟩
theorem Oc {t:Trace} {x:aa} {out:List (List Bool)} {s:Sl aa} {dir:aa->Option (Sl aa)} (hd:tj.keep (tY 140)=true) (hD:Dr tj tY t dir) (hok:wQ t=true) (hs:dir x=some s) (hw:aV (lH dir) (eT t,s.l)=some (.x out)) :
 uT tj (tY 107) [enc t,enc x] (enc (nested out)):=by
 obtain⟨fi,g1,g2,g3,g4⟩:=shape;obtain⟨k,hk⟩:=lB.1 hw;have b1:∃F1,(∀c,bD tj tY c none r1 [enc t,enc x] []=some (F1,[.row 1 [cells t],.row 2 [cells x]]))/\get F1 2=.hptr 0 0 0/\get F1 3=.hptr 1 0 0:=by
  refine⟨_,λc=>gW (v:=.hptr 0 0 0) (H1:=[.row 1 [cells t]]) rfl ?_ <| gW (v:=.hptr 1 0 0) (H1:=[.row 1 [cells t],.row 2 [cells x]]) rfl ?_ <| vp (v:=.aG) rfl ?_ cI,?_,?_⟩
  .show (iO .box [enc t]).map _=_;simp only[iO,kA,pO,if_true,Option.map_some,eN];rfl
  .simp only[aD,List.map_cons,List.map_nil,ay,au,aA,Nat.reduceEqDiff,if_false];show (iO .box [enc x]).map _=_;simp only[iO,kA,pO,if_true,Option.map_some,eN];rfl
  .simp[aD,ay,ai]
  .simp[au]
  .simp[au]
 obtain⟨F1,c1,c2,c3⟩:=b1;have b3:∃F3,(∀c,bD tj tY c none r2 F1 [.row 1 [cells t],.row 2 [cells x]]=some (set F1 5 .aG,[.row 1 [cells t],.row 2 [cells x]]))/\(∀c,bD tj tY c none r3 (set F1 5 .aG) [.row 1 [cells t],.row 2 [cells x]]=some (F3,[.row 1 [cells t],.row 2 [cells x]]))/\P1 t x 0 F3 [.row 1 [cells t],.row 2 [cells x]]:=by
  refine⟨set (set F1 5 .aG) 6 (.int .i64 0),λc=>by simp[r2,bD,aD,ay,ai,au],λc=>by simp[r3,bD,aD,ay,ai,au],by simp[c2],by simp[c3],by simp,rfl,rfl,0,[],?_,λh=>absurd rfl h,λid h=>by simp at h⟩
  have:get (set (set F1 5 .aG) 6 (.int .i64 0)) 5=.aG:=by simp
  rw[this,List.take_zero];exact jV.nil _ 0
 obtain⟨F3,d1,d2,d3⟩:=b3;obtain⟨F4,H4,e1,e2⟩:=HQ (E:=tj) (N:=tY) hok t.procs.l.length 0 F3 _ (by omega) d3
 obtain⟨o,ids,n1,n2,n3⟩:=e2.ns;have hlen:(eT t).length=t.procs.l.length:=by simp[eT]
 rw[List.take_of_length_le (by omega)]at n1
 obtain⟨w,X,id,m1,m2,_,m4⟩:=Uo (a:=0) (d:=0) (F:=F4) (E:=tj) (N:=tY) hd hD hs e2.f2 e2.h0 (c:=1) e2.h1;obtain⟨F5,o1,o2,o3⟩:=m4 e2.f3;have hp2:P2 t (eT t) s.l F5 (H4++X):=by
  refine⟨by rw[o3 2 (by omega) (by omega)];exact e2.f2,by rw[List.getElem?_append_left (ζe.1 e2.h0).1];exact e2.h0,H4.length,o,ids,id,by rw[o3 5 (by omega) (by omega)];exact n1.more X,λhne=>?_,λi hi=>⟨by have:=n3 i hi;omega,n1.lt.2 i hi⟩,?_,by simp,by rw[o2];exact m1,λoff m h=>?_⟩
  .have hne':iz (eT t)≠[]:=λh=>hne (D9.1 h)
   have:t.procs.l.length≠0:=by intro h;apply hne;exact List.eq_nil_of_length_eq_zero (by omega)
   have:=n2 this;exact⟨by omega,n1.lt.1 hne'⟩
  .have:=(ζe.1 e2.h0).1;omega
  .rw[o2]at h;have:=m2 off m h;omega
 obtain⟨F6,H6,p1,p2⟩:=Hx hd hD k _ _ out F5 _ hk hp2;obtain⟨B,o',ids',id',q1,_⟩:=p2.ns;have l1:∃F7,(∀c,bD tj tY c none T4 F6 H6=some (F7,H6))/\get F7 4=get F6 5:=by
  refine⟨_,λc=>vp (v:=get F6 5) rfl ?_ <| vp (v:=get F6 5) rfl ?_ cI,?_⟩
  .simp[aD,ay,ai]
  .simp[aD,ay,ai,au]
  .simp[au]
 obtain⟨F7,y1,y2⟩:=l1;have hex:Ex tj tY code [enc t,enc x] [] .ret F7 H6:=
  Ex.seq (Ex.bQ c1) (Ex.seq (Ex.bQ d1) (Ex.seq (Ex.seq (Ex.bQ d2) (Ex.sg (Ex.loop e1))) (Ex.seq (Ex.ops o1) (Ex.seq (Ex.sg (Ex.loop p1)) (Ex.seq (Ex.bQ y1) Ex.ret)))))
 obtain⟨n,hrun⟩:=hex.run (nm:=some) yH g1 g2 (show [enc t,enc x].length<=fi.ntmps from g3) (vs:=[get F7 4]) (by rw[g4];rfl)
 obtain⟨Z,z1,z2,z3⟩:=LN q1;exact⟨n,get F6 5,H6,Z,by rw[hrun,y2];rfl,z1,z2,z3⟩
theorem QA (l:List aa):∀c∈l.map (cells (α:=aa)),c.length=2/\c.all V.one=true/\c.all V.scalar=true:=λc hc=>by
 obtain⟨e,_,rfl⟩:=List.mem_map.1 hc;exact⟨rfl,rfl,rfl⟩
theorem SB (t:Trace):Dr tj tY t (cB t):=by
 intro y s H hs;have h1:=wL t y;have h2:=h1 (bW s) (by rw[hs];rfl)
 have hg:V.bE [enc t,enc y]=true:=by simp only[V.bE,g_,Bool.and_self]
 have hkind:s.k=.row\/s.k=.nil/\rows s.l=[]:=by
  have hj:∀o z,(∃l,o=.row l)\/o=.nil->cB.J1 o t y=some z->(∃l,z=.row l)\/z=.nil:=λo z ho hz=>by
   unfold cB.J1 at hz;obtain⟨e,_,hz⟩:=ζg.1 hz
   cases he:e.kind==3 with
   | true=>
    rw[he]at hz;obtain⟨f,_,hz⟩:=ζg.1 hz;obtain⟨q,hq,hz⟩:=ζg.1 hz;cases hz;unfold iT at hq;split at hq
    .cases hq;exact .inl ⟨_,rfl⟩
    .cases hq
   | false=>rw[he]at hz;cases hz;exact ho
  have:(∃l,s=.row l)\/s=.nil:=by
   unfold cB at hs
   cases hc:decide (y.index>1)with
   | true=>rw[hc]at hs;exact hj _ s (.inl ⟨_,rfl⟩) hs
   | false=>rw[hc]at hs;exact hj _ s (.inr rfl) hs
  rcases this with⟨l,rfl⟩|rfl
  .exact .inl rfl
  .exact .inr ⟨rfl,rfl⟩
 obtain⟨n,z,H',r1,r2⟩:=QN Df yI (T:=Tx) (f:=tY 140) (rf:=Aw (Tx 140)) (by kernel_rfl) hg (Nat.le_of_ble_eq_true (by kernel_rfl)) (k:=s.k) (es:=2) (xs:=rows s.l) (λc hc=>(QA s.l c hc).2.2) hkind h2
 refine Ea (l:=s.l.map cells) (y:=z) (H1:=H') (by kernel_rfl) hg (QA s.l) ⟨n,λk hk=>kT _ hk _ _ _ _ r1⟩ ?_ H
 rcases r2 with⟨h3,rfl⟩|⟨id,rfl,h4⟩
 .left;cases s <;> simp[Sl.k]at h3;exact⟨rfl,rfl⟩
 .right;exact⟨id,by simp[rows],h4⟩
end pastX
theorem L8 (t:Trace) (x:aa) (r:Sl (Sl Bool)) (h:kK t x=some r):Sy.wD 107 [enc t,enc x]=some (enc r):=by
 unfold kK at h;split at h
 .rename_i hok;obtain⟨s,hs,h⟩:=ζg.1 h;obtain⟨w,hw,h⟩:=ζg.1 h
  cases w with
  | n a=>exact Empty.elim a
  | r e=>exact Empty.elim e
  | x out=>
   cases h;exact tV (pastX.Oc (by kernel_rfl) (pastX.SB t) hok hs hw)
 .cases h
end Go.VE
namespace Go.VE
noncomputable section
def tF:Option Bool:=some true
instance Pc:Fc Sy cL tF:=⟨8,[],λr:Bool=>[.bool r],true,ja.wD (by kernel_rfl) (by kernel_rfl) Jj⟩
namespace d_
def ax (s0:Sl Event) (v7:Int) (v8:Int) (p1:Event->Option Bool):Option (Fw Int Unit Int):=
 aq (decide (v8<v7))
 ((idx s0 v8).bind λx_1=>
 (p1 x_1).bind λx_2=>
 aq x_2
 (some (.r v8))
 (some (.n (IntKind.wrap .i64 (v8+1)))))
 (some (.x ()))
def W1 (s0:Sl Event) (v7 v8:Int) (p1:Event->Option Bool):Option Int:=
 (aV (λq:Int=>ax s0 v7 q p1) v8).bind (Fw.elim
 (λe=>some (-1))
 (λe=>some e))
end d_
def d_ (s0:Sl Event) (p1:Event->Option Bool):Option Int:=
 d_.W1 s0 (len s0) 0 p1
open d_ in
abbrev tJ (g1:FuncId) (e1:List V) (p1:Event->Option Bool) (h1:mj Sy cL g1 [] e1 (λz:Event=>[enc z]) (λr:Bool=>[.bool r]) p1 true) (s0:Sl Event):Fc Sy cL (d_ s0 p1):=Fc.M 102 [enc s0,.clo g1 [] e1] (bf 9 s0 (cN 5 (λqW1=>(aN [Cv 0 s0,(1,.v (.clo g1 [] e1)),Iv 7 (len s0),Iv 8 qW1] [])) (λeW1=>(0,(aN [] []))) (λeW1=>(aN [Iv 4 eW1] [])) (λqW1=>aH 7 9 (bq 16 λx_1 _=>uy 1 h1.f x_1 λx_2 _=>aH 2 16 ah ah) ah) (λeW1=>ah) (λeW1=>ah))) (l:=by simp[h1.d])
def fI (s0:Sl Event) (p1:Event->Option Bool):Option Bool:=
 (d_ s0 p1).bind λx_1=>
 some (decide (x_1>=0))
abbrev lz (g1:FuncId) (e1:List V) (p1:Event->Option Bool) (h1:mj Sy cL g1 [] e1 (λz:Event=>[enc z]) (λr:Bool=>[.bool r]) p1 true) (s0:Sl Event):Fc Sy cL (fI s0 p1):=Fc.M 49 [enc s0,.clo g1 [] e1] (aO (F:=tJ g1 e1 p1 h1 s0) 9 λx_1 _=>ah) (l:=by simp[h1.d])
def oM (x0:Event):Option Bool:=
 some (decide ((len x0.assign)>20))
instance Nq (x0:Event):Fc Sy cL (oM x0):=Fc.M 50 [enc x0] (cw 2 1 x0 (bf 7 x0.assign ah))
namespace h_
def ax (v7:Sl bA) (v8:Int) (tb1:Trace) (n3 v9:Int):Option (Fw (Int×Int) Int Unit):=
 aq (decide (v9<v8))
 ((idx v7 v9).bind λx_1=>
 (aq (decide ((len x_1.events)>12))
 (some true)
 (some (decide ((len x_1.vars)>20))):Option Bool).bind λx_2=>
 (aq x_2
 (some true)
 ((fI x_1.events (λz=>oM z)).bind λx_3=>
 some x_3):Option Bool).bind λx_4=>
 aq x_4
 (some (.r ()))
 (some (.n (IntKind.wrap .i64 (n3+(len x_1.events)),IntKind.wrap .i64 (v9+1)))))
 (some (.x n3))
def W1 (n3:Int) (v7:Sl bA) (v8 v9:Int) (tb1:Trace):Option Bool:=
 (aV (λq:Int×Int=>ax v7 v8 tb1 q.1 q.2) (n3,v9)).bind (Fw.elim
 (λe=>(aq (decide ((len tb1.procs)<=10))
 ((aq (decide (e<=16))
 (some true)
 ((aq (decide (e>=24))
 (some (decide (e<=40)))
 (some false):Option Bool).bind λx_5=>
 (aq x_5
 (some ((len tb1.procs)==6))
 (some false):Option Bool).bind λx_6=>
 some x_6):Option Bool).bind λx_7=>
 some x_7)
 (some false):Option Bool).bind λx_8=>
 some x_8)
 (λe=>some false))
end h_
def h_ (t0:Trace):Option Bool:=
 h_.W1 0 t0.procs (len t0.procs) 0 t0
open h_ in
instance Qb (t0:Trace):Fc Sy cL (h_ t0):=Fc.M 9 [enc t0] (cw 2 1 t0 (bf 13 t0.procs (cN 5 (λqW1=>(aN [Pv 1,Iv 3 qW1.1,Cv 7 t0.procs,Iv 8 (len t0.procs),Iv 9 qW1.2] [Xb 1 t0])) (λeW1=>(0,(aN [Pv 1,Iv 3 eW1] [Xb 1 t0]))) (λeW1=>(aN [Bv 2 false] [])) (λqW1=>aH 7 10 (bq 7 λx_1 _=>lp 2 5 0 x_1 (bf 7 x_1.events (bf 8 x_1.events (bh 2 5 [22] 27 (aH 2 22 (aC 5) (bf 2 x_1.vars (aC 2))) λx_2=>bh 1 4 [5,28] 32 (aH 1 28 (aC 4) (aO (F:=lz 50 [] (λz=>oM z) mj.tK x_1.events) 2 λx_3 _=>aC 1)) λx_4=>aH 2 32 ah ah)))) ah) (λeW1=>bf 6 t0.procs (bh 2 17 [1,3,38] 55 (aH 2 38 (bh 3 13 [1,3,41] 54 (aH 3 41 (aC 13) (bh 3 3 [3,44] 47 (aH 3 44 (aC 3) (aC 3)) λx_5=>bh 1 5 [1,48] 53 (aH 1 48 (bf 2 t0.procs (aC 2)) (aC 5)) λx_6=>aC 1)) λx_7=>aC 1) (aC 17)) λx_8=>ah)) (λeW1=>ah))))
def l_ (c0:Int):Option Bool:=
 (aq (decide (c0>=65))
 (some (decide (c0<=90)))
 (some false):Option Bool).bind λx_1=>
 (aq x_1
 (some true)
 ((aq (decide (c0>=97))
 (some (decide (c0<=122)))
 (some false):Option Bool).bind λx_2=>
 some x_2):Option Bool).bind λx_3=>
 some x_3
instance Na (c0:Int):Fc Sy cL (l_ c0):=Fc.M 157 [.int .u8 c0] (bh 10 3 [5] 8 (aH 10 5 (aC 3) (aC 3)) λx_1=>bh 1 7 [0,9] 16 (aH 1 9 (aC 7) (bh 3 3 [0,12] 15 (aH 3 12 (aC 3) (aC 3)) λx_2=>aC 1)) λx_3=>ah)
def qn (c0:Int):Option Bool:=
 (aq (decide (c0>=48))
 (some (decide (c0<=57)))
 (some false):Option Bool).bind λx_1=>
 some x_1
instance NL (c0:Int):Fc Sy cL (qn c0):=Fc.M 158 [.int .u8 c0] (bh 10 3 [0,5] 8 (aH 10 5 (aC 3) (aC 3)) λx_1=>ah)
namespace fA
def ax (s0:ByteArray) (i3:Int):Option (Fw Int Unit Unit):=
 aq (decide (i3<((ByteArray.size s0:Nat):Int)))
 ((iP s0 i3).bind λx_5=>
 (l_ x_5).bind λx_6=>
 (aq x_6
 (some false)
 ((iP s0 i3).bind λx_7=>
 (qn x_7).bind λx_8=>
 some (!x_8)):Option Bool).bind λx_9=>
 (aq x_9
 ((iP s0 i3).bind λx_10=>
 some (!(x_10==95)))
 (some false):Option Bool).bind λx_11=>
 aq x_11
 (some (.r ()))
 (some (.n (IntKind.wrap .i64 (i3+1)))))
 (some (.x ()))
def W1 (s0:ByteArray) (i3:Int):Option Bool:=
 (aV (λq:Int=>ax s0 q) i3).bind (Fw.elim
 (λe=>some true)
 (λe=>some false))
end fA
def fA (s0:ByteArray):Option Bool:=
 (aq (decide (((ByteArray.size s0:Nat):Int)<1))
 (some true)
 (some (decide (((ByteArray.size s0:Nat):Int)>16))):Option Bool).bind λx_1=>
 (aq x_1
 (some true)
 ((iP s0 0).bind λx_2=>
 (l_ x_2).bind λx_3=>
 some (!x_3)):Option Bool).bind λx_4=>
 aq x_4
 (some false)
 (fA.W1 s0 1)
open fA in
instance Px (s0:ByteArray):Fc Sy cL (fA s0):=Fc.M 137 [.str s0] (bh 12 4 [7] 11 (aH 12 7 (aC 4) (aC 4)) λx_1=>bh 1 5 [12] 17 (aH 1 12 (aC 5) (xM 1 .i64 λx_2 _=>aO 0 λx_3 _=>aC 2)) λx_4=>aH 2 17 ah (cN 11 (λqW1=>(aN [(0,.v (.str s0)),Iv 3 qW1] [])) (λeW1=>(0,(aN [] []))) (λeW1=>(aN [Bv 2 false] [])) (λqW1=>aH 10 21 (xM 9 .i64 λx_5 _=>aO 0 λx_6 _=>bh 2 6 [29] 35 (cK 2 29 (aC 6) (xM 2 .i64 λx_7 _=>aO 0 λx_8 _=>aC 2)) λx_9=>bh 1 5 [36] 41 (aH 1 36 (xM 2 .i64 λx_10 _=>aC 2) (aC 5)) λx_11=>aH 2 41 ah ah) ah) (λeW1=>ah) (λeW1=>ah)))
def ny (n0:Int):Option Bool:=
 (aq (decide (n0>=(-1073741824)))
 (some (decide (n0<=1073741824)))
 (some false):Option Bool).bind λx_1=>
 some x_1
instance OA (n0:Int):Fc Sy cL (ny n0):=Fc.M 138 [.int .i64 n0] (bh 10 3 [0,5] 8 (aH 10 5 (aC 3) (aC 3)) λx_1=>ah)
namespace cU
def dS (i7:Int) (xb5:bA) (j8:Int):Option (Fw Int Unit Unit):=
 aq (decide (j8<i7))
 ((idx xb5.vars j8).bind λx_6=>
 (idx xb5.vars i7).bind λx_7=>
 aq (ByteArray.toList x_6.name==ByteArray.toList x_7.name)
 (some (.r ()))
 (some (.n (IntKind.wrap .i64 (j8+1)))))
 (some (.x ()))
def W3 (i7 j8:Int) (xb5:bA):Option (Fw Int Unit Int):=
 (aV (λq:Int=>dS i7 xb5 q) j8).bind (Fw.elim
 (λe=>(idx xb5.vars i7).bind λx_8=>
 (ny x_8.init_).bind λx_9=>
 aq x_9
 (some (.n (IntKind.wrap .i64 (i7+1))))
 (some (.r 2)))
 (λe=>some (.r 13)))
def bt (xb5:bA) (i7:Int):Option (Fw Int Unit Int):=
 aq (decide (i7<(len xb5.vars)))
 ((idx xb5.vars i7).bind λx_4=>
 (fA x_4.name).bind λx_5=>
 aq x_5
 (W3 i7 0 xb5)
 (some (.r 13)))
 (some (.x ()))
def W2 (i7:Int) (xb5:bA):Option Int:=
 (aV (λq:Int=>bt xb5 q) i7).bind (Fw.elim
 (λe=>aq (decide ((len xb5.events)>64))
 (some 5)
 (some 0))
 (λe=>some e))
def ax (p1:Int) (tb2:Trace) (xb5:bA) (i6:Int):Option (Fw Int Unit Unit):=
 aq (decide (i6<p1))
 ((idx tb2.procs i6).bind λx_3=>
 aq (ByteArray.toList x_3.name==ByteArray.toList xb5.name)
 (some (.r ()))
 (some (.n (IntKind.wrap .i64 (i6+1)))))
 (some (.x ()))
def W1 (p1 i6:Int) (tb2:Trace) (xb5:bA):Option Int:=
 (aV (λq:Int=>ax p1 tb2 xb5 q) i6).bind (Fw.elim
 (λe=>aq (decide ((len xb5.vars)>8))
 (some 5)
 (cU.W2 0 xb5))
 (λe=>some 13))
end cU
def cU (t0:Trace) (p1:Int):Option Int:=
 (idx t0.procs p1).bind λx_1=>
 (fA x_1.name).bind λx_2=>
 aq x_2
 (cU.W1 p1 0 t0 x_1)
 (some 13)
open cU in
instance Pk (t0:Trace) (p1:Int):Fc Sy cL (cU t0 p1):=Fc.M 103 [enc t0,.int .i64 p1] (cw 2 2 t0 (bq 8 λx_1 _=>lp 2 5 0 x_1 (aO 7 λx_2 _=>cK 3 17 (cN 11 (λqW1=>(aN [Iv 1 p1,Pv 2,Pv 5,Iv 6 qW1] [Xb 2 t0,Xb 5 x_1])) (λeW1=>(0,(aN [Pv 5] [Xb 5 x_1]))) (λeW1=>(aN [Iv 4 13] [])) (λqW1=>aH 9 20 (bq 10 λx_3 _=>aH 7 31 ah ah) ah) (λeW1=>bf 7 x_1.vars (aH 3 35 ah (cN 11 (λqW2=>(aN [Pv 5,Iv 7 qW2] [Xb 5 x_1])) (λeW2=>(2,(aN [Pv 5] [Xb 5 x_1]))) (λeW2=>(aN [Iv 4 eW2] [])) (λqW2=>bf 7 x_1.vars (aH 3 40 (bq 11 λx_4 _=>aO 2 λx_5 _=>cK 3 50 (cN 11 (λqW3=>(aN [Pv 5,Iv 7 qW2,Iv 8 qW3] [Xb 5 x_1])) (λeW3=>(4,(aN [Pv 5,Iv 7 qW2] [Xb 5 x_1]))) (λeW3=>(aN [Iv 4 13] [])) (λqW3=>aH 9 53 (bq 10 λx_6 _=>bq 5 λx_7 _=>aH 5 68 ah ah) ah) (λeW3=>bq 7 λx_8 _=>aO 2 λx_9 _=>cK 3 76 ah ah) (λeW3=>ah)) ah) ah)) (λeW2=>bf 7 x_1.events (aH 3 80 ah ah)) (λeW2=>ah)))) (λeW1=>ah)) ah)))
namespace cT
def dS (p1 k8:Int) (tb3:Trace) (xb7:Event) (ab9:Assign) (j10:Int):Option (Fw Int Unit Unit):=
 aq (decide (j10<k8))
 ((idx xb7.assign j10).bind λx_20=>
 aq (x_20.var==ab9.var)
 (some (.r ()))
 (some (.n (IntKind.wrap .i64 (j10+1)))))
 (some (.x ()))
def W3 (p1 k8 j10:Int) (tb3:Trace) (xb7:Event) (ab9:Assign):Option (Fw Int Unit Int):=
 (aV (λq:Int=>dS p1 k8 tb3 xb7 ab9 q) j10).bind (Fw.elim
 (λe=>some (.n (IntKind.wrap .i64 (k8+1))))
 (λe=>some (.r 8)))
def bt (p1:Int) (tb3:Trace) (xb7:Event) (k8:Int):Option (Fw Int Unit Int):=
 aq (decide (k8<(len xb7.assign)))
 ((idx xb7.assign k8).bind λx_15=>
 (aq (decide (x_15.var<0))
 (some true)
 ((idx tb3.procs p1).bind λx_16=>
 some (decide (x_15.var>=(len x_16.vars)))):Option Bool).bind λx_17=>
 (aq x_17
 (some true)
 ((ny x_15.value).bind λx_18=>
 some (!x_18)):Option Bool).bind λx_19=>
 aq x_19
 (some (.r 2))
 (W3 p1 k8 0 tb3 xb7 x_15))
 (some (.x ()))
def W2 (p1 k8:Int) (tb3:Trace) (xb7:Event):Option Int:=
 (aV (λq:Int=>bt p1 tb3 xb7 q) k8).bind (Fw.elim
 (λe=>some 0)
 (λe=>some e))
def J1 (p1 i2:Int) (tb3:Trace) (xb7:Event):Option Int:=
 (aq (decide (xb7.time<0))
 (some true)
 (some (decide (xb7.time>1099511627776))):Option Bool).bind λx_10=>
 (aq x_10
 (some true)
 ((aq (decide (i2>0))
 ((idx tb3.procs p1).bind λx_11=>
 (idx x_11.events (IntKind.wrap .i64 (i2-1))).bind λx_12=>
 some (decide (xb7.time<x_12.time)))
 (some false):Option Bool).bind λx_13=>
 some x_13):Option Bool).bind λx_14=>
 aq x_14
 (some 11)
 (aq (decide ((len xb7.assign)>8))
 (some 5)
 (cT.W2 p1 0 tb3 xb7))
theorem pX (p1 i2:Int) (tb3:Trace) (xb7:Event):Le ((J1 p1 i2 tb3 xb7).bind (λr=>some [.int .i64 r])) (bz Sy cL (ot (tr Tx 104)) (rm (tb Tx 104) [1,1,1,0] [] (aN [Iv 1 p1,Iv 2 i2,Pv 3,Pv 7] [Xb 3 tb3,Xb 7 xb7]))):=
 bh 7 4 [71] 75 (aH 7 71 (aC 4) (aC 4)) λx_10=>bh 1 19 [2,76] 95 (aH 1 76 (aC 19) (bh 3 15 [2,79] 94 (aH 3 79 (bq 5 λx_11 _=>bq 4 λx_12 _=>aC 4) (aC 15)) λx_13=>aC 1)) λx_14=>aH 2 95 ah (bf 8 xb7.assign (aH 3 99 ah (cN 11 (λqW2=>(aN [Iv 1 p1,Pv 3,Pv 7,Iv 8 qW2] [Xb 3 tb3,Xb 7 xb7])) (λeW2=>(0,(aN [] []))) (λeW2=>(aN [Iv 6 eW2] [])) (λqW2=>bf 7 xb7.assign (aH 3 104 (bq 10 λx_15 _=>bh 12 11 [115] 126 (aH 12 115 (aC 11) (bq 5 λx_16 _=>bf 2 x_16.vars (aC 2))) λx_17=>Nb 1 5 [130] (λx_19=>(aN [Iv 1 p1,Pv 3,Pv 7,Iv 8 qW2,Bv 104 true,Pv 9,Bv 132 x_19] [Xb 3 tb3,Xb 7 xb7,Xb 9 x_15])) (aH 1 127 (aC 5) (fM 2 λx_18 _=>aC 2)) λx_19=>aH 2 132 ah (cN 10 (λqW3=>(aN [Iv 1 p1,Pv 3,Pv 7,Iv 8 qW2,Pv 9,Iv 10 qW3] [Xb 3 tb3,Xb 7 xb7,Xb 9 x_15])) (λeW3=>(2,(aN [Iv 1 p1,Pv 3,Pv 7,Iv 8 qW2] [Xb 3 tb3,Xb 7 xb7]))) (λeW3=>(aN [Iv 6 8] [])) (λqW3=>aH 9 135 (bq 10 λx_20 _=>aH 7 146 ah ah) ah) (λeW3=>ah) (λeW3=>ah))) ah)) (λeW2=>ah) (λeW2=>ah))))
end cT
def cT (t0:Trace) (p1 i2:Int):Option Int:=
 (idx t0.procs p1).bind λx_1=>
 (idx x_1.events i2).bind λx_2=>
 aq (x_2.kind==1)
 ((aq (x_2.peer==0)
 (some (!(x_2.message==0)))
 (some true):Option Bool).bind λx_3=>
 aq x_3
 (some 3)
 (cT.J1 p1 i2 t0 x_2))
 ((aq (x_2.kind==2)
 (some false)
 (some (!(x_2.kind==3))):Option Bool).bind λx_4=>
 (aq x_4
 (some true)
 (some (decide (x_2.peer<0))):Option Bool).bind λx_5=>
 (aq x_5
 (some true)
 (some (decide (x_2.peer>=(len t0.procs)))):Option Bool).bind λx_6=>
 (aq x_6
 (some true)
 (some (x_2.peer==p1)):Option Bool).bind λx_7=>
 (aq x_7
 (some true)
 (some (decide (x_2.message<0))):Option Bool).bind λx_8=>
 (aq x_8
 (some true)
 (some (decide (x_2.message>199))):Option Bool).bind λx_9=>
 aq x_9
 (some 3)
 (cT.J1 p1 i2 t0 x_2))
open cT in
instance Pp (t0:Trace) (p1 i2:Int):Fc Sy cL (cT t0 p1 i2):=Fc.M 104 [enc t0,.int .i64 p1,.int .i64 i2] (cw 2 3 t0 (bq 8 λx_1 _=>bq 3 λx_2 _=>lp 2 7 0 x_2 (aH 10 22 (bh 7 4 [26] 30 (cK 7 26 (aC 4) (aC 4)) λx_3=>aH 2 30 ah (xd 4 (pX p1 i2 t0 x_2))) (bh 7 4 [34] 38 (cK 7 34 (aC 4) (aC 4)) λx_4=>bh 1 4 [39] 43 (aH 1 39 (aC 4) (aC 4)) λx_5=>bh 1 7 [44] 51 (aH 1 44 (aC 7) (bf 4 t0.procs (aC 2))) λx_6=>bh 1 5 [52] 57 (aH 1 52 (aC 5) (aC 5)) λx_7=>bh 1 4 [58] 62 (aH 1 58 (aC 4) (aC 4)) λx_8=>bh 1 4 [63] 67 (aH 1 63 (aC 4) (aC 4)) λx_9=>aH 2 67 ah (xd 4 (pX p1 i2 t0 x_2))))))
namespace f_
def ax (tb2:Trace) (xb3:aa) (eb5:Event) (sent6:Bool) (i7:Int):Option (Fw (Bool×Int) Bool Empty):=
 (idx tb2.procs eb5.peer).bind λx_3=>
 aq (decide (i7<(len x_3.events)))
 ((idx tb2.procs eb5.peer).bind λx_4=>
 (idx x_4.events i7).bind λx_5=>
 (aq sent6
 (some true)
 ((aq (x_5.kind==2)
 (some (x_5.message==eb5.message))
 (some false):Option Bool).bind λx_6=>
 (aq x_6
 (some (x_5.peer==xb3.proc))
 (some false):Option Bool).bind λx_7=>
 some x_7):Option Bool).bind λx_8=>
 some (.n (x_8,IntKind.wrap .i64 (i7+1))))
 (some (.x sent6))
def W1 (sent6:Bool) (i7:Int) (tb2:Trace) (xb3:aa) (eb5:Event):Option Int:=
 (aV (λq:Bool×Int=>ax tb2 xb3 eb5 q.1 q.2) (sent6,i7)).bind (Fw.elim
 (λe=>aq e
 (some 0)
 (some 7))
 (λe=>Empty.elim e))
end f_
def f_ (t0:Trace) (x1:aa):Option Int:=
 (rM t0 x1).bind λx_1=>
 aq (x_1.kind==1)
 (some 0)
 ((cD t0 x_1.kind x_1.message).bind λx_2=>
 aq (F_ x_2 x1)
 (aq (x_1.kind==3)
 (f_.W1 false 0 t0 x1 x_1)
 (some 0))
 (some 8))
open f_ in
instance Ng (t0:Trace) (x1:aa):Fc Sy cL (f_ t0 x1):=Fc.M 105 [enc t0,enc x1] (cw 2 2 t0 (aO 8 λx_1 _=>lp 1 5 0 x_1 (aH 10 14 ah (fM 11 λx_2 _=>cK 4 22 (aH 11 25 (iQ 14 (λqW1=>(aN [Pv 2,Pv 3,Pv 5,Bv 6 qW1.1,Iv 7 qW1.2] [Xb 2 t0,Xb 3 x1,Xb 5 x_1])) (λeW1=>(0,(aN [Bv 6 eW1] []))) (λqW1=>bq 9 λx_3 _=>bf 2 x_3.events (aH 3 35 (bq 11 λx_4 _=>bq 3 λx_5 _=>lp 2 8 0 x_5 (bh 5 18 [8,49] 67 (aH 5 49 (aC 18) (bh 4 6 [53] 59 (aH 4 53 (aC 6) (aC 6)) λx_6=>bh 1 6 [8,60] 66 (aH 1 60 (aC 6) (aC 6)) λx_7=>aC 1)) λx_8=>ah)) ah)) (λeW1=>cK 8 69 ah ah)) ah) ah))))
namespace bV
def J4 (done3:Sl Int) (p5:Int) (tb1:Trace):Option (Fw ((Sl Int)×Bool) ((Sl Int)×Bool) Empty):=
 (Sl.kn done3 p5).bind λx_12=>
 (Sl.get done3 x_12).bind λx_13=>
 (Sl.kn done3 p5).bind λx_14=>
 (Sl.put done3 x_14 (IntKind.wrap .i64 (x_13+1):Int)).bind λx_15=>
 some (.n (x_15,true))
def dS (p5:Int) (tb1:Trace) (done3:Sl Int) (moved4:Bool):Option (Fw ((Sl Int)×Bool) ((Sl Int)×Bool) Empty):=
 (Sl.kn done3 p5).bind λx_2=>
 (Sl.get done3 x_2).bind λx_3=>
 (idx tb1.procs p5).bind λx_4=>
 aq (decide (x_3<(len x_4.events)))
 ((idx tb1.procs p5).bind λx_5=>
 (Sl.kn done3 p5).bind λx_6=>
 (Sl.get done3 x_6).bind λx_7=>
 (idx x_5.events x_7).bind λx_8=>
 aq (x_8.kind==3)
 ((cD tb1 2 x_8.message).bind λx_9=>
 (Sl.kn done3 x_9.proc).bind λx_10=>
 (Sl.get done3 x_10).bind λx_11=>
 aq (decide (x_11<x_9.index))
 (some (.x (done3,moved4)))
 (J4 done3 p5 tb1))
 (J4 done3 p5 tb1))
 (some (.x (done3,moved4)))
def W3 (done3:Sl Int) (moved4:Bool) (p5:Int) (tb1:Trace):Option (Fw ((Sl Int)×Bool×Int) ((Sl Int)×Bool) Empty):=
 (aV (λq:(Sl Int)×Bool=>dS p5 tb1 q.1 q.2) (done3,moved4)).bind (Fw.elim
 (λe=>some (.n (e.1,e.2,IntKind.wrap .i64 (p5+1))))
 (λe=>Empty.elim e))
def bt (tb1:Trace) (done3:Sl Int) (moved4:Bool) (p5:Int):Option (Fw ((Sl Int)×Bool×Int) ((Sl Int)×Bool) Empty):=
 aq (decide (p5<(len tb1.procs)))
 (W3 done3 moved4 p5 tb1)
 (some (.x (done3,moved4)))
def W2 (done3:Sl Int) (moved4:Bool) (p5:Int) (tb1:Trace):Option (Fw (Sl Int) (Sl Int) Empty):=
 (aV (λq:(Sl Int)×Bool×Int=>bt tb1 q.1 q.2.1 q.2.2) (done3,moved4,p5)).bind (Fw.elim
 (λe=>aq e.2
 (some (.n e.1))
 (some (.x e.1)))
 (λe=>Empty.elim e))
def vt (done3:Sl Int) (tb1:Trace) (p8:Int):Option (Fw Int Unit Unit):=
 aq (decide (p8<(len tb1.procs)))
 ((Sl.kn done3 p8).bind λx_16=>
 (Sl.get done3 x_16).bind λx_17=>
 (idx tb1.procs p8).bind λx_18=>
 aq (decide (x_17<(len x_18.events)))
 (some (.r ()))
 (some (.n (IntKind.wrap .i64 (p8+1)))))
 (some (.x ()))
def W5 (done3:Sl Int) (p8:Int) (tb1:Trace):Option Bool:=
 (aV (λq:Int=>vt done3 tb1 q) p8).bind (Fw.elim
 (λe=>some true)
 (λe=>some false))
def ax (tb1:Trace) (done3:Sl Int):Option (Fw (Sl Int) (Sl Int) Empty):=
 W2 done3 false 0 tb1
def W1 (done3:Sl Int) (tb1:Trace):Option Bool:=
 (aV (λq:Sl Int=>ax tb1 q) done3).bind (Fw.elim
 (λe=>bV.W5 e 0 tb1)
 (λe=>Empty.elim e))
end bV
def bV (t0:Trace):Option Bool:=
 (oW (len t0.procs) (0:Int)).bind λx_1=>
 bV.W1 x_1 t0
open bV in
instance Ls (t0:Trace):Fc Sy cL (bV t0):=Fc.M 106 [enc t0] (cw 2 1 t0 (bf 7 t0.procs (Nh 0 12 λx_1 _=>iQ 7 (λqW1=>(aN [Pv 1,Ov 3] [Xb 1 t0,Lb 2003 qW1])) (λeW1=>(0,(aN [Pv 1,Ov 3] [Xb 1 t0,Lb 2003 eW1]))) (λqW1=>iQ 17 (λqW2=>(aN [Pv 1,Ov 3,Bv 4 qW2.2.1,Iv 5 qW2.2.2] [Xb 1 t0,Lb 2003 qW2.1])) (λeW2=>(2,(aN [Pv 1,Ov 3,Bv 4 eW2.2] [Xb 1 t0,Lb 2003 eW2.1]))) (λqW2=>bf 8 t0.procs (aH 3 17 (iQ 8 (λqW3=>(aN [Pv 1,Ov 3,Bv 4 qW3.2,Iv 5 qW2.2.2] [Xb 1 t0,Lb 2003 qW3.1])) (λeW3=>(4,(aN [Pv 1,Ov 3,Bv 4 eW3.2,Iv 5 qW2.2.2] [Xb 1 t0,Lb 2003 eW3.1]))) (λqW3=>kZ .i64 7 2003 λx_2 _=>sq 0 2003 0 1 false (λx_3=>.int .i64 x_3) λx_3 _=>bq 3 λx_4 _=>bf 2 x_4.events (aH 3 31 (bq 9 λx_5 _=>kZ .i64 4 2003 λx_6 _=>sq 0 2003 0 1 false (λx_7=>.int .i64 x_7) λx_7 _=>bq 0 λx_8 _=>lp 2 6 0 x_8 (aH 10 46 (aO 6 λx_9 _=>kZ .i64 9 2003 λx_10 _=>sq 0 2003 0 1 false (λx_11=>.int .i64 x_11) λx_11 _=>aH 5 58 ah (xU 5 (kZ .i64 4 2003 λx_12 _=>sq 0 2003 0 1 false (λx_13=>.int .i64 x_13) λx_13 _=>kZ .i64 1 2003 λx_14 _=>xO 0 2003 (.int .i64 (IntKind.wrap .i64 (x_13+1))) λx_15 _=>ah))) (xU 5 (kZ .i64 4 2003 λx_12 _=>sq 0 2003 0 1 false (λx_13=>.int .i64 x_13) λx_13 _=>kZ .i64 1 2003 λx_14 _=>xO 0 2003 (.int .i64 (IntKind.wrap .i64 (x_13+1))) λx_15 _=>ah)))) ah)) (λeW3=>ah)) ah)) (λeW2=>cK 8 66 ah ah)) (λeW1=>cN 11 (λqW5=>(aN [Pv 1,Ov 3,Iv 8 qW5] [Xb 1 t0,Lb 2003 eW1])) (λeW5=>(6,(aN [] []))) (λeW5=>(aN [Bv 2 false] [])) (λqW5=>bf 8 t0.procs (aH 3 71 (kZ .i64 9 2003 λx_16 _=>sq 0 2003 0 1 false (λx_17=>.int .i64 x_17) λx_17 _=>bq 3 λx_18 _=>bf 2 x_18.events (aH 3 85 ah ah)) ah)) (λeW5=>ah) (λeW5=>ah)))))
instance Ph (t:Trace) (x:aa):Fc Sy cL (kK t x):=Fc.of (A:=λz:Trace×aa=>[enc z.1,enc z.2]) (E:=λr:Sl (Sl Bool)=>[enc r]) (p:=λz=>kK z.1 z.2) (n:=107) (z:=(t,x)) (ja.KN (by kernel_rfl) (by kernel_rfl) (λz r hr=>L8 z.1 z.2 r hr))
namespace bP
def dS (p6:Int) (tb1:Trace) (vb2:aa) (i7:Int):Option (Fw Int Unit (Int×aa)):=
 (idx tb1.procs p6).bind λx_3=>
 aq (decide (i7<(len x_3.events)))
 ((cT tb1 p6 i7).bind λx_4=>
 aq (x_4==0)
 (some (.n (IntKind.wrap .i64 (i7+1))))
 (some (.r (x_4,(⟨p6,IntKind.wrap .i64 (i7+1)⟩:aa)))))
 (some (.x ()))
def W3 (p6 i7:Int) (tb1:Trace) (vb2:aa):Option (Fw Int Unit (Int×aa)):=
 (aV (λq:Int=>dS p6 tb1 vb2 q) i7).bind (Fw.elim
 (λe=>some (.n (IntKind.wrap .i64 (p6+1))))
 (λe=>some (.r (e.1,e.2))))
def vt (p9:Int) (tb1:Trace) (vb2:aa) (i10:Int):Option (Fw Int Unit (Int×aa)):=
 (idx tb1.procs p9).bind λx_5=>
 aq (decide (i10<(len x_5.events)))
 ((f_ tb1 (⟨p9,IntKind.wrap .i64 (i10+1)⟩:aa)).bind λx_6=>
 aq (x_6==0)
 (some (.n (IntKind.wrap .i64 (i10+1))))
 (some (.r (x_6,(⟨p9,IntKind.wrap .i64 (i10+1)⟩:aa)))))
 (some (.x ()))
def W5 (p9 i10:Int) (tb1:Trace) (vb2:aa):Option (Fw Int Unit (Int×aa)):=
 (aV (λq:Int=>vt p9 tb1 vb2 q) i10).bind (Fw.elim
 (λe=>some (.n (IntKind.wrap .i64 (p9+1))))
 (λe=>some (.r (e.1,e.2))))
def Gu (p13:Int) (tb1:Trace) (vb2:aa) (i14:Int):Option (Fw Int Unit aa):=
 (idx tb1.procs p13).bind λx_7=>
 aq (decide (i14<(len x_7.events)))
 ((kK tb1 (⟨p13,IntKind.wrap .i64 (i14+1)⟩:aa)).bind λx_8=>
 (idx x_8 p13).bind λx_9=>
 (idx x_9 (IntKind.wrap .i64 (i14+1))).bind λx_10=>
 aq x_10
 (some (.r (⟨p13,IntKind.wrap .i64 (i14+1)⟩:aa)))
 (some (.n (IntKind.wrap .i64 (i14+1)))))
 (some (.x ()))
def W7 (p13 i14:Int) (tb1:Trace) (vb2:aa):Option (Fw Int Unit aa):=
 (aV (λq:Int=>Gu p13 tb1 vb2 q) i14).bind (Fw.elim
 (λe=>some (.n (IntKind.wrap .i64 (p13+1))))
 (λe=>some (.r e)))
def Gp (tb1:Trace) (vb2:aa) (p13:Int):Option (Fw Int Unit aa):=
 aq (decide (p13<(len tb1.procs)))
 (W7 p13 0 tb1 vb2)
 (some (.x ()))
def W6 (p13:Int) (tb1:Trace) (vb2:aa):Option (aa×Int):=
 (aV (λq:Int=>Gp tb1 vb2 q) p13).bind (Fw.elim
 (λe=>some (⟨0,0⟩,0))
 (λe=>some (e,10)))
def FV (tb1:Trace) (vb2:aa) (p9:Int):Option (Fw Int Unit (Int×aa)):=
 aq (decide (p9<(len tb1.procs)))
 (W5 p9 0 tb1 vb2)
 (some (.x ()))
def W4 (p9:Int) (tb1:Trace) (vb2:aa):Option (aa×Int):=
 (aV (λq:Int=>FV tb1 vb2 q) p9).bind (Fw.elim
 (λe=>(bV tb1).bind λx_11=>
 aq x_11
 (some (⟨0,0⟩,0))
 (bP.W6 0 tb1 vb2))
 (λe=>some (e.2,e.1)))
def bt (tb1:Trace) (vb2:aa) (p6:Int):Option (Fw Int Unit (Int×aa)):=
 aq (decide (p6<(len tb1.procs)))
 (W3 p6 0 tb1 vb2)
 (some (.x ()))
def W2 (p6:Int) (tb1:Trace) (vb2:aa):Option (aa×Int):=
 (aV (λq:Int=>bt tb1 vb2 q) p6).bind (Fw.elim
 (λe=>bP.W4 0 tb1 vb2)
 (λe=>some (e.2,e.1)))
def ax (tb1:Trace) (vb2:aa) (p4:Int):Option (Fw Int Unit (Int×aa)):=
 aq (decide (p4<(len tb1.procs)))
 ((cU tb1 p4).bind λx_2=>
 aq (x_2==0)
 (some (.n (IntKind.wrap .i64 (p4+1))))
 (some (.r (x_2,(⟨p4,0⟩:aa)))))
 (some (.x ()))
def W1 (p4:Int) (tb1:Trace) (vb2:aa):Option (aa×Int):=
 (aV (λq:Int=>ax tb1 vb2 q) p4).bind (Fw.elim
 (λe=>bP.W2 0 tb1 vb2)
 (λe=>some (e.2,e.1)))
end bP
def bP (t0:Trace):Option (aa×Int):=
 (aq (decide ((len t0.procs)<1))
 (some true)
 (some (decide ((len t0.procs)>8))):Option Bool).bind λx_1=>
 aq x_1
 (some (⟨0,0⟩,1))
 (bP.W1 0 t0 (⟨0,0⟩:aa))
open bP in
instance O8 (t0:Trace):Fc Sy cL (bP t0):=Fc.M 51 [enc t0] (cw 2 1 t0 (bf 9 t0.procs (bh 2 5 [20] 25 (aH 2 20 (aC 5) (bf 2 t0.procs (aC 2))) λx_1=>aH 2 25 ah (cN 11 (λqW1=>(aN [Pv 1,Pv 2,Iv 4 qW1] [Xb 1 t0,Xb 2 (⟨0,0⟩:aa)])) (λeW1=>(0,(aN [Pv 1,Pv 2] [Xb 1 t0,Xb 2 (⟨0,0⟩:aa)]))) (λeW1=>(aN [Pv 2,Iv 3 eW1.1] [Xb 2 eW1.2])) (λqW1=>bf 7 t0.procs (aH 3 31 (aO 9 λx_2 _=>cK 9 38 ah ah) ah)) (λeW1=>cN 10 (λqW2=>(aN [Pv 1,Pv 2,Iv 6 qW2] [Xb 1 t0,Xb 2 (⟨0,0⟩:aa)])) (λeW2=>(2,(aN [Pv 1,Pv 2] [Xb 1 t0,Xb 2 (⟨0,0⟩:aa)]))) (λeW2=>(aN [Pv 2,Iv 3 eW2.1] [Xb 2 eW2.2])) (λqW2=>bf 7 t0.procs (aH 3 46 (cN 12 (λqW3=>(aN [Pv 1,Pv 2,Iv 6 qW2,Iv 7 qW3] [Xb 1 t0,Xb 2 (⟨0,0⟩:aa)])) (λeW3=>(4,(aN [Pv 1,Pv 2,Iv 6 qW2] [Xb 1 t0,Xb 2 (⟨0,0⟩:aa)]))) (λeW3=>(aN [Pv 2,Iv 3 eW3.1] [Xb 2 eW3.2])) (λqW3=>bq 8 λx_3 _=>bf 2 x_3.events (aH 3 57 (aO 10 λx_4 _=>cK 9 65 ah ah) ah)) (λeW3=>ah) (λeW3=>ah)) ah)) (λeW2=>cN 10 (λqW4=>(aN [Pv 1,Pv 2,Iv 9 qW4] [Xb 1 t0,Xb 2 (⟨0,0⟩:aa)])) (λeW4=>(6,(aN [Pv 1,Pv 2] [Xb 1 t0,Xb 2 (⟨0,0⟩:aa)]))) (λeW4=>(aN [Pv 2,Iv 3 eW4.1] [Xb 2 eW4.2])) (λqW4=>bf 7 t0.procs (aH 3 75 (cN 12 (λqW5=>(aN [Pv 1,Pv 2,Iv 9 qW4,Iv 10 qW5] [Xb 1 t0,Xb 2 (⟨0,0⟩:aa)])) (λeW5=>(8,(aN [Pv 1,Pv 2,Iv 9 qW4] [Xb 1 t0,Xb 2 (⟨0,0⟩:aa)]))) (λeW5=>(aN [Pv 2,Iv 3 eW5.1] [Xb 2 eW5.2])) (λqW5=>bq 8 λx_5 _=>bf 2 x_5.events (aH 3 86 (aO 19 λx_6 _=>cK 9 97 ah ah) ah)) (λeW5=>ah) (λeW5=>ah)) ah)) (λeW4=>aO 6 λx_11 _=>aH 2 101 ah (cN 11 (λqW6=>(aN [Pv 1,Pv 2,Iv 13 qW6] [Xb 1 t0,Xb 2 (⟨0,0⟩:aa)])) (λeW6=>(10,(aN [Pv 2] [Xb 2 (⟨0,0⟩:aa)]))) (λeW6=>(aN [Pv 2,Iv 3 10] [Xb 2 eW6])) (λqW6=>bf 7 t0.procs (aH 3 107 (cN 12 (λqW7=>(aN [Pv 1,Pv 2,Iv 13 qW6,Iv 14 qW7] [Xb 1 t0,Xb 2 (⟨0,0⟩:aa)])) (λeW7=>(12,(aN [Pv 1,Pv 2,Iv 13 qW6] [Xb 1 t0,Xb 2 (⟨0,0⟩:aa)]))) (λeW7=>(aN [Pv 2,Iv 3 10] [Xb 2 eW7])) (λqW7=>bq 8 λx_7 _=>bf 2 x_7.events (aH 3 118 (aO 19 λx_8 _=>bq 1 λx_9 _=>bq 3 λx_10 _=>aH 3 134 ah ah) ah)) (λeW7=>ah) (λeW7=>ah)) ah)) (λeW6=>ah) (λeW6=>ah))) (λeW4=>ah)) (λeW2=>ah)) (λeW1=>ah)))))
def qj (t0:Trace):Option Bool:=
 (bP t0).bind λx_1=>
 some (x_1.2==0)
instance OH (t0:Trace):Fc Sy cL (qj t0):=Fc.M 10 [enc t0] (cw 2 1 t0 (aO 6 λx_1 _=>ah))
def ow (c0:Sl Int) (p1:Int):Option (Sl Int):=
 (lM (Sl.row []:Sl Int) c0).bind λx_1=>
 (Sl.kn x_1 p1).bind λx_2=>
 (Sl.get x_1 x_2).bind λx_3=>
 (Sl.kn x_1 p1).bind λx_4=>
 (Sl.put x_1 x_4 (IntKind.wrap .i64 (x_3+1):Int)).bind λx_5=>
 some x_5
instance Pz (c0:Sl Int) (p1:Int):Fc Sy cL (ow c0 p1):=Fc.N 142 [enc c0,.int .i64 p1] (xW 9 6 8 λx_1 _=>kZ .i64 9 8 λx_2 _=>sq 0 8 0 1 false (λx_3=>.int .i64 x_3) λx_3 _=>kZ .i64 1 8 λx_4 _=>xO 0 8 (.int .i64 (IntKind.wrap .i64 (x_3+1))) λx_5 _=>ah)
namespace kC
def ax (counts1:Sl Int) (tb2:Trace) (p5:Int):Option (Fw Int Unit Unit):=
 aq (decide (p5<(len counts1)))
 ((idx counts1 p5).bind λx_1=>
 (aq (decide (x_1<0))
 (some true)
 ((idx counts1 p5).bind λx_2=>
 (idx tb2.procs p5).bind λx_3=>
 some (decide (x_2>(len x_3.events)))):Option Bool).bind λx_4=>
 aq x_4
 (some (.r ()))
 (some (.n (IntKind.wrap .i64 (p5+1)))))
 (some (.x ()))
def W1 (counts1:Sl Int) (p5:Int) (tb2:Trace):Option Bool:=
 (aV (λq:Int=>ax counts1 tb2 q) p5).bind (Fw.elim
 (λe=>some true)
 (λe=>some false))
end kC
def kC (t0:Trace) (counts1:Sl Int):Option Bool:=
 aq ((len counts1)==(len t0.procs))
 (kC.W1 counts1 0 t0)
 (some false)
open kC in
instance Qf (t0:Trace) (counts1:Sl Int):Fc Sy cL (kC t0 counts1):=Fc.M 159 [enc t0,enc counts1] (cw 2 2 t0 (bf 7 counts1 (bf 2 t0.procs (cK 3 11 (cN 11 (λqW1=>(aN [Cv 1 counts1,Pv 2,Iv 5 qW1] [Xb 2 t0])) (λeW1=>(0,(aN [] []))) (λeW1=>(aN [Bv 4 false] [])) (λqW1=>bf 6 counts1 (aH 3 15 (bq 9 λx_1 _=>bh 3 13 [23] 36 (aH 3 23 (aC 13) (bq 2 λx_2 _=>bq 4 λx_3 _=>bf 2 x_3.events (aC 2))) λx_4=>aH 2 36 ah ah) ah)) (λeW1=>ah) (λeW1=>ah)) ah))))
namespace cC
def bt (counts1:Sl Int) (p5:Int) (tb2:Trace) (i6:Int):Option (Fw Int Unit Unit):=
 (idx counts1 p5).bind λx_1=>
 aq (decide (i6<x_1))
 ((idx tb2.procs p5).bind λx_2=>
 (idx x_2.events i6).bind λx_3=>
 aq (x_3.kind==3)
 ((cD tb2 2 x_3.message).bind λx_4=>
 (idx counts1 x_4.proc).bind λx_5=>
 aq (decide (x_4.index>x_5))
 (some (.r ()))
 (some (.n (IntKind.wrap .i64 (i6+1)))))
 (some (.n (IntKind.wrap .i64 (i6+1)))))
 (some (.x ()))
def W2 (counts1:Sl Int) (p5 i6:Int) (tb2:Trace):Option (Fw Int Unit Unit):=
 (aV (λq:Int=>bt counts1 p5 tb2 q) i6).bind (Fw.elim
 (λe=>some (.n (IntKind.wrap .i64 (p5+1))))
 (λe=>some (.r ())))
def ax (counts1:Sl Int) (tb2:Trace) (p5:Int):Option (Fw Int Unit Unit):=
 aq (decide (p5<(len counts1)))
 (W2 counts1 p5 0 tb2)
 (some (.x ()))
def W1 (counts1:Sl Int) (p5:Int) (tb2:Trace):Option Bool:=
 (aV (λq:Int=>ax counts1 tb2 q) p5).bind (Fw.elim
 (λe=>some true)
 (λe=>some false))
end cC
def cC (t0:Trace) (counts1:Sl Int):Option Bool:=
 cC.W1 counts1 0 t0
open cC in
instance Iz (t0:Trace) (counts1:Sl Int):Fc Sy cL (cC t0 counts1):=Fc.M 160 [enc t0,enc counts1] (cw 2 2 t0 (cN 11 (λqW1=>(aN [Cv 1 counts1,Pv 2,Iv 5 qW1] [Xb 2 t0])) (λeW1=>(0,(aN [] []))) (λeW1=>(aN [Bv 4 false] [])) (λqW1=>bf 6 counts1 (aH 3 12 (cN 12 (λqW2=>(aN [Cv 1 counts1,Pv 2,Iv 5 qW1,Iv 6 qW2] [Xb 2 t0])) (λeW2=>(2,(aN [Cv 1 counts1,Pv 2,Iv 5 qW1] [Xb 2 t0]))) (λeW2=>(aN [Bv 4 false] [])) (λqW2=>bq 7 λx_1 _=>aH 4 20 (bq 10 λx_2 _=>bq 3 λx_3 _=>lp 2 7 0 x_3 (aH 9 34 (aO 6 λx_4 _=>bq 11 λx_5 _=>aH 4 46 ah ah) ah)) ah) (λeW2=>ah) (λeW2=>ah)) ah)) (λeW1=>ah) (λeW1=>ah)))
def ug (t0:Trace) (c1:Sl Int):Option Bool:=
 (kC t0 c1).bind λx_1=>
 (aq x_1
 ((cC t0 c1).bind λx_2=>
 some x_2)
 (some false):Option Bool).bind λx_3=>
 some x_3
instance Sc (t0:Trace) (c1:Sl Int):Fc Sy cL (ug t0 c1):=Fc.M 141 [enc t0,enc c1] (cw 2 2 t0 (aO 7 λx_1 _=>bh 1 4 [1,2,8] 12 (aH 1 8 (aO 2 λx_2 _=>aC 1) (aC 4)) λx_3=>ah))
namespace gC
def ax (c1:Sl Int) (tb2:Trace) (out5:Sl (Sl Int)) (p6:Int):Option (Fw ((Sl (Sl Int))×Int) (Sl (Sl Int)) Empty):=
 aq (decide (p6<(len c1)))
 ((idx c1 p6).bind λx_1=>
 (idx tb2.procs p6).bind λx_2=>
 (aq (decide (x_1<(len x_2.events)))
 ((ow c1 p6).bind λx_3=>
 (ug tb2 x_3).bind λx_4=>
 some x_4)
 (some false):Option Bool).bind λx_5=>
 aq x_5
 ((ow c1 p6).bind λx_6=>
 (iT out5 (x_6:Sl Int)).bind λx_7=>
 some (.n (x_7,IntKind.wrap .i64 (p6+1))))
 (some (.n (out5,IntKind.wrap .i64 (p6+1)))))
 (some (.x out5))
def W1 (c1:Sl Int) (out5:Sl (Sl Int)) (p6:Int) (tb2:Trace):Option (Sl (Sl Int)):=
 (aV (λq:(Sl (Sl Int))×Int=>ax c1 tb2 q.1 q.2) (out5,p6)).bind (Fw.elim
 (λe=>some e)
 (λe=>Empty.elim e))
end gC
def gC (t0:Trace) (c1:Sl Int):Option (Sl (Sl Int)):=
 gC.W1 c1 (Sl.nil:Sl (Sl Int)) 0 t0
open gC in
instance Po (t0:Trace) (c1:Sl Int):Fc Sy cL (gC t0 c1):=Fc.N 108 [enc t0,enc c1] (cw 2 2 t0 (iQ 17 (λqW1=>(aN [Cv 1 c1,Pv 2,Ov 5,Iv 6 qW1.2] [Xb 2 t0,Lb 2005 qW1.1])) (λeW1=>(0,(aN [Ov 5] [Lb 2005 eW1]))) (λqW1=>bf 7 c1 (aH 3 10 (bq 9 λx_1 _=>bq 4 λx_2 _=>bf 2 x_2.events (Nb 2 6 [30,29] (λx_5=>(aN [Cv 1 c1,Pv 2,Ov 5,Iv 6 qW1.2,Bv 10 true,Bv 31 x_5] [Xb 2 t0,Lb 2005 qW1.1])) (aH 2 25 (aO 3 λx_3 _=>fM 0 λx_4 _=>aC 1) (aC 6)) λx_5=>aH 2 31 (aO 5 λx_6 _=>xD 0 36 ([x_6]:List (Sl Int)) (sj 0 2005 36 37 λx_7 _=>ah)) ah)) ah)) (λeW1=>ah)))
namespace dP
def ax (c0:Sl Int) (n3 i4:Int):Option (Fw (Int×Int) Int Empty):=
 aq (decide (i4<(len c0)))
 ((idx c0 i4).bind λx_1=>
 some (.n (IntKind.wrap .i64 (n3+x_1),IntKind.wrap .i64 (i4+1))))
 (some (.x n3))
def W1 (c0:Sl Int) (n3 i4:Int):Option Int:=
 (aV (λq:Int×Int=>ax c0 q.1 q.2) (n3,i4)).bind (Fw.elim
 (λe=>some e)
 (λe=>Empty.elim e))
end dP
def dP (c0:Sl Int):Option Int:=
 dP.W1 c0 0 0
open dP in
instance PB (c0:Sl Int):Fc Sy cL (dP c0):=Fc.M 28 [enc c0] (iQ 18 (λqW1=>(aN [Cv 0 c0,Iv 3 qW1.1,Iv 4 qW1.2] [])) (λeW1=>(0,(aN [Iv 3 eW1] []))) (λqW1=>bf 6 c0 (aH 3 8 (bq 9 λx_1 _=>ah) ah)) (λeW1=>ah))
namespace eY
def ax (a0 b1:Sl Int) (i5:Int):Option (Fw Int Unit Bool):=
 aq (decide (i5<(len a0)))
 ((idx a0 i5).bind λx_5=>
 (idx b1 i5).bind λx_6=>
 aq (x_5==x_6)
 (some (.n (IntKind.wrap .i64 (i5+1))))
 ((idx a0 i5).bind λx_7=>
 (idx b1 i5).bind λx_8=>
 some (.r (decide (x_7<x_8)))))
 (some (.x ()))
def W1 (a0 b1:Sl Int) (i5:Int):Option Bool:=
 (aV (λq:Int=>ax a0 b1 q) i5).bind (Fw.elim
 (λe=>some false)
 (λe=>some e))
end eY
def eY (a0 b1:Sl Int):Option Bool:=
 (dP a0).bind λx_1=>
 (dP b1).bind λx_2=>
 aq (x_1==x_2)
 (eY.W1 a0 b1 0)
 ((dP a0).bind λx_3=>
 (dP b1).bind λx_4=>
 some (decide (x_3<x_4)))
open eY in
instance Nz (a0 b1:Sl Int):Fc Sy cL (eY a0 b1):=Fc.M 143 [enc a0,enc b1] (aO 9 λx_1 _=>aO 1 λx_2 _=>cK 3 10 (cN 11 (λqW1=>(aN [Cv 0 a0,Cv 1 b1,Iv 5 qW1] [])) (λeW1=>(0,(aN [] []))) (λeW1=>(aN [Bv 4 eW1] [])) (λqW1=>bf 6 a0 (aH 3 19 (bq 9 λx_5 _=>bq 3 λx_6 _=>cK 4 30 ah (bq 5 λx_7 _=>bq 3 λx_8 _=>ah)) ah)) (λeW1=>ah) (λeW1=>ah)) (aO 4 λx_3 _=>aO 1 λx_4 _=>ah))
namespace dK
def ax (a0 b1:Sl Int) (i5:Int):Option (Fw Int Unit Unit):=
 aq (decide (i5<(len a0)))
 ((idx a0 i5).bind λx_1=>
 (idx b1 i5).bind λx_2=>
 aq (x_1==x_2)
 (some (.n (IntKind.wrap .i64 (i5+1))))
 (some (.r ())))
 (some (.x ()))
def W1 (a0 b1:Sl Int) (i5:Int):Option Bool:=
 (aV (λq:Int=>ax a0 b1 q) i5).bind (Fw.elim
 (λe=>some true)
 (λe=>some false))
end dK
def dK (a0 b1:Sl Int):Option Bool:=
 aq ((len a0)==(len b1))
 (dK.W1 a0 b1 0)
 (some false)
open dK in
instance KC (a0 b1:Sl Int):Fc Sy cL (dK a0 b1):=Fc.M 115 [enc a0,enc b1] (bf 9 a0 (bf 1 b1 (cK 3 10 (cN 11 (λqW1=>(aN [Cv 0 a0,Cv 1 b1,Iv 5 qW1] [])) (λeW1=>(0,(aN [] []))) (λeW1=>(aN [Bv 4 false] [])) (λqW1=>bf 6 a0 (aH 3 14 (bq 9 λx_1 _=>bq 3 λx_2 _=>cK 4 25 ah ah) ah)) (λeW1=>ah) (λeW1=>ah)) ah)))
namespace eW
def ax (l0:Sl (Sl Int)) (c1:Sl Int) (at_5:Int):Option (Fw Int Int Empty):=
 (aq (decide (at_5<(len l0)))
 ((idx l0 at_5).bind λx_1=>
 (eY x_1 c1).bind λx_2=>
 some x_2)
 (some false):Option Bool).bind λx_3=>
 aq x_3
 (some (.n (IntKind.wrap .i64 (at_5+1))))
 (some (.x at_5))
def W1 (l0:Sl (Sl Int)) (c1:Sl Int) (at_5:Int):Option (Sl (Sl Int)):=
 (aV (λq:Int=>ax l0 c1 q) at_5).bind (Fw.elim
 (λe=>(aq (decide (e<(len l0)))
 ((idx l0 e).bind λx_4=>
 (dK x_4 c1).bind λx_5=>
 some x_5)
 (some false):Option Bool).bind λx_6=>
 aq x_6
 (some l0)
 ((ez l0 none (some e)).bind λx_7=>
 (lM (Sl.row []:Sl (Sl Int)) x_7).bind λx_8=>
 (iT x_8 (c1:Sl Int)).bind λx_9=>
 (ez l0 (some e) none).bind λx_10=>
 (lM x_9 x_10).bind λx_11=>
 some x_11))
 (λe=>Empty.elim e))
end eW
def eW (l0:Sl (Sl Int)) (c1:Sl Int):Option (Sl (Sl Int)):=
 eW.W1 l0 c1 0
open eW in
instance Nl (l0:Sl (Sl Int)) (c1:Sl Int):Fc Sy cL (eW l0 c1):=Fc.N 109 [enc l0,enc c1] (iQ 13 (λqW1=>(aN [Cv 0 l0,Cv 1 c1,Iv 5 qW1] [])) (λeW1=>(0,(aN [Cv 0 l0,Cv 1 c1,Iv 5 eW1] []))) (λqW1=>bf 6 l0 (bh 2 7 [11] 18 (aH 2 11 (bq 2 λx_1 _=>aO 2 λx_2 _=>aC 1) (aC 7)) λx_3=>aH 2 18 ah ah)) (λeW1=>bf 7 l0 (bh 2 7 [25] 32 (aH 2 25 (bq 2 λx_4 _=>aO 2 λx_5 _=>aC 1) (aC 7)) λx_6=>aH 2 32 ah (xD 5 34 ([]:List (Sl Int)) (z8 2 false true [.int .i64 eW1] λx_7 _=>xW 0 34 38 λx_8 _=>xD 7 41 ([c1]:List (Sl Int)) (sj 0 38 41 42 λx_9 _=>z8 8 true false [.int .i64 eW1] λx_10 _=>xW 0 42 47 λx_11 _=>ah))))))
namespace dg
def dS (level4 out5:Sl (Sl Int)) (i7:Int) (l8:Sl (Sl Int)) (tb1:Trace) (more6:Sl (Sl Int)) (k9:Int):Option (Fw ((Sl (Sl Int))×Int) (Sl (Sl Int)) Empty):=
 aq (decide (k9<(len l8)))
 ((idx l8 k9).bind λx_5=>
 (eW more6 x_5).bind λx_6=>
 some (.n (x_6,IntKind.wrap .i64 (k9+1))))
 (some (.x more6))
def W3 (level4 out5 more6:Sl (Sl Int)) (i7:Int) (l8:Sl (Sl Int)) (k9:Int) (tb1:Trace):Option (Fw ((Sl (Sl Int))×Int) (Sl (Sl Int)) Empty):=
 (aV (λq:(Sl (Sl Int))×Int=>dS level4 out5 i7 l8 tb1 q.1 q.2) (more6,k9)).bind (Fw.elim
 (λe=>some (.n (e,IntKind.wrap .i64 (i7+1))))
 (λe=>Empty.elim e))
def bt (level4 out5:Sl (Sl Int)) (tb1:Trace) (more6:Sl (Sl Int)) (i7:Int):Option (Fw ((Sl (Sl Int))×Int) (Sl (Sl Int)) Empty):=
 aq (decide (i7<(len level4)))
 ((idx level4 i7).bind λx_3=>
 (gC tb1 x_3).bind λx_4=>
 W3 level4 out5 more6 i7 x_4 0 tb1)
 (some (.x more6))
def W2 (level4 out5 more6:Sl (Sl Int)) (i7:Int) (tb1:Trace):Option (Fw ((Sl (Sl Int))×(Sl (Sl Int))) (Sl (Sl Int)) Unit):=
 (aV (λq:(Sl (Sl Int))×Int=>bt level4 out5 tb1 q.1 q.2) (more6,i7)).bind (Fw.elim
 (λe=>some (.n (e,out5)))
 (λe=>Empty.elim e))
def ax (tb1:Trace) (level4 out5:Sl (Sl Int)):Option (Fw ((Sl (Sl Int))×(Sl (Sl Int))) (Sl (Sl Int)) Unit):=
 aq (decide ((len level4)>0))
 ((lM out5 level4).bind λx_2=>
 aq (decide ((len x_2)>5000))
 (some (.r ()))
 (W2 level4 x_2 (Sl.nil:Sl (Sl Int)) 0 tb1))
 (some (.x out5))
def W1 (level4 out5:Sl (Sl Int)) (tb1:Trace):Option ((Sl (Sl Int))×Bool):=
 (aV (λq:(Sl (Sl Int))×(Sl (Sl Int))=>ax tb1 q.1 q.2) (level4,out5)).bind (Fw.elim
 (λe=>some (e,true))
 (λe=>some ((Sl.nil:Sl (Sl Int)),false)))
end dg
def dg (t0:Trace):Option ((Sl (Sl Int))×Bool):=
 (oW (len t0.procs) (0:Int)).bind λx_1=>
 dg.W1 (Sl.row [x_1]:Sl (Sl Int)) (Sl.nil:Sl (Sl Int)) t0
open dg in
instance PD (t0:Trace):Fc Sy cL (dg t0):=Fc.N 52 [enc t0] (cw 2 1 t0 (bf 8 t0.procs (Nh 0 13 λx_1 _=>xD 1 14 ([x_1]:List (Sl Int)) (cN 13 (λqW1=>(aN [Pv 1,Cv 4 qW1.1,Ov 5] [Xb 1 t0,Lb 2005 qW1.2])) (λeW1=>(0,(aN [Ov 5] [Lb 2005 eW1]))) (λeW1=>(aN [Ov 2,Bv 3 false] [Lb 2002 (Sl.nil:Sl (Sl Int))])) (λqW1=>bf 7 qW1.1 (aH 3 17 (xW 8 2005 20 λx_2 _=>Dt 7 20 x_2 (aH 3 23 ah (iQ 18 (λqW2=>(aN [Pv 1,Cv 4 qW1.1,Ov 5,Cv 6 qW2.1,Iv 7 qW2.2] [Xb 1 t0,Lb 2005 x_2])) (λeW2=>(2,(aN [Pv 1,Ov 5,Cv 6 eW2] [Xb 1 t0,Lb 2005 x_2]))) (λqW2=>bf 8 qW1.1 (aH 3 27 (bq 10 λx_3 _=>aO 1 λx_4 _=>iQ 12 (λqW3=>(aN [Pv 1,Cv 4 qW1.1,Ov 5,Cv 6 qW3.1,Iv 7 qW2.2,Cv 8 x_4,Iv 9 qW3.2] [Xb 1 t0,Lb 2005 x_2])) (λeW3=>(4,(aN [Pv 1,Cv 4 qW1.1,Ov 5,Cv 6 eW3,Iv 7 qW2.2] [Xb 1 t0,Lb 2005 x_2]))) (λqW3=>bf 8 x_4 (aH 3 39 (bq 9 λx_5 _=>aO 1 λx_6 _=>ah) ah)) (λeW3=>ah)) ah)) (λeW2=>ah)))) ah)) (λeW1=>ah) (λeW1=>ah)))))
def rE (t0:Trace):Option Bool:=
 (dg t0).bind λx_1=>
 (aq x_1.2
 (some (decide ((len x_1.1)<=200)))
 (some true):Option Bool).bind λx_2=>
 some x_2
instance PC (t0:Trace):Fc Sy cL (rE t0):=Fc.M 11 [enc t0] (cw 2 1 t0 (aO 6 λx_1 _=>bh 12 4 [3,12] 16 (cK 12 12 (bf 1 x_1.1 (aC 2)) (aC 4)) λx_2=>ah))
def kO (x0 low1 high2:Int):Option Bool:=
 (aq (decide (x0>=low1))
 (some (decide (x0<=high2)))
 (some false):Option Bool).bind λx_1=>
 some x_1
instance SK (x0 low1 high2:Int):Fc Sy cL (kO x0 low1 high2):=Fc.M 150 [.int .i64 x0,.int .i64 low1,.int .i64 high2] (bh 11 4 [0,2,10] 14 (aH 11 10 (aC 4) (aC 4)) λx_1=>ah)
def mZ (c0:Int):Option Bool:=
 (aq (decide (c0>=97))
 (some (decide (c0<=122)))
 (some false):Option Bool).bind λx_1=>
 (aq x_1
 (some true)
 ((aq (decide (c0>=65))
 (some (decide (c0<=90)))
 (some false):Option Bool).bind λx_2=>
 some x_2):Option Bool).bind λx_3=>
 some x_3
instance Ot (c0:Int):Fc Sy cL (mZ c0):=Fc.M 185 [.int .u8 c0] (bh 10 3 [5] 8 (aH 10 5 (aC 3) (aC 3)) λx_1=>bh 1 7 [0,9] 16 (aH 1 9 (aC 7) (bh 3 3 [0,12] 15 (aH 3 12 (aC 3) (aC 3)) λx_2=>aC 1)) λx_3=>ah)
def rI (c0:Int):Option Bool:=
 (aq (decide (c0>=48))
 (some (decide (c0<=57)))
 (some false):Option Bool).bind λx_1=>
 some x_1
instance Pq (c0:Int):Fc Sy cL (rI c0):=Fc.M 186 [.int .u8 c0] (bh 10 3 [0,5] 8 (aH 10 5 (aC 3) (aC 3)) λx_1=>ah)
namespace ey
def ax (s0:ByteArray) (v18:Int) (v19:Int):Option (Fw Int Unit Unit):=
 aq (decide (v19<v18))
 ((iP s0 v19).bind λx_5=>
 (mZ x_5).bind λx_6=>
 (aq x_6
 (some false)
 ((iP s0 v19).bind λx_7=>
 (rI x_7).bind λx_8=>
 some (!x_8)):Option Bool).bind λx_9=>
 (aq x_9
 ((iP s0 v19).bind λx_10=>
 some (!(x_10==95)))
 (some false):Option Bool).bind λx_11=>
 aq x_11
 (some (.r ()))
 (some (.n (IntKind.wrap .i64 (v19+1)))))
 (some (.x ()))
def W1 (s0:ByteArray) (v18 v19:Int):Option Bool:=
 (aV (λq:Int=>ax s0 v18 q) v19).bind (Fw.elim
 (λe=>some true)
 (λe=>some false))
end ey
def ey (s0:ByteArray):Option Bool:=
 (aq (ByteArray.toList s0==ByteArray.toList ByteArray.empty)
 (some true)
 (some (decide (((ByteArray.size s0:Nat):Int)>16))):Option Bool).bind λx_1=>
 (aq x_1
 (some true)
 ((iP s0 0).bind λx_2=>
 (mZ x_2).bind λx_3=>
 some (!x_3)):Option Bool).bind λx_4=>
 aq x_4
 (some false)
 (ey.W1 s0 ((ByteArray.size s0:Nat):Int) 0)
open ey in
instance N3 (s0:ByteArray):Fc Sy cL (ey s0):=Fc.M 170 [.str s0] (bh 11 4 [6] 10 (aH 11 6 (aC 4) (aC 4)) λx_1=>bh 1 5 [11] 16 (aH 1 11 (aC 5) (xM 1 .i64 λx_2 _=>aO 0 λx_3 _=>aC 2)) λx_4=>aH 2 16 ah (cN 13 (λqW1=>(aN [(0,.v (.str s0)),Iv 18 ((ByteArray.size s0:Nat):Int),Iv 19 qW1] [])) (λeW1=>(0,(aN [] []))) (λeW1=>(aN [Bv 2 false] [])) (λqW1=>aH 7 20 (xM 15 .i64 λx_5 _=>aO 0 λx_6 _=>bh 2 6 [27] 33 (cK 2 27 (aC 6) (xM 2 .i64 λx_7 _=>aO 0 λx_8 _=>aC 2)) λx_9=>bh 1 5 [3,34] 39 (aH 1 34 (xM 2 .i64 λx_10 _=>aC 2) (aC 5)) λx_11=>aH 2 39 ah ah) ah) (λeW1=>ah) (λeW1=>ah)))
def gU (y0 v1:bA):Option Bool:=
 some (ByteArray.toList y0.name==ByteArray.toList v1.name)
instance Fe (y0 v1:bA):Fc Sy cL (gU y0 v1):=Fc.M 172 [enc y0,.fptr (cells v1)] (cw 2 2 y0 ah)
namespace eC
def ax (s0:Sl bA) (v7:Int) (v8:Int) (p1:bA->Option Bool):Option (Fw Int Unit Int):=
 aq (decide (v8<v7))
 ((idx s0 v8).bind λx_1=>
 (p1 x_1).bind λx_2=>
 aq x_2
 (some (.r v8))
 (some (.n (IntKind.wrap .i64 (v8+1)))))
 (some (.x ()))
def W1 (s0:Sl bA) (v7 v8:Int) (p1:bA->Option Bool):Option Int:=
 (aV (λq:Int=>ax s0 v7 q p1) v8).bind (Fw.elim
 (λe=>some (-1))
 (λe=>some e))
end eC
def eC (s0:Sl bA) (p1:bA->Option Bool):Option Int:=
 eC.W1 s0 (len s0) 0 p1
open eC in
abbrev tT (g1:FuncId) (e1:List V) (p1:bA->Option Bool) (h1:mj Sy cL g1 [] e1 (λz:bA=>[enc z]) (λr:Bool=>[.bool r]) p1 true) (s0:Sl bA):Fc Sy cL (eC s0 p1):=Fc.M 187 [enc s0,.clo g1 [] e1] (bf 9 s0 (cN 5 (λqW1=>(aN [Cv 0 s0,(1,.v (.clo g1 [] e1)),Iv 7 (len s0),Iv 8 qW1] [])) (λeW1=>(0,(aN [] []))) (λeW1=>(aN [Iv 4 eW1] [])) (λqW1=>aH 7 9 (bq 16 λx_1 _=>uy 1 h1.f x_1 λx_2 _=>aH 2 16 ah ah) ah) (λeW1=>ah) (λeW1=>ah))) (l:=by simp[h1.d])
def fR (s0:Sl bA) (p1:bA->Option Bool):Option Bool:=
 (eC s0 p1).bind λx_1=>
 some (decide (x_1>=0))
abbrev sn (g1:FuncId) (e1:List V) (p1:bA->Option Bool) (h1:mj Sy cL g1 [] e1 (λz:bA=>[enc z]) (λr:Bool=>[.bool r]) p1 true) (s0:Sl bA):Fc Sy cL (fR s0 p1):=Fc.M 171 [enc s0,.clo g1 [] e1] (aO (F:=tT g1 e1 p1 h1 s0) 9 λx_1 _=>ah) (l:=by simp[h1.d])
def gM (w0 v1:Var):Option Bool:=
 some (ByteArray.toList w0.name==ByteArray.toList v1.name)
instance Fb (w0 v1:Var):Fc Sy cL (gM w0 v1):=Fc.M 174 [enc w0,.fptr (cells v1)] (ah)
namespace eU
def ax (s0:Sl Var) (v7:Int) (v8:Int) (p1:Var->Option Bool):Option (Fw Int Unit Int):=
 aq (decide (v8<v7))
 ((idx s0 v8).bind λx_1=>
 (p1 x_1).bind λx_2=>
 aq x_2
 (some (.r v8))
 (some (.n (IntKind.wrap .i64 (v8+1)))))
 (some (.x ()))
def W1 (s0:Sl Var) (v7 v8:Int) (p1:Var->Option Bool):Option Int:=
 (aV (λq:Int=>ax s0 v7 q p1) v8).bind (Fw.elim
 (λe=>some (-1))
 (λe=>some e))
end eU
def eU (s0:Sl Var) (p1:Var->Option Bool):Option Int:=
 eU.W1 s0 (len s0) 0 p1
open eU in
abbrev uX (g1:FuncId) (e1:List V) (p1:Var->Option Bool) (h1:mj Sy cL g1 [] e1 (λz:Var=>[enc z]) (λr:Bool=>[.bool r]) p1 true) (s0:Sl Var):Fc Sy cL (eU s0 p1):=Fc.M 188 [enc s0,.clo g1 [] e1] (bf 9 s0 (cN 5 (λqW1=>(aN [Cv 0 s0,(1,.v (.clo g1 [] e1)),Iv 7 (len s0),Iv 8 qW1] [])) (λeW1=>(0,(aN [] []))) (λeW1=>(aN [Iv 4 eW1] [])) (λqW1=>aH 7 9 (bq 16 λx_1 _=>uy 1 h1.f x_1 λx_2 _=>aH 2 16 ah ah) ah) (λeW1=>ah) (λeW1=>ah))) (l:=by simp[h1.d])
def gu (s0:Sl Var) (p1:Var->Option Bool):Option Bool:=
 (eU s0 p1).bind λx_1=>
 some (decide (x_1>=0))
abbrev sR (g1:FuncId) (e1:List V) (p1:Var->Option Bool) (h1:mj Sy cL g1 [] e1 (λz:Var=>[enc z]) (λr:Bool=>[.bool r]) p1 true) (s0:Sl Var):Fc Sy cL (gu s0 p1):=Fc.M 173 [enc s0,.clo g1 [] e1] (aO (F:=uX g1 e1 p1 h1 s0) 9 λx_1 _=>ah) (l:=by simp[h1.d])
namespace dm
def ax (v32:Sl Var) (v33:Int) (xb5:bA) (v34:Int):Option (Fw Int Unit Int):=
 aq (decide (v34<v33))
 ((idx v32 v34).bind λx_6=>
 (ey x_6.name).bind λx_7=>
 (aq x_7
 ((ez xb5.vars none (some v34)).bind λx_8=>
 (gu x_8 (λz=>gM z x_6)).bind λx_9=>
 some x_9)
 (some true):Option Bool).bind λx_10=>
 aq x_10
 (some (.r 13))
 ((kO x_6.init_ (-1073741824) 1073741824).bind λx_11=>
 aq x_11
 (some (.n (IntKind.wrap .i64 (v34+1))))
 (some (.r 2))))
 (some (.x ()))
def W1 (v32:Sl Var) (v33 v34:Int) (xb5:bA):Option Int:=
 (aV (λq:Int=>ax v32 v33 xb5 q) v34).bind (Fw.elim
 (λe=>aq (decide ((len xb5.events)>64))
 (some 5)
 (some 0))
 (λe=>some e))
end dm
def dm (t0:Trace) (p1:Int):Option Int:=
 (idx t0.procs p1).bind λx_1=>
 (ey x_1.name).bind λx_2=>
 (aq x_2
 ((ez t0.procs none (some p1)).bind λx_3=>
 (fR x_3 (λz=>gU z x_1)).bind λx_4=>
 some x_4)
 (some true):Option Bool).bind λx_5=>
 aq x_5
 (some 13)
 (aq (decide ((len x_1.vars)>8))
 (some 5)
 (dm.W1 x_1.vars (len x_1.vars) 0 x_1))
open dm in
instance Ii (t0:Trace) (p1:Int):Fc Sy cL (dm t0 p1):=Fc.M 151 [enc t0,.int .i64 p1] (cw 2 2 t0 (bq 8 λx_1 _=>lp 2 5 0 x_1 (aO 8 λx_2 _=>bh 2 7 [1,2,18] 25 (cK 2 18 (z8 3 false true [.int .i64 p1] λx_3 _=>fM (F:=sn 172 [.fptr (cells x_1)] (λz=>gU z x_1) mj.tK x_3) 1 λx_4 _=>aC 1) (aC 7)) λx_5=>aH 3 13 ah (bf 5 x_1.vars (aH 4 26 ah (bf 9 x_1.vars (cN 5 (λqW1=>(aN [Pv 5,Cv 32 x_1.vars,Iv 33 (len x_1.vars),Iv 34 qW1] [Xb 5 x_1])) (λeW1=>(1,(aN [Pv 5] [Xb 5 x_1]))) (λeW1=>(aN [Iv 4 eW1] [])) (λqW1=>aH 7 35 (bq 8 λx_6 _=>aO 11 λx_7 _=>bh 2 7 [6,44] 51 (cK 2 44 (z8 3 false true [.int .i64 qW1] λx_8 _=>fM (F:=sR 174 [.fptr (cells x_6)] (λz=>gM z x_6) mj.tK x_8) 1 λx_9 _=>aC 1) (aC 7)) λx_10=>aH 3 39 ah (aO 5 λx_11 _=>cK 4 52 ah ah)) ah) (λeW1=>bf 7 x_1.events (aH 3 61 ah ah)) (λeW1=>ah))))))))
def iq (t0:Trace):Option Trace:=
 some t0
instance Oi (t0:Trace):Fc Sy cL (iq t0):=Fc.NE (λr:Trace=>[(.clo 175 [] [.fptr (cells r)])]) 152 [enc t0] (cw 2 1 t0 ah)
namespace fW
def J1 (p1:Int) (v19:Bool) (tb3:Trace) (eb5:Event):Option Bool:=
 aq v19
 ((kO eb5.peer 0 (IntKind.wrap .i64 ((len tb3.procs)-1))).bind λx_2=>
 (aq x_2
 (some (!(eb5.peer==p1)))
 (some false):Option Bool).bind λx_3=>
 (aq x_3
 ((kO eb5.message 0 199).bind λx_4=>
 some x_4)
 (some false):Option Bool).bind λx_5=>
 some x_5)
 (some false)
end fW
def fW (t0:Trace) (p1:Int) (e2:Event):Option Bool:=
 aq (e2.kind==1)
 ((aq (e2.peer==0)
 (some (e2.message==0))
 (some false):Option Bool).bind λx_1=>
 some x_1)
 (aq (e2.kind==2)
 (fW.J1 p1 true t0 e2)
 (fW.J1 p1 (e2.kind==3) t0 e2))
open fW in
instance ND (t0:Trace) (p1:Int) (e2:Event):Fc Sy cL (fW t0 p1 e2):=Fc.M 176 [enc t0,.int .i64 p1,enc e2] (cw 2 3 t0 (cw 0 5 e2 (aH 17 9 (bh 7 4 [5,14] 18 (aH 7 14 (aC 4) (aC 4)) λx_1=>ah) (aH 8 19 (xU 4 (aH 0 19 (bf 7 t0.procs (aO 1 λx_2 _=>bh 1 5 [1,29] 34 (aH 1 29 (aC 5) (aC 5)) λx_3=>bh 1 4 [5,35] 39 (aH 1 35 (aO 2 λx_4 _=>aC 1) (aC 4)) λx_5=>ah)) ah)) (xU 7 (aH 0 19 (bf 7 t0.procs (aO 1 λx_2 _=>bh 1 5 [1,29] 34 (aH 1 29 (aC 5) (aC 5)) λx_3=>bh 1 4 [5,35] 39 (aH 1 35 (aO 2 λx_4 _=>aC 1) (aC 4)) λx_5=>ah)) ah))))))
def iR (b0 v1:Assign):Option Bool:=
 some (b0.var==v1.var)
instance Gr (b0 v1:Assign):Fc Sy cL (iR b0 v1):=Fc.M 178 [enc b0,.fptr (cells v1)] (ah)
namespace dR
def ax (s0:Sl Assign) (v7:Int) (v8:Int) (p1:Assign->Option Bool):Option (Fw Int Unit Int):=
 aq (decide (v8<v7))
 ((idx s0 v8).bind λx_1=>
 (p1 x_1).bind λx_2=>
 aq x_2
 (some (.r v8))
 (some (.n (IntKind.wrap .i64 (v8+1)))))
 (some (.x ()))
def W1 (s0:Sl Assign) (v7 v8:Int) (p1:Assign->Option Bool):Option Int:=
 (aV (λq:Int=>ax s0 v7 q p1) v8).bind (Fw.elim
 (λe=>some (-1))
 (λe=>some e))
end dR
def dR (s0:Sl Assign) (p1:Assign->Option Bool):Option Int:=
 dR.W1 s0 (len s0) 0 p1
open dR in
abbrev sU (g1:FuncId) (e1:List V) (p1:Assign->Option Bool) (h1:mj Sy cL g1 [] e1 (λz:Assign=>[enc z]) (λr:Bool=>[.bool r]) p1 true) (s0:Sl Assign):Fc Sy cL (dR s0 p1):=Fc.M 189 [enc s0,.clo g1 [] e1] (bf 9 s0 (cN 5 (λqW1=>(aN [Cv 0 s0,(1,.v (.clo g1 [] e1)),Iv 7 (len s0),Iv 8 qW1] [])) (λeW1=>(0,(aN [] []))) (λeW1=>(aN [Iv 4 eW1] [])) (λqW1=>aH 7 9 (bq 16 λx_1 _=>uy 1 h1.f x_1 λx_2 _=>aH 2 16 ah ah) ah) (λeW1=>ah) (λeW1=>ah))) (l:=by simp[h1.d])
def e9 (s0:Sl Assign) (p1:Assign->Option Bool):Option Bool:=
 (dR s0 p1).bind λx_1=>
 some (decide (x_1>=0))
abbrev qI (g1:FuncId) (e1:List V) (p1:Assign->Option Bool) (h1:mj Sy cL g1 [] e1 (λz:Assign=>[enc z]) (λr:Bool=>[.bool r]) p1 true) (s0:Sl Assign):Fc Sy cL (e9 s0 p1):=Fc.M 177 [enc s0,.clo g1 [] e1] (aO (F:=sU g1 e1 p1 h1 s0) 9 λx_1 _=>ah) (l:=by simp[h1.d])
namespace cr
def bt (v52:Sl Assign) (v53:Int) (eb5:Event) (xb7:bA) (v54:Int):Option (Fw Int Unit Int):=
 aq (decide (v54<v53))
 ((idx v52 v54).bind λx_6=>
 (kO x_6.var 0 (IntKind.wrap .i64 ((len xb7.vars)-1))).bind λx_7=>
 (aq x_7
 ((kO x_6.value (-1073741824) 1073741824).bind λx_8=>
 some (!x_8))
 (some true):Option Bool).bind λx_9=>
 aq x_9
 (some (.r 2))
 ((ez eb5.assign none (some v54)).bind λx_10=>
 (e9 x_10 (λz=>iR z x_6)).bind λx_11=>
 aq x_11
 (some (.r 8))
 (some (.n (IntKind.wrap .i64 (v54+1))))))
 (some (.x ()))
def W2 (v52:Sl Assign) (v53 v54:Int) (eb5:Event) (xb7:bA):Option Int:=
 (aV (λq:Int=>bt v52 v53 eb5 xb7 q) v54).bind (Fw.elim
 (λe=>some 0)
 (λe=>some e))
def J1 (last8:Int) (tb3:Trace) (idb4:aa) (eb5:Event) (xb7:bA):Option Int:=
 (fW tb3 idb4.proc eb5).bind λx_3=>
 aq x_3
 ((kO eb5.time 0 1099511627776).bind λx_4=>
 (aq x_4
 (some (decide (eb5.time<last8)))
 (some true):Option Bool).bind λx_5=>
 aq x_5
 (some 11)
 (aq (decide ((len eb5.assign)>8))
 (some 5)
 (cr.W2 eb5.assign (len eb5.assign) 0 eb5 xb7)))
 (some 3)
theorem pX (last8:Int) (tb3:Trace) (idb4:aa) (eb5:Event) (xb7:bA):Le ((J1 last8 tb3 idb4 eb5 xb7).bind (λr=>some [.int .i64 r])) (bz Sy cL (ot (tr Tx 153)) (rm (tb Tx 153) [1,1,1,1,0] [] (aN [Pv 3,Pv 4,Pv 5,Pv 7,Iv 8 last8] [Xb 3 tb3,Xb 4 idb4,Xb 5 eb5,Xb 7 xb7]))):=
 aO 8 λx_3 _=>cK 4 28 (aO 5 λx_4 _=>bh 2 5 [8,40] 45 (cK 2 40 (aC 5) (aC 5)) λx_5=>aH 3 35 ah (bf 5 eb5.assign (aH 4 46 ah (bf 9 eb5.assign (cN 5 (λqW2=>(aN [Pv 5,Pv 7,Cv 52 eb5.assign,Iv 53 (len eb5.assign),Iv 54 qW2] [Xb 5 eb5,Xb 7 xb7])) (λeW2=>(1,(aN [] []))) (λeW2=>(aN [Iv 6 eW2] [])) (λqW2=>aH 7 55 (bq 8 λx_6 _=>bf 13 xb7.vars (aO 1 λx_7 _=>bh 2 5 [68] 73 (cK 2 68 (aO 2 λx_8 _=>aC 2) (aC 5)) λx_9=>aH 3 59 ah (z8 6 false true [.int .i64 qW2] λx_10 _=>fM (F:=qI 178 [.fptr (cells x_6)] (λz=>iR z x_6) mj.tK x_10) 1 λx_11 _=>aH 3 74 ah ah))) ah) (λeW2=>ah) (λeW2=>ah)))))) ah
end cr
def cr (t0:Trace) (id1:aa) (e2:Event):Option Int:=
 (idx t0.procs id1.proc).bind λx_1=>
 aq (decide (id1.index>1))
 ((idx x_1.events (IntKind.wrap .i64 (id1.index-2))).bind λx_2=>
 cr.J1 x_2.time t0 id1 e2 x_1)
 (cr.J1 0 t0 id1 e2 x_1)
open cr in
instance Jr (t0:Trace) (id1:aa) (e2:Event):Fc Sy cL (cr t0 id1 e2):=Fc.M 153 [enc t0,enc id1,enc e2] (cw 2 3 t0 (cw 1 5 e2 (bq 9 λx_1 _=>lp 2 7 0 x_1 (aH 15 19 (bq 7 λx_2 _=>xd 6 (pX x_2.time t0 id1 e2 x_1)) (xd 4 (pX 0 t0 id1 e2 x_1))))))
def nU (e0:Event) (v1 v2:Int):Option Bool:=
 (aq (e0.kind==2)
 (some (e0.message==v1))
 (some false):Option Bool).bind λx_1=>
 (aq x_1
 (some (e0.peer==v2))
 (some false):Option Bool).bind λx_2=>
 some x_2
instance Ly (e0:Event) (v1 v2:Int):Fc Sy cL (nU e0 v1 v2):=Fc.M 190 [enc e0,.fptr (cells v1),.fptr (cells v2)] (cw 2 3 e0 (bh 9 5 [1,8] 13 (aH 9 8 (aC 5) (aC 5)) λx_1=>bh 1 5 [2,3,14] 19 (aH 1 14 (aC 5) (aC 5)) λx_2=>ah))
def rL (t0:Trace) (p1 m2 to_3:Int):Option Bool:=
 (idx t0.procs p1).bind λx_1=>
 (fI x_1.events (λz=>nU z m2 to_3)).bind λx_2=>
 some x_2
instance Pn (t0:Trace) (p1 m2 to_3:Int):Fc Sy cL (rL t0 p1 m2 to_3):=Fc.M 179 [enc t0,.int .i64 p1,.int .i64 m2,.int .i64 to_3] (cw 2 4 t0 (bq 10 λx_1 _=>fM (F:=lz 190 [.fptr (cells m2),.fptr (cells to_3)] (λz=>nU z m2 to_3) mj.tK x_1.events) 3 λx_2 _=>ah))
namespace dn
def pz (vk0_12 tb1:Trace) (vb2:Option (br 200 aF)) (vb3:aa) (vb4:Int) (x:aa×Event) (vb10:br 200 aF):Option (Fw (br 200 aF) Empty (aa×Int×(br 200 aF))):=
 aq (x.2.kind==2)
 ((br.at vb10 x.2.message).bind λx_2=>
 aq (decide (x_2.from_.index>0))
 (some (.r (x.1,8,vb10)))
 ((br.at vb10 x.2.message).bind λx_3=>
 some (.n (br.set vb10 x.2.message (⟨x.1,x_3.to_⟩:aF)))))
 (aq (x.2.kind==3)
 ((br.at vb10 x.2.message).bind λx_4=>
 aq (decide (x_4.to_.index>0))
 (some (.r (x.1,8,vb10)))
 ((rL tb1 x.2.peer x.2.message x.1.proc).bind λx_5=>
 aq x_5
 ((br.at vb10 x.2.message).bind λx_6=>
 some (.n (br.set vb10 x.2.message (⟨x_6.from_,x.1⟩:aF))))
 (some (.r (x.1,7,vb10)))))
 (some (.n vb10)))
def E1 (vk0_12 tb1:Trace) (vb2:Option (br 200 aF)) (vb3:aa) (vb4:Int) (vb10:br 200 aF):Option ((Option (br 200 aF))×aa×Int):=
 (gE vk0_12).bind λits=>(lU (λ(x:aa×Event) (q:br 200 aF)=>pz vk0_12 tb1 vb2 vb3 vb4 x q) its vb10).bind (Fw.uo
 (λq=>some (some q,⟨0,0⟩,0))
 (λe=>Empty.elim e)
 (λe=>some ((none:Option (br 200 aF)),e.1,e.2.1)))
end dn
def dn (t0:Trace):Option ((Option (br 200 aF))×aa×Int):=
 (iq t0).bind λx_1=>
 dn.E1 x_1 t0 (none:Option (br 200 aF)) (⟨0,0⟩:aa) 0 (br.Jq 200 (⟨⟨0,0⟩,⟨0,0⟩⟩:aF))
open dn in
instance GP (t0:Trace):Fc Sy cL (dn t0):=Fc.N 154 [enc t0] (cw 2 1 t0 (cw 8 10 (br.Jq 200 (⟨⟨0,0⟩,⟨0,0⟩⟩:aF)) (Rb 0 5 (aN [Pv 1,Pv 2,Pv 3,Pv 4,Pv 10] [Xb 1 t0,(2,.box [cv (none:Option (br 200 aF))]),Xb 3 (⟨0,0⟩:aa),(4,.box [iv 0]),Xb 10 (br.Jq 200 (⟨⟨0,0⟩,⟨0,0⟩⟩:aF))]) [cv (none:Option (br 200 aF))] (by simp only[aN,vv,nH,pe,nR,pq,qF,pN,q9,nM,pF,vz,qZ,qO,qD,rj,ta,tf,pQ,qQ];rfl) (aO 7 λx_1 _=>Hf λits hits=>Ds 4 [Pv 1,Pv 2,Pv 3,Pv 4,Pv 5,(12,.v (.clo 175 [] [.fptr (cells x_1)]))] (λqE1=>[Xb 1 t0,(2,.box [cv (none:Option (br 200 aF))]),Xb 3 (⟨0,0⟩:aa),(4,.box [iv 0]),(5,.box [.ptr 10 0]),Xb 10 qE1]) (λeE1=>Empty.elim eE1) (λeE1=>[Xb 1 t0,(2,.box [cv (none:Option (br 200 aF))]),Xb 3 eE1.1,(4,.box [iv eE1.2.1]),(5,.box [.ptr 10 0]),Xb 10 eE1.2.2]) (wh x_1 its hits) (λxE1 qE1=>Rb 2 6 ⟨[Pv 1,Pv 2,Pv 3,Pv 4,Pv 5,(12,.v (.clo 175 [] [.fptr (cells x_1)])),Cv 13 xE1.1,Cv 14 xE1.2],[Xb 1 t0,(2,.box [cv (none:Option (br 200 aF))]),Xb 3 (⟨0,0⟩:aa),(4,.box [iv 0]),(5,.box [.ptr 10 0]),Xb 10 qE1],[1,2,3,4,5],[],true,0⟩ [iv 0,iv 0] (by simp only[aN,vv,nH,pe,nR,pq,qF,pN,q9,nM,pF,vz,qZ,qO,qD,rj,ta,tf,pQ,qQ];rfl) (Rb 4 7 ⟨[Pv 1,Pv 2,Pv 3,Pv 4,Pv 5,(12,.v (.clo 175 [] [.fptr (cells x_1)])),Cv 14 xE1.2,Pv 6],[Xb 1 t0,(2,.box [cv (none:Option (br 200 aF))]),Xb 3 (⟨0,0⟩:aa),(4,.box [iv 0]),(5,.box [.ptr 10 0]),Xb 10 qE1,Xb 6 xE1.1],[1,2,3,4,5],[],true,0⟩ [iv 0,iv 0,iv 0,iv 0,.v .aG] (by simp only[aN,vv,nH,pe,nR,pq,qF,pN,q9,nM,pF,vz,qZ,qO,qD,rj,ta,tf,pQ,qQ];rfl) (lp 0 7 0 xE1.2 (Bq 1 (aH 22 19 (Dm 7 .i64 10 λx_2 h_2=>Nr 2 1 false 10 qE1 xE1.2.message 1 x_2 h_2 (.int .i64 x_2.from_.index) (by rfl) (aH 3 28 ah (Dm 8 .i64 10 λx_3 h_3=>M5 1 2 10 qE1 xE1.2.message 0 x_3 h_3 (⟨xE1.1,x_3.to_⟩:aF) (enc xE1.1) (by rfl) ah))) (aH 7 36 (Dm 7 .i64 10 λx_4 h_4=>Nr 2 1 false 10 qE1 xE1.2.message 3 x_4 h_4 (.int .i64 x_4.to_.index) (by rfl) (aH 3 45 ah (aO 12 λx_5 _=>cK 3 54 (Dm 8 .i64 10 λx_6 h_6=>M5 1 2 10 qE1 xE1.2.message 2 x_6 h_6 (⟨x_6.from_,xE1.1⟩:aF) (enc xE1.1) (by rfl) ah) ah))) ah)))))) (λqE1=>SS 13 (aN [Pv 2,Pv 3,Pv 4] [(2,.box [.ptr 10 0]),Xb 3 (⟨0,0⟩:aa),(4,.box [iv 0]),Xb 10 qE1]) [.ptr 10 0,cv (⟨0,0⟩:aa),iv 0] (OZ (d:=10) (x:=qE1) (vs:=[enc (⟨0,0⟩:aa),.int .i64 0]) (by kernel_rfl)) (by kernel_rfl)) (λx=>Empty.elim x) (λeE1=>ah)))))
namespace gG
def J1 (lq1:br 200 aF) (out7:Sl aa) (p8:Sl Event) (xb5:aa):Option (Sl aa):=
 (idx p8 (IntKind.wrap .i64 (xb5.index-1))).bind λx_2=>
 (aq (x_2.kind==2)
 ((br.at lq1 x_2.message).bind λx_3=>
 some (decide (x_3.to_.index>0)))
 (some false):Option Bool).bind λx_4=>
 aq x_4
 ((br.at lq1 x_2.message).bind λx_5=>
 (iT out7 (x_5.to_:aa)).bind λx_6=>
 some x_6)
 (some out7)
theorem pX (lq1:br 200 aF) (out7:Sl aa) (p8:Sl Event) (xb5:aa):Le ((J1 lq1 out7 p8 xb5).bind (λr=>some [enc r])) (bz Sy cL (ot (tr Tx 180)) (rm (tb Tx 180) [1,1,1,1,0,0] [] (aN [Kv 1 lq1,Pv 5,Ov 7,Cv 8 p8] [Xb 5 xb5,Lb 2007 out7]))):=
 bq 7 λx_2 _=>lp 2 9 0 x_2 (bh 8 10 [40] 50 (aH 8 40 (M7 4 .i64 λx_3 h_3=>MA 0 2 lq1 x_2.message 0 x_3 h_3 (MA 0 1 lq1 x_2.message 2 x_3 h_3 (M3 0 1 false lq1 x_2.message 3 x_3 h_3 (.int .i64 x_3.to_.index) (by rfl) (aC 2)))) (aC 10)) λx_4=>aH 2 50 (M7 7 .i64 λx_5 h_5=>MA 0 2 lq1 x_2.message 0 x_5 h_5 (M3 0 2 true lq1 x_2.message 2 x_5 h_5 (enc x_5.to_) (by rfl) (sj 1 2007 59 60 λx_6 _=>ah))) ah)
end gG
def gG (t0:Trace) (l1:br 200 aF) (x2:aa):Option (Sl aa):=
 (idx t0.procs x2.proc).bind λx_1=>
 aq (decide (x2.index<(len x_1.events)))
 (gG.J1 l1 (Sl.row [⟨x2.proc,IntKind.wrap .i64 (x2.index+1)⟩]:Sl aa) x_1.events x2)
 (gG.J1 l1 (Sl.nil:Sl aa) x_1.events x2)
open gG in
instance Pt (t0:Trace) (l1:br 200 aF) (x2:aa):Fc Sy cL (gG t0 l1 x2):=Fc.N 180 [enc t0,.fptr (cells l1),enc x2] (cw 2 3 t0 (bq 15 λx_1 _=>bf 11 x_1.events (aH 3 21 (Nc 10 29 30 .aG (⟨x2.proc,IntKind.wrap .i64 (x2.index+1)⟩:aa) (xd 5 (pX l1 (Sl.row [⟨x2.proc,IntKind.wrap .i64 (x2.index+1)⟩]:Sl aa) x_1.events x2))) (xd 5 (pX l1 (Sl.nil:Sl aa) x_1.events x2)))))
namespace dY
def dS (vk0_13:Trace) (v36:Sl aa) (v37:Int) (tb2:Trace) (lb3:br 200 aF) (vb4:aa) (vb5:Bool) (idb6:aa) (rest8:Sl aa) (v38:Int) (vb16:Mo aa Bool):Option (Fw ((Sl aa)×Int×(Mo aa Bool)) ((Sl aa)×(Mo aa Bool)) Unit):=
 aq (decide (v38<v37))
 ((idx v36 v38).bind λx_6=>
 aq (F_ x_6 idb6)
 (some (.r ()))
 (aq (mM vb16 x_6 false)
 (some (.n (rest8,IntKind.wrap .i64 (v38+1),vb16)))
 ((iT rest8 (x_6:aa)).bind λx_7=>
 some (.n (x_7,IntKind.wrap .i64 (v38+1),mJ vb16 x_6 true)))))
 (some (.x (rest8,vb16)))
def W3 (rest8:Sl aa) (vk0_13:Trace) (v36:Sl aa) (v37 v38:Int) (tb2:Trace) (lb3:br 200 aF) (vb4:aa) (vb5:Bool) (idb6:aa) (vb16:Mo aa Bool):Option (Fw ((Sl aa)×(Mo aa Bool)) Unit Unit):=
 (aV (λq:(Sl aa)×Int×(Mo aa Bool)=>dS vk0_13 v36 v37 tb2 lb3 vb4 vb5 idb6 q.1 q.2.1 q.2.2) (rest8,v38,vb16)).bind (Fw.elim
 (λe=>some (.n (e.1,e.2)))
 (λe=>some (.r ())))
def bt (vk0_13 tb2:Trace) (lb3:br 200 aF) (vb4:aa) (vb5:Bool) (idb6:aa) (rest8:Sl aa) (vb16:Mo aa Bool):Option (Fw ((Sl aa)×(Mo aa Bool)) Unit Unit):=
 aq (decide ((len rest8)>0))
 ((Sl.kn rest8 (IntKind.wrap .i64 ((len rest8)-1))).bind λx_2=>
 (Sl.get rest8 x_2).bind λx_3=>
 (mh rest8 none (some (IntKind.wrap .i64 ((len rest8)-1)))).bind λx_4=>
 (gG tb2 lb3 x_3).bind λx_5=>
 W3 x_4 vk0_13 x_5 (len x_5) 0 tb2 lb3 vb4 vb5 idb6 vb16)
 (some (.x ()))
def W2 (rest8:Sl aa) (vk0_13 tb2:Trace) (lb3:br 200 aF) (vb4:aa) (vb5:Bool) (idb6:aa) (vb16:Mo aa Bool):Option (Fw Unit Empty aa):=
 (aV (λq:(Sl aa)×(Mo aa Bool)=>bt vk0_13 tb2 lb3 vb4 vb5 idb6 q.1 q.2) (rest8,vb16)).bind (Fw.elim
 (λe=>some (.n ()))
 (λe=>some (.r idb6)))
def pz (vk0_13 tb2:Trace) (lb3:br 200 aF) (vb4:aa) (vb5:Bool) (x:aa×Event):Option (Fw Unit Empty aa):=
 W2 (Sl.row [x.1]:Sl aa) vk0_13 tb2 lb3 vb4 vb5 x.1 []
def E1 (vk0_13 tb2:Trace) (lb3:br 200 aF) (vb4:aa) (vb5:Bool):Option (aa×Bool):=
 (gE vk0_13).bind λits=>(lU (λ(x:aa×Event) (q:Unit)=>pz vk0_13 tb2 lb3 vb4 vb5 x) its ()).bind (Fw.uo
 (λq=>some (⟨0,0⟩,false))
 (λe=>Empty.elim e)
 (λe=>some (e,true)))
end dY
def dY (t0:Trace) (l1:br 200 aF):Option (aa×Bool):=
 (iq t0).bind λx_1=>
 dY.E1 x_1 t0 l1 (⟨0,0⟩:aa) false
open dY in
instance OF (t0:Trace) (l1:br 200 aF):Fc Sy cL (dY t0 l1):=Fc.M 155 [enc t0,.fptr (cells l1)] (cw 2 2 t0 (aO 9 λx_1 _=>Hf λits hits=>Ds 4 [Pv 2,Pv 3,Pv 4,Pv 5,(13,.v (.clo 175 [] [.fptr (cells x_1)]))] (λqE1=>[Xb 2 t0,(3,.box [cp l1]),Xb 4 (⟨0,0⟩:aa),(5,.box [bv false])]) (λeE1=>Empty.elim eE1) (λeE1=>[Xb 2 t0,(3,.box [cp l1]),Xb 4 eE1,(5,.box [bv true])]) (wh x_1 its hits) (λxE1 qE1=>Bq 4 (cN 18 (λqW2=>⟨[Pv 2,Pv 3,Pv 4,Pv 5,Pv 6,(7,.mp 16),Ov 8,(13,.v (.clo 175 [] [.fptr (cells x_1)]))],[Xb 2 t0,(3,.box [cp l1]),Xb 4 (⟨0,0⟩:aa),(5,.box [bv false]),Xb 6 xE1.1,(16,rq qW2.2),Lb 2008 qW2.1],[2,3,4,5],[],true,0⟩) (λeW2=>(2,⟨[Pv 2,Pv 3,Pv 4,Pv 5,(13,.v (.clo 175 [] [.fptr (cells x_1)]))],[Xb 2 t0,(3,.box [cp l1]),Xb 4 (⟨0,0⟩:aa),(5,.box [bv false])],[2,3,4,5],[],true,0⟩)) (λeW2=>⟨[],[Xb 2 t0,(3,.box [cp l1]),Xb 4 xE1.1,(5,.box [bv true])],[2,3,4,5],[],true,0⟩) (λqW2=>Dt 6 2008 qW2.1 (aH 3 21 (Dt 8 2008 qW2.1 (kZ .i64 1 2008 λx_2 _=>sq 0 2008 0 2 true (λx_3=>.agg [.int .i64 x_3.proc,.int .i64 x_3.index]) λx_3 _=>Dt 8 2008 qW2.1 (Tc 1 false true 2008 32 [.int .i64 (IntKind.wrap .i64 ((len qW2.1)-1))] λx_4 _=>aO 8 λx_5 _=>bf 0 x_5 (cN 6 (λqW3=>⟨[Pv 2,Pv 3,Pv 4,Pv 5,Pv 6,(7,.mp 16),Ov 8,(13,.v (.clo 175 [] [.fptr (cells x_1)])),Cv 36 x_5,Iv 37 (len x_5),Iv 38 qW3.2.1],[Xb 2 t0,(3,.box [cp l1]),Xb 4 (⟨0,0⟩:aa),(5,.box [bv false]),Xb 6 xE1.1,(16,rq qW3.2.2),Lb 2008 qW3.1],[2,3,4,5],[],true,0⟩) (λeW3=>(4,⟨[Pv 2,Pv 3,Pv 4,Pv 5,Pv 6,(7,.mp 16),Ov 8,(13,.v (.clo 175 [] [.fptr (cells x_1)]))],[Xb 2 t0,(3,.box [cp l1]),Xb 4 (⟨0,0⟩:aa),(5,.box [bv false]),Xb 6 xE1.1,(16,rq eW3.2),Lb 2008 eW3.1],[2,3,4,5],[],true,0⟩)) (λeW3=>⟨[],[Xb 2 t0,(3,.box [cp l1]),Xb 4 xE1.1,(5,.box [bv true])],[2,3,4,5],[],true,0⟩) (λqW3=>aH 8 39 (bq 7 λx_6 _=>aH 13 44 ah (Sh 7 16 qW3.2.2 x_6 false (cK 3 49 ah (Qq 5 16 qW3.2.2 x_6 true (sj 6 2008 54 55 λx_7 _=>ah))))) ah) (λeW3=>ah) (λeW3=>ah))))) ah)) (λeW2=>ah) (λeW2=>ah))) (λqE1=>ah) (λx=>Empty.elim x) (λeE1=>ah)))
namespace fB
def Gw (vk0_36 tb1:Trace) (vb2:aa) (vb3:Int) (x:aa×Event):Option (Fw Unit Empty (aa×Int)):=
 (cr tb1 x.1 x.2).bind λx_3=>
 aq (x_3==0)
 (some (.n ()))
 (some (.r (x.1,x_3)))
def E2 (vk0_36 tb1:Trace) (vb2:aa) (vb3:Int):Option (aa×Int):=
 (gE vk0_36).bind λits=>(lU (λ(x:aa×Event) (q:Unit)=>Gw vk0_36 tb1 vb2 vb3 x) its ()).bind (Fw.uo
 (λq=>(dn tb1).bind λx_5=>
 aq (x_5.2.2==0)
 ((x_5.1).bind λx_6=>
 (dY tb1 x_6).bind λx_7=>
 aq x_7.2
 (some (x_7.1,10))
 (some (⟨0,0⟩,0)))
 (some (x_5.2.1,x_5.2.2)))
 (λe=>Empty.elim e)
 (λe=>some (e.1,e.2)))
def ax (v22:Int) (tb1:Trace) (vb2:aa) (vb3:Int) (v23:Int):Option (Fw Int Unit (aa×Int)):=
 aq (decide (v23<v22))
 ((dm tb1 v23).bind λx_2=>
 aq (x_2==0)
 (some (.n (IntKind.wrap .i64 (v23+1))))
 (some (.r ((⟨v23,0⟩:aa),x_2))))
 (some (.x ()))
def W1 (v22 v23:Int) (tb1:Trace) (vb2:aa) (vb3:Int):Option (aa×Int):=
 (aV (λq:Int=>ax v22 tb1 vb2 vb3 q) v23).bind (Fw.elim
 (λe=>(iq tb1).bind λx_4=>
 fB.E2 x_4 tb1 vb2 vb3)
 (λe=>some (e.1,e.2)))
end fB
def fB (t0:Trace):Option (aa×Int):=
 (kO (len t0.procs) 1 8).bind λx_1=>
 aq x_1
 (fB.W1 (len t0.procs) 0 t0 (⟨0,0⟩:aa) 0)
 (some (⟨0,0⟩,1))
open fB in
instance Pm (t0:Trace):Fc Sy cL (fB t0):=Fc.M 129 [enc t0] (cw 2 1 t0 (bf 9 t0.procs (aO 0 λx_1 _=>cK 3 18 (bf 8 t0.procs (cN 5 (λqW1=>(aN [Pv 1,Pv 2,Pv 3,Iv 22 (len t0.procs),Iv 23 qW1] [Xb 1 t0,Xb 2 (⟨0,0⟩:aa),(3,.box [iv 0])])) (λeW1=>(0,(aN [Pv 1,Pv 2,Pv 3] [Xb 1 t0,Xb 2 (⟨0,0⟩:aa),(3,.box [iv 0])]))) (λeW1=>(aN [Pv 2,Pv 3] [Xb 2 eW1.1,(3,.box [iv eW1.2])])) (λqW1=>aH 7 24 (aO 15 λx_2 _=>cK 9 30 ah ah) ah) (λeW1=>aO 6 λx_4 _=>Hf λits hits=>Ds 4 [Pv 1,Pv 2,Pv 3,(36,.v (.clo 175 [] [.fptr (cells x_4)]))] (λqE2=>[Xb 1 t0,Xb 2 (⟨0,0⟩:aa),(3,.box [iv 0])]) (λeE2=>Empty.elim eE2) (λeE2=>[Xb 1 t0,Xb 2 eE2.1,(3,.box [iv eE2.2])]) (wh x_4 its hits) (λxE2 qE2=>lp 8 7 0 xE2.2 (Bq 1 (aO 7 λx_3 _=>cK 9 44 ah ah))) (λqE2=>aO 5 λx_5 _=>cK 17 54 (UZ 8 (λoo=>(aN [Pv 2,Pv 3,(36,.v (.clo 175 [] [.fptr (cells x_4)])),Pv 10,Iv 11 x_5.2.2,Bv 54 false,Cv 58 t0,Cv 59 oo] [Xb 1 t0,Xb 2 (⟨0,0⟩:aa),(3,.box [iv 0]),Xb 10 x_5.2.1])) λx_6 _=>aO 0 λx_7 _=>aH 13 63 ah ah) ah) (λx=>Empty.elim x) (λeE2=>ah)) (λeW1=>ah))) ah)))
def bZ (t0:Trace):Option Bool:=
 (fB t0).bind λx_1=>
 some (x_1.2==0)
instance PE (t0:Trace):Fc Sy cL (bZ t0):=Fc.M 88 [enc t0] (cw 2 1 t0 (aO 6 λx_1 _=>ah))
def e_ (c0:Sl Int) (v1:Trace):Option Bool:=
 some (!((len c0)==(len v1.procs)))
instance OM (c0:Sl Int) (v1:Trace):Fc Sy cL (e_ c0 v1):=Fc.M 156 [enc c0,.fptr (cells v1)] (bf 8 c0 (bf 2 v1.procs ah))
namespace dy
def ax (s0:Sl (Sl Int)) (v7:Int) (v8:Int) (p1:(Sl Int)->Option Bool):Option (Fw Int Unit Int):=
 aq (decide (v8<v7))
 ((idx s0 v8).bind λx_1=>
 (p1 x_1).bind λx_2=>
 aq x_2
 (some (.r v8))
 (some (.n (IntKind.wrap .i64 (v8+1)))))
 (some (.x ()))
def W1 (s0:Sl (Sl Int)) (v7 v8:Int) (p1:(Sl Int)->Option Bool):Option Int:=
 (aV (λq:Int=>ax s0 v7 q p1) v8).bind (Fw.elim
 (λe=>some (-1))
 (λe=>some e))
end dy
def dy (s0:Sl (Sl Int)) (p1:(Sl Int)->Option Bool):Option Int:=
 dy.W1 s0 (len s0) 0 p1
open dy in
abbrev oc (g1:FuncId) (e1:List V) (p1:(Sl Int)->Option Bool) (h1:mj Sy cL g1 [] e1 (λz:Sl Int=>[enc z]) (λr:Bool=>[.bool r]) p1 true) (s0:Sl (Sl Int)):Fc Sy cL (dy s0 p1):=Fc.M 64 [enc s0,.clo g1 [] e1] (bf 9 s0 (cN 5 (λqW1=>(aN [Cv 0 s0,(1,.v (.clo g1 [] e1)),Iv 7 (len s0),Iv 8 qW1] [])) (λeW1=>(0,(aN [] []))) (λeW1=>(aN [Iv 4 eW1] [])) (λqW1=>aH 7 9 (bq 16 λx_1 _=>uy 1 h1.f x_1 λx_2 _=>aH 2 16 ah ah) ah) (λeW1=>ah) (λeW1=>ah))) (l:=by simp[h1.d])
def fU (s0:Sl (Sl Int)) (p1:(Sl Int)->Option Bool):Option Bool:=
 (dy s0 p1).bind λx_1=>
 some (decide (x_1>=0))
abbrev me (g1:FuncId) (e1:List V) (p1:(Sl Int)->Option Bool) (h1:mj Sy cL g1 [] e1 (λz:Sl Int=>[enc z]) (λr:Bool=>[.bool r]) p1 true) (s0:Sl (Sl Int)):Fc Sy cL (fU s0 p1):=Fc.M 116 [enc s0,.clo g1 [] e1] (aO (F:=oc g1 e1 p1 h1 s0) 9 λx_1 _=>ah) (l:=by simp[h1.d])
def uG (t0:Trace) (l1:Sl (Sl Int)):Option Bool:=
 (bZ t0).bind λx_1=>
 (aq x_1
 ((fU l1 (λz=>e_ z t0)).bind λx_2=>
 some (!x_2))
 (some false):Option Bool).bind λx_3=>
 some x_3
instance R9 (t0:Trace) (l1:Sl (Sl Int)):Fc Sy cL (uG t0 l1):=Fc.M 131 [enc t0,enc l1] (cw 2 2 t0 (aO 6 λx_1 _=>bh 1 5 [1,2,7] 12 (aH 1 7 (fM (F:=me 156 [.fptr (cells t0)] (λz=>e_ z t0) mj.tK l1) 2 λx_2 _=>aC 2) (aC 5)) λx_3=>ah))
namespace gX
def ax (v7:Sl Int) (v8:Int) (tb2:Trace) (v9:Int):Option (Fw Int Unit Unit):=
 aq (decide (v9<v8))
 ((idx v7 v9).bind λx_1=>
 (aq (decide (x_1<0))
 (some true)
 ((idx tb2.procs v9).bind λx_2=>
 some (decide (x_1>(len x_2.events)))):Option Bool).bind λx_3=>
 aq x_3
 (some (.r ()))
 (some (.n (IntKind.wrap .i64 (v9+1)))))
 (some (.x ()))
def W1 (v7:Sl Int) (v8 v9:Int) (tb2:Trace):Option Bool:=
 (aV (λq:Int=>ax v7 v8 tb2 q) v9).bind (Fw.elim
 (λe=>some true)
 (λe=>some false))
end gX
def gX (t0:Trace) (c1:Sl Int):Option Bool:=
 gX.W1 c1 (len c1) 0 t0
open gX in
instance Pr (t0:Trace) (c1:Sl Int):Fc Sy cL (gX t0 c1):=Fc.M 132 [enc t0,enc c1] (cw 2 2 t0 (bf 7 c1 (cN 5 (λqW1=>(aN [Pv 2,Cv 7 c1,Iv 8 (len c1),Iv 9 qW1] [Xb 2 t0])) (λeW1=>(0,(aN [] []))) (λeW1=>(aN [Bv 4 false] [])) (λqW1=>aH 7 10 (bq 8 λx_1 _=>bh 10 10 [5,6,16] 26 (aH 10 16 (aC 10) (bq 4 λx_2 _=>bf 2 x_2.events (aC 2))) λx_3=>aH 2 26 ah ah) ah) (λeW1=>ah) (λeW1=>ah))))
def zc (t0:Trace) (p1:Int):Option Bool:=
 (aq (decide (p1>=0))
 (some (decide (p1<(len t0.procs))))
 (some false):Option Bool).bind λx_1=>
 some x_1
instance PA (t0:Trace) (p1:Int):Fc Sy cL (zc t0 p1):=Fc.M 133 [enc t0,.int .i64 p1] (cw 2 2 t0 (bh 8 6 [1,2,7] 13 (aH 8 7 (bf 3 t0.procs (aC 2)) (aC 6)) λx_1=>ah))
namespace jH
def pz (vk0_15:Trace) (kindb4 mb5:Int) (vb6:aa) (vb7:Bool) (x:aa×Event):Option (Fw Unit Empty aa):=
 (aq (x.2.kind==kindb4)
 (some (x.2.message==mb5))
 (some false):Option Bool).bind λx_3=>
 aq x_3
 (some (.r x.1))
 (some (.n ()))
def E1 (vk0_15:Trace) (kindb4 mb5:Int) (vb6:aa) (vb7:Bool):Option (aa×Bool):=
 (gE vk0_15).bind λits=>(lU (λ(x:aa×Event) (q:Unit)=>pz vk0_15 kindb4 mb5 vb6 vb7 x) its ()).bind (Fw.uo
 (λq=>some (⟨0,0⟩,false))
 (λe=>Empty.elim e)
 (λe=>some (e,true)))
end jH
def jH (t0:Trace) (kind1 m2:Int):Option (aa×Bool):=
 (bZ t0).bind λx_1=>
 aq x_1
 ((iq t0).bind λx_2=>
 jH.E1 x_2 kind1 m2 (⟨0,0⟩:aa) false)
 (some (⟨0,0⟩,false))
open jH in
instance Rl (t0:Trace) (kind1 m2:Int):Fc Sy cL (jH t0 kind1 m2):=Fc.M 135 [enc t0,.int .i64 kind1,.int .i64 m2] (cw 2 3 t0 (aO 10 λx_1 _=>cK 3 12 (aO 7 λx_2 _=>Hf λits hits=>Ds 4 [Pv 4,Pv 5,Pv 6,Pv 7,(15,.v (.clo 175 [] [.fptr (cells x_2)]))] (λqE1=>[(4,.box [iv kind1]),(5,.box [iv m2]),Xb 6 (⟨0,0⟩:aa),(7,.box [bv false])]) (λeE1=>Empty.elim eE1) (λeE1=>[(4,.box [iv kind1]),(5,.box [iv m2]),Xb 6 eE1,(7,.box [bv true])]) (wh x_2 its hits) (λxE1 qE1=>lp 8 9 0 xE1.2 (Bq 1 (bh 9 5 [9,22] 27 (aH 9 22 (aC 5) (aC 5)) λx_3=>aH 2 27 ah ah))) (λqE1=>ah) (λx=>Empty.elim x) (λeE1=>ah)) ah))
def nh (t0:Trace) (m1:Int):Option (aa×Bool):=
 (jH t0 2 m1).bind λx_1=>
 some (x_1.1,x_1.2)
instance Oj (t0:Trace) (m1:Int):Fc Sy cL (nh t0 m1):=Fc.M 161 [enc t0,.int .i64 m1] (cw 2 2 t0 (aO 8 λx_1 _=>ah))
namespace fm
def bt (c1:Sl Int) (p7:Int) (v13:Sl Int) (v14 v15:Int) (v27:Sl Event) (v28:Int) (tb2:Trace) (sendb4 receiveb5:aa) (v29:Int):Option (Fw Int Unit (aa×aa)):=
 aq (decide (v29<v28))
 ((idx v27 v29).bind λx_4=>
 aq (x_4.kind==3)
 ((nh tb2 x_4.message).bind λx_5=>
 (idx c1 x_5.1.proc).bind λx_6=>
 aq (decide (x_5.1.index>x_6))
 (some (.r (x_5.1,(⟨p7,IntKind.wrap .i64 (v29+1)⟩:aa))))
 (some (.n (IntKind.wrap .i64 (v29+1)))))
 (some (.n (IntKind.wrap .i64 (v29+1)))))
 (some (.x ()))
def W2 (c1:Sl Int) (p7:Int) (v13:Sl Int) (v14 v15:Int) (v27:Sl Event) (v28 v29:Int) (tb2:Trace) (sendb4 receiveb5:aa):Option (Fw Int Unit (aa×aa)):=
 (aV (λq:Int=>bt c1 p7 v13 v14 v15 v27 v28 tb2 sendb4 receiveb5 q) v29).bind (Fw.elim
 (λe=>some (.n (IntKind.wrap .i64 (v15+1))))
 (λe=>some (.r (e.1,e.2))))
def ax (c1 v13:Sl Int) (v14:Int) (tb2:Trace) (sendb4 receiveb5:aa) (v15:Int):Option (Fw Int Unit (aa×aa)):=
 aq (decide (v15<v14))
 ((idx v13 v15).bind λx_1=>
 (idx tb2.procs v15).bind λx_2=>
 (ez x_2.events none (some x_1)).bind λx_3=>
 W2 c1 v15 v13 v14 v15 x_3 (len x_3) 0 tb2 sendb4 receiveb5)
 (some (.x ()))
def W1 (c1 v13:Sl Int) (v14 v15:Int) (tb2:Trace) (sendb4 receiveb5:aa):Option (aa×aa×Bool):=
 (aV (λq:Int=>ax c1 v13 v14 tb2 sendb4 receiveb5 q) v15).bind (Fw.elim
 (λe=>some (⟨0,0⟩,⟨0,0⟩,false))
 (λe=>some (e.1,e.2,true)))
end fm
def fm (t0:Trace) (c1:Sl Int):Option (aa×aa×Bool):=
 fm.W1 c1 c1 (len c1) 0 t0 (⟨0,0⟩:aa) (⟨0,0⟩:aa)
open fm in
instance Pf (t0:Trace) (c1:Sl Int):Fc Sy cL (fm t0 c1):=Fc.M 148 [enc t0,enc c1] (cw 2 2 t0 (bf 9 c1 (cN 5 (λqW1=>(aN [Cv 1 c1,Pv 2,Pv 4,Pv 5,Cv 13 c1,Iv 14 (len c1),Iv 15 qW1] [Xb 2 t0,Xb 4 (⟨0,0⟩:aa),Xb 5 (⟨0,0⟩:aa)])) (λeW1=>(0,(aN [Pv 4,Pv 5] [Xb 4 (⟨0,0⟩:aa),Xb 5 (⟨0,0⟩:aa)]))) (λeW1=>(aN [Pv 4,Pv 5,Bv 6 true] [Xb 4 eW1.1,Xb 5 eW1.2])) (λqW1=>aH 7 16 (bq 8 λx_1 _=>bq 10 λx_2 _=>z8 3 false true [.int .i64 x_1] λx_3 _=>bf 0 x_3 (cN 5 (λqW2=>(aN [Cv 1 c1,Pv 2,Pv 4,Pv 5,Iv 7 qW1,Cv 13 c1,Iv 14 (len c1),Iv 15 qW1,Cv 27 x_3,Iv 28 (len x_3),Iv 29 qW2] [Xb 2 t0,Xb 4 (⟨0,0⟩:aa),Xb 5 (⟨0,0⟩:aa)])) (λeW2=>(2,(aN [Cv 1 c1,Pv 2,Pv 4,Pv 5,Cv 13 c1,Iv 14 (len c1),Iv 15 qW1] [Xb 2 t0,Xb 4 (⟨0,0⟩:aa),Xb 5 (⟨0,0⟩:aa)]))) (λeW2=>(aN [Pv 4,Pv 5,Bv 6 true] [Xb 4 eW2.1,Xb 5 eW2.2])) (λqW2=>aH 7 30 (bq 8 λx_4 _=>lp 3 10 0 x_4 (cK 10 36 (aO 8 λx_5 _=>bq 15 λx_6 _=>aH 4 51 ah ah) ah)) ah) (λeW2=>ah) (λeW2=>ah))) ah) (λeW1=>ah) (λeW1=>ah))))
def sW (t0:Trace) (c1:Sl Int):Option Bool:=
 (fm t0 c1).bind λx_1=>
 some (!x_1.2.2)
instance QD (t0:Trace) (c1:Sl Int):Fc Sy cL (sW t0 c1):=Fc.M 134 [enc t0,enc c1] (cw 2 2 t0 (aO 7 λx_1 _=>ah))
namespace b7
def dS (v39:Sl (Sl Int)) (v40:Int) (tb3:Trace) (v41:Int):Option (Fw Int Unit Unit):=
 aq (decide (v41<v40))
 ((idx v39 v41).bind λx_6=>
 (sW tb3 x_6).bind λx_7=>
 aq x_7
 (some (.n (IntKind.wrap .i64 (v41+1))))
 (some (.r ())))
 (some (.x ()))
def W3 (v39:Sl (Sl Int)) (v40 v41:Int) (tb3:Trace):Option Int:=
 (aV (λq:Int=>dS v39 v40 tb3 q) v41).bind (Fw.elim
 (λe=>some 0)
 (λe=>some 18))
def bt (l1:Sl (Sl Int)) (v28:Sl Int) (v29:Int) (tb3:Trace) (v30:Int):Option (Fw Int Unit Unit):=
 aq (decide (v30<v29))
 ((idx v28 v30).bind λx_4=>
 (zc tb3 x_4).bind λx_5=>
 aq x_5
 (some (.n (IntKind.wrap .i64 (v30+1))))
 (some (.r ())))
 (some (.x ()))
def W2 (l1:Sl (Sl Int)) (v28:Sl Int) (v29 v30:Int) (tb3:Trace):Option Int:=
 (aV (λq:Int=>bt l1 v28 v29 tb3 q) v30).bind (Fw.elim
 (λe=>b7.W3 l1 (len l1) 0 tb3)
 (λe=>some 2))
def ax (l1:Sl (Sl Int)) (procs2:Sl Int) (v17:Sl (Sl Int)) (v18:Int) (tb3:Trace) (v19:Int):Option (Fw Int Unit Unit):=
 aq (decide (v19<v18))
 ((idx v17 v19).bind λx_2=>
 (gX tb3 x_2).bind λx_3=>
 aq x_3
 (some (.n (IntKind.wrap .i64 (v19+1))))
 (some (.r ())))
 (some (.x ()))
def W1 (l1:Sl (Sl Int)) (procs2:Sl Int) (v17:Sl (Sl Int)) (v18 v19:Int) (tb3:Trace):Option Int:=
 (aV (λq:Int=>ax l1 procs2 v17 v18 tb3 q) v19).bind (Fw.elim
 (λe=>b7.W2 l1 procs2 (len procs2) 0 tb3)
 (λe=>some 2))
end b7
def b7 (t0:Trace) (l1:Sl (Sl Int)) (procs2:Sl Int):Option Int:=
 (uG t0 l1).bind λx_1=>
 aq x_1
 (b7.W1 l1 procs2 l1 (len l1) 0 t0)
 (some 1)
open b7 in
instance Sg (t0:Trace) (l1:Sl (Sl Int)) (procs2:Sl Int):Fc Sy cL (b7 t0 l1 procs2):=Fc.M 97 [enc t0,enc l1,enc procs2] (cw 2 3 t0 (aO 8 λx_1 _=>cK 3 16 (bf 7 l1 (cN 5 (λqW1=>(aN [Cv 1 l1,Cv 2 procs2,Pv 3,Cv 17 l1,Iv 18 (len l1),Iv 19 qW1] [Xb 3 t0])) (λeW1=>(0,(aN [Cv 1 l1,Cv 2 procs2,Pv 3] [Xb 3 t0]))) (λeW1=>(aN [Iv 6 2] [])) (λqW1=>aH 7 20 (bq 7 λx_2 _=>aO 8 λx_3 _=>cK 3 26 ah ah) ah) (λeW1=>bf 6 procs2 (cN 5 (λqW2=>(aN [Cv 1 l1,Pv 3,Cv 28 procs2,Iv 29 (len procs2),Iv 30 qW2] [Xb 3 t0])) (λeW2=>(2,(aN [Cv 1 l1,Pv 3] [Xb 3 t0]))) (λeW2=>(aN [Iv 6 2] [])) (λqW2=>aH 7 31 (bq 7 λx_4 _=>aO 8 λx_5 _=>cK 3 37 ah ah) ah) (λeW2=>bf 6 l1 (cN 5 (λqW3=>(aN [Pv 3,Cv 39 l1,Iv 40 (len l1),Iv 41 qW3] [Xb 3 t0])) (λeW3=>(4,(aN [] []))) (λeW3=>(aN [Iv 6 18] [])) (λqW3=>aH 7 42 (bq 7 λx_6 _=>aO 8 λx_7 _=>cK 3 48 ah ah) ah) (λeW3=>ah) (λeW3=>ah))) (λeW2=>ah))) (λeW1=>ah))) ah))
def nP (t0:Trace) (c1:Sl Int):Option Bool:=
 (b7 t0 (Sl.row [c1]:Sl (Sl Int)) (Sl.nil:Sl Int)).bind λx_1=>
 some (x_1==0)
instance Ms (t0:Trace) (c1:Sl Int):Fc Sy cL (nP t0 c1):=Fc.M 99 [enc t0,enc c1] (cw 2 2 t0 (xD 7 7 ([c1]:List (Sl Int)) (fM 0 λx_1 _=>ah)))
def mS (c0:Sl Int) (v1:Trace):Option Bool:=
 (nP v1 c0).bind λx_1=>
 some (!x_1)
instance KB (c0:Sl Int) (v1:Trace):Fc Sy cL (mS c0 v1):=Fc.M 117 [enc c0,.fptr (cells v1)] (aO 9 λx_1 _=>ah)
def qu (t0:Trace) (l1:Sl (Sl Int)):Option Int:=
 (bZ t0).bind λx_1=>
 aq x_1
 ((fU l1 (λz=>mS z t0)).bind λx_2=>
 aq x_2
 (some 18)
 (some 0))
 (some 1)
instance OY (t0:Trace) (l1:Sl (Sl Int)):Fc Sy cL (qu t0 l1):=Fc.M 62 [enc t0,enc l1] (cw 2 2 t0 (aO 7 λx_1 _=>cK 3 7 (fM (F:=me 117 [.fptr (cells t0)] (λz=>mS z t0) mj.tK l1) 8 λx_2 _=>aH 2 10 ah ah) ah))
namespace iG
def J3 (need6:Sl aa) (v11:Sl bA) (v12 v13:Int) (v18:Sl Event) (v19 v20:Int) (tb1:Trace) (vb2 mb3:a_) (xb5:bA) (idb9:aa):Option (Fw ((Sl aa)×Int×Trace×a_×a_) ((Sl aa)×Trace×a_) Empty):=
 (iT need6 (idb9:aa)).bind λx_4=>
 some (.n (x_4,IntKind.wrap .i64 (v20+1),tb1,(⟨Sl.nil,Sl.nil⟩:a_),mb3))
def bt (v11:Sl bA) (v12 v13:Int) (v18:Sl Event) (v19:Int) (xb5:bA) (need6:Sl aa) (v20:Int) (tb1:Trace) (vb2 mb3:a_):Option (Fw ((Sl aa)×Int×Trace×a_×a_) ((Sl aa)×Trace×a_) Empty):=
 aq (decide (v20<v19))
 ((idx v18 v20).bind λx_2=>
 aq (x_2.kind==3)
 ((nh tb1 x_2.message).bind λx_3=>
 J3 need6 v11 v12 v13 v18 v19 v20 tb1 (⟨Sl.nil,Sl.nil⟩:a_) mb3 xb5 x_3.1)
 (J3 need6 v11 v12 v13 v18 v19 v20 tb1 (⟨Sl.nil,Sl.nil⟩:a_) mb3 xb5 (⟨0,0⟩:aa)))
 (some (.x (need6,tb1,mb3)))
def W2 (need6:Sl aa) (v11:Sl bA) (v12 v13:Int) (v18:Sl Event) (v19 v20:Int) (tb1:Trace) (vb2 mb3:a_) (xb5:bA):Option (Fw (Int×Trace×a_×a_) a_ Empty):=
 (aV (λq:(Sl aa)×Int×Trace×a_×a_=>bt v11 v12 v13 v18 v19 xb5 q.1 q.2.1 q.2.2.1 q.2.2.2.1 q.2.2.2.2) (need6,v20,tb1,vb2,mb3)).bind (Fw.elim
 (λe=>(iT e.2.2.lengths (len xb5.events:Int)).bind λx_5=>
 (iT e.2.2.need (e.1:Sl aa)).bind λx_6=>
 some (.n (IntKind.wrap .i64 (v13+1),e.2.1,(⟨Sl.nil,Sl.nil⟩:a_),(⟨x_5,x_6⟩:a_))))
 (λe=>Empty.elim e))
def ax (v11:Sl bA) (v12:Int) (v13:Int) (tb1:Trace) (vb2 mb3:a_):Option (Fw (Int×Trace×a_×a_) a_ Empty):=
 aq (decide (v13<v12))
 ((idx v11 v13).bind λx_1=>
 W2 (Sl.nil:Sl aa) v11 v12 v13 x_1.events (len x_1.events) 0 tb1 (⟨Sl.nil,Sl.nil⟩:a_) mb3 x_1)
 (some (.x mb3))
def W1 (v11:Sl bA) (v12 v13:Int) (tb1:Trace) (vb2 mb3:a_):Option a_:=
 (aV (λq:Int×Trace×a_×a_=>ax v11 v12 q.1 q.2.1 q.2.2.1 q.2.2.2) (v13,tb1,vb2,mb3)).bind (Fw.elim
 (λe=>some e)
 (λe=>Empty.elim e))
end iG
def iG (t0:Trace):Option a_:=
 iG.W1 t0.procs (len t0.procs) 0 t0 (⟨Sl.nil,Sl.nil⟩:a_) (⟨Sl.nil,Sl.nil⟩:a_)
open iG in
instance Ua (t0:Trace):Fc Sy cL (iG t0):=Fc.N 144 [enc t0] (cw 2 1 t0 (bf 13 t0.procs (iQ 7 (λqW1=>(aN [Pv 1,Pv 2,Pv 3,Cv 11 t0.procs,Iv 12 (len t0.procs),Iv 13 qW1.1] [Xb 1 qW1.2.1,Xb 2 (⟨Sl.nil,Sl.nil⟩:a_),(3,.box [.own 4060,.own 4061]),Lb 4060 qW1.2.2.2.lengths,Lb 4061 qW1.2.2.2.need])) (λeW1=>(0,(aN [Pv 2,Pv 3] [Xb 2 (⟨Sl.nil,Sl.nil⟩:a_),(3,.box [.own 4060,.own 4061]),Lb 4060 eW1.lengths,Lb 4061 eW1.need]))) (λqW1=>aH 9 14 (bq 7 λx_1 _=>lp 2 5 0 x_1 (bf 12 x_1.events (iQ 8 (λqW2=>(aN [Pv 1,Pv 2,Pv 3,Pv 5,Ov 6,Cv 11 t0.procs,Iv 12 (len t0.procs),Iv 13 qW1.1,Cv 18 x_1.events,Iv 19 (len x_1.events),Iv 20 qW2.2.1] [Xb 1 qW2.2.2.1,Xb 2 (⟨Sl.nil,Sl.nil⟩:a_),(3,.box [.own 4060,.own 4061]),Xb 5 x_1,Lb 2006 qW2.1,Lb 4060 qW2.2.2.2.2.lengths,Lb 4061 qW2.2.2.2.2.need])) (λeW2=>(2,(aN [Pv 1,Pv 2,Pv 3,Pv 5,Ov 6,Cv 11 t0.procs,Iv 12 (len t0.procs),Iv 13 qW1.1] [Xb 1 eW2.2.1,Xb 2 (⟨Sl.nil,Sl.nil⟩:a_),(3,.box [.own 4060,.own 4061]),Xb 5 x_1,Lb 2006 eW2.1,Lb 4060 eW2.2.2.lengths,Lb 4061 eW2.2.2.need]))) (λqW2=>aH 10 21 (bq 7 λx_2 _=>lp 2 8 0 x_2 (aH 15 26 (aO 5 λx_3 _=>xU 10 (sj 4 2006 36 37 λx_4 _=>ah)) (xU 7 (sj 4 2006 36 37 λx_4 _=>ah)))) ah) (λeW2=>bf 8 x_1.events (sj 1 4060 44 45 λx_5 _=>xD 9 50 ([eW2.1]:List (Sl aa)) (sj 0 4061 50 51 λx_6 _=>ah)))))) ah) (λeW1=>lp 7 2 0 eW1 ah))))
def lN (m0:a_) (c1:Sl Int) (p2:Int):Option Bool:=
 (idx c1 p2).bind λx_1=>
 (idx m0.lengths p2).bind λx_2=>
 aq (x_1==x_2)
 (some false)
 ((idx m0.need p2).bind λx_3=>
 (idx c1 p2).bind λx_4=>
 (idx x_3 x_4).bind λx_5=>
 (idx c1 x_5.proc).bind λx_6=>
 some (decide (x_5.index<=x_6)))
instance JC (m0:a_) (c1:Sl Int) (p2:Int):Fc Sy cL (lN m0 c1 p2):=Fc.M 162 [enc m0,enc c1,.int .i64 p2] (cw 2 3 m0 (bq 8 λx_1 _=>bq 4 λx_2 _=>aH 4 17 ah (bq 8 λx_3 _=>bq 3 λx_4 _=>bq 1 λx_5 _=>bq 12 λx_6 _=>ah)))
def gK (s0:Sl Int):Option (Sl Int):=
 (Sl.isNil s0).bind λx_1=>
 aq x_1
 (some Sl.nil)
 ((lM (Sl.row []:Sl Int) s0).bind λx_2=>
 some x_2)
theorem jr:DS Sy cL 114 (λs0:Sl Int=>[enc s0]) (λz=>gK z):=DS.mk' (Aw (Tx 114)) (λs0=>UR 9 λx_1 _=>aH 2 4 ah (xW 7 5 7 λx_2 _=>ah))
def oN (x0:Int):Option Bool:=
 some (!(x0==x0))
instance NA (x0:Int):Fc Sy cL (oN x0):=Fc.M 184 [.int .i64 x0] (ah)
def mT (x0 y1:Int):Option Int:=
 (oN x0).bind λx_1=>
 (oN y1).bind λx_2=>
 aq x_1
 (aq x_2
 (some 0)
 (some (-1)))
 (aq x_2
 (some 1)
 (aq (decide (x0<y1))
 (some (-1))
 (aq (decide (x0>y1))
 (some 1)
 (some 0))))
instance KE (x0 y1:Int):Fc Sy cL (mT x0 y1):=Fc.M 183 [.int .i64 x0,.int .i64 y1] (aO 8 λx_1 _=>aO 6 λx_2 _=>aH 9 11 (aH 7 12 ah ah) (aH 9 13 ah (aH 11 16 ah (aH 11 19 ah ah))))
namespace dI
def ax (s10 s21 v9:Sl Int) (v10:Int) (v11:Int):Option (Fw Int Unit Int):=
 aq (decide (v11<v10))
 ((idx v9 v11).bind λx_1=>
 aq (decide (v11>=(len s21)))
 (some (.r 1))
 ((idx s21 v11).bind λx_2=>
 (mT x_1 x_2).bind λx_3=>
 aq (x_3==0)
 (some (.n (IntKind.wrap .i64 (v11+1))))
 (some (.r x_3))))
 (some (.x ()))
def W1 (s10 s21 v9:Sl Int) (v10 v11:Int):Option Int:=
 (aV (λq:Int=>ax s10 s21 v9 v10 q) v11).bind (Fw.elim
 (λe=>aq (decide ((len s10)<(len s21)))
 (some (-1))
 (some 0))
 (λe=>some e))
end dI
def dI (s10 s21:Sl Int):Option Int:=
 dI.W1 s10 s21 s10 (len s10) 0
open dI in
instance G4 (s10 s21:Sl Int):Fc Sy cL (dI s10 s21):=Fc.M 165 [enc s10,enc s21] (bf 9 s10 (cN 5 (λqW1=>(aN [Cv 0 s10,Cv 1 s21,Cv 9 s10,Iv 10 (len s10),Iv 11 qW1] [])) (λeW1=>(0,(aN [Cv 0 s10,Cv 1 s21] []))) (λeW1=>(aN [Iv 4 eW1] [])) (λqW1=>aH 7 12 (bq 8 λx_1 _=>bf 10 s21 (aH 3 19 ah (bq 7 λx_2 _=>aO 8 λx_3 _=>cK 9 28 ah ah))) ah) (λeW1=>bf 6 s10 (bf 1 s21 (aH 3 35 ah ah))) (λeW1=>ah)))
def gV (a0 b1:Sl Int):Option Int:=
 (dI a0 b1).bind λx_1=>
 some x_1
instance G8 (a0 b1:Sl Int):Fc Sy cL (gV a0 b1):=Fc.M 164 [enc a0,enc b1] (aO 9 λx_1 _=>ah)
namespace dD
def ax (s10 s21:Sl Int) (v12:Int) (v13:Int):Option (Fw Int Unit Unit):=
 aq (decide (v13<v12))
 ((idx s10 v13).bind λx_1=>
 (idx s21 v13).bind λx_2=>
 aq (x_1==x_2)
 (some (.n (IntKind.wrap .i64 (v13+1))))
 (some (.r ())))
 (some (.x ()))
def W1 (s10 s21:Sl Int) (v12 v13:Int):Option Bool:=
 (aV (λq:Int=>ax s10 s21 v12 q) v13).bind (Fw.elim
 (λe=>some true)
 (λe=>some false))
end dD
def dD (s10 s21:Sl Int):Option Bool:=
 aq ((len s10)==(len s21))
 (dD.W1 s10 s21 (len s10) 0)
 (some false)
open dD in
instance JA (s10 s21:Sl Int):Fc Sy cL (dD s10 s21):=Fc.M 40 [enc s10,enc s21] (bf 9 s10 (bf 1 s21 (cK 3 10 (bf 7 s10 (cN 5 (λqW1=>(aN [Cv 0 s10,Cv 1 s21,Iv 12 (len s10),Iv 13 qW1] [])) (λeW1=>(0,(aN [] []))) (λeW1=>(aN [Bv 4 false] [])) (λqW1=>aH 7 14 (bq 15 λx_1 _=>bq 3 λx_2 _=>cK 4 24 ah ah) ah) (λeW1=>ah) (λeW1=>ah))) ah)))
def ji (a0 b1:Sl Int):Option Bool:=
 (dD a0 b1).bind λx_1=>
 some x_1
instance Ih (a0 b1:Sl Int):Fc Sy cL (ji a0 b1):=Fc.M 167 [enc a0,enc b1] (aO 9 λx_1 _=>ah)
namespace c9
def bt (c7:Sl Int) (v10:Sl (Sl Int)) (v11 v12 v17:Int) (mb2:a_) (out5:Sl (Sl Int)) (v18:Int):Option (Fw ((Sl (Sl Int))×Int) (Sl (Sl Int)) Empty):=
 aq (decide (v18<v17))
 ((lN mb2 c7 v18).bind λx_2=>
 aq x_2
 (((gK c7).bind Sl.whole).bind λx_3=>
 (Sl.kn x_3 v18).bind λx_4=>
 (Sl.get x_3 x_4).bind λx_5=>
 (Sl.kn x_3 v18).bind λx_6=>
 (Sl.put x_3 x_6 (IntKind.wrap .i64 (x_5+1):Int)).bind λx_7=>
 (iT out5 (x_7:Sl Int)).bind λx_8=>
 some (.n (x_8,IntKind.wrap .i64 (v18+1))))
 (some (.n (out5,IntKind.wrap .i64 (v18+1)))))
 (some (.x out5))
def W2 (out5:Sl (Sl Int)) (c7:Sl Int) (v10:Sl (Sl Int)) (v11 v12 v17 v18:Int) (mb2:a_):Option (Fw ((Sl (Sl Int))×Int×Int) (Sl (Sl Int)) Empty):=
 (aV (λq:(Sl (Sl Int))×Int=>bt c7 v10 v11 v12 v17 mb2 q.1 q.2) (out5,v18)).bind (Fw.elim
 (λe=>some (.n (e,v11,IntKind.wrap .i64 (v12+1))))
 (λe=>Empty.elim e))
def ax (v10:Sl (Sl Int)) (mb2:a_) (out5:Sl (Sl Int)) (v11 v12:Int):Option (Fw ((Sl (Sl Int))×Int×Int) (Sl (Sl Int)) Empty):=
 aq (decide (v12<v11))
 ((idx v10 v12).bind λx_1=>
 W2 out5 x_1 v10 v11 v12 (len x_1) 0 mb2)
 (some (.x out5))
def W1 (out5 v10:Sl (Sl Int)) (v11 v12:Int) (mb2:a_):Option (Sl (Sl Int)):=
 (aV (λq:(Sl (Sl Int))×Int×Int=>ax v10 mb2 q.1 q.2.1 q.2.2) (out5,v11,v12)).bind (Fw.elim
 (λe=>(we e gV).bind λx_9=>
 (uI x_9 ji).bind λx_10=>
 some x_10)
 (λe=>Empty.elim e))
end c9
def c9 (m0:a_) (level1:Sl (Sl Int)):Option (Sl (Sl Int)):=
 c9.W1 (Sl.nil:Sl (Sl Int)) level1 (len level1) 0 m0
open c9 in
instance KD (m0:a_) (level1:Sl (Sl Int)):Fc Sy cL (c9 m0 level1):=Fc.N 145 [enc m0,enc level1] (cw 2 2 m0 (bf 12 level1 (iQ 6 (λqW1=>(aN [Pv 2,Ov 5,Cv 10 level1,Iv 11 qW1.2.1,Iv 12 qW1.2.2] [Xb 2 m0,Lb 2005 qW1.1])) (λeW1=>(0,(aN [Ov 5] [Lb 2005 eW1]))) (λqW1=>aH 8 13 (bq 7 λx_1 _=>bf 7 x_1 (iQ 6 (λqW2=>(aN [Pv 2,Ov 5,Cv 7 x_1,Cv 10 level1,Iv 11 qW1.2.1,Iv 12 qW1.2.2,Iv 17 (len x_1),Iv 18 qW2.2] [Xb 2 m0,Lb 2005 qW2.1])) (λeW2=>(2,(aN [Pv 2,Ov 5,Cv 10 level1,Iv 11 qW1.2.1,Iv 12 qW1.2.2] [Xb 2 m0,Lb 2005 eW2]))) (λqW2=>aH 8 19 (aO 16 λx_2 _=>aH 2 24 (Hq 4 26 jr x_1 λx_3 _=>kZ .i64 7 26 λx_4 _=>sq 0 26 0 1 false (λx_5=>.int .i64 x_5) λx_5 _=>kZ .i64 1 26 λx_6 _=>xO 0 26 (.int .i64 (IntKind.wrap .i64 (x_5+1))) λx_7 _=>xD 6 35 ([x_7]:List (Sl Int)) (sj 0 2005 35 36 λx_8 _=>ah)) ah) ah) (λeW2=>ah))) ah) (λeW1=>Sw 5 2005 Df yI N6 (ja.tK (λz=>inferInstanceAs (Fc Sy cL (gV z.1 z.2))) default (λ_=>rfl) (λ_=>rfl) (λ_=>rfl) (λ_=>rfl)) λx_9 _=>SD 5 2005 42 Df yI OJ (ja.tK (λz=>inferInstanceAs (Fc Sy cL (ji z.1 z.2))) default (λ_=>rfl) (λ_=>rfl) (λ_=>rfl) (λ_=>rfl)) λx_10 _=>ah))))
namespace gY
def ax (mb4:a_) (level5:Sl (Sl Int)) (out6:Sl (Sl (Sl Int))) (total7:Int):Option (Fw ((Sl (Sl Int))×(Sl (Sl (Sl Int)))×Int) (Sl (Sl (Sl Int))) Unit):=
 aq (decide ((len level5)>0))
 (aq (decide ((IntKind.wrap .i64 (total7+(len level5)))>5000))
 (some (.r ()))
 ((iT out6 (level5:Sl (Sl Int))).bind λx_4=>
 (c9 mb4 level5).bind λx_5=>
 some (.n (x_5,x_4,IntKind.wrap .i64 (total7+(len level5))))))
 (some (.x out6))
def W1 (level5:Sl (Sl Int)) (out6:Sl (Sl (Sl Int))) (total7:Int) (mb4:a_):Option ((Sl (Sl (Sl Int)))×Int):=
 (aV (λq:(Sl (Sl Int))×(Sl (Sl (Sl Int)))×Int=>ax mb4 q.1 q.2.1 q.2.2) (level5,out6,total7)).bind (Fw.elim
 (λe=>some (e,0))
 (λe=>some ((Sl.nil:Sl (Sl (Sl Int))),16)))
end gY
def gY (t0:Trace):Option ((Sl (Sl (Sl Int)))×Int):=
 (bZ t0).bind λx_1=>
 aq x_1
 ((iG t0).bind λx_2=>
 (oW (len t0.procs) (0:Int)).bind λx_3=>
 gY.W1 (Sl.row [x_3]:Sl (Sl Int)) (Sl.nil:Sl (Sl (Sl Int))) 0 x_2)
 (some ((Sl.nil:Sl (Sl (Sl Int))),1))
open gY in
instance Pw (t0:Trace):Fc Sy cL (gY t0):=Fc.N 118 [enc t0] (cw 2 1 t0 (aO 8 λx_1 _=>cK 3 10 (aO 6 λx_2 _=>lp 1 4 0 x_2 (bf 6 t0.procs (Nh 0 16 λx_3 _=>xD 1 17 ([x_3]:List (Sl Int)) (cN 18 (λqW1=>(aN [Pv 4,Cv 5 qW1.1,Ov 6,Iv 7 qW1.2.2] [Xb 4 x_2,Lb 2006 qW1.2.1])) (λeW1=>(0,(aN [Ov 6] [Lb 2006 eW1]))) (λeW1=>(aN [Ov 2,Iv 3 16] [Lb 2002 (Sl.nil:Sl (Sl (Sl Int)))])) (λqW1=>bf 7 qW1.1 (aH 3 20 (bf 10 qW1.1 (aH 10 29 ah (xD 6 32 ([qW1.1]:List (Sl (Sl Int))) (sj 0 2006 32 33 λx_4 _=>aO 7 λx_5 _=>ah)))) ah)) (λeW1=>ah) (λeW1=>ah))))) ah))
def dV (s:Sl (Sl (Sl Int))):Option (Sl (Sl Int)):=if s.l.length<=2147483648/\(s.l.flatMap Sl.l).length<=2147483648 then some (xX s)else none
instance H9 (s:Sl (Sl (Sl Int))):Fc Sy cL (dV s):=Fc.of (A:=λz:Sl (Sl (Sl Int))=>[enc z]) (E:=λr:Sl (Sl Int)=>[enc r]) (p:=dV) (n:=119) (z:=s) (ja.KN (by kernel_rfl) (by kernel_rfl) (λz r h=>by
 unfold dV at h;split at h
 .rename_i hc;cases h;exact tV (N1 (E:=Sy.E) (N:=λn=>n) (gid:=146) (nm:=some) (λ_ _ h=>(Option.some.inj h).symm) rfl (by kernel_rfl) (by kernel_rfl) (Aj (by kernel_rfl)) (Aj (by kernel_rfl)) rfl z hc.1 hc.2)
 .cases h))
def iL (t0:Trace):Option ((Sl (Sl Int))×Int):=
 (gY t0).bind λx_1=>
 (dV x_1.1).bind λx_2=>
 some (x_2,x_1.2)
instance Sa (t0:Trace):Fc Sy cL (iL t0):=Fc.N 63 [enc t0] (cw 2 1 t0 (aO 7 λx_1 _=>aO 10 λx_2 _=>ah))
def qp (d0 v1:Sl Int):Option Bool:=
 (dD v1 d0).bind λx_1=>
 some x_1
instance NZ (d0 v1:Sl Int):Fc Sy cL (qp d0 v1):=Fc.M 65 [enc d0,.fptr (cells v1)] (aO 9 λx_1 _=>ah)
def uA (t0:Trace) (c1:Sl Int):Option (Int×Int):=
 (qu t0 (Sl.row [c1]:Sl (Sl Int))).bind λx_1=>
 aq (x_1==0)
 ((iL t0).bind λx_2=>
 aq (x_2.2==0)
 ((dy x_2.1 (λz=>qp z c1)).bind λx_3=>
 some (x_3,0))
 (some (0,x_2.2)))
 (some (0,x_1))
instance R_ (t0:Trace) (c1:Sl Int):Fc Sy cL (uA t0 c1):=Fc.M 23 [enc t0,enc c1] (cw 2 2 t0 (cw 0 3 c1 (xD 9 11 ([c1]:List (Sl Int)) (fM 0 λx_1 _=>cK 9 14 (aO 6 λx_2 _=>cK 14 22 (fM (F:=oc 65 [.fptr (cells c1)] (λz=>qp z c1) mj.tK x_2.1) 7 λx_3 _=>ah) ah) ah))))
def cW (c0:Sl Int) (e1:Int) (v2:Trace) (v3:Sl Bool):Option (Bool×Bool):=
 (uA v2 c0).bind λx_1=>
 (aq (e1==0)
 (some (!(x_1.2==0)))
 (some true):Option Bool).bind λx_2=>
 (aq x_2
 (some true)
 (some (decide (x_1.1<0))):Option Bool).bind λx_3=>
 (aq x_3
 (some true)
 (some (decide (x_1.1>=(len v3)))):Option Bool).bind λx_4=>
 aq x_4
 (some (false,false))
 ((idx v3 x_1.1).bind λx_5=>
 some (x_5,true))
instance Dj (c0:Sl Int) (e1:Int) (v2:Trace) (v3:Sl Bool):Fc Sy cL (cW c0 e1 v2 v3):=Fc.M 22 [enc c0,.int .i64 e1,.fptr (cells v2),.fptr (cells v3)] (aO 10 λx_1 _=>bh 13 3 [9,18] 21 (cK 13 18 (aC 3) (aC 3)) λx_2=>bh 1 3 [22] 25 (aH 1 22 (aC 3) (aC 3)) λx_3=>bh 1 5 [26] 31 (aH 1 26 (aC 5) (bf 2 v3 (aC 2))) λx_4=>aH 2 31 ah (bq 7 λx_5 _=>ah))
def wu (t0:Trace):Option (Int×Int):=
 (iL t0).bind λx_1=>
 some (len x_1.1,x_1.2)
instance Qz (t0:Trace):Fc Sy cL (wu t0):=Fc.M 24 [enc t0] (cw 2 1 t0 (aO 7 λx_1 _=>bf 10 x_1.1 ah))
def xy (t0:Trace):Option ((Sl (Sl Int))×Int):=
 (iL t0).bind λx_1=>
 some (x_1.1,x_1.2)
instance R8 (t0:Trace):Fc Sy cL (xy t0):=Fc.N 43 [enc t0] (cw 2 1 t0 (aO 7 λx_1 _=>ah))
def kB (c:Sl Int):Option (br 8 Int):=some (ou 8 c)
instance Rc (c:Sl Int):Fc Sy cL (kB c):=Fc.of (A:=λz:Sl Int=>[enc z]) (E:=λr:br 8 Int=>[enc r]) (p:=kB) (n:=110) (b:=true) (z:=c) (ja.scalar (ja.KN (by kernel_rfl) (by kernel_rfl) (λz r h=>by
 cases h;exact tV (OG (by kernel_rfl) rfl (λ_=>rfl) z))) Is)
namespace gN
def ax (v30:Sl (Sl Int)) (v31:Int) (v32:Int) (vb4 outb8:aL) (vb28:Mo (br 8 Int) Int):Option (Fw (Int×aL×aL×(Mo (br 8 Int) Int)) (aL×aL×(Mo (br 8 Int) Int)) Empty):=
 aq (decide (v32<v31))
 ((idx v30 v32).bind λx_2=>
 (kB x_2).bind λx_3=>
 some (.n (IntKind.wrap .i64 (v32+1),(⟨Sl.nil,Sl.nil,vb4.places⟩:aL),(⟨outb8.truths,outb8.cuts,⟨none⟩⟩:aL),mJ vb28 x_3 v32)))
 (some (.x ((⟨Sl.nil,Sl.nil,vb4.places⟩:aL),(⟨outb8.truths,outb8.cuts,⟨none⟩⟩:aL),vb28)))
def W1 (v30:Sl (Sl Int)) (v31 v32:Int) (vb4 outb8:aL) (vb28:Mo (br 8 Int) Int):Option (aL×Int):=
 (aV (λq:Int×aL×aL×(Mo (br 8 Int) Int)=>ax v30 v31 q.1 q.2.1 q.2.2.1 q.2.2.2) (v32,vb4,outb8,vb28)).bind (Fw.elim
 (λe=>some (⟨e.2.1.truths,e.2.1.cuts,⟨some e.2.2⟩⟩,0))
 (λe=>Empty.elim e))
end gN
def gN (t0:Trace) (l1:Sl Bool):Option (aL×Int):=
 (xy t0).bind λx_1=>
 aq (x_1.2==0)
 (aq ((len l1)==(len x_1.1))
 (gN.W1 x_1.1 (len x_1.1) 0 (⟨Sl.nil,Sl.nil,⟨none⟩⟩:aL) (⟨l1,x_1.1,⟨none⟩⟩:aL) [])
 (some (⟨Sl.nil,Sl.nil,⟨none⟩⟩,3)))
 (some (⟨Sl.nil,Sl.nil,⟨none⟩⟩,x_1.2))
open gN in
instance Se (t0:Trace) (l1:Sl Bool):Fc Sy cL (gN t0 l1):=Fc.N 53 [enc t0,enc l1] (cw 2 2 t0 (aO 7 λx_1 _=>cK 14 17 (bf 7 l1 (bf 1 x_1.1 (cK 3 24 (Sm 8 [cv l1,cv x_1.1,.mp 28] [cv l1,cv x_1.1,.mp 28] [.aG,.aG,.ec] [(0,1),(1,1),(2,1)] (by simp only[AB,Ji,MD,Iu,Kl,GY,kA,E3,BH,DB,E5];rfl) (P0 1 8 0 [cv l1,cv x_1.1,.mp 28] (by simp only[List.all_cons,Jn,DW,Gv,Dx,mC,kL,mw,kM,BN];rfl) (bf 6 x_1.1 (iQ 5 (λqW1=>(aN [Pv 4,Pv 8,Cv 30 x_1.1,Iv 31 (len x_1.1),Iv 32 qW1.1] [Xb 4 (⟨Sl.nil,Sl.nil,qW1.2.1.places⟩:aL),(8,.box [cv qW1.2.2.1.truths,cv qW1.2.2.1.cuts,.mp 28]),(28,rq qW1.2.2.2)])) (λeW1=>(0,(aN [Pv 4,Pv 8] [Xb 4 (⟨Sl.nil,Sl.nil,eW1.1.places⟩:aL),(8,.box [cv eW1.2.1.truths,cv eW1.2.1.cuts,.mp 28]),(28,rq eW1.2.2)]))) (λqW1=>aH 7 33 (bq 8 λx_2 _=>fM 9 λx_3 _=>Qq 1 28 qW1.2.2.2 x_3 qW1.1 ah) ah) (λeW1=>P0 5 4 0 [cv eW1.2.1.truths,cv eW1.2.1.cuts,.mp 28] (by simp only[List.all_cons,Jn,DW,Gv,Dx,mC,kL,mw,kM,BN];rfl) ah))))) (QO 3 (⟨Sl.nil,Sl.nil,⟨none⟩⟩:aL) [] [.aG,.aG,.ec] [] (by simp only[AR,CC,kA,E3,BH,DB,E5];rfl) rfl (lp 0 4 0 (⟨Sl.nil,Sl.nil,⟨none⟩⟩:aL) ah))))) (QO 3 (⟨Sl.nil,Sl.nil,⟨none⟩⟩:aL) [] [.aG,.aG,.ec] [] (by simp only[AR,CC,kA,E3,BH,DB,E5];rfl) rfl (lp 1 4 0 (⟨Sl.nil,Sl.nil,⟨none⟩⟩:aL) ah))))
namespace fc
def ax (v10:Sl Int) (v11:Int) (out5:Sl Int) (v12:Int):Option (Fw ((Sl Int)×Int) (Sl Int) Empty):=
 aq (decide (v12<v11))
 ((idx v10 v12).bind λx_2=>
 (Sl.kn out5 v12).bind λx_3=>
 (Sl.get out5 x_3).bind λx_4=>
 (Sl.kn out5 v12).bind λx_5=>
 (Sl.put out5 x_5 ((if x_2<x_4 then x_2 else x_4):Int)).bind λx_6=>
 some (.n (x_6,IntKind.wrap .i64 (v12+1))))
 (some (.x out5))
def W1 (out5 v10:Sl Int) (v11 v12:Int):Option (Sl Int):=
 (aV (λq:(Sl Int)×Int=>ax v10 v11 q.1 q.2) (out5,v12)).bind (Fw.elim
 (λe=>some e)
 (λe=>Empty.elim e))
end fc
def fc (a0 b1:Sl Int):Option (Sl Int):=
 ((gK a0).bind Sl.whole).bind λx_1=>
 fc.W1 x_1 b1 (len b1) 0
open fc in
instance Pj (a0 b1:Sl Int):Fc Sy cL (fc a0 b1):=Fc.N 112 [enc a0,enc b1] (Hq 8 9 jr a0 λx_1 _=>bf 7 b1 (iQ 6 (λqW1=>(aN [Ov 5,Cv 10 b1,Iv 11 (len b1),Iv 12 qW1.2] [Lb 2005 qW1.1])) (λeW1=>(0,(aN [Ov 5] [Lb 2005 eW1]))) (λqW1=>aH 8 13 (bq 8 λx_2 _=>kZ .i64 10 2005 λx_3 _=>sq 0 2005 0 1 false (λx_4=>.int .i64 x_4) λx_4 _=>kZ .i64 2 2005 λx_5 _=>xO 0 2005 (.int .i64 (if x_2<x_4 then x_2 else x_4)) λx_6 _=>ah) ah) (λeW1=>ah)))
def jf (x0:aL) (c1:Sl Int):Option Bool:=
 (kB c1).bind λx_1=>
 (idx x0.truths (mM (lG x0.places) x_1 0)).bind λx_2=>
 some x_2
instance HE (x0:aL) (c1:Sl Int):Fc Sy cL (jf x0 c1):=Fc.M 111 [enc x0,enc c1] (cw 2 2 x0 (fM 10 λx_1 _=>Rp 0 x0.places x_1 0 (bq 0 λx_2 _=>ah)))
def je (x0:aL) (a1 b2:Sl Int):Option Bool:=
 (fc a1 b2).bind λx_1=>
 (jf x0 x_1).bind λx_2=>
 some x_2
instance Iy (x0:aL) (a1 b2:Sl Int):Fc Sy cL (je x0 a1 b2):=Fc.M 55 [enc x0,enc a1,enc b2] (cw 2 3 x0 (aO 8 λx_1 _=>fM 0 λx_2 _=>ah))
namespace fh
def ax (v10:Sl Int) (v11:Int) (out5:Sl Int) (v12:Int):Option (Fw ((Sl Int)×Int) (Sl Int) Empty):=
 aq (decide (v12<v11))
 ((idx v10 v12).bind λx_2=>
 (Sl.kn out5 v12).bind λx_3=>
 (Sl.get out5 x_3).bind λx_4=>
 (Sl.kn out5 v12).bind λx_5=>
 (Sl.put out5 x_5 ((if x_2>x_4 then x_2 else x_4):Int)).bind λx_6=>
 some (.n (x_6,IntKind.wrap .i64 (v12+1))))
 (some (.x out5))
def W1 (out5 v10:Sl Int) (v11 v12:Int):Option (Sl Int):=
 (aV (λq:(Sl Int)×Int=>ax v10 v11 q.1 q.2) (out5,v12)).bind (Fw.elim
 (λe=>some e)
 (λe=>Empty.elim e))
end fh
def fh (a0 b1:Sl Int):Option (Sl Int):=
 ((gK a0).bind Sl.whole).bind λx_1=>
 fh.W1 x_1 b1 (len b1) 0
open fh in
instance Pu (a0 b1:Sl Int):Fc Sy cL (fh a0 b1):=Fc.N 113 [enc a0,enc b1] (Hq 8 9 jr a0 λx_1 _=>bf 7 b1 (iQ 6 (λqW1=>(aN [Ov 5,Cv 10 b1,Iv 11 (len b1),Iv 12 qW1.2] [Lb 2005 qW1.1])) (λeW1=>(0,(aN [Ov 5] [Lb 2005 eW1]))) (λqW1=>aH 8 13 (bq 8 λx_2 _=>kZ .i64 10 2005 λx_3 _=>sq 0 2005 0 1 false (λx_4=>.int .i64 x_4) λx_4 _=>kZ .i64 2 2005 λx_5 _=>xO 0 2005 (.int .i64 (if x_2>x_4 then x_2 else x_4)) λx_6 _=>ah) ah) (λeW1=>ah)))
def i_ (x0:aL) (a1 b2:Sl Int):Option Bool:=
 (fh a1 b2).bind λx_1=>
 (jf x0 x_1).bind λx_2=>
 some x_2
instance HR (x0:aL) (a1 b2:Sl Int):Fc Sy cL (i_ x0 a1 b2):=Fc.M 56 [enc x0,enc a1,enc b2] (cw 2 3 x0 (aO 8 λx_1 _=>fM 0 λx_2 _=>ah))
def iF (x0:aL) (a1 b2:Sl Int):Option Bool:=
 (je x0 a1 b2).bind λx_1=>
 (aq x_1
 ((i_ x0 a1 b2).bind λx_2=>
 some x_2)
 (some false):Option Bool).bind λx_3=>
 some x_3
instance IA (x0:aL) (a1 b2:Sl Int):Fc Sy cL (iF x0 a1 b2):=Fc.M 57 [enc x0,enc a1,enc b2] (cw 2 3 x0 (aO 8 λx_1 _=>bh 1 5 [1,2,3,11] 16 (aH 1 11 (aO 3 λx_2 _=>aC 1) (aC 5)) λx_3=>ah))
namespace cu
def bt (i7:Int) (a8:Sl Int) (v12:Sl (Sl Int)) (v13 v14:Int) (v29:Sl (Sl Int)) (v30:Int) (xb2:aL) (v31:Int) (p1:((Sl Int)×(Sl Int))->Option Bool):Option (Fw Int Unit (Sl Int)):=
 aq (decide (v31<v30))
 ((idx v29 v31).bind λx_4=>
 (idx xb2.truths (IntKind.wrap .i64 ((IntKind.wrap .i64 (i7+1))+v31))).bind λx_5=>
 (aq x_5
 ((p1 (a8,x_4)).bind λx_6=>
 some (!x_6))
 (some false):Option Bool).bind λx_7=>
 aq x_7
 (some (.r x_4))
 (some (.n (IntKind.wrap .i64 (v31+1)))))
 (some (.x ()))
def W2 (i7:Int) (a8:Sl Int) (v12:Sl (Sl Int)) (v13 v14:Int) (v29:Sl (Sl Int)) (v30 v31:Int) (xb2:aL) (p1:((Sl Int)×(Sl Int))->Option Bool):Option (Fw Int Unit ((Sl Int)×(Sl Int))):=
 (aV (λq:Int=>bt i7 a8 v12 v13 v14 v29 v30 xb2 q p1) v31).bind (Fw.elim
 (λe=>some (.n (IntKind.wrap .i64 (v14+1))))
 (λe=>some (.r (a8,e))))
def ax (v12:Sl (Sl Int)) (v13:Int) (xb2:aL) (v14:Int) (p1:((Sl Int)×(Sl Int))->Option Bool):Option (Fw Int Unit ((Sl Int)×(Sl Int))):=
 aq (decide (v14<v13))
 ((idx v12 v14).bind λx_1=>
 (idx xb2.truths v14).bind λx_2=>
 aq x_2
 ((ez xb2.cuts (some (IntKind.wrap .i64 (v14+1))) none).bind λx_3=>
 W2 v14 x_1 v12 v13 v14 x_3 (len x_3) 0 xb2 p1)
 (some (.n (IntKind.wrap .i64 (v14+1)))))
 (some (.x ()))
def W1 (v12:Sl (Sl Int)) (v13 v14:Int) (xb2:aL) (p1:((Sl Int)×(Sl Int))->Option Bool):Option (Bool×(Sl Int)×(Sl Int)):=
 (aV (λq:Int=>ax v12 v13 xb2 q p1) v14).bind (Fw.elim
 (λe=>some (true,Sl.nil,Sl.nil))
 (λe=>some (false,e.1,e.2)))
end cu
def cu (x0:aL) (p1:((Sl Int)×(Sl Int))->Option Bool):Option (Bool×(Sl Int)×(Sl Int)):=
 cu.W1 x0.cuts (len x0.cuts) 0 x0 p1
open cu in
abbrev vY (g1:FuncId) (w1:V) (e1:List V) (p1:((Sl Int)×(Sl Int))->Option Bool) (h1:mj Sy cL g1 [w1] e1 (λz:(Sl Int)×(Sl Int)=>[enc z.1,enc z.2]) (λr:Bool=>[.bool r]) p1 true) (x0:aL):Fc Sy cL (cu x0 p1):=Fc.N 54 [enc x0,.clo g1 [w1] e1] (cw 2 2 x0 (bf 10 x0.cuts (cN 5 (λqW1=>(aN [(1,.v (.clo g1 [w1] e1)),Pv 2,Cv 12 x0.cuts,Iv 13 (len x0.cuts),Iv 14 qW1] [Xb 2 x0])) (λeW1=>(0,(aN [] []))) (λeW1=>(aN [Bv 4 false,Cv 5 eW1.1,Cv 6 eW1.2] [])) (λqW1=>aH 7 15 (bq 8 λx_1 _=>bq 11 λx_2 _=>cK 4 24 (z8 9 true false [.int .i64 (IntKind.wrap .i64 (qW1+1))] λx_3 _=>bf 0 x_3 (cN 5 (λqW2=>(aN [(1,.v (.clo g1 [w1] e1)),Pv 2,Iv 7 qW1,Cv 8 x_1,Cv 12 x0.cuts,Iv 13 (len x0.cuts),Iv 14 qW1,Cv 29 x_3,Iv 30 (len x_3),Iv 31 qW2] [Xb 2 x0])) (λeW2=>(2,(aN [(1,.v (.clo g1 [w1] e1)),Pv 2,Cv 12 x0.cuts,Iv 13 (len x0.cuts),Iv 14 qW1] [Xb 2 x0]))) (λeW2=>(aN [Bv 4 false,Cv 5 x_1,Cv 6 eW2] [])) (λqW2=>aH 7 32 (bq 8 λx_4 _=>bq 13 λx_5 _=>bh 2 6 [44] 50 (aH 2 44 (uy 3 h1.f (x_1,x_4) λx_6 _=>aC 2) (aC 6)) λx_7=>aH 2 50 ah ah) ah) (λeW2=>ah) (λeW2=>ah))) ah) ah) (λeW1=>ah) (λeW1=>ah)))) (l:=by simp[h1.d,(by simpa using h1.dw:V.lvl 7 w1=true)])
def nS (t0:Trace) (l1:Sl Bool):Option (Bool×(Sl Int)×(Sl Int)×Int):=
 (gN t0 l1).bind λx_1=>
 aq (x_1.2==0)
 ((cu x_1.1 (λz=>iF x_1.1 z.1 z.2)).bind λx_2=>
 some (x_2.1,x_2.2.1,x_2.2.2,0))
 (some (false,Sl.nil,Sl.nil,x_1.2))
instance MC (t0:Trace) (l1:Sl Bool):Fc Sy cL (nS t0 l1):=Fc.N 14 [enc t0,enc l1] (cw 2 2 t0 (aO 10 λx_1 _=>lp 4 8 0 x_1.1 (cK 10 16 (aO (F:=vY 57 (enc x_1.1) [] (λz=>iF x_1.1 z.1 z.2) mj.tK x_1.1) 8 λx_2 _=>ah) ah)))
namespace fq
def ax (a1 b2:Sl Int) (v25:Int) (out11:Sl Int) (v26:Int) (p3:(Int×Int)->Option Int):Option (Fw ((Sl Int)×Int) (Sl Int) Empty):=
 aq (decide (v26<v25))
 ((idx a1 v26).bind λx_3=>
 (idx b2 v26).bind λx_4=>
 (p3 (x_3,x_4)).bind λx_5=>
 (Sl.kn out11 v26).bind λx_6=>
 (Sl.put out11 x_6 (x_5:Int)).bind λx_7=>
 some (.n (x_7,IntKind.wrap .i64 (v26+1))))
 (some (.x out11))
def W1 (a1 b2 out11:Sl Int) (v25 v26:Int) (p3:(Int×Int)->Option Int):Option ((Sl Int)×Int):=
 (aV (λq:(Sl Int)×Int=>ax a1 b2 v25 q.1 q.2 p3) (out11,v26)).bind (Fw.elim
 (λe=>some (e,0))
 (λe=>Empty.elim e))
end fq
def fq (t0:Trace) (a1 b2:Sl Int) (p3:(Int×Int)->Option Int):Option ((Sl Int)×Int):=
 (b7 t0 (Sl.row [a1,b2]:Sl (Sl Int)) (Sl.nil:Sl Int)).bind λx_1=>
 aq (x_1==0)
 ((oW (len a1) (0:Int)).bind λx_2=>
 fq.W1 a1 b2 x_2 (len a1) 0 p3)
 (some (Sl.nil,x_1))
open fq in
abbrev wH (g3:FuncId) (e3:List V) (p3:(Int×Int)->Option Int) (h3:mj Sy cL g3 [] e3 (λz:Int×Int=>[.int .i64 z.1,.int .i64 z.2]) (λr:Int=>[.int .i64 r]) p3 true) (t0:Trace) (a1 b2:Sl Int):Fc Sy cL (fq t0 a1 b2 p3):=Fc.N 66 [enc t0,enc a1,enc b2,.clo g3 [] e3] (cw 2 4 t0 (xD 10 16 ([a1,b2]:List (Sl Int)) (fM 0 λx_1 _=>cK 9 19 (bf 6 a1 (Nh 0 23 λx_2 _=>bf 7 a1 (iQ 6 (λqW1=>(aN [Cv 1 a1,Cv 2 b2,(3,.v (.clo g3 [] e3)),Ov 11,Iv 25 (len a1),Iv 26 qW1.2] [Lb 2011 qW1.1])) (λeW1=>(0,(aN [Ov 11] [Lb 2011 eW1]))) (λqW1=>aH 8 27 (bq 17 λx_3 _=>bq 3 λx_4 _=>uy 1 h3.f (x_3,x_4) λx_5 _=>kZ .i64 0 2011 λx_6 _=>xO 0 2011 (.int .i64 x_5) λx_7 _=>ah) ah) (λeW1=>ah)))) ah))) (l:=by simp[h3.d])
def rH (x0 y1:Int):Option Int:=
 some (if y1<x0 then y1 else x0)
instance Pg (x0 y1:Int):Fc Sy cL (rH x0 y1):=Fc.M 67 [.int .i64 x0,.int .i64 y1] (ah)
def wo (t0:Trace) (a1 b2:Sl Int):Option ((Sl Int)×Int):=
 (fq t0 a1 b2 (λz=>rH z.1 z.2)).bind λx_1=>
 some (x_1.1,x_1.2)
instance SQ (t0:Trace) (a1 b2:Sl Int):Fc Sy cL (wo t0 a1 b2):=Fc.N 25 [enc t0,enc a1,enc b2] (cw 2 3 t0 (aO (F:=wH 67 [] (λz=>rH z.1 z.2) mj.tK t0 a1 b2) 9 λx_1 _=>ah))
def rB (x0 y1:Int):Option Int:=
 some (if y1>x0 then y1 else x0)
instance Py (x0 y1:Int):Fc Sy cL (rB x0 y1):=Fc.M 68 [.int .i64 x0,.int .i64 y1] (ah)
def vV (t0:Trace) (a1 b2:Sl Int):Option ((Sl Int)×Int):=
 (fq t0 a1 b2 (λz=>rB z.1 z.2)).bind λx_1=>
 some (x_1.1,x_1.2)
instance SC (t0:Trace) (a1 b2:Sl Int):Fc Sy cL (vV t0 a1 b2):=Fc.N 26 [enc t0,enc a1,enc b2] (cw 2 3 t0 (aO (F:=wH 68 [] (λz=>rB z.1 z.2) mj.tK t0 a1 b2) 9 λx_1 _=>ah))
namespace cg
def bt (a8:Sl Int) (v15:Sl (Sl Int)) (v16 v17 v29:Int) (xb2:aL) (tb3:Trace) (least9 v30:Int):Option (Fw (Int×Int) Int Empty):=
 aq (decide (v30<v29))
 ((idx a8 v30).bind λx_3=>
 (idx tb3.procs v30).bind λx_4=>
 aq (x_3==(len x_4.events))
 (some (.n (least9,IntKind.wrap .i64 (v30+1))))
 (((gK a8).bind Sl.whole).bind λx_5=>
 (Sl.kn x_5 v30).bind λx_6=>
 (Sl.get x_5 x_6).bind λx_7=>
 (Sl.kn x_5 v30).bind λx_8=>
 (Sl.put x_5 x_8 (IntKind.wrap .i64 (x_7+1):Int)).bind λx_9=>
 (kB x_9).bind λx_10=>
 (aq (zY (lG xb2.places) x_10)
 ((idx xb2.truths (mM (lG xb2.places) x_10 0)).bind λx_11=>
 some (!x_11))
 (some false):Option Bool).bind λx_12=>
 (aq x_12
 ((aq (decide (least9<0))
 (some true)
 (some (decide ((mM (lG xb2.places) x_10 0)<least9))):Option Bool).bind λx_13=>
 some x_13)
 (some false):Option Bool).bind λx_14=>
 aq x_14
 (some (.n (mM (lG xb2.places) x_10 0,IntKind.wrap .i64 (v30+1))))
 (some (.n (least9,IntKind.wrap .i64 (v30+1))))))
 (some (.x least9))
def W2 (a8:Sl Int) (least9:Int) (v15:Sl (Sl Int)) (v16 v17 v29 v30:Int) (xb2:aL) (tb3:Trace):Option (Fw Int Unit ((Sl Int)×(Sl Int))):=
 (aV (λq:Int×Int=>bt a8 v15 v16 v17 v29 xb2 tb3 q.1 q.2) (least9,v30)).bind (Fw.elim
 (λe=>aq (decide (e>=0))
 ((idx xb2.cuts e).bind λx_15=>
 some (.r (a8,x_15)))
 (some (.n (IntKind.wrap .i64 (v17+1)))))
 (λe=>Empty.elim e))
def ax (v15:Sl (Sl Int)) (v16:Int) (xb2:aL) (tb3:Trace) (v17:Int):Option (Fw Int Unit ((Sl Int)×(Sl Int))):=
 aq (decide (v17<v16))
 ((idx v15 v17).bind λx_1=>
 (idx xb2.truths v17).bind λx_2=>
 aq x_2
 (W2 x_1 (-1) v15 v16 v17 (len x_1) 0 xb2 tb3)
 (some (.n (IntKind.wrap .i64 (v17+1)))))
 (some (.x ()))
def W1 (v15:Sl (Sl Int)) (v16 v17:Int) (xb2:aL) (tb3:Trace):Option (Bool×(Sl Int)×(Sl Int)):=
 (aV (λq:Int=>ax v15 v16 xb2 tb3 q) v17).bind (Fw.elim
 (λe=>some (true,Sl.nil,Sl.nil))
 (λe=>some (false,e.1,e.2)))
end cg
def cg (x0:aL) (t1:Trace):Option (Bool×(Sl Int)×(Sl Int)):=
 cg.W1 x0.cuts (len x0.cuts) 0 x0 t1
open cg in
instance FQ (x0:aL) (t1:Trace):Fc Sy cL (cg x0 t1):=Fc.N 58 [enc x0,enc t1] (cw 2 2 x0 (cw 0 3 t1 (bf 10 x0.cuts (cN 5 (λqW1=>(aN [Pv 2,Pv 3,Cv 15 x0.cuts,Iv 16 (len x0.cuts),Iv 17 qW1] [Xb 2 x0,Xb 3 t1])) (λeW1=>(0,(aN [] []))) (λeW1=>(aN [Bv 4 false,Cv 5 eW1.1,Cv 6 eW1.2] [])) (λqW1=>aH 7 18 (bq 8 λx_1 _=>bq 11 λx_2 _=>cK 4 27 (bf 12 x_1 (iQ 5 (λqW2=>(aN [Pv 2,Pv 3,Cv 8 x_1,Iv 9 qW2.1,Cv 15 x0.cuts,Iv 16 (len x0.cuts),Iv 17 qW1,Iv 29 (len x_1),Iv 30 qW2.2] [Xb 2 x0,Xb 3 t1])) (λeW2=>(2,(aN [Pv 2,Pv 3,Cv 8 x_1,Iv 9 eW2,Cv 15 x0.cuts,Iv 16 (len x0.cuts),Iv 17 qW1] [Xb 2 x0,Xb 3 t1]))) (λqW2=>aH 7 31 (bq 16 λx_3 _=>bq 4 λx_4 _=>bf 2 x_4.events (aH 3 44 ah (Hq 6 46 jr x_1 λx_5 _=>kZ .i64 7 46 λx_6 _=>sq 0 46 0 1 false (λx_7=>.int .i64 x_7) λx_7 _=>kZ .i64 1 46 λx_8 _=>xO 0 46 (.int .i64 (IntKind.wrap .i64 (x_7+1))) λx_9 _=>fM 7 λx_10 _=>NS 0 x0.places x_10 0 (bh 11 7 [62] 69 (aH 11 62 (bq 3 λx_11 _=>aC 3) (aC 7)) λx_12=>bh 1 8 [70] 78 (aH 1 70 (bh 3 4 [73] 77 (aH 3 73 (aC 4) (aC 4)) λx_13=>aC 1) (aC 8)) λx_14=>aH 2 78 ah ah)))) ah) (λeW2=>aH 8 82 (bq 7 λx_15 _=>ah) ah))) ah) ah) (λeW1=>ah) (λeW1=>ah)))))
def oO (t0:Trace) (l1:Sl Bool):Option (Bool×(Sl Int)×(Sl Int)×Int):=
 (gN t0 l1).bind λx_1=>
 aq (x_1.2==0)
 ((cg x_1.1 t0).bind λx_2=>
 some (x_2.1,x_2.2.1,x_2.2.2,0))
 (some (false,Sl.nil,Sl.nil,x_1.2))
instance M0 (t0:Trace) (l1:Sl Bool):Fc Sy cL (oO t0 l1):=Fc.N 15 [enc t0,enc l1] (cw 2 2 t0 (aO 10 λx_1 _=>lp 4 8 0 x_1.1 (cK 10 16 (aO 7 λx_2 _=>ah) ah)))
namespace qM
def ax (a0 b1:Sl Int) (v12:Int) (v13:Int):Option (Fw Int Unit Unit):=
 aq (decide (v13<v12))
 ((idx a0 v13).bind λx_1=>
 (idx b1 v13).bind λx_2=>
 aq (decide (x_1>x_2))
 (some (.r ()))
 (some (.n (IntKind.wrap .i64 (v13+1)))))
 (some (.x ()))
def W1 (a0 b1:Sl Int) (v12 v13:Int):Option Bool:=
 (aV (λq:Int=>ax a0 b1 v12 q) v13).bind (Fw.elim
 (λe=>some true)
 (λe=>some false))
end qM
def qM (a0 b1:Sl Int):Option Bool:=
 aq ((len a0)==(len b1))
 (qM.W1 a0 b1 (len a0) 0)
 (some false)
open qM in
instance Tw (a0 b1:Sl Int):Fc Sy cL (qM a0 b1):=Fc.M 27 [enc a0,enc b1] (bf 9 a0 (bf 1 b1 (cK 3 10 (bf 7 a0 (cN 5 (λqW1=>(aN [Cv 0 a0,Cv 1 b1,Iv 12 (len a0),Iv 13 qW1] [])) (λeW1=>(0,(aN [] []))) (λeW1=>(aN [Bv 4 false] [])) (λqW1=>aH 7 14 (bq 15 λx_1 _=>bq 3 λx_2 _=>aH 4 24 ah ah) ah) (λeW1=>ah) (λeW1=>ah))) ah)))
namespace cO
def J1 (tb2:Trace) (lb3:Sl Bool):Option Bool:=
 (oO tb2 lb3).bind λx_24=>
 aq (x_24.2.2.2==0)
 (aq x_24.1
 ((aq ((len x_24.2.1)==0)
 (some ((len x_24.2.2.1)==0))
 (some false):Option Bool).bind λx_25=>
 some x_25)
 ((cW x_24.2.1 0 tb2 lb3).bind λx_26=>
 (cW x_24.2.2.1 0 tb2 lb3).bind λx_27=>
 (aq x_26.2
 (some x_27.2)
 (some false):Option Bool).bind λx_28=>
 (aq x_28
 (some x_26.1)
 (some false):Option Bool).bind λx_29=>
 (aq x_29
 (some (!x_27.1))
 (some false):Option Bool).bind λx_30=>
 (aq x_30
 ((qM x_24.2.1 x_24.2.2.1).bind λx_31=>
 some x_31)
 (some false):Option Bool).bind λx_32=>
 (aq x_32
 ((dP x_24.2.2.1).bind λx_33=>
 (dP x_24.2.1).bind λx_34=>
 some (x_33==(IntKind.wrap .i64 (x_34+1))))
 (some false):Option Bool).bind λx_35=>
 some x_35))
 (some false)
theorem pX (tb2:Trace) (lb3:Sl Bool):Le ((J1 tb2 lb3).bind (λr=>some [.bool r])) (bz Sy cL (ot (tr Tx 5)) (rm (tb Tx 5) [1,1,1,1,1,1,1,1,1,0] [] (aN [Pv 2,Pv 3,(5,.clo 22 [] [.ptr 2 0,.ptr 3 0])] [Xb 2 tb2,(3,.box [cv lb3])]))):=
 aO 4 λx_24 _=>cK 18 141 (aH 9 142 (bf 4 x_24.2.1 (bh 2 4 [10,146] 150 (aH 2 146 (bf 1 x_24.2.2.1 (aC 2)) (aC 4)) λx_25=>ah)) (fM 7 λx_26 _=>fM 11 λx_27 _=>bh 11 2 [23,164] 166 (aH 11 164 (aC 2) (aC 2)) λx_28=>bh 1 2 [20,167] 169 (aH 1 167 (aC 2) (aC 2)) λx_29=>bh 1 3 [22,170] 173 (aH 1 170 (aC 3) (aC 3)) λx_30=>bh 1 4 [174] 178 (aH 1 174 (aO 2 λx_31 _=>aC 1) (aC 4)) λx_32=>bh 1 7 [9,10,179] 186 (aH 1 179 (aO 1 λx_33 _=>aO 1 λx_34 _=>aC 3) (aC 7)) λx_35=>ah)) ah
end cO
def cO (t0:Trace) (l1:Sl Bool):Option Bool:=
 (tF).bind λx_1=>
 aq x_1
 ((h_ t0).bind λx_2=>
 (aq x_2
 (some (decide ((len l1)>6000)))
 (some true):Option Bool).bind λx_3=>
 (aq x_3
 (some true)
 ((qj t0).bind λx_4=>
 some (!x_4)):Option Bool).bind λx_5=>
 (aq x_5
 (some true)
 ((rE t0).bind λx_6=>
 some (!x_6)):Option Bool).bind λx_7=>
 aq x_7
 (some true)
 ((wu t0).bind λx_8=>
 (aq (x_8.2==0)
 (some (!(x_8.1==(len l1))))
 (some true):Option Bool).bind λx_9=>
 aq x_9
 (some true)
 ((nS t0 l1).bind λx_10=>
 aq (x_10.2.2.2==0)
 (aq x_10.1
 (cO.J1 t0 l1)
 ((cW x_10.2.1 0 t0 l1).bind λx_11=>
 (cW x_10.2.2.1 0 t0 l1).bind λx_12=>
 (wo t0 x_10.2.1 x_10.2.2.1).bind λx_13=>
 (cW x_13.1 x_13.2 t0 l1).bind λx_14=>
 (vV t0 x_10.2.1 x_10.2.2.1).bind λx_15=>
 (cW x_15.1 x_15.2 t0 l1).bind λx_16=>
 (aq x_11.2
 (some (!x_12.2))
 (some true):Option Bool).bind λx_17=>
 (aq x_17
 (some true)
 (some (!x_14.2)):Option Bool).bind λx_18=>
 (aq x_18
 (some true)
 (some (!x_16.2)):Option Bool).bind λx_19=>
 (aq x_19
 (some true)
 (some (!x_11.1)):Option Bool).bind λx_20=>
 (aq x_20
 (some true)
 (some (!x_12.1)):Option Bool).bind λx_21=>
 (aq x_21
 (some true)
 ((aq x_14.1
 (some x_16.1)
 (some false):Option Bool).bind λx_22=>
 some x_22):Option Bool).bind λx_23=>
 aq x_23
 (some false)
 (cO.J1 t0 l1)))
 (some false))))
 (some false)
open cO in
instance uJ (t0:Trace) (l1:Sl Bool):Fc Sy cL (cO t0 l1):=Fc.M 5 [enc t0,enc l1] (cw 2 2 t0 (cw 0 3 l1 (aO 6 λx_1 _=>cK 3 25 (aO 7 λx_2 _=>bh 2 4 [29] 33 (cK 2 29 (bf 1 l1 (aC 2)) (aC 4)) λx_3=>bh 1 4 [34] 38 (aH 1 34 (aC 4) (aO 1 λx_4 _=>aC 2)) λx_5=>bh 1 4 [39] 43 (aH 1 39 (aC 4) (aO 1 λx_6 _=>aC 2)) λx_7=>aH 2 43 ah (aO 12 λx_8 _=>bh 13 5 [6,52] 57 (cK 13 52 (bf 2 l1 (aC 2)) (aC 5)) λx_9=>aH 2 57 ah (aO 7 λx_10 _=>cK 18 67 (cK 10 69 (xd 4 (pX t0 l1)) (fM 5 λx_11 _=>fM 11 λx_12 _=>aO 13 λx_13 _=>fM 2 λx_14 _=>aO 13 λx_15 _=>fM 2 λx_16 _=>bh 12 3 [15,106] 109 (cK 12 106 (aC 3) (aC 3)) λx_17=>bh 1 3 [17,110] 113 (aH 1 110 (aC 3) (aC 3)) λx_18=>bh 1 3 [19,114] 117 (aH 1 114 (aC 3) (aC 3)) λx_19=>bh 1 3 [12,118] 121 (aH 1 118 (aC 3) (aC 3)) λx_20=>bh 1 3 [14,122] 125 (aH 1 122 (aC 3) (aC 3)) λx_21=>bh 1 5 [16,18,126] 131 (aH 1 126 (aC 5) (bh 2 2 [18,128] 130 (aH 2 128 (aC 2) (aC 2)) λx_22=>aC 1)) λx_23=>aH 2 131 ah (xd 4 (pX t0 l1)))) ah))) ah)))
end
end Go.VE
