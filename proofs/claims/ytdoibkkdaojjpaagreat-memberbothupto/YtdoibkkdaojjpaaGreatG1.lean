/-
 Each function of the program that the law reaches: its plain form, and that it comes to that.
-/
import Derived.Test.YtdoibkkdaojjpaaGreatK1
import Derived.Test.YtdoibkkdaojjpaaGreatT1
set_option linter.all false
namespace Go.VE
structure Var where
 name:ByteArray
 init_:Int
 deriving Inhabited
instance:aA Var where
 cells x:=[.str x.name,.int .i64 x.init_]
 agg:=true
 size:=2
 len _:=rfl
 good x:=by simp only[V.bF,V.good,iC,Bool.and_self]
 one x:=by simp only[List.all_cons,List.all_nil,nv,lJ,nr,lH,Bool.and_self]
 plain h:=by cases h
instance {n:Nat}:Lv (n+0) Var:=⟨λx=>by
 show V.bU (n+0) [.str x.name,.int .i64 x.init_]=true;simp only[fT,ig,oA,mL,oK,nW,Bool.and_self]⟩
structure Assign where
 var:Int
 value:Int
 deriving Inhabited
instance:aA Assign where
 cells x:=[.int .i64 x.var,.int .i64 x.value]
 agg:=true
 size:=2
 len _:=rfl
 good x:=by simp only[V.bF,V.good,iC,Bool.and_self]
 one x:=by simp only[List.all_cons,List.all_nil,nv,lJ,nr,lH,Bool.and_self]
 plain h:=by cases h
instance {n:Nat}:Lv (n+0) Assign:=⟨λx=>by
 show V.bU (n+0) [.int .i64 x.var,.int .i64 x.value]=true;simp only[fT,ig,oA,mL,oK,nW,Bool.and_self]⟩
structure Event where
 kind:Int
 peer:Int
 message:Int
 time:Int
 assign:Sl Assign
 deriving Inhabited
instance:aA Event where
 cells x:=[.int .i64 x.kind,.int .i64 x.peer,.int .i64 x.message,.int .i64 x.time,enc x.assign]
 agg:=true
 size:=5
 len _:=rfl
 good x:=by simp only[V.bF,V.good,iC,Bool.and_self]
 one x:=by simp only[List.all_cons,List.all_nil,nv,lJ,nr,lH,Bool.and_self]
 plain h:=by cases h
instance {n:Nat}:Lv (n+1) Event:=⟨λx=>by
 show V.bU (n+1) [.int .i64 x.kind,.int .i64 x.peer,.int .i64 x.message,.int .i64 x.time,enc x.assign]=true;simp only[fT,ig,oA,mL,oK,nW,Bool.and_self]⟩
structure bt where
 name:ByteArray
 vars:Sl Var
 events:Sl Event
 deriving Inhabited
instance:aA bt where
 cells x:=[.str x.name,enc x.vars,enc x.events]
 agg:=true
 size:=3
 len _:=rfl
 good x:=by simp only[V.bF,V.good,iC,Bool.and_self]
 one x:=by simp only[List.all_cons,List.all_nil,nv,lJ,nr,lH,Bool.and_self]
 plain h:=by cases h
instance {n:Nat}:Lv (n+2) bt:=⟨λx=>by
 show V.bU (n+2) [.str x.name,enc x.vars,enc x.events]=true;simp only[fT,ig,oA,mL,oK,nW,Bool.and_self]⟩
structure Trace where
 procs:Sl bt
 deriving Inhabited
instance:aA Trace where
 cells x:=[enc x.procs]
 agg:=true
 size:=1
 len _:=rfl
 good x:=by simp only[V.bF,V.good,iC,Bool.and_self]
 one x:=by simp only[List.all_cons,List.all_nil,nv,lJ,nr,lH,Bool.and_self]
 plain h:=by cases h
instance {n:Nat}:Lv (n+3) Trace:=⟨λx=>by
 show V.bU (n+3) [enc x.procs]=true;simp only[fT,ig,oA,mL,oK,nW,Bool.and_self]⟩
structure aH where
 from_:aa
 to_:aa
 deriving Inhabited
instance:aA aH where
 cells x:=[.int .i64 x.from_.proc,.int .i64 x.from_.index,.int .i64 x.to_.proc,.int .i64 x.to_.index]
 agg:=true
 size:=4
 len _:=rfl
 good x:=by simp only[V.bF,V.good,iC,Bool.and_self]
 one x:=by simp only[List.all_cons,List.all_nil,nv,lJ,nr,lH,Bool.and_self]
 plain h:=by cases h
instance {n:Nat}:Lv (n+0) aH:=⟨λx=>by
 show V.bU (n+0) [.int .i64 x.from_.proc,.int .i64 x.from_.index,.int .i64 x.to_.proc,.int .i64 x.to_.index]=true;simp only[fT,ig,oA,mL,oK,nW,Bool.and_self]⟩
structure a_ where
 lengths:Sl Int
 need:Sl (Sl aa)
 deriving Inhabited
instance:aA a_ where
 cells x:=[enc x.lengths,enc x.need]
 agg:=true
 size:=2
 len _:=rfl
 good x:=by simp only[V.bF,V.good,iC,Bool.and_self]
 one x:=by simp only[List.all_cons,List.all_nil,nv,lJ,nr,lH,Bool.and_self]
 plain h:=by cases h
instance {n:Nat}:Lv (n+2) a_:=⟨λx=>by
 show V.bU (n+2) [enc x.lengths,enc x.need]=true;simp only[fT,ig,oA,mL,oK,nW,Bool.and_self]⟩
structure aM where
 truths:Sl Bool
 cuts:Sl (Sl Int)
 places:xE (aC 8 Int) Int
 deriving Inhabited
instance:aA aM where
 cells x:=[enc x.truths,enc x.cuts,enc x.places]
 agg:=true
 size:=3
 len _:=rfl
 good x:=by simp only[V.bF,V.good,iC,Bool.and_self]
 one x:=by simp only[List.all_cons,List.all_nil,nv,lJ,nr,lH,BS,Bool.and_self]
 plain h:=by cases h
instance {n:Nat}:Lv (n+2) aM:=⟨λx=>by
 show V.bU (n+2) [enc x.truths,enc x.cuts,enc x.places]=true;simp only[fT,ig,oA,mL,oK,nW,N9,Bool.and_self]⟩
def gm (p:Int):Int->List Event->List (aa×Event)
 | _,[]=>[]
 | j,e::r=>(⟨p,j+1⟩,e)::gm p (j+1) r
def dS:Int->List bt->List (aa×Event)
 | _,[]=>[]
 | i,p::r=>gm i 0 p.events.l++dS (i+1) r
def Dt (n:Nat):Bool:=decide (n<9223372036854775807)
def gF (t:Trace):Option (List (aa×Event)):=
 if Dt t.procs.l.length&&t.procs.l.all λp=>Dt p.events.l.length then some (dS 0 t.procs.l)else none
end Go.VE
namespace Go.VE
def Uw:List (Nat×GD):=[
 (102,⟨0x22226260002000201,[],[(6,[.keep [0,1,7,8] []],[.keep [0,1,7,8] []]),(12,[.keep [] []],[]),(22,[.keep [4] []],[]),(27,[.keep [4] []],[])]⟩),
 (49,⟨0x226221,[],[]⟩),
 (50,⟨0x2222212,[],[]⟩),
 (9,⟨0x26cc44444c4444044022220220644426444022220262202202000020012,[],[(8,[.keep [1,3,7,8,9] [1]],[.keep [1,3,7,8,9] [1]]),(14,[.keep [1,3] [1]],[]),(26,[.keep [2] []],[]),(31,[.keep [2] []],[])]⟩),
 (157,⟨0x26c4444026402201,[],[]⟩),
 (158,⟨0x26442201,[],[]⟩),
 (137,⟨0x222064c002644c00222600620000644402644022201,[],[(8,[.keep [2] []],[]),(14,[.keep [0,3] []],[.keep [0,3] []]),(20,[.keep [] []],[]),(28,[.keep [2] []],[]),(33,[.keep [2] []],[])]⟩),
 (138,⟨0x26442201,[],[]⟩),
 (103,⟨0x2222222022226020222062260202260206000022226020622000022202220620226020600002220202602012,[],[(10,[.keep [4] []],[]),(16,[.keep [1,2,5,6] [2,5]],[.keep [1,2,5,6] [2,5]]),(22,[.keep [5] [5]],[]),(30,[.keep [4] []],[]),(39,[.keep [4] []],[]),(45,[.keep [5,7] [5]],[.keep [5,7] [5]]),(51,[.keep [5] [5]],[]),(60,[.keep [4] []],[]),(66,[.keep [5,7,8] [5]],[.keep [5,7,8] [5]]),(72,[.keep [5,7] [5]],[]),(80,[.keep [4] []],[]),(88,[.keep [4] []],[]),(97,[.keep [4] []],[]),(101,[.keep [4] []],[])]⟩),
 (104,⟨0x2222220620226020600006444026c444c04040222020260206220000222006cc44c4444c04040440264402220064402644026c04026c44040264402644022200644022202202026022602012,[],[(13,[.keep [6] []],[]),(20,[.keep [6] []],[]),(22,[.keep [1,2,3,7] [3,7]],[]),(28,[.keep [6] []],[]),(36,[.keep [6] []],[]),(42,[.keep [1,3,7,8] [3,7]],[.keep [1,3,7,8] [3,7]]),(48,[.keep [] []],[]),(59,[.keep [6] []],[]),(64,[.keep [1,3,7,8,9,10] [3,7,9]],[.keep [1,3,7,8,9,10] [3,7,9]]),(70,[.keep [1,3,7,8] [3,7]],[]),(78,[.keep [6] []],[]),(84,[.keep [6] []],[])]⟩),
 (139,⟨0x2262222262022022,[],[]⟩),
 (127,⟨0x20222222262226c0442602020260226020622260200062200002,[],[(6,[.keep [1,2,3,6,7] [3,6]],[.keep [1,2,3,6,7] [3,6]]),(12,[.keep [6] [6]],[]),(18,[.keep [1,2,3,6,7,8] [3,6]],[.keep [1,2,3,6,7,8] [3,6]]),(24,[.keep [1,2,3,6,7] [3,6]],[]),(34,[.keep [6] [6]],[]),(40,[.keep [6] [6]],[])]⟩),
 (105,⟨0x2222226cc40444cc4040444022202602262020622262020000220060e20200022020600122,[],[(30,[.keep [2,3,5,6,7] [2,3,5]],[.keep [2,3,5,6,7] [2,3,5]]),(36,[.keep [6] []],[])]⟩),
 (106,⟨0x22206222602026006220002222203622000622262002062202202026260022602062226020260062200002222012,[],[(6,[.canon (.s 3) 2003 1,.keep [1,3] [1,2003]],[.canon (.s 3) 2003 1,.keep [1,3] [1,2003]]),(14,[.canon (.s 3) 2003 1,.keep [1,3,4,5] [1,2003]],[.canon (.s 3) 2003 1,.keep [1,3,4,5] [1,2003]]),(20,[.canon (.s 3) 2003 1,.keep [1,3,4] [1,2003]],[]),(24,[.canon (.s 3) 2003 1,.keep [1,3,4,5] [1,2003]],[.canon (.s 3) 2003 1,.keep [1,3,4,5] [1,2003]]),(30,[.canon (.s 3) 2003 1,.keep [1,3,4,5] [1,2003]],[]),(43,[.canon (.s 3) 2003 1,.keep [1,3,4,5] [1,2003]],[]),(46,[.canon (.s 3) 2003 1,.keep [1,3,5] [1,2003]],[]),(53,[.canon (.s 3) 2003 1,.keep [1,3] [1,2003]],[]),(59,[.canon (.s 3) 2003 1,.keep [1,3,8] [1,2003]],[.canon (.s 3) 2003 1,.keep [1,3,8] [1,2003]]),(65,[.keep [] []],[]),(73,[.keep [2] []],[]),(78,[.keep [2] []],[])]⟩),
 (140,⟨0x22262622222202062026262202022200122,[],[(10,[.canon (.s 5) 2005 2,.keep [2,3,5] [2,3,2005]],[])]⟩),
 (51,⟨0x202222220222620260600206200622260200062200002020222222222220260020620062226020006220002222222226222202e0006222602000622000222222222026006220000206444022220102,[],[(8,[.keep [2,3] [2]],[]),(14,[.keep [1,2,4] [1,2]],[.keep [1,2,4] [1,2]]),(20,[.keep [1,2] [1,2]],[]),(30,[.keep [2,3] [2]],[]),(37,[.keep [1,2,6] [1,2]],[.keep [1,2,6] [1,2]]),(43,[.keep [1,2] [1,2]],[]),(49,[.keep [1,2,6,7] [1,2]],[.keep [1,2,6,7] [1,2]]),(55,[.keep [1,2,6] [1,2]],[]),(65,[.keep [2,3] [2]],[]),(73,[.keep [1,2,9] [1,2]],[.keep [1,2,9] [1,2]]),(79,[.keep [1,2] [1,2]],[]),(85,[.keep [1,2,9,10] [1,2]],[.keep [1,2,9,10] [1,2]]),(91,[.keep [1,2,9] [1,2]],[]),(103,[.keep [2,3] [2]],[]),(113,[.keep [2,3] [2]],[]),(119,[.keep [1,2,13] [1,2]],[.keep [1,2,13] [1,2]]),(125,[.keep [2] [2]],[]),(131,[.keep [1,2,13,14] [1,2]],[.keep [1,2,13,14] [1,2]]),(137,[.keep [1,2,13] [1,2]],[]),(147,[.keep [2,3] [2]],[]),(153,[.keep [2,3] [2]],[])]⟩),
 (10,⟨0x2222302022212,[],[]⟩),
 (142,⟨0x2236226200026201,[],[]⟩),
 (159,⟨0x22206c444c0404c0022260062000062202012,[],[(8,[.keep [4] []],[]),(14,[.keep [1,2,5] [2]],[.keep [1,2,5] [2]]),(20,[.keep [] []],[]),(28,[.keep [4] []],[]),(33,[.keep [4] []],[])]⟩),
 (160,⟨0x2222220626220202062202202026022602062600006200012,[],[(6,[.keep [1,2,5] [2]],[.keep [1,2,5] [2]]),(12,[.keep [] []],[]),(18,[.keep [1,2,5,6] [2]],[.keep [1,2,5,6] [2]]),(24,[.keep [1,2,5] [2]],[]),(39,[.keep [4] []],[]),(46,[.keep [4] []],[])]⟩),
 (141,⟨0x26c44260012,[],[]⟩),
 (108,⟨0x2222226260026cc000262226020260062000012,[],[(8,[.canon (.s 5) 2005 1,.keep [1,2,5,6] [2,2005]],[.canon (.s 5) 2005 1,.keep [1,2,5,6] [2,2005]]),(14,[.canon (.s 5) 2005 1,.keep [5] [2005]],[])]⟩),
 (28,⟨0x2222226260026200001,[],[(8,[.keep [0,3,4] []],[.keep [0,3,4] []]),(14,[.keep [3] []],[])]⟩),
 (143,⟨0x222262622260262600260062000262222620201,[],[(8,[.keep [4] []],[]),(14,[.keep [0,1,5] []],[.keep [0,1,5] []]),(20,[.keep [] []],[]),(28,[.keep [4] []],[]),(33,[.keep [4] []],[])]⟩),
 (115,⟨0x2220626002600620000620201,[],[(8,[.keep [4] []],[]),(14,[.keep [0,1,5] []],[.keep [0,1,5] []]),(20,[.keep [] []],[]),(28,[.keep [4] []],[]),(33,[.keep [4] []],[])]⟩),
 (109,⟨0x26622226222266000226c04c00262002226c04c002620001,[],[(6,[.keep [0,1,5] []],[.keep [0,1,5] []]),(12,[.keep [0,1,5] []],[])]⟩),
 (52,⟨0x222222222226260026200026260006200000022026022200222220112,[(7,[.closeS (.s 13)])],[(8,[.closeS (.s 4),.canon (.s 5) 2005 1,.keep [1,4,5] [1,2005]],[.closeS (.s 4),.canon (.s 5) 2005 1,.keep [1,4,5] [1,2005]]),(14,[.canon (.s 5) 2005 1,.keep [5] [2005]],[]),(24,[.canon (.s 2) 2002 1,.keep [2,3] [2002]],[]),(32,[.closeS (.s 4),.canon (.s 5) 2005 1,.keep [1,4,5,6,7] [1,2005]],[.closeS (.s 4),.canon (.s 5) 2005 1,.keep [1,4,5,6,7] [1,2005]]),(38,[.canon (.s 5) 2005 1,.keep [1,5,6] [1,2005]],[]),(46,[.closeS (.s 4),.canon (.s 5) 2005 1,.keep [1,4,5,6,7,8,9] [1,2005]],[.closeS (.s 4),.canon (.s 5) 2005 1,.keep [1,4,5,6,7,8,9] [1,2005]]),(52,[.closeS (.s 4),.canon (.s 5) 2005 1,.keep [1,4,5,6,7] [1,2005]],[]),(61,[.canon (.s 2) 2002 1,.keep [2,3] [2002]],[])]⟩),
 (11,⟨0x26444222222022212,[],[]⟩),
 (150,⟨0x26c4426201,[],[]⟩),
 (185,⟨0x26c4444026402201,[],[]⟩),
 (186,⟨0x26442201,[],[]⟩),
 (170,⟨0x22064c402644c00222600200020064440264402201,[],[(8,[.keep [2] []],[]),(14,[.keep [0,18,19] []],[.keep [0,18,19] []]),(20,[.keep [] []],[]),(30,[.keep [2] []],[]),(35,[.keep [2] []],[])]⟩),
 (172,⟨0x26222212,[],[]⟩),
 (187,⟨0x22226260002000201,[],[(6,[.keep [0,1,7,8] []],[.keep [0,1,7,8] []]),(12,[.keep [] []],[]),(22,[.keep [4] []],[]),(27,[.keep [4] []],[])]⟩),
 (171,⟨0x226221,[],[]⟩),
 (174,⟨0x26222212,[],[]⟩),
 (188,⟨0x22226260002000201,[],[(6,[.keep [0,1,7,8] []],[.keep [0,1,7,8] []]),(12,[.keep [] []],[]),(22,[.keep [4] []],[]),(27,[.keep [4] []],[])]⟩),
 (173,⟨0x226221,[],[]⟩),
 (151,⟨0x222222022222026c0c4402222022020000020022220026c0c44422220202602012,[],[(11,[.keep [4] []],[]),(17,[.keep [4] []],[]),(23,[.keep [5,32,33,34] [5]],[.keep [5,32,33,34] [5]]),(29,[.keep [5] [5]],[]),(40,[.keep [4] []],[]),(46,[.keep [4] []],[]),(55,[.keep [4] []],[]),(59,[.keep [4] []],[])]⟩),
 (152,⟨0x2212,[],[]⟩),
 (176,⟨0x2644426c4402622222022202644422202020122,[],[(18,[.keep [1,3,5,19] [3,5]],[])]⟩),
 (178,⟨0x26222212,[],[]⟩),
 (189,⟨0x22226260002000201,[],[(6,[.keep [0,1,7,8] []],[.keep [0,1,7,8] []]),(12,[.keep [] []],[]),(22,[.keep [4] []],[]),(27,[.keep [4] []],[])]⟩),
 (177,⟨0x226221,[],[]⟩),
 (153,⟨0x2202626220026444022622202022020000020022220026c44022220022e02222226220202200202620201222,[],[(12,[.keep [3,4,5,7,8] [3,4,5,7]],[]),(19,[.keep [6] []],[]),(25,[.keep [6] []],[]),(31,[.keep [6] []],[]),(37,[.keep [5,7,52,53,54] [5,7]],[.keep [5,7,52,53,54] [5,7]]),(43,[.keep [] []],[]),(54,[.keep [6] []],[]),(60,[.keep [6] []],[]),(65,[.keep [6] []],[])]⟩),
 (190,⟨0x26c44426c440222012,[],[]⟩),
 (179,⟨0x2662262221222,[],[]⟩),
 (154,⟨0x2202326222002202001ef200220022022226200223262220022022226200202022020202020200002,[],[(8,[.keep [1,2,3,4,5,12] [1,2,3,4,5,10]],[.keep [] [1,2,3,4,5,10]]),(27,[.keep [] [1,2,3,4,5,10]],[]),(39,[.keep [] [1,2,3,4,5,10]],[]),(47,[.keep [] [1,2,3,4,5,10]],[]),(53,[.keep [2,3,4] [2,3,4,10]],[])]⟩),
 (180,⟨0x222622262222264444c4400222020262222262622020262020222620220122,[],[(12,[.canon (.s 7) 2007 2,.keep [1,5,7,8] [5,2007]],[])]⟩),
 (155,⟨0x20222622230026000226002020000e200262220202622002202202020200022,[],[(6,[.keep [2,3,4,5,13] [2,3,4,5]],[.keep [] [2,3,4,5]]),(14,[.canon (.s 8) 2008 2,.keep [2,3,4,5,6,7,8,13] [2,3,4,5,6,16,2008]],[.canon (.s 8) 2008 2,.keep [2,3,4,5,6,7,8,13] [2,3,4,5,6,16,2008]]),(20,[.keep [2,3,4,5,13] [2,3,4,5]],[]),(29,[.canon (.s 8) 2008 2,.keep [2,3,4,5,6,7,8,13,36,37,38] [2,3,4,5,6,16,2008]],[.canon (.s 8) 2008 2,.keep [2,3,4,5,6,7,8,13,36,37,38] [2,3,4,5,6,16,2008]]),(35,[.canon (.s 8) 2008 2,.keep [2,3,4,5,6,7,8,13] [2,3,4,5,6,16,2008]],[]),(46,[.keep [] [2,3,4,5]],[]),(58,[.keep [4,5] [4,5]],[])]⟩),
 (129,⟨0x20022222020262222222022202002202222202e2002020202222222202600200022002022220002,[],[(8,[.keep [2,3] [2,3]],[]),(14,[.keep [1,2,3,22,23] [1,2,3]],[.keep [1,2,3,22,23] [1,2,3]]),(20,[.keep [1,2,3] [1,2,3]],[]),(32,[.keep [2,3] [2,3]],[]),(39,[.keep [1,2,3,36] [1,2,3]],[.keep [] [1,2,3]]),(51,[.keep [] [1,2,3]],[]),(61,[.keep [2,3] [2,3]],[]),(71,[.keep [2,3] [2,3]],[]),(75,[.keep [2,3] [2,3]],[])]⟩),
 (88,⟨0x2222302022212,[],[]⟩),
 (135,⟨0x200226c0442602020202202022000222,[],[(8,[.keep [6,7] [6,7]],[]),(14,[.keep [4,5,6,7,15] [4,5,6,7]],[.keep [] [4,5,6,7]]),(24,[.keep [] [4,5,6,7]],[]),(28,[.keep [6,7] [6,7]],[])]⟩),
 (161,⟨0x2220622102,[],[]⟩),
 (144,⟨0x2222306222030622222022262222302622022002020000200202000020002,[(53,[.closeS (.s 49)]),(59,[.closeS (.c 3 0),.closeS (.c 3 1)])],[(8,[.canon (.c 3 0) 4060 1,.canon (.c 3 1) 4061 1,.keep [1,2,3,11,12,13] [1,2,3,4060,4061]],[.canon (.c 3 0) 4060 1,.canon (.c 3 1) 4061 1,.keep [1,2,3,11,12,13] [1,2,3,4060,4061]]),(14,[.canon (.c 3 0) 4060 1,.canon (.c 3 1) 4061 1,.keep [2,3] [2,3,4060,4061]],[]),(25,[.canon (.s 6) 2006 2,.canon (.c 3 0) 4060 1,.canon (.c 3 1) 4061 1,.keep [1,2,3,5,6,11,12,13,18,19,20] [1,2,3,5,2006,4060,4061]],[.canon (.s 6) 2006 2,.canon (.c 3 0) 4060 1,.canon (.c 3 1) 4061 1,.keep [1,2,3,5,6,11,12,13,18,19,20] [1,2,3,5,2006,4060,4061]]),(31,[.canon (.s 6) 2006 2,.canon (.c 3 0) 4060 1,.canon (.c 3 1) 4061 1,.keep [1,2,3,5,6,11,12,13] [1,2,3,5,2006,4060,4061]],[]),(44,[.canon (.s 6) 2006 2,.canon (.c 3 0) 4060 1,.canon (.c 3 1) 4061 1,.keep [1,2,3,5,6,9,11,12,13,18,19,20] [1,2,3,5,9,2006,4060,4061]],[])]⟩),
 (162,⟨0x26262222020262620260220626020260012,[],[]⟩),
 (114,⟨0x26200201,[],[(8,[.canon (.s 2) 4004 1],[]),(12,[.canon (.s 2) 4004 1],[])]⟩),
 (184,⟨0x26201,[],[]⟩),
 (183,⟨0x62206000200222202201,[],[]⟩),
 (165,⟨0x62222222220262222620062002220000001,[],[(6,[.keep [0,1,9,10,11] []],[.keep [0,1,9,10,11] []]),(12,[.keep [0,1] []],[]),(23,[.keep [4] []],[]),(34,[.keep [4] []],[]),(43,[.keep [4] []],[]),(47,[.keep [4] []],[])]⟩),
 (164,⟨0x26221,[],[]⟩),
 (40,⟨0x2206262026002000200620201,[],[(8,[.keep [4] []],[]),(14,[.keep [0,1,12,13] []],[.keep [0,1,12,13] []]),(20,[.keep [] []],[]),(30,[.keep [4] []],[]),(35,[.keep [4] []],[])]⟩),
 (167,⟨0x26221,[],[]⟩),
 (145,⟨0x222302222262223622020220e0002000202200002012,[(32,[.closeS (.s 34)])],[(8,[.canon (.s 5) 2005 1,.keep [2,5,10,11,12] [2,2005]],[.canon (.s 5) 2005 1,.keep [2,5,10,11,12] [2,2005]]),(14,[.canon (.s 5) 2005 1,.keep [5] [2005]],[]),(22,[.canon (.s 5) 2005 1,.keep [2,5,7,10,11,12,17,18] [2,2005]],[.canon (.s 5) 2005 1,.keep [2,5,7,10,11,12,17,18] [2,2005]]),(28,[.canon (.s 5) 2005 1,.keep [2,5,10,11,12] [2,2005]],[])]⟩),
 (118,⟨0x2226202620200202620222000222222202000220112,[(16,[.closeS (.s 16)])],[(8,[.canon (.s 2) 2002 1,.keep [2,3] [2002]],[]),(20,[.closeS (.s 5),.canon (.s 6) 2006 1,.keep [4,5,6,7] [4,2006]],[.closeS (.s 5),.canon (.s 6) 2006 1,.keep [4,5,6,7] [4,2006]]),(26,[.canon (.s 6) 2006 1,.keep [6] [2006]],[]),(37,[.canon (.s 2) 2002 1,.keep [2,3] [2002]],[]),(43,[.canon (.s 2) 2002 1,.keep [2,3] [2002]],[])]⟩),
 (63,⟨0x222222220222112,[],[]⟩),
 (43,⟨0x222022112,[],[]⟩),
 (53,⟨0x222272222022200000220e002020620202220202220222102,[],[(26,[.keep [4,8,30,31,32] [4,8,28]],[.keep [4,8,30,31,32] [4,8,28]]),(32,[.keep [4,8] [4,8,28]],[])]⟩),
 (112,⟨0x222236622620002220000022221,[],[(8,[.canon (.s 5) 2005 1,.keep [5,10,11,12] [2005]],[.canon (.s 5) 2005 1,.keep [5,10,11,12] [2005]]),(14,[.canon (.s 5) 2005 1,.keep [5] [2005]],[])]⟩),
 (111,⟨0x226622222012,[],[]⟩),
 (55,⟨0x26622212,[],[]⟩),
 (54,⟨0x22222202264001cf000226622020222000006202022602022200000201112,[],[(6,[.keep [1,2,12,13,14] [2]],[.keep [1,2,12,13,14] [2]]),(12,[.keep [] []],[]),(26,[.keep [1,2,7,8,12,13,14,29,30,31] [2]],[.keep [1,2,7,8,12,13,14,29,30,31] [2]]),(32,[.keep [1,2,12,13,14] [2]],[]),(42,[.keep [4,5,6] []],[]),(48,[.keep [4,5,6] []],[])]⟩),
 (12,⟨0x22222222220026220200022022020262211112,[],[]⟩),
 (113,⟨0x222236622620002220000022221,[],[(8,[.canon (.s 5) 2005 1,.keep [5,10,11,12] [2005]],[.canon (.s 5) 2005 1,.keep [5,10,11,12] [2005]]),(14,[.canon (.s 5) 2005 1,.keep [5] [2005]],[])]⟩),
 (56,⟨0x26622212,[],[]⟩),
 (13,⟨0x22222222220026220200022022020262211112,[],[]⟩),
 (57,⟨0x26001cf4442e00012,[],[]⟩),
 (14,⟨0x22222222220026220200022022020262211112,[],[]⟩),
 (58,⟨0x222202622222022226cc004402644c04022222026222036220202206222602026002000200226220222000002011122,[],[(6,[.keep [2,3,15,16,17] [2,3]],[.keep [2,3,15,16,17] [2,3]]),(12,[.keep [] []],[]),(29,[.keep [2,3,8,9,15,16,17,29,30] [2,3]],[.keep [2,3,8,9,15,16,17,29,30] [2,3]]),(35,[.keep [2,3,8,9,15,16,17] [2,3]],[]),(63,[.keep [4,5,6] []],[]),(68,[.keep [4,5,6] []],[])]⟩),
 (15,⟨0x2222222222002622200022022020262011112,[],[]⟩),
 (20,⟨0x22001ef2220202023030211026223030211026003030211026003030211026000010,[],[]⟩),
 (21,⟨0x26200201,[],[(8,[.canon (.s 2) 4004 1],[]),(12,[.canon (.s 2) 4004 1],[])]⟩),
 (4,⟨0x26cc44444444026640220202206448426480224020000644264422226c4426c04260220220202622220202620220202620220202620223622620003664c00226000020002022202022064402644026c404026440222002012,[],[(8,[.keep [6] []],[]),(16,[.keep [6] []],[]),(26,[.canon (.s 8) 2008 1,.canon (.s 9) 2009 1,.keep [1,2,7,8,9,53,54] [3,2008,2009]],[.canon (.s 8) 2008 1,.canon (.s 9) 2009 1,.keep [1,2,7,8,9,53,54] [3,2008,2009]]),(32,[.canon (.s 8) 2008 1,.canon (.s 9) 2009 1,.keep [1,2,7,8,9] [3,2008,2009]],[]),(55,[.keep [6] []],[]),(63,[.keep [6] []],[]),(69,[.keep [11,13,15,17,128] [11,13,15,17]],[.keep [11,13,15,17,128] [11,13,15,17]]),(75,[.keep [13,17] [13,17]],[]),(85,[.keep [6] []],[]),(90,[.keep [6] []],[])]⟩)]
end Go.VE
namespace Go.VE
namespace trace_events_c1
def y_:List RO:=[o1 20 (.s 18) [],o2 21 (ix 5) [.s 16,.s 18] [],o2 22 (lD 5) [.s 21] [21],o2 6 (.a (.alloc 5 [.int .i64 0,.int .i64 0,.int .i64 0,.int .i64 0,.aF])) [] [],o1 5 (.s 20) [20],oz (.l (.store 5)) [.s 6,.s 22] [22]]
def wH:List RO:=[o1 23 (.s 0) [],o1 24 (.s 3) [],o1 25 (.s 5) [5],o2 26 (bI .add) [.s 25,.k (.int .i64 1)] [25],o2 27 (.p (.build [.int .i64 0,.int .i64 0] [(0,1),(1,1)])) [.s 24,.s 26] [24,26],o2 28 (lD 5) [.s 6] [6],
 o2 29 .c [.s 23,.s 27,.s 28] [23,27,28],o2 30 (.p .not) [.s 29] [29]]
def uP:List RO:=[o2 31 (bI .add) [.s 18,.k (.int .i64 1)] [],o1 18 (.s 31) [31]]
def Cp:RC:=.hg (.seq (.ops [o2 19 (bI .lss) [.s 18,.s 17] []]) (.seq (.cond (.s 19) .skip (.exit 2)) (.seq (.block 3 (.seq (.ops y_) (.seq (.ops wH) (.cond (.s 30) .ret .skip)))) (.ops uP)))) (.keep [0,3,8,9,10,16,17,18] [])
def Gm:List RO:=[o1 12 (.s 10) [],o2 13 (ix 3) [.s 8,.s 10] [],o2 14 (lD 3) [.s 13] [13],o2 4 (.a (.alloc 3 [.str ByteArray.empty,.aF,.aF])) [] [],o1 3 (.s 12) [12],oz (.l (.store 3)) [.s 4,.s 14] [14]]
def Eb:List RO:=[o2 15 (fa 2) [.s 4] [],o2 16 (ld 1) [.s 15] [15],o2 17 ln [.s 16] [],o1 18 (.k (.int .i64 0)) []]
def CI:List RO:=[o2 32 (bI .add) [.s 10,.k (.int .i64 1)] [],o1 10 (.s 32) [32]]
def U2:RC:=.block 2 (.gh (.keep [0,3,8,9,10,16,17,18] []) (.loop Cp))
def J8:RC:=.hg (.seq (.ops [o2 11 (bI .lss) [.s 10,.s 9] []]) (.seq (.cond (.s 11) .skip (.exit 0)) (.seq (.block 1 (.seq (.ops Gm) (.seq (.ops Eb) U2))) (.ops CI)))) (.keep [0,8,9,10] [])
def Qa:List RO:=[o2 7 (fa 0) [.s 1] [1],o2 8 (ld 1) [.s 7] [7],o2 9 ln [.s 8] [],o1 10 (.k (.int .i64 0)) []]
def U1:RC:=.block 0 (.gh (.keep [0,8,9,10] []) (.loop J8))
def text:RF:=⟨33,[],.seq (.ops Qa) U1⟩
section
variable {S:Sys}
abbrev I1 (ps:Sl bt) (i:Int) (ws:List (List V)) (more:Bool) (y:Nat):St:=⟨[(0,.yl y),Cv 8 ps,Iv 9 (len ps),Iv 10 i],[],[],ws,more,y⟩
abbrev I2 (ps:Sl bt) (i:Int) (es:Sl Event) (j:Int) (ws:List (List V)) (more:Bool) (y:Nat):St:=⟨[(0,.yl y),Iv 3 i,Cv 8 ps,Iv 9 (len ps),Iv 10 i,Cv 16 es,Iv 17 (len es),Iv 18 j],[],[],ws,more,y⟩
abbrev S2 (ps:Sl bt) (i:Int) (es:Sl Event) (j:Int) (b:Bool) (ws:List (List V)) (more:Bool) (y:Nat):St:=⟨[(0,.yl y),Iv 3 i,Cv 8 ps,Iv 9 (len ps),Iv 10 i,Cv 16 es,Iv 17 (len es),Iv 18 j,Bv 19 b],[],[],ws,more,y⟩
theorem Ro (ps:Sl bt) (i:Int) (es:Sl Event) (j:Int) (ws:List (List V)) (more:Bool) (y:Nat) (hj:decide (j<len es)=false) :
 rn S.bare lR some (.rc Cp) [] (I2 ps i es j ws more y)=some (.exit 2,S2 ps i es j false ws more y):=by
 refine Le.get ?_;refine Kf (n:=7) (fo':=.rc (.cond (.s 19) .skip (.exit 2))) (fs':=[.seq (.seq (.block 3 (.seq (.ops y_) (.seq (.ops wH) (.cond (.s 30) .ret .skip)))) (.ops uP)),.gst (.keep [0,3,8,9,10,16,17,18] [])]) (λb=>S2 ps i es j b ws more y) hj (by kernel_rfl) ?_
 exact Le.of_eq (by kernel_rfl)
theorem SD (ps:Sl bt) (i:Int) (es:Sl Event) (j:Int) (e:Event) (ws:List (List V)) (more:Bool) (y:Nat) (hj:decide (j<len es)=true) (hx:idx es j=some e) (hb:(!(more || !ws.isEmpty))=false) :
 rn S.bare lR some (.rc Cp) [] (I2 ps i es j ([enc (⟨i,IntKind.wrap .i64 (j+1)⟩:aa),enc e]::ws) more y)=some (.norm,I2 ps i es (IntKind.wrap .i64 (j+1)) ws more y):=by
 refine Le.get ?_;refine Kt (n:=7) (fo':=.rc (.cond (.s 19) .skip (.exit 2))) (fs':=[.seq (.seq (.block 3 (.seq (.ops y_) (.seq (.ops wH) (.cond (.s 30) .ret .skip)))) (.ops uP)),.gst (.keep [0,3,8,9,10,16,17,18] [])]) (λb=>S2 ps i es j b ([enc (⟨i,IntKind.wrap .i64 (j+1)⟩:aa),enc e]::ws) more y) hj (by kernel_rfl) ?_
 refine KU hx ?_;refine LL 8 false [] (y_.drop 1) [.seq (.seq (.ops wH) (.cond (.s 30) .ret .skip)),.blk 3,.seq (.ops uP),.gst (.keep [0,3,8,9,10,16,17,18] [])] ⟨[(0,.yl y),Iv 3 i,Cv 8 ps,Iv 9 (len ps),Iv 10 i,Cv 16 es,Iv 17 (len es),Iv 18 j,Bv 19 true,Iv 20 j],[],[],([enc (⟨i,IntKind.wrap .i64 (j+1)⟩:aa),enc e]::ws),more,y⟩ .i64 rfl (by kernel_rfl) λx h1=>?_
 obtain rfl:x=e:=by rw[hx]at h1;cases h1;rfl
 refine QX 1 false [] (y_.drop 3) [.seq (.seq (.ops wH) (.cond (.s 30) .ret .skip)),.blk 3,.seq (.ops uP),.gst (.keep [0,3,8,9,10,16,17,18] [])] ⟨[(0,.yl y),Iv 3 i,Cv 8 ps,Iv 9 (len ps),Iv 10 i,Cv 16 es,Iv 17 (len es),Iv 18 j,Bv 19 true,Iv 20 j,Cv 22 x],[],[],([enc (⟨i,IntKind.wrap .i64 (j+1)⟩:aa),enc x]::ws),more,y⟩ [iv 0,iv 0,iv 0,iv 0,.v .aF] rfl (by simp only[aQ,n_,iu,jq,iD,jv,kG,jl,kS,iz,jr,oa,kz,kI,kE,kD,mg,mc,jm,kJ,SV.bQ];rfl) (by kernel_rfl) ?_
 refine Ast 1 false [] (y_.drop 5) [.seq (.seq (.ops wH) (.cond (.s 30) .ret .skip)),.blk 3,.seq (.ops uP),.gst (.keep [0,3,8,9,10,16,17,18] [])] ⟨[(0,.yl y),Iv 3 i,Cv 8 ps,Iv 9 (len ps),Iv 10 i,Cv 16 es,Iv 17 (len es),Iv 18 j,Bv 19 true,Cv 22 x,Pv 6,Iv 5 j],[Xb 6 (⟨0,0,0,0,.nil⟩:Event)],[],([enc (⟨i,IntKind.wrap .i64 (j+1)⟩:aa),enc x]::ws),more,y⟩ 6 0 x [iv 0,iv 0,iv 0,iv 0,.v .aF] ((cells x).map .v) rfl (by kernel_rfl) ?_
 refine TV (n:=10) (q:=wH.drop 6) (fs':=[.seq (.cond (.s 30) .ret .skip),.blk 3,.seq (.ops uP),.gst (.keep [0,3,8,9,10,16,17,18] [])]) (st:=⟨[(0,.yl y),Iv 3 i,Cv 8 ps,Iv 9 (len ps),Iv 10 i,Cv 16 es,Iv 17 (len es),Iv 18 j,Bv 19 true,(23,.yl y),Cv 27 (⟨i,IntKind.wrap .i64 (j+1)⟩:aa),Cv 28 x],[Xb 6 x],[],([enc (⟨i,IntKind.wrap .i64 (j+1)⟩:aa),enc x]::ws),more,y⟩) (vs:=[cv (⟨i,IntKind.wrap .i64 (j+1)⟩:aa),cv x]) (by kernel_rfl) rfl (by kernel_rfl) (by kernel_rfl) rfl rfl ?_
 refine Kf (n:=3) (fo':=.rc (.cond (.s 30) .ret .skip)) (fs':=[.blk 3,.seq (.ops uP),.gst (.keep [0,3,8,9,10,16,17,18] [])]) (λb=>⟨[(0,.yl y),Iv 3 i,Cv 8 ps,Iv 9 (len ps),Iv 10 i,Cv 16 es,Iv 17 (len es),Iv 18 j,Bv 19 true,Bv 30 b],[Xb 6 x],[],ws,more,y⟩) hb (by kernel_rfl) ?_
 exact Le.of_eq (by kernel_rfl)
theorem NI (ps:Sl bt) (i:Int) (es:Sl Event) (j:Int) (e:Event) (ws:List (List V)) (more:Bool) (y:Nat) (hj:decide (j<len es)=true) (hx:idx es j=some e) (hb:(!(more || !ws.isEmpty))=true) :
 rn S.bare lR some (.rc Cp) [] (I2 ps i es j ([enc (⟨i,IntKind.wrap .i64 (j+1)⟩:aa),enc e]::ws) more y)=some (.ret,⟨[(0,.yl y),Iv 3 i,Cv 8 ps,Iv 9 (len ps),Iv 10 i,Cv 16 es,Iv 17 (len es),Iv 18 j,Bv 19 true,Bv 30 true],[Xb 6 e],[],ws,more,y⟩):=by
 refine Le.get ?_;refine Kt (n:=7) (fo':=.rc (.cond (.s 19) .skip (.exit 2))) (fs':=[.seq (.seq (.block 3 (.seq (.ops y_) (.seq (.ops wH) (.cond (.s 30) .ret .skip)))) (.ops uP)),.gst (.keep [0,3,8,9,10,16,17,18] [])]) (λb=>S2 ps i es j b ([enc (⟨i,IntKind.wrap .i64 (j+1)⟩:aa),enc e]::ws) more y) hj (by kernel_rfl) ?_
 refine KU hx ?_;refine LL 8 false [] (y_.drop 1) [.seq (.seq (.ops wH) (.cond (.s 30) .ret .skip)),.blk 3,.seq (.ops uP),.gst (.keep [0,3,8,9,10,16,17,18] [])] ⟨[(0,.yl y),Iv 3 i,Cv 8 ps,Iv 9 (len ps),Iv 10 i,Cv 16 es,Iv 17 (len es),Iv 18 j,Bv 19 true,Iv 20 j],[],[],([enc (⟨i,IntKind.wrap .i64 (j+1)⟩:aa),enc e]::ws),more,y⟩ .i64 rfl (by kernel_rfl) λx h1=>?_
 obtain rfl:x=e:=by rw[hx]at h1;cases h1;rfl
 refine QX 1 false [] (y_.drop 3) [.seq (.seq (.ops wH) (.cond (.s 30) .ret .skip)),.blk 3,.seq (.ops uP),.gst (.keep [0,3,8,9,10,16,17,18] [])] ⟨[(0,.yl y),Iv 3 i,Cv 8 ps,Iv 9 (len ps),Iv 10 i,Cv 16 es,Iv 17 (len es),Iv 18 j,Bv 19 true,Iv 20 j,Cv 22 x],[],[],([enc (⟨i,IntKind.wrap .i64 (j+1)⟩:aa),enc x]::ws),more,y⟩ [iv 0,iv 0,iv 0,iv 0,.v .aF] rfl (by simp only[aQ,n_,iu,jq,iD,jv,kG,jl,kS,iz,jr,oa,kz,kI,kE,kD,mg,mc,jm,kJ,SV.bQ];rfl) (by kernel_rfl) ?_
 refine Ast 1 false [] (y_.drop 5) [.seq (.seq (.ops wH) (.cond (.s 30) .ret .skip)),.blk 3,.seq (.ops uP),.gst (.keep [0,3,8,9,10,16,17,18] [])] ⟨[(0,.yl y),Iv 3 i,Cv 8 ps,Iv 9 (len ps),Iv 10 i,Cv 16 es,Iv 17 (len es),Iv 18 j,Bv 19 true,Cv 22 x,Pv 6,Iv 5 j],[Xb 6 (⟨0,0,0,0,.nil⟩:Event)],[],([enc (⟨i,IntKind.wrap .i64 (j+1)⟩:aa),enc x]::ws),more,y⟩ 6 0 x [iv 0,iv 0,iv 0,iv 0,.v .aF] ((cells x).map .v) rfl (by kernel_rfl) ?_
 refine TV (n:=10) (q:=wH.drop 6) (fs':=[.seq (.cond (.s 30) .ret .skip),.blk 3,.seq (.ops uP),.gst (.keep [0,3,8,9,10,16,17,18] [])]) (st:=⟨[(0,.yl y),Iv 3 i,Cv 8 ps,Iv 9 (len ps),Iv 10 i,Cv 16 es,Iv 17 (len es),Iv 18 j,Bv 19 true,(23,.yl y),Cv 27 (⟨i,IntKind.wrap .i64 (j+1)⟩:aa),Cv 28 x],[Xb 6 x],[],([enc (⟨i,IntKind.wrap .i64 (j+1)⟩:aa),enc x]::ws),more,y⟩) (vs:=[cv (⟨i,IntKind.wrap .i64 (j+1)⟩:aa),cv x]) (by kernel_rfl) rfl (by kernel_rfl) (by kernel_rfl) rfl rfl ?_
 refine Kt (n:=3) (fo':=.rc (.cond (.s 30) .ret .skip)) (fs':=[.blk 3,.seq (.ops uP),.gst (.keep [0,3,8,9,10,16,17,18] [])]) (λb=>⟨[(0,.yl y),Iv 3 i,Cv 8 ps,Iv 9 (len ps),Iv 10 i,Cv 16 es,Iv 17 (len es),Iv 18 j,Bv 19 true,Bv 30 b],[Xb 6 x],[],ws,more,y⟩) hb (by kernel_rfl) ?_
 exact Le.of_eq (by kernel_rfl)
abbrev S1 (ps:Sl bt) (i:Int) (b:Bool) (ws:List (List V)) (more:Bool) (y:Nat):St:=⟨[(0,.yl y),Cv 8 ps,Iv 9 (len ps),Iv 10 i,Bv 11 b],[],[],ws,more,y⟩
theorem QL (ps:Sl bt) (i:Int) (ws:List (List V)) (more:Bool) (y:Nat) (hj:decide (i<len ps)=false) :
 rn S.bare lR some (.rc J8) [] (I1 ps i ws more y)=some (.exit 0,S1 ps i false ws more y):=by
 refine Le.get ?_;refine Kf (n:=7) (fo':=.rc (.cond (.s 11) .skip (.exit 0))) (fs':=[.seq (.seq (.block 1 (.seq (.ops Gm) (.seq (.ops Eb) U2))) (.ops CI)),.gst (.keep [0,8,9,10] [])]) (λb=>S1 ps i b ws more y) hj (by kernel_rfl) ?_
 exact Le.of_eq (by kernel_rfl)
def Nl:List Fm:=[.blk 2,.blk 1,.seq (.ops CI),.gst (.keep [0,8,9,10] [])]
theorem Ny (ps:Sl bt) (i:Int) (p:bt) (ws:List (List V)) (more:Bool) (y:Nat) (r:Out×St) (hj:decide (i<len ps)=true) (hx:idx ps i=some p)
 (h:rn S.bare lR some (.rc (.loop Cp)) Nl (I2 ps i p.events 0 ws more y)=some r):rn S.bare lR some (.rc J8) [] (I1 ps i ws more y)=some r:=by
 refine Le.get ?_;refine Kt (n:=7) (fo':=.rc (.cond (.s 11) .skip (.exit 0))) (fs':=[.seq (.seq (.block 1 (.seq (.ops Gm) (.seq (.ops Eb) U2))) (.ops CI)),.gst (.keep [0,8,9,10] [])]) (λb=>S1 ps i b ws more y) hj (by kernel_rfl) ?_
 refine KU hx ?_;refine LL 8 false [] (Gm.drop 1) [.seq (.seq (.ops Eb) U2),.blk 1,.seq (.ops CI),.gst (.keep [0,8,9,10] [])] ⟨[(0,.yl y),Cv 8 ps,Iv 9 (len ps),Iv 10 i,Bv 11 true,Iv 12 i],[],[],ws,more,y⟩ .i64 rfl (by kernel_rfl) λx h1=>?_
 obtain rfl:x=p:=by rw[hx]at h1;cases h1;rfl
 refine QX 1 false [] (Gm.drop 3) [.seq (.seq (.ops Eb) U2),.blk 1,.seq (.ops CI),.gst (.keep [0,8,9,10] [])] ⟨[(0,.yl y),Cv 8 ps,Iv 9 (len ps),Iv 10 i,Bv 11 true,Iv 12 i,Cv 14 x],[],[],ws,more,y⟩ [.v (.str ByteArray.empty),.v .aF,.v .aF] rfl (by simp only[aQ,n_,iu,jq,iD,jv,kG,jl,kS,iz,jr,oa,kz,kI,kE,kD,mg,mc,jm,kJ,SV.bQ];rfl) (by kernel_rfl) ?_
 refine Ast 1 false [] (Gm.drop 5) [.seq (.seq (.ops Eb) U2),.blk 1,.seq (.ops CI),.gst (.keep [0,8,9,10] [])] ⟨[(0,.yl y),Cv 8 ps,Iv 9 (len ps),Iv 10 i,Bv 11 true,Cv 14 x,Pv 4,Iv 3 i],[Xb 4 (⟨ByteArray.empty,.nil,.nil⟩:bt)],[],ws,more,y⟩ 4 0 x [.v (.str ByteArray.empty),.v .aF,.v .aF] ((cells x).map .v) rfl (by kernel_rfl) ?_
 refine Qm 6 false [] (Eb.drop 2) [.seq U2,.blk 1,.seq (.ops CI),.gst (.keep [0,8,9,10] [])] ⟨[(0,.yl y),Cv 8 ps,Iv 9 (len ps),Iv 10 i,Bv 11 true,Pv 4,Iv 3 i,Cv 16 x.events],[Xb 4 x],[],ws,more,y⟩ x.events rfl (by kernel_rfl) ?_
 refine BG (n:=5) (fo':=.rc (.loop Cp)) (fs':=Nl) (st':=I2 ps i x.events 0 ws more y) (by kernel_rfl) (Le.of_eq h)
theorem N1 (ps:Sl bt) (i:Int) (es:Sl Event) (j:Int) (ws:List (List V)) (more:Bool) (y:Nat) :
 rn S.bare lR some (.ex 2) Nl (S2 ps i es j false ws more y)=some (.norm,I1 ps (IntKind.wrap .i64 (i+1)) ws more y):=by kernel_rfl
theorem wrap_small (n:Nat) (h:n<9223372036854775807):IntKind.wrap .i64 ((n:Int)+1)=((n+1:Nat):Int):=by
 simp[IntKind.wrap,IntKind.bits,IntKind.signed];omega
abbrev eI (x:aa×Event):List V:=[enc x.1,enc x.2]
theorem Be.step {x:List V} {ws rest:List (List V)} {more:Bool} (h:Be ws (x::rest) more):∃ws',ws=x::ws'/\((!(more || !ws'.isEmpty))=false/\Be ws' rest more\/(!(more || !ws'.isEmpty))=true/\ws'=[]):=by
 rcases h with⟨rfl,rfl⟩|⟨rfl,hn,r,hr⟩
 .exact⟨rest,rfl,.inl ⟨rfl,.inl ⟨rfl,rfl⟩⟩⟩
 .cases ws with
  | nil=>exact absurd rfl hn
  | cons w ws=>
   simp only[List.cons_append,List.cons.injEq]at hr;obtain⟨rfl,rfl⟩:=hr;refine⟨ws,rfl,?_⟩
   cases ws with
   | nil=>exact .inr ⟨rfl,rfl⟩
   | cons z zs=>exact .inl ⟨rfl,.inr ⟨rfl,by simp,r,rfl⟩⟩
theorem DT {α:Type} {s:Sl α} {j:Nat} {x:α} {r:List α} (h:s.l.drop j=x::r):idx s (j:Int)=some x/\decide ((j:Int)<len s)=true/\s.l.drop (j+1)=r:=by
 have h1:j<s.l.length:=by
  apply Classical.byContradiction;intro hn;rw[List.drop_eq_nil_of_le (by omega)]at h;cases h
 have h2:=List.drop_eq_getElem_cons h1;rw[h2]at h;simp only[List.cons.injEq]at h;refine⟨?_,by simp[len,h1],h.2⟩
 unfold idx;rw[if_pos (by omega)]
 simp[ζd h1,h.1]
variable {Q:Out×St->Option (Out×St)} {fs:List Fm}
theorem inner (ps:Sl bt) (i:Int) (es:Sl Event) (hl:es.l.length<9223372036854775807) (more:Bool) (y:Nat) (R:List (List V)):∀(rem:List Event) (j:Nat),es.l.drop j=rem->∀ws,Be ws ((gm i j rem).map eI++R) more ->
 (∃(ws':List (List V)) (j':Int),Be ws' R more/\rn S.bare lR Q (.rc (.loop Cp)) fs (I2 ps i es j ws more y)=rn S.bare lR Q (.ex 2) fs (S2 ps i es j' false ws' more y)) \/
 (∃st':St,st'.want=[]/\rn S.bare lR Q (.rc (.loop Cp)) fs (I2 ps i es j ws more y)=Q (.ret,st'))
 | [],j,hd,ws,hw=>by
  have h1:decide ((j:Int)<len es)=false:=by
   have:es.l.length<=j:=by simpa using hd
   simp[len];omega
  exact .inl ⟨ws,j,by simpa [gm]using hw,Cy (Ro ps i es j ws more y h1)⟩
 | e::rem,j,hd,ws,hw=>by
  obtain⟨h1,h2,h3⟩:=DT hd;have hj:j<es.l.length:=by simpa [len]using h2
  simp only[gm,List.map_cons,List.cons_append]at hw;obtain⟨ws',rfl,hb⟩:=Be.step hw;have hwr:=wrap_small j (by omega)
  have hji:((j:Int)+1)=IntKind.wrap .i64 ((j:Int)+1):=by rw[hwr];simp
  rcases hb with⟨hb,hd'⟩|⟨hb,rfl⟩
  .have k:=SD (S:=S) ps i es j e ws' more y h2 h1 hb;rw[<-hji]at k;have k2:=CC (Q:=Q) (fs:=fs) k;have ih:=inner ps i es hl more y R rem (j+1) h3 ws' (by push_cast;exact hd')
   rw[show ((j+1:Nat):Int)=(j:Int)+1 from rfl]at ih;rcases ih with⟨ws2,j2,g1,g2⟩|⟨st',g1,g2⟩
   .exact .inl ⟨ws2,j2,g1,k2.trans g2⟩
   .exact .inr ⟨st',g1,k2.trans g2⟩
  .have k:=NI (S:=S) ps i es j e [] more y h2 h1 hb;rw[<-hji]at k;exact .inr ⟨_,by rfl,Co k⟩
theorem outer (ps:Sl bt) (hl:ps.l.length<9223372036854775807) (hes:∀p∈ps.l,p.events.l.length<9223372036854775807) (more:Bool) (y:Nat):∀(rem:List bt) (i:Nat),ps.l.drop i=rem->∀ws,Be ws ((dS i rem).map eI) more ->
 rn S.bare lR Qi (.rc (.loop J8)) [.blk 0] (I1 ps i ws more y)=some ()
 | [],i,hd,ws,hw=>by
  have h1:decide ((i:Int)<len ps)=false:=by
   have:ps.l.length<=i:=by simpa using hd
   simp[len];omega
  rw[Cy (QL ps i ws more y h1)];have:ws=[]:=by
   rcases hw with⟨_,rfl⟩|⟨_,hn,r,hr⟩
   .rfl
   .have:ws=[]:=by cases ws with
     | nil=>rfl
     | cons=>simp[dS]at hr
    exact absurd this hn
  subst this;rfl
 | p::rem,i,hd,ws,hw=>by
  obtain⟨h1,h2,h3⟩:=DT hd;have hi:i<ps.l.length:=by simpa [len]using h2
  have hp:p∈ps.l:=List.mem_of_mem_drop (i:=i) (by rw[hd];exact List.mem_cons_self ..)
  simp only[dS,List.map_append]at hw;have hwr:=wrap_small i (by omega)
  rcases inner (S:=S) (Q:=some) (fs:=Nl) ps i p.events (hes p hp) more y _ p.events.l 0 rfl ws hw with⟨ws',j',g1,g2⟩|⟨st',g1,g2⟩
  .rw[N1,hwr]at g2;rw[CC (Ny ps i p ws more y _ h2 h1 g2)];exact outer ps hl hes more y rem (i+1) h3 ws' g1
  .rw[Co (Ny ps i p ws more y _ h2 h1 g2)];simp[Qi,g1]
theorem all (t:Trace) (its:List (aa×Event)) (h:gF t=some its) (ws:List (List V)) (more:Bool) (hw:Be ws (its.map eI) more) (y:Nat) :
 rn S.bare lR Qi (.rc text.body) [] ⟨uV 0 (([]:List V).map .v++.yl y::[V.fptr (cells t)].map .v),[],[],ws,more,y⟩=some ():=by
 unfold gF at h;split at h
 .rename_i hk;cases h;simp only[ζh,List.all_eq_true,Dt,decide_eq_true_eq]at hk;refine Le.get ?_;refine Qm 4 false [] (Qa.drop 2) [.seq U1] ⟨[(0,.yl y),Cv 8 t.procs],[],[],ws,more,y⟩ t.procs rfl (by kernel_rfl) ?_
  refine BG (n:=5) (fo':=.rc (.loop J8)) (fs':=[.blk 0]) (st':=I1 t.procs 0 ws more y) (by kernel_rfl) (Le.of_eq ?_)
  exact outer t.procs hk.1 hk.2 more y t.procs.l 0 rfl ws hw
 .cases h
end
theorem FZ {α:Type} [aA α] {a b:Sl α} (h:aU a=aU b):rows a.l=rows b.l:=by
 cases a <;> cases b <;> first|rfl|(simp only[aU,Sl.k,mA,V.fsl.injEq,true_and,reduceCtorEq]at h;done)|(simp only[aU,Sl.k,mA,V.fsl.injEq,true_and,reduceCtorEq]at h;exact h)
theorem D_ (p:Int):∀(es es':List Event) (j:Int),rows es=rows es'->(gm p j es).map eI=(gm p j es').map eI
 | [],[],_,_=>rfl
 | [],_::_,_,h=>by simp[rows]at h
 | _::_,[],_,h=>by simp[rows]at h
 | e::es,e'::es',j,h=>by
  simp only[rows,List.map_cons,List.cons.injEq]at h;have h1:enc e=enc e':=by show V.agg (cells e)=V.agg (cells e');rw[h.1]
  simp only[gm,List.map_cons,eI,h1,D_ p es es' (j+1) h.2]
theorem Av:∀(ps ps':List bt) (i:Int),rows ps=rows ps'->(dS i ps).map eI=(dS i ps').map eI
 | [],[],_,_=>rfl
 | [],_::_,_,h=>by simp[rows]at h
 | _::_,[],_,h=>by simp[rows]at h
 | p::ps,p'::ps',i,h=>by
  simp only[rows,List.map_cons,List.cons.injEq]at h;have h1:aU p.events=aU p'.events:=by
   have:=h.1;change [V.str p.name,aU p.vars,aU p.events]=[V.str p'.name,aU p'.vars,aU p'.events]at this;simp only[List.cons.injEq]at this;exact this.2.2.1
  simp only[dS,List.map_append,D_ i _ _ 0 (FZ h1),Av ps ps' (i+1) h.2]
def Dp (f:FuncId) (g:FuncId) (a b:List V) (xs:List (List V)):Prop:=∃(t:Trace) (its:List (aa×Event)),g=f/\a=[]/\b=[.fptr (cells t)]/\gF t=some its/\xs=its.map eI
theorem Dp.uniq {f g:FuncId} {a b:List V} {xs ys:List (List V)} (h:Dp f g a b xs) (k:Dp f g a b ys):xs=ys:=by
 obtain⟨t,its,rfl,rfl,rfl,h1,rfl⟩:=h;obtain⟨t',its',_,_,h2,h3,rfl⟩:=k;simp only[List.cons.injEq,V.fptr.injEq,and_true]at h2;have h4:aU t.procs=aU t'.procs:=by
  change [aU t.procs]=[aU t'.procs]at h2;simpa using h2
 unfold gF at h1 h3;split at h1 <;> split at h3 <;> simp only[ζa,reduceCtorEq]at h1 h3;subst h1 h3;exact Av _ _ 0 (FZ h4)
end trace_events_c1
end Go.VE
namespace Go.VE
open Go.Proofs.YtdoibkkdaojjpaaGreat
noncomputable section
noncomputable def HI (f:FuncId):Option Cq:=bif Nat.beq f 166 then some (qC E)else bif Nat.beq f 163 then some (pQ E)else none
noncomputable def Sy:Sys:=⟨E,λn=>n,vC (trace_events_c1.Dp 175),xh E,HI⟩
theorem NS:Sy.prm 166=some (qC Sy.E):=by kernel_rfl
theorem O6:Sy.prm 163=some (pQ Sy.E):=by kernel_rfl
theorem QV:∀f q,HI f=some q->mI E f q:=by
 intro f q h;unfold HI at h
 cases h1:Nat.beq f 166 with
 | true=>
  rw[h1]at h;cases h;have:=Nat.eq_of_beq_eq_true h1;subst this;exact Me yf (by kernel_rfl) (by kernel_rfl) (zL (by kernel_rfl))
 | false=>
  rw[h1]at h
  cases h1:Nat.beq f 163 with
  | true=>
   rw[h1]at h;cases h;have:=Nat.eq_of_beq_eq_true h1;subst this;exact Lx (by kernel_rfl) (by kernel_rfl) (by kernel_rfl) (by kernel_rfl)
  | false=>
   rw[h1]at h;cases h
def Tx:qM:=L6 E some (lk Uw)
abbrev cL:bG:=cz Sy Tx
theorem Qf:∃fi,E.ft 175=some fi/\wC E some fi trace_events_c1.text:=Rs (by kernel_rfl)
theorem Dx:pO Sy Tx where
 fn f rf h:=let ⟨fi,h1,h2⟩:=K5 h;⟨fi,some,h1,yf,h2⟩
 wK f bs y h:=Kp h
 prm:=QV
theorem yI:∀f a b xs,Sy.items f a b=some xs->dU Sy f a b xs:=by
 intro f a b xs h;obtain⟨t,its,rfl,rfl,rfl,h1,rfl⟩:=HY h;obtain⟨fi,h2,h3⟩:=Qf;exact Lr Sy h2 yf h3 (Nat.le_of_ble_eq_true rfl) rfl λws more hw y=>trace_events_c1.all t its h1 ws more hw y
theorem v_ (t:Trace) (its:List (aa×Event)) (h:gF t=some its):Sy.items 175 [] [.fptr (cells t)]=some (its.map λx:aa×Event=>[enc x.1,enc x.2]):=
 HA ⟨t,its,rfl,rfl,rfl,h,rfl⟩ λys hy=>hy.uniq ⟨t,its,rfl,rfl,rfl,h,rfl⟩
theorem Kb:Sy.wK 8 []=some (.bool true):=uk (Fv rfl ⟨1,[],by kernel_rfl⟩)
end
end Go.VE
namespace Go.VE
noncomputable section
def r_ (t0:Trace) (x1:aa):Option Event:=
 (idx t0.procs x1.proc).bind λx_1=>
 (idx x_1.events (IntKind.wrap .i64 (x1.index-1))).bind λx_2=>
 some x_2
instance RZ (t0:Trace) (x1:aa):Fc Sy cL (r_ t0 x1):=Fc.N 139 [enc t0,enc x1] (dc 2 2 t0 (bC 10 λx_1 _=>bC 5 λx_2 _=>me 1 4 0 x_2 ah))
namespace cC
def bq (kind1 m2 p7:Int) (tb3:Trace) (vb6:aa) (i8:Int):Option (Fw Int Unit aa):=
 (idx tb3.procs p7).bind λx_1=>
 ay (decide (i8<(len x_1.events)))
 ((idx tb3.procs p7).bind λx_2=>
 (idx x_2.events i8).bind λx_3=>
 (ay (x_3.kind==kind1)
 (some (x_3.message==m2))
 (some false):Option Bool).bind λx_4=>
 ay x_4
 (some (.r (⟨p7,IntKind.wrap .i64 (i8+1)⟩:aa)))
 (some (.n (IntKind.wrap .i64 (i8+1)))))
 (some (.x ()))
def W2 (kind1 m2 p7 i8:Int) (tb3:Trace) (vb6:aa):Option (Fw Int Unit aa):=
 (aZ (λq:Int=>bq kind1 m2 p7 tb3 vb6 q) i8).bind (Fw.elim
 (λe=>some (.n (IntKind.wrap .i64 (p7+1))))
 (λe=>some (.r e)))
def aB (kind1 m2:Int) (tb3:Trace) (vb6:aa) (p7:Int):Option (Fw Int Unit aa):=
 ay (decide (p7<(len tb3.procs)))
 (W2 kind1 m2 p7 0 tb3 vb6)
 (some (.x ()))
def W1 (kind1 m2 p7:Int) (tb3:Trace) (vb6:aa):Option aa:=
 (aZ (λq:Int=>aB kind1 m2 tb3 vb6 q) p7).bind (Fw.elim
 (λe=>some ⟨0,0⟩)
 (λe=>some e))
end cC
def cC (t0:Trace) (kind1 m2:Int):Option aa:=
 cC.W1 kind1 m2 0 t0 (⟨0,0⟩:aa)
open cC in
instance Pu (t0:Trace) (kind1 m2:Int):Fc Sy cL (cC t0 kind1 m2):=Fc.M 127 [enc t0,.int .i64 kind1,.int .i64 m2] (dc 2 3 t0 (dA 11 (λqW1=>(aQ [Iv 1 kind1,Iv 2 m2,Pv 3,Pv 6,Iv 7 qW1] [Xb 3 t0,Xb 6 (⟨0,0⟩:aa)])) (λeW1=>(0,(aQ [Pv 6] [Xb 6 (⟨0,0⟩:aa)]))) (λeW1=>(aQ [Pv 6] [Xb 6 eW1])) (λqW1=>bB 7 t0.procs (aK 3 14 (dA 12 (λqW2=>(aQ [Iv 1 kind1,Iv 2 m2,Pv 3,Pv 6,Iv 7 qW1,Iv 8 qW2] [Xb 3 t0,Xb 6 (⟨0,0⟩:aa)])) (λeW2=>(2,(aQ [Iv 1 kind1,Iv 2 m2,Pv 3,Pv 6,Iv 7 qW1] [Xb 3 t0,Xb 6 (⟨0,0⟩:aa)]))) (λeW2=>(aQ [Pv 6] [Xb 6 eW2])) (λqW2=>bC 8 λx_1 _=>bB 2 x_1.events (aK 3 25 (bC 10 λx_2 _=>bC 3 λx_3 _=>me 2 9 0 x_3 (br 9 5 [9,41] 46 (aK 9 41 (aI 5) (aI 5)) λx_4=>aK 2 46 ah ah)) ah)) (λeW2=>ah) (λeW2=>ah)) ah)) (λeW1=>ah) (λeW1=>ah)))
namespace cA
def J1 (out5:Sl aa) (tb2:Trace) (xb3:aa):Option (Sl aa):=
 (r_ tb2 xb3).bind λx_1=>
 ay (x_1.kind==3)
 ((cC tb2 2 x_1.message).bind λx_2=>
 (i_ out5 (x_2:aa)).bind λx_3=>
 some x_3)
 (some out5)
end cA
def cA (t0:Trace) (x1:aa):Option (Sl aa):=
 ay (decide (x1.index>1))
 (cA.J1 (Sl.row [⟨x1.proc,IntKind.wrap .i64 (x1.index-1)⟩]:Sl aa) t0 x1)
 (cA.J1 (Sl.nil:Sl aa) t0 x1)
open cA in
theorem wO (t0:Trace) (x1:aa):Le ((cA t0 x1).bind λr=>some (bZ r)) (bn Sy cL (B0 (tr Tx 140)) (.rc (tb Tx 140),[],start ([enc t0,enc x1].map .v) [])):=
 dc 2 2 t0 (aK 17 9 (Nw 10 17 18 .aF (⟨x1.proc,IntKind.wrap .i64 (x1.index-1)⟩:aa) (xm 5 (aV 4 λx_1 _=>me 1 6 0 x_1 (aK 10 24 (aV 6 λx_2 _=>sO 1 2005 30 31 λx_3 _=>ah) ah)))) (xm 5 (aV 4 λx_1 _=>me 1 6 0 x_1 (aK 10 24 (aV 6 λx_2 _=>sO 1 2005 30 31 λx_3 _=>ah) ah))))
def mP (dir:aa->Option (Sl aa)):List (List Bool)×List aa->Option (Fw (List (List Bool)×List aa) (List (List Bool)) Empty)
 | (out,[])=>some (.x out)
 | (out,y::rest)=>if 0<=y.proc/\0<=y.index then(out[y.proc.toNat]?).bind λrow=>(row[y.index.toNat]?).bind λb=>
  ay b (some (.n (out,rest))) ((dir y).bind λmore=>if rest.length+more.l.length<=2147483648 then some (.n (out.set y.proc.toNat (row.set y.index.toNat true),rest++more.l))else none)else none
def eT (t:Trace):List (List Bool):=t.procs.l.map λP=>List.replicate (P.events.l.length+1) false
def wW (t:Trace):Bool:=decide (t.procs.l.length<=2147483648)&&t.procs.l.all λP=>decide (P.events.l.length+1<=2147483648)
def nested (out:List (List Bool)):Sl (Sl Bool):=if out=[]then .nil else .row (out.map .row)
def lG (t:Trace) (x:aa):Option (Sl (Sl Bool)):=
 if wW t then(cA t x).bind λs=>(aZ (mP (cA t)) (eT t,s.l)).bind (Fw.elim (λout=>some (nested out)) (λe=>Empty.elim e))else none
end
end Go.VE
namespace Go.VE
namespace pastX
abbrev uz:Nat->FuncId:=λn=>n
def r1:List RO:=[o2 2 (.a .box) [0] [],o2 3 (.a .box) [1] [],o1 4 (.k (.aF)) []]
def r2:List RO:=[o1 5 (.k (.aF)) []]
def r3:List RO:=[o1 6 (.k (.int .i64 0)) []]
def r4:List RO:=[o1 11 6 [],o2 12 (fa 0) [2] [],o2 13 (ld 1) [12] [],o2 14 ln [13] [],o2 15 (bI .lss) [11,14] []]
def r5:List RO:=[o1 18 5 [],o2 19 (fa 0) [2] [],o2 20 (ld 1) [19] [],o1 21 6 [],o2 22 (ix 3) [20,21] [],o2 23 (fa 2) [22] [],o2 24 (ld 1) [23] [],o2 25 ln [24] [],o2 26 (bI .add) [25,.k (.int .i64 1)] [],o2 27 (.a (.makeSl 1 [.bool false])) [26,26] [],o2 28 (.a (.buildSl 1 1 [.aF] [0])) [27] [],o2 29 (.l (.append 1)) [18,28] [],o1 5 29 []]
def r6:List RO:=[o1 16 6 [],o2 17 (bI .add) [16,.k (.int .i64 1)] [],o1 6 17 []]
def L1:RC:=.seq (.seq (.ops r4) (.cond (.s 15) (.skip) (.exit 0))) (.seq (.block 1 (.ops r5)) (.ops r6))
def r7:List RO:=[o2 30 (lD 1) [2] [],o2 31 (lD 2) [3] [],o2 32 .c [.f 140,30,31] [],o1 7 32 []]
def r8:List RO:=[o1 33 7 [],o2 34 ln [33] [],o2 35 (bI .gtr) [34,.k (.int .i64 0)] []]
def r9:List RO:=[o1 36 7 [],o2 37 (ix 2) [36,.k (.int .i64 0)] [],o2 38 (lD 2) [37] [],o2 8 (.a (.alloc 2 [.int .i64 0,.int .i64 0])) [] [],oz (su 2) [8,38] []]
def A5:List RO:=[o1 39 7 [],o2 40 (.p (.slice 2 true false)) [39,.k (.int .i64 1)] [],o1 7 40 []]
def C8:List RO:=[o1 41 5 [],o2 42 (fa 0) [8] [],o2 43 (ld 1) [42] [],o2 44 (ix 1) [41,43] [],o2 45 (ld 1) [44] [],o2 46 (fa 1) [8] [],o2 47 (ld 1) [46] [],on 48 (ix 1) [45,47] [],on 49 (ld 1) [48] []]
def CS:List RO:=[o1 50 5 [],o2 51 (fa 0) [8] [],o2 52 (ld 1) [51] [],o2 53 (ix 1) [50,52] [],o2 54 (ld 1) [53] [],o2 55 (fa 1) [8] [],o2 56 (ld 1) [55] [],on 57 (ix 1) [54,56] [],oy (su 1) [57,.k (.bool true)] []]
def CW:List RO:=[o2 58 (lD 1) [2] [],o2 59 (lD 2) [8] [],o2 60 .c [.f 140,58,59] [],o1 9 60 []]
def A9:List RO:=[o1 10 (.k (.int .i64 0)) []]
def C1:List RO:=[o1 61 10 [],o1 62 9 [],o2 63 ln [62] [],o2 64 (bI .lss) [61,63] []]
def CN:List RO:=[o1 67 7 [],o1 68 9 [],o1 69 10 [],o2 70 (ix 2) [68,69] [],o2 71 (lD 2) [70] [],o2 72 (.a (.buildSl 2 1 [.int .i64 0,.int .i64 0] [0])) [71] [],o2 73 (.l (.append 2)) [67,72] [],o1 7 73 []]
def JX:List RO:=[o1 65 10 [],o2 66 (bI .add) [65,.k (.int .i64 1)] [],o1 10 66 []]
def L3:RC:=.seq (.seq (.ops C1) (.cond (.s 64) (.skip) (.exit 4))) (.seq (.block 5 (.ops CN)) (.ops JX))
def L2:RC:=.seq (.seq (.ops r8) (.cond (.s 35) (.skip) (.exit 2))) (.block 3 (.seq (.ops r9) (.seq (.ops A5) (.seq (.seq (.mB C8) (.cond (.s 49) (.exit 3) (.skip))) (.seq (.mB CS) (.seq (.ops CW) (.seq (.ops A9) (.block 4 (.loop L3)))))))))
def Tv:List RO:=[o1 74 5 [],o1 4 74 []]
def code:RC:=.seq (.ops r1) (.seq (.ops r2) (.seq (.seq (.ops r3) (.block 0 (.loop L1))) (.seq (.ops r7) (.seq (.block 2 (.loop L2)) (.seq (.ops Tv) (.ret))))))
noncomputable abbrev tI:=Go.Proofs.YtdoibkkdaojjpaaGreat.E
def iy (out:List (List Bool)):List (List V):=out.map λr=>r.map V.bool
theorem shape:∃fi,tI.ft (uz 107)=some fi/\aJ ⟨tI,some,fi.ntmps⟩ false fi.body=some code/\2<=fi.ntmps/\fi.results=[.tmp 4]:=by
 have h:((tI.ft (uz 107)).map λfi=>(aJ ⟨tI,some,fi.ntmps⟩ false fi.body,Nat.ble 2 fi.ntmps,fi.results))=some (some code,true,[.tmp 4]):=by kernel_rfl
 obtain⟨fi,h1,h2⟩:=ζf.1 h;simp only[ζc]at h2;exact⟨fi,h1,h2.1,Nat.le_of_ble_eq_true h2.2.1,h2.2.2⟩
section
variable {E:Env} {N:Nat->FuncId} {t:Trace} {x:aa} {k:Nat} {F:Frame} {H H1:ak} {call:cq} {b:Option Nat}
theorem hU {o:RO} {l:List RO} {v:V} {r:Frame×ak} (hg:o.gd=none) (hv:aD E N call b o.now o.k (o.az.map (au N F)) H=some (v,H1)) (h:bE E N call b l (aq F o.dst v) H1=some r):bE E N call b (o::l) F H=some r:=by
 simp only[bE,hg,hv];exact h
theorem vp {o:RO} {l:List RO} {v:V} {r:Frame×ak} (hg:o.gd=none) (hv:aD E N call b o.now o.k (o.az.map (au N F)) H=some (v,H)) (h:bE E N call b l (aq F o.dst v) H=some r):bE E N call b (o::l) F H=some r:=hU hg hv h
theorem cG:bE E N call b [] F H=some (F,H):=rfl
theorem ld1 (h:H[0]? = some (.row 1 [cells t])):dy H (.load 1 false) [.hptr 0 0 0]=some (aU t.procs):=by
 simp[dy,cN,h,Ob.rows];rfl
theorem UI {s:Sl bt} {p:bt} {i:Nat} (h:s.l[i]? = some p):jV 3 (aU s) (i:Int)=some (.fptr (cells p)):=by
 have:=BZ (N:=λn=>n) s .i64 (i:Int) 3 rfl
 simp only[aj]at this;rw[this,show idx s (i:Int)=some p from by unfold idx;rw[if_pos (by omega)];exact h];rfl
theorem x4 (f2:get F 2=.hptr 0 0 0) (f6:get F 6=.int .i64 k) (h0:H[0]? = some (.row 1 [cells t])) :
 ∃F',bE E N call none r4 F H=some (F',H)/\get F' 15=.bool (decide (k<t.procs.l.length))/\(∀s,s<11->get F' s=get F s):=by
 refine⟨_,vp (v:=.int .i64 k) rfl ?_ <| vp (v:=.hptr 0 0 0) rfl ?_ <| vp (v:=aU t.procs) rfl ?_ <| vp (v:=.int .i64 t.procs.l.length) rfl ?_ <| vp (v:=.bool (decide (k<t.procs.l.length))) rfl ?_ cG,?_,?_⟩
 .simp[aD,au,aj,f6]
 .simp[aD,au,aj,aq,f2,fG]
 .simp only[aD,List.map_cons,List.map_nil,au,aq,ax,Nat.reduceEqDiff,if_true,if_false];rw[ld1 h0];rfl
 .simp only[aD,List.map_cons,List.map_nil,au,aq,ax,Nat.reduceEqDiff,if_true,if_false];rw[vW];rfl
 .simp[aD,au,aj,aq,fB,mh]
 .simp[aq]
 .intro s hs;simp only[aq,ax]
  repeat (rw[if_neg (by omega)])
theorem vD {n:Nat} (h:n<=2147483648):IntKind.wrap .i64 ((n:Int)+1)=((n+1:Nat):Int):=by
 simp[IntKind.wrap,IntKind.bits,IntKind.signed];omega
theorem x5 {P:bt} {o:Nat} {ids:List Nat} {rows:List (List V)} (f2:get F 2=.hptr 0 0 0) (f6:get F 6=.int .i64 k) (h0:H[0]? = some (.row 1 [cells t])) (hP:t.procs.l[k]? = some P) (hl:P.events.l.length+1<=2147483648)
 (hn:kA H (get F 5) o ids rows) (hr:rows.length+1<=2147483648) :
 ∃F' H',bE E N call none r5 F H=some (F',H')/\kA H' (get F' 5) (H.length+2) (ids++[H.length]) (rows++[List.replicate (P.events.l.length+1) (.bool false)])/\H.length<=H'.length/\(∀id,id<H.length->id≠o\/rows=[]->H'[id]? = H[id]?)/\(∀s,s<11->s≠5->get F' s=get F s):=by
 obtain⟨H',p1,p2,p3,p4⟩:=hn.push (List.replicate (P.events.l.length+1) (.bool false)) hr;have hrep:gG (List.replicate (P.events.l.length+1) (V.bool false))=List.replicate (P.events.l.length+1) [.bool false]:=by simp[gG]
 rw[hrep,List.length_replicate]at p1;have hb:=vD (n:=P.events.l.length) (by omega)
 refine⟨_,H',vp (v:=get F 5) rfl ?_ <| vp (v:=.hptr 0 0 0) rfl ?_ <| vp (v:=aU t.procs) rfl ?_ <| vp (v:=.int .i64 k) rfl ?_ <| vp (v:=.fptr (cells P)) rfl ?_ <| vp (v:=.fptr [aU P.events]) rfl ?_ <| vp (v:=aU P.events) rfl ?_ <|
  vp (v:=.int .i64 P.events.l.length) rfl ?_ <| vp (v:=.int .i64 ((P.events.l.length+1:Nat):Int)) rfl ?_ <| hU (v:=.hsl H.length 1 0 (P.events.l.length+1)) (H1:=H++[.row 1 (List.replicate (P.events.l.length+1) [.bool false])]) rfl ?_ <|
  hU (v:=.hsl (H.length+1) 1 0 1) (H1:=H++[.row 1 (List.replicate (P.events.l.length+1) [.bool false])]++[.row 1 [[.hsl H.length 1 0 (P.events.l.length+1)]]]) rfl ?_ <|
  hU (v:=.hsl (H.length+2) 1 0 (rows.length+1)) (H1:=H') rfl ?_ <| vp (v:=.hsl (H.length+2) 1 0 (rows.length+1)) rfl ?_ cG,?_,p3,p4,?_⟩
 .simp[aD,au,aj]
 .simp[aD,au,aj,aq,f2,fG]
 .simp only[aD,List.map_cons,List.map_nil,au,aq,ax,Nat.reduceEqDiff,if_true,if_false];rw[ld1 h0];rfl
 .simp[aD,au,aj,aq,f6]
 .simp only[aD,List.map_cons,List.map_nil,au,aq,ax,Nat.reduceEqDiff,if_true,if_false,aj];rw[UI hP];rfl
 .simp only[aD,List.map_cons,List.map_nil,au,aq,ax,Nat.reduceEqDiff,if_true,if_false,aj];rfl
 .simp only[aD,List.map_cons,List.map_nil,au,aq,ax,Nat.reduceEqDiff,if_true,if_false];rfl
 .simp only[aD,List.map_cons,List.map_nil,au,aq,ax,Nat.reduceEqDiff,if_true,if_false];rw[vW];rfl
 .simp only[aD,List.map_cons,List.map_nil,au,aq,ax,Nat.reduceEqDiff,if_true,if_false,aj,fB];rw[hb];rfl
 .simp only[aD,List.map_cons,List.map_nil,au,aq,ax,Nat.reduceEqDiff,if_true,if_false,iT];rw[if_pos ⟨trivial,trivial,by omega,by omega,by omega⟩]
  simp only[Option.map_some,Mk.val,Int.toNat_natCast]
 .simp only[aD,List.map_cons,List.map_nil,au,aq,ax,Nat.reduceEqDiff,if_true,if_false,iT];simp[fE,V.cells,V.one,Mk.val]
 .simp only[aD,List.map_cons,List.map_nil,au,aq,ax,Nat.reduceEqDiff,if_true,if_false];exact p1
 .simp[aD,au,aj,aq]
 .simp only[aq,ax,if_true];exact p2
 .intro s hs h5;simp only[aq,ax];rw[if_neg (Ne.symm h5)]
  repeat (rw[if_neg (by omega)])
theorem x6 (f6:get F 6=.int .i64 k) (hk:k<=2147483648):∃F',bE E N call none r6 F H=some (F',H)/\get F' 6=.int .i64 ((k+1:Nat):Int)/\(∀s,s<11->s≠6->get F' s=get F s):=by
 have hb:=vD hk;refine⟨_,vp (v:=.int .i64 k) rfl ?_ <| vp (v:=.int .i64 ((k+1:Nat):Int)) rfl ?_ <| vp (v:=.int .i64 ((k+1:Nat):Int)) rfl ?_ cG,?_,?_⟩
 .simp[aD,au,aj,f6]
 .simp only[aD,List.map_cons,List.map_nil,au,aq,ax,Nat.reduceEqDiff,if_true,if_false,aj,fB];rw[hb];rfl
 .simp[aD,au,aj,aq]
 .simp[aq]
 .intro s hs h6;simp only[aq,ax];rw[if_neg (Ne.symm h6)]
  repeat (rw[if_neg (by omega)])
end
structure P1 (t:Trace) (x:aa) (k:Nat) (F:Frame) (H:ak):Prop where
 f2:get F 2=.hptr 0 0 0
 f3:get F 3=.hptr 1 0 0
 f6:get F 6=.int .i64 k
 h0:H[0]? = some (.row 1 [cells t])
 h1:H[1]? = some (.row 2 [cells x])
 ns:∃o ids,kA H (get F 5) o ids (iy ((eT t).take k))/\(k≠0->2<=o)/\∀id∈ids,2<=id
theorem t_ (out:List (List Bool)):(iy out).length=out.length:=by simp[iy]
theorem Iq {E:Env} {N:Nat->FuncId} {t:Trace} {x:aa} (hok:wW t=true):∀(m k:Nat) (F:Frame) (H:ak),k+m=t.procs.l.length->P1 t x k F H->∃F' H',kf E N L1 F H (.exit 0) F' H'/\P1 t x t.procs.l.length F' H':=by
 have hok':t.procs.l.length<=2147483648/\∀P∈t.procs.l,P.events.l.length+1<=2147483648:=by
  simpa [wW]using hok
 intro m
 induction m with
 | zero=>
  intro k F H hk p;have hk':k=t.procs.l.length:=by omega
  obtain⟨F1,e1,e2,e3⟩:=x4 (E:=E) (N:=N) (call:=λ_ _ _=>none) p.f2 p.f6 p.h0
  refine⟨F1,H,kf.stop (Ex.ru (Ex.seq (Ex.bT λc=>?_) (Ex.nS ?_ Ex.exit)) (by simp)) (by simp),?_⟩
  .obtain⟨F2,g1,_,_⟩:=x4 (E:=E) (N:=N) (call:=c) p.f2 p.f6 p.h0;have:bE E N c none r4 F H=bE E N (λ_ _ _=>none) none r4 F H:=rfl
   rw[this];exact e1
  .show get F1 15=_;rw[e2];simp[hk']
  .subst hk';exact⟨by rw[e3 2 (by omega)];exact p.f2,by rw[e3 3 (by omega)];exact p.f3,by rw[e3 6 (by omega)];exact p.f6,p.h0,p.h1,by rw[e3 5 (by omega)];exact p.ns⟩
 | succ m ih=>
  intro k F H hk p;have hkl:k<t.procs.l.length:=by omega
  obtain⟨o,ids,n1,n2,n3⟩:=p.ns;obtain⟨F1,e1,e2,e3⟩:=x4 (E:=E) (N:=N) (call:=λ_ _ _=>none) p.f2 p.f6 p.h0
  have hP:=ζd hkl;have hlen:((eT t).take k).length=k:=by simp[eT];omega
  have n1':kA H (get F1 5) o ids (iy ((eT t).take k)):=by rw[e3 5 (by omega)];exact n1
  obtain⟨F2,H2,g1,g2,g3,g4,g5⟩:=x5 (E:=E) (N:=N) (call:=λ_ _ _=>none) (by rw[e3 2 (by omega)];exact p.f2) (by rw[e3 6 (by omega)];exact p.f6) p.h0 hP (hok'.2 _ (List.getElem_mem hkl)) n1' (by rw[t_,hlen];omega)
  obtain⟨F3,q1,q2,q3⟩:=x6 (E:=E) (N:=N) (call:=λ_ _ _=>none) (H:=H2) (k:=k) (F:=F2) (by rw[g5 6 (by omega) (by omega),e3 6 (by omega)];exact p.f6) (by omega)
  have hl:=n1.lt;have h0l:=(ζe.1 p.h0).1;have h1l:=(ζe.1 p.h1).1;have hkeep:∀i,i<2->i<H.length->H2[i]? = H[i]? := λi hi hl=>g4 i hl (by
   by_cases hk0:k=0
   .subst hk0;right;simp[iy]
   .left;have:=n2 hk0;omega)
  have hp3:P1 t x (k+1) F3 H2:=by
   refine⟨by rw[q3 2 (by omega) (by omega),g5 2 (by omega) (by omega),e3 2 (by omega)];exact p.f2,by rw[q3 3 (by omega) (by omega),g5 3 (by omega) (by omega),e3 3 (by omega)];exact p.f3,q2,
    by rw[hkeep 0 (by omega) h0l];exact p.h0,by rw[hkeep 1 (by omega) h1l];exact p.h1,H.length+2,ids++[H.length],?_,λ_=>by omega,λid hid=>?_⟩
   .rw[q3 5 (by omega) (by omega)]
    have hrows:iy ((eT t).take (k+1))=iy ((eT t).take k)++[List.replicate (t.procs.l[k].events.l.length+1) (.bool false)]:=by
     rw[List.take_add_one];have:(eT t)[k]? = some (List.replicate (t.procs.l[k].events.l.length+1) false):=by simp[eT,hP]
     rw[this];simp[iy]
    rw[hrows];exact g2
   .rcases List.mem_append.1 hid with h|h
    .exact n3 id h
    .simp at h;omega
  obtain⟨F',H',r1,r2⟩:=ih (k+1) F3 H2 (by omega) hp3
  refine⟨F',H',kf.step (Ex.seq (Ex.seq (Ex.bT λc=>e1) (Ex.lB ?_ Ex.skip)) (Ex.seq (Ex.block (Ex.bT λc=>g1)) (Ex.bT λc=>q1))) r1,r2⟩
  show get F1 15=_;rw[e2];simp[hkl]
section
variable {E:Env} {N:Nat->FuncId} {t:Trace} {x y:aa} {F:Frame} {H:ak} {call:cq}
theorem x8 {l:List (List V)} {id:Nat} (h:iQ H (get F 7) l id):∃F',bE E N call none r8 F H=some (F',H)/\get F' 35=.bool (decide (0<l.length))/\(∀s,s<11->get F' s=get F s):=by
 refine⟨_,vp (v:=get F 7) rfl ?_ <| vp (v:=.int .i64 l.length) rfl ?_ <| vp (v:=.bool (decide (0<l.length))) rfl ?_ cG,?_,?_⟩
 .simp[aD,au,aj]
 .simp only[aD,List.map_cons,List.map_nil,au,aq,ax,Nat.reduceEqDiff,if_true,if_false,aj,h.len,Option.map_some]
 .simp[aD,au,aj,aq,fB,mh]
 .simp[aq]
 .intro s hs;simp only[aq,ax]
  repeat (rw[if_neg (by omega)])
theorem x9 {l:List (List V)} {id:Nat} (h:iQ H (get F 7) (cells y::l) id):∃F',bE E N call none r9 F H=some (F',H++[.row 2 [cells y]])/\get F' 8=.hptr H.length 0 0/\(∀s,s<11->s≠8->get F' s=get F s):=by
 obtain⟨p,p1,p2⟩:=h.get (i:=0) (c:=cells y) rfl;refine⟨_,vp (v:=get F 7) rfl ?_ <| vp (v:=p) rfl ?_ <| vp (v:=.agg (cells y)) rfl ?_ <| hU (v:=.hptr H.length 0 0) (H1:=H++[.row 2 [[.int .i64 0,.int .i64 0]]]) rfl ?_ <| hU (v:=.undef) (H1:=H++[.row 2 [cells y]]) rfl ?_ cG,?_,?_⟩
 .simp[aD,au,aj]
 .simp only[aD,List.map_cons,List.map_nil,au,aq,ax,Nat.reduceEqDiff,if_true,if_false,aj];rw[show (0:Int)=((0:Nat):Int)from rfl,p1];rfl
 .simp only[aD,List.map_cons,List.map_nil,au,aq,ax,Nat.reduceEqDiff,if_true,if_false];rw[p2];rfl
 .simp only[aD,List.map_cons,List.map_nil,au,aq,ax,Nat.reduceEqDiff,if_true,if_false,iT,Option.map_some,Mk.val]
 .simp only[aD,List.map_cons,List.map_nil,au,aq,ax,Nat.reduceEqDiff,if_true,if_false];simp[dI,V.cells,V.one]
 .simp[aq]
 .intro s hs h8;simp only[aq,ax];rw[if_neg (Ne.symm h8)]
  repeat (rw[if_neg (by omega)])
theorem UO {c:List V} {l:List (List V)} {id:Nat} (h:iQ H (get F 7) (c::l) id):∃F',bE E N call none A5 F H=some (F',H)/\iQ H (get F' 7) l id/\(∃off m off',get F 7=.hsl id 2 off m/\get F' 7=.hsl id 2 off' l.length)/\(∀s,s<11->s≠7->get F' s=get F s):=by
 obtain⟨w',p1,p2,off,m,off',p3,p4⟩:=h.tail;refine⟨_,vp (v:=get F 7) rfl ?_ <| vp (v:=w') rfl ?_ <| vp (v:=w') rfl ?_ cG,?_,⟨off,m,off',p3,?_⟩,?_⟩
 .simp[aD,au,aj]
 .simp only[aD,List.map_cons,List.map_nil,au,aq,ax,Nat.reduceEqDiff,if_true,if_false,aj,jK,ζb,p1,Option.map_some]
 .simp[aD,au,aj,aq]
 .simp only[aq,ax,if_true];exact p2
 .simp only[aq,ax,if_true];exact p4
 .intro s hs h8;simp only[aq,ax];rw[if_neg (Ne.symm h8)]
  repeat (rw[if_neg (by omega)])
theorem iE (H:ak):H.take H.length=H:=List.take_length ..
theorem Qh {c:Nat} (hc:H[c]? = some (.row 2 [cells y])):dy H (.load 1 false) [.hptr c 0 0]=some (.int .i64 y.proc)/\dy H (.load 1 false) [.hptr c 0 1]=some (.int .i64 y.index)/\dy H (.load 2 true) [.hptr c 0 0]=some (enc y):=by
 refine⟨?_,?_,?_⟩ <;> simp[dy,cN,hc,Ob.rows,cut] <;> rfl
theorem QI {c o:Nat} {ids:List Nat} {rows:List (List V)} {p j:Nat} {r:List V} {u:V} (f8:get F 8=.hptr c 0 0) (hc:H[c]? = some (.row 2 [cells y])) (hn:kA H (get F 5) o ids rows) (hp:y.proc=p) (hj:y.index=j) (hr:rows[p]? = some r) (hu:r[j]? = some u) :
 ∃F',bE E N call (some H.length) C8 F H=some (F',H)/\get F' 49=u/\(∀s,s<11->get F' s=get F s):=by
 obtain⟨id,q0,q1,q2,q3,q4⟩:=hn.cell hr hu;obtain⟨c1,c2,_⟩:=Qh hc;rw[hp]at c1;rw[hj]at c2;refine⟨_,vp (v:=get F 5) rfl ?_ <| vp (v:=.hptr c 0 0) rfl ?_ <| vp (v:=.int .i64 p) rfl ?_ <| vp (v:=.hptr o p 0) rfl ?_ <| vp (v:=.hsl id 1 0 r.length) rfl ?_ <| vp (v:=.hptr c 0 1) rfl ?_ <| vp (v:=.int .i64 j) rfl ?_ <| vp (v:=.hptr id j 0) rfl ?_ <| vp (v:=u) rfl ?_ cG,?_,?_⟩
 .simp[aD,au,aj]
 .simp[aD,au,aj,aq,f8,fG]
 .simp only[aD,List.map_cons,List.map_nil,au,aq,ax,Nat.reduceEqDiff,if_true,if_false,iE];rw[c1];rfl
 .simp only[aD,List.map_cons,List.map_nil,au,aq,ax,Nat.reduceEqDiff,if_true,if_false,aj];rw[q1];rfl
 .simp only[aD,List.map_cons,List.map_nil,au,aq,ax,Nat.reduceEqDiff,if_true,if_false,iE];rw[q2];rfl
 .simp[aD,au,aj,aq,f8,fG]
 .simp only[aD,List.map_cons,List.map_nil,au,aq,ax,Nat.reduceEqDiff,if_true,if_false,iE];rw[c2];rfl
 .simp only[aD,List.map_cons,List.map_nil,au,aq,ax,Nat.reduceEqDiff,if_true,if_false,aj];rw[q3];rfl
 .simp only[aD,List.map_cons,List.map_nil,au,aq,ax,Nat.reduceEqDiff,if_true,if_false,iE];rw[q4];rfl
 .simp[aq]
 .intro s hs;simp only[aq,ax]
  repeat (rw[if_neg (by omega)])
theorem UT {c o:Nat} {ids:List Nat} {rows:List (List V)} {p j:Nat} {r:List V} {u:V} (f8:get F 8=.hptr c 0 0) (hc:H[c]? = some (.row 2 [cells y])) (hn:kA H (get F 5) o ids rows) (hp:y.proc=p) (hj:y.index=j) (hr:rows[p]? = some r) (hu:r[j]? = some u) :
 ∃F' H',bE E N call (some H.length) CS F H=some (F',H')/\kA H' (get F' 5) o ids (rows.set p (r.set j (.bool true)))/\H'.length=H.length/\(∀i,i∉ids->H'[i]? = H[i]?)/\(∀s,s<11->get F' s=get F s):=by
 obtain⟨id,q0,q1,q2,q3,q4⟩:=hn.cell hr hu;obtain⟨c1,c2,_⟩:=Qh hc;rw[hp]at c1;rw[hj]at c2;obtain⟨H',s1,s2,s3,s4⟩:=hn.set hr (ζe.1 hu).1 q0 (u:=.bool true) rfl rfl;refine⟨_,H',vp (v:=get F 5) rfl ?_ <| vp (v:=.hptr c 0 0) rfl ?_ <| vp (v:=.int .i64 p) rfl ?_ <| vp (v:=.hptr o p 0) rfl ?_ <| vp (v:=.hsl id 1 0 r.length) rfl ?_ <| vp (v:=.hptr c 0 1) rfl ?_ <| vp (v:=.int .i64 j) rfl ?_ <| vp (v:=.hptr id j 0) rfl ?_ <| hU (v:=.undef) (H1:=H') rfl ?_ cG,?_,s3,λi hi=>s4 i λe=>hi (e▸List.mem_of_getElem? q0),?_⟩
 .simp[aD,au,aj]
 .simp[aD,au,aj,aq,f8,fG]
 .simp only[aD,List.map_cons,List.map_nil,au,aq,ax,Nat.reduceEqDiff,if_true,if_false,iE];rw[c1];rfl
 .simp only[aD,List.map_cons,List.map_nil,au,aq,ax,Nat.reduceEqDiff,if_true,if_false,aj];rw[q1];rfl
 .simp only[aD,List.map_cons,List.map_nil,au,aq,ax,Nat.reduceEqDiff,if_true,if_false,iE];rw[q2];rfl
 .simp[aD,au,aj,aq,f8,fG]
 .simp only[aD,List.map_cons,List.map_nil,au,aq,ax,Nat.reduceEqDiff,if_true,if_false,iE];rw[c2];rfl
 .simp only[aD,List.map_cons,List.map_nil,au,aq,ax,Nat.reduceEqDiff,if_true,if_false,aj];rw[q3];rfl
 .simp only[aD,List.map_cons,List.map_nil,au,aq,ax,Nat.reduceEqDiff,if_true,if_false,s1]
 .simp only[aq,ax,Nat.reduceEqDiff,if_false];exact s2
 .intro s hs;simp only[aq,ax]
  repeat (rw[if_neg (by omega)])
def Dh (E:Env) (N:Nat->FuncId) (t:Trace) (dir:aa->Option (Sl aa)):Prop:=∀(y:aa) (s:Sl aa) (H:ak),dir y=some s ->
 ∃w X id,(∃n,∀k,n<=k->dL E (run E k) (N 140) [enc t,enc y] H=some (w,H++X))/\iQ (H++X) w (s.l.map cells) id/\(∀off m,w=.hsl id 2 off m->id=H.length)
theorem Uf {a d:Nat} (hd:E.keep (N 140)=true) {dir:aa->Option (Sl aa)} (hD:Dh E N t dir) {s:Sl aa} (hs:dir y=some s) (f2:get F 2=.hptr 0 0 0) (h0:H[0]? = some (.row 1 [cells t])) {c:Nat} (hc:H[c]? = some (.row 2 [cells y])) :
 ∃w X id,iQ (H++X) w (s.l.map cells) id/\(∀off m,w=.hsl id 2 off m->id=H.length) /\
  (get F 8=.hptr c 0 0->∃F',(∃n,∀k,n<=k->bE E N (run E k) none CW F H=some (F',H++X))/\get F' 9=w/\(∀s,s<11->s≠9->get F' s=get F s)) /\
  (get F 3=.hptr c 0 0->∃F',(∃n,∀k,n<=k->bE E N (run E k) none r7 F H=some (F',H++X))/\get F' 7=w/\(∀s,s<11->s≠7->get F' s=get F s)):=by
 obtain⟨w,X,id,⟨n,e1⟩,e2,e3⟩:=hD y s H hs;have ht:dy H (.load 1 true) [.hptr 0 0 0]=some (enc t):=by
  simp[dy,cN,h0,Ob.rows,cut];rfl
 obtain⟨_,_,hy⟩:=Qh hc;refine⟨w,X,id,e2,e3,λf8=>⟨_,⟨n,λk hk=>vp (v:=enc t) rfl ?_ <| vp (v:=enc y) rfl ?_ <| hU (v:=w) (H1:=H++X) rfl ?_ <| vp (v:=w) rfl ?_ cG⟩,?_,?_⟩,λf3=>⟨_,⟨n,λk hk=>vp (v:=enc t) rfl ?_ <| vp (v:=enc y) rfl ?_ <| hU (v:=w) (H1:=H++X) rfl ?_ <| vp (v:=w) rfl ?_ cG⟩,?_,?_⟩⟩
 .simp only[aD,List.map_cons,List.map_nil,au,f2];rw[ht];rfl
 .simp only[aD,List.map_cons,List.map_nil,au,aq,ax,Nat.reduceEqDiff,if_true,if_false,f8];rw[hy];rfl
 .simp only[aD,List.map_cons,List.map_nil,au,aq,ax,Nat.reduceEqDiff,if_true,if_false,hd,List.nil_append,List.append_nil];exact e1 k hk
 .simp[aD,au,aj,aq]
 .simp[aq]
 .intro s hs h9;simp only[aq,ax];rw[if_neg (Ne.symm h9)]
  repeat (rw[if_neg (by omega)])
 .simp only[aD,List.map_cons,List.map_nil,au,f2];rw[ht];rfl
 .simp only[aD,List.map_cons,List.map_nil,au,aq,ax,Nat.reduceEqDiff,if_true,if_false,f3];rw[hy];rfl
 .simp only[aD,List.map_cons,List.map_nil,au,aq,ax,Nat.reduceEqDiff,if_true,if_false,hd,List.nil_append,List.append_nil];exact e1 k hk
 .simp[aD,au,aj,aq]
 .simp[aq]
 .intro s hs h9;simp only[aq,ax];rw[if_neg (Ne.symm h9)]
  repeat (rw[if_neg (by omega)])
end
section
variable {E:Env} {N:Nat->FuncId} {F:Frame} {H:ak} {call:cq} {i:Nat}
theorem Nc {l:List (List V)} {id:Nat} (f10:get F 10=.int .i64 i) (h:iQ H (get F 9) l id):∃F',bE E N call none C1 F H=some (F',H)/\get F' 64=.bool (decide (i<l.length))/\(∀s,s<11->get F' s=get F s):=by
 refine⟨_,vp (v:=.int .i64 i) rfl ?_ <| vp (v:=get F 9) rfl ?_ <| vp (v:=.int .i64 l.length) rfl ?_ <| vp (v:=.bool (decide (i<l.length))) rfl ?_ cG,?_,?_⟩
 .simp[aD,au,aj,f10]
 .simp[aD,au,aj,aq]
 .simp only[aD,List.map_cons,List.map_nil,au,aq,ax,Nat.reduceEqDiff,if_true,if_false,aj,h.len,Option.map_some]
 .simp[aD,au,aj,aq,fB,mh]
 .simp[aq]
 .intro s hs;simp only[aq,ax]
  repeat (rw[if_neg (by omega)])
theorem UZ {l l9:List (List V)} {id id9:Nat} {c:List V} (f10:get F 10=.int .i64 i) (h:iQ H (get F 7) l id) (h9:iQ H (get F 9) l9 id9) (hc:l9[i]? = some c) (hl:l.length+1<=2147483648) :
 ∃F' H',bE E N call none CN F H=some (F',H')/\iQ H' (get F' 7) (l++[c]) (H.length+1)/\H'.length=H.length+2/\(∀i,i<H.length->(∀off m,get F 7=.hsl id 2 off m->i≠id)->H'[i]? = H[i]?)/\(∀s,s<11->s≠7->get F' s=get F s):=by
 have hcc:=h9.c c (List.mem_of_getElem? hc);obtain⟨p,p1,p2⟩:=h9.get hc;obtain⟨H',q1,q2,q3,q4⟩:=h.push hcc hl;refine⟨_,H',vp (v:=get F 7) rfl ?_ <| vp (v:=get F 9) rfl ?_ <| vp (v:=.int .i64 i) rfl ?_ <| vp (v:=p) rfl ?_ <| vp (v:=.agg c) rfl ?_ <| hU (v:=.hsl H.length 2 0 1) (H1:=H++[.row 2 [c]]) rfl ?_ <| hU (v:=.hsl (H.length+1) 2 0 (l.length+1)) (H1:=H') rfl ?_ <| vp (v:=.hsl (H.length+1) 2 0 (l.length+1)) rfl ?_ cG,?_,q3,q4,?_⟩
 .simp[aD,au,aj]
 .simp[aD,au,aj,aq]
 .simp[aD,au,aj,aq,f10]
 .simp only[aD,List.map_cons,List.map_nil,au,aq,ax,Nat.reduceEqDiff,if_true,if_false,aj];rw[p1];rfl
 .simp only[aD,List.map_cons,List.map_nil,au,aq,ax,Nat.reduceEqDiff,if_true,if_false];rw[p2];rfl
 .simp only[aD,List.map_cons,List.map_nil,au,aq,ax,Nat.reduceEqDiff,if_true,if_false,iT];have h2:c.all V.one=true:=hcc.2;simp[fE,V.cells,hcc.1,Mk.val];exact λa ha=>List.all_eq_true.1 h2 a ha
 .simp only[aD,List.map_cons,List.map_nil,au,aq,ax,Nat.reduceEqDiff,if_true,if_false];exact q1
 .simp[aD,au,aj,aq]
 .simp only[aq,ax,if_true];exact q2
 .intro s hs h8;simp only[aq,ax];rw[if_neg (Ne.symm h8)]
  repeat (rw[if_neg (by omega)])
theorem UQ (f10:get F 10=.int .i64 i) (hk:i<=2147483648):∃F',bE E N call none JX F H=some (F',H)/\get F' 10=.int .i64 ((i+1:Nat):Int)/\(∀s,s<11->s≠10->get F' s=get F s):=by
 have hb:=vD hk;refine⟨_,vp (v:=.int .i64 i) rfl ?_ <| vp (v:=.int .i64 ((i+1:Nat):Int)) rfl ?_ <| vp (v:=.int .i64 ((i+1:Nat):Int)) rfl ?_ cG,?_,?_⟩
 .simp[aD,au,aj,f10]
 .simp only[aD,List.map_cons,List.map_nil,au,aq,ax,Nat.reduceEqDiff,if_true,if_false,aj,fB];rw[hb];rfl
 .simp[aD,au,aj,aq]
 .simp[aq]
 .intro s hs h6;simp only[aq,ax];rw[if_neg (Ne.symm h6)]
  repeat (rw[if_neg (by omega)])
structure P3 (l l9:List (List V)) (B i:Nat) (F:Frame) (H:ak):Prop where
 f10:get F 10=.int .i64 i
 t9:∃id9,iQ H (get F 9) l9 id9/\∃id,iQ H (get F 7) l id/\(∀off m,get F 7=.hsl id 2 off m->B<=id/\∀off' m',get F 9=.hsl id9 2 off' m'->id≠id9)
 len:B<=H.length
theorem Sa (l9:List (List V)) (B:Nat) (hl9:l9.length<=2147483648):∀(m i:Nat) (l:List (List V)) (F:Frame) (H:ak),i+m=l9.length->l.length+m<=2147483648->P3 l l9 B i F H ->
 ∃F' H',kf E N L3 F H (.exit 4) F' H'/\(∃id,iQ H' (get F' 7) (l++l9.drop i) id/\∀off m,get F' 7=.hsl id 2 off m->B<=id)/\(∀s,s<7->get F' s=get F s)/\(∀j,j<B->H'[j]? = H[j]?)/\H.length<=H'.length:=by
 intro m
 induction m with
 | zero=>
  intro i l F H hi hl p;obtain⟨id9,t9,id,t7,ap⟩:=p.t9;obtain⟨F1,e1,e2,e3⟩:=Nc (E:=E) (N:=N) (call:=λ_ _ _=>none) p.f10 t9
  refine⟨F1,H,kf.stop (Ex.ru (Ex.seq (Ex.bT λc=>e1) (Ex.nS ?_ Ex.exit)) (by simp)) (by simp),⟨id,?_,λoff m h=>?_⟩,λs hs=>e3 s (by omega),λ_ _=>rfl,Nat.le_refl _⟩
  .show get F1 64=_;rw[e2];simp;omega
  .rw[e3 7 (by omega),List.drop_of_length_le (by omega),List.append_nil];exact t7
  .rw[e3 7 (by omega)]at h;exact(ap off m h).1
 | succ m ih=>
  intro i l F H hi hl p;have hil:i<l9.length:=by omega
  obtain⟨id9,t9,id,t7,ap⟩:=p.t9;obtain⟨F1,e1,e2,e3⟩:=Nc (E:=E) (N:=N) (call:=λ_ _ _=>none) p.f10 t9
  have hc:=ζd hil;have t7':iQ H (get F1 7) l id:=by rw[e3 7 (by omega)];exact t7
  have t9':iQ H (get F1 9) l9 id9:=by rw[e3 9 (by omega)];exact t9
  obtain⟨F2,H2,g1,g2,g3,g4,g5⟩:=UZ (E:=E) (N:=N) (call:=λ_ _ _=>none) (by rw[e3 10 (by omega)];exact p.f10) t7' t9' hc (by omega)
  obtain⟨F3,q1,q2,q3⟩:=UQ (E:=E) (N:=N) (call:=λ_ _ _=>none) (H:=H2) (i:=i) (F:=F2) (by rw[g5 10 (by omega) (by omega),e3 10 (by omega)];exact p.f10) (by omega)
  have keep:∀j,j<H.length->(∀off m,get F 7=.hsl id 2 off m->j≠id)->H2[j]? = H[j]? := λj hj h=>g4 j hj (by rw[e3 7 (by omega)];exact h)
  have hp3:P3 (l++[l9[i]]) l9 B (i+1) F3 H2:=by
   refine⟨q2,⟨id9,?_,H.length+1,by rw[q3 7 (by omega) (by omega)];exact g2,λoff m h=>⟨by have:=p.len;omega,λoff' m' h'=>?_⟩⟩,by have:=p.len;omega⟩
   .rw[q3 9 (by omega) (by omega),g5 9 (by omega) (by omega),e3 9 (by omega)]
    exact t9.heap λoff n hw=>keep id9 (t9.lt hw) λoff' m' hw'=>Ne.symm ((ap off' m' hw').2 off n hw)
   .rw[q3 9 (by omega) (by omega),g5 9 (by omega) (by omega),e3 9 (by omega)]at h'
    have:=t9.lt h';omega
  obtain⟨F',H',r1,⟨id',r2,r3⟩,r4,r5,r6⟩:=ih (i+1) (l++[l9[i]]) F3 H2 (by omega) (by simp;omega) hp3
  refine⟨F',H',kf.step (Ex.seq (Ex.seq (Ex.bT λc=>e1) (Ex.lB ?_ Ex.skip)) (Ex.seq (Ex.block (Ex.bT λc=>g1)) (Ex.bT λc=>q1))) r1,⟨id',?_,r3⟩,λs hs=>?_,λj hj=>?_,by omega⟩
  .show get F1 64=_;rw[e2];simp[hil]
  .rw[List.append_assoc]at r2;rw[List.drop_eq_getElem_cons hil];exact r2
  .rw[r4 s hs,q3 s (by omega) (by omega),g5 s (by omega) (by omega),e3 s (by omega)]
  .have:=p.len;rw[r5 j hj,keep j (by omega) λoff m h=>by have:=(ap off m h).1;omega]
end
structure P2 (t:Trace) (out:List (List Bool)) (l:List aa) (F:Frame) (H:ak):Prop where
 f2:get F 2=.hptr 0 0 0
 h0:H[0]? = some (.row 1 [cells t])
 ns:∃B o ids id,kA H (get F 5) o ids (iy out)/\(out≠[]->1<=o/\o<B)/\(∀id∈ids,1<=id/\id<B)/\1<=B/\B<=H.length/\iQ H (get F 7) (l.map cells) id/\∀off m,get F 7=.hsl id 2 off m->B<=id
theorem MA (out:List (List Bool)) (p j:Nat) (row:List Bool):iy (out.set p (row.set j true))=(iy out).set p ((row.map V.bool).set j (.bool true)):=by
 simp[iy,List.map_set]
theorem E7 {out:List (List Bool)}:iy out=[]↔out=[]:=by simp[iy]
theorem K2 {dir:aa->Option (Sl aa)} {out:List (List Bool)} {y:aa} {rest:List aa} {w:Fw (List (List Bool)×List aa) (List (List Bool)) Empty} (h:mP dir (out,y::rest)=some w) :
 ∃(p j:Nat) (row:List Bool) (b:Bool),y.proc=p/\y.index=j/\out[p]? = some row/\row[j]? = some b/\((b=true/\w=.n (out,rest))\/(b=false/\∃more,dir y=some more/\rest.length+more.l.length<=2147483648/\w=.n (out.set p (row.set j true),rest++more.l))):=by
 simp only[mP]at h;split at h
 .rename_i hy;obtain⟨row,h1,h⟩:=ζg.1 h;obtain⟨b,h2,h⟩:=ζg.1 h;refine⟨y.proc.toNat,y.index.toNat,row,b,by omega,by omega,h1,h2,?_⟩
  cases b with
  | true=>left;simp only[ay]at h;exact⟨rfl,by simpa using h.symm⟩
  | false=>
   right;simp only[ay,Bool.false_eq_true,if_false]at h;obtain⟨more,h3,h⟩:=ζg.1 h;split at h
   .rename_i hl;exact⟨rfl,more,h3,hl,by simpa using h.symm⟩
   .cases h
 .cases h
theorem GZ {E:Env} {N:Nat->FuncId} {t:Trace} {dir:aa->Option (Sl aa)} (hd:E.keep (N 140)=true) (hD:Dh E N t dir):∀(k:Nat) (out:List (List Bool)) (l:List aa) (out':List (List Bool)) (F:Frame) (H:ak),
 hG (mP dir) k (out,l)=some (.x out')->P2 t out l F H->∃F' H',kf E N L2 F H (.exit 2) F' H'/\P2 t out' [] F' H':=by
 intro k
 induction k with
 | zero=>intro out l out' F H h;simp[hG]at h
 | succ k ih=>
  intro out l out' F H h p;obtain⟨B,o,ids,id,n1,n2,n3,n4,n5,t7,t8⟩:=p.ns;obtain⟨F1,e1,e2,e3⟩:=x8 (E:=E) (N:=N) (call:=λ_ _ _=>none) t7
  rw[List.length_map]at e2
  cases l with
  | nil=>
   simp only[hG,mP]at h;cases h;refine⟨F1,H,kf.stop (Ex.ru (Ex.seq (Ex.bT λc=>e1) (Ex.nS ?_ Ex.exit)) (by simp)) (by simp),?_⟩
   .show get F1 35=_;rw[e2];simp
   .exact⟨by rw[e3 2 (by omega)];exact p.f2,p.h0,B,o,ids,id,by rw[e3 5 (by omega)];exact n1,n2,n3,n4,n5,by rw[e3 7 (by omega)];exact t7,by rw[e3 7 (by omega)];exact t8⟩
  | cons y rest=>
   simp only[hG]at h
   cases hst:mP dir (out,y::rest)with
   | none=>rw[hst]at h;cases h
   | some w=>
   rw[hst]at h;obtain⟨q,j,row,b,hq,hj,hrow,hb,hcase⟩:=K2 hst;have t7':iQ H (get F1 7) (cells y::rest.map cells) id:=by rw[e3 7 (by omega)];exact t7
   obtain⟨F2,g1,g2,g3⟩:=x9 (E:=E) (N:=N) (call:=λ_ _ _=>none) t7'
   have t7'':iQ (H++[.row 2 [cells y]]) (get F2 7) (cells y::rest.map cells) id:=by rw[g3 7 (by omega) (by omega)];exact t7'.more _
   obtain⟨F3,i1,i2,⟨off1,m1,off2,i3,i4⟩,i5⟩:=UO (E:=E) (N:=N) (call:=λ_ _ _=>none) t7''
   have hcl:(H++[Ob.row 2 [cells y]])[H.length]? = some (.row 2 [cells y]):=by simp
   have f8:get F3 8=.hptr H.length 0 0:=by rw[i5 8 (by omega) (by omega)];exact g2
   have f5:get F3 5=get F 5:=by rw[i5 5 (by omega) (by omega),g3 5 (by omega) (by omega),e3 5 (by omega)]
   have f2:get F3 2=.hptr 0 0 0:=by rw[i5 2 (by omega) (by omega),g3 2 (by omega) (by omega),e3 2 (by omega)];exact p.f2
   have n5':kA (H++[.row 2 [cells y]]) (get F3 5) o ids (iy out):=by rw[f5];exact n1.more _
   have hr:(iy out)[q]? = some (row.map V.bool):=by simp[iy,hrow]
   have hu:(row.map V.bool)[j]? = some (.bool b):=by simp[hb]
   have hB8:B<=id:=by
    have:get F 7=.hsl id 2 off1 m1:=by rw[<-i3,g3 7 (by omega) (by omega),e3 7 (by omega)]
    exact t8 _ _ this
   obtain⟨F4,j1,j2,j3⟩:=QI (E:=E) (N:=N) (call:=λ_ _ _=>none) f8 hcl n5' hq hj hr hu
   have h35:au N F1 (.s 35)=.bool true:=by show get F1 35=_;rw[e2];simp
   rcases hcase with⟨rfl,rfl⟩|⟨rfl,more,hm,hlen,rfl⟩
   .simp only at h;have hp2:P2 t out rest F4 (H++[.row 2 [cells y]]):=by
     refine⟨by rw[j3 2 (by omega)];exact f2,by rw[List.getElem?_append_left (ζe.1 p.h0).1];exact p.h0,B,o,ids,id,by rw[j3 5 (by omega)];exact n5',n2,n3,n4,by simp;omega,by rw[j3 7 (by omega)];exact i2,λoff m _=>hB8⟩
    obtain⟨F',H',r1,r2⟩:=ih out rest out' F4 _ h hp2;exact⟨F',H',kf.step (Ex.seq (Ex.seq (Ex.bT λc=>e1) (Ex.lB h35 Ex.skip)) (Ex.sr (Ex.seq (Ex.bT λc=>g1) (Ex.seq (Ex.bT λc=>i1) (Ex.ru (Ex.seq (Ex.mB rfl λc=>j1) (Ex.lB j2 Ex.exit)) (by simp)))))) r1,r2⟩
   .simp only at h;have n6:kA (H++[.row 2 [cells y]]) (get F4 5) o ids (iy out):=by rw[j3 5 (by omega)];exact n5'
    obtain⟨F5,H5,k1,k2,k3,k4,k5⟩:=UT (E:=E) (N:=N) (call:=λ_ _ _=>none) (by rw[j3 8 (by omega)];exact f8) hcl n6 hq hj hr hu
    have hnid:∀i,B<=i->i∉ids:=λi hi hm=>by have:=(n3 i hm).2;omega
    have hc5:H5[H.length]? = some (.row 2 [cells y]):=by rw[k4 _ (hnid _ n5)];exact hcl
    have h05:H5[0]? = some (.row 1 [cells t]):=by
     rw[k4 0 (λhm=>by have:=(n3 0 hm).1;omega),List.getElem?_append_left (ζe.1 p.h0).1];exact p.h0
    obtain⟨w9,X,id9,m1',m2,m3,_⟩:=Uf (a:=0) (d:=0) (F:=F5) hd hD hm (by rw[k5 2 (by omega),j3 2 (by omega)];exact f2) h05 hc5
    obtain⟨F6,⟨nn,o1'⟩,o2',o3⟩:=m3 (by rw[k5 8 (by omega),j3 8 (by omega)];exact f8)
    have hl5:H5.length=H.length+1:=by rw[k3];simp
    have i7:get F6 7=.hsl id 2 off2 (rest.map cells).length:=by rw[o3 7 (by omega) (by omega),k5 7 (by omega),j3 7 (by omega)];exact i4
    have hidl:id<H.length:=by
     have:=t7'.lt (off:=off1) (m:=m1) (by rw[<-i3,g3 7 (by omega) (by omega)])
     exact this
    have t6:iQ (H5++X) (get F6 7) (rest.map cells) id:=by
     have:get F6 7=get F3 7:=by rw[o3 7 (by omega) (by omega),k5 7 (by omega),j3 7 (by omega)]
     rw[this];refine(i2.heap (H':=H5) λoff n _=>k4 id (hnid id hB8)).more X
    have s10:∃F7,(∀c,bE E N c none A9 F6 (H5++X)=some (F7,H5++X))/\get F7 10=.int .i64 ((0:Nat):Int)/\∀s,s<10->get F7 s=get F6 s:=
     ⟨set F6 10 (.int .i64 0),λc=>by simp[A9,bE,aD,au,aj,aq],by simp,λs hs=>by rw[ax,if_neg (by omega)]⟩
    obtain⟨F7,u1,u2,u3⟩:=s10;have hp3:P3 (rest.map cells) (more.l.map cells) B 0 F7 (H5++X):=by
     refine⟨u2,⟨id9,by rw[u3 9 (by omega),o2'];exact m1',id,by rw[u3 7 (by omega)];exact t6,λoff m hh=>⟨hB8,λoff' m' h'=>?_⟩⟩,by simp;omega⟩
     rw[u3 9 (by omega),o2']at h'
     have:=m2 off' m' h';omega
    obtain⟨F8,H8,v1,⟨id8,v2,v3⟩,v4,v5,v6⟩:=Sa (E:=E) (N:=N) (more.l.map cells) B (by simp;omega) (more.l.map cells).length 0 (rest.map cells) F7 (H5++X) (by omega) (by simp;omega) hp3
    have hn8:kA H8 (get F8 5) o ids (iy (out.set q (row.set j true))):=by
     have h5:get F8 5=get F5 5:=by rw[v4 5 (by omega),u3 5 (by omega),o3 5 (by omega) (by omega)]
     rw[h5,MA];refine(k2.more X).heap (λhne=>v5 o ?_) λi hi=>v5 i (n3 i hi).2
     have:out≠[]:=by intro e;subst e;simp at hrow
     exact(n2 this).2
    have hp2:P2 t (out.set q (row.set j true)) (rest++more.l) F8 H8:=by
     refine⟨by rw[v4 2 (by omega),u3 2 (by omega),o3 2 (by omega) (by omega),k5 2 (by omega),j3 2 (by omega)];exact f2,?_,B,o,ids,id8,hn8,λhne=>n2 (by intro e;subst e;simp at hrow),n3,n4,by simp at v6;omega,?_,v3⟩
     .rw[v5 0 (by omega),List.getElem?_append_left (ζe.1 h05).1];exact h05
     .rw[List.drop_zero]at v2;rw[List.map_append];exact v2
    obtain⟨F',H',w1,w2⟩:=ih _ _ out' F8 H8 h hp2;exact⟨F',H',kf.step (Ex.seq (Ex.seq (Ex.bT λc=>e1) (Ex.lB h35 Ex.skip)) (Ex.block (Ex.seq (Ex.bT λc=>g1) (Ex.seq (Ex.bT λc=>i1) (Ex.seq (Ex.seq (Ex.mB rfl λc=>j1) (Ex.nS j2 Ex.skip)) (Ex.seq (Ex.mB rfl λc=>k1)
     (Ex.seq (Ex.ops ⟨nn,o1'⟩) (Ex.seq (Ex.bT u1) (Ex.sr (Ex.loop v1))))))))) ) w1,w2⟩
theorem Nn {H:ak} {Z:Nat->Prop} {id:Nat} {r:List Bool} (hz:Z id) (h:H[id]? = some (.row 1 (gG (r.map V.bool)))):FR H Z (enc (Sl.row r)) (.hsl id 1 0 r.length):=by
 have hr:an H id=some (1,gG (r.map V.bool)):=by simp[an,h,Ob.rows]
 have he:enc (Sl.row r)=.fsl 1 (rows r):=rfl;have hl:(rows r).length=r.length:=by simp[rows]
 have hc:gG (r.map V.bool)=rows r:=by simp[gG,rows,List.map_map,Function.comp_def]
 rw[hc]at hr;rw[he,<-hl];refine .fsl 1 (rows r) id 0 (rows r) hz hr (by omega) (λi a b h1 h2=>?_) (λi j a b u v h1 h2 h3 h4=>?_)
 .rw[Nat.zero_add,h1]at h2;cases h2;rfl
 .rw[Nat.zero_add,h1]at h2;cases h2;rw[h3]at h4;cases h4;refine .same u ?_;obtain⟨c,hc1,rfl⟩:∃c∈r,a=[V.bool c]:=by
   have:=List.mem_of_getElem? h1;simp only[rows,List.mem_map]at this;obtain⟨c,hc,rfl⟩:=this;exact⟨c,hc,rfl⟩
  have:=List.mem_of_getElem? h3;simp at this;subst this;rfl
theorem K6 {H:ak} {w:V} {o:Nat} {ids:List Nat} {out:List (List Bool)} (n:kA H w o ids (iy out)):∃Z,FR H Z (enc (nested out)) w/\(∀id,Z id->(an H id).isSome=true)/\Deep H Z:=by
 have hv:=n.v
 by_cases ho:out=[]
 .subst ho;rw[if_pos (show iy []=[]from rfl)]at hv;subst hv;exact⟨λ_=>False,.same _ rfl,λ_ h=>h.elim,⟨λ_ _ _ h=>h.elim⟩⟩
 .have hne:iy out≠[]:=λh=>ho (E7.1 h)
  rw[if_neg hne,t_]at hv;subst hv;have hob:=n.ob hne;have hlen:=n.len;rw[t_]at hlen;have hrow:∀(i id:Nat) (r:List Bool),ids[i]? = some id->out[i]? = some r->H[id]? = some (.row 1 (gG (r.map V.bool))):=λi id r h1 h2=>n.r i id _ h1 (by simp[iy,h2])
  have href:∀(i:Nat) (c:List V),(refs ids (iy out))[i]? = some c->∃id r,ids[i]? = some id/\out[i]? = some r/\c=[.hsl id 1 0 r.length]:=λi c h=>by
   have hi:=(ζe.1 h).1;rw[ri n.len,t_]at hi;have h1:=ζd (show i<ids.length from by omega)
   have h2:=ζd hi;have h3:=zX (rows:=iy out) (r:=out[i].map V.bool) h1 (by simp[iy,h2])
   rw[h]at h3;exact⟨_,_,h1,h2,by simpa using h3⟩
  have hzo:an H o=some (1,refs ids (iy out)):=by simp[an,hob,Ob.rows]
  have hzi:∀id∈ids,∃(r:List Bool),H[id]? = some (.row 1 (gG (r.map V.bool))):=λid hid=>by
   obtain⟨i,hi⟩:=List.getElem?_of_mem hid;have hl:=(ζe.1 hi).1;exact⟨_,hrow i id _ hi (ζd (show i<out.length from by omega))⟩
  refine⟨λid=>id=o\/id∈ids,?_,λid h=>?_,⟨λid es ys h hr c hc u hu=>?_⟩⟩
  .have he:enc (nested out)=.fsl 1 (rows (out.map Sl.row)):=by rw[nested,if_neg ho];rfl
   have hl:(rows (out.map Sl.row)).length=out.length:=by simp[rows]
   rw[he,<-hl];refine .fsl 1 _ o 0 (refs ids (iy out)) (.inl rfl) hzo (by rw[hl,ri n.len,t_];omega) (λi a b h1 h2=>?_) (λi j a b u v h1 h2 h3 h4=>?_)
   .rw[Nat.zero_add]at h2;obtain⟨id,r,_,hr,rfl⟩:=href i b h2;simp[rows,hr]at h1;subst h1;rfl
   .rw[Nat.zero_add]at h2;obtain⟨id,r,hid,hr,rfl⟩:=href i b h2;have ha:a=[enc (Sl.row r)]:=by simp[rows,hr]at h1;exact h1.symm
    subst ha
    cases j with
    | zero=>
     simp at h3 h4;subst h3 h4;exact Nn (.inr (List.mem_of_getElem? hid)) (hrow i id r hid hr)
    | succ j=>simp at h3
  .rcases h with rfl|h
   .simp[hzo]
   .obtain⟨r,hr⟩:=hzi id h;simp[an,hr,Ob.rows]
  .rcases h with rfl|h
   .rw[hzo]at hr;cases hr;obtain⟨i,hi⟩:=List.getElem?_of_mem hc;obtain⟨id,r,hid,hro,rfl⟩:=href i c hi;simp at hu;subst hu;exact⟨_,Nn (.inr (List.mem_of_getElem? hid)) (hrow i id r hid hro)⟩
   .obtain⟨r,hr'⟩:=hzi id h;have:an H id=some (1,gG (r.map V.bool)):=by simp[an,hr',Ob.rows]
    rw[this]at hr;cases hr;simp only[gG,List.mem_map]at hc;obtain⟨_,⟨c',_,rfl⟩,rfl⟩:=hc;simp at hu;subst hu;exact⟨_,.same _ rfl⟩
theorem OZ {t:Trace} {x:aa} {out:List (List Bool)} {s:Sl aa} {dir:aa->Option (Sl aa)} (hd:tI.keep (uz 140)=true) (hD:Dh tI uz t dir) (hok:wW t=true) (hs:dir x=some s) (hw:aZ (mP dir) (eT t,s.l)=some (.x out)) :
 ve tI (uz 107) [enc t,enc x] (enc (nested out)):=by
 obtain⟨fi,g1,g2,g3,g4⟩:=shape;obtain⟨k,hk⟩:=mz.1 hw;have b1:∃F1,(∀c,bE tI uz c none r1 [enc t,enc x] []=some (F1,[.row 1 [cells t],.row 2 [cells x]]))/\get F1 2=.hptr 0 0 0/\get F1 3=.hptr 1 0 0:=by
  refine⟨_,λc=>hU (v:=.hptr 0 0 0) (H1:=[.row 1 [cells t]]) rfl ?_ <| hU (v:=.hptr 1 0 0) (H1:=[.row 1 [cells t],.row 2 [cells x]]) rfl ?_ <| vp (v:=.aF) rfl ?_ cG,?_,?_⟩
  .show (iT .box [enc t]).map _=_;simp only[iT,gV,l_,if_true,Option.map_some,dh];rfl
  .simp only[aD,List.map_cons,List.map_nil,au,aq,ax,Nat.reduceEqDiff,if_false];show (iT .box [enc x]).map _=_;simp only[iT,gV,l_,if_true,Option.map_some,dh];rfl
  .simp[aD,au,aj]
  .simp[aq]
  .simp[aq]
 obtain⟨F1,c1,c2,c3⟩:=b1;have b3:∃F3,(∀c,bE tI uz c none r2 F1 [.row 1 [cells t],.row 2 [cells x]]=some (set F1 5 .aF,[.row 1 [cells t],.row 2 [cells x]]))/\(∀c,bE tI uz c none r3 (set F1 5 .aF) [.row 1 [cells t],.row 2 [cells x]]=some (F3,[.row 1 [cells t],.row 2 [cells x]]))/\P1 t x 0 F3 [.row 1 [cells t],.row 2 [cells x]]:=by
  refine⟨set (set F1 5 .aF) 6 (.int .i64 0),λc=>by simp[r2,bE,aD,au,aj,aq],λc=>by simp[r3,bE,aD,au,aj,aq],by simp[c2],by simp[c3],by simp,rfl,rfl,0,[],?_,λh=>absurd rfl h,λid h=>by simp at h⟩
  have:get (set (set F1 5 .aF) 6 (.int .i64 0)) 5=.aF:=by simp
  rw[this,List.take_zero];exact kA.nil _ 0
 obtain⟨F3,d1,d2,d3⟩:=b3;obtain⟨F4,H4,e1,e2⟩:=Iq (E:=tI) (N:=uz) hok t.procs.l.length 0 F3 _ (by omega) d3
 obtain⟨o,ids,n1,n2,n3⟩:=e2.ns;have hlen:(eT t).length=t.procs.l.length:=by simp[eT]
 rw[List.take_of_length_le (by omega)]at n1
 obtain⟨w,X,id,m1,m2,_,m4⟩:=Uf (a:=0) (d:=0) (F:=F4) (E:=tI) (N:=uz) hd hD hs e2.f2 e2.h0 (c:=1) e2.h1;obtain⟨F5,o1,o2,o3⟩:=m4 e2.f3;have hp2:P2 t (eT t) s.l F5 (H4++X):=by
  refine⟨by rw[o3 2 (by omega) (by omega)];exact e2.f2,by rw[List.getElem?_append_left (ζe.1 e2.h0).1];exact e2.h0,H4.length,o,ids,id,by rw[o3 5 (by omega) (by omega)];exact n1.more X,λhne=>?_,λi hi=>⟨by have:=n3 i hi;omega,n1.lt.2 i hi⟩,?_,by simp,by rw[o2];exact m1,λoff m h=>?_⟩
  .have hne':iy (eT t)≠[]:=λh=>hne (E7.1 h)
   have:t.procs.l.length≠0:=by intro h;apply hne;exact List.eq_nil_of_length_eq_zero (by omega)
   have:=n2 this;exact⟨by omega,n1.lt.1 hne'⟩
  .have:=(ζe.1 e2.h0).1;omega
  .rw[o2]at h;have:=m2 off m h;omega
 obtain⟨F6,H6,p1,p2⟩:=GZ hd hD k _ _ out F5 _ hk hp2;obtain⟨B,o',ids',id',q1,_⟩:=p2.ns;have l1:∃F7,(∀c,bE tI uz c none Tv F6 H6=some (F7,H6))/\get F7 4=get F6 5:=by
  refine⟨_,λc=>vp (v:=get F6 5) rfl ?_ <| vp (v:=get F6 5) rfl ?_ cG,?_⟩
  .simp[aD,au,aj]
  .simp[aD,au,aj,aq]
  .simp[aq]
 obtain⟨F7,y1,y2⟩:=l1;have hex:Ex tI uz code [enc t,enc x] [] .ret F7 H6:=
  Ex.seq (Ex.bT c1) (Ex.seq (Ex.bT d1) (Ex.seq (Ex.seq (Ex.bT d2) (Ex.sr (Ex.loop e1))) (Ex.seq (Ex.ops o1) (Ex.seq (Ex.sr (Ex.loop p1)) (Ex.seq (Ex.bT y1) Ex.ret)))))
 obtain⟨n,hrun⟩:=hex.run (nm:=some) yf g1 g2 (show [enc t,enc x].length<=fi.ntmps from g3) (vs:=[get F7 4]) (by rw[g4];rfl)
 obtain⟨Z,z1,z2,z3⟩:=K6 q1;exact⟨n,get F6 5,H6,Z,by rw[hrun,y2];rfl,z1,z2,z3⟩
theorem RG (l:List aa):∀c∈l.map (cells (α:=aa)),c.length=2/\c.all V.one=true/\c.all V.scalar=true:=λc hc=>by
 obtain⟨e,_,rfl⟩:=List.mem_map.1 hc;exact⟨rfl,rfl,rfl⟩
theorem Sr (t:Trace):Dh tI uz t (cA t):=by
 intro y s H hs;have h1:=wO t y;have h2:=h1 (bZ s) (by rw[hs];rfl)
 have hg:V.bF [enc t,enc y]=true:=by simp only[V.bF,iC,Bool.and_self]
 have hkind:s.k=.row\/s.k=.nil/\rows s.l=[]:=by
  have hj:∀o z,(∃l,o=.row l)\/o=.nil->cA.J1 o t y=some z->(∃l,z=.row l)\/z=.nil:=λo z ho hz=>by
   unfold cA.J1 at hz;obtain⟨e,_,hz⟩:=ζg.1 hz
   cases he:e.kind==3 with
   | true=>
    rw[he]at hz;obtain⟨f,_,hz⟩:=ζg.1 hz;obtain⟨q,hq,hz⟩:=ζg.1 hz;cases hz;unfold i_ at hq;split at hq
    .cases hq;exact .inl ⟨_,rfl⟩
    .cases hq
   | false=>rw[he]at hz;cases hz;exact ho
  have:(∃l,s=.row l)\/s=.nil:=by
   unfold cA at hs
   cases hc:decide (y.index>1)with
   | true=>rw[hc]at hs;exact hj _ s (.inl ⟨_,rfl⟩) hs
   | false=>rw[hc]at hs;exact hj _ s (.inr rfl) hs
  rcases this with⟨l,rfl⟩|rfl
  .exact .inl rfl
  .exact .inr ⟨rfl,rfl⟩
 obtain⟨n,z,H',r1,r2⟩:=Qk Dx yI (T:=Tx) (f:=uz 140) (rf:=zy (Tx 140)) (by kernel_rfl) hg (Nat.le_of_ble_eq_true (by kernel_rfl)) (k:=s.k) (es:=2) (xs:=rows s.l) (λc hc=>(RG s.l c hc).2.2) hkind h2
 refine Er (l:=s.l.map cells) (y:=z) (H1:=H') (by kernel_rfl) hg (RG s.l) ⟨n,λk hk=>mm _ hk _ _ _ _ r1⟩ ?_ H
 rcases r2 with⟨h3,rfl⟩|⟨id,rfl,h4⟩
 .left;cases s <;> simp[Sl.k]at h3;exact⟨rfl,rfl⟩
 .right;exact⟨id,by simp[rows],h4⟩
end pastX
theorem KM (t:Trace) (x:aa) (r:Sl (Sl Bool)) (h:lG t x=some r):Sy.wK 107 [enc t,enc x]=some (enc r):=by
 unfold lG at h;split at h
 .rename_i hok;obtain⟨s,hs,h⟩:=ζg.1 h;obtain⟨w,hw,h⟩:=ζg.1 h
  cases w with
  | n a=>exact Empty.elim a
  | r e=>exact Empty.elim e
  | x out=>
   cases h;exact uk (pastX.OZ (by kernel_rfl) (pastX.Sr t) hok hs hw)
 .cases h
end Go.VE
namespace Go.VE
noncomputable section
def tD:Option Bool:=some true
instance O_:Fc Sy cL tD:=⟨8,[],λr:Bool=>[.bool r],true,jk.wK (by kernel_rfl) (by kernel_rfl) Kb⟩
namespace dX
def aB (s0:Sl Event) (v7:Int) (v8:Int) (p1:Event->Option Bool):Option (Fw Int Unit Int):=
 ay (decide (v8<v7))
 ((idx s0 v8).bind λx_1=>
 (p1 x_1).bind λx_2=>
 ay x_2
 (some (.r v8))
 (some (.n (IntKind.wrap .i64 (v8+1)))))
 (some (.x ()))
def W1 (s0:Sl Event) (v7 v8:Int) (p1:Event->Option Bool):Option Int:=
 (aZ (λq:Int=>aB s0 v7 q p1) v8).bind (Fw.elim
 (λe=>some (-1))
 (λe=>some e))
end dX
def dX (s0:Sl Event) (p1:Event->Option Bool):Option Int:=
 dX.W1 s0 (len s0) 0 p1
open dX in
abbrev tH (g1:FuncId) (e1:List V) (p1:Event->Option Bool) (h1:qG Sy cL g1 [] e1 (λz:Event=>[enc z]) (λr:Bool=>[.bool r]) p1 true) (s0:Sl Event):Fc Sy cL (dX s0 p1):=Fc.M 102 [enc s0,.clo g1 [] e1] (bB 9 s0 (dA 5 (λqW1=>(aQ [Cv 0 s0,(1,.v (.clo g1 [] e1)),Iv 7 (len s0),Iv 8 qW1] [])) (λeW1=>(0,(aQ [] []))) (λeW1=>(aQ [Iv 4 eW1] [])) (λqW1=>aK 7 9 (bC 16 λx_1 _=>yM 1 h1.f x_1 λx_2 _=>aK 2 16 ah ah) ah) (λeW1=>ah) (λeW1=>ah))) (l:=by simp[h1.d])
def fI (s0:Sl Event) (p1:Event->Option Bool):Option Bool:=
 (dX s0 p1).bind λx_1=>
 some (decide (x_1>=0))
abbrev mD (g1:FuncId) (e1:List V) (p1:Event->Option Bool) (h1:qG Sy cL g1 [] e1 (λz:Event=>[enc z]) (λr:Bool=>[.bool r]) p1 true) (s0:Sl Event):Fc Sy cL (fI s0 p1):=Fc.M 49 [enc s0,.clo g1 [] e1] (aV (F:=tH g1 e1 p1 h1 s0) 9 λx_1 _=>ah) (l:=by simp[h1.d])
def pK (x0:Event):Option Bool:=
 some (decide ((len x0.assign)>20))
instance Nh (x0:Event):Fc Sy cL (pK x0):=Fc.M 50 [enc x0] (dc 2 1 x0 (bB 7 x0.assign ah))
namespace iH
def aB (v7:Sl bt) (v8:Int) (tb1:Trace) (n3 v9:Int):Option (Fw (Int×Int) Int Unit):=
 ay (decide (v9<v8))
 ((idx v7 v9).bind λx_1=>
 (ay (decide ((len x_1.events)>12))
 (some true)
 (some (decide ((len x_1.vars)>20))):Option Bool).bind λx_2=>
 (ay x_2
 (some true)
 ((fI x_1.events (λz=>pK z)).bind λx_3=>
 some x_3):Option Bool).bind λx_4=>
 ay x_4
 (some (.r ()))
 (some (.n (IntKind.wrap .i64 (n3+(len x_1.events)),IntKind.wrap .i64 (v9+1)))))
 (some (.x n3))
def W1 (n3:Int) (v7:Sl bt) (v8 v9:Int) (tb1:Trace):Option Bool:=
 (aZ (λq:Int×Int=>aB v7 v8 tb1 q.1 q.2) (n3,v9)).bind (Fw.elim
 (λe=>(ay (decide ((len tb1.procs)<=10))
 ((ay (decide (e<=16))
 (some true)
 ((ay (decide (e>=24))
 (some (decide (e<=40)))
 (some false):Option Bool).bind λx_5=>
 (ay x_5
 (some ((len tb1.procs)==6))
 (some false):Option Bool).bind λx_6=>
 some x_6):Option Bool).bind λx_7=>
 some x_7)
 (some false):Option Bool).bind λx_8=>
 some x_8)
 (λe=>some false))
end iH
def iH (t0:Trace):Option Bool:=
 iH.W1 0 t0.procs (len t0.procs) 0 t0
open iH in
instance PG (t0:Trace):Fc Sy cL (iH t0):=Fc.M 9 [enc t0] (dc 2 1 t0 (bB 13 t0.procs (dA 5 (λqW1=>(aQ [Pv 1,Iv 3 qW1.1,Cv 7 t0.procs,Iv 8 (len t0.procs),Iv 9 qW1.2] [Xb 1 t0])) (λeW1=>(0,(aQ [Pv 1,Iv 3 eW1] [Xb 1 t0]))) (λeW1=>(aQ [Bv 2 false] [])) (λqW1=>aK 7 10 (bC 7 λx_1 _=>me 2 5 0 x_1 (bB 7 x_1.events (bB 8 x_1.events (br 2 5 [22] 27 (aK 2 22 (aI 5) (bB 2 x_1.vars (aI 2))) λx_2=>br 1 4 [5,28] 32 (aK 1 28 (aI 4) (aV (F:=mD 50 [] (λz=>pK z) qG.wI x_1.events) 2 λx_3 _=>aI 1)) λx_4=>aK 2 32 ah ah)))) ah) (λeW1=>bB 6 t0.procs (br 2 17 [1,3,38] 55 (aK 2 38 (br 3 13 [1,3,41] 54 (aK 3 41 (aI 13) (br 3 3 [3,44] 47 (aK 3 44 (aI 3) (aI 3)) λx_5=>br 1 5 [1,48] 53 (aK 1 48 (bB 2 t0.procs (aI 2)) (aI 5)) λx_6=>aI 1)) λx_7=>aI 1) (aI 17)) λx_8=>ah)) (λeW1=>ah))))
def m_ (c0:Int):Option Bool:=
 (ay (decide (c0>=65))
 (some (decide (c0<=90)))
 (some false):Option Bool).bind λx_1=>
 (ay x_1
 (some true)
 ((ay (decide (c0>=97))
 (some (decide (c0<=122)))
 (some false):Option Bool).bind λx_2=>
 some x_2):Option Bool).bind λx_3=>
 some x_3
instance Nt (c0:Int):Fc Sy cL (m_ c0):=Fc.M 157 [.int .u8 c0] (br 10 3 [5] 8 (aK 10 5 (aI 3) (aI 3)) λx_1=>br 1 7 [0,9] 16 (aK 1 9 (aI 7) (br 3 3 [0,12] 15 (aK 3 12 (aI 3) (aI 3)) λx_2=>aI 1)) λx_3=>ah)
def qK (c0:Int):Option Bool:=
 (ay (decide (c0>=48))
 (some (decide (c0<=57)))
 (some false):Option Bool).bind λx_1=>
 some x_1
instance OW (c0:Int):Fc Sy cL (qK c0):=Fc.M 158 [.int .u8 c0] (br 10 3 [0,5] 8 (aK 10 5 (aI 3) (aI 3)) λx_1=>ah)
namespace fq
def aB (s0:ByteArray) (i3:Int):Option (Fw Int Unit Unit):=
 ay (decide (i3<((ByteArray.size s0:Nat):Int)))
 ((iV s0 i3).bind λx_5=>
 (m_ x_5).bind λx_6=>
 (ay x_6
 (some false)
 ((iV s0 i3).bind λx_7=>
 (qK x_7).bind λx_8=>
 some (!x_8)):Option Bool).bind λx_9=>
 (ay x_9
 ((iV s0 i3).bind λx_10=>
 some (!(x_10==95)))
 (some false):Option Bool).bind λx_11=>
 ay x_11
 (some (.r ()))
 (some (.n (IntKind.wrap .i64 (i3+1)))))
 (some (.x ()))
def W1 (s0:ByteArray) (i3:Int):Option Bool:=
 (aZ (λq:Int=>aB s0 q) i3).bind (Fw.elim
 (λe=>some true)
 (λe=>some false))
end fq
def fq (s0:ByteArray):Option Bool:=
 (ay (decide (((ByteArray.size s0:Nat):Int)<1))
 (some true)
 (some (decide (((ByteArray.size s0:Nat):Int)>16))):Option Bool).bind λx_1=>
 (ay x_1
 (some true)
 ((iV s0 0).bind λx_2=>
 (m_ x_2).bind λx_3=>
 some (!x_3)):Option Bool).bind λx_4=>
 ay x_4
 (some false)
 (fq.W1 s0 1)
open fq in
instance Pd (s0:ByteArray):Fc Sy cL (fq s0):=Fc.M 137 [.str s0] (br 12 4 [7] 11 (aK 12 7 (aI 4) (aI 4)) λx_1=>br 1 5 [12] 17 (aK 1 12 (aI 5) (xK 1 .i64 λx_2 _=>aV 0 λx_3 _=>aI 2)) λx_4=>aK 2 17 ah (dA 11 (λqW1=>(aQ [(0,.v (.str s0)),Iv 3 qW1] [])) (λeW1=>(0,(aQ [] []))) (λeW1=>(aQ [Bv 2 false] [])) (λqW1=>aK 10 21 (xK 9 .i64 λx_5 _=>aV 0 λx_6 _=>br 2 6 [29] 35 (dB 2 29 (aI 6) (xK 2 .i64 λx_7 _=>aV 0 λx_8 _=>aI 2)) λx_9=>br 1 5 [36] 41 (aK 1 36 (xK 2 .i64 λx_10 _=>aI 2) (aI 5)) λx_11=>aK 2 41 ah ah) ah) (λeW1=>ah) (λeW1=>ah)))
def oe (n0:Int):Option Bool:=
 (ay (decide (n0>=(-1073741824)))
 (some (decide (n0<=1073741824)))
 (some false):Option Bool).bind λx_1=>
 some x_1
instance OS (n0:Int):Fc Sy cL (oe n0):=Fc.M 138 [.int .i64 n0] (br 10 3 [0,5] 8 (aK 10 5 (aI 3) (aI 3)) λx_1=>ah)
namespace cO
def fN (i7:Int) (xb5:bt) (j8:Int):Option (Fw Int Unit Unit):=
 ay (decide (j8<i7))
 ((idx xb5.vars j8).bind λx_6=>
 (idx xb5.vars i7).bind λx_7=>
 ay (ByteArray.toList x_6.name==ByteArray.toList x_7.name)
 (some (.r ()))
 (some (.n (IntKind.wrap .i64 (j8+1)))))
 (some (.x ()))
def W3 (i7 j8:Int) (xb5:bt):Option (Fw Int Unit Int):=
 (aZ (λq:Int=>fN i7 xb5 q) j8).bind (Fw.elim
 (λe=>(idx xb5.vars i7).bind λx_8=>
 (oe x_8.init_).bind λx_9=>
 ay x_9
 (some (.n (IntKind.wrap .i64 (i7+1))))
 (some (.r 2)))
 (λe=>some (.r 13)))
def bq (xb5:bt) (i7:Int):Option (Fw Int Unit Int):=
 ay (decide (i7<(len xb5.vars)))
 ((idx xb5.vars i7).bind λx_4=>
 (fq x_4.name).bind λx_5=>
 ay x_5
 (W3 i7 0 xb5)
 (some (.r 13)))
 (some (.x ()))
def W2 (i7:Int) (xb5:bt):Option Int:=
 (aZ (λq:Int=>bq xb5 q) i7).bind (Fw.elim
 (λe=>ay (decide ((len xb5.events)>64))
 (some 5)
 (some 0))
 (λe=>some e))
def aB (p1:Int) (tb2:Trace) (xb5:bt) (i6:Int):Option (Fw Int Unit Unit):=
 ay (decide (i6<p1))
 ((idx tb2.procs i6).bind λx_3=>
 ay (ByteArray.toList x_3.name==ByteArray.toList xb5.name)
 (some (.r ()))
 (some (.n (IntKind.wrap .i64 (i6+1)))))
 (some (.x ()))
def W1 (p1 i6:Int) (tb2:Trace) (xb5:bt):Option Int:=
 (aZ (λq:Int=>aB p1 tb2 xb5 q) i6).bind (Fw.elim
 (λe=>ay (decide ((len xb5.vars)>8))
 (some 5)
 (cO.W2 0 xb5))
 (λe=>some 13))
end cO
def cO (t0:Trace) (p1:Int):Option Int:=
 (idx t0.procs p1).bind λx_1=>
 (fq x_1.name).bind λx_2=>
 ay x_2
 (cO.W1 p1 0 t0 x_1)
 (some 13)
open cO in
instance Pb (t0:Trace) (p1:Int):Fc Sy cL (cO t0 p1):=Fc.M 103 [enc t0,.int .i64 p1] (dc 2 2 t0 (bC 8 λx_1 _=>me 2 5 0 x_1 (aV 7 λx_2 _=>dB 3 17 (dA 11 (λqW1=>(aQ [Iv 1 p1,Pv 2,Pv 5,Iv 6 qW1] [Xb 2 t0,Xb 5 x_1])) (λeW1=>(0,(aQ [Pv 5] [Xb 5 x_1]))) (λeW1=>(aQ [Iv 4 13] [])) (λqW1=>aK 9 20 (bC 10 λx_3 _=>aK 7 31 ah ah) ah) (λeW1=>bB 7 x_1.vars (aK 3 35 ah (dA 11 (λqW2=>(aQ [Pv 5,Iv 7 qW2] [Xb 5 x_1])) (λeW2=>(2,(aQ [Pv 5] [Xb 5 x_1]))) (λeW2=>(aQ [Iv 4 eW2] [])) (λqW2=>bB 7 x_1.vars (aK 3 40 (bC 11 λx_4 _=>aV 2 λx_5 _=>dB 3 50 (dA 11 (λqW3=>(aQ [Pv 5,Iv 7 qW2,Iv 8 qW3] [Xb 5 x_1])) (λeW3=>(4,(aQ [Pv 5,Iv 7 qW2] [Xb 5 x_1]))) (λeW3=>(aQ [Iv 4 13] [])) (λqW3=>aK 9 53 (bC 10 λx_6 _=>bC 5 λx_7 _=>aK 5 68 ah ah) ah) (λeW3=>bC 7 λx_8 _=>aV 2 λx_9 _=>dB 3 76 ah ah) (λeW3=>ah)) ah) ah)) (λeW2=>bB 7 x_1.events (aK 3 80 ah ah)) (λeW2=>ah)))) (λeW1=>ah)) ah)))
namespace cR
def fN (p1 k8:Int) (tb3:Trace) (xb7:Event) (ab9:Assign) (j10:Int):Option (Fw Int Unit Unit):=
 ay (decide (j10<k8))
 ((idx xb7.assign j10).bind λx_20=>
 ay (x_20.var==ab9.var)
 (some (.r ()))
 (some (.n (IntKind.wrap .i64 (j10+1)))))
 (some (.x ()))
def W3 (p1 k8 j10:Int) (tb3:Trace) (xb7:Event) (ab9:Assign):Option (Fw Int Unit Int):=
 (aZ (λq:Int=>fN p1 k8 tb3 xb7 ab9 q) j10).bind (Fw.elim
 (λe=>some (.n (IntKind.wrap .i64 (k8+1))))
 (λe=>some (.r 8)))
def bq (p1:Int) (tb3:Trace) (xb7:Event) (k8:Int):Option (Fw Int Unit Int):=
 ay (decide (k8<(len xb7.assign)))
 ((idx xb7.assign k8).bind λx_15=>
 (ay (decide (x_15.var<0))
 (some true)
 ((idx tb3.procs p1).bind λx_16=>
 some (decide (x_15.var>=(len x_16.vars)))):Option Bool).bind λx_17=>
 (ay x_17
 (some true)
 ((oe x_15.value).bind λx_18=>
 some (!x_18)):Option Bool).bind λx_19=>
 ay x_19
 (some (.r 2))
 (W3 p1 k8 0 tb3 xb7 x_15))
 (some (.x ()))
def W2 (p1 k8:Int) (tb3:Trace) (xb7:Event):Option Int:=
 (aZ (λq:Int=>bq p1 tb3 xb7 q) k8).bind (Fw.elim
 (λe=>some 0)
 (λe=>some e))
def J1 (p1 i2:Int) (tb3:Trace) (xb7:Event):Option Int:=
 (ay (decide (xb7.time<0))
 (some true)
 (some (decide (xb7.time>1099511627776))):Option Bool).bind λx_10=>
 (ay x_10
 (some true)
 ((ay (decide (i2>0))
 ((idx tb3.procs p1).bind λx_11=>
 (idx x_11.events (IntKind.wrap .i64 (i2-1))).bind λx_12=>
 some (decide (xb7.time<x_12.time)))
 (some false):Option Bool).bind λx_13=>
 some x_13):Option Bool).bind λx_14=>
 ay x_14
 (some 11)
 (ay (decide ((len xb7.assign)>8))
 (some 5)
 (cR.W2 p1 0 tb3 xb7))
theorem uN (p1 i2:Int) (tb3:Trace) (xb7:Event):Le ((J1 p1 i2 tb3 xb7).bind (λr=>some [.int .i64 r])) (bn Sy cL (oV (tr Tx 104)) (sM (tb Tx 104) [1,1,1,0] [] (aQ [Iv 1 p1,Iv 2 i2,Pv 3,Pv 7] [Xb 3 tb3,Xb 7 xb7]))):=
 br 7 4 [71] 75 (aK 7 71 (aI 4) (aI 4)) λx_10=>br 1 19 [2,76] 95 (aK 1 76 (aI 19) (br 3 15 [2,79] 94 (aK 3 79 (bC 5 λx_11 _=>bC 4 λx_12 _=>aI 4) (aI 15)) λx_13=>aI 1)) λx_14=>aK 2 95 ah (bB 8 xb7.assign (aK 3 99 ah (dA 11 (λqW2=>(aQ [Iv 1 p1,Pv 3,Pv 7,Iv 8 qW2] [Xb 3 tb3,Xb 7 xb7])) (λeW2=>(0,(aQ [] []))) (λeW2=>(aQ [Iv 6 eW2] [])) (λqW2=>bB 7 xb7.assign (aK 3 104 (bC 10 λx_15 _=>br 12 11 [115] 126 (aK 12 115 (aI 11) (bC 5 λx_16 _=>bB 2 x_16.vars (aI 2))) λx_17=>M4 1 5 [130] (λx_19=>(aQ [Iv 1 p1,Pv 3,Pv 7,Iv 8 qW2,Bv 104 true,Pv 9,Bv 132 x_19] [Xb 3 tb3,Xb 7 xb7,Xb 9 x_15])) (aK 1 127 (aI 5) (jS 2 λx_18 _=>aI 2)) λx_19=>aK 2 132 ah (dA 10 (λqW3=>(aQ [Iv 1 p1,Pv 3,Pv 7,Iv 8 qW2,Pv 9,Iv 10 qW3] [Xb 3 tb3,Xb 7 xb7,Xb 9 x_15])) (λeW3=>(2,(aQ [Iv 1 p1,Pv 3,Pv 7,Iv 8 qW2] [Xb 3 tb3,Xb 7 xb7]))) (λeW3=>(aQ [Iv 6 8] [])) (λqW3=>aK 9 135 (bC 10 λx_20 _=>aK 7 146 ah ah) ah) (λeW3=>ah) (λeW3=>ah))) ah)) (λeW2=>ah) (λeW2=>ah))))
end cR
def cR (t0:Trace) (p1 i2:Int):Option Int:=
 (idx t0.procs p1).bind λx_1=>
 (idx x_1.events i2).bind λx_2=>
 ay (x_2.kind==1)
 ((ay (x_2.peer==0)
 (some (!(x_2.message==0)))
 (some true):Option Bool).bind λx_3=>
 ay x_3
 (some 3)
 (cR.J1 p1 i2 t0 x_2))
 ((ay (x_2.kind==2)
 (some false)
 (some (!(x_2.kind==3))):Option Bool).bind λx_4=>
 (ay x_4
 (some true)
 (some (decide (x_2.peer<0))):Option Bool).bind λx_5=>
 (ay x_5
 (some true)
 (some (decide (x_2.peer>=(len t0.procs)))):Option Bool).bind λx_6=>
 (ay x_6
 (some true)
 (some (x_2.peer==p1)):Option Bool).bind λx_7=>
 (ay x_7
 (some true)
 (some (decide (x_2.message<0))):Option Bool).bind λx_8=>
 (ay x_8
 (some true)
 (some (decide (x_2.message>199))):Option Bool).bind λx_9=>
 ay x_9
 (some 3)
 (cR.J1 p1 i2 t0 x_2))
open cR in
instance Pw (t0:Trace) (p1 i2:Int):Fc Sy cL (cR t0 p1 i2):=Fc.M 104 [enc t0,.int .i64 p1,.int .i64 i2] (dc 2 3 t0 (bC 8 λx_1 _=>bC 3 λx_2 _=>me 2 7 0 x_2 (aK 10 22 (br 7 4 [26] 30 (dB 7 26 (aI 4) (aI 4)) λx_3=>aK 2 30 ah (BH 4 (uN p1 i2 t0 x_2))) (br 7 4 [34] 38 (dB 7 34 (aI 4) (aI 4)) λx_4=>br 1 4 [39] 43 (aK 1 39 (aI 4) (aI 4)) λx_5=>br 1 7 [44] 51 (aK 1 44 (aI 7) (bB 4 t0.procs (aI 2))) λx_6=>br 1 5 [52] 57 (aK 1 52 (aI 5) (aI 5)) λx_7=>br 1 4 [58] 62 (aK 1 58 (aI 4) (aI 4)) λx_8=>br 1 4 [63] 67 (aK 1 63 (aI 4) (aI 4)) λx_9=>aK 2 67 ah (BH 4 (uN p1 i2 t0 x_2))))))
namespace fW
def aB (tb2:Trace) (xb3:aa) (eb5:Event) (sent6:Bool) (i7:Int):Option (Fw (Bool×Int) Bool Empty):=
 (idx tb2.procs eb5.peer).bind λx_3=>
 ay (decide (i7<(len x_3.events)))
 ((idx tb2.procs eb5.peer).bind λx_4=>
 (idx x_4.events i7).bind λx_5=>
 (ay sent6
 (some true)
 ((ay (x_5.kind==2)
 (some (x_5.message==eb5.message))
 (some false):Option Bool).bind λx_6=>
 (ay x_6
 (some (x_5.peer==xb3.proc))
 (some false):Option Bool).bind λx_7=>
 some x_7):Option Bool).bind λx_8=>
 some (.n (x_8,IntKind.wrap .i64 (i7+1))))
 (some (.x sent6))
def W1 (sent6:Bool) (i7:Int) (tb2:Trace) (xb3:aa) (eb5:Event):Option Int:=
 (aZ (λq:Bool×Int=>aB tb2 xb3 eb5 q.1 q.2) (sent6,i7)).bind (Fw.elim
 (λe=>ay e
 (some 0)
 (some 7))
 (λe=>Empty.elim e))
end fW
def fW (t0:Trace) (x1:aa):Option Int:=
 (r_ t0 x1).bind λx_1=>
 ay (x_1.kind==1)
 (some 0)
 ((cC t0 x_1.kind x_1.message).bind λx_2=>
 ay (Gx x_2 x1)
 (ay (x_1.kind==3)
 (fW.W1 false 0 t0 x1 x_1)
 (some 0))
 (some 8))
open fW in
instance M9 (t0:Trace) (x1:aa):Fc Sy cL (fW t0 x1):=Fc.M 105 [enc t0,enc x1] (dc 2 2 t0 (aV 8 λx_1 _=>me 1 5 0 x_1 (aK 10 14 ah (jS 11 λx_2 _=>dB 4 22 (aK 11 25 (iU 14 (λqW1=>(aQ [Pv 2,Pv 3,Pv 5,Bv 6 qW1.1,Iv 7 qW1.2] [Xb 2 t0,Xb 3 x1,Xb 5 x_1])) (λeW1=>(0,(aQ [Bv 6 eW1] []))) (λqW1=>bC 9 λx_3 _=>bB 2 x_3.events (aK 3 35 (bC 11 λx_4 _=>bC 3 λx_5 _=>me 2 8 0 x_5 (br 5 18 [8,49] 67 (aK 5 49 (aI 18) (br 4 6 [53] 59 (aK 4 53 (aI 6) (aI 6)) λx_6=>br 1 6 [8,60] 66 (aK 1 60 (aI 6) (aI 6)) λx_7=>aI 1)) λx_8=>ah)) ah)) (λeW1=>dB 8 69 ah ah)) ah) ah))))
namespace b7
def J4 (done3:Sl Int) (p5:Int) (tb1:Trace):Option (Fw ((Sl Int)×Bool) ((Sl Int)×Bool) Empty):=
 (Sl.kN done3 p5).bind λx_12=>
 (Sl.get done3 x_12).bind λx_13=>
 (Sl.kN done3 p5).bind λx_14=>
 (Sl.put done3 x_14 (IntKind.wrap .i64 (x_13+1):Int)).bind λx_15=>
 some (.n (x_15,true))
def fN (p5:Int) (tb1:Trace) (done3:Sl Int) (moved4:Bool):Option (Fw ((Sl Int)×Bool) ((Sl Int)×Bool) Empty):=
 (Sl.kN done3 p5).bind λx_2=>
 (Sl.get done3 x_2).bind λx_3=>
 (idx tb1.procs p5).bind λx_4=>
 ay (decide (x_3<(len x_4.events)))
 ((idx tb1.procs p5).bind λx_5=>
 (Sl.kN done3 p5).bind λx_6=>
 (Sl.get done3 x_6).bind λx_7=>
 (idx x_5.events x_7).bind λx_8=>
 ay (x_8.kind==3)
 ((cC tb1 2 x_8.message).bind λx_9=>
 (Sl.kN done3 x_9.proc).bind λx_10=>
 (Sl.get done3 x_10).bind λx_11=>
 ay (decide (x_11<x_9.index))
 (some (.x (done3,moved4)))
 (J4 done3 p5 tb1))
 (J4 done3 p5 tb1))
 (some (.x (done3,moved4)))
def W3 (done3:Sl Int) (moved4:Bool) (p5:Int) (tb1:Trace):Option (Fw ((Sl Int)×Bool×Int) ((Sl Int)×Bool) Empty):=
 (aZ (λq:(Sl Int)×Bool=>fN p5 tb1 q.1 q.2) (done3,moved4)).bind (Fw.elim
 (λe=>some (.n (e.1,e.2,IntKind.wrap .i64 (p5+1))))
 (λe=>Empty.elim e))
def bq (tb1:Trace) (done3:Sl Int) (moved4:Bool) (p5:Int):Option (Fw ((Sl Int)×Bool×Int) ((Sl Int)×Bool) Empty):=
 ay (decide (p5<(len tb1.procs)))
 (W3 done3 moved4 p5 tb1)
 (some (.x (done3,moved4)))
def W2 (done3:Sl Int) (moved4:Bool) (p5:Int) (tb1:Trace):Option (Fw (Sl Int) (Sl Int) Empty):=
 (aZ (λq:(Sl Int)×Bool×Int=>bq tb1 q.1 q.2.1 q.2.2) (done3,moved4,p5)).bind (Fw.elim
 (λe=>ay e.2
 (some (.n e.1))
 (some (.x e.1)))
 (λe=>Empty.elim e))
def vB (done3:Sl Int) (tb1:Trace) (p8:Int):Option (Fw Int Unit Unit):=
 ay (decide (p8<(len tb1.procs)))
 ((Sl.kN done3 p8).bind λx_16=>
 (Sl.get done3 x_16).bind λx_17=>
 (idx tb1.procs p8).bind λx_18=>
 ay (decide (x_17<(len x_18.events)))
 (some (.r ()))
 (some (.n (IntKind.wrap .i64 (p8+1)))))
 (some (.x ()))
def W5 (done3:Sl Int) (p8:Int) (tb1:Trace):Option Bool:=
 (aZ (λq:Int=>vB done3 tb1 q) p8).bind (Fw.elim
 (λe=>some true)
 (λe=>some false))
def aB (tb1:Trace) (done3:Sl Int):Option (Fw (Sl Int) (Sl Int) Empty):=
 W2 done3 false 0 tb1
def W1 (done3:Sl Int) (tb1:Trace):Option Bool:=
 (aZ (λq:Sl Int=>aB tb1 q) done3).bind (Fw.elim
 (λe=>b7.W5 e 0 tb1)
 (λe=>Empty.elim e))
end b7
def b7 (t0:Trace):Option Bool:=
 (sG (len t0.procs) (0:Int)).bind λx_1=>
 b7.W1 x_1 t0
open b7 in
instance La (t0:Trace):Fc Sy cL (b7 t0):=Fc.M 106 [enc t0] (dc 2 1 t0 (bB 7 t0.procs (QS 0 12 λx_1 _=>iU 7 (λqW1=>(aQ [Pv 1,Ov 3] [Xb 1 t0,Lb 2003 qW1])) (λeW1=>(0,(aQ [Pv 1,Ov 3] [Xb 1 t0,Lb 2003 eW1]))) (λqW1=>iU 17 (λqW2=>(aQ [Pv 1,Ov 3,Bv 4 qW2.2.1,Iv 5 qW2.2.2] [Xb 1 t0,Lb 2003 qW2.1])) (λeW2=>(2,(aQ [Pv 1,Ov 3,Bv 4 eW2.2] [Xb 1 t0,Lb 2003 eW2.1]))) (λqW2=>bB 8 t0.procs (aK 3 17 (iU 8 (λqW3=>(aQ [Pv 1,Ov 3,Bv 4 qW3.2,Iv 5 qW2.2.2] [Xb 1 t0,Lb 2003 qW3.1])) (λeW3=>(4,(aQ [Pv 1,Ov 3,Bv 4 eW3.2,Iv 5 qW2.2.2] [Xb 1 t0,Lb 2003 eW3.1]))) (λqW3=>lK .i64 7 2003 λx_2 _=>sR 0 2003 0 1 false (λx_3=>.int .i64 x_3) λx_3 _=>bC 3 λx_4 _=>bB 2 x_4.events (aK 3 31 (bC 9 λx_5 _=>lK .i64 4 2003 λx_6 _=>sR 0 2003 0 1 false (λx_7=>.int .i64 x_7) λx_7 _=>bC 0 λx_8 _=>me 2 6 0 x_8 (aK 10 46 (aV 6 λx_9 _=>lK .i64 9 2003 λx_10 _=>sR 0 2003 0 1 false (λx_11=>.int .i64 x_11) λx_11 _=>aK 5 58 ah (xm 5 (lK .i64 4 2003 λx_12 _=>sR 0 2003 0 1 false (λx_13=>.int .i64 x_13) λx_13 _=>lK .i64 1 2003 λx_14 _=>vM 0 2003 (.int .i64 (IntKind.wrap .i64 (x_13+1))) λx_15 _=>ah))) (xm 5 (lK .i64 4 2003 λx_12 _=>sR 0 2003 0 1 false (λx_13=>.int .i64 x_13) λx_13 _=>lK .i64 1 2003 λx_14 _=>vM 0 2003 (.int .i64 (IntKind.wrap .i64 (x_13+1))) λx_15 _=>ah)))) ah)) (λeW3=>ah)) ah)) (λeW2=>dB 8 66 ah ah)) (λeW1=>dA 11 (λqW5=>(aQ [Pv 1,Ov 3,Iv 8 qW5] [Xb 1 t0,Lb 2003 eW1])) (λeW5=>(6,(aQ [] []))) (λeW5=>(aQ [Bv 2 false] [])) (λqW5=>bB 8 t0.procs (aK 3 71 (lK .i64 9 2003 λx_16 _=>sR 0 2003 0 1 false (λx_17=>.int .i64 x_17) λx_17 _=>bC 3 λx_18 _=>bB 2 x_18.events (aK 3 85 ah ah)) ah)) (λeW5=>ah) (λeW5=>ah)))))
instance Po (t:Trace) (x:aa):Fc Sy cL (lG t x):=Fc.of (A:=λz:Trace×aa=>[enc z.1,enc z.2]) (E:=λr:Sl (Sl Bool)=>[enc r]) (p:=λz=>lG z.1 z.2) (n:=107) (z:=(t,x)) (jk.L0 (by kernel_rfl) (by kernel_rfl) (λz r hr=>KM z.1 z.2 r hr))
namespace bR
def fN (p6:Int) (tb1:Trace) (vb2:aa) (i7:Int):Option (Fw Int Unit (Int×aa)):=
 (idx tb1.procs p6).bind λx_3=>
 ay (decide (i7<(len x_3.events)))
 ((cR tb1 p6 i7).bind λx_4=>
 ay (x_4==0)
 (some (.n (IntKind.wrap .i64 (i7+1))))
 (some (.r (x_4,(⟨p6,IntKind.wrap .i64 (i7+1)⟩:aa)))))
 (some (.x ()))
def W3 (p6 i7:Int) (tb1:Trace) (vb2:aa):Option (Fw Int Unit (Int×aa)):=
 (aZ (λq:Int=>fN p6 tb1 vb2 q) i7).bind (Fw.elim
 (λe=>some (.n (IntKind.wrap .i64 (p6+1))))
 (λe=>some (.r (e.1,e.2))))
def vB (p9:Int) (tb1:Trace) (vb2:aa) (i10:Int):Option (Fw Int Unit (Int×aa)):=
 (idx tb1.procs p9).bind λx_5=>
 ay (decide (i10<(len x_5.events)))
 ((fW tb1 (⟨p9,IntKind.wrap .i64 (i10+1)⟩:aa)).bind λx_6=>
 ay (x_6==0)
 (some (.n (IntKind.wrap .i64 (i10+1))))
 (some (.r (x_6,(⟨p9,IntKind.wrap .i64 (i10+1)⟩:aa)))))
 (some (.x ()))
def W5 (p9 i10:Int) (tb1:Trace) (vb2:aa):Option (Fw Int Unit (Int×aa)):=
 (aZ (λq:Int=>vB p9 tb1 vb2 q) i10).bind (Fw.elim
 (λe=>some (.n (IntKind.wrap .i64 (p9+1))))
 (λe=>some (.r (e.1,e.2))))
def GO (p13:Int) (tb1:Trace) (vb2:aa) (i14:Int):Option (Fw Int Unit aa):=
 (idx tb1.procs p13).bind λx_7=>
 ay (decide (i14<(len x_7.events)))
 ((lG tb1 (⟨p13,IntKind.wrap .i64 (i14+1)⟩:aa)).bind λx_8=>
 (idx x_8 p13).bind λx_9=>
 (idx x_9 (IntKind.wrap .i64 (i14+1))).bind λx_10=>
 ay x_10
 (some (.r (⟨p13,IntKind.wrap .i64 (i14+1)⟩:aa)))
 (some (.n (IntKind.wrap .i64 (i14+1)))))
 (some (.x ()))
def W7 (p13 i14:Int) (tb1:Trace) (vb2:aa):Option (Fw Int Unit aa):=
 (aZ (λq:Int=>GO p13 tb1 vb2 q) i14).bind (Fw.elim
 (λe=>some (.n (IntKind.wrap .i64 (p13+1))))
 (λe=>some (.r e)))
def GK (tb1:Trace) (vb2:aa) (p13:Int):Option (Fw Int Unit aa):=
 ay (decide (p13<(len tb1.procs)))
 (W7 p13 0 tb1 vb2)
 (some (.x ()))
def W6 (p13:Int) (tb1:Trace) (vb2:aa):Option (aa×Int):=
 (aZ (λq:Int=>GK tb1 vb2 q) p13).bind (Fw.elim
 (λe=>some (⟨0,0⟩,0))
 (λe=>some (e,10)))
def Ga (tb1:Trace) (vb2:aa) (p9:Int):Option (Fw Int Unit (Int×aa)):=
 ay (decide (p9<(len tb1.procs)))
 (W5 p9 0 tb1 vb2)
 (some (.x ()))
def W4 (p9:Int) (tb1:Trace) (vb2:aa):Option (aa×Int):=
 (aZ (λq:Int=>Ga tb1 vb2 q) p9).bind (Fw.elim
 (λe=>(b7 tb1).bind λx_11=>
 ay x_11
 (some (⟨0,0⟩,0))
 (bR.W6 0 tb1 vb2))
 (λe=>some (e.2,e.1)))
def bq (tb1:Trace) (vb2:aa) (p6:Int):Option (Fw Int Unit (Int×aa)):=
 ay (decide (p6<(len tb1.procs)))
 (W3 p6 0 tb1 vb2)
 (some (.x ()))
def W2 (p6:Int) (tb1:Trace) (vb2:aa):Option (aa×Int):=
 (aZ (λq:Int=>bq tb1 vb2 q) p6).bind (Fw.elim
 (λe=>bR.W4 0 tb1 vb2)
 (λe=>some (e.2,e.1)))
def aB (tb1:Trace) (vb2:aa) (p4:Int):Option (Fw Int Unit (Int×aa)):=
 ay (decide (p4<(len tb1.procs)))
 ((cO tb1 p4).bind λx_2=>
 ay (x_2==0)
 (some (.n (IntKind.wrap .i64 (p4+1))))
 (some (.r (x_2,(⟨p4,0⟩:aa)))))
 (some (.x ()))
def W1 (p4:Int) (tb1:Trace) (vb2:aa):Option (aa×Int):=
 (aZ (λq:Int=>aB tb1 vb2 q) p4).bind (Fw.elim
 (λe=>bR.W2 0 tb1 vb2)
 (λe=>some (e.2,e.1)))
end bR
def bR (t0:Trace):Option (aa×Int):=
 (ay (decide ((len t0.procs)<1))
 (some true)
 (some (decide ((len t0.procs)>8))):Option Bool).bind λx_1=>
 ay x_1
 (some (⟨0,0⟩,1))
 (bR.W1 0 t0 (⟨0,0⟩:aa))
open bR in
instance Oi (t0:Trace):Fc Sy cL (bR t0):=Fc.M 51 [enc t0] (dc 2 1 t0 (bB 9 t0.procs (br 2 5 [20] 25 (aK 2 20 (aI 5) (bB 2 t0.procs (aI 2))) λx_1=>aK 2 25 ah (dA 11 (λqW1=>(aQ [Pv 1,Pv 2,Iv 4 qW1] [Xb 1 t0,Xb 2 (⟨0,0⟩:aa)])) (λeW1=>(0,(aQ [Pv 1,Pv 2] [Xb 1 t0,Xb 2 (⟨0,0⟩:aa)]))) (λeW1=>(aQ [Pv 2,Iv 3 eW1.1] [Xb 2 eW1.2])) (λqW1=>bB 7 t0.procs (aK 3 31 (aV 9 λx_2 _=>dB 9 38 ah ah) ah)) (λeW1=>dA 10 (λqW2=>(aQ [Pv 1,Pv 2,Iv 6 qW2] [Xb 1 t0,Xb 2 (⟨0,0⟩:aa)])) (λeW2=>(2,(aQ [Pv 1,Pv 2] [Xb 1 t0,Xb 2 (⟨0,0⟩:aa)]))) (λeW2=>(aQ [Pv 2,Iv 3 eW2.1] [Xb 2 eW2.2])) (λqW2=>bB 7 t0.procs (aK 3 46 (dA 12 (λqW3=>(aQ [Pv 1,Pv 2,Iv 6 qW2,Iv 7 qW3] [Xb 1 t0,Xb 2 (⟨0,0⟩:aa)])) (λeW3=>(4,(aQ [Pv 1,Pv 2,Iv 6 qW2] [Xb 1 t0,Xb 2 (⟨0,0⟩:aa)]))) (λeW3=>(aQ [Pv 2,Iv 3 eW3.1] [Xb 2 eW3.2])) (λqW3=>bC 8 λx_3 _=>bB 2 x_3.events (aK 3 57 (aV 10 λx_4 _=>dB 9 65 ah ah) ah)) (λeW3=>ah) (λeW3=>ah)) ah)) (λeW2=>dA 10 (λqW4=>(aQ [Pv 1,Pv 2,Iv 9 qW4] [Xb 1 t0,Xb 2 (⟨0,0⟩:aa)])) (λeW4=>(6,(aQ [Pv 1,Pv 2] [Xb 1 t0,Xb 2 (⟨0,0⟩:aa)]))) (λeW4=>(aQ [Pv 2,Iv 3 eW4.1] [Xb 2 eW4.2])) (λqW4=>bB 7 t0.procs (aK 3 75 (dA 12 (λqW5=>(aQ [Pv 1,Pv 2,Iv 9 qW4,Iv 10 qW5] [Xb 1 t0,Xb 2 (⟨0,0⟩:aa)])) (λeW5=>(8,(aQ [Pv 1,Pv 2,Iv 9 qW4] [Xb 1 t0,Xb 2 (⟨0,0⟩:aa)]))) (λeW5=>(aQ [Pv 2,Iv 3 eW5.1] [Xb 2 eW5.2])) (λqW5=>bC 8 λx_5 _=>bB 2 x_5.events (aK 3 86 (aV 19 λx_6 _=>dB 9 97 ah ah) ah)) (λeW5=>ah) (λeW5=>ah)) ah)) (λeW4=>aV 6 λx_11 _=>aK 2 101 ah (dA 11 (λqW6=>(aQ [Pv 1,Pv 2,Iv 13 qW6] [Xb 1 t0,Xb 2 (⟨0,0⟩:aa)])) (λeW6=>(10,(aQ [Pv 2] [Xb 2 (⟨0,0⟩:aa)]))) (λeW6=>(aQ [Pv 2,Iv 3 10] [Xb 2 eW6])) (λqW6=>bB 7 t0.procs (aK 3 107 (dA 12 (λqW7=>(aQ [Pv 1,Pv 2,Iv 13 qW6,Iv 14 qW7] [Xb 1 t0,Xb 2 (⟨0,0⟩:aa)])) (λeW7=>(12,(aQ [Pv 1,Pv 2,Iv 13 qW6] [Xb 1 t0,Xb 2 (⟨0,0⟩:aa)]))) (λeW7=>(aQ [Pv 2,Iv 3 10] [Xb 2 eW7])) (λqW7=>bC 8 λx_7 _=>bB 2 x_7.events (aK 3 118 (aV 19 λx_8 _=>bC 1 λx_9 _=>bC 3 λx_10 _=>aK 3 134 ah ah) ah)) (λeW7=>ah) (λeW7=>ah)) ah)) (λeW6=>ah) (λeW6=>ah))) (λeW4=>ah)) (λeW2=>ah)) (λeW1=>ah)))))
def qv (t0:Trace):Option Bool:=
 (bR t0).bind λx_1=>
 some (x_1.2==0)
instance OQ (t0:Trace):Fc Sy cL (qv t0):=Fc.M 10 [enc t0] (dc 2 1 t0 (aV 6 λx_1 _=>ah))
def o4 (c0:Sl Int) (p1:Int):Option (Sl Int):=
 (kO (Sl.row []:Sl Int) c0).bind λx_1=>
 (Sl.kN x_1 p1).bind λx_2=>
 (Sl.get x_1 x_2).bind λx_3=>
 (Sl.kN x_1 p1).bind λx_4=>
 (Sl.put x_1 x_4 (IntKind.wrap .i64 (x_3+1):Int)).bind λx_5=>
 some x_5
instance Pf (c0:Sl Int) (p1:Int):Fc Sy cL (o4 c0 p1):=Fc.N 142 [enc c0,.int .i64 p1] (vq 9 6 8 λx_1 _=>lK .i64 9 8 λx_2 _=>sR 0 8 0 1 false (λx_3=>.int .i64 x_3) λx_3 _=>lK .i64 1 8 λx_4 _=>vM 0 8 (.int .i64 (IntKind.wrap .i64 (x_3+1))) λx_5 _=>ah)
namespace lz
def aB (counts1:Sl Int) (tb2:Trace) (p5:Int):Option (Fw Int Unit Unit):=
 ay (decide (p5<(len counts1)))
 ((idx counts1 p5).bind λx_1=>
 (ay (decide (x_1<0))
 (some true)
 ((idx counts1 p5).bind λx_2=>
 (idx tb2.procs p5).bind λx_3=>
 some (decide (x_2>(len x_3.events)))):Option Bool).bind λx_4=>
 ay x_4
 (some (.r ()))
 (some (.n (IntKind.wrap .i64 (p5+1)))))
 (some (.x ()))
def W1 (counts1:Sl Int) (p5:Int) (tb2:Trace):Option Bool:=
 (aZ (λq:Int=>aB counts1 tb2 q) p5).bind (Fw.elim
 (λe=>some true)
 (λe=>some false))
end lz
def lz (t0:Trace) (counts1:Sl Int):Option Bool:=
 ay ((len counts1)==(len t0.procs))
 (lz.W1 counts1 0 t0)
 (some false)
open lz in
instance PB (t0:Trace) (counts1:Sl Int):Fc Sy cL (lz t0 counts1):=Fc.M 159 [enc t0,enc counts1] (dc 2 2 t0 (bB 7 counts1 (bB 2 t0.procs (dB 3 11 (dA 11 (λqW1=>(aQ [Cv 1 counts1,Pv 2,Iv 5 qW1] [Xb 2 t0])) (λeW1=>(0,(aQ [] []))) (λeW1=>(aQ [Bv 4 false] [])) (λqW1=>bB 6 counts1 (aK 3 15 (bC 9 λx_1 _=>br 3 13 [23] 36 (aK 3 23 (aI 13) (bC 2 λx_2 _=>bC 4 λx_3 _=>bB 2 x_3.events (aI 2))) λx_4=>aK 2 36 ah ah) ah)) (λeW1=>ah) (λeW1=>ah)) ah))))
namespace cB
def bq (counts1:Sl Int) (p5:Int) (tb2:Trace) (i6:Int):Option (Fw Int Unit Unit):=
 (idx counts1 p5).bind λx_1=>
 ay (decide (i6<x_1))
 ((idx tb2.procs p5).bind λx_2=>
 (idx x_2.events i6).bind λx_3=>
 ay (x_3.kind==3)
 ((cC tb2 2 x_3.message).bind λx_4=>
 (idx counts1 x_4.proc).bind λx_5=>
 ay (decide (x_4.index>x_5))
 (some (.r ()))
 (some (.n (IntKind.wrap .i64 (i6+1)))))
 (some (.n (IntKind.wrap .i64 (i6+1)))))
 (some (.x ()))
def W2 (counts1:Sl Int) (p5 i6:Int) (tb2:Trace):Option (Fw Int Unit Unit):=
 (aZ (λq:Int=>bq counts1 p5 tb2 q) i6).bind (Fw.elim
 (λe=>some (.n (IntKind.wrap .i64 (p5+1))))
 (λe=>some (.r ())))
def aB (counts1:Sl Int) (tb2:Trace) (p5:Int):Option (Fw Int Unit Unit):=
 ay (decide (p5<(len counts1)))
 (W2 counts1 p5 0 tb2)
 (some (.x ()))
def W1 (counts1:Sl Int) (p5:Int) (tb2:Trace):Option Bool:=
 (aZ (λq:Int=>aB counts1 tb2 q) p5).bind (Fw.elim
 (λe=>some true)
 (λe=>some false))
end cB
def cB (t0:Trace) (counts1:Sl Int):Option Bool:=
 cB.W1 counts1 0 t0
open cB in
instance IJ (t0:Trace) (counts1:Sl Int):Fc Sy cL (cB t0 counts1):=Fc.M 160 [enc t0,enc counts1] (dc 2 2 t0 (dA 11 (λqW1=>(aQ [Cv 1 counts1,Pv 2,Iv 5 qW1] [Xb 2 t0])) (λeW1=>(0,(aQ [] []))) (λeW1=>(aQ [Bv 4 false] [])) (λqW1=>bB 6 counts1 (aK 3 12 (dA 12 (λqW2=>(aQ [Cv 1 counts1,Pv 2,Iv 5 qW1,Iv 6 qW2] [Xb 2 t0])) (λeW2=>(2,(aQ [Cv 1 counts1,Pv 2,Iv 5 qW1] [Xb 2 t0]))) (λeW2=>(aQ [Bv 4 false] [])) (λqW2=>bC 7 λx_1 _=>aK 4 20 (bC 10 λx_2 _=>bC 3 λx_3 _=>me 2 7 0 x_3 (aK 9 34 (aV 6 λx_4 _=>bC 11 λx_5 _=>aK 4 46 ah ah) ah)) ah) (λeW2=>ah) (λeW2=>ah)) ah)) (λeW1=>ah) (λeW1=>ah)))
def uH (t0:Trace) (c1:Sl Int):Option Bool:=
 (lz t0 c1).bind λx_1=>
 (ay x_1
 ((cB t0 c1).bind λx_2=>
 some x_2)
 (some false):Option Bool).bind λx_3=>
 some x_3
instance R1 (t0:Trace) (c1:Sl Int):Fc Sy cL (uH t0 c1):=Fc.M 141 [enc t0,enc c1] (dc 2 2 t0 (aV 7 λx_1 _=>br 1 4 [1,2,8] 12 (aK 1 8 (aV 2 λx_2 _=>aI 1) (aI 4)) λx_3=>ah))
namespace gJ
def aB (c1:Sl Int) (tb2:Trace) (out5:Sl (Sl Int)) (p6:Int):Option (Fw ((Sl (Sl Int))×Int) (Sl (Sl Int)) Empty):=
 ay (decide (p6<(len c1)))
 ((idx c1 p6).bind λx_1=>
 (idx tb2.procs p6).bind λx_2=>
 (ay (decide (x_1<(len x_2.events)))
 ((o4 c1 p6).bind λx_3=>
 (uH tb2 x_3).bind λx_4=>
 some x_4)
 (some false):Option Bool).bind λx_5=>
 ay x_5
 ((o4 c1 p6).bind λx_6=>
 (i_ out5 (x_6:Sl Int)).bind λx_7=>
 some (.n (x_7,IntKind.wrap .i64 (p6+1))))
 (some (.n (out5,IntKind.wrap .i64 (p6+1)))))
 (some (.x out5))
def W1 (c1:Sl Int) (out5:Sl (Sl Int)) (p6:Int) (tb2:Trace):Option (Sl (Sl Int)):=
 (aZ (λq:(Sl (Sl Int))×Int=>aB c1 tb2 q.1 q.2) (out5,p6)).bind (Fw.elim
 (λe=>some e)
 (λe=>Empty.elim e))
end gJ
def gJ (t0:Trace) (c1:Sl Int):Option (Sl (Sl Int)):=
 gJ.W1 c1 (Sl.nil:Sl (Sl Int)) 0 t0
open gJ in
instance Ph (t0:Trace) (c1:Sl Int):Fc Sy cL (gJ t0 c1):=Fc.N 108 [enc t0,enc c1] (dc 2 2 t0 (iU 17 (λqW1=>(aQ [Cv 1 c1,Pv 2,Ov 5,Iv 6 qW1.2] [Xb 2 t0,Lb 2005 qW1.1])) (λeW1=>(0,(aQ [Ov 5] [Lb 2005 eW1]))) (λqW1=>bB 7 c1 (aK 3 10 (bC 9 λx_1 _=>bC 4 λx_2 _=>bB 2 x_2.events (M4 2 6 [30,29] (λx_5=>(aQ [Cv 1 c1,Pv 2,Ov 5,Iv 6 qW1.2,Bv 10 true,Bv 31 x_5] [Xb 2 t0,Lb 2005 qW1.1])) (aK 2 25 (aV 3 λx_3 _=>jS 0 λx_4 _=>aI 1) (aI 6)) λx_5=>aK 2 31 (aV 5 λx_6 _=>CO 0 36 ([x_6]:List (Sl Int)) (sO 0 2005 36 37 λx_7 _=>ah)) ah)) ah)) (λeW1=>ah)))
namespace eF
def aB (c0:Sl Int) (n3 i4:Int):Option (Fw (Int×Int) Int Empty):=
 ay (decide (i4<(len c0)))
 ((idx c0 i4).bind λx_1=>
 some (.n (IntKind.wrap .i64 (n3+x_1),IntKind.wrap .i64 (i4+1))))
 (some (.x n3))
def W1 (c0:Sl Int) (n3 i4:Int):Option Int:=
 (aZ (λq:Int×Int=>aB c0 q.1 q.2) (n3,i4)).bind (Fw.elim
 (λe=>some e)
 (λe=>Empty.elim e))
end eF
def eF (c0:Sl Int):Option Int:=
 eF.W1 c0 0 0
open eF in
instance Pt (c0:Sl Int):Fc Sy cL (eF c0):=Fc.M 28 [enc c0] (iU 18 (λqW1=>(aQ [Cv 0 c0,Iv 3 qW1.1,Iv 4 qW1.2] [])) (λeW1=>(0,(aQ [Iv 3 eW1] []))) (λqW1=>bB 6 c0 (aK 3 8 (bC 9 λx_1 _=>ah) ah)) (λeW1=>ah))
namespace e_
def aB (a0 b1:Sl Int) (i5:Int):Option (Fw Int Unit Bool):=
 ay (decide (i5<(len a0)))
 ((idx a0 i5).bind λx_5=>
 (idx b1 i5).bind λx_6=>
 ay (x_5==x_6)
 (some (.n (IntKind.wrap .i64 (i5+1))))
 ((idx a0 i5).bind λx_7=>
 (idx b1 i5).bind λx_8=>
 some (.r (decide (x_7<x_8)))))
 (some (.x ()))
def W1 (a0 b1:Sl Int) (i5:Int):Option Bool:=
 (aZ (λq:Int=>aB a0 b1 q) i5).bind (Fw.elim
 (λe=>some false)
 (λe=>some e))
end e_
def e_ (a0 b1:Sl Int):Option Bool:=
 (eF a0).bind λx_1=>
 (eF b1).bind λx_2=>
 ay (x_1==x_2)
 (e_.W1 a0 b1 0)
 ((eF a0).bind λx_3=>
 (eF b1).bind λx_4=>
 some (decide (x_3<x_4)))
open e_ in
instance Ni (a0 b1:Sl Int):Fc Sy cL (e_ a0 b1):=Fc.M 143 [enc a0,enc b1] (aV 9 λx_1 _=>aV 1 λx_2 _=>dB 3 10 (dA 11 (λqW1=>(aQ [Cv 0 a0,Cv 1 b1,Iv 5 qW1] [])) (λeW1=>(0,(aQ [] []))) (λeW1=>(aQ [Bv 4 eW1] [])) (λqW1=>bB 6 a0 (aK 3 19 (bC 9 λx_5 _=>bC 3 λx_6 _=>dB 4 30 ah (bC 5 λx_7 _=>bC 3 λx_8 _=>ah)) ah)) (λeW1=>ah) (λeW1=>ah)) (aV 4 λx_3 _=>aV 1 λx_4 _=>ah))
namespace dH
def aB (a0 b1:Sl Int) (i5:Int):Option (Fw Int Unit Unit):=
 ay (decide (i5<(len a0)))
 ((idx a0 i5).bind λx_1=>
 (idx b1 i5).bind λx_2=>
 ay (x_1==x_2)
 (some (.n (IntKind.wrap .i64 (i5+1))))
 (some (.r ())))
 (some (.x ()))
def W1 (a0 b1:Sl Int) (i5:Int):Option Bool:=
 (aZ (λq:Int=>aB a0 b1 q) i5).bind (Fw.elim
 (λe=>some true)
 (λe=>some false))
end dH
def dH (a0 b1:Sl Int):Option Bool:=
 ay ((len a0)==(len b1))
 (dH.W1 a0 b1 0)
 (some false)
open dH in
instance KH (a0 b1:Sl Int):Fc Sy cL (dH a0 b1):=Fc.M 115 [enc a0,enc b1] (bB 9 a0 (bB 1 b1 (dB 3 10 (dA 11 (λqW1=>(aQ [Cv 0 a0,Cv 1 b1,Iv 5 qW1] [])) (λeW1=>(0,(aQ [] []))) (λeW1=>(aQ [Bv 4 false] [])) (λqW1=>bB 6 a0 (aK 3 14 (bC 9 λx_1 _=>bC 3 λx_2 _=>dB 4 25 ah ah) ah)) (λeW1=>ah) (λeW1=>ah)) ah)))
namespace eY
def aB (l0:Sl (Sl Int)) (c1:Sl Int) (at_5:Int):Option (Fw Int Int Empty):=
 (ay (decide (at_5<(len l0)))
 ((idx l0 at_5).bind λx_1=>
 (e_ x_1 c1).bind λx_2=>
 some x_2)
 (some false):Option Bool).bind λx_3=>
 ay x_3
 (some (.n (IntKind.wrap .i64 (at_5+1))))
 (some (.x at_5))
def W1 (l0:Sl (Sl Int)) (c1:Sl Int) (at_5:Int):Option (Sl (Sl Int)):=
 (aZ (λq:Int=>aB l0 c1 q) at_5).bind (Fw.elim
 (λe=>(ay (decide (e<(len l0)))
 ((idx l0 e).bind λx_4=>
 (dH x_4 c1).bind λx_5=>
 some x_5)
 (some false):Option Bool).bind λx_6=>
 ay x_6
 (some l0)
 ((eH l0 none (some e)).bind λx_7=>
 (kO (Sl.row []:Sl (Sl Int)) x_7).bind λx_8=>
 (i_ x_8 (c1:Sl Int)).bind λx_9=>
 (eH l0 (some e) none).bind λx_10=>
 (kO x_9 x_10).bind λx_11=>
 some x_11))
 (λe=>Empty.elim e))
end eY
def eY (l0:Sl (Sl Int)) (c1:Sl Int):Option (Sl (Sl Int)):=
 eY.W1 l0 c1 0
open eY in
instance Nb (l0:Sl (Sl Int)) (c1:Sl Int):Fc Sy cL (eY l0 c1):=Fc.N 109 [enc l0,enc c1] (iU 13 (λqW1=>(aQ [Cv 0 l0,Cv 1 c1,Iv 5 qW1] [])) (λeW1=>(0,(aQ [Cv 0 l0,Cv 1 c1,Iv 5 eW1] []))) (λqW1=>bB 6 l0 (br 2 7 [11] 18 (aK 2 11 (bC 2 λx_1 _=>aV 2 λx_2 _=>aI 1) (aI 7)) λx_3=>aK 2 18 ah ah)) (λeW1=>bB 7 l0 (br 2 7 [25] 32 (aK 2 25 (bC 2 λx_4 _=>aV 2 λx_5 _=>aI 1) (aI 7)) λx_6=>aK 2 32 ah (CO 5 34 ([]:List (Sl Int)) (BW 2 false true [.int .i64 eW1] λx_7 _=>vq 0 34 38 λx_8 _=>CO 7 41 ([c1]:List (Sl Int)) (sO 0 38 41 42 λx_9 _=>BW 8 true false [.int .i64 eW1] λx_10 _=>vq 0 42 47 λx_11 _=>ah))))))
namespace c8
def fN (level4 out5:Sl (Sl Int)) (i7:Int) (l8:Sl (Sl Int)) (tb1:Trace) (more6:Sl (Sl Int)) (k9:Int):Option (Fw ((Sl (Sl Int))×Int) (Sl (Sl Int)) Empty):=
 ay (decide (k9<(len l8)))
 ((idx l8 k9).bind λx_5=>
 (eY more6 x_5).bind λx_6=>
 some (.n (x_6,IntKind.wrap .i64 (k9+1))))
 (some (.x more6))
def W3 (level4 out5 more6:Sl (Sl Int)) (i7:Int) (l8:Sl (Sl Int)) (k9:Int) (tb1:Trace):Option (Fw ((Sl (Sl Int))×Int) (Sl (Sl Int)) Empty):=
 (aZ (λq:(Sl (Sl Int))×Int=>fN level4 out5 i7 l8 tb1 q.1 q.2) (more6,k9)).bind (Fw.elim
 (λe=>some (.n (e,IntKind.wrap .i64 (i7+1))))
 (λe=>Empty.elim e))
def bq (level4 out5:Sl (Sl Int)) (tb1:Trace) (more6:Sl (Sl Int)) (i7:Int):Option (Fw ((Sl (Sl Int))×Int) (Sl (Sl Int)) Empty):=
 ay (decide (i7<(len level4)))
 ((idx level4 i7).bind λx_3=>
 (gJ tb1 x_3).bind λx_4=>
 W3 level4 out5 more6 i7 x_4 0 tb1)
 (some (.x more6))
def W2 (level4 out5 more6:Sl (Sl Int)) (i7:Int) (tb1:Trace):Option (Fw ((Sl (Sl Int))×(Sl (Sl Int))) (Sl (Sl Int)) Unit):=
 (aZ (λq:(Sl (Sl Int))×Int=>bq level4 out5 tb1 q.1 q.2) (more6,i7)).bind (Fw.elim
 (λe=>some (.n (e,out5)))
 (λe=>Empty.elim e))
def aB (tb1:Trace) (level4 out5:Sl (Sl Int)):Option (Fw ((Sl (Sl Int))×(Sl (Sl Int))) (Sl (Sl Int)) Unit):=
 ay (decide ((len level4)>0))
 ((kO out5 level4).bind λx_2=>
 ay (decide ((len x_2)>5000))
 (some (.r ()))
 (W2 level4 x_2 (Sl.nil:Sl (Sl Int)) 0 tb1))
 (some (.x out5))
def W1 (level4 out5:Sl (Sl Int)) (tb1:Trace):Option ((Sl (Sl Int))×Bool):=
 (aZ (λq:(Sl (Sl Int))×(Sl (Sl Int))=>aB tb1 q.1 q.2) (level4,out5)).bind (Fw.elim
 (λe=>some (e,true))
 (λe=>some ((Sl.nil:Sl (Sl Int)),false)))
end c8
def c8 (t0:Trace):Option ((Sl (Sl Int))×Bool):=
 (sG (len t0.procs) (0:Int)).bind λx_1=>
 c8.W1 (Sl.row [x_1]:Sl (Sl Int)) (Sl.nil:Sl (Sl Int)) t0
open c8 in
instance Pn (t0:Trace):Fc Sy cL (c8 t0):=Fc.N 52 [enc t0] (dc 2 1 t0 (bB 8 t0.procs (QS 0 13 λx_1 _=>CO 1 14 ([x_1]:List (Sl Int)) (dA 13 (λqW1=>(aQ [Pv 1,Cv 4 qW1.1,Ov 5] [Xb 1 t0,Lb 2005 qW1.2])) (λeW1=>(0,(aQ [Ov 5] [Lb 2005 eW1]))) (λeW1=>(aQ [Ov 2,Bv 3 false] [Lb 2002 (Sl.nil:Sl (Sl Int))])) (λqW1=>bB 7 qW1.1 (aK 3 17 (vq 8 2005 20 λx_2 _=>Dj 7 20 x_2 (aK 3 23 ah (iU 18 (λqW2=>(aQ [Pv 1,Cv 4 qW1.1,Ov 5,Cv 6 qW2.1,Iv 7 qW2.2] [Xb 1 t0,Lb 2005 x_2])) (λeW2=>(2,(aQ [Pv 1,Ov 5,Cv 6 eW2] [Xb 1 t0,Lb 2005 x_2]))) (λqW2=>bB 8 qW1.1 (aK 3 27 (bC 10 λx_3 _=>aV 1 λx_4 _=>iU 12 (λqW3=>(aQ [Pv 1,Cv 4 qW1.1,Ov 5,Cv 6 qW3.1,Iv 7 qW2.2,Cv 8 x_4,Iv 9 qW3.2] [Xb 1 t0,Lb 2005 x_2])) (λeW3=>(4,(aQ [Pv 1,Cv 4 qW1.1,Ov 5,Cv 6 eW3,Iv 7 qW2.2] [Xb 1 t0,Lb 2005 x_2]))) (λqW3=>bB 8 x_4 (aK 3 39 (bC 9 λx_5 _=>aV 1 λx_6 _=>ah) ah)) (λeW3=>ah)) ah)) (λeW2=>ah)))) ah)) (λeW1=>ah) (λeW1=>ah)))))
def rX (t0:Trace):Option Bool:=
 (c8 t0).bind λx_1=>
 (ay x_1.2
 (some (decide ((len x_1.1)<=200)))
 (some true):Option Bool).bind λx_2=>
 some x_2
instance Pg (t0:Trace):Fc Sy cL (rX t0):=Fc.M 11 [enc t0] (dc 2 1 t0 (aV 6 λx_1 _=>br 12 4 [3,12] 16 (dB 12 12 (bB 1 x_1.1 (aI 2)) (aI 4)) λx_2=>ah))
def lF (x0 low1 high2:Int):Option Bool:=
 (ay (decide (x0>=low1))
 (some (decide (x0<=high2)))
 (some false):Option Bool).bind λx_1=>
 some x_1
instance Sq (x0 low1 high2:Int):Fc Sy cL (lF x0 low1 high2):=Fc.M 150 [.int .i64 x0,.int .i64 low1,.int .i64 high2] (br 11 4 [0,2,10] 14 (aK 11 10 (aI 4) (aI 4)) λx_1=>ah)
def nX (c0:Int):Option Bool:=
 (ay (decide (c0>=97))
 (some (decide (c0<=122)))
 (some false):Option Bool).bind λx_1=>
 (ay x_1
 (some true)
 ((ay (decide (c0>=65))
 (some (decide (c0<=90)))
 (some false):Option Bool).bind λx_2=>
 some x_2):Option Bool).bind λx_3=>
 some x_3
instance O7 (c0:Int):Fc Sy cL (nX c0):=Fc.M 185 [.int .u8 c0] (br 10 3 [5] 8 (aK 10 5 (aI 3) (aI 3)) λx_1=>br 1 7 [0,9] 16 (aK 1 9 (aI 7) (br 3 3 [0,12] 15 (aK 3 12 (aI 3) (aI 3)) λx_2=>aI 1)) λx_3=>ah)
def rS (c0:Int):Option Bool:=
 (ay (decide (c0>=48))
 (some (decide (c0<=57)))
 (some false):Option Bool).bind λx_1=>
 some x_1
instance Pk (c0:Int):Fc Sy cL (rS c0):=Fc.M 186 [.int .u8 c0] (br 10 3 [0,5] 8 (aK 10 5 (aI 3) (aI 3)) λx_1=>ah)
namespace eA
def aB (s0:ByteArray) (v18:Int) (v19:Int):Option (Fw Int Unit Unit):=
 ay (decide (v19<v18))
 ((iV s0 v19).bind λx_5=>
 (nX x_5).bind λx_6=>
 (ay x_6
 (some false)
 ((iV s0 v19).bind λx_7=>
 (rS x_7).bind λx_8=>
 some (!x_8)):Option Bool).bind λx_9=>
 (ay x_9
 ((iV s0 v19).bind λx_10=>
 some (!(x_10==95)))
 (some false):Option Bool).bind λx_11=>
 ay x_11
 (some (.r ()))
 (some (.n (IntKind.wrap .i64 (v19+1)))))
 (some (.x ()))
def W1 (s0:ByteArray) (v18 v19:Int):Option Bool:=
 (aZ (λq:Int=>aB s0 v18 q) v19).bind (Fw.elim
 (λe=>some true)
 (λe=>some false))
end eA
def eA (s0:ByteArray):Option Bool:=
 (ay (ByteArray.toList s0==ByteArray.toList ByteArray.empty)
 (some true)
 (some (decide (((ByteArray.size s0:Nat):Int)>16))):Option Bool).bind λx_1=>
 (ay x_1
 (some true)
 ((iV s0 0).bind λx_2=>
 (nX x_2).bind λx_3=>
 some (!x_3)):Option Bool).bind λx_4=>
 ay x_4
 (some false)
 (eA.W1 s0 ((ByteArray.size s0:Nat):Int) 0)
open eA in
instance Oc (s0:ByteArray):Fc Sy cL (eA s0):=Fc.M 170 [.str s0] (br 11 4 [6] 10 (aK 11 6 (aI 4) (aI 4)) λx_1=>br 1 5 [11] 16 (aK 1 11 (aI 5) (xK 1 .i64 λx_2 _=>aV 0 λx_3 _=>aI 2)) λx_4=>aK 2 16 ah (dA 13 (λqW1=>(aQ [(0,.v (.str s0)),Iv 18 ((ByteArray.size s0:Nat):Int),Iv 19 qW1] [])) (λeW1=>(0,(aQ [] []))) (λeW1=>(aQ [Bv 2 false] [])) (λqW1=>aK 7 20 (xK 15 .i64 λx_5 _=>aV 0 λx_6 _=>br 2 6 [27] 33 (dB 2 27 (aI 6) (xK 2 .i64 λx_7 _=>aV 0 λx_8 _=>aI 2)) λx_9=>br 1 5 [3,34] 39 (aK 1 34 (xK 2 .i64 λx_10 _=>aI 2) (aI 5)) λx_11=>aK 2 39 ah ah) ah) (λeW1=>ah) (λeW1=>ah)))
def gY (y0 v1:bt):Option Bool:=
 some (ByteArray.toList y0.name==ByteArray.toList v1.name)
instance Fj (y0 v1:bt):Fc Sy cL (gY y0 v1):=Fc.M 172 [enc y0,.fptr (cells v1)] (dc 2 2 y0 ah)
namespace eo
def aB (s0:Sl bt) (v7:Int) (v8:Int) (p1:bt->Option Bool):Option (Fw Int Unit Int):=
 ay (decide (v8<v7))
 ((idx s0 v8).bind λx_1=>
 (p1 x_1).bind λx_2=>
 ay x_2
 (some (.r v8))
 (some (.n (IntKind.wrap .i64 (v8+1)))))
 (some (.x ()))
def W1 (s0:Sl bt) (v7 v8:Int) (p1:bt->Option Bool):Option Int:=
 (aZ (λq:Int=>aB s0 v7 q p1) v8).bind (Fw.elim
 (λe=>some (-1))
 (λe=>some e))
end eo
def eo (s0:Sl bt) (p1:bt->Option Bool):Option Int:=
 eo.W1 s0 (len s0) 0 p1
open eo in
abbrev ua (g1:FuncId) (e1:List V) (p1:bt->Option Bool) (h1:qG Sy cL g1 [] e1 (λz:bt=>[enc z]) (λr:Bool=>[.bool r]) p1 true) (s0:Sl bt):Fc Sy cL (eo s0 p1):=Fc.M 187 [enc s0,.clo g1 [] e1] (bB 9 s0 (dA 5 (λqW1=>(aQ [Cv 0 s0,(1,.v (.clo g1 [] e1)),Iv 7 (len s0),Iv 8 qW1] [])) (λeW1=>(0,(aQ [] []))) (λeW1=>(aQ [Iv 4 eW1] [])) (λqW1=>aK 7 9 (bC 16 λx_1 _=>yM 1 h1.f x_1 λx_2 _=>aK 2 16 ah ah) ah) (λeW1=>ah) (λeW1=>ah))) (l:=by simp[h1.d])
def fU (s0:Sl bt) (p1:bt->Option Bool):Option Bool:=
 (eo s0 p1).bind λx_1=>
 some (decide (x_1>=0))
abbrev sH (g1:FuncId) (e1:List V) (p1:bt->Option Bool) (h1:qG Sy cL g1 [] e1 (λz:bt=>[enc z]) (λr:Bool=>[.bool r]) p1 true) (s0:Sl bt):Fc Sy cL (fU s0 p1):=Fc.M 171 [enc s0,.clo g1 [] e1] (aV (F:=ua g1 e1 p1 h1 s0) 9 λx_1 _=>ah) (l:=by simp[h1.d])
def gU (w0 v1:Var):Option Bool:=
 some (ByteArray.toList w0.name==ByteArray.toList v1.name)
instance Fk (w0 v1:Var):Fc Sy cL (gU w0 v1):=Fc.M 174 [enc w0,.fptr (cells v1)] (ah)
namespace eU
def aB (s0:Sl Var) (v7:Int) (v8:Int) (p1:Var->Option Bool):Option (Fw Int Unit Int):=
 ay (decide (v8<v7))
 ((idx s0 v8).bind λx_1=>
 (p1 x_1).bind λx_2=>
 ay x_2
 (some (.r v8))
 (some (.n (IntKind.wrap .i64 (v8+1)))))
 (some (.x ()))
def W1 (s0:Sl Var) (v7 v8:Int) (p1:Var->Option Bool):Option Int:=
 (aZ (λq:Int=>aB s0 v7 q p1) v8).bind (Fw.elim
 (λe=>some (-1))
 (λe=>some e))
end eU
def eU (s0:Sl Var) (p1:Var->Option Bool):Option Int:=
 eU.W1 s0 (len s0) 0 p1
open eU in
abbrev u5 (g1:FuncId) (e1:List V) (p1:Var->Option Bool) (h1:qG Sy cL g1 [] e1 (λz:Var=>[enc z]) (λr:Bool=>[.bool r]) p1 true) (s0:Sl Var):Fc Sy cL (eU s0 p1):=Fc.M 188 [enc s0,.clo g1 [] e1] (bB 9 s0 (dA 5 (λqW1=>(aQ [Cv 0 s0,(1,.v (.clo g1 [] e1)),Iv 7 (len s0),Iv 8 qW1] [])) (λeW1=>(0,(aQ [] []))) (λeW1=>(aQ [Iv 4 eW1] [])) (λqW1=>aK 7 9 (bC 16 λx_1 _=>yM 1 h1.f x_1 λx_2 _=>aK 2 16 ah ah) ah) (λeW1=>ah) (λeW1=>ah))) (l:=by simp[h1.d])
def gp (s0:Sl Var) (p1:Var->Option Bool):Option Bool:=
 (eU s0 p1).bind λx_1=>
 some (decide (x_1>=0))
abbrev s_ (g1:FuncId) (e1:List V) (p1:Var->Option Bool) (h1:qG Sy cL g1 [] e1 (λz:Var=>[enc z]) (λr:Bool=>[.bool r]) p1 true) (s0:Sl Var):Fc Sy cL (gp s0 p1):=Fc.M 173 [enc s0,.clo g1 [] e1] (aV (F:=u5 g1 e1 p1 h1 s0) 9 λx_1 _=>ah) (l:=by simp[h1.d])
namespace di
def aB (v32:Sl Var) (v33:Int) (xb5:bt) (v34:Int):Option (Fw Int Unit Int):=
 ay (decide (v34<v33))
 ((idx v32 v34).bind λx_6=>
 (eA x_6.name).bind λx_7=>
 (ay x_7
 ((eH xb5.vars none (some v34)).bind λx_8=>
 (gp x_8 (λz=>gU z x_6)).bind λx_9=>
 some x_9)
 (some true):Option Bool).bind λx_10=>
 ay x_10
 (some (.r 13))
 ((lF x_6.init_ (-1073741824) 1073741824).bind λx_11=>
 ay x_11
 (some (.n (IntKind.wrap .i64 (v34+1))))
 (some (.r 2))))
 (some (.x ()))
def W1 (v32:Sl Var) (v33 v34:Int) (xb5:bt):Option Int:=
 (aZ (λq:Int=>aB v32 v33 xb5 q) v34).bind (Fw.elim
 (λe=>ay (decide ((len xb5.events)>64))
 (some 5)
 (some 0))
 (λe=>some e))
end di
def di (t0:Trace) (p1:Int):Option Int:=
 (idx t0.procs p1).bind λx_1=>
 (eA x_1.name).bind λx_2=>
 (ay x_2
 ((eH t0.procs none (some p1)).bind λx_3=>
 (fU x_3 (λz=>gY z x_1)).bind λx_4=>
 some x_4)
 (some true):Option Bool).bind λx_5=>
 ay x_5
 (some 13)
 (ay (decide ((len x_1.vars)>8))
 (some 5)
 (di.W1 x_1.vars (len x_1.vars) 0 x_1))
open di in
instance Hy (t0:Trace) (p1:Int):Fc Sy cL (di t0 p1):=Fc.M 151 [enc t0,.int .i64 p1] (dc 2 2 t0 (bC 8 λx_1 _=>me 2 5 0 x_1 (aV 8 λx_2 _=>br 2 7 [1,2,18] 25 (dB 2 18 (BW 3 false true [.int .i64 p1] λx_3 _=>jS (F:=sH 172 [.fptr (cells x_1)] (λz=>gY z x_1) qG.wI x_3) 1 λx_4 _=>aI 1) (aI 7)) λx_5=>aK 3 13 ah (bB 5 x_1.vars (aK 4 26 ah (bB 9 x_1.vars (dA 5 (λqW1=>(aQ [Pv 5,Cv 32 x_1.vars,Iv 33 (len x_1.vars),Iv 34 qW1] [Xb 5 x_1])) (λeW1=>(1,(aQ [Pv 5] [Xb 5 x_1]))) (λeW1=>(aQ [Iv 4 eW1] [])) (λqW1=>aK 7 35 (bC 8 λx_6 _=>aV 11 λx_7 _=>br 2 7 [6,44] 51 (dB 2 44 (BW 3 false true [.int .i64 qW1] λx_8 _=>jS (F:=s_ 174 [.fptr (cells x_6)] (λz=>gU z x_6) qG.wI x_8) 1 λx_9 _=>aI 1) (aI 7)) λx_10=>aK 3 39 ah (aV 5 λx_11 _=>dB 4 52 ah ah)) ah) (λeW1=>bB 7 x_1.events (aK 3 61 ah ah)) (λeW1=>ah))))))))
def iB (t0:Trace):Option Trace:=
 some t0
instance OE (t0:Trace):Fc Sy cL (iB t0):=Fc.NE (λr:Trace=>[(.clo 175 [] [.fptr (cells r)])]) 152 [enc t0] (dc 2 1 t0 ah)
namespace fV
def J1 (p1:Int) (v19:Bool) (tb3:Trace) (eb5:Event):Option Bool:=
 ay v19
 ((lF eb5.peer 0 (IntKind.wrap .i64 ((len tb3.procs)-1))).bind λx_2=>
 (ay x_2
 (some (!(eb5.peer==p1)))
 (some false):Option Bool).bind λx_3=>
 (ay x_3
 ((lF eb5.message 0 199).bind λx_4=>
 some x_4)
 (some false):Option Bool).bind λx_5=>
 some x_5)
 (some false)
end fV
def fV (t0:Trace) (p1:Int) (e2:Event):Option Bool:=
 ay (e2.kind==1)
 ((ay (e2.peer==0)
 (some (e2.message==0))
 (some false):Option Bool).bind λx_1=>
 some x_1)
 (ay (e2.kind==2)
 (fV.J1 p1 true t0 e2)
 (fV.J1 p1 (e2.kind==3) t0 e2))
open fV in
instance O8 (t0:Trace) (p1:Int) (e2:Event):Fc Sy cL (fV t0 p1 e2):=Fc.M 176 [enc t0,.int .i64 p1,enc e2] (dc 2 3 t0 (dc 0 5 e2 (aK 17 9 (br 7 4 [5,14] 18 (aK 7 14 (aI 4) (aI 4)) λx_1=>ah) (aK 8 19 (xm 4 (aK 0 19 (bB 7 t0.procs (aV 1 λx_2 _=>br 1 5 [1,29] 34 (aK 1 29 (aI 5) (aI 5)) λx_3=>br 1 4 [5,35] 39 (aK 1 35 (aV 2 λx_4 _=>aI 1) (aI 4)) λx_5=>ah)) ah)) (xm 7 (aK 0 19 (bB 7 t0.procs (aV 1 λx_2 _=>br 1 5 [1,29] 34 (aK 1 29 (aI 5) (aI 5)) λx_3=>br 1 4 [5,35] 39 (aK 1 35 (aV 2 λx_4 _=>aI 1) (aI 4)) λx_5=>ah)) ah))))))
def iW (b0 v1:Assign):Option Bool:=
 some (b0.var==v1.var)
instance Gy (b0 v1:Assign):Fc Sy cL (iW b0 v1):=Fc.M 178 [enc b0,.fptr (cells v1)] (ah)
namespace dN
def aB (s0:Sl Assign) (v7:Int) (v8:Int) (p1:Assign->Option Bool):Option (Fw Int Unit Int):=
 ay (decide (v8<v7))
 ((idx s0 v8).bind λx_1=>
 (p1 x_1).bind λx_2=>
 ay x_2
 (some (.r v8))
 (some (.n (IntKind.wrap .i64 (v8+1)))))
 (some (.x ()))
def W1 (s0:Sl Assign) (v7 v8:Int) (p1:Assign->Option Bool):Option Int:=
 (aZ (λq:Int=>aB s0 v7 q p1) v8).bind (Fw.elim
 (λe=>some (-1))
 (λe=>some e))
end dN
def dN (s0:Sl Assign) (p1:Assign->Option Bool):Option Int:=
 dN.W1 s0 (len s0) 0 p1
open dN in
abbrev sV (g1:FuncId) (e1:List V) (p1:Assign->Option Bool) (h1:qG Sy cL g1 [] e1 (λz:Assign=>[enc z]) (λr:Bool=>[.bool r]) p1 true) (s0:Sl Assign):Fc Sy cL (dN s0 p1):=Fc.M 189 [enc s0,.clo g1 [] e1] (bB 9 s0 (dA 5 (λqW1=>(aQ [Cv 0 s0,(1,.v (.clo g1 [] e1)),Iv 7 (len s0),Iv 8 qW1] [])) (λeW1=>(0,(aQ [] []))) (λeW1=>(aQ [Iv 4 eW1] [])) (λqW1=>aK 7 9 (bC 16 λx_1 _=>yM 1 h1.f x_1 λx_2 _=>aK 2 16 ah ah) ah) (λeW1=>ah) (λeW1=>ah))) (l:=by simp[h1.d])
def eX (s0:Sl Assign) (p1:Assign->Option Bool):Option Bool:=
 (dN s0 p1).bind λx_1=>
 some (decide (x_1>=0))
abbrev rF (g1:FuncId) (e1:List V) (p1:Assign->Option Bool) (h1:qG Sy cL g1 [] e1 (λz:Assign=>[enc z]) (λr:Bool=>[.bool r]) p1 true) (s0:Sl Assign):Fc Sy cL (eX s0 p1):=Fc.M 177 [enc s0,.clo g1 [] e1] (aV (F:=sV g1 e1 p1 h1 s0) 9 λx_1 _=>ah) (l:=by simp[h1.d])
namespace ct
def bq (v52:Sl Assign) (v53:Int) (eb5:Event) (xb7:bt) (v54:Int):Option (Fw Int Unit Int):=
 ay (decide (v54<v53))
 ((idx v52 v54).bind λx_6=>
 (lF x_6.var 0 (IntKind.wrap .i64 ((len xb7.vars)-1))).bind λx_7=>
 (ay x_7
 ((lF x_6.value (-1073741824) 1073741824).bind λx_8=>
 some (!x_8))
 (some true):Option Bool).bind λx_9=>
 ay x_9
 (some (.r 2))
 ((eH eb5.assign none (some v54)).bind λx_10=>
 (eX x_10 (λz=>iW z x_6)).bind λx_11=>
 ay x_11
 (some (.r 8))
 (some (.n (IntKind.wrap .i64 (v54+1))))))
 (some (.x ()))
def W2 (v52:Sl Assign) (v53 v54:Int) (eb5:Event) (xb7:bt):Option Int:=
 (aZ (λq:Int=>bq v52 v53 eb5 xb7 q) v54).bind (Fw.elim
 (λe=>some 0)
 (λe=>some e))
def J1 (last8:Int) (tb3:Trace) (idb4:aa) (eb5:Event) (xb7:bt):Option Int:=
 (fV tb3 idb4.proc eb5).bind λx_3=>
 ay x_3
 ((lF eb5.time 0 1099511627776).bind λx_4=>
 (ay x_4
 (some (decide (eb5.time<last8)))
 (some true):Option Bool).bind λx_5=>
 ay x_5
 (some 11)
 (ay (decide ((len eb5.assign)>8))
 (some 5)
 (ct.W2 eb5.assign (len eb5.assign) 0 eb5 xb7)))
 (some 3)
theorem uN (last8:Int) (tb3:Trace) (idb4:aa) (eb5:Event) (xb7:bt):Le ((J1 last8 tb3 idb4 eb5 xb7).bind (λr=>some [.int .i64 r])) (bn Sy cL (oV (tr Tx 153)) (sM (tb Tx 153) [1,1,1,1,0] [] (aQ [Pv 3,Pv 4,Pv 5,Pv 7,Iv 8 last8] [Xb 3 tb3,Xb 4 idb4,Xb 5 eb5,Xb 7 xb7]))):=
 aV 8 λx_3 _=>dB 4 28 (aV 5 λx_4 _=>br 2 5 [8,40] 45 (dB 2 40 (aI 5) (aI 5)) λx_5=>aK 3 35 ah (bB 5 eb5.assign (aK 4 46 ah (bB 9 eb5.assign (dA 5 (λqW2=>(aQ [Pv 5,Pv 7,Cv 52 eb5.assign,Iv 53 (len eb5.assign),Iv 54 qW2] [Xb 5 eb5,Xb 7 xb7])) (λeW2=>(1,(aQ [] []))) (λeW2=>(aQ [Iv 6 eW2] [])) (λqW2=>aK 7 55 (bC 8 λx_6 _=>bB 13 xb7.vars (aV 1 λx_7 _=>br 2 5 [68] 73 (dB 2 68 (aV 2 λx_8 _=>aI 2) (aI 5)) λx_9=>aK 3 59 ah (BW 6 false true [.int .i64 qW2] λx_10 _=>jS (F:=rF 178 [.fptr (cells x_6)] (λz=>iW z x_6) qG.wI x_10) 1 λx_11 _=>aK 3 74 ah ah))) ah) (λeW2=>ah) (λeW2=>ah)))))) ah
end ct
def ct (t0:Trace) (id1:aa) (e2:Event):Option Int:=
 (idx t0.procs id1.proc).bind λx_1=>
 ay (decide (id1.index>1))
 ((idx x_1.events (IntKind.wrap .i64 (id1.index-2))).bind λx_2=>
 ct.J1 x_2.time t0 id1 e2 x_1)
 (ct.J1 0 t0 id1 e2 x_1)
open ct in
instance JS (t0:Trace) (id1:aa) (e2:Event):Fc Sy cL (ct t0 id1 e2):=Fc.M 153 [enc t0,enc id1,enc e2] (dc 2 3 t0 (dc 1 5 e2 (bC 9 λx_1 _=>me 2 7 0 x_1 (aK 15 19 (bC 7 λx_2 _=>BH 6 (uN x_2.time t0 id1 e2 x_1)) (BH 4 (uN 0 t0 id1 e2 x_1))))))
def oF (e0:Event) (v1 v2:Int):Option Bool:=
 (ay (e0.kind==2)
 (some (e0.message==v1))
 (some false):Option Bool).bind λx_1=>
 (ay x_1
 (some (e0.peer==v2))
 (some false):Option Bool).bind λx_2=>
 some x_2
instance KZ (e0:Event) (v1 v2:Int):Fc Sy cL (oF e0 v1 v2):=Fc.M 190 [enc e0,.fptr (cells v1),.fptr (cells v2)] (dc 2 3 e0 (br 9 5 [1,8] 13 (aK 9 8 (aI 5) (aI 5)) λx_1=>br 1 5 [2,3,14] 19 (aK 1 14 (aI 5) (aI 5)) λx_2=>ah))
def rW (t0:Trace) (p1 m2 to_3:Int):Option Bool:=
 (idx t0.procs p1).bind λx_1=>
 (fI x_1.events (λz=>oF z m2 to_3)).bind λx_2=>
 some x_2
instance Pr (t0:Trace) (p1 m2 to_3:Int):Fc Sy cL (rW t0 p1 m2 to_3):=Fc.M 179 [enc t0,.int .i64 p1,.int .i64 m2,.int .i64 to_3] (dc 2 4 t0 (bC 10 λx_1 _=>jS (F:=mD 190 [.fptr (cells m2),.fptr (cells to_3)] (λz=>oF z m2 to_3) qG.wI x_1.events) 3 λx_2 _=>ah))
namespace c_
def qh (vk0_12 tb1:Trace) (vb2:Option (aC 200 aH)) (vb3:aa) (vb4:Int) (x:aa×Event) (vb10:aC 200 aH):Option (Fw (aC 200 aH) Empty (aa×Int×(aC 200 aH))):=
 ay (x.2.kind==2)
 ((aC.at vb10 x.2.message).bind λx_2=>
 ay (decide (x_2.from_.index>0))
 (some (.r (x.1,8,vb10)))
 ((aC.at vb10 x.2.message).bind λx_3=>
 some (.n (aC.set vb10 x.2.message (⟨x.1,x_3.to_⟩:aH)))))
 (ay (x.2.kind==3)
 ((aC.at vb10 x.2.message).bind λx_4=>
 ay (decide (x_4.to_.index>0))
 (some (.r (x.1,8,vb10)))
 ((rW tb1 x.2.peer x.2.message x.1.proc).bind λx_5=>
 ay x_5
 ((aC.at vb10 x.2.message).bind λx_6=>
 some (.n (aC.set vb10 x.2.message (⟨x_6.from_,x.1⟩:aH))))
 (some (.r (x.1,7,vb10)))))
 (some (.n vb10)))
def E1 (vk0_12 tb1:Trace) (vb2:Option (aC 200 aH)) (vb3:aa) (vb4:Int) (vb10:aC 200 aH):Option ((Option (aC 200 aH))×aa×Int):=
 (gF vk0_12).bind λits=>(mG (λ(x:aa×Event) (q:aC 200 aH)=>qh vk0_12 tb1 vb2 vb3 vb4 x q) its vb10).bind (Fw.uJ
 (λq=>some (some q,⟨0,0⟩,0))
 (λe=>Empty.elim e)
 (λe=>some ((none:Option (aC 200 aH)),e.1,e.2.1)))
end c_
def c_ (t0:Trace):Option ((Option (aC 200 aH))×aa×Int):=
 (iB t0).bind λx_1=>
 c_.E1 x_1 t0 (none:Option (aC 200 aH)) (⟨0,0⟩:aa) 0 (aC.fZ 200 (⟨⟨0,0⟩,⟨0,0⟩⟩:aH))
open c_ in
instance HJ (t0:Trace):Fc Sy cL (c_ t0):=Fc.N 154 [enc t0] (dc 2 1 t0 (dc 8 10 (aC.fZ 200 (⟨⟨0,0⟩,⟨0,0⟩⟩:aH)) (QZ 0 5 (aQ [Pv 1,Pv 2,Pv 3,Pv 4,Pv 10] [Xb 1 t0,(2,.box [cv (none:Option (aC 200 aH))]),Xb 3 (⟨0,0⟩:aa),(4,.box [iv 0]),Xb 10 (aC.fZ 200 (⟨⟨0,0⟩,⟨0,0⟩⟩:aH))]) [cv (none:Option (aC 200 aH))] (by simp only[aQ,n_,iu,jq,iD,jv,kG,jl,kS,iz,jr,oa,kz,kI,kE,kD,mg,mc,jm,kJ];rfl) (aV 7 λx_1 _=>GV λits hits=>Dl 4 [Pv 1,Pv 2,Pv 3,Pv 4,Pv 5,(12,.v (.clo 175 [] [.fptr (cells x_1)]))] (λqE1=>[Xb 1 t0,(2,.box [cv (none:Option (aC 200 aH))]),Xb 3 (⟨0,0⟩:aa),(4,.box [iv 0]),(5,.box [.ptr 10 0]),Xb 10 qE1]) (λeE1=>Empty.elim eE1) (λeE1=>[Xb 1 t0,(2,.box [cv (none:Option (aC 200 aH))]),Xb 3 eE1.1,(4,.box [iv eE1.2.1]),(5,.box [.ptr 10 0]),Xb 10 eE1.2.2]) (v_ x_1 its hits) (λxE1 qE1=>QZ 2 6 ⟨[Pv 1,Pv 2,Pv 3,Pv 4,Pv 5,(12,.v (.clo 175 [] [.fptr (cells x_1)])),Cv 13 xE1.1,Cv 14 xE1.2],[Xb 1 t0,(2,.box [cv (none:Option (aC 200 aH))]),Xb 3 (⟨0,0⟩:aa),(4,.box [iv 0]),(5,.box [.ptr 10 0]),Xb 10 qE1],[1,2,3,4,5],[],true,0⟩ [iv 0,iv 0] (by simp only[aQ,n_,iu,jq,iD,jv,kG,jl,kS,iz,jr,oa,kz,kI,kE,kD,mg,mc,jm,kJ];rfl) (QZ 4 7 ⟨[Pv 1,Pv 2,Pv 3,Pv 4,Pv 5,(12,.v (.clo 175 [] [.fptr (cells x_1)])),Cv 14 xE1.2,Pv 6],[Xb 1 t0,(2,.box [cv (none:Option (aC 200 aH))]),Xb 3 (⟨0,0⟩:aa),(4,.box [iv 0]),(5,.box [.ptr 10 0]),Xb 10 qE1,Xb 6 xE1.1],[1,2,3,4,5],[],true,0⟩ [iv 0,iv 0,iv 0,iv 0,.v .aF] (by simp only[aQ,n_,iu,jq,iD,jv,kG,jl,kS,iz,jr,oa,kz,kI,kE,kD,mg,mc,jm,kJ];rfl) (me 0 7 0 xE1.2 (A4 1 (aK 22 19 (gL 7 .i64 10 λx_2 h_2=>qQ 2 1 false 10 qE1 xE1.2.message 1 x_2 h_2 (.int .i64 x_2.from_.index) (by rfl) (aK 3 28 ah (gL 8 .i64 10 λx_3 h_3=>Nr 1 10 qE1 xE1.2.message 0 x_3 h_3 (⟨xE1.1,x_3.to_⟩:aH) xE1.1 rfl ah))) (aK 7 36 (gL 7 .i64 10 λx_4 h_4=>qQ 2 1 false 10 qE1 xE1.2.message 3 x_4 h_4 (.int .i64 x_4.to_.index) (by rfl) (aK 3 45 ah (aV 12 λx_5 _=>dB 3 54 (gL 8 .i64 10 λx_6 h_6=>Nr 1 10 qE1 xE1.2.message 2 x_6 h_6 (⟨x_6.from_,xE1.1⟩:aH) xE1.1 rfl ah) ah))) ah)))))) (λqE1=>SO 13 (aQ [Pv 2,Pv 3,Pv 4] [(2,.box [.ptr 10 0]),Xb 3 (⟨0,0⟩:aa),(4,.box [iv 0]),Xb 10 qE1]) [.ptr 10 0,cv (⟨0,0⟩:aa),iv 0] (NW (d:=10) (x:=qE1) (vs:=[enc (⟨0,0⟩:aa),.int .i64 0]) (by kernel_rfl)) (by kernel_rfl)) (λx=>Empty.elim x) (λeE1=>ah)))))
namespace gH
def J1 (lq1:aC 200 aH) (out7:Sl aa) (p8:Sl Event) (xb5:aa):Option (Sl aa):=
 (idx p8 (IntKind.wrap .i64 (xb5.index-1))).bind λx_2=>
 (ay (x_2.kind==2)
 ((aC.at lq1 x_2.message).bind λx_3=>
 some (decide (x_3.to_.index>0)))
 (some false):Option Bool).bind λx_4=>
 ay x_4
 ((aC.at lq1 x_2.message).bind λx_5=>
 (i_ out7 (x_5.to_:aa)).bind λx_6=>
 some x_6)
 (some out7)
theorem uN (lq1:aC 200 aH) (out7:Sl aa) (p8:Sl Event) (xb5:aa):Le ((J1 lq1 out7 p8 xb5).bind (λr=>some [enc r])) (bn Sy cL (oV (tr Tx 180)) (sM (tb Tx 180) [1,1,1,1,0,0] [] (aQ [Kv 1 lq1,Pv 5,Ov 7,Cv 8 p8] [Xb 5 xb5,Lb 2007 out7]))):=
 bC 7 λx_2 _=>me 2 9 0 x_2 (br 8 10 [40] 50 (aK 8 40 (Ns 4 .i64 λx_3 h_3=>L4 0 2 lq1 x_2.message 0 x_3 h_3 (L4 0 1 lq1 x_2.message 2 x_3 h_3 (MY 0 1 false lq1 x_2.message 3 x_3 h_3 (.int .i64 x_3.to_.index) (by rfl) (aI 2)))) (aI 10)) λx_4=>aK 2 50 (Ns 7 .i64 λx_5 h_5=>L4 0 2 lq1 x_2.message 0 x_5 h_5 (MY 0 2 true lq1 x_2.message 2 x_5 h_5 (enc x_5.to_) (by rfl) (sO 1 2007 59 60 λx_6 _=>ah))) ah)
end gH
def gH (t0:Trace) (l1:aC 200 aH) (x2:aa):Option (Sl aa):=
 (idx t0.procs x2.proc).bind λx_1=>
 ay (decide (x2.index<(len x_1.events)))
 (gH.J1 l1 (Sl.row [⟨x2.proc,IntKind.wrap .i64 (x2.index+1)⟩]:Sl aa) x_1.events x2)
 (gH.J1 l1 (Sl.nil:Sl aa) x_1.events x2)
open gH in
instance Pe (t0:Trace) (l1:aC 200 aH) (x2:aa):Fc Sy cL (gH t0 l1 x2):=Fc.N 180 [enc t0,.fptr (cells l1),enc x2] (dc 2 3 t0 (bC 15 λx_1 _=>bB 11 x_1.events (aK 3 21 (Nw 10 29 30 .aF (⟨x2.proc,IntKind.wrap .i64 (x2.index+1)⟩:aa) (BH 5 (uN l1 (Sl.row [⟨x2.proc,IntKind.wrap .i64 (x2.index+1)⟩]:Sl aa) x_1.events x2))) (BH 5 (uN l1 (Sl.nil:Sl aa) x_1.events x2)))))
namespace dR
def fN (vk0_13:Trace) (v36:Sl aa) (v37:Int) (tb2:Trace) (lb3:aC 200 aH) (vb4:aa) (vb5:Bool) (idb6:aa) (rest8:Sl aa) (v38:Int) (vb16:Mo aa Bool):Option (Fw ((Sl aa)×Int×(Mo aa Bool)) ((Sl aa)×(Mo aa Bool)) Unit):=
 ay (decide (v38<v37))
 ((idx v36 v38).bind λx_6=>
 ay (Gx x_6 idb6)
 (some (.r ()))
 (ay (nN vb16 x_6 false)
 (some (.n (rest8,IntKind.wrap .i64 (v38+1),vb16)))
 ((i_ rest8 (x_6:aa)).bind λx_7=>
 some (.n (x_7,IntKind.wrap .i64 (v38+1),nL vb16 x_6 true)))))
 (some (.x (rest8,vb16)))
def W3 (rest8:Sl aa) (vk0_13:Trace) (v36:Sl aa) (v37 v38:Int) (tb2:Trace) (lb3:aC 200 aH) (vb4:aa) (vb5:Bool) (idb6:aa) (vb16:Mo aa Bool):Option (Fw ((Sl aa)×(Mo aa Bool)) Unit Unit):=
 (aZ (λq:(Sl aa)×Int×(Mo aa Bool)=>fN vk0_13 v36 v37 tb2 lb3 vb4 vb5 idb6 q.1 q.2.1 q.2.2) (rest8,v38,vb16)).bind (Fw.elim
 (λe=>some (.n (e.1,e.2)))
 (λe=>some (.r ())))
def bq (vk0_13 tb2:Trace) (lb3:aC 200 aH) (vb4:aa) (vb5:Bool) (idb6:aa) (rest8:Sl aa) (vb16:Mo aa Bool):Option (Fw ((Sl aa)×(Mo aa Bool)) Unit Unit):=
 ay (decide ((len rest8)>0))
 ((Sl.kN rest8 (IntKind.wrap .i64 ((len rest8)-1))).bind λx_2=>
 (Sl.get rest8 x_2).bind λx_3=>
 (nh rest8 none (some (IntKind.wrap .i64 ((len rest8)-1)))).bind λx_4=>
 (gH tb2 lb3 x_3).bind λx_5=>
 W3 x_4 vk0_13 x_5 (len x_5) 0 tb2 lb3 vb4 vb5 idb6 vb16)
 (some (.x ()))
def W2 (rest8:Sl aa) (vk0_13 tb2:Trace) (lb3:aC 200 aH) (vb4:aa) (vb5:Bool) (idb6:aa) (vb16:Mo aa Bool):Option (Fw Unit Empty aa):=
 (aZ (λq:(Sl aa)×(Mo aa Bool)=>bq vk0_13 tb2 lb3 vb4 vb5 idb6 q.1 q.2) (rest8,vb16)).bind (Fw.elim
 (λe=>some (.n ()))
 (λe=>some (.r idb6)))
def qh (vk0_13 tb2:Trace) (lb3:aC 200 aH) (vb4:aa) (vb5:Bool) (x:aa×Event):Option (Fw Unit Empty aa):=
 W2 (Sl.row [x.1]:Sl aa) vk0_13 tb2 lb3 vb4 vb5 x.1 []
def E1 (vk0_13 tb2:Trace) (lb3:aC 200 aH) (vb4:aa) (vb5:Bool):Option (aa×Bool):=
 (gF vk0_13).bind λits=>(mG (λ(x:aa×Event) (q:Unit)=>qh vk0_13 tb2 lb3 vb4 vb5 x) its ()).bind (Fw.uJ
 (λq=>some (⟨0,0⟩,false))
 (λe=>Empty.elim e)
 (λe=>some (e,true)))
end dR
def dR (t0:Trace) (l1:aC 200 aH):Option (aa×Bool):=
 (iB t0).bind λx_1=>
 dR.E1 x_1 t0 l1 (⟨0,0⟩:aa) false
open dR in
instance Ow (t0:Trace) (l1:aC 200 aH):Fc Sy cL (dR t0 l1):=Fc.M 155 [enc t0,.fptr (cells l1)] (dc 2 2 t0 (aV 9 λx_1 _=>GV λits hits=>Dl 4 [Pv 2,Pv 3,Pv 4,Pv 5,(13,.v (.clo 175 [] [.fptr (cells x_1)]))] (λqE1=>[Xb 2 t0,(3,.box [cp l1]),Xb 4 (⟨0,0⟩:aa),(5,.box [bv false])]) (λeE1=>Empty.elim eE1) (λeE1=>[Xb 2 t0,(3,.box [cp l1]),Xb 4 eE1,(5,.box [bv true])]) (v_ x_1 its hits) (λxE1 qE1=>A4 4 (dA 18 (λqW2=>⟨[Pv 2,Pv 3,Pv 4,Pv 5,Pv 6,(7,.mp 16),Ov 8,(13,.v (.clo 175 [] [.fptr (cells x_1)]))],[Xb 2 t0,(3,.box [cp l1]),Xb 4 (⟨0,0⟩:aa),(5,.box [bv false]),Xb 6 xE1.1,(16,qV qW2.2),Lb 2008 qW2.1],[2,3,4,5],[],true,0⟩) (λeW2=>(2,⟨[Pv 2,Pv 3,Pv 4,Pv 5,(13,.v (.clo 175 [] [.fptr (cells x_1)]))],[Xb 2 t0,(3,.box [cp l1]),Xb 4 (⟨0,0⟩:aa),(5,.box [bv false])],[2,3,4,5],[],true,0⟩)) (λeW2=>⟨[],[Xb 2 t0,(3,.box [cp l1]),Xb 4 xE1.1,(5,.box [bv true])],[2,3,4,5],[],true,0⟩) (λqW2=>Dj 6 2008 qW2.1 (aK 3 21 (Dj 8 2008 qW2.1 (lK .i64 1 2008 λx_2 _=>sR 0 2008 0 2 true (λx_3=>.agg [.int .i64 x_3.proc,.int .i64 x_3.index]) λx_3 _=>Dj 8 2008 qW2.1 (Sk 1 false true 2008 32 [.int .i64 (IntKind.wrap .i64 ((len qW2.1)-1))] λx_4 _=>aV 8 λx_5 _=>bB 0 x_5 (dA 6 (λqW3=>⟨[Pv 2,Pv 3,Pv 4,Pv 5,Pv 6,(7,.mp 16),Ov 8,(13,.v (.clo 175 [] [.fptr (cells x_1)])),Cv 36 x_5,Iv 37 (len x_5),Iv 38 qW3.2.1],[Xb 2 t0,(3,.box [cp l1]),Xb 4 (⟨0,0⟩:aa),(5,.box [bv false]),Xb 6 xE1.1,(16,qV qW3.2.2),Lb 2008 qW3.1],[2,3,4,5],[],true,0⟩) (λeW3=>(4,⟨[Pv 2,Pv 3,Pv 4,Pv 5,Pv 6,(7,.mp 16),Ov 8,(13,.v (.clo 175 [] [.fptr (cells x_1)]))],[Xb 2 t0,(3,.box [cp l1]),Xb 4 (⟨0,0⟩:aa),(5,.box [bv false]),Xb 6 xE1.1,(16,qV eW3.2),Lb 2008 eW3.1],[2,3,4,5],[],true,0⟩)) (λeW3=>⟨[],[Xb 2 t0,(3,.box [cp l1]),Xb 4 xE1.1,(5,.box [bv true])],[2,3,4,5],[],true,0⟩) (λqW3=>aK 8 39 (bC 7 λx_6 _=>aK 13 44 ah (SZ 7 16 qW3.2.2 x_6 false (dB 3 49 ah (P4 5 16 qW3.2.2 x_6 true (sO 6 2008 54 55 λx_7 _=>ah))))) ah) (λeW3=>ah) (λeW3=>ah))))) ah)) (λeW2=>ah) (λeW2=>ah))) (λqE1=>ah) (λx=>Empty.elim x) (λeE1=>ah)))
namespace fc
def FX (vk0_36 tb1:Trace) (vb2:aa) (vb3:Int) (x:aa×Event):Option (Fw Unit Empty (aa×Int)):=
 (ct tb1 x.1 x.2).bind λx_3=>
 ay (x_3==0)
 (some (.n ()))
 (some (.r (x.1,x_3)))
def E2 (vk0_36 tb1:Trace) (vb2:aa) (vb3:Int):Option (aa×Int):=
 (gF vk0_36).bind λits=>(mG (λ(x:aa×Event) (q:Unit)=>FX vk0_36 tb1 vb2 vb3 x) its ()).bind (Fw.uJ
 (λq=>(c_ tb1).bind λx_5=>
 ay (x_5.2.2==0)
 ((x_5.1).bind λx_6=>
 (dR tb1 x_6).bind λx_7=>
 ay x_7.2
 (some (x_7.1,10))
 (some (⟨0,0⟩,0)))
 (some (x_5.2.1,x_5.2.2)))
 (λe=>Empty.elim e)
 (λe=>some (e.1,e.2)))
def aB (v22:Int) (tb1:Trace) (vb2:aa) (vb3:Int) (v23:Int):Option (Fw Int Unit (aa×Int)):=
 ay (decide (v23<v22))
 ((di tb1 v23).bind λx_2=>
 ay (x_2==0)
 (some (.n (IntKind.wrap .i64 (v23+1))))
 (some (.r ((⟨v23,0⟩:aa),x_2))))
 (some (.x ()))
def W1 (v22 v23:Int) (tb1:Trace) (vb2:aa) (vb3:Int):Option (aa×Int):=
 (aZ (λq:Int=>aB v22 tb1 vb2 vb3 q) v23).bind (Fw.elim
 (λe=>(iB tb1).bind λx_4=>
 fc.E2 x_4 tb1 vb2 vb3)
 (λe=>some (e.1,e.2)))
end fc
def fc (t0:Trace):Option (aa×Int):=
 (lF (len t0.procs) 1 8).bind λx_1=>
 ay x_1
 (fc.W1 (len t0.procs) 0 t0 (⟨0,0⟩:aa) 0)
 (some (⟨0,0⟩,1))
open fc in
instance Pj (t0:Trace):Fc Sy cL (fc t0):=Fc.M 129 [enc t0] (dc 2 1 t0 (bB 9 t0.procs (aV 0 λx_1 _=>dB 3 18 (bB 8 t0.procs (dA 5 (λqW1=>(aQ [Pv 1,Pv 2,Pv 3,Iv 22 (len t0.procs),Iv 23 qW1] [Xb 1 t0,Xb 2 (⟨0,0⟩:aa),(3,.box [iv 0])])) (λeW1=>(0,(aQ [Pv 1,Pv 2,Pv 3] [Xb 1 t0,Xb 2 (⟨0,0⟩:aa),(3,.box [iv 0])]))) (λeW1=>(aQ [Pv 2,Pv 3] [Xb 2 eW1.1,(3,.box [iv eW1.2])])) (λqW1=>aK 7 24 (aV 15 λx_2 _=>dB 9 30 ah ah) ah) (λeW1=>aV 6 λx_4 _=>GV λits hits=>Dl 4 [Pv 1,Pv 2,Pv 3,(36,.v (.clo 175 [] [.fptr (cells x_4)]))] (λqE2=>[Xb 1 t0,Xb 2 (⟨0,0⟩:aa),(3,.box [iv 0])]) (λeE2=>Empty.elim eE2) (λeE2=>[Xb 1 t0,Xb 2 eE2.1,(3,.box [iv eE2.2])]) (v_ x_4 its hits) (λxE2 qE2=>me 8 7 0 xE2.2 (A4 1 (aV 7 λx_3 _=>dB 9 44 ah ah))) (λqE2=>aV 5 λx_5 _=>dB 17 54 (Uu 8 (λoo=>(aQ [Pv 2,Pv 3,(36,.v (.clo 175 [] [.fptr (cells x_4)])),Pv 10,Iv 11 x_5.2.2,Bv 54 false,Cv 58 t0,Cv 59 oo] [Xb 1 t0,Xb 2 (⟨0,0⟩:aa),(3,.box [iv 0]),Xb 10 x_5.2.1])) λx_6 _=>aV 0 λx_7 _=>aK 13 63 ah ah) ah) (λx=>Empty.elim x) (λeE2=>ah)) (λeW1=>ah))) ah)))
def fu (t0:Trace):Option Bool:=
 (fc t0).bind λx_1=>
 some (x_1.2==0)
instance Pc (t0:Trace):Fc Sy cL (fu t0):=Fc.M 88 [enc t0] (dc 2 1 t0 (aV 6 λx_1 _=>ah))
namespace jW
def qh (vk0_15:Trace) (kindb4 mb5:Int) (vb6:aa) (vb7:Bool) (x:aa×Event):Option (Fw Unit Empty aa):=
 (ay (x.2.kind==kindb4)
 (some (x.2.message==mb5))
 (some false):Option Bool).bind λx_3=>
 ay x_3
 (some (.r x.1))
 (some (.n ()))
def E1 (vk0_15:Trace) (kindb4 mb5:Int) (vb6:aa) (vb7:Bool):Option (aa×Bool):=
 (gF vk0_15).bind λits=>(mG (λ(x:aa×Event) (q:Unit)=>qh vk0_15 kindb4 mb5 vb6 vb7 x) its ()).bind (Fw.uJ
 (λq=>some (⟨0,0⟩,false))
 (λe=>Empty.elim e)
 (λe=>some (e,true)))
end jW
def jW (t0:Trace) (kind1 m2:Int):Option (aa×Bool):=
 (fu t0).bind λx_1=>
 ay x_1
 ((iB t0).bind λx_2=>
 jW.E1 x_2 kind1 m2 (⟨0,0⟩:aa) false)
 (some (⟨0,0⟩,false))
open jW in
instance Q5 (t0:Trace) (kind1 m2:Int):Fc Sy cL (jW t0 kind1 m2):=Fc.M 135 [enc t0,.int .i64 kind1,.int .i64 m2] (dc 2 3 t0 (aV 10 λx_1 _=>dB 3 12 (aV 7 λx_2 _=>GV λits hits=>Dl 4 [Pv 4,Pv 5,Pv 6,Pv 7,(15,.v (.clo 175 [] [.fptr (cells x_2)]))] (λqE1=>[(4,.box [iv kind1]),(5,.box [iv m2]),Xb 6 (⟨0,0⟩:aa),(7,.box [bv false])]) (λeE1=>Empty.elim eE1) (λeE1=>[(4,.box [iv kind1]),(5,.box [iv m2]),Xb 6 eE1,(7,.box [bv true])]) (v_ x_2 its hits) (λxE1 qE1=>me 8 9 0 xE1.2 (A4 1 (br 9 5 [9,22] 27 (aK 9 22 (aI 5) (aI 5)) λx_3=>aK 2 27 ah ah))) (λqE1=>ah) (λx=>Empty.elim x) (λeE1=>ah)) ah))
def qA (t0:Trace) (m1:Int):Option (aa×Bool):=
 (jW t0 2 m1).bind λx_1=>
 some (x_1.1,x_1.2)
instance OR (t0:Trace) (m1:Int):Fc Sy cL (qA t0 m1):=Fc.M 161 [enc t0,.int .i64 m1] (dc 2 2 t0 (aV 8 λx_1 _=>ah))
namespace iK
def J3 (need6:Sl aa) (v11:Sl bt) (v12 v13:Int) (v18:Sl Event) (v19 v20:Int) (tb1:Trace) (vb2 mb3:a_) (xb5:bt) (idb9:aa):Option (Fw ((Sl aa)×Int×Trace×a_×a_) ((Sl aa)×Trace×a_) Empty):=
 (i_ need6 (idb9:aa)).bind λx_4=>
 some (.n (x_4,IntKind.wrap .i64 (v20+1),tb1,(⟨Sl.nil,Sl.nil⟩:a_),mb3))
def bq (v11:Sl bt) (v12 v13:Int) (v18:Sl Event) (v19:Int) (xb5:bt) (need6:Sl aa) (v20:Int) (tb1:Trace) (vb2 mb3:a_):Option (Fw ((Sl aa)×Int×Trace×a_×a_) ((Sl aa)×Trace×a_) Empty):=
 ay (decide (v20<v19))
 ((idx v18 v20).bind λx_2=>
 ay (x_2.kind==3)
 ((qA tb1 x_2.message).bind λx_3=>
 J3 need6 v11 v12 v13 v18 v19 v20 tb1 (⟨Sl.nil,Sl.nil⟩:a_) mb3 xb5 x_3.1)
 (J3 need6 v11 v12 v13 v18 v19 v20 tb1 (⟨Sl.nil,Sl.nil⟩:a_) mb3 xb5 (⟨0,0⟩:aa)))
 (some (.x (need6,tb1,mb3)))
def W2 (need6:Sl aa) (v11:Sl bt) (v12 v13:Int) (v18:Sl Event) (v19 v20:Int) (tb1:Trace) (vb2 mb3:a_) (xb5:bt):Option (Fw (Int×Trace×a_×a_) a_ Empty):=
 (aZ (λq:(Sl aa)×Int×Trace×a_×a_=>bq v11 v12 v13 v18 v19 xb5 q.1 q.2.1 q.2.2.1 q.2.2.2.1 q.2.2.2.2) (need6,v20,tb1,vb2,mb3)).bind (Fw.elim
 (λe=>(i_ e.2.2.lengths (len xb5.events:Int)).bind λx_5=>
 (i_ e.2.2.need (e.1:Sl aa)).bind λx_6=>
 some (.n (IntKind.wrap .i64 (v13+1),e.2.1,(⟨Sl.nil,Sl.nil⟩:a_),(⟨x_5,x_6⟩:a_))))
 (λe=>Empty.elim e))
def aB (v11:Sl bt) (v12:Int) (v13:Int) (tb1:Trace) (vb2 mb3:a_):Option (Fw (Int×Trace×a_×a_) a_ Empty):=
 ay (decide (v13<v12))
 ((idx v11 v13).bind λx_1=>
 W2 (Sl.nil:Sl aa) v11 v12 v13 x_1.events (len x_1.events) 0 tb1 (⟨Sl.nil,Sl.nil⟩:a_) mb3 x_1)
 (some (.x mb3))
def W1 (v11:Sl bt) (v12 v13:Int) (tb1:Trace) (vb2 mb3:a_):Option a_:=
 (aZ (λq:Int×Trace×a_×a_=>aB v11 v12 q.1 q.2.1 q.2.2.1 q.2.2.2) (v13,tb1,vb2,mb3)).bind (Fw.elim
 (λe=>some e)
 (λe=>Empty.elim e))
end iK
def iK (t0:Trace):Option a_:=
 iK.W1 t0.procs (len t0.procs) 0 t0 (⟨Sl.nil,Sl.nil⟩:a_) (⟨Sl.nil,Sl.nil⟩:a_)
open iK in
instance Th (t0:Trace):Fc Sy cL (iK t0):=Fc.N 144 [enc t0] (dc 2 1 t0 (bB 13 t0.procs (iU 7 (λqW1=>(aQ [Pv 1,Pv 2,Pv 3,Cv 11 t0.procs,Iv 12 (len t0.procs),Iv 13 qW1.1] [Xb 1 qW1.2.1,Xb 2 (⟨Sl.nil,Sl.nil⟩:a_),(3,.box [.own 4060,.own 4061]),Lb 4060 qW1.2.2.2.lengths,Lb 4061 qW1.2.2.2.need])) (λeW1=>(0,(aQ [Pv 2,Pv 3] [Xb 2 (⟨Sl.nil,Sl.nil⟩:a_),(3,.box [.own 4060,.own 4061]),Lb 4060 eW1.lengths,Lb 4061 eW1.need]))) (λqW1=>aK 9 14 (bC 7 λx_1 _=>me 2 5 0 x_1 (bB 12 x_1.events (iU 8 (λqW2=>(aQ [Pv 1,Pv 2,Pv 3,Pv 5,Ov 6,Cv 11 t0.procs,Iv 12 (len t0.procs),Iv 13 qW1.1,Cv 18 x_1.events,Iv 19 (len x_1.events),Iv 20 qW2.2.1] [Xb 1 qW2.2.2.1,Xb 2 (⟨Sl.nil,Sl.nil⟩:a_),(3,.box [.own 4060,.own 4061]),Xb 5 x_1,Lb 2006 qW2.1,Lb 4060 qW2.2.2.2.2.lengths,Lb 4061 qW2.2.2.2.2.need])) (λeW2=>(2,(aQ [Pv 1,Pv 2,Pv 3,Pv 5,Ov 6,Cv 11 t0.procs,Iv 12 (len t0.procs),Iv 13 qW1.1] [Xb 1 eW2.2.1,Xb 2 (⟨Sl.nil,Sl.nil⟩:a_),(3,.box [.own 4060,.own 4061]),Xb 5 x_1,Lb 2006 eW2.1,Lb 4060 eW2.2.2.lengths,Lb 4061 eW2.2.2.need]))) (λqW2=>aK 10 21 (bC 7 λx_2 _=>me 2 8 0 x_2 (aK 15 26 (aV 5 λx_3 _=>xm 10 (sO 4 2006 36 37 λx_4 _=>ah)) (xm 7 (sO 4 2006 36 37 λx_4 _=>ah)))) ah) (λeW2=>bB 8 x_1.events (sO 1 4060 44 45 λx_5 _=>CO 9 50 ([eW2.1]:List (Sl aa)) (sO 0 4061 50 51 λx_6 _=>ah)))))) ah) (λeW1=>me 7 2 0 eW1 ah))))
def mO (m0:a_) (c1:Sl Int) (p2:Int):Option Bool:=
 (idx c1 p2).bind λx_1=>
 (idx m0.lengths p2).bind λx_2=>
 ay (x_1==x_2)
 (some false)
 ((idx m0.need p2).bind λx_3=>
 (idx c1 p2).bind λx_4=>
 (idx x_3 x_4).bind λx_5=>
 (idx c1 x_5.proc).bind λx_6=>
 some (decide (x_5.index<=x_6)))
instance IW (m0:a_) (c1:Sl Int) (p2:Int):Fc Sy cL (mO m0 c1 p2):=Fc.M 162 [enc m0,enc c1,.int .i64 p2] (dc 2 3 m0 (bC 8 λx_1 _=>bC 4 λx_2 _=>aK 4 17 ah (bC 8 λx_3 _=>bC 3 λx_4 _=>bC 1 λx_5 _=>bC 12 λx_6 _=>ah)))
def gN (s0:Sl Int):Option (Sl Int):=
 (Sl.isNil s0).bind λx_1=>
 ay x_1
 (some Sl.nil)
 ((kO (Sl.row []:Sl Int) s0).bind λx_2=>
 some x_2)
theorem jB:Aa Sy cL 114 (λs0:Sl Int=>[enc s0]) (λz=>gN z):=Aa.mk' (zy (Tx 114)) (λs0=>Q8 9 λx_1 _=>aK 2 4 ah (vq 7 5 7 λx_2 _=>ah))
def pP (x0:Int):Option Bool:=
 some (!(x0==x0))
instance M_ (x0:Int):Fc Sy cL (pP x0):=Fc.M 184 [.int .i64 x0] (ah)
def nR (x0 y1:Int):Option Int:=
 (pP x0).bind λx_1=>
 (pP y1).bind λx_2=>
 ay x_1
 (ay x_2
 (some 0)
 (some (-1)))
 (ay x_2
 (some 1)
 (ay (decide (x0<y1))
 (some (-1))
 (ay (decide (x0>y1))
 (some 1)
 (some 0))))
instance KF (x0 y1:Int):Fc Sy cL (nR x0 y1):=Fc.M 183 [.int .i64 x0,.int .i64 y1] (aV 8 λx_1 _=>aV 6 λx_2 _=>aK 9 11 (aK 7 12 ah ah) (aK 9 13 ah (aK 11 16 ah (aK 11 19 ah ah))))
namespace dG
def aB (s10 s21 v9:Sl Int) (v10:Int) (v11:Int):Option (Fw Int Unit Int):=
 ay (decide (v11<v10))
 ((idx v9 v11).bind λx_1=>
 ay (decide (v11>=(len s21)))
 (some (.r 1))
 ((idx s21 v11).bind λx_2=>
 (nR x_1 x_2).bind λx_3=>
 ay (x_3==0)
 (some (.n (IntKind.wrap .i64 (v11+1))))
 (some (.r x_3))))
 (some (.x ()))
def W1 (s10 s21 v9:Sl Int) (v10 v11:Int):Option Int:=
 (aZ (λq:Int=>aB s10 s21 v9 v10 q) v11).bind (Fw.elim
 (λe=>ay (decide ((len s10)<(len s21)))
 (some (-1))
 (some 0))
 (λe=>some e))
end dG
def dG (s10 s21:Sl Int):Option Int:=
 dG.W1 s10 s21 s10 (len s10) 0
open dG in
instance IF (s10 s21:Sl Int):Fc Sy cL (dG s10 s21):=Fc.M 165 [enc s10,enc s21] (bB 9 s10 (dA 5 (λqW1=>(aQ [Cv 0 s10,Cv 1 s21,Cv 9 s10,Iv 10 (len s10),Iv 11 qW1] [])) (λeW1=>(0,(aQ [Cv 0 s10,Cv 1 s21] []))) (λeW1=>(aQ [Iv 4 eW1] [])) (λqW1=>aK 7 12 (bC 8 λx_1 _=>bB 10 s21 (aK 3 19 ah (bC 7 λx_2 _=>aV 8 λx_3 _=>dB 9 28 ah ah))) ah) (λeW1=>bB 6 s10 (bB 1 s21 (aK 3 35 ah ah))) (λeW1=>ah)))
def gT (a0 b1:Sl Int):Option Int:=
 (dG a0 b1).bind λx_1=>
 some x_1
instance Io (a0 b1:Sl Int):Fc Sy cL (gT a0 b1):=Fc.M 164 [enc a0,enc b1] (aV 9 λx_1 _=>ah)
namespace dJ
def aB (s10 s21:Sl Int) (v12:Int) (v13:Int):Option (Fw Int Unit Unit):=
 ay (decide (v13<v12))
 ((idx s10 v13).bind λx_1=>
 (idx s21 v13).bind λx_2=>
 ay (x_1==x_2)
 (some (.n (IntKind.wrap .i64 (v13+1))))
 (some (.r ())))
 (some (.x ()))
def W1 (s10 s21:Sl Int) (v12 v13:Int):Option Bool:=
 (aZ (λq:Int=>aB s10 s21 v12 q) v13).bind (Fw.elim
 (λe=>some true)
 (λe=>some false))
end dJ
def dJ (s10 s21:Sl Int):Option Bool:=
 ay ((len s10)==(len s21))
 (dJ.W1 s10 s21 (len s10) 0)
 (some false)
open dJ in
instance Je (s10 s21:Sl Int):Fc Sy cL (dJ s10 s21):=Fc.M 40 [enc s10,enc s21] (bB 9 s10 (bB 1 s21 (dB 3 10 (bB 7 s10 (dA 5 (λqW1=>(aQ [Cv 0 s10,Cv 1 s21,Iv 12 (len s10),Iv 13 qW1] [])) (λeW1=>(0,(aQ [] []))) (λeW1=>(aQ [Bv 4 false] [])) (λqW1=>aK 7 14 (bC 15 λx_1 _=>bC 3 λx_2 _=>dB 4 24 ah ah) ah) (λeW1=>ah) (λeW1=>ah))) ah)))
def jw (a0 b1:Sl Int):Option Bool:=
 (dJ a0 b1).bind λx_1=>
 some x_1
instance HX (a0 b1:Sl Int):Fc Sy cL (jw a0 b1):=Fc.M 167 [enc a0,enc b1] (aV 9 λx_1 _=>ah)
namespace cW
def bq (c7:Sl Int) (v10:Sl (Sl Int)) (v11 v12 v17:Int) (mb2:a_) (out5:Sl (Sl Int)) (v18:Int):Option (Fw ((Sl (Sl Int))×Int) (Sl (Sl Int)) Empty):=
 ay (decide (v18<v17))
 ((mO mb2 c7 v18).bind λx_2=>
 ay x_2
 (((gN c7).bind Sl.whole).bind λx_3=>
 (Sl.kN x_3 v18).bind λx_4=>
 (Sl.get x_3 x_4).bind λx_5=>
 (Sl.kN x_3 v18).bind λx_6=>
 (Sl.put x_3 x_6 (IntKind.wrap .i64 (x_5+1):Int)).bind λx_7=>
 (i_ out5 (x_7:Sl Int)).bind λx_8=>
 some (.n (x_8,IntKind.wrap .i64 (v18+1))))
 (some (.n (out5,IntKind.wrap .i64 (v18+1)))))
 (some (.x out5))
def W2 (out5:Sl (Sl Int)) (c7:Sl Int) (v10:Sl (Sl Int)) (v11 v12 v17 v18:Int) (mb2:a_):Option (Fw ((Sl (Sl Int))×Int×Int) (Sl (Sl Int)) Empty):=
 (aZ (λq:(Sl (Sl Int))×Int=>bq c7 v10 v11 v12 v17 mb2 q.1 q.2) (out5,v18)).bind (Fw.elim
 (λe=>some (.n (e,v11,IntKind.wrap .i64 (v12+1))))
 (λe=>Empty.elim e))
def aB (v10:Sl (Sl Int)) (mb2:a_) (out5:Sl (Sl Int)) (v11 v12:Int):Option (Fw ((Sl (Sl Int))×Int×Int) (Sl (Sl Int)) Empty):=
 ay (decide (v12<v11))
 ((idx v10 v12).bind λx_1=>
 W2 out5 x_1 v10 v11 v12 (len x_1) 0 mb2)
 (some (.x out5))
def W1 (out5 v10:Sl (Sl Int)) (v11 v12:Int) (mb2:a_):Option (Sl (Sl Int)):=
 (aZ (λq:(Sl (Sl Int))×Int×Int=>aB v10 mb2 q.1 q.2.1 q.2.2) (out5,v11,v12)).bind (Fw.elim
 (λe=>(vQ e gT).bind λx_9=>
 (uU x_9 jw).bind λx_10=>
 some x_10)
 (λe=>Empty.elim e))
end cW
def cW (m0:a_) (level1:Sl (Sl Int)):Option (Sl (Sl Int)):=
 cW.W1 (Sl.nil:Sl (Sl Int)) level1 (len level1) 0 m0
open cW in
instance KG (m0:a_) (level1:Sl (Sl Int)):Fc Sy cL (cW m0 level1):=Fc.N 145 [enc m0,enc level1] (dc 2 2 m0 (bB 12 level1 (iU 6 (λqW1=>(aQ [Pv 2,Ov 5,Cv 10 level1,Iv 11 qW1.2.1,Iv 12 qW1.2.2] [Xb 2 m0,Lb 2005 qW1.1])) (λeW1=>(0,(aQ [Ov 5] [Lb 2005 eW1]))) (λqW1=>aK 8 13 (bC 7 λx_1 _=>bB 7 x_1 (iU 6 (λqW2=>(aQ [Pv 2,Ov 5,Cv 7 x_1,Cv 10 level1,Iv 11 qW1.2.1,Iv 12 qW1.2.2,Iv 17 (len x_1),Iv 18 qW2.2] [Xb 2 m0,Lb 2005 qW2.1])) (λeW2=>(2,(aQ [Pv 2,Ov 5,Cv 10 level1,Iv 11 qW1.2.1,Iv 12 qW1.2.2] [Xb 2 m0,Lb 2005 eW2]))) (λqW2=>aK 8 19 (aV 16 λx_2 _=>aK 2 24 (B3 4 26 jB x_1 λx_3 _=>lK .i64 7 26 λx_4 _=>sR 0 26 0 1 false (λx_5=>.int .i64 x_5) λx_5 _=>lK .i64 1 26 λx_6 _=>vM 0 26 (.int .i64 (IntKind.wrap .i64 (x_5+1))) λx_7 _=>CO 6 35 ([x_7]:List (Sl Int)) (sO 0 2005 35 36 λx_8 _=>ah)) ah) ah) (λeW2=>ah))) ah) (λeW1=>Sv 5 2005 Dx yI O6 (jk.wI (λz=>inferInstanceAs (Fc Sy cL (gT z.1 z.2))) default (λ_=>rfl) (λ_=>rfl) (λ_=>rfl) (λ_=>rfl)) λx_9 _=>SL 5 2005 42 Dx yI NS (jk.wI (λz=>inferInstanceAs (Fc Sy cL (jw z.1 z.2))) default (λ_=>rfl) (λ_=>rfl) (λ_=>rfl) (λ_=>rfl)) λx_10 _=>ah))))
namespace h_
def aB (mb4:a_) (level5:Sl (Sl Int)) (out6:Sl (Sl (Sl Int))) (total7:Int):Option (Fw ((Sl (Sl Int))×(Sl (Sl (Sl Int)))×Int) (Sl (Sl (Sl Int))) Unit):=
 ay (decide ((len level5)>0))
 (ay (decide ((IntKind.wrap .i64 (total7+(len level5)))>5000))
 (some (.r ()))
 ((i_ out6 (level5:Sl (Sl Int))).bind λx_4=>
 (cW mb4 level5).bind λx_5=>
 some (.n (x_5,x_4,IntKind.wrap .i64 (total7+(len level5))))))
 (some (.x out6))
def W1 (level5:Sl (Sl Int)) (out6:Sl (Sl (Sl Int))) (total7:Int) (mb4:a_):Option ((Sl (Sl (Sl Int)))×Int):=
 (aZ (λq:(Sl (Sl Int))×(Sl (Sl (Sl Int)))×Int=>aB mb4 q.1 q.2.1 q.2.2) (level5,out6,total7)).bind (Fw.elim
 (λe=>some (e,0))
 (λe=>some ((Sl.nil:Sl (Sl (Sl Int))),16)))
end h_
def h_ (t0:Trace):Option ((Sl (Sl (Sl Int)))×Int):=
 (fu t0).bind λx_1=>
 ay x_1
 ((iK t0).bind λx_2=>
 (sG (len t0.procs) (0:Int)).bind λx_3=>
 h_.W1 (Sl.row [x_3]:Sl (Sl Int)) (Sl.nil:Sl (Sl (Sl Int))) 0 x_2)
 (some ((Sl.nil:Sl (Sl (Sl Int))),1))
open h_ in
instance Pm (t0:Trace):Fc Sy cL (h_ t0):=Fc.N 118 [enc t0] (dc 2 1 t0 (aV 8 λx_1 _=>dB 3 10 (aV 6 λx_2 _=>me 1 4 0 x_2 (bB 6 t0.procs (QS 0 16 λx_3 _=>CO 1 17 ([x_3]:List (Sl Int)) (dA 18 (λqW1=>(aQ [Pv 4,Cv 5 qW1.1,Ov 6,Iv 7 qW1.2.2] [Xb 4 x_2,Lb 2006 qW1.2.1])) (λeW1=>(0,(aQ [Ov 6] [Lb 2006 eW1]))) (λeW1=>(aQ [Ov 2,Iv 3 16] [Lb 2002 (Sl.nil:Sl (Sl (Sl Int)))])) (λqW1=>bB 7 qW1.1 (aK 3 20 (bB 10 qW1.1 (aK 10 29 ah (CO 6 32 ([qW1.1]:List (Sl (Sl Int))) (sO 0 2006 32 33 λx_4 _=>aV 7 λx_5 _=>ah)))) ah)) (λeW1=>ah) (λeW1=>ah))))) ah))
def dQ (s:Sl (Sl (Sl Int))):Option (Sl (Sl Int)):=if s.l.length<=2147483648/\(s.l.flatMap Sl.l).length<=2147483648 then some (xu s)else none
instance Ip (s:Sl (Sl (Sl Int))):Fc Sy cL (dQ s):=Fc.of (A:=λz:Sl (Sl (Sl Int))=>[enc z]) (E:=λr:Sl (Sl Int)=>[enc r]) (p:=dQ) (n:=119) (z:=s) (jk.L0 (by kernel_rfl) (by kernel_rfl) (λz r h=>by
 unfold dQ at h;split at h
 .rename_i hc;cases h;exact uk (NN (E:=Sy.E) (N:=λn=>n) (gid:=146) (nm:=some) (λ_ _ h=>(Option.some.inj h).symm) rfl (by kernel_rfl) (by kernel_rfl) (zL (by kernel_rfl)) (zL (by kernel_rfl)) rfl z hc.1 hc.2)
 .cases h))
def mE (t0:Trace):Option ((Sl (Sl Int))×Int):=
 (h_ t0).bind λx_1=>
 (dQ x_1.1).bind λx_2=>
 some (x_2,x_1.2)
instance R3 (t0:Trace):Fc Sy cL (mE t0):=Fc.N 63 [enc t0] (dc 2 1 t0 (aV 7 λx_1 _=>aV 10 λx_2 _=>ah))
def rY (t0:Trace):Option ((Sl (Sl Int))×Int):=
 (mE t0).bind λx_1=>
 some (x_1.1,x_1.2)
instance R5 (t0:Trace):Fc Sy cL (rY t0):=Fc.N 43 [enc t0] (dc 2 1 t0 (aV 7 λx_1 _=>ah))
def kV (c:Sl Int):Option (aC 8 Int):=some (oR 8 c)
instance PF (c:Sl Int):Fc Sy cL (kV c):=Fc.of (A:=λz:Sl Int=>[enc z]) (E:=λr:aC 8 Int=>[enc r]) (p:=kV) (n:=110) (b:=true) (z:=c) (jk.scalar (jk.L0 (by kernel_rfl) (by kernel_rfl) (λz r h=>by
 cases h;exact uk (OV (by kernel_rfl) rfl (λ_=>rfl) z))) IG)
namespace dV
def aB (v30:Sl (Sl Int)) (v31:Int) (v32:Int) (vb4 outb8:aM) (vb28:Mo (aC 8 Int) Int):Option (Fw (Int×aM×aM×(Mo (aC 8 Int) Int)) (aM×aM×(Mo (aC 8 Int) Int)) Empty):=
 ay (decide (v32<v31))
 ((idx v30 v32).bind λx_2=>
 (kV x_2).bind λx_3=>
 some (.n (IntKind.wrap .i64 (v32+1),(⟨Sl.nil,Sl.nil,vb4.places⟩:aM),(⟨outb8.truths,outb8.cuts,⟨none⟩⟩:aM),nL vb28 x_3 v32)))
 (some (.x ((⟨Sl.nil,Sl.nil,vb4.places⟩:aM),(⟨outb8.truths,outb8.cuts,⟨none⟩⟩:aM),vb28)))
def W1 (v30:Sl (Sl Int)) (v31 v32:Int) (vb4 outb8:aM) (vb28:Mo (aC 8 Int) Int):Option (aM×Int):=
 (aZ (λq:Int×aM×aM×(Mo (aC 8 Int) Int)=>aB v30 v31 q.1 q.2.1 q.2.2.1 q.2.2.2) (v32,vb4,outb8,vb28)).bind (Fw.elim
 (λe=>some (⟨e.2.1.truths,e.2.1.cuts,⟨some e.2.2⟩⟩,0))
 (λe=>Empty.elim e))
end dV
def dV (t0:Trace) (l1:Sl Bool):Option (aM×Int):=
 (rY t0).bind λx_1=>
 ay (x_1.2==0)
 (ay ((len l1)==(len x_1.1))
 (dV.W1 x_1.1 (len x_1.1) 0 (⟨Sl.nil,Sl.nil,⟨none⟩⟩:aM) (⟨l1,x_1.1,⟨none⟩⟩:aM) [])
 (some (⟨Sl.nil,Sl.nil,⟨none⟩⟩,3)))
 (some (⟨Sl.nil,Sl.nil,⟨none⟩⟩,x_1.2))
open dV in
instance R4 (t0:Trace) (l1:Sl Bool):Fc Sy cL (dV t0 l1):=Fc.N 53 [enc t0,enc l1] (dc 2 2 t0 (aV 7 λx_1 _=>dB 14 17 (bB 7 l1 (bB 1 x_1.1 (dB 3 24 (S4 8 [cv l1,cv x_1.1,.mp 28] [cv l1,cv x_1.1,.mp 28] [.aF,.aF,.dY] [(0,1),(1,1),(2,1)] (by simp only[A6,Kz,Mt,Ic,JH,G4,gV,EB,BV,D4,DL];rfl) (RT 1 8 0 [cv l1,cv x_1.1,.mp 28] (by simp only[List.all_cons,JC,EP,Gc,EE,nv,lJ,nr,lH,BS];rfl) (bB 6 x_1.1 (iU 5 (λqW1=>(aQ [Pv 4,Pv 8,Cv 30 x_1.1,Iv 31 (len x_1.1),Iv 32 qW1.1] [Xb 4 (⟨Sl.nil,Sl.nil,qW1.2.1.places⟩:aM),(8,.box [cv qW1.2.2.1.truths,cv qW1.2.2.1.cuts,.mp 28]),(28,qV qW1.2.2.2)])) (λeW1=>(0,(aQ [Pv 4,Pv 8] [Xb 4 (⟨Sl.nil,Sl.nil,eW1.1.places⟩:aM),(8,.box [cv eW1.2.1.truths,cv eW1.2.1.cuts,.mp 28]),(28,qV eW1.2.2)]))) (λqW1=>aK 7 33 (bC 8 λx_2 _=>jS 9 λx_3 _=>P4 1 28 qW1.2.2.2 x_3 qW1.1 ah) ah) (λeW1=>RT 5 4 0 [cv eW1.2.1.truths,cv eW1.2.1.cuts,.mp 28] (by simp only[List.all_cons,JC,EP,Gc,EE,nv,lJ,nr,lH,BS];rfl) ah))))) (Px 3 (⟨Sl.nil,Sl.nil,⟨none⟩⟩:aM) [] [.aF,.aF,.dY] [] (by simp only[Ba,Cm,gV,EB,BV,D4,DL];rfl) rfl (me 0 4 0 (⟨Sl.nil,Sl.nil,⟨none⟩⟩:aM) ah))))) (Px 3 (⟨Sl.nil,Sl.nil,⟨none⟩⟩:aM) [] [.aF,.aF,.dY] [] (by simp only[Ba,Cm,gV,EB,BV,D4,DL];rfl) rfl (me 1 4 0 (⟨Sl.nil,Sl.nil,⟨none⟩⟩:aM) ah))))
namespace fm
def aB (v10:Sl Int) (v11:Int) (out5:Sl Int) (v12:Int):Option (Fw ((Sl Int)×Int) (Sl Int) Empty):=
 ay (decide (v12<v11))
 ((idx v10 v12).bind λx_2=>
 (Sl.kN out5 v12).bind λx_3=>
 (Sl.get out5 x_3).bind λx_4=>
 (Sl.kN out5 v12).bind λx_5=>
 (Sl.put out5 x_5 ((if x_2<x_4 then x_2 else x_4):Int)).bind λx_6=>
 some (.n (x_6,IntKind.wrap .i64 (v12+1))))
 (some (.x out5))
def W1 (out5 v10:Sl Int) (v11 v12:Int):Option (Sl Int):=
 (aZ (λq:(Sl Int)×Int=>aB v10 v11 q.1 q.2) (out5,v12)).bind (Fw.elim
 (λe=>some e)
 (λe=>Empty.elim e))
end fm
def fm (a0 b1:Sl Int):Option (Sl Int):=
 ((gN a0).bind Sl.whole).bind λx_1=>
 fm.W1 x_1 b1 (len b1) 0
open fm in
instance Pp (a0 b1:Sl Int):Fc Sy cL (fm a0 b1):=Fc.N 112 [enc a0,enc b1] (B3 8 9 jB a0 λx_1 _=>bB 7 b1 (iU 6 (λqW1=>(aQ [Ov 5,Cv 10 b1,Iv 11 (len b1),Iv 12 qW1.2] [Lb 2005 qW1.1])) (λeW1=>(0,(aQ [Ov 5] [Lb 2005 eW1]))) (λqW1=>aK 8 13 (bC 8 λx_2 _=>lK .i64 10 2005 λx_3 _=>sR 0 2005 0 1 false (λx_4=>.int .i64 x_4) λx_4 _=>lK .i64 2 2005 λx_5 _=>vM 0 2005 (.int .i64 (if x_2<x_4 then x_2 else x_4)) λx_6 _=>ah) ah) (λeW1=>ah)))
def jo (x0:aM) (c1:Sl Int):Option Bool:=
 (kV c1).bind λx_1=>
 (idx x0.truths (nN (mQ x0.places) x_1 0)).bind λx_2=>
 some x_2
instance HG (x0:aM) (c1:Sl Int):Fc Sy cL (jo x0 c1):=Fc.M 111 [enc x0,enc c1] (dc 2 2 x0 (jS 10 λx_1 _=>RU 0 x0.places x_1 0 (bC 0 λx_2 _=>ah)))
def eP (x0:aM) (a1 b2:Sl Int):Option Bool:=
 (fm a1 b2).bind λx_1=>
 (jo x0 x_1).bind λx_2=>
 some x_2
instance HH (x0:aM) (a1 b2:Sl Int):Fc Sy cL (eP x0 a1 b2):=Fc.M 55 [enc x0,enc a1,enc b2] (dc 2 3 x0 (aV 8 λx_1 _=>jS 0 λx_2 _=>ah))
namespace bS
def bq (i7:Int) (a8:Sl Int) (v12:Sl (Sl Int)) (v13 v14:Int) (v29:Sl (Sl Int)) (v30:Int) (xb2:aM) (v31:Int) (p1:((Sl Int)×(Sl Int))->Option Bool):Option (Fw Int Unit (Sl Int)):=
 ay (decide (v31<v30))
 ((idx v29 v31).bind λx_4=>
 (idx xb2.truths (IntKind.wrap .i64 ((IntKind.wrap .i64 (i7+1))+v31))).bind λx_5=>
 (ay x_5
 ((p1 (a8,x_4)).bind λx_6=>
 some (!x_6))
 (some false):Option Bool).bind λx_7=>
 ay x_7
 (some (.r x_4))
 (some (.n (IntKind.wrap .i64 (v31+1)))))
 (some (.x ()))
def W2 (i7:Int) (a8:Sl Int) (v12:Sl (Sl Int)) (v13 v14:Int) (v29:Sl (Sl Int)) (v30 v31:Int) (xb2:aM) (p1:((Sl Int)×(Sl Int))->Option Bool):Option (Fw Int Unit ((Sl Int)×(Sl Int))):=
 (aZ (λq:Int=>bq i7 a8 v12 v13 v14 v29 v30 xb2 q p1) v31).bind (Fw.elim
 (λe=>some (.n (IntKind.wrap .i64 (v14+1))))
 (λe=>some (.r (a8,e))))
def aB (v12:Sl (Sl Int)) (v13:Int) (xb2:aM) (v14:Int) (p1:((Sl Int)×(Sl Int))->Option Bool):Option (Fw Int Unit ((Sl Int)×(Sl Int))):=
 ay (decide (v14<v13))
 ((idx v12 v14).bind λx_1=>
 (idx xb2.truths v14).bind λx_2=>
 ay x_2
 ((eH xb2.cuts (some (IntKind.wrap .i64 (v14+1))) none).bind λx_3=>
 W2 v14 x_1 v12 v13 v14 x_3 (len x_3) 0 xb2 p1)
 (some (.n (IntKind.wrap .i64 (v14+1)))))
 (some (.x ()))
def W1 (v12:Sl (Sl Int)) (v13 v14:Int) (xb2:aM) (p1:((Sl Int)×(Sl Int))->Option Bool):Option (Bool×(Sl Int)×(Sl Int)):=
 (aZ (λq:Int=>aB v12 v13 xb2 q p1) v14).bind (Fw.elim
 (λe=>some (true,Sl.nil,Sl.nil))
 (λe=>some (false,e.1,e.2)))
end bS
def bS (x0:aM) (p1:((Sl Int)×(Sl Int))->Option Bool):Option (Bool×(Sl Int)×(Sl Int)):=
 bS.W1 x0.cuts (len x0.cuts) 0 x0 p1
open bS in
abbrev mT (g1:FuncId) (w1:V) (e1:List V) (p1:((Sl Int)×(Sl Int))->Option Bool) (h1:qG Sy cL g1 [w1] e1 (λz:(Sl Int)×(Sl Int)=>[enc z.1,enc z.2]) (λr:Bool=>[.bool r]) p1 true) (x0:aM):Fc Sy cL (bS x0 p1):=Fc.N 54 [enc x0,.clo g1 [w1] e1] (dc 2 2 x0 (bB 10 x0.cuts (dA 5 (λqW1=>(aQ [(1,.v (.clo g1 [w1] e1)),Pv 2,Cv 12 x0.cuts,Iv 13 (len x0.cuts),Iv 14 qW1] [Xb 2 x0])) (λeW1=>(0,(aQ [] []))) (λeW1=>(aQ [Bv 4 false,Cv 5 eW1.1,Cv 6 eW1.2] [])) (λqW1=>aK 7 15 (bC 8 λx_1 _=>bC 11 λx_2 _=>dB 4 24 (BW 9 true false [.int .i64 (IntKind.wrap .i64 (qW1+1))] λx_3 _=>bB 0 x_3 (dA 5 (λqW2=>(aQ [(1,.v (.clo g1 [w1] e1)),Pv 2,Iv 7 qW1,Cv 8 x_1,Cv 12 x0.cuts,Iv 13 (len x0.cuts),Iv 14 qW1,Cv 29 x_3,Iv 30 (len x_3),Iv 31 qW2] [Xb 2 x0])) (λeW2=>(2,(aQ [(1,.v (.clo g1 [w1] e1)),Pv 2,Cv 12 x0.cuts,Iv 13 (len x0.cuts),Iv 14 qW1] [Xb 2 x0]))) (λeW2=>(aQ [Bv 4 false,Cv 5 x_1,Cv 6 eW2] [])) (λqW2=>aK 7 32 (bC 8 λx_4 _=>bC 13 λx_5 _=>br 2 6 [44] 50 (aK 2 44 (yM 3 h1.f (x_1,x_4) λx_6 _=>aI 2) (aI 6)) λx_7=>aK 2 50 ah ah) ah) (λeW2=>ah) (λeW2=>ah))) ah) ah) (λeW1=>ah) (λeW1=>ah)))) (l:=by simp[h1.d,(by simpa using h1.dw:V.lvl 7 w1=true)])
def jL (t0:Trace) (l1:Sl Bool):Option (Bool×(Sl Int)×(Sl Int)×Int):=
 (dV t0 l1).bind λx_1=>
 ay (x_1.2==0)
 ((bS x_1.1 (λz=>eP x_1.1 z.1 z.2)).bind λx_2=>
 some (x_2.1,x_2.2.1,x_2.2.2,0))
 (some (false,Sl.nil,Sl.nil,x_1.2))
instance Nd (t0:Trace) (l1:Sl Bool):Fc Sy cL (jL t0 l1):=Fc.N 12 [enc t0,enc l1] (dc 2 2 t0 (aV 10 λx_1 _=>me 4 8 0 x_1.1 (dB 10 16 (aV (F:=mT 55 (enc x_1.1) [] (λz=>eP x_1.1 z.1 z.2) qG.wI x_1.1) 8 λx_2 _=>ah) ah)))
namespace fh
def aB (v10:Sl Int) (v11:Int) (out5:Sl Int) (v12:Int):Option (Fw ((Sl Int)×Int) (Sl Int) Empty):=
 ay (decide (v12<v11))
 ((idx v10 v12).bind λx_2=>
 (Sl.kN out5 v12).bind λx_3=>
 (Sl.get out5 x_3).bind λx_4=>
 (Sl.kN out5 v12).bind λx_5=>
 (Sl.put out5 x_5 ((if x_2>x_4 then x_2 else x_4):Int)).bind λx_6=>
 some (.n (x_6,IntKind.wrap .i64 (v12+1))))
 (some (.x out5))
def W1 (out5 v10:Sl Int) (v11 v12:Int):Option (Sl Int):=
 (aZ (λq:(Sl Int)×Int=>aB v10 v11 q.1 q.2) (out5,v12)).bind (Fw.elim
 (λe=>some e)
 (λe=>Empty.elim e))
end fh
def fh (a0 b1:Sl Int):Option (Sl Int):=
 ((gN a0).bind Sl.whole).bind λx_1=>
 fh.W1 x_1 b1 (len b1) 0
open fh in
instance Pq (a0 b1:Sl Int):Fc Sy cL (fh a0 b1):=Fc.N 113 [enc a0,enc b1] (B3 8 9 jB a0 λx_1 _=>bB 7 b1 (iU 6 (λqW1=>(aQ [Ov 5,Cv 10 b1,Iv 11 (len b1),Iv 12 qW1.2] [Lb 2005 qW1.1])) (λeW1=>(0,(aQ [Ov 5] [Lb 2005 eW1]))) (λqW1=>aK 8 13 (bC 8 λx_2 _=>lK .i64 10 2005 λx_3 _=>sR 0 2005 0 1 false (λx_4=>.int .i64 x_4) λx_4 _=>lK .i64 2 2005 λx_5 _=>vM 0 2005 (.int .i64 (if x_2>x_4 then x_2 else x_4)) λx_6 _=>ah) ah) (λeW1=>ah)))
def eN (x0:aM) (a1 b2:Sl Int):Option Bool:=
 (fh a1 b2).bind λx_1=>
 (jo x0 x_1).bind λx_2=>
 some x_2
instance Hx (x0:aM) (a1 b2:Sl Int):Fc Sy cL (eN x0 a1 b2):=Fc.M 56 [enc x0,enc a1,enc b2] (dc 2 3 x0 (aV 8 λx_1 _=>jS 0 λx_2 _=>ah))
def gy (t0:Trace) (l1:Sl Bool):Option (Bool×(Sl Int)×(Sl Int)×Int):=
 (dV t0 l1).bind λx_1=>
 ay (x_1.2==0)
 ((bS x_1.1 (λz=>eN x_1.1 z.1 z.2)).bind λx_2=>
 some (x_2.1,x_2.2.1,x_2.2.2,0))
 (some (false,Sl.nil,Sl.nil,x_1.2))
instance IK (t0:Trace) (l1:Sl Bool):Fc Sy cL (gy t0 l1):=Fc.N 13 [enc t0,enc l1] (dc 2 2 t0 (aV 10 λx_1 _=>me 4 8 0 x_1.1 (dB 10 16 (aV (F:=mT 56 (enc x_1.1) [] (λz=>eN x_1.1 z.1 z.2) qG.wI x_1.1) 8 λx_2 _=>ah) ah)))
def iM (x0:aM) (a1 b2:Sl Int):Option Bool:=
 (eP x0 a1 b2).bind λx_1=>
 (ay x_1
 ((eN x0 a1 b2).bind λx_2=>
 some x_2)
 (some false):Option Bool).bind λx_3=>
 some x_3
instance II (x0:aM) (a1 b2:Sl Int):Fc Sy cL (iM x0 a1 b2):=Fc.M 57 [enc x0,enc a1,enc b2] (dc 2 3 x0 (aV 8 λx_1 _=>br 1 5 [1,2,3,11] 16 (aK 1 11 (aV 3 λx_2 _=>aI 1) (aI 5)) λx_3=>ah))
def iZ (t0:Trace) (l1:Sl Bool):Option (Bool×(Sl Int)×(Sl Int)×Int):=
 (dV t0 l1).bind λx_1=>
 ay (x_1.2==0)
 ((bS x_1.1 (λz=>iM x_1.1 z.1 z.2)).bind λx_2=>
 some (x_2.1,x_2.2.1,x_2.2.2,0))
 (some (false,Sl.nil,Sl.nil,x_1.2))
instance KX (t0:Trace) (l1:Sl Bool):Fc Sy cL (iZ t0 l1):=Fc.N 14 [enc t0,enc l1] (dc 2 2 t0 (aV 10 λx_1 _=>me 4 8 0 x_1.1 (dB 10 16 (aV (F:=mT 57 (enc x_1.1) [] (λz=>iM x_1.1 z.1 z.2) qG.wI x_1.1) 8 λx_2 _=>ah) ah)))
namespace ck
def bq (a8:Sl Int) (v15:Sl (Sl Int)) (v16 v17 v29:Int) (xb2:aM) (tb3:Trace) (least9 v30:Int):Option (Fw (Int×Int) Int Empty):=
 ay (decide (v30<v29))
 ((idx a8 v30).bind λx_3=>
 (idx tb3.procs v30).bind λx_4=>
 ay (x_3==(len x_4.events))
 (some (.n (least9,IntKind.wrap .i64 (v30+1))))
 (((gN a8).bind Sl.whole).bind λx_5=>
 (Sl.kN x_5 v30).bind λx_6=>
 (Sl.get x_5 x_6).bind λx_7=>
 (Sl.kN x_5 v30).bind λx_8=>
 (Sl.put x_5 x_8 (IntKind.wrap .i64 (x_7+1):Int)).bind λx_9=>
 (kV x_9).bind λx_10=>
 (ay (zR (mQ xb2.places) x_10)
 ((idx xb2.truths (nN (mQ xb2.places) x_10 0)).bind λx_11=>
 some (!x_11))
 (some false):Option Bool).bind λx_12=>
 (ay x_12
 ((ay (decide (least9<0))
 (some true)
 (some (decide ((nN (mQ xb2.places) x_10 0)<least9))):Option Bool).bind λx_13=>
 some x_13)
 (some false):Option Bool).bind λx_14=>
 ay x_14
 (some (.n (nN (mQ xb2.places) x_10 0,IntKind.wrap .i64 (v30+1))))
 (some (.n (least9,IntKind.wrap .i64 (v30+1))))))
 (some (.x least9))
def W2 (a8:Sl Int) (least9:Int) (v15:Sl (Sl Int)) (v16 v17 v29 v30:Int) (xb2:aM) (tb3:Trace):Option (Fw Int Unit ((Sl Int)×(Sl Int))):=
 (aZ (λq:Int×Int=>bq a8 v15 v16 v17 v29 xb2 tb3 q.1 q.2) (least9,v30)).bind (Fw.elim
 (λe=>ay (decide (e>=0))
 ((idx xb2.cuts e).bind λx_15=>
 some (.r (a8,x_15)))
 (some (.n (IntKind.wrap .i64 (v17+1)))))
 (λe=>Empty.elim e))
def aB (v15:Sl (Sl Int)) (v16:Int) (xb2:aM) (tb3:Trace) (v17:Int):Option (Fw Int Unit ((Sl Int)×(Sl Int))):=
 ay (decide (v17<v16))
 ((idx v15 v17).bind λx_1=>
 (idx xb2.truths v17).bind λx_2=>
 ay x_2
 (W2 x_1 (-1) v15 v16 v17 (len x_1) 0 xb2 tb3)
 (some (.n (IntKind.wrap .i64 (v17+1)))))
 (some (.x ()))
def W1 (v15:Sl (Sl Int)) (v16 v17:Int) (xb2:aM) (tb3:Trace):Option (Bool×(Sl Int)×(Sl Int)):=
 (aZ (λq:Int=>aB v15 v16 xb2 tb3 q) v17).bind (Fw.elim
 (λe=>some (true,Sl.nil,Sl.nil))
 (λe=>some (false,e.1,e.2)))
end ck
def ck (x0:aM) (t1:Trace):Option (Bool×(Sl Int)×(Sl Int)):=
 ck.W1 x0.cuts (len x0.cuts) 0 x0 t1
open ck in
instance Gn (x0:aM) (t1:Trace):Fc Sy cL (ck x0 t1):=Fc.N 58 [enc x0,enc t1] (dc 2 2 x0 (dc 0 3 t1 (bB 10 x0.cuts (dA 5 (λqW1=>(aQ [Pv 2,Pv 3,Cv 15 x0.cuts,Iv 16 (len x0.cuts),Iv 17 qW1] [Xb 2 x0,Xb 3 t1])) (λeW1=>(0,(aQ [] []))) (λeW1=>(aQ [Bv 4 false,Cv 5 eW1.1,Cv 6 eW1.2] [])) (λqW1=>aK 7 18 (bC 8 λx_1 _=>bC 11 λx_2 _=>dB 4 27 (bB 12 x_1 (iU 5 (λqW2=>(aQ [Pv 2,Pv 3,Cv 8 x_1,Iv 9 qW2.1,Cv 15 x0.cuts,Iv 16 (len x0.cuts),Iv 17 qW1,Iv 29 (len x_1),Iv 30 qW2.2] [Xb 2 x0,Xb 3 t1])) (λeW2=>(2,(aQ [Pv 2,Pv 3,Cv 8 x_1,Iv 9 eW2,Cv 15 x0.cuts,Iv 16 (len x0.cuts),Iv 17 qW1] [Xb 2 x0,Xb 3 t1]))) (λqW2=>aK 7 31 (bC 16 λx_3 _=>bC 4 λx_4 _=>bB 2 x_4.events (aK 3 44 ah (B3 6 46 jB x_1 λx_5 _=>lK .i64 7 46 λx_6 _=>sR 0 46 0 1 false (λx_7=>.int .i64 x_7) λx_7 _=>lK .i64 1 46 λx_8 _=>vM 0 46 (.int .i64 (IntKind.wrap .i64 (x_7+1))) λx_9 _=>jS 7 λx_10 _=>OB 0 x0.places x_10 0 (br 11 7 [62] 69 (aK 11 62 (bC 3 λx_11 _=>aI 3) (aI 7)) λx_12=>br 1 8 [70] 78 (aK 1 70 (br 3 4 [73] 77 (aK 3 73 (aI 4) (aI 4)) λx_13=>aI 1) (aI 8)) λx_14=>aK 2 78 ah ah)))) ah) (λeW2=>aK 8 82 (bC 7 λx_15 _=>ah) ah))) ah) ah) (λeW1=>ah) (λeW1=>ah)))))
def jN (t0:Trace) (l1:Sl Bool):Option (Bool×(Sl Int)×(Sl Int)×Int):=
 (dV t0 l1).bind λx_1=>
 ay (x_1.2==0)
 ((ck x_1.1 t0).bind λx_2=>
 some (x_2.1,x_2.2.1,x_2.2.2,0))
 (some (false,Sl.nil,Sl.nil,x_1.2))
instance MN (t0:Trace) (l1:Sl Bool):Fc Sy cL (jN t0 l1):=Fc.N 15 [enc t0,enc l1] (dc 2 2 t0 (aV 10 λx_1 _=>me 4 8 0 x_1.1 (dB 10 16 (aV 7 λx_2 _=>ah) ah)))
def bJ (l0:Sl Bool) (v1:Trace):Option ((aC 4 Bool)×Int):=
 (jL v1 l0).bind λx_1=>
 (aC.at (aC.fZ 4 false) 0).bind λx_2=>
 (aC.at (aC.fZ 4 (0:Int)) 0).bind λx_3=>
 (gy v1 l0).bind λx_4=>
 (aC.at (aC.set (aC.fZ 4 false) 0 x_1.1) 1).bind λx_5=>
 (aC.at (aC.set (aC.fZ 4 (0:Int)) 0 x_1.2.2.2) 1).bind λx_6=>
 (iZ v1 l0).bind λx_7=>
 (aC.at (aC.set (aC.set (aC.fZ 4 false) 0 x_1.1) 1 x_4.1) 2).bind λx_8=>
 (aC.at (aC.set (aC.set (aC.fZ 4 (0:Int)) 0 x_1.2.2.2) 1 x_4.2.2.2) 2).bind λx_9=>
 (jN v1 l0).bind λx_10=>
 (aC.at (aC.set (aC.set (aC.set (aC.fZ 4 false) 0 x_1.1) 1 x_4.1) 2 x_7.1) 3).bind λx_11=>
 (aC.at (aC.set (aC.set (aC.set (aC.fZ 4 (0:Int)) 0 x_1.2.2.2) 1 x_4.2.2.2) 2 x_7.2.2.2) 3).bind λx_12=>
 (aC.at (aC.set (aC.set (aC.set (aC.set (aC.fZ 4 (0:Int)) 0 x_1.2.2.2) 1 x_4.2.2.2) 2 x_7.2.2.2) 3 x_10.2.2.2) 0).bind λx_13=>
 (aC.at (aC.set (aC.set (aC.set (aC.set (aC.fZ 4 (0:Int)) 0 x_1.2.2.2) 1 x_4.2.2.2) 2 x_7.2.2.2) 3 x_10.2.2.2) 1).bind λx_14=>
 (aC.at (aC.set (aC.set (aC.set (aC.set (aC.fZ 4 (0:Int)) 0 x_1.2.2.2) 1 x_4.2.2.2) 2 x_7.2.2.2) 3 x_10.2.2.2) 2).bind λx_15=>
 (aC.at (aC.set (aC.set (aC.set (aC.set (aC.fZ 4 (0:Int)) 0 x_1.2.2.2) 1 x_4.2.2.2) 2 x_7.2.2.2) 3 x_10.2.2.2) 3).bind λx_16=>
 some (aC.set (aC.set (aC.set (aC.set (aC.fZ 4 false) 0 x_1.1) 1 x_4.1) 2 x_7.1) 3 x_10.1,kH (kH (kH x_13 x_14) x_15) x_16)
instance Fp (l0:Sl Bool) (v1:Trace):Fc Sy cL (bJ l0 v1):=Fc.M 20 [enc l0,.fptr (cells v1)] (rK 2 3 (aQ [Cv 0 l0,Kv 1 v1] []) 4 false (by kernel_rfl) (rK 5 5 (aQ [Cv 0 l0,Kv 1 v1,Pv 3] [Xb 3 (aC.fZ 4 false)]) 4 false (by simp only[aQ,n_,iu,jq,iD,jv,kG,jl,kS,iz,jr,oa,kz,kI,kE,kD,mg,mc,jm,kJ];rfl) (rK 4 6 (aQ [Cv 0 l0,Kv 1 v1,Pv 3,Pv 5] [Xb 3 (aC.fZ 4 false),Xb 5 (aC.fZ 4 false)]) 4 (0:Int) (by simp only[aQ,n_,iu,jq,iD,jv,kG,jl,kS,iz,jr,oa,kz,kI,kE,kD,mg,mc,jm,kJ];rfl) (aV 6 λx_1 _=>gL 5 .i64 5 λx_2 h_2=>uf 0 1 5 (aC.fZ 4 false) 0 0 x_2 h_2 x_1.1 (.bool x_1.1) (by rfl) (gL 0 .i64 6 λx_3 h_3=>uf 0 1 6 (aC.fZ 4 (0:Int)) 0 0 x_3 h_3 x_1.2.2.2 (.int .i64 x_1.2.2.2) (by rfl) (aV 6 λx_4 _=>gL 5 .i64 5 λx_5 h_5=>uf 0 1 5 (aC.set (aC.fZ 4 false) 0 x_1.1) 1 0 x_5 h_5 x_4.1 (.bool x_4.1) (by rfl) (gL 0 .i64 6 λx_6 h_6=>uf 0 1 6 (aC.set (aC.fZ 4 (0:Int)) 0 x_1.2.2.2) 1 0 x_6 h_6 x_4.2.2.2 (.int .i64 x_4.2.2.2) (by rfl) (aV 6 λx_7 _=>gL 5 .i64 5 λx_8 h_8=>uf 0 1 5 (aC.set (aC.set (aC.fZ 4 false) 0 x_1.1) 1 x_4.1) 2 0 x_8 h_8 x_7.1 (.bool x_7.1) (by rfl) (gL 0 .i64 6 λx_9 h_9=>uf 0 1 6 (aC.set (aC.set (aC.fZ 4 (0:Int)) 0 x_1.2.2.2) 1 x_4.2.2.2) 2 0 x_9 h_9 x_7.2.2.2 (.int .i64 x_7.2.2.2) (by rfl) (aV 6 λx_10 _=>gL 5 .i64 5 λx_11 h_11=>uf 0 1 5 (aC.set (aC.set (aC.set (aC.fZ 4 false) 0 x_1.1) 1 x_4.1) 2 x_7.1) 3 0 x_11 h_11 x_10.1 (.bool x_10.1) (by rfl) (gL 0 .i64 6 λx_12 h_12=>uf 0 1 6 (aC.set (aC.set (aC.set (aC.fZ 4 (0:Int)) 0 x_1.2.2.2) 1 x_4.2.2.2) 2 x_7.2.2.2) 3 0 x_12 h_12 x_10.2.2.2 (.int .i64 x_10.2.2.2) (by rfl) (UF 4 5 (aC.set (aC.set (aC.set (aC.set (aC.fZ 4 false) 0 x_1.1) 1 x_4.1) 2 x_7.1) 3 x_10.1) rfl (gL 0 .i64 6 λx_13 h_13=>Dw 0 1 false 6 (aC.set (aC.set (aC.set (aC.set (aC.fZ 4 (0:Int)) 0 x_1.2.2.2) 1 x_4.2.2.2) 2 x_7.2.2.2) 3 x_10.2.2.2) 0 0 x_13 h_13 [.ptr 3 0] (.int .i64 x_13) (by rfl) (gL 0 .i64 6 λx_14 h_14=>Dw 0 1 false 6 (aC.set (aC.set (aC.set (aC.set (aC.fZ 4 (0:Int)) 0 x_1.2.2.2) 1 x_4.2.2.2) 2 x_7.2.2.2) 3 x_10.2.2.2) 1 0 x_14 h_14 [.ptr 3 0] (.int .i64 x_14) (by rfl) (gL 0 .i64 6 λx_15 h_15=>Dw 0 1 false 6 (aC.set (aC.set (aC.set (aC.set (aC.fZ 4 (0:Int)) 0 x_1.2.2.2) 1 x_4.2.2.2) 2 x_7.2.2.2) 3 x_10.2.2.2) 2 0 x_15 h_15 [.ptr 3 0] (.int .i64 x_15) (by rfl) (gL 0 .i64 6 λx_16 h_16=>Dw 0 1 false 6 (aC.set (aC.set (aC.set (aC.set (aC.fZ 4 (0:Int)) 0 x_1.2.2.2) 1 x_4.2.2.2) 2 x_7.2.2.2) 3 x_10.2.2.2) 3 0 x_16 h_16 [.ptr 3 0] (.int .i64 x_16) (by rfl) (Si 1 3 (aC.fZ 4 false) (aC.set (aC.set (aC.set (aC.set (aC.fZ 4 false) 0 x_1.1) 1 x_4.1) 2 x_7.1) 3 x_10.1) [] (Se 4 3 3 (aC.set (aC.set (aC.set (aC.set (aC.fZ 4 false) 0 x_1.1) 1 x_4.1) 2 x_7.1) 3 x_10.1) rfl [.s 4] [iv (kH (kH (kH x_13 x_14) x_15) x_16)] (aQ [Pv 3,Iv 4 (kH (kH (kH x_13 x_14) x_15) x_16)] [Xb 3 (aC.set (aC.set (aC.set (aC.set (aC.fZ 4 false) 0 x_1.1) 1 x_4.1) 2 x_7.1) 3 x_10.1),Xb 5 (aC.set (aC.set (aC.set (aC.set (aC.fZ 4 false) 0 x_1.1) 1 x_4.1) 2 x_7.1) 3 x_10.1),Xb 6 (aC.set (aC.set (aC.set (aC.set (aC.fZ 4 (0:Int)) 0 x_1.2.2.2) 1 x_4.2.2.2) 2 x_7.2.2.2) 3 x_10.2.2.2)]) (ys:=[.int .i64 (kH (kH (kH x_13 x_14) x_15) x_16)]) (by kernel_rfl) (by kernel_rfl))))))))))))))))))) (s:=NC (λ_=>rfl) (λ_=>rfl))
def jP (s0:Sl Bool):Option (Sl Bool):=
 (Sl.isNil s0).bind λx_1=>
 ay x_1
 (some Sl.nil)
 ((kO (Sl.row []:Sl Bool) s0).bind λx_2=>
 some x_2)
theorem o5:Aa Sy cL 21 (λs0:Sl Bool=>[enc s0]) (λz=>jP z):=Aa.mk' (zy (Tx 21)) (λs0=>Q8 9 λx_1 _=>aK 2 4 ah (vq 7 5 7 λx_2 _=>ah))
namespace bL
def bq (xb11 yb13 zb15 nb17:aC 4 Bool) (v128:Int):Option (Fw Int Unit Unit):=
 ay (decide (v128<4))
 ((aC.at xb11 v128).bind λx_19=>
 (ay x_19
 ((aC.at yb13 v128).bind λx_20=>
 some x_20)
 (some false):Option Bool).bind λx_21=>
 (ay x_21
 ((aC.at zb15 v128).bind λx_22=>
 some (!x_22))
 (some false):Option Bool).bind λx_23=>
 ay x_23
 (some (.r ()))
 (some (.n (IntKind.wrap .i64 (v128+1)))))
 (some (.x ()))
def W2 (v128:Int) (xb11 yb13 zb15 nb17:aC 4 Bool):Option Bool:=
 (aZ (λq:Int=>bq xb11 yb13 zb15 nb17 q) v128).bind (Fw.elim
 (λe=>(aC.at yb13 2).bind λx_32=>
 (aC.at yb13 0).bind λx_33=>
 (ay x_33
 ((aC.at yb13 1).bind λx_34=>
 some x_34)
 (some false):Option Bool).bind λx_35=>
 (ay (x_32==x_35)
 ((aC.at yb13 3).bind λx_36=>
 (ay x_36
 ((aC.at yb13 1).bind λx_37=>
 (ay x_37
 ((aC.at nb17 0).bind λx_38=>
 some x_38)
 (some false):Option Bool).bind λx_39=>
 some x_39)
 (some true):Option Bool).bind λx_40=>
 some x_40)
 (some false):Option Bool).bind λx_41=>
 some x_41)
 (λe=>some false))
def aB (k1 l2:Sl Bool) (v53:Int) (tb3:Trace) (both8 not9:Sl Bool) (v54:Int):Option (Fw ((Sl Bool)×(Sl Bool)×Int) ((Sl Bool)×(Sl Bool)) Empty):=
 ay (decide (v54<v53))
 ((idx k1 v54).bind λx_11=>
 (ay x_11
 ((idx l2 v54).bind λx_12=>
 some x_12)
 (some false):Option Bool).bind λx_13=>
 (Sl.kN both8 v54).bind λx_14=>
 (Sl.put both8 x_14 (x_13:Bool)).bind λx_15=>
 (idx l2 v54).bind λx_16=>
 (Sl.kN not9 v54).bind λx_17=>
 (Sl.put not9 x_17 ((!x_16):Bool)).bind λx_18=>
 some (.n (x_15,x_18,IntKind.wrap .i64 (v54+1))))
 (some (.x (both8,not9)))
def W1 (k1 l2 both8 not9:Sl Bool) (v53 v54:Int) (tb3:Trace):Option Bool:=
 (aZ (λq:(Sl Bool)×(Sl Bool)×Int=>aB k1 l2 v53 tb3 q.1 q.2.1 q.2.2) (both8,not9,v54)).bind (Fw.elim
 (λe=>(bJ k1 tb3).bind λx_24=>
 (bJ l2 tb3).bind λx_25=>
 (bJ e.1 tb3).bind λx_26=>
 (bJ e.2 tb3).bind λx_27=>
 ay (x_24.2==0)
 ((ay (x_25.2==0)
 (some (!(x_26.2==0)))
 (some true):Option Bool).bind λx_28=>
 (ay x_28
 (some true)
 (some (!(x_27.2==0))):Option Bool).bind λx_29=>
 ay x_29
 (some false)
 (bL.W2 0 x_24.1 x_25.1 x_26.1 x_27.1))
 ((ay (x_25.2==x_24.2)
 (some (x_26.2==x_24.2))
 (some false):Option Bool).bind λx_30=>
 (ay x_30
 (some (x_27.2==x_24.2))
 (some false):Option Bool).bind λx_31=>
 some x_31))
 (λe=>Empty.elim e))
end bL
def bL (t0:Trace) (k1 l2:Sl Bool):Option Bool:=
 (tD).bind λx_1=>
 ay x_1
 ((iH t0).bind λx_2=>
 (ay x_2
 (some (decide ((len k1)>6000)))
 (some true):Option Bool).bind λx_3=>
 (ay x_3
 (some true)
 (some (!((len k1)==(len l2)))):Option Bool).bind λx_4=>
 (ay x_4
 (some true)
 ((qv t0).bind λx_5=>
 some (!x_5)):Option Bool).bind λx_6=>
 (ay x_6
 (some true)
 ((rX t0).bind λx_7=>
 some (!x_7)):Option Bool).bind λx_8=>
 ay x_8
 (some true)
 (((jP l2).bind Sl.whole).bind λx_9=>
 ((jP l2).bind Sl.whole).bind λx_10=>
 bL.W1 k1 l2 x_9 x_10 (len l2) 0 t0))
 (some false)
open bL in
instance wP (t0:Trace) (k1 l2:Sl Bool):Fc Sy cL (bL t0 k1 l2):=Fc.M 4 [enc t0,enc k1,enc l2] (dc 2 3 t0 (aV 6 λx_1 _=>dB 3 21 (aV 7 λx_2 _=>br 2 4 [25] 29 (dB 2 25 (bB 1 k1 (aI 2)) (aI 4)) λx_3=>br 1 6 [30] 36 (aK 1 30 (aI 6) (bB 1 k1 (bB 1 l2 (aI 2)))) λx_4=>br 1 4 [37] 41 (aK 1 37 (aI 4) (aV 1 λx_5 _=>aI 2)) λx_6=>br 1 4 [42] 46 (aK 1 42 (aI 4) (aV 1 λx_7 _=>aI 2)) λx_8=>aK 2 46 ah (B3 12 49 o5 l2 λx_9 _=>B3 1 51 o5 l2 λx_10 _=>bB 8 l2 (iU 7 (λqW1=>(aQ [Cv 1 k1,Cv 2 l2,(7,.clo 20 [] [.ptr 3 0]),Ov 8,Ov 9,Iv 53 (len l2),Iv 54 qW1.2.2] [Xb 3 t0,Lb 2008 qW1.1,Lb 2009 qW1.2.1])) (λeW1=>(0,(aQ [Cv 1 k1,Cv 2 l2,(7,.clo 20 [] [.ptr 3 0]),Ov 8,Ov 9] [Xb 3 t0,Lb 2008 eW1.1,Lb 2009 eW1.2]))) (λqW1=>aK 9 55 (bC 17 λx_11 _=>br 2 5 [63] 68 (aK 2 63 (bC 2 λx_12 _=>aI 2) (aI 5)) λx_13=>lK .i64 0 2008 λx_14 _=>vM 0 2008 (.bool x_13) λx_15 _=>bC 7 λx_16 _=>lK .i64 2 2009 λx_17 _=>vM 0 2009 (.bool (!x_16)) λx_18 _=>ah) ah) (λeW1=>jS 6 λx_24 _=>rK 3 11 (aQ [Cv 2 l2,(7,.clo 20 [] [.ptr 3 0]),Ov 8,Ov 9,Cv 83 x_24.1,Iv 84 x_24.2] [Xb 3 t0,Lb 2008 eW1.1,Lb 2009 eW1.2]) 4 false (by kernel_rfl) (Iy 0 11 (aC.fZ 4 false) x_24.1 (jS 7 λx_25 _=>rK 3 13 (aQ [(7,.clo 20 [] [.ptr 3 0]),Ov 8,Ov 9,Pv 11,Iv 12 x_24.2,Cv 89 x_25.1,Iv 90 x_25.2] [Xb 3 t0,Lb 2008 eW1.1,Lb 2009 eW1.2,Xb 11 x_24.1]) 4 false (by simp only[aQ,n_,iu,jq,iD,jv,kG,jl,kS,iz,jr,oa,kz,kI,kE,kD,mg,mc,jm,kJ];rfl) (Iy 0 13 (aC.fZ 4 false) x_25.1 (jS 7 λx_26 _=>rK 3 15 (aQ [(7,.clo 20 [] [.ptr 3 0]),Ov 9,Pv 11,Iv 12 x_24.2,Pv 13,Iv 14 x_25.2,Cv 95 x_26.1,Iv 96 x_26.2] [Xb 3 t0,Lb 2008 eW1.1,Lb 2009 eW1.2,Xb 11 x_24.1,Xb 13 x_25.1]) 4 false (by simp only[aQ,n_,iu,jq,iD,jv,kG,jl,kS,iz,jr,oa,kz,kI,kE,kD,mg,mc,jm,kJ];rfl) (Iy 0 15 (aC.fZ 4 false) x_26.1 (jS 7 λx_27 _=>rK 3 17 (aQ [Pv 11,Iv 12 x_24.2,Pv 13,Iv 14 x_25.2,Pv 15,Iv 16 x_26.2,Cv 101 x_27.1,Iv 102 x_27.2] [Xb 3 t0,Lb 2008 eW1.1,Lb 2009 eW1.2,Xb 11 x_24.1,Xb 13 x_25.1,Xb 15 x_26.1]) 4 false (by simp only[aQ,n_,iu,jq,iD,jv,kG,jl,kS,iz,jr,oa,kz,kI,kE,kD,mg,mc,jm,kJ];rfl) (Iy 0 17 (aC.fZ 4 false) x_27.1 (dB 10 104 (br 9 3 [16,120] 123 (dB 9 120 (aI 3) (aI 3)) λx_28=>br 1 3 [18,124] 127 (aK 1 124 (aI 3) (aI 3)) λx_29=>aK 2 127 ah (dA 11 (λqW2=>(aQ [Pv 11,Pv 13,Pv 15,Pv 17,Iv 128 qW2] [Xb 11 x_24.1,Xb 13 x_25.1,Xb 15 x_26.1,Xb 17 x_27.1])) (λeW2=>(2,(aQ [Pv 13,Pv 17] [Xb 13 x_25.1,Xb 17 x_27.1]))) (λeW2=>(aQ [Bv 6 false] [])) (λqW2=>aK 7 129 (gL 14 .i64 11 λx_19 h_19=>qQ 0 1 false 11 x_24.1 qW2 0 x_19 h_19 (.bool x_19) (by rfl) (br 1 4 [134] 138 (aK 1 134 (gL 1 .i64 13 λx_20 h_20=>qQ 0 1 false 13 x_25.1 qW2 0 x_20 h_20 (.bool x_20) (by rfl) (aI 1)) (aI 4)) λx_21=>br 1 5 [19,139] 144 (aK 1 139 (gL 1 .i64 15 λx_22 h_22=>qQ 0 1 false 15 x_26.1 qW2 0 x_22 h_22 (.bool x_22) (by rfl) (aI 2)) (aI 5)) λx_23=>aK 2 144 ah ah)) ah) (λeW2=>gL 4 .i64 13 λx_32 h_32=>qQ 0 1 false 13 x_25.1 2 0 x_32 h_32 (.bool x_32) (by rfl) (gL 0 .i64 13 λx_33 h_33=>qQ 0 1 false 13 x_25.1 0 0 x_33 h_33 (.bool x_33) (by rfl) (br 1 3 [150] 153 (aK 1 150 (gL 0 .i64 13 λx_34 h_34=>qQ 0 1 false 13 x_25.1 1 0 x_34 h_34 (.bool x_34) (by rfl) (aI 1)) (aI 3)) λx_35=>br 2 12 [13,17,155] 167 (aK 2 155 (gL 0 .i64 13 λx_36 h_36=>qQ 0 1 false 13 x_25.1 3 0 x_36 h_36 (.bool x_36) (by rfl) (br 2 7 [13,17,159] 166 (dB 2 159 (gL 0 .i64 13 λx_37 h_37=>qQ 0 1 false 13 x_25.1 1 0 x_37 h_37 (.bool x_37) (by rfl) (br 1 3 [17,162] 165 (aK 1 162 (gL 0 .i64 17 λx_38 h_38=>qQ 0 1 false 17 x_27.1 0 0 x_38 h_38 (.bool x_38) (by rfl) (aI 1)) (aI 3)) λx_39=>aI 1)) (aI 7)) λx_40=>aI 1)) (aI 12)) λx_41=>ah))) (λeW2=>ah))) (br 7 4 [16,108] 112 (aK 7 108 (aI 4) (aI 4)) λx_30=>br 1 4 [12,18,113] 117 (aK 1 113 (aI 4) (aI 4)) λx_31=>ah))))))))))))) ah))
end
end Go.VE
