/-
 Each function of the program that the law reaches: its plain form, and that it comes to that.
-/
import Derived.Test.YtmkkeeoahodfhaaGreatDoorK1
import Derived.Test.YtmkkeeoahodfhaaGreatDoorT1
set_option linter.all false
namespace Go.VE
structure Assign where
 var:Int
 value:Int
 deriving Inhabited
instance:bt Assign where
 cells x:=[.int .i64 x.var,.int .i64 x.value]
 agg:=true
 size:=2
 len _:=rfl
 good x:=by simp only[V.cq,V.good,gY,Bool.and_self]
 one x:=by simp only[List.all_cons,List.all_nil,mF,kH,mD,kL,Bool.and_self]
 plain h:=by cases h
structure Event where
 kind:Int
 peer:Int
 message:Int
 time:Int
 assign:Sl Assign
 deriving Inhabited
instance:bt Event where
 cells x:=[.int .i64 x.kind,.int .i64 x.peer,.int .i64 x.message,.int .i64 x.time,enc x.assign]
 agg:=true
 size:=5
 len _:=rfl
 good x:=by simp only[V.cq,V.good,gY,Bool.and_self]
 one x:=by simp only[List.all_cons,List.all_nil,mF,kH,mD,kL,Bool.and_self]
 plain h:=by cases h
structure Var where
 name:ByteArray
 init_:Int
 deriving Inhabited
instance:bt Var where
 cells x:=[.str x.name,.int .i64 x.init_]
 agg:=true
 size:=2
 len _:=rfl
 good x:=by simp only[V.cq,V.good,gY,Bool.and_self]
 one x:=by simp only[List.all_cons,List.all_nil,mF,kH,mD,kL,Bool.and_self]
 plain h:=by cases h
structure cm where
 name:ByteArray
 vars:Sl Var
 events:Sl Event
 deriving Inhabited
instance:bt cm where
 cells x:=[.str x.name,enc x.vars,enc x.events]
 agg:=true
 size:=3
 len _:=rfl
 good x:=by simp only[V.cq,V.good,gY,Bool.and_self]
 one x:=by simp only[List.all_cons,List.all_nil,mF,kH,mD,kL,Bool.and_self]
 plain h:=by cases h
structure Trace where
 procs:Sl cm
 deriving Inhabited
instance:bt Trace where
 cells x:=[enc x.procs]
 agg:=true
 size:=1
 len _:=rfl
 good x:=by simp only[V.cq,V.good,gY,Bool.and_self]
 one x:=by simp only[List.all_cons,List.all_nil,mF,kH,mD,kL,Bool.and_self]
 plain h:=by cases h
structure Span where
 proc:Int
 from_:Int
 to_:Int
 deriving Inhabited
instance:bt Span where
 cells x:=[.int .i64 x.proc,.int .i64 x.from_,.int .i64 x.to_]
 agg:=true
 size:=3
 len _:=rfl
 good x:=by simp only[V.cq,V.good,gY,Bool.and_self]
 one x:=by simp only[List.all_cons,List.all_nil,mF,kH,mD,kL,Bool.and_self]
 plain h:=by cases h
structure Answer where
 mode:Int
 holds:Bool
 kind:Int
 cut:Sl Int
 cuts:Sl (Sl Int)
 run:Sl (Sl Int)
 spans:Sl Span
 value:Int
 deriving Inhabited
instance:bt Answer where
 cells x:=[.int .i64 x.mode,.bool x.holds,.int .i64 x.kind,enc x.cut,enc x.cuts,enc x.run,enc x.spans,.int .i64 x.value]
 agg:=true
 size:=8
 len _:=rfl
 good x:=by simp only[V.cq,V.good,gY,Bool.and_self]
 one x:=by simp only[List.all_cons,List.all_nil,mF,kH,mD,kL,Bool.and_self]
 plain h:=by cases h
structure bz where
 from_:aY
 to_:aY
 deriving Inhabited
instance:bt bz where
 cells x:=[.int .i64 x.from_.proc,.int .i64 x.from_.index,.int .i64 x.to_.proc,.int .i64 x.to_.index]
 agg:=true
 size:=4
 len _:=rfl
 good x:=by simp only[V.cq,V.good,gY,Bool.and_self]
 one x:=by simp only[List.all_cons,List.all_nil,mF,kH,mD,kL,Bool.and_self]
 plain h:=by cases h
structure b7 where
 lengths:Sl Int
 need:Sl (Sl aY)
 deriving Inhabited
instance:bt b7 where
 cells x:=[enc x.lengths,enc x.need]
 agg:=true
 size:=2
 len _:=rfl
 good x:=by simp only[V.cq,V.good,gY,Bool.and_self]
 one x:=by simp only[List.all_cons,List.all_nil,mF,kH,mD,kL,Bool.and_self]
 plain h:=by cases h
structure bG where
 list:Sl (Sl Int)
 index:NV (bP 8 Int) Int
 next:Sl (Sl Int)
 deriving Inhabited
instance:bt bG where
 cells x:=[enc x.list,enc x.index,enc x.next]
 agg:=true
 size:=3
 len _:=rfl
 good x:=by simp only[V.cq,V.good,gY,Bool.and_self]
 one x:=by simp only[List.all_cons,List.all_nil,mF,kH,mD,kL,G8,Bool.and_self]
 plain h:=by cases h
def gP (p:Int):Int->List Event->List (aY×Event)
 | _,[]=>[]
 | j,e::r=>(⟨p,j+1⟩,e)::gP p (j+1) r
def eS:Int->List cm->List (aY×Event)
 | _,[]=>[]
 | i,p::r=>gP i 0 p.events.l++eS (i+1) r
def D3 (n:Nat):Bool:=decide (n<9223372036854775807)
def iz (t:Trace):Option (List (aY×Event)):=
 if D3 t.procs.l.length&&t.procs.l.all λp=>D3 p.events.l.length then some (eS 0 t.procs.l)else none
end Go.VE
namespace Go.VE
def Ih:List (Nat×GD):=[
 (105,⟨0x22226260002000201,[],[(6,[.keep [0,1,7,8] []],[.keep [0,1,7,8] []]),(12,[.keep [] []],[]),(22,[.keep [4] []],[]),(27,[.keep [4] []],[])]⟩),
 (57,⟨0x226221,[],[]⟩),
 (77,⟨0x2222212,[],[]⟩),
 (124,⟨0x22226260002000201,[],[(6,[.keep [0,1,7,8] []],[.keep [0,1,7,8] []]),(12,[.keep [] []],[]),(22,[.keep [4] []],[]),(27,[.keep [4] []],[])]⟩),
 (78,⟨0x226221,[],[]⟩),
 (79,⟨0x2222212,[],[]⟩),
 (28,⟨0x222222206444264402644402644402600262202202000020012,[],[(8,[.keep [1,2,5,9,10,11] [2]],[.keep [1,2,5,9,10,11] [2]]),(14,[.keep [2] [2]],[]),(26,[.keep [4] []],[]),(31,[.keep [4] []],[])]⟩),
 (192,⟨0x26c4444026402201,[],[]⟩),
 (193,⟨0x26442201,[],[]⟩),
 (157,⟨0x222064c002644c00222600620000644402644022201,[],[(8,[.keep [2] []],[]),(14,[.keep [0,3] []],[.keep [0,3] []]),(20,[.keep [] []],[]),(28,[.keep [2] []],[]),(33,[.keep [2] []],[])]⟩),
 (158,⟨0x26442201,[],[]⟩),
 (113,⟨0x2222222022226020222062260202260206000022226020622000022202220620226020600002220202602012,[],[(10,[.keep [4] []],[]),(16,[.keep [1,2,5,6] [2,5]],[.keep [1,2,5,6] [2,5]]),(22,[.keep [5] [5]],[]),(30,[.keep [4] []],[]),(39,[.keep [4] []],[]),(45,[.keep [5,7] [5]],[.keep [5,7] [5]]),(51,[.keep [5] [5]],[]),(60,[.keep [4] []],[]),(66,[.keep [5,7,8] [5]],[.keep [5,7,8] [5]]),(72,[.keep [5,7] [5]],[]),(80,[.keep [4] []],[]),(88,[.keep [4] []],[]),(97,[.keep [4] []],[]),(101,[.keep [4] []],[])]⟩),
 (114,⟨0x2222220620226020600006444026c444c04040222020260206220000222006cc44c4444c04040440264402220064402644026c04026c44040264402644022200644022202202026022602012,[],[(13,[.keep [6] []],[]),(20,[.keep [6] []],[]),(22,[.keep [1,2,3,7] [3,7]],[]),(28,[.keep [6] []],[]),(36,[.keep [6] []],[]),(42,[.keep [1,3,7,8] [3,7]],[.keep [1,3,7,8] [3,7]]),(48,[.keep [] []],[]),(59,[.keep [6] []],[]),(64,[.keep [1,3,7,8,9,10] [3,7,9]],[.keep [1,3,7,8,9,10] [3,7,9]]),(70,[.keep [1,3,7,8] [3,7]],[]),(78,[.keep [6] []],[]),(84,[.keep [6] []],[])]⟩),
 (159,⟨0x2262222262022022,[],[]⟩),
 (160,⟨0x20222222262226c0442602020260226020622260200062200002,[],[(6,[.keep [1,2,3,6,7] [3,6]],[.keep [1,2,3,6,7] [3,6]]),(12,[.keep [6] [6]],[]),(18,[.keep [1,2,3,6,7,8] [3,6]],[.keep [1,2,3,6,7,8] [3,6]]),(24,[.keep [1,2,3,6,7] [3,6]],[]),(34,[.keep [6] [6]],[]),(40,[.keep [6] [6]],[])]⟩),
 (115,⟨0x2222226cc40444cc4040444022202602262020622262020000220060e20200022020600122,[],[(30,[.keep [2,3,5,6,7] [2,3,5]],[.keep [2,3,5,6,7] [2,3,5]]),(36,[.keep [6] []],[])]⟩),
 (116,⟨0x22206222602026006220002222203622000622262002062202202026260022602062226020260062200002222012,[],[(6,[.canon (.s 3) 2003 1,.keep [1,3] [1,2003]],[.canon (.s 3) 2003 1,.keep [1,3] [1,2003]]),(14,[.canon (.s 3) 2003 1,.keep [1,3,4,5] [1,2003]],[.canon (.s 3) 2003 1,.keep [1,3,4,5] [1,2003]]),(20,[.canon (.s 3) 2003 1,.keep [1,3,4] [1,2003]],[]),(24,[.canon (.s 3) 2003 1,.keep [1,3,4,5] [1,2003]],[.canon (.s 3) 2003 1,.keep [1,3,4,5] [1,2003]]),(30,[.canon (.s 3) 2003 1,.keep [1,3,4,5] [1,2003]],[]),(43,[.canon (.s 3) 2003 1,.keep [1,3,4,5] [1,2003]],[]),(46,[.canon (.s 3) 2003 1,.keep [1,3,5] [1,2003]],[]),(53,[.canon (.s 3) 2003 1,.keep [1,3] [1,2003]],[]),(59,[.canon (.s 3) 2003 1,.keep [1,3,8] [1,2003]],[.canon (.s 3) 2003 1,.keep [1,3,8] [1,2003]]),(65,[.keep [] []],[]),(73,[.keep [2] []],[]),(78,[.keep [2] []],[])]⟩),
 (161,⟨0x22262622222202062026262202022200122,[],[(10,[.canon (.s 5) 2005 2,.keep [2,3,5] [2,3,2005]],[])]⟩),
 (70,⟨0x202222220222620260600206200622260200062200002020222222222220260020620062226020006220002222222226222202e0006222602000622000222222222026006220000206444022220102,[],[(8,[.keep [2,3] [2]],[]),(14,[.keep [1,2,4] [1,2]],[.keep [1,2,4] [1,2]]),(20,[.keep [1,2] [1,2]],[]),(30,[.keep [2,3] [2]],[]),(37,[.keep [1,2,6] [1,2]],[.keep [1,2,6] [1,2]]),(43,[.keep [1,2] [1,2]],[]),(49,[.keep [1,2,6,7] [1,2]],[.keep [1,2,6,7] [1,2]]),(55,[.keep [1,2,6] [1,2]],[]),(65,[.keep [2,3] [2]],[]),(73,[.keep [1,2,9] [1,2]],[.keep [1,2,9] [1,2]]),(79,[.keep [1,2] [1,2]],[]),(85,[.keep [1,2,9,10] [1,2]],[.keep [1,2,9,10] [1,2]]),(91,[.keep [1,2,9] [1,2]],[]),(103,[.keep [2,3] [2]],[]),(113,[.keep [2,3] [2]],[]),(119,[.keep [1,2,13] [1,2]],[.keep [1,2,13] [1,2]]),(125,[.keep [2] [2]],[]),(131,[.keep [1,2,13,14] [1,2]],[.keep [1,2,13,14] [1,2]]),(137,[.keep [1,2,13] [1,2]],[]),(147,[.keep [2,3] [2]],[]),(153,[.keep [2,3] [2]],[])]⟩),
 (16,⟨0x2222302022212,[],[]⟩),
 (73,⟨0x2236226200026201,[],[]⟩),
 (119,⟨0x22206c444c0404c0022260062000062202012,[],[(8,[.keep [4] []],[]),(14,[.keep [1,2,5] [2]],[.keep [1,2,5] [2]]),(20,[.keep [] []],[]),(28,[.keep [4] []],[]),(33,[.keep [4] []],[])]⟩),
 (120,⟨0x2222220626220202062202202026022602062600006200012,[],[(6,[.keep [1,2,5] [2]],[.keep [1,2,5] [2]]),(12,[.keep [] []],[]),(18,[.keep [1,2,5,6] [2]],[.keep [1,2,5,6] [2]]),(24,[.keep [1,2,5] [2]],[]),(39,[.keep [4] []],[]),(46,[.keep [4] []],[])]⟩),
 (72,⟨0x26c44260012,[],[]⟩),
 (20,⟨0x2222226260026cc000262226020260062000012,[],[(8,[.canon (.s 5) 2005 1,.keep [1,2,5,6] [2,2005]],[.canon (.s 5) 2005 1,.keep [1,2,5,6] [2,2005]]),(14,[.canon (.s 5) 2005 1,.keep [5] [2005]],[])]⟩),
 (132,⟨0x2222226260026200001,[],[(8,[.keep [0,3,4] []],[.keep [0,3,4] []]),(14,[.keep [3] []],[])]⟩),
 (134,⟨0x222262622260262600260062000262222620201,[],[(8,[.keep [4] []],[]),(14,[.keep [0,1,5] []],[.keep [0,1,5] []]),(20,[.keep [] []],[]),(28,[.keep [4] []],[]),(33,[.keep [4] []],[])]⟩),
 (74,⟨0x2220626002600620000620201,[],[(8,[.keep [4] []],[]),(14,[.keep [0,1,5] []],[.keep [0,1,5] []]),(20,[.keep [] []],[]),(28,[.keep [4] []],[]),(33,[.keep [4] []],[])]⟩),
 (91,⟨0x26622226222266000226c04c00262002226c04c002620001,[],[(6,[.keep [0,1,5] []],[.keep [0,1,5] []]),(12,[.keep [0,1,5] []],[])]⟩),
 (42,⟨0x222222222226260026200026260006200000022026022200222220112,[(7,[.closeS (.s 13)])],[(8,[.closeS (.s 4),.canon (.s 5) 2005 1,.keep [1,4,5] [1,2005]],[.closeS (.s 4),.canon (.s 5) 2005 1,.keep [1,4,5] [1,2005]]),(14,[.canon (.s 5) 2005 1,.keep [5] [2005]],[]),(24,[.canon (.s 2) 2002 1,.keep [2,3] [2002]],[]),(32,[.closeS (.s 4),.canon (.s 5) 2005 1,.keep [1,4,5,6,7] [1,2005]],[.closeS (.s 4),.canon (.s 5) 2005 1,.keep [1,4,5,6,7] [1,2005]]),(38,[.canon (.s 5) 2005 1,.keep [1,5,6] [1,2005]],[]),(46,[.closeS (.s 4),.canon (.s 5) 2005 1,.keep [1,4,5,6,7,8,9] [1,2005]],[.closeS (.s 4),.canon (.s 5) 2005 1,.keep [1,4,5,6,7,8,9] [1,2005]]),(52,[.closeS (.s 4),.canon (.s 5) 2005 1,.keep [1,4,5,6,7] [1,2005]],[]),(61,[.canon (.s 2) 2002 1,.keep [2,3] [2002]],[])]⟩),
 (30,⟨0x2644422222022212,[],[]⟩),
 (148,⟨0x26c4426201,[],[]⟩),
 (216,⟨0x26c4444026402201,[],[]⟩),
 (217,⟨0x26442201,[],[]⟩),
 (178,⟨0x22064c402644c00222600200020064440264402201,[],[(8,[.keep [2] []],[]),(14,[.keep [0,18,19] []],[.keep [0,18,19] []]),(20,[.keep [] []],[]),(30,[.keep [2] []],[]),(35,[.keep [2] []],[])]⟩),
 (179,⟨0x26222212,[],[]⟩),
 (104,⟨0x22226260002000201,[],[(6,[.keep [0,1,7,8] []],[.keep [0,1,7,8] []]),(12,[.keep [] []],[]),(22,[.keep [4] []],[]),(27,[.keep [4] []],[])]⟩),
 (55,⟨0x226221,[],[]⟩),
 (180,⟨0x26222212,[],[]⟩),
 (149,⟨0x222222022222026c0c4402222022020000020022220026c0c44422220202602012,[],[(11,[.keep [4] []],[]),(17,[.keep [4] []],[]),(23,[.keep [5,32,33,34] [5]],[.keep [5,32,33,34] [5]]),(29,[.keep [5] [5]],[]),(40,[.keep [4] []],[]),(46,[.keep [4] []],[]),(55,[.keep [4] []],[]),(59,[.keep [4] []],[])]⟩),
 (150,⟨0x2212,[],[]⟩),
 (182,⟨0x2644426c4402622222022202644422202020122,[],[(18,[.keep [1,3,5,19] [3,5]],[])]⟩),
 (184,⟨0x26222212,[],[]⟩),
 (218,⟨0x22226260002000201,[],[(6,[.keep [0,1,7,8] []],[.keep [0,1,7,8] []]),(12,[.keep [] []],[]),(22,[.keep [4] []],[]),(27,[.keep [4] []],[])]⟩),
 (183,⟨0x226221,[],[]⟩),
 (151,⟨0x2202626220026444022622202022020000020022220026c44022220022e02222226220202200202620201222,[],[(12,[.keep [3,4,5,7,8] [3,4,5,7]],[]),(19,[.keep [6] []],[]),(25,[.keep [6] []],[]),(31,[.keep [6] []],[]),(37,[.keep [5,7,52,53,54] [5,7]],[.keep [5,7,52,53,54] [5,7]]),(43,[.keep [] []],[]),(54,[.keep [6] []],[]),(60,[.keep [6] []],[]),(65,[.keep [6] []],[])]⟩),
 (219,⟨0x26c44426c440222012,[],[]⟩),
 (185,⟨0x2662262221222,[],[]⟩),
 (152,⟨0x2202326222002202001ef200220022022226200223262220022022226200202022020202020200002,[],[(8,[.keep [1,2,3,4,5,12] [1,2,3,4,5,10]],[.keep [] [1,2,3,4,5,10]]),(27,[.keep [] [1,2,3,4,5,10]],[]),(39,[.keep [] [1,2,3,4,5,10]],[]),(47,[.keep [] [1,2,3,4,5,10]],[]),(53,[.keep [2,3,4] [2,3,4,10]],[])]⟩),
 (186,⟨0x222622262222264444c4400222020262222262622020262020222620220122,[],[(12,[.canon (.s 7) 2007 2,.keep [1,5,7,8] [5,2007]],[])]⟩),
 (153,⟨0x20222622230026000226002020000e200262220202622002202202020200022,[],[(6,[.keep [2,3,4,5,13] [2,3,4,5]],[.keep [] [2,3,4,5]]),(14,[.canon (.s 8) 2008 2,.keep [2,3,4,5,6,7,8,13] [2,3,4,5,6,16,2008]],[.canon (.s 8) 2008 2,.keep [2,3,4,5,6,7,8,13] [2,3,4,5,6,16,2008]]),(20,[.keep [2,3,4,5,13] [2,3,4,5]],[]),(29,[.canon (.s 8) 2008 2,.keep [2,3,4,5,6,7,8,13,36,37,38] [2,3,4,5,6,16,2008]],[.canon (.s 8) 2008 2,.keep [2,3,4,5,6,7,8,13,36,37,38] [2,3,4,5,6,16,2008]]),(35,[.canon (.s 8) 2008 2,.keep [2,3,4,5,6,7,8,13] [2,3,4,5,6,16,2008]],[]),(46,[.keep [] [2,3,4,5]],[]),(58,[.keep [4,5] [4,5]],[])]⟩),
 (106,⟨0x20022222020262222222022202002202222202e2002020202222222202600200022002022220002,[],[(8,[.keep [2,3] [2,3]],[]),(14,[.keep [1,2,3,22,23] [1,2,3]],[.keep [1,2,3,22,23] [1,2,3]]),(20,[.keep [1,2,3] [1,2,3]],[]),(32,[.keep [2,3] [2,3]],[]),(39,[.keep [1,2,3,36] [1,2,3]],[.keep [] [1,2,3]]),(51,[.keep [] [1,2,3]],[]),(61,[.keep [2,3] [2,3]],[]),(71,[.keep [2,3] [2,3]],[]),(75,[.keep [2,3] [2,3]],[])]⟩),
 (59,⟨0x2222302022212,[],[]⟩),
 (222,⟨0x200226c0442602020202202022000222,[],[(8,[.keep [6,7] [6,7]],[]),(14,[.keep [4,5,6,7,15] [4,5,6,7]],[.keep [] [4,5,6,7]]),(24,[.keep [] [4,5,6,7]],[]),(28,[.keep [6,7] [6,7]],[])]⟩),
 (191,⟨0x2220622102,[],[]⟩),
 (162,⟨0x2222306222030622222022262222302622022002020000200202000020002,[(53,[.closeS (.s 49)]),(59,[.closeS (.c 3 0),.closeS (.c 3 1)])],[(8,[.canon (.c 3 0) 4060 1,.canon (.c 3 1) 4061 1,.keep [1,2,3,11,12,13] [1,2,3,4060,4061]],[.canon (.c 3 0) 4060 1,.canon (.c 3 1) 4061 1,.keep [1,2,3,11,12,13] [1,2,3,4060,4061]]),(14,[.canon (.c 3 0) 4060 1,.canon (.c 3 1) 4061 1,.keep [2,3] [2,3,4060,4061]],[]),(25,[.canon (.s 6) 2006 2,.canon (.c 3 0) 4060 1,.canon (.c 3 1) 4061 1,.keep [1,2,3,5,6,11,12,13,18,19,20] [1,2,3,5,2006,4060,4061]],[.canon (.s 6) 2006 2,.canon (.c 3 0) 4060 1,.canon (.c 3 1) 4061 1,.keep [1,2,3,5,6,11,12,13,18,19,20] [1,2,3,5,2006,4060,4061]]),(31,[.canon (.s 6) 2006 2,.canon (.c 3 0) 4060 1,.canon (.c 3 1) 4061 1,.keep [1,2,3,5,6,11,12,13] [1,2,3,5,2006,4060,4061]],[]),(44,[.canon (.s 6) 2006 2,.canon (.c 3 0) 4060 1,.canon (.c 3 1) 4061 1,.keep [1,2,3,5,6,9,11,12,13,18,19,20] [1,2,3,5,9,2006,4060,4061]],[])]⟩),
 (194,⟨0x26262222020262620260220626020260012,[],[]⟩),
 (85,⟨0x26200201,[],[(8,[.canon (.s 2) 4004 1],[]),(12,[.canon (.s 2) 4004 1],[])]⟩),
 (246,⟨0x26201,[],[]⟩),
 (225,⟨0x62206000200222202201,[],[]⟩),
 (197,⟨0x62222222220262222620062002220000001,[],[(6,[.keep [0,1,9,10,11] []],[.keep [0,1,9,10,11] []]),(12,[.keep [0,1] []],[]),(23,[.keep [4] []],[]),(34,[.keep [4] []],[]),(43,[.keep [4] []],[]),(47,[.keep [4] []],[])]⟩),
 (196,⟨0x26221,[],[]⟩),
 (39,⟨0x2206262026002000200620201,[],[(8,[.keep [4] []],[]),(14,[.keep [0,1,12,13] []],[.keep [0,1,12,13] []]),(20,[.keep [] []],[]),(30,[.keep [4] []],[]),(35,[.keep [4] []],[])]⟩),
 (199,⟨0x26221,[],[]⟩),
 (163,⟨0x222302222262223622020220e0002000202200002012,[(32,[.closeS (.s 34)])],[(8,[.canon (.s 5) 2005 1,.keep [2,5,10,11,12] [2,2005]],[.canon (.s 5) 2005 1,.keep [2,5,10,11,12] [2,2005]]),(14,[.canon (.s 5) 2005 1,.keep [5] [2005]],[]),(22,[.canon (.s 5) 2005 1,.keep [2,5,7,10,11,12,17,18] [2,2005]],[.canon (.s 5) 2005 1,.keep [2,5,7,10,11,12,17,18] [2,2005]]),(28,[.canon (.s 5) 2005 1,.keep [2,5,10,11,12] [2,2005]],[])]⟩),
 (118,⟨0x2226202620200202620222000222222202000220112,[(16,[.closeS (.s 16)])],[(8,[.canon (.s 2) 2002 1,.keep [2,3] [2002]],[]),(20,[.closeS (.s 5),.canon (.s 6) 2006 1,.keep [4,5,6,7] [4,2006]],[.closeS (.s 5),.canon (.s 6) 2006 1,.keep [4,5,6,7] [4,2006]]),(26,[.canon (.s 6) 2006 1,.keep [6] [2006]],[]),(37,[.canon (.s 2) 2002 1,.keep [2,3] [2002]],[]),(43,[.canon (.s 2) 2002 1,.keep [2,3] [2002]],[])]⟩),
 (71,⟨0x222222220222112,[],[]⟩),
 (17,⟨0x222022112,[],[]⟩),
 (82,⟨0x2222322622222002226222222202622220342202202020002002200002227222222022200000022600202202220222112,[(75,[.keep [6,10,11,14,43,44,45,50,51,52,70] [25,27,2011,4542]]),(88,[.closeS (.s 81)])],[(18,[.keep [4,6,28,29,30] [25,27]],[.keep [4,6,28,29,30] [25,27]]),(24,[.keep [4,6] [25,27]],[]),(35,[.canon (.c 27 2) 4542 1,.keep [6,43,44,45] [25,27,4542]],[.canon (.c 27 2) 4542 1,.keep [6,43,44,45] [25,27,4542]]),(41,[.canon (.c 27 2) 4542 1,.keep [6] [25,27,4542]],[]),(52,[.canon (.s 11) 2011 1,.canon (.c 27 2) 4542 1,.keep [6,10,11,43,44,45,50,51] [25,27,2011,4542]],[.canon (.s 11) 2011 1,.canon (.c 27 2) 4542 1,.keep [6,10,11,43,44,45,50,51] [25,27,2011,4542]]),(58,[.canon (.s 11) 2011 1,.canon (.c 27 2) 4542 1,.keep [6,11,43,44,45] [25,27,2011,4542]],[])]⟩),
 (84,⟨0x2222221620220000262222000262222200262222226002226002220000022200120222222011,[(39,[.closeS (.s 43)])],[(12,[.canon (.s 6) 2006 1,.canon (.s 7) 2007 1,.keep [0,1,6,7,23,24,25] [2006,2007]],[.canon (.s 6) 2006 1,.canon (.s 7) 2007 1,.keep [0,1,6,7,23,24,25] [2006,2007]]),(18,[.canon (.s 7) 2007 1,.keep [7] [2007]],[]),(40,[.canon (.s 4) 2004 1,.keep [4,5] [2004]],[]),(45,[.canon (.s 6) 2006 1,.canon (.s 7) 2007 1,.keep [0,1,6,7,23,24,25,61,62,63] [2006,2007]],[.canon (.s 6) 2006 1,.canon (.s 7) 2007 1,.keep [0,1,6,7,23,24,25,61,62,63] [2006,2007]]),(51,[.canon (.s 6) 2006 1,.canon (.s 7) 2007 1,.keep [0,1,6,7,23,24,25] [2006,2007]],[]),(61,[.canon (.s 4) 2004 1,.keep [4,5] [2004]],[])]⟩),
 (41,⟨0x220022222026220062222020202202220222112,[],[]⟩),
 (43,⟨0x222222622600226006200001,[],[(8,[.canon (.s 5) 2005 1,.keep [0,1,5,6] [2005]],[.canon (.s 5) 2005 1,.keep [0,1,5,6] [2005]]),(14,[.canon (.s 5) 2005 1,.keep [5] [2005]],[])]⟩),
 (88,⟨0x2220626002600620000620201,[],[(8,[.keep [4] []],[]),(14,[.keep [0,1,5] []],[.keep [0,1,5] []]),(20,[.keep [] []],[]),(28,[.keep [4] []],[]),(33,[.keep [4] []],[])]⟩),
 (131,⟨0x2220602600620001,[],[(6,[.keep [0,1,5] []],[.keep [0,1,5] []]),(12,[.keep [] []],[]),(20,[.keep [4] []],[]),(25,[.keep [4] []],[])]⟩),
 (135,⟨0x262226222260212,[],[]⟩),
 (136,⟨0x26262222020622202202026222622012,[],[]⟩),
 (92,⟨0x22222262026003cf4c000002e00062000012,[],[(8,[.canon (.s 5) 2005 1,.keep [1,2,5,6] [2,2005]],[.canon (.s 5) 2005 1,.keep [1,2,5,6] [2,2005]]),(14,[.canon (.s 5) 2005 1,.keep [5] [2005]],[])]⟩),
 (93,⟨0x22362202026201,[],[]⟩),
 (21,⟨0x22222602600620001,[],[(6,[.keep [0,1,5] []],[.keep [0,1,5] []]),(12,[.keep [] []],[]),(20,[.keep [4] []],[]),(25,[.keep [4] []],[])]⟩),
 (133,⟨0x2222226222260202622000012,[],[(8,[.canon (.s 3) 2003 1,.keep [1,3,4] [1,2003]],[.canon (.s 3) 2003 1,.keep [1,3,4] [1,2003]]),(14,[.canon (.s 3) 2003 1,.keep [3] [2003]],[])]⟩),
 (87,⟨0x222620222222266000262600062000260062202022022200022202222221600266626002600006200026260001600622006260002022202220112,[],[(8,[.canon (.s 8) 2008 1,.keep [1,2,3,8,9] [3,2008]],[.canon (.s 8) 2008 1,.keep [1,2,3,8,9] [3,2008]]),(14,[.canon (.s 8) 2008 1,.keep [1,3,8] [3,2008]],[]),(29,[.canon (.s 8) 2008 1,.keep [1,2,3,8,9] [3,2008]],[]),(34,[.canon (.s 8) 2008 1,.keep [1,2,3,8,9,10,11] [3,2008]],[.canon (.s 8) 2008 1,.keep [1,2,3,8,9,10,11] [3,2008]]),(40,[.canon (.s 8) 2008 1,.keep [1,2,3,8,9] [3,2008]],[]),(64,[.canon (.s 8) 2008 1,.canon (.s 13) 2013 1,.keep [1,3,8,12,13] [3,2008,2013]],[.canon (.s 8) 2008 1,.canon (.s 13) 2013 1,.keep [1,3,8,12,13] [3,2008,2013]]),(70,[.canon (.s 13) 2013 1,.keep [13] [2013]],[]),(78,[.canon (.s 8) 2008 1,.canon (.s 13) 2013 1,.keep [1,3,8,12,13,14,15] [3,2008,2013]],[.canon (.s 8) 2008 1,.canon (.s 13) 2013 1,.keep [1,3,8,12,13,14,15] [3,2008,2013]]),(84,[.canon (.s 8) 2008 1,.canon (.s 13) 2013 1,.keep [1,3,8,12,13] [3,2008,2013]],[]),(94,[.canon (.s 8) 2008 1,.canon (.s 13) 2013 1,.keep [1,3,8,12,13] [3,2008,2013]],[])]⟩),
 (34,⟨0x22223202e22212,[],[]⟩),
 (94,⟨0x2220626002600620000620201,[],[(8,[.keep [4] []],[]),(14,[.keep [0,1,5] []],[.keep [0,1,5] []]),(20,[.keep [] []],[]),(28,[.keep [4] []],[]),(33,[.keep [4] []],[])]⟩),
 (44,⟨0x222222622600264c002260062000022222222216006026006200220262600260062000262600064c0022260062000120222012,[],[(10,[.canon (.s 7) 2007 1,.keep [1,2,3,7,8] [3,2007]],[.canon (.s 7) 2007 1,.keep [1,2,3,7,8] [3,2007]]),(16,[.canon (.s 7) 2007 1,.keep [1,2,7] [2007]],[]),(30,[.canon (.s 7) 2007 1,.keep [1,2,3,7,8,9,10] [3,2007]],[.canon (.s 7) 2007 1,.keep [1,2,3,7,8,9,10] [3,2007]]),(36,[.canon (.s 7) 2007 1,.keep [1,2,3,7,8] [3,2007]],[]),(44,[.canon (.s 7) 2007 1,.keep [1,2,3,7,8,9,10,11,12] [3,2007]],[.canon (.s 7) 2007 1,.keep [1,2,3,7,8,9,10,11,12] [3,2007]]),(50,[.canon (.s 7) 2007 1,.keep [1,2,3,7,8,9,10] [3,2007]],[]),(67,[.canon (.s 7) 2007 1,.canon (.s 13) 2013 1,.keep [1,2,7,13,14] [2007,2013]],[.canon (.s 7) 2007 1,.canon (.s 13) 2013 1,.keep [1,2,7,13,14] [2007,2013]]),(73,[.canon (.s 13) 2013 1,.keep [13] [2013]],[])]⟩),
 (35,⟨0x22202626002600620000620201,[],[(8,[.keep [4] []],[]),(14,[.keep [0,1,5] []],[.keep [0,1,5] []]),(20,[.keep [] []],[]),(28,[.keep [4] []],[]),(33,[.keep [4] []],[])]⟩),
 (7,⟨0x264426e22222644222222e600002644222226202032202202644222222022202600206c440440264402644022012,[],[]⟩)]
end Go.VE
namespace Go.VE
namespace trace_events_c1
def zT:List RO:=[o1 20 (.s 18) [],o2 21 (ix 5) [.s 16,.s 18] [],o2 22 (lD 5) [.s 21] [21],o2 6 (.a (.alloc 5 [.int .i64 0,.int .i64 0,.int .i64 0,.int .i64 0,.bB])) [] [],o1 5 (.s 20) [20],oz (.l (.store 5)) [.s 6,.s 22] [22]]
def xe:List RO:=[o1 23 (.s 0) [],o1 24 (.s 3) [],o1 25 (.s 5) [5],o2 26 (bI .add) [.s 25,.k (.int .i64 1)] [25],o2 27 (.p (.build [.int .i64 0,.int .i64 0] [(0,1),(1,1)])) [.s 24,.s 26] [24,26],o2 28 (lD 5) [.s 6] [6],
 o2 29 .c [.s 23,.s 27,.s 28] [23,27,28],o2 30 (.p .not) [.s 29] [29]]
def uM:List RO:=[o2 31 (bI .add) [.s 18,.k (.int .i64 1)] [],o1 18 (.s 31) [31]]
def CA:RC:=.hg (.seq (.ops [o2 19 (bI .lss) [.s 18,.s 17] []]) (.seq (.cond (.s 19) .skip (.exit 2)) (.seq (.block 3 (.seq (.ops zT) (.seq (.ops xe) (.cond (.s 30) .ret .skip)))) (.ops uM)))) (.keep [0,3,8,9,10,16,17,18] [])
def Ho:List RO:=[o1 12 (.s 10) [],o2 13 (ix 3) [.s 8,.s 10] [],o2 14 (lD 3) [.s 13] [13],o2 4 (.a (.alloc 3 [.str ByteArray.empty,.bB,.bB])) [] [],o1 3 (.s 12) [12],oz (.l (.store 3)) [.s 4,.s 14] [14]]
def Fa:List RO:=[o2 15 (fa 2) [.s 4] [],o2 16 (ld 1) [.s 15] [15],o2 17 ln [.s 16] [],o1 18 (.k (.int .i64 0)) []]
def CJ:List RO:=[o2 32 (bI .add) [.s 10,.k (.int .i64 1)] [],o1 10 (.s 32) [32]]
def U2:RC:=.block 2 (.gh (.keep [0,3,8,9,10,16,17,18] []) (.loop CA))
def Kd:RC:=.hg (.seq (.ops [o2 11 (bI .lss) [.s 10,.s 9] []]) (.seq (.cond (.s 11) .skip (.exit 0)) (.seq (.block 1 (.seq (.ops Ho) (.seq (.ops Fa) U2))) (.ops CJ)))) (.keep [0,8,9,10] [])
def Qa:List RO:=[o2 7 (fa 0) [.s 1] [1],o2 8 (ld 1) [.s 7] [7],o2 9 ln [.s 8] [],o1 10 (.k (.int .i64 0)) []]
def U1:RC:=.block 0 (.gh (.keep [0,8,9,10] []) (.loop Kd))
def text:RF:=⟨33,[],.seq (.ops Qa) U1⟩
section
variable {S:Sys}
abbrev I1 (ps:Sl cm) (i:Int) (B:List (List V)) (more:Bool) (y:Nat):St:=⟨[(0,.yl y),Cv 8 ps,Iv 9 (len ps),Iv 10 i],[],[],B,more,y⟩
abbrev I2 (ps:Sl cm) (i:Int) (es:Sl Event) (j:Int) (B:List (List V)) (more:Bool) (y:Nat):St:=⟨[(0,.yl y),Iv 3 i,Cv 8 ps,Iv 9 (len ps),Iv 10 i,Cv 16 es,Iv 17 (len es),Iv 18 j],[],[],B,more,y⟩
abbrev S2 (ps:Sl cm) (i:Int) (es:Sl Event) (j:Int) (b:Bool) (B:List (List V)) (more:Bool) (y:Nat):St:=⟨[(0,.yl y),Iv 3 i,Cv 8 ps,Iv 9 (len ps),Iv 10 i,Cv 16 es,Iv 17 (len es),Iv 18 j,Bv 19 b],[],[],B,more,y⟩
theorem RE (ps:Sl cm) (i:Int) (es:Sl Event) (j:Int) (B:List (List V)) (more:Bool) (y:Nat) (D:decide (j<len es)=false) :
 rn S.bare lX some (.rc CA) [] (I2 ps i es j B more y)=some (.exit 2,S2 ps i es j false B more y):=by
 refine Le.get ?_;refine Kf (n:=7) (fo':=.rc (.cond (.s 19) .skip (.exit 2))) (fs':=[.seq (.seq (.block 3 (.seq (.ops zT) (.seq (.ops xe) (.cond (.s 30) .ret .skip)))) (.ops uM)),.gst (.keep [0,3,8,9,10,16,17,18] [])]) (λb=>S2 ps i es j b B more y) D (by kernel_rfl) ?_
 exact Le.of_eq (by kernel_rfl)
theorem SZ (ps:Sl cm) (i:Int) (es:Sl Event) (j:Int) (e:Event) (B:List (List V)) (more:Bool) (y:Nat) (G:decide (j<len es)=true) (D:idx es j=some e) (J:(!(more || !B.isEmpty))=false) :
 rn S.bare lX some (.rc CA) [] (I2 ps i es j ([enc (⟨i,IntKind.wrap .i64 (j+1)⟩:aY),enc e]::B) more y)=some (.norm,I2 ps i es (IntKind.wrap .i64 (j+1)) B more y):=by
 refine Le.get ?_;refine Kt (n:=7) (fo':=.rc (.cond (.s 19) .skip (.exit 2))) (fs':=[.seq (.seq (.block 3 (.seq (.ops zT) (.seq (.ops xe) (.cond (.s 30) .ret .skip)))) (.ops uM)),.gst (.keep [0,3,8,9,10,16,17,18] [])]) (λb=>S2 ps i es j b ([enc (⟨i,IntKind.wrap .i64 (j+1)⟩:aY),enc e]::B) more y) G (by kernel_rfl) ?_
 refine Nc D ?_;refine Ng 8 false [] (zT.drop 1) [.seq (.seq (.ops xe) (.cond (.s 30) .ret .skip)),.blk 3,.seq (.ops uM),.gst (.keep [0,3,8,9,10,16,17,18] [])] ⟨[(0,.yl y),Iv 3 i,Cv 8 ps,Iv 9 (len ps),Iv 10 i,Cv 16 es,Iv 17 (len es),Iv 18 j,Bv 19 true,Iv 20 j],[],[],([enc (⟨i,IntKind.wrap .i64 (j+1)⟩:aY),enc e]::B),more,y⟩ .i64 rfl (by kernel_rfl) λx h1=>?_
 obtain rfl:x=e:=by rw[D]at h1;cases h1;rfl
 refine Rg 1 false [] (zT.drop 3) [.seq (.seq (.ops xe) (.cond (.s 30) .ret .skip)),.blk 3,.seq (.ops uM),.gst (.keep [0,3,8,9,10,16,17,18] [])] ⟨[(0,.yl y),Iv 3 i,Cv 8 ps,Iv 9 (len ps),Iv 10 i,Cv 16 es,Iv 17 (len es),Iv 18 j,Bv 19 true,Iv 20 j,Cv 22 x],[],[],([enc (⟨i,IntKind.wrap .i64 (j+1)⟩:aY),enc x]::B),more,y⟩ [iv 0,iv 0,iv 0,iv 0,.v .bB] rfl (by simp only[bF,vD,oZ,qy,oS,qz,rU,qw,rG,o5,qo,vU,rP,rS,rN,rR,tL,tP,qt,rH,SV.cU];rfl) (by kernel_rfl) ?_
 refine Ast 1 false [] (zT.drop 5) [.seq (.seq (.ops xe) (.cond (.s 30) .ret .skip)),.blk 3,.seq (.ops uM),.gst (.keep [0,3,8,9,10,16,17,18] [])] ⟨[(0,.yl y),Iv 3 i,Cv 8 ps,Iv 9 (len ps),Iv 10 i,Cv 16 es,Iv 17 (len es),Iv 18 j,Bv 19 true,Cv 22 x,Pv 6,Iv 5 j],[Xb 6 (⟨0,0,0,0,.nil⟩:Event)],[],([enc (⟨i,IntKind.wrap .i64 (j+1)⟩:aY),enc x]::B),more,y⟩ 6 0 x [iv 0,iv 0,iv 0,iv 0,.v .bB] ((cells x).map .v) rfl (by kernel_rfl) ?_
 refine Tu (n:=10) (q:=xe.drop 6) (fs':=[.seq (.cond (.s 30) .ret .skip),.blk 3,.seq (.ops uM),.gst (.keep [0,3,8,9,10,16,17,18] [])]) (st:=⟨[(0,.yl y),Iv 3 i,Cv 8 ps,Iv 9 (len ps),Iv 10 i,Cv 16 es,Iv 17 (len es),Iv 18 j,Bv 19 true,(23,.yl y),Cv 27 (⟨i,IntKind.wrap .i64 (j+1)⟩:aY),Cv 28 x],[Xb 6 x],[],([enc (⟨i,IntKind.wrap .i64 (j+1)⟩:aY),enc x]::B),more,y⟩) (vs:=[cv (⟨i,IntKind.wrap .i64 (j+1)⟩:aY),cv x]) (by kernel_rfl) rfl (by kernel_rfl) (by kernel_rfl) rfl rfl ?_
 refine Kf (n:=3) (fo':=.rc (.cond (.s 30) .ret .skip)) (fs':=[.blk 3,.seq (.ops uM),.gst (.keep [0,3,8,9,10,16,17,18] [])]) (λb=>⟨[(0,.yl y),Iv 3 i,Cv 8 ps,Iv 9 (len ps),Iv 10 i,Cv 16 es,Iv 17 (len es),Iv 18 j,Bv 19 true,Bv 30 b],[Xb 6 x],[],B,more,y⟩) J (by kernel_rfl) ?_
 exact Le.of_eq (by kernel_rfl)
theorem PN (ps:Sl cm) (i:Int) (es:Sl Event) (j:Int) (e:Event) (B:List (List V)) (more:Bool) (y:Nat) (G:decide (j<len es)=true) (D:idx es j=some e) (J:(!(more || !B.isEmpty))=true) :
 rn S.bare lX some (.rc CA) [] (I2 ps i es j ([enc (⟨i,IntKind.wrap .i64 (j+1)⟩:aY),enc e]::B) more y)=some (.ret,⟨[(0,.yl y),Iv 3 i,Cv 8 ps,Iv 9 (len ps),Iv 10 i,Cv 16 es,Iv 17 (len es),Iv 18 j,Bv 19 true,Bv 30 true],[Xb 6 e],[],B,more,y⟩):=by
 refine Le.get ?_;refine Kt (n:=7) (fo':=.rc (.cond (.s 19) .skip (.exit 2))) (fs':=[.seq (.seq (.block 3 (.seq (.ops zT) (.seq (.ops xe) (.cond (.s 30) .ret .skip)))) (.ops uM)),.gst (.keep [0,3,8,9,10,16,17,18] [])]) (λb=>S2 ps i es j b ([enc (⟨i,IntKind.wrap .i64 (j+1)⟩:aY),enc e]::B) more y) G (by kernel_rfl) ?_
 refine Nc D ?_;refine Ng 8 false [] (zT.drop 1) [.seq (.seq (.ops xe) (.cond (.s 30) .ret .skip)),.blk 3,.seq (.ops uM),.gst (.keep [0,3,8,9,10,16,17,18] [])] ⟨[(0,.yl y),Iv 3 i,Cv 8 ps,Iv 9 (len ps),Iv 10 i,Cv 16 es,Iv 17 (len es),Iv 18 j,Bv 19 true,Iv 20 j],[],[],([enc (⟨i,IntKind.wrap .i64 (j+1)⟩:aY),enc e]::B),more,y⟩ .i64 rfl (by kernel_rfl) λx h1=>?_
 obtain rfl:x=e:=by rw[D]at h1;cases h1;rfl
 refine Rg 1 false [] (zT.drop 3) [.seq (.seq (.ops xe) (.cond (.s 30) .ret .skip)),.blk 3,.seq (.ops uM),.gst (.keep [0,3,8,9,10,16,17,18] [])] ⟨[(0,.yl y),Iv 3 i,Cv 8 ps,Iv 9 (len ps),Iv 10 i,Cv 16 es,Iv 17 (len es),Iv 18 j,Bv 19 true,Iv 20 j,Cv 22 x],[],[],([enc (⟨i,IntKind.wrap .i64 (j+1)⟩:aY),enc x]::B),more,y⟩ [iv 0,iv 0,iv 0,iv 0,.v .bB] rfl (by simp only[bF,vD,oZ,qy,oS,qz,rU,qw,rG,o5,qo,vU,rP,rS,rN,rR,tL,tP,qt,rH,SV.cU];rfl) (by kernel_rfl) ?_
 refine Ast 1 false [] (zT.drop 5) [.seq (.seq (.ops xe) (.cond (.s 30) .ret .skip)),.blk 3,.seq (.ops uM),.gst (.keep [0,3,8,9,10,16,17,18] [])] ⟨[(0,.yl y),Iv 3 i,Cv 8 ps,Iv 9 (len ps),Iv 10 i,Cv 16 es,Iv 17 (len es),Iv 18 j,Bv 19 true,Cv 22 x,Pv 6,Iv 5 j],[Xb 6 (⟨0,0,0,0,.nil⟩:Event)],[],([enc (⟨i,IntKind.wrap .i64 (j+1)⟩:aY),enc x]::B),more,y⟩ 6 0 x [iv 0,iv 0,iv 0,iv 0,.v .bB] ((cells x).map .v) rfl (by kernel_rfl) ?_
 refine Tu (n:=10) (q:=xe.drop 6) (fs':=[.seq (.cond (.s 30) .ret .skip),.blk 3,.seq (.ops uM),.gst (.keep [0,3,8,9,10,16,17,18] [])]) (st:=⟨[(0,.yl y),Iv 3 i,Cv 8 ps,Iv 9 (len ps),Iv 10 i,Cv 16 es,Iv 17 (len es),Iv 18 j,Bv 19 true,(23,.yl y),Cv 27 (⟨i,IntKind.wrap .i64 (j+1)⟩:aY),Cv 28 x],[Xb 6 x],[],([enc (⟨i,IntKind.wrap .i64 (j+1)⟩:aY),enc x]::B),more,y⟩) (vs:=[cv (⟨i,IntKind.wrap .i64 (j+1)⟩:aY),cv x]) (by kernel_rfl) rfl (by kernel_rfl) (by kernel_rfl) rfl rfl ?_
 refine Kt (n:=3) (fo':=.rc (.cond (.s 30) .ret .skip)) (fs':=[.blk 3,.seq (.ops uM),.gst (.keep [0,3,8,9,10,16,17,18] [])]) (λb=>⟨[(0,.yl y),Iv 3 i,Cv 8 ps,Iv 9 (len ps),Iv 10 i,Cv 16 es,Iv 17 (len es),Iv 18 j,Bv 19 true,Bv 30 b],[Xb 6 x],[],B,more,y⟩) J (by kernel_rfl) ?_
 exact Le.of_eq (by kernel_rfl)
abbrev S1 (ps:Sl cm) (i:Int) (b:Bool) (B:List (List V)) (more:Bool) (y:Nat):St:=⟨[(0,.yl y),Cv 8 ps,Iv 9 (len ps),Iv 10 i,Bv 11 b],[],[],B,more,y⟩
theorem Q4 (ps:Sl cm) (i:Int) (B:List (List V)) (more:Bool) (y:Nat) (D:decide (i<len ps)=false) :
 rn S.bare lX some (.rc Kd) [] (I1 ps i B more y)=some (.exit 0,S1 ps i false B more y):=by
 refine Le.get ?_;refine Kf (n:=7) (fo':=.rc (.cond (.s 11) .skip (.exit 0))) (fs':=[.seq (.seq (.block 1 (.seq (.ops Ho) (.seq (.ops Fa) U2))) (.ops CJ)),.gst (.keep [0,8,9,10] [])]) (λb=>S1 ps i b B more y) D (by kernel_rfl) ?_
 exact Le.of_eq (by kernel_rfl)
def NM:List Fm:=[.blk 2,.blk 1,.seq (.ops CJ),.gst (.keep [0,8,9,10] [])]
theorem Og (ps:Sl cm) (i:Int) (p:cm) (B:List (List V)) (more:Bool) (y:Nat) (r:Out×St) (G:decide (i<len ps)=true) (D:idx ps i=some p)
 (h:rn S.bare lX some (.rc (.loop CA)) NM (I2 ps i p.events 0 B more y)=some r):rn S.bare lX some (.rc Kd) [] (I1 ps i B more y)=some r:=by
 refine Le.get ?_;refine Kt (n:=7) (fo':=.rc (.cond (.s 11) .skip (.exit 0))) (fs':=[.seq (.seq (.block 1 (.seq (.ops Ho) (.seq (.ops Fa) U2))) (.ops CJ)),.gst (.keep [0,8,9,10] [])]) (λb=>S1 ps i b B more y) G (by kernel_rfl) ?_
 refine Nc D ?_;refine Ng 8 false [] (Ho.drop 1) [.seq (.seq (.ops Fa) U2),.blk 1,.seq (.ops CJ),.gst (.keep [0,8,9,10] [])] ⟨[(0,.yl y),Cv 8 ps,Iv 9 (len ps),Iv 10 i,Bv 11 true,Iv 12 i],[],[],B,more,y⟩ .i64 rfl (by kernel_rfl) λx h1=>?_
 obtain rfl:x=p:=by rw[D]at h1;cases h1;rfl
 refine Rg 1 false [] (Ho.drop 3) [.seq (.seq (.ops Fa) U2),.blk 1,.seq (.ops CJ),.gst (.keep [0,8,9,10] [])] ⟨[(0,.yl y),Cv 8 ps,Iv 9 (len ps),Iv 10 i,Bv 11 true,Iv 12 i,Cv 14 x],[],[],B,more,y⟩ [.v (.str ByteArray.empty),.v .bB,.v .bB] rfl (by simp only[bF,vD,oZ,qy,oS,qz,rU,qw,rG,o5,qo,vU,rP,rS,rN,rR,tL,tP,qt,rH,SV.cU];rfl) (by kernel_rfl) ?_
 refine Ast 1 false [] (Ho.drop 5) [.seq (.seq (.ops Fa) U2),.blk 1,.seq (.ops CJ),.gst (.keep [0,8,9,10] [])] ⟨[(0,.yl y),Cv 8 ps,Iv 9 (len ps),Iv 10 i,Bv 11 true,Cv 14 x,Pv 4,Iv 3 i],[Xb 4 (⟨ByteArray.empty,.nil,.nil⟩:cm)],[],B,more,y⟩ 4 0 x [.v (.str ByteArray.empty),.v .bB,.v .bB] ((cells x).map .v) rfl (by kernel_rfl) ?_
 refine Q8 6 false [] (Fa.drop 2) [.seq U2,.blk 1,.seq (.ops CJ),.gst (.keep [0,8,9,10] [])] ⟨[(0,.yl y),Cv 8 ps,Iv 9 (len ps),Iv 10 i,Bv 11 true,Pv 4,Iv 3 i,Cv 16 x.events],[Xb 4 x],[],B,more,y⟩ x.events rfl (by kernel_rfl) ?_
 refine B_ (n:=5) (fo':=.rc (.loop CA)) (fs':=NM) (st':=I2 ps i x.events 0 B more y) (by kernel_rfl) (Le.of_eq h)
theorem Pe (ps:Sl cm) (i:Int) (es:Sl Event) (j:Int) (B:List (List V)) (more:Bool) (y:Nat) :
 rn S.bare lX some (.ex 2) NM (S2 ps i es j false B more y)=some (.norm,I1 ps (IntKind.wrap .i64 (i+1)) B more y):=by kernel_rfl
theorem wrap_small (n:Nat) (h:n<9223372036854775807):IntKind.wrap .i64 ((n:Int)+1)=((n+1:Nat):Int):=by
 simp[IntKind.wrap,IntKind.bits,IntKind.signed];omega
abbrev eI (x:aY×Event):List V:=[enc x.1,enc x.2]
theorem A2.step {x:List V} {D rest:List (List V)} {more:Bool} (h:A2 D (x::rest) more):∃B,D=x::B/\((!(more || !B.isEmpty))=false/\A2 B rest more\/(!(more || !B.isEmpty))=true/\B=[]):=by
 rcases h with⟨rfl,rfl⟩|⟨rfl,t,r,hr⟩
 .exact⟨rest,rfl,.inl ⟨rfl,.inl ⟨rfl,rfl⟩⟩⟩
 .cases D with
  | nil=>exact absurd rfl t
  | cons w D=>
   simp only[List.cons_append,List.cons.injEq]at hr;obtain⟨rfl,rfl⟩:=hr;refine⟨D,rfl,?_⟩
   cases D with
   | nil=>exact .inr ⟨rfl,rfl⟩
   | cons z u=>exact .inl ⟨rfl,.inr ⟨rfl,by simp,r,rfl⟩⟩
theorem FO {α:Type} {s:Sl α} {j:Nat} {x:α} {r:List α} (h:s.l.drop j=x::r):idx s (j:Int)=some x/\decide ((j:Int)<len s)=true/\s.l.drop (j+1)=r:=by
 have h1:j<s.l.length:=by
  apply Classical.byContradiction;intro u;rw[List.drop_eq_nil_of_le (by omega)]at h;cases h
 have t:=List.drop_eq_getElem_cons h1;rw[t]at h;simp only[List.cons.injEq]at h;refine⟨?_,by simp[len,h1],h.2⟩
 unfold idx;rw[if_pos (by omega)]
 simp[ζd h1,h.1]
variable {Q:Out×St->Option (Out×St)} {fs:List Fm}
theorem inner (ps:Sl cm) (i:Int) (es:Sl Event) (O:es.l.length<9223372036854775807) (more:Bool) (y:Nat) (R:List (List V)):∀(rem:List Event) (j:Nat),es.l.drop j=rem->∀D,A2 D ((gP i j rem).map eI++R) more ->
 (∃(B:List (List V)) (U:Int),A2 B R more/\rn S.bare lX Q (.rc (.loop CA)) fs (I2 ps i es j D more y)=rn S.bare lX Q (.ex 2) fs (S2 ps i es U false B more y)) \/
 (∃st':St,st'.want=[]/\rn S.bare lX Q (.rc (.loop CA)) fs (I2 ps i es j D more y)=Q (.ret,st'))
 | [],j,J,D,G=>by
  have h1:decide ((j:Int)<len es)=false:=by
   have:es.l.length<=j:=by simpa using J
   simp[len];omega
  exact .inl ⟨D,j,by simpa [gP]using G,CI (RE ps i es j D more y h1)⟩
 | e::rem,j,J,D,G=>by
  obtain⟨h1,w,L⟩:=FO J;have W:j<es.l.length:=by simpa [len]using w
  simp only[gP,List.map_cons,List.cons_append]at G;obtain⟨B,rfl,t⟩:=A2.step G;have z:=wrap_small j (by omega)
  have u:((j:Int)+1)=IntKind.wrap .i64 ((j:Int)+1):=by rw[z];simp
  rcases t with⟨t,A⟩|⟨t,rfl⟩
  .have k:=SZ (S:=S) ps i es j e B more y w h1 t;rw[<-u]at k;have k2:=Dx (Q:=Q) (fs:=fs) k;have I:=inner ps i es O more y R rem (j+1) L B (by push_cast;exact A)
   rw[show ((j+1:Nat):Int)=(j:Int)+1 from rfl]at I;rcases I with⟨C,T,g1,g2⟩|⟨st',g1,g2⟩
   .exact .inl ⟨C,T,g1,k2.trans g2⟩
   .exact .inr ⟨st',g1,k2.trans g2⟩
  .have k:=PN (S:=S) ps i es j e [] more y w h1 t;rw[<-u]at k;exact .inr ⟨_,by rfl,CT k⟩
theorem outer (ps:Sl cm) (O:ps.l.length<9223372036854775807) (D:∀p∈ps.l,p.events.l.length<9223372036854775807) (more:Bool) (y:Nat):∀(rem:List cm) (i:Nat),ps.l.drop i=rem->∀B,A2 B ((eS i rem).map eI) more ->
 rn S.bare lX Qi (.rc (.loop Kd)) [.blk 0] (I1 ps i B more y)=some ()
 | [],i,G,B,J=>by
  have h1:decide ((i:Int)<len ps)=false:=by
   have:ps.l.length<=i:=by simpa using G
   simp[len];omega
  rw[CI (Q4 ps i B more y h1)];have:B=[]:=by
   rcases J with⟨_,rfl⟩|⟨_,z,r,hr⟩
   .rfl
   .have:B=[]:=by cases B with
     | nil=>rfl
     | cons=>simp[eS]at hr
    exact absurd this z
  subst this;rfl
 | p::rem,i,G,B,J=>by
  obtain⟨h1,t,A⟩:=FO G;have I:i<ps.l.length:=by simpa [len]using t
  have C:p∈ps.l:=List.mem_of_mem_drop (i:=i) (by rw[G];exact List.mem_cons_self ..)
  simp only[eS,List.map_append]at J;have u:=wrap_small i (by omega)
  rcases inner (S:=S) (Q:=some) (fs:=NM) ps i p.events (D p C) more y _ p.events.l 0 rfl B J with⟨w,L,g1,g2⟩|⟨st',g1,g2⟩
  .rw[Pe,u]at g2;rw[Dx (Og ps i p B more y _ t h1 g2)];exact outer ps O D more y rem (i+1) A w g1
  .rw[CT (Og ps i p B more y _ t h1 g2)];simp[Qi,g1]
theorem all (t:Trace) (B:List (aY×Event)) (h:iz t=some B) (D:List (List V)) (more:Bool) (G:A2 D (B.map eI) more) (y:Nat) :
 rn S.bare lX Qi (.rc text.body) [] ⟨vw 0 (([]:List V).map .v++.yl y::[V.fptr (cells t)].map .v),[],[],D,more,y⟩=some ():=by
 unfold iz at h;split at h
 .rename_i hk;cases h;simp only[ζh,List.all_eq_true,D3,decide_eq_true_eq]at hk;refine Le.get ?_;refine Q8 4 false [] (Qa.drop 2) [.seq U1] ⟨[(0,.yl y),Cv 8 t.procs],[],[],D,more,y⟩ t.procs rfl (by kernel_rfl) ?_
  refine B_ (n:=5) (fo':=.rc (.loop Kd)) (fs':=[.blk 0]) (st':=I1 t.procs 0 D more y) (by kernel_rfl) (Le.of_eq ?_)
  exact outer t.procs hk.1 hk.2 more y t.procs.l 0 rfl D G
 .cases h
end
theorem Hw {α:Type} [bt α] {a b:Sl α} (h:bT a=bT b):rows a.l=rows b.l:=by
 cases a <;> cases b <;> first|rfl|(simp only[bT,Sl.k,nu,V.fsl.injEq,true_and,reduceCtorEq]at h;done)|(simp only[bT,Sl.k,nu,V.fsl.injEq,true_and,reduceCtorEq]at h;exact h)
theorem Fp (p:Int):∀(es B:List Event) (j:Int),rows es=rows B->(gP p j es).map eI=(gP p j B).map eI
 | [],[],_,_=>rfl
 | [],_::_,_,h=>by simp[rows]at h
 | _::_,[],_,h=>by simp[rows]at h
 | e::es,D::B,j,h=>by
  simp only[rows,List.map_cons,List.cons.injEq]at h;have h1:enc e=enc D:=by show V.agg (cells e)=V.agg (cells D);rw[h.1]
  simp only[gP,List.map_cons,eI,h1,Fp p es B (j+1) h.2]
theorem Bq:∀(ps B:List cm) (i:Int),rows ps=rows B->(eS i ps).map eI=(eS i B).map eI
 | [],[],_,_=>rfl
 | [],_::_,_,h=>by simp[rows]at h
 | _::_,[],_,h=>by simp[rows]at h
 | p::ps,p'::B,i,h=>by
  simp only[rows,List.map_cons,List.cons.injEq]at h;have h1:bT p.events=bT p'.events:=by
   have:=h.1;change [V.str p.name,bT p.vars,bT p.events]=[V.str p'.name,bT p'.vars,bT p'.events]at this;simp only[List.cons.injEq]at this;exact this.2.2.1
  simp only[eS,List.map_append,Fp i _ _ 0 (Hw h1),Bq ps B (i+1) h.2]
def D6 (f:FuncId) (g:FuncId) (a b:List V) (xs:List (List V)):Prop:=∃(t:Trace) (u:List (aY×Event)),g=f/\a=[]/\b=[.fptr (cells t)]/\iz t=some u/\xs=u.map eI
theorem D6.uniq {f g:FuncId} {a b:List V} {xs ys:List (List V)} (h:D6 f g a b xs) (k:D6 f g a b ys):xs=ys:=by
 obtain⟨t,B,rfl,rfl,rfl,h1,rfl⟩:=h;obtain⟨z,A,_,_,w,u,rfl⟩:=k;simp only[List.cons.injEq,V.fptr.injEq,and_true]at w;have C:bT t.procs=bT z.procs:=by
  change [bT t.procs]=[bT z.procs]at w;simpa using w
 unfold iz at h1 u;split at h1 <;> split at u <;> simp only[ζa,reduceCtorEq]at h1 u;subst h1 u;exact Bq _ _ 0 (Hw C)
end trace_events_c1
end Go.VE
namespace Go.VE
open Go.Proofs.YtmkkeeoahodfhaaGreatDoor
noncomputable section
noncomputable def Je (f:FuncId):Option Dl:=bif Nat.beq f 198 then some (qO E)else bif Nat.beq f 195 then some (rm E)else none
noncomputable def Sy:Sys:=⟨E,λn=>n,vG (trace_events_c1.D6 181),xU E,Je⟩
theorem O7:Sy.prm 198=some (qO Sy.E):=by kernel_rfl
theorem PU:Sy.prm 195=some (rm Sy.E):=by kernel_rfl
theorem QU:∀f q,Je f=some q->mU E f q:=by
 intro f q h;unfold Je at h
 cases h1:Nat.beq f 198 with
 | true=>
  rw[h1]at h;cases h;have:=Nat.eq_of_beq_eq_true h1;subst this;exact M7 yN (by kernel_rfl) (by kernel_rfl) (AA (by kernel_rfl))
 | false=>
  rw[h1]at h
  cases h1:Nat.beq f 195 with
  | true=>
   rw[h1]at h;cases h;have:=Nat.eq_of_beq_eq_true h1;subst this;exact MJ (by kernel_rfl) (by kernel_rfl) (by kernel_rfl) (by kernel_rfl)
  | false=>
   rw[h1]at h;cases h
def Tx:pF:=M3 E some (lk Ih)
abbrev cL:cg:=c8 Sy Tx
theorem Q1:∃fi,E.ft 181=some fi/\wz E some fi trace_events_c1.text:=Rh (by kernel_rfl)
theorem DV:pP Sy Tx where
 fn f rf h:=let ⟨t,h1,u⟩:=MP h;⟨t,some,h1,yN,u⟩
 xq f w y h:=JS h
 prm:=QU
theorem zi:∀f a b xs,Sy.items f a b=some xs->eU Sy f a b xs:=by
 intro f a b xs h;obtain⟨t,u,rfl,rfl,rfl,h1,rfl⟩:=HH h;obtain⟨C,w,z⟩:=Q1;exact Mm Sy w yN z (Nat.le_of_ble_eq_true rfl) rfl λA more B y=>trace_events_c1.all t u h1 A more B y
theorem wj (t:Trace) (B:List (aY×Event)) (h:iz t=some B):Sy.items 181 [] [.fptr (cells t)]=some (B.map λx:aY×Event=>[enc x.1,enc x.2]):=
 Jh ⟨t,B,rfl,rfl,rfl,h,rfl⟩ λw u=>u.uniq ⟨t,B,rfl,rfl,rfl,h,rfl⟩
theorem K6:Sy.xq 27 []=some (.bool true):=uV (GA rfl ⟨1,[],by kernel_rfl⟩)
end
end Go.VE
namespace Go.VE
noncomputable section
def sV (D:Trace) (B:aY):Option Event:=
 (idx D.procs B.proc).bind λt=>
 (idx t.events (IntKind.wrap .i64 (B.index-1))).bind λu=>
 some u
instance Sf (B:Trace) (D:aY):Fc Sy cL (sV B D):=Fc.N 159 [enc B,enc D] (eu 2 2 B (bY 10 λu _=>bY 5 λt _=>o8 1 4 0 t a_))
namespace dw
def ck (B G p7:Int) (D:Trace) (J:aY) (i8:Int):Option (Fw Int Unit aY):=
 (idx D.procs p7).bind λu=>
 bq (decide (i8<(len u.events)))
 ((idx D.procs p7).bind λw=>
 (idx w.events i8).bind λt=>
 (bq (t.kind==B)
 (some (t.message==G))
 (some false):Option Bool).bind λz=>
 bq z
 (some (.r (⟨p7,IntKind.wrap .i64 (i8+1)⟩:aY)))
 (some (.n (IntKind.wrap .i64 (i8+1)))))
 (some (.x ()))
def W2 (B J p7 i8:Int) (D:Trace) (G:aY):Option (Fw Int Unit aY):=
 (bO (λq:Int=>ck B J p7 D G q) i8).bind (Fw.elim
 (λe=>some (.n (IntKind.wrap .i64 (p7+1))))
 (λe=>some (.r e)))
def br (B J:Int) (D:Trace) (G:aY) (p7:Int):Option (Fw Int Unit aY):=
 bq (decide (p7<(len D.procs)))
 (W2 B J p7 0 D G)
 (some (.x ()))
def W1 (B J p7:Int) (D:Trace) (G:aY):Option aY:=
 (bO (λq:Int=>br B J D G q) p7).bind (Fw.elim
 (λe=>some ⟨0,0⟩)
 (λe=>some e))
end dw
def dw (D:Trace) (B G:Int):Option aY:=
 dw.W1 B G 0 D (⟨0,0⟩:aY)
open dw in
instance QK (D:Trace) (B G:Int):Fc Sy cL (dw D B G):=Fc.M 160 [enc D,.int .i64 B,.int .i64 G] (eu 2 3 D (d_ 11 (λt=>(bF [Iv 1 B,Iv 2 G,Pv 3,Pv 6,Iv 7 t] [Xb 3 D,Xb 6 (⟨0,0⟩:aY)])) (λu=>(0,(bF [Pv 6] [Xb 6 (⟨0,0⟩:aY)]))) (λu=>(bF [Pv 6] [Xb 6 u])) (λt=>bR 7 D.procs (bC 3 14 (d_ 12 (λz=>(bF [Iv 1 B,Iv 2 G,Pv 3,Pv 6,Iv 7 t,Iv 8 z] [Xb 3 D,Xb 6 (⟨0,0⟩:aY)])) (λw=>(2,(bF [Iv 1 B,Iv 2 G,Pv 3,Pv 6,Iv 7 t] [Xb 3 D,Xb 6 (⟨0,0⟩:aY)]))) (λw=>(bF [Pv 6] [Xb 6 w])) (λz=>bY 8 λA _=>bR 2 A.events (bC 3 25 (bY 10 λI _=>bY 3 λC _=>o8 2 9 0 C (cF 9 5 [9,41] 46 (bC 9 41 (bL 5) (bL 5)) λJ=>bC 2 46 a_ a_)) a_)) (λw=>a_) (λw=>a_)) a_)) (λu=>a_) (λu=>a_)))
namespace dB
def J1 (B:Sl aY) (D:Trace) (G:aY):Option (Sl aY):=
 (sV D G).bind λt=>
 bq (t.kind==3)
 ((dw D 2 t.message).bind λu=>
 (fT B (u:aY)).bind λw=>
 some w)
 (some B)
end dB
def dB (D:Trace) (B:aY):Option (Sl aY):=
 bq (decide (B.index>1))
 (dB.J1 (Sl.row [⟨B.proc,IntKind.wrap .i64 (B.index-1)⟩]:Sl aY) D B)
 (dB.J1 (Sl.nil:Sl aY) D B)
open dB in
theorem xu (D:Trace) (B:aY):Le ((dB D B).bind λr=>some (cQ r)) (b8 Sy cL (Cg (tr Tx 161)) (.rc (tb Tx 161),[],start ([enc D,enc B].map .v) [])):=
 eu 2 2 D (bC 17 9 (NQ 10 17 18 .bB (⟨B.proc,IntKind.wrap .i64 (B.index-1)⟩:aY) (xN 5 (bM 4 λt _=>o8 1 6 0 t (bC 10 24 (bM 6 λu _=>mE 1 2005 30 31 λw _=>a_) a_)))) (xN 5 (bM 4 λt _=>o8 1 6 0 t (bC 10 24 (bM 6 λu _=>mE 1 2005 30 31 λw _=>a_) a_))))
def mV (dir:aY->Option (Sl aY)):List (List Bool)×List aY->Option (Fw (List (List Bool)×List aY) (List (List Bool)) Empty)
 | (out,[])=>some (.x out)
 | (out,y::rest)=>if 0<=y.proc/\0<=y.index then(out[y.proc.toNat]?).bind λrow=>(row[y.index.toNat]?).bind λb=>
  bq b (some (.n (out,rest))) ((dir y).bind λmore=>if rest.length+more.l.length<=2147483648 then some (.n (out.set y.proc.toNat (row.set y.index.toNat true),rest++more.l))else none)else none
def fN (t:Trace):List (List Bool):=t.procs.l.map λP=>List.replicate (P.events.l.length+1) false
def xD (t:Trace):Bool:=decide (t.procs.l.length<=2147483648)&&t.procs.l.all λP=>decide (P.events.l.length+1<=2147483648)
def nested (out:List (List Bool)):Sl (Sl Bool):=if out=[]then .nil else .row (out.map .row)
def lQ (t:Trace) (x:aY):Option (Sl (Sl Bool)):=
 if xD t then(dB t x).bind λs=>(bO (mV (dB t)) (fN t,s.l)).bind (Fw.elim (λout=>some (nested out)) (λe=>Empty.elim e))else none
end
end Go.VE
namespace Go.VE
namespace pastX
abbrev uC:Nat->FuncId:=λn=>n
def r1:List RO:=[o2 2 (.a .box) [0] [],o2 3 (.a .box) [1] [],o1 4 (.k (.bB)) []]
def r2:List RO:=[o1 5 (.k (.bB)) []]
def r3:List RO:=[o1 6 (.k (.int .i64 0)) []]
def r4:List RO:=[o1 11 6 [],o2 12 (fa 0) [2] [],o2 13 (ld 1) [12] [],o2 14 ln [13] [],o2 15 (bI .lss) [11,14] []]
def r5:List RO:=[o1 18 5 [],o2 19 (fa 0) [2] [],o2 20 (ld 1) [19] [],o1 21 6 [],o2 22 (ix 3) [20,21] [],o2 23 (fa 2) [22] [],o2 24 (ld 1) [23] [],o2 25 ln [24] [],o2 26 (bI .add) [25,.k (.int .i64 1)] [],o2 27 (.a (.makeSl 1 [.bool false])) [26,26] [],o2 28 (.a (.buildSl 1 1 [.bB] [0])) [27] [],o2 29 (.l (.append 1)) [18,28] [],o1 5 29 []]
def r6:List RO:=[o1 16 6 [],o2 17 (bI .add) [16,.k (.int .i64 1)] [],o1 6 17 []]
def L1:RC:=.seq (.seq (.ops r4) (.cond (.s 15) (.skip) (.exit 0))) (.seq (.block 1 (.ops r5)) (.ops r6))
def r7:List RO:=[o2 30 (lD 1) [2] [],o2 31 (lD 2) [3] [],o2 32 .c [.f 161,30,31] [],o1 7 32 []]
def r8:List RO:=[o1 33 7 [],o2 34 ln [33] [],o2 35 (bI .gtr) [34,.k (.int .i64 0)] []]
def r9:List RO:=[o1 36 7 [],o2 37 (ix 2) [36,.k (.int .i64 0)] [],o2 38 (lD 2) [37] [],o2 8 (.a (.alloc 2 [.int .i64 0,.int .i64 0])) [] [],oz (su 2) [8,38] []]
def AZ:List RO:=[o1 39 7 [],o2 40 (.p (.slice 2 true false)) [39,.k (.int .i64 1)] [],o1 7 40 []]
def CV:List RO:=[o1 41 5 [],o2 42 (fa 0) [8] [],o2 43 (ld 1) [42] [],o2 44 (ix 1) [41,43] [],o2 45 (ld 1) [44] [],o2 46 (fa 1) [8] [],o2 47 (ld 1) [46] [],on 48 (ix 1) [45,47] [],on 49 (ld 1) [48] []]
def C4:List RO:=[o1 50 5 [],o2 51 (fa 0) [8] [],o2 52 (ld 1) [51] [],o2 53 (ix 1) [50,52] [],o2 54 (ld 1) [53] [],o2 55 (fa 1) [8] [],o2 56 (ld 1) [55] [],on 57 (ix 1) [54,56] [],oy (su 1) [57,.k (.bool true)] []]
def Dn:List RO:=[o2 58 (lD 1) [2] [],o2 59 (lD 2) [8] [],o2 60 .c [.f 161,58,59] [],o1 9 60 []]
def AI:List RO:=[o1 10 (.k (.int .i64 0)) []]
def Dp:List RO:=[o1 61 10 [],o1 62 9 [],o2 63 ln [62] [],o2 64 (bI .lss) [61,63] []]
def r16:List RO:=[o1 67 7 [],o1 68 9 [],o1 69 10 [],o2 70 (ix 2) [68,69] [],o2 71 (lD 2) [70] [],o2 72 (.a (.buildSl 2 1 [.int .i64 0,.int .i64 0] [0])) [71] [],o2 73 (.l (.append 2)) [67,72] [],o1 7 73 []]
def Lm:List RO:=[o1 65 10 [],o2 66 (bI .add) [65,.k (.int .i64 1)] [],o1 10 66 []]
def L3:RC:=.seq (.seq (.ops Dp) (.cond (.s 64) (.skip) (.exit 4))) (.seq (.block 5 (.ops r16)) (.ops Lm))
def L2:RC:=.seq (.seq (.ops r8) (.cond (.s 35) (.skip) (.exit 2))) (.block 3 (.seq (.ops r9) (.seq (.ops AZ) (.seq (.seq (.nR CV) (.cond (.s 49) (.exit 3) (.skip))) (.seq (.nR C4) (.seq (.ops Dn) (.seq (.ops AI) (.block 4 (.loop L3)))))))))
def TA:List RO:=[o1 74 5 [],o1 4 74 []]
def code:RC:=.seq (.ops r1) (.seq (.ops r2) (.seq (.seq (.ops r3) (.block 0 (.loop L1))) (.seq (.ops r7) (.seq (.block 2 (.loop L2)) (.seq (.ops TA) (.ret))))))
noncomputable abbrev tS:=Go.Proofs.YtmkkeeoahodfhaaGreatDoor.E
def i_ (out:List (List Bool)):List (List V):=out.map λr=>r.map V.bool
theorem shape:∃fi,tS.ft (uC 117)=some fi/\bH ⟨tS,some,fi.ntmps⟩ false fi.body=some code/\2<=fi.ntmps/\fi.results=[.tmp 4]:=by
 have h:((tS.ft (uC 117)).map λfi=>(bH ⟨tS,some,fi.ntmps⟩ false fi.body,Nat.ble 2 fi.ntmps,fi.results))=some (some code,true,[.tmp 4]):=by kernel_rfl
 obtain⟨fi,h1,t⟩:=ζf.1 h;simp only[ζc]at t;exact⟨fi,h1,t.1,Nat.le_of_ble_eq_true t.2.1,t.2.2⟩
section
variable {E:Env} {N:Nat->FuncId} {t:Trace} {x:aY} {k:Nat} {F:Frame} {H H1:bf} {call:c7} {b:Option Nat}
theorem iQ {o:RO} {l:List RO} {v:V} {r:Frame×bf} (hg:o.gd=none) (hv:bu E N call b o.now o.k (o.az.map (bn N F)) H=some (v,H1)) (h:cr E N call b l (bl F o.dst v) H1=some r):cr E N call b (o::l) F H=some r:=by
 simp[cr,hg,hv];omega
theorem vp {o:RO} {l:List RO} {v:V} {r:Frame×bf} (hg:o.gd=none) (hv:bu E N call b o.now o.k (o.az.map (bn N F)) H=some (v,H)) (h:cr E N call b l (bl F o.dst v) H=some r):cr E N call b (o::l) F H=some r:=iQ hg hv h
theorem dG:cr E N call b [] F H=some (F,H):=rfl
theorem ld1 (h:H[0]? = some (.row 1 [cells t])):ey H (.load 1 false) [.hptr 0 0 0]=some (bT t.procs):=by
 simp[ey,dL,h];rfl
theorem TW {s:Sl cm} {p:cm} {i:Nat} (h:s.l[i]? = some p):kg 3 (bT s) (i:Int)=some (.fptr (cells p)):=by
 have:=BU (N:=λn=>n) s .i64 i 3 rfl
 simp[bh]at this;rw[this,show idx s i=some p from by unfold idx;grind];rfl
theorem x4 (f2:get F 2=.hptr 0 0 0) (f6:get F 6=.int .i64 k) (h0:H[0]? = some (.row 1 [cells t])) :
 ∃F',cr E N call none r4 F H=some (F',H)/\get F' 15=.bool (decide (k<t.procs.l.length))/\(∀s,s<11->get F' s=get F s):=by
 refine⟨_,vp (v:=.int .i64 k) rfl ?_ <| vp (v:=.hptr 0 0 0) rfl ?_ <| vp (v:=bT t.procs) rfl ?_ <| vp (v:=.int .i64 t.procs.l.length) rfl ?_ <| vp (v:=.bool (decide (k<t.procs.l.length))) rfl ?_ dG,?_,?_⟩
 .simp[bu,bn,bh,f6]
 .simp[bu,bn,bh,bl,f2,gu]
 .simp only[bu,List.map_cons,List.map_nil,bn,bl,bp,if_true];rw[ld1 h0];rfl
 .simp only[bu,List.map_cons,List.map_nil,bn,bl,bp,if_true];rw[wT];rfl
 .simp[bu,bn,bh,bl,gj,mA]
 .simp[bl]
 .simp[bl,bp]
  grind
theorem vT {n:Nat} (h:n<=2147483648):IntKind.wrap .i64 ((n:Int)+1)=((n+1:Nat):Int):=by
 simp[IntKind.wrap,IntKind.bits];omega
theorem x5 {P:cm} {o:Nat} {ids:List Nat} {rows:List (List V)} (f2:get F 2=.hptr 0 0 0) (f6:get F 6=.int .i64 k) (h0:H[0]? = some (.row 1 [cells t])) (B:t.procs.l[k]? = some P) (G:P.events.l.length+1<=2147483648)
 (D:kP H (get F 5) o ids rows) (hr:rows.length+1<=2147483648) :
 ∃F' H',cr E N call none r5 F H=some (F',H')/\kP H' (get F' 5) (H.length+2) (ids++[H.length]) (rows++[List.replicate (P.events.l.length+1) (.bool false)])/\H.length<=H'.length/\(∀id,id<H.length->id≠o\/rows=[]->H'[id]? = H[id]?)/\(∀s,s<11->s≠5->get F' s=get F s):=by
 obtain⟨H',p1,p2,p3,p4⟩:=D.push (List.replicate (P.events.l.length+1) (.bool false)) hr;have u:ir (List.replicate (P.events.l.length+1) (V.bool false))=List.replicate (P.events.l.length+1) [.bool false]:=by simp[ir]
 rw[u,List.length_replicate]at p1;have w:=vT (n:=P.events.l.length) (by omega)
 refine⟨_,H',vp (v:=get F 5) rfl ?_ <| vp (v:=.hptr 0 0 0) rfl ?_ <| vp (v:=bT t.procs) rfl ?_ <| vp (v:=.int .i64 k) rfl ?_ <| vp (v:=.fptr (cells P)) rfl ?_ <| vp (v:=.fptr [bT P.events]) rfl ?_ <| vp (v:=bT P.events) rfl ?_ <|
  vp (v:=.int .i64 P.events.l.length) rfl ?_ <| vp (v:=.int .i64 (P.events.l.length+1:Nat)) rfl ?_ <| iQ (v:=.hsl H.length 1 0 (P.events.l.length+1)) (H1:=H++[.row 1 (List.replicate (P.events.l.length+1) [.bool false])]) rfl ?_ <|
  iQ (v:=.hsl (H.length+1) 1 0 1) (H1:=H++[.row 1 (List.replicate (P.events.l.length+1) [.bool false])]++[.row 1 [[.hsl H.length 1 0 (P.events.l.length+1)]]]) rfl ?_ <|
  iQ (v:=.hsl (H.length+2) 1 0 (rows.length+1))  rfl ?_ <| vp (v:=.hsl (H.length+2) 1 0 (rows.length+1)) rfl ?_ dG,?_,p3,p4,?_⟩
 .simp[bu,bn,bh]
 .simp[bu,bn,bh,bl,f2,gu]
 .simp only[bu,List.map_cons,List.map_nil,bn,bl,bp,if_true];rw[ld1 h0];rfl
 .simp[bu,bn,bh,bl,f6]
 .simp only[bu,List.map_cons,List.map_nil,bn,bl,bp,Nat.reduceEqDiff,if_true,if_false,bh];rw[TW B];rfl
 .simp[bu,bn,bl,bp,bh];rfl
 .simp[bu,bn,bl,bp];rfl
 .simp only[bu,List.map_cons,List.map_nil,bn,bl,bp,if_true];rw[wT];rfl
 .simp[bu,bn,bl,bp,bh,gj];grind
 .simp only[bu,List.map_cons,List.map_nil,bn,bl,bp,if_true,ig];rw[if_pos ⟨trivial,trivial,by omega,by omega,by omega⟩]
  simp[Mk.val]
 .simp[bu,bn,bl,bp,ig];simp[fQ,V.cells,V.one,Mk.val]
 .simp only[bu,List.map_cons,List.map_nil,bn,bl,bp,Nat.reduceEqDiff,if_true,if_false];omega
 .simp[bu,bn,bh,bl]
 .simp[bl,bp];omega
 .intro s z A;simp[bl,bp]
  repeat (rw[if_neg (by omega)])
theorem x6 (f6:get F 6=.int .i64 k) (hk:k<=2147483648):∃F',cr E N call none r6 F H=some (F',H)/\get F' 6=.int .i64 ((k+1:Nat):Int)/\(∀s,s<11->s≠6->get F' s=get F s):=by
 have t:=vT hk;refine⟨_,vp (v:=.int .i64 k) rfl ?_ <| vp (v:=.int .i64 (k+1:Nat)) rfl ?_ <| vp (v:=.int .i64 (k+1:Nat)) rfl ?_ dG,?_,?_⟩
 .simp[bu,bn,bh,f6]
 .simp[bu,bn,bl,bp,bh,gj];grind
 .simp[bu,bn,bh,bl]
 .simp[bl]
 .simp[bl,bp]
  grind
end
structure P1 (t:Trace) (x:aY) (k:Nat) (F:Frame) (H:bf):Prop where
 f2:get F 2=.hptr 0 0 0
 f3:get F 3=.hptr 1 0 0
 f6:get F 6=.int .i64 k
 h0:H[0]? = some (.row 1 [cells t])
 h1:H[1]? = some (.row 2 [cells x])
 ns:∃o ids,kP H (get F 5) o ids (i_ ((fN t).take k))/\(k≠0->2<=o)/\∀id∈ids,2<=id
theorem tX (out:List (List Bool)):(i_ out).length=out.length:=by simp[i_]
theorem HF {E:Env} {N:Nat->FuncId} {t:Trace} {x:aY} (G:xD t=true):∀(m k:Nat) (F:Frame) (H:bf),k+m=t.procs.l.length->P1 t x k F H->∃F' H',ku E N L1 F H (.exit 0) F' H'/\P1 t x t.procs.l.length F' H':=by
 have A:t.procs.l.length<=2147483648/\∀P∈t.procs.l,P.events.l.length+1<=2147483648:=by
  simpa [xD]using G
 intro m
 induction m with
 | zero=>
  intro k F H hk p;have B:k=t.procs.l.length:=by omega
  obtain⟨F1,e1,e2,e3⟩:=x4 (E:=E)  (call:=⟨0,λ_ _ _=>none⟩) p.f2 p.f6 p.h0
  refine⟨F1,H,ku.stop (Ex.rX (Ex.seq (Ex.cM λc=>?_) (Ex.n_ ?_ Ex.exit)) (by simp)) (by simp),?_⟩
  .have:cr E N c none r4 F H=cr E N ⟨0,λ_ _ _=>none⟩ none r4 F H:=rfl
   exact e1
  .show get F1 15=_;rw[e2];simp[B]
  .subst B;exact⟨by rw[e3 2 (by omega)];exact p.f2,by rw[e3 3 (by omega)];exact p.f3,by rw[e3 6 (by omega)];exact p.f6,p.h0,p.h1,by rw[e3 5 (by omega)];exact p.ns⟩
 | succ m Y=>
  intro k F H hk p;have w:k<t.procs.l.length:=by omega
  obtain⟨o,ids,T,Z,n3⟩:=p.ns;obtain⟨F1,e1,e2,e3⟩:=x4 (E:=E) (N:=N) (call:=⟨0,λ_ _ _=>none⟩) p.f2 p.f6 p.h0
  have U:=ζd w;have C:((fN t).take k).length=k:=by simp[fN];omega
  have I:kP H (get F1 5) o ids (i_ ((fN t).take k)):=by rw[e3 5 (by omega)];exact T
  obtain⟨F2,H2,g1,g2,g3,g4,g5⟩:=x5 (E:=E) (N:=N) (call:=⟨0,λ_ _ _=>none⟩) (by rw[e3 2 (by omega)];exact p.f2) (by rw[e3 6 (by omega)];exact p.f6) p.h0 U (A.2 _ (List.getElem_mem w)) I (by rw[tX,C];omega)
  obtain⟨W,q1,q2,J⟩:=x6 (E:=E) (N:=N) (call:=⟨0,λ_ _ _=>none⟩) (H:=H2)   (by rw[g5 6 (by omega) (by omega),e3 6 (by omega)];exact p.f6) (by omega)
  have X:=T.lt;have L:=(ζe.1 p.h0).1;have O:=(ζe.1 p.h1).1;have u:∀i,i<2->i<H.length->H2[i]? = H[i]? := λi hi X=>g4 i X (by
   by_cases D:k=0
   .subst D;right;simp[i_]
   .left;have:=Z D;omega)
  have Q:P1 t x (k+1) W H2:=by
   refine⟨by rw[J 2 (by omega) (by omega),g5 2 (by omega) (by omega),e3 2 (by omega)];exact p.f2,by rw[J 3 (by omega) (by omega),g5 3 (by omega) (by omega),e3 3 (by omega)];exact p.f3,q2,
    by rw[u 0 (by omega) L];exact p.h0,by rw[u 1 (by omega) O];exact p.h1,H.length+2,ids++[H.length],?_,λ_=>by omega,λid S=>?_⟩
   .rw[J 5 (by omega) (by omega)]
    have z:i_ ((fN t).take (k+1))=i_ ((fN t).take k)++[List.replicate (t.procs.l[k].events.l.length+1) (.bool false)]:=by
     rw[List.take_add_one];have:(fN t)[k]? = some (List.replicate (t.procs.l[k].events.l.length+1) false):=by simp[fN,U]
     rw[this];simp[i_]
    rw[z];exact g2
   .rcases List.mem_append.1 S with h|h
    .exact n3 id h
    .simp at h;omega
  obtain⟨F',H',r1,r2⟩:=Y (k+1) W H2 (by omega) Q
  refine⟨F',H',ku.step (Ex.seq (Ex.seq (Ex.cM λc=>e1) (Ex.lq ?_ Ex.skip)) (Ex.seq (Ex.block (Ex.cM λc=>g1)) (Ex.cM λc=>q1))) r1,r2⟩
  show get F1 15=_;rw[e2];simp[w]
section
variable {E:Env} {N:Nat->FuncId} {t:Trace} {x y:aY} {F:Frame} {H:bf} {call:c7}
theorem x8 {l:List (List V)} {id:Nat} (h:jm H (get F 7) l id):∃F',cr E N call none r8 F H=some (F',H)/\get F' 35=.bool (decide (0<l.length))/\(∀s,s<11->get F' s=get F s):=by
 refine⟨_,vp (v:=get F 7) rfl ?_ <| vp (v:=.int .i64 l.length) rfl ?_ <| vp (v:=.bool (decide (0<l.length))) rfl ?_ dG,?_,?_⟩
 .simp[bu,bn,bh]
 .simp[bu,bn,bl,bp,bh,h.len]
 .simp[bu,bn,bh,bl,gj,mA]
 .simp[bl]
 .simp[bl,bp]
  grind
theorem x9 {l:List (List V)} {id:Nat} (h:jm H (get F 7) (cells y::l) id):∃F',cr E N call none r9 F H=some (F',H++[.row 2 [cells y]])/\get F' 8=.hptr H.length 0 0/\(∀s,s<11->s≠8->get F' s=get F s):=by
 obtain⟨p,p1,p2⟩:=h.get (i:=0)  rfl;refine⟨_,vp (v:=get F 7) rfl ?_ <| vp (v:=p) rfl ?_ <| vp (v:=.agg (cells y)) rfl ?_ <| iQ (v:=.hptr H.length 0 0) (H1:=H++[.row 2 [[.int .i64 0,.int .i64 0]]]) rfl ?_ <| iQ (v:=.undef)  rfl ?_ dG,?_,?_⟩
 .simp[bu,bn,bh]
 .simp[bu,bn,bl,bp,bh]
  grind
 .simp only[bu,List.map_cons,bn,bl,bp,if_false]
  grind
 .simp[bu,bn,bl,bp,ig,Mk.val]
 .simp[bu,bn,bl,bp];simp[eF,V.cells,V.one]
 .simp[bl]
 .simp[bl,bp]
  grind
theorem Uj {c:List V} {l:List (List V)} {id:Nat} (h:jm H (get F 7) (c::l) id):∃F',cr E N call none AZ F H=some (F',H)/\jm H (get F' 7) l id/\(∃off m B,get F 7=.hsl id 2 off m/\get F' 7=.hsl id 2 B l.length)/\(∀s,s<11->s≠7->get F' s=get F s):=by
 obtain⟨w',p1,p2,off,m,B,p3,p4⟩:=h.tail;refine⟨_,vp (v:=get F 7) rfl ?_ <| vp (v:=w') rfl ?_ <| vp (v:=w') rfl ?_ dG,?_,⟨off,m,B,p3,?_⟩,?_⟩
 .simp[bu,bn,bh]
 .simp[bu,bn,bl,bp,bh,j9,p1]
 .simp[bu,bn,bh,bl]
 .simp[bl,bp];omega
 .simp[bl,bp];omega
 .simp[bl,bp]
  grind
theorem jb (H:bf):H.take H.length=H:=List.take_length ..
theorem Q9 {c:Nat} (hc:H[c]? = some (.row 2 [cells y])):ey H (.load 1 false) [.hptr c 0 0]=some (.int .i64 y.proc)/\ey H (.load 1 false) [.hptr c 0 1]=some (.int .i64 y.index)/\ey H (.load 2 true) [.hptr c 0 0]=some (enc y):=by
 refine⟨?_,?_,?_⟩ <;> simp[ey,dL,hc,cut] <;> rfl
theorem Re {c o:Nat} {ids:List Nat} {rows:List (List V)} {p j:Nat} {r:List V} {u:V} (B:get F 8=.hptr c 0 0) (hc:H[c]? = some (.row 2 [cells y])) (D:kP H (get F 5) o ids rows) (G:y.proc=p) (J:y.index=j) (hr:rows[p]? = some r) (hu:r[j]? = some u) :
 ∃F',cr E N call (some H.length) CV F H=some (F',H)/\get F' 49=u/\(∀s,s<11->get F' s=get F s):=by
 obtain⟨id,t,w,z,A,C⟩:=D.cell hr hu;obtain⟨I,L,_⟩:=Q9 hc;refine⟨_,vp (v:=get F 5) rfl ?_ <| vp (v:=.hptr c 0 0) rfl ?_ <| vp (v:=.int .i64 p) rfl ?_ <| vp (v:=.hptr o p 0) rfl ?_ <| vp (v:=.hsl id 1 0 r.length) rfl ?_ <| vp (v:=.hptr c 0 1) rfl ?_ <| vp (v:=.int .i64 j) rfl ?_ <| vp (v:=.hptr id j 0) rfl ?_ <| vp (v:=u) rfl ?_ dG,?_,?_⟩
 .simp[bu,bn,bh]
 .simp[bu,bn,bh,bl,B,gu]
 .simp[bu,bn,bl,bp,jb];grind
 .simp[bu,bn,bl,bp,bh];grind
 .simp[bu,bn,bl,bp,jb];grind
 .simp[bu,bn,bh,bl,B,gu]
 .simp[bu,bn,bl,bp,jb];grind
 .simp[bu,bn,bl,bp,bh];grind
 .simp[bu,bn,bl,bp,jb];simp_all
 .simp[bl]
 .simp[bl,bp]
  grind
theorem T9 {c o:Nat} {ids:List Nat} {rows:List (List V)} {p j:Nat} {r:List V} {u:V} (B:get F 8=.hptr c 0 0) (hc:H[c]? = some (.row 2 [cells y])) (D:kP H (get F 5) o ids rows) (G:y.proc=p) (J:y.index=j) (hr:rows[p]? = some r) (hu:r[j]? = some u) :
 ∃F' H',cr E N call (some H.length) C4 F H=some (F',H')/\kP H' (get F' 5) o ids (rows.set p (r.set j (.bool true)))/\H'.length=H.length/\(∀i,i∉ids->H'[i]? = H[i]?)/\(∀s,s<11->get F' s=get F s):=by
 obtain⟨id,t,I,L,w,O⟩:=D.cell hr hu;obtain⟨Q,S,_⟩:=Q9 hc;obtain⟨H',s1,T,z,A⟩:=D.set hr (ζe.1 hu).1 t (u:=.bool true) rfl rfl;refine⟨_,H',vp (v:=get F 5) rfl ?_ <| vp (v:=.hptr c 0 0) rfl ?_ <| vp (v:=.int .i64 p) rfl ?_ <| vp (v:=.hptr o p 0) rfl ?_ <| vp (v:=.hsl id 1 0 r.length) rfl ?_ <| vp (v:=.hptr c 0 1) rfl ?_ <| vp (v:=.int .i64 j) rfl ?_ <| vp (v:=.hptr id j 0) rfl ?_ <| iQ (v:=.undef)  rfl ?_ dG,?_,z,λi C=>A i λe=>C (e▸List.mem_of_getElem? t),?_⟩
 .simp[bu,bn,bh]
 .simp[bu,bn,bh,bl,B,gu]
 .simp[bu,bn,bl,bp,jb];grind
 .simp[bu,bn,bl,bp,bh];grind
 .simp[bu,bn,bl,bp,jb];grind
 .simp[bu,bn,bh,bl,B,gu]
 .simp[bu,bn,bl,bp,jb];grind
 .simp only[bu,List.map_cons,List.map_nil,bn,bl,bp,Nat.reduceEqDiff,if_true,if_false,bh];rw[w];rfl
 .simp[bu,bn,bl,bp,s1]
 .simp[bl,bp];omega
 .simp[bl,bp]
  grind
def DN (E:Env) (N:Nat->FuncId) (t:Trace) (dir:aY->Option (Sl aY)):Prop:=∀(y:aY) (s:Sl aY) (H:bf),dir y=some s ->
 ∃w X id,(∃n,∀k,n<=k->eH E (run E k) (N 161) [enc t,enc y] H=some (w,H++X))/\jm (H++X) w (s.l.map cells) id/\(∀off m,w=.hsl id 2 off m->id=H.length)
theorem TF {a d:Nat} (D:E.keep (N 161)=true) {dir:aY->Option (Sl aY)} (G:DN E N t dir) {s:Sl aY} (B:dir y=some s) (f2:get F 2=.hptr 0 0 0) (h0:H[0]? = some (.row 1 [cells t])) {c:Nat} (hc:H[c]? = some (.row 2 [cells y])) :
 ∃w X id,jm (H++X) w (s.l.map cells) id/\(∀off m,w=.hsl id 2 off m->id=H.length) /\
  (get F 8=.hptr c 0 0->∃F',(∃n,∀k,n<=k->cr E N (run E k) none Dn F H=some (F',H++X))/\get F' 9=w/\(∀s,s<11->s≠9->get F' s=get F s)) /\
  (get F 3=.hptr c 0 0->∃F',(∃n,∀k,n<=k->cr E N (run E k) none r7 F H=some (F',H++X))/\get F' 7=w/\(∀s,s<11->s≠7->get F' s=get F s)):=by
 obtain⟨w,X,id,⟨n,e1⟩,e2,e3⟩:=G y s H B;have z:ey H (.load 1 true) [.hptr 0 0 0]=some (enc t):=by
  simp[ey,dL,h0,Ob.rows,cut];rfl
 obtain⟨_,_,A⟩:=Q9 hc;refine⟨w,X,id,e2,e3,λC=>⟨_,⟨n,λk hk=>vp (v:=enc t) rfl ?_ <| vp (v:=enc y) rfl ?_ <| iQ (v:=w) (H1:=H++X) rfl ?_ <| vp (v:=w) rfl ?_ dG⟩,?_,?_⟩,λf3=>⟨_,⟨n,λk hk=>vp (v:=enc t) rfl ?_ <| vp (v:=enc y) rfl ?_ <| iQ (v:=w) (H1:=H++X) rfl ?_ <| vp (v:=w) rfl ?_ dG⟩,?_,?_⟩⟩
 .simp only[bu,List.map_cons,List.map_nil,bn,f2];rw[z];rfl
 .simp only[bu,List.map_cons,List.map_nil,bn,bl,bp,Nat.reduceEqDiff,if_true,if_false,C];rw[A];rfl
 .simp only[bu,List.map_cons,List.map_nil,bn,bl,bp,Nat.reduceEqDiff,if_true,if_false,D,List.nil_append,List.append_nil];exact e1 k hk
 .simp[bu,bn,bh,bl]
 .simp[bl]
 .intro s B u;simp only[bl,bp];rw[if_neg (Ne.symm u)]
  repeat (rw[if_neg (by omega)])
 .simp only[bu,List.map_cons,List.map_nil,bn,f2];rw[z];rfl
 .simp only[bu,List.map_cons,List.map_nil,bn,bl,bp,Nat.reduceEqDiff,if_true,if_false,f3];rw[A];rfl
 .simp only[bu,List.map_cons,List.map_nil,bn,bl,bp,Nat.reduceEqDiff,if_true,if_false,D,List.nil_append,List.append_nil];exact e1 k hk
 .simp[bu,bn,bh,bl]
 .simp[bl]
 .intro s B u;simp only[bl,bp];rw[if_neg (Ne.symm u)]
  repeat (rw[if_neg (by omega)])
end
section
variable {E:Env} {N:Nat->FuncId} {F:Frame} {H:bf} {call:c7} {i:Nat}
theorem N_ {l:List (List V)} {id:Nat} (f10:get F 10=.int .i64 i) (h:jm H (get F 9) l id):∃F',cr E N call none Dp F H=some (F',H)/\get F' 64=.bool (decide (i<l.length))/\(∀s,s<11->get F' s=get F s):=by
 refine⟨_,vp (v:=.int .i64 i) rfl ?_ <| vp (v:=get F 9) rfl ?_ <| vp (v:=.int .i64 l.length) rfl ?_ <| vp (v:=.bool (decide (i<l.length))) rfl ?_ dG,?_,?_⟩
 .simp[bu,bn,bh,f10]
 .simp[bu,bn,bh,bl]
 .simp[bu,bn,bl,bp,bh,h.len]
 .simp[bu,bn,bh,bl,gj,mA]
 .simp[bl]
 .simp[bl,bp]
  grind
theorem Uh {l D:List (List V)} {id B:Nat} {c:List V} (f10:get F 10=.int .i64 i) (h:jm H (get F 7) l id) (G:jm H (get F 9) D B) (hc:D[i]? = some c) (J:l.length+1<=2147483648) :
 ∃F' H',cr E N call none r16 F H=some (F',H')/\jm H' (get F' 7) (l++[c]) (H.length+1)/\H'.length=H.length+2/\(∀i,i<H.length->(∀off m,get F 7=.hsl id 2 off m->i≠id)->H'[i]? = H[i]?)/\(∀s,s<11->s≠7->get F' s=get F s):=by
 have t:=G.c c (List.mem_of_getElem? hc);obtain⟨p,p1,p2⟩:=G.get hc;obtain⟨H',z,A,u,w⟩:=h.push t J;refine⟨_,H',vp (v:=get F 7) rfl ?_ <| vp (v:=get F 9) rfl ?_ <| vp (v:=.int .i64 i) rfl ?_ <| vp (v:=p) rfl ?_ <| vp (v:=.agg c) rfl ?_ <| iQ (v:=.hsl H.length 2 0 1) (H1:=H++[.row 2 [c]]) rfl ?_ <| iQ (v:=.hsl (H.length+1) 2 0 (l.length+1))  rfl ?_ <| vp (v:=.hsl (H.length+1) 2 0 (l.length+1)) rfl ?_ dG,?_,u,w,?_⟩
 .simp[bu,bn,bh]
 .simp[bu,bn,bh,bl]
 .simp[bu,bn,bh,bl,f10]
 .simp[bu,bn,bl,bp,bh];grind
 .simp[bu,bn,bl,bp];grind
 .simp[bu,bn,bl,bp,ig];simp[fQ,V.cells,Mk.val]
  grind
 .simp[bu,bn,bl,bp];omega
 .simp[bu,bn,bh,bl]
 .simp[bl,bp];omega
 .simp[bl,bp]
  grind
theorem T8 (f10:get F 10=.int .i64 i) (hk:i<=2147483648):∃F',cr E N call none Lm F H=some (F',H)/\get F' 10=.int .i64 ((i+1:Nat):Int)/\(∀s,s<11->s≠10->get F' s=get F s):=by
 have t:=vT hk;refine⟨_,vp (v:=.int .i64 i) rfl ?_ <| vp (v:=.int .i64 (i+1:Nat)) rfl ?_ <| vp (v:=.int .i64 (i+1:Nat)) rfl ?_ dG,?_,?_⟩
 .simp[bu,bn,bh,f10]
 .simp[bu,bn,bl,bp,bh,gj];grind
 .simp[bu,bn,bh,bl]
 .simp[bl]
 .simp[bl,bp]
  grind
structure P3 (l l9:List (List V)) (B i:Nat) (F:Frame) (H:bf):Prop where
 f10:get F 10=.int .i64 i
 t9:∃id9,jm H (get F 9) l9 id9/\∃id,jm H (get F 7) l id/\(∀off m,get F 7=.hsl id 2 off m->B<=id/\∀off' m',get F 9=.hsl id9 2 off' m'->id≠id9)
 len:B<=H.length
theorem S9 (D:List (List V)) (B:Nat) (W:D.length<=2147483648):∀(m i:Nat) (l:List (List V)) (F:Frame) (H:bf),i+m=D.length->l.length+m<=2147483648->P3 l D B i F H ->
 ∃F' H',ku E N L3 F H (.exit 4) F' H'/\(∃id,jm H' (get F' 7) (l++D.drop i) id/\∀off m,get F' 7=.hsl id 2 off m->B<=id)/\(∀s,s<7->get F' s=get F s)/\(∀j,j<B->H'[j]? = H[j]?)/\H.length<=H'.length:=by
 intro m
 induction m with
 | zero=>
  intro i l F H X Y p;obtain⟨t,t9,id,t7,z⟩:=p.t9;obtain⟨F1,e1,e2,e3⟩:=N_ (E:=E)  (call:=⟨0,λ_ _ _=>none⟩) p.f10 t9
  refine⟨F1,H,ku.stop (Ex.rX (Ex.seq (Ex.cM λc=>e1) (Ex.n_ ?_ Ex.exit)) (by simp)) (by simp),⟨id,?_,λoff m h=>?_⟩,λs Q=>e3 s (by omega),λ_ _=>rfl,Nat.le_refl _⟩
  .show get F1 64=_
   grind
  .grind
  grind
 | succ m Z=>
  intro i l F H X Y p;have w:i<D.length:=by omega
  obtain⟨t,t9,id,t7,z⟩:=p.t9;obtain⟨F1,e1,e2,e3⟩:=N_ (E:=E)  (call:=⟨0,λ_ _ _=>none⟩) p.f10 t9
  have hc:=ζd w;have A:jm H (get F1 7) l id:=by grind
  have C:jm H (get F1 9) D t:=by grind
  obtain⟨F2,H2,g1,g2,g3,g4,g5⟩:=Uh (E:=E)  (call:=⟨0,λ_ _ _=>none⟩) (by rw[e3 10 (by omega)];exact p.f10) A C hc (by omega)
  obtain⟨S,q1,q2,G⟩:=T8 (E:=E)  (call:=⟨0,λ_ _ _=>none⟩)    (by rw[g5 10 (by omega) (by omega),e3 10 (by omega)];exact p.f10) (by omega)
  have keep:∀j,j<H.length->(∀off m,get F 7=.hsl id 2 off m->j≠id)->H2[j]? = H[j]? := λj I h=>g4 j I (by grind)
  have J:P3 (l++[D[i]]) D B (i+1) S H2:=by
   refine⟨q2,⟨t,?_,H.length+1,by grind,λoff m h=>⟨by have:=p.len;omega,λu m' T=>?_⟩⟩,by have:=p.len;omega⟩
   .rw[G 9 (by omega) (by omega),g5 9 (by omega) (by omega),e3 9 (by omega)]
    exact t9.heap λoff n U=>keep t (t9.lt U) λu m' L=>Ne.symm ((z u m' L).2 off n U)
   .rw[G 9 (by omega) (by omega),g5 9 (by omega) (by omega),e3 9 (by omega)]at T
    have:=t9.lt T;omega
  obtain⟨F',H',r1,⟨O,r2,r3⟩,r4,r5,r6⟩:=Z (i+1) (l++[D[i]]) S H2 (by omega) (by simp;omega) J
  refine⟨F',H',ku.step (Ex.seq (Ex.seq (Ex.cM λc=>e1) (Ex.lq ?_ Ex.skip)) (Ex.seq (Ex.block (Ex.cM λc=>g1)) (Ex.cM λc=>q1))) r1,⟨O,?_,r3⟩,λs Q=>?_,λj I=>?_,by omega⟩
  .show get F1 64=_
   grind
  .rw[List.append_assoc]at r2;rw[List.drop_eq_getElem_cons w];exact r2
  .rw[r4 s Q,G s (by omega) (by omega),g5 s (by omega) (by omega),e3 s (by omega)]
  .have:=p.len;rw[r5 j I,keep j (by omega) λoff m h=>by have:=(z off m h).1;omega]
end
structure P2 (t:Trace) (out:List (List Bool)) (l:List aY) (F:Frame) (H:bf):Prop where
 f2:get F 2=.hptr 0 0 0
 h0:H[0]? = some (.row 1 [cells t])
 ns:∃B o ids id,kP H (get F 5) o ids (i_ out)/\(out≠[]->1<=o/\o<B)/\(∀id∈ids,1<=id/\id<B)/\1<=B/\B<=H.length/\jm H (get F 7) (l.map cells) id/\∀off m,get F 7=.hsl id 2 off m->B<=id
theorem Mh (out:List (List Bool)) (p j:Nat) (row:List Bool):i_ (out.set p (row.set j true))=(i_ out).set p ((row.map V.bool).set j (.bool true)):=by
 simp[i_]
theorem Gb {out:List (List Bool)}:i_ out=[]↔out=[]:=by simp[i_]
theorem My {dir:aY->Option (Sl aY)} {out:List (List Bool)} {y:aY} {rest:List aY} {w:Fw (List (List Bool)×List aY) (List (List Bool)) Empty} (h:mV dir (out,y::rest)=some w) :
 ∃(p j:Nat) (row:List Bool) (b:Bool),y.proc=p/\y.index=j/\out[p]? = some row/\row[j]? = some b/\((b=true/\w=.n (out,rest))\/(b=false/\∃more,dir y=some more/\rest.length+more.l.length<=2147483648/\w=.n (out.set p (row.set j true),rest++more.l))):=by
 simp only[mV]at h;split at h
 .obtain⟨row,h1,h⟩:=ζg.1 h;obtain⟨b,t,h⟩:=ζg.1 h;refine⟨y.proc.toNat,y.index.toNat,row,b,by omega,by omega,h1,t,?_⟩
  cases b with
  | true=>simp[bq]at h;grind
  | false=>
   obtain⟨more,u,h⟩:=ζg.1 h
   grind
 simp_all
theorem HJ {E:Env} {N:Nat->FuncId} {t:Trace} {dir:aY->Option (Sl aY)} (hd:E.keep (N 161)=true) (hD:DN E N t dir):∀(k:Nat) (out:List (List Bool)) (l:List aY) (D:List (List Bool)) (F:Frame) (H:bf),
 iM (mV dir) k (out,l)=some (.x D)->P2 t out l F H->∃F' H',ku E N L2 F H (.exit 2) F' H'/\P2 t D [] F' H':=by
 intro k
 induction k with
 | zero=>intro out l D F H h;simp[iM]at h
 | succ k ih=>
  intro out l D F H h p;obtain⟨B,o,ids,id,n1,n2,W,n4,n5,t7,t8⟩:=p.ns;obtain⟨F1,e1,e2,e3⟩:=x8 (E:=E) (N:=N) (call:=⟨0,λ_ _ _=>none⟩) t7
  rw[List.length_map]at e2
  cases l with
  | nil=>
   simp only[iM,mV]at h;cases h;refine⟨F1,H,ku.stop (Ex.rX (Ex.seq (Ex.cM λc=>e1) (Ex.n_ ?_ Ex.exit)) (by simp)) (by simp),?_⟩
   .show get F1 35=_;rw[e2];simp
   .exact⟨by rw[e3 2 (by omega)];exact p.f2,p.h0,B,o,ids,id,by rw[e3 5 (by omega)];exact n1,n2,W,n4,n5,by rw[e3 7 (by omega)];exact t7,by rw[e3 7 (by omega)];exact t8⟩
  | cons y rest=>
   simp only[iM]at h
   cases I:mV dir (out,y::rest)with
   | none=>rw[I]at h;cases h
   | some w=>
   rw[I]at h;obtain⟨q,j,row,b,hq,hj,u,hb,J⟩:=My I;have L:jm H (get F1 7) (cells y::rest.map cells) id:=by rw[e3 7 (by omega)];exact t7
   obtain⟨F2,g1,g2,g3⟩:=x9 (E:=E) (N:=N) (call:=⟨0,λ_ _ _=>none⟩) L
   have aa:jm (H++[.row 2 [cells y]]) (get F2 7) (cells y::rest.map cells) id:=by rw[g3 7 (by omega) (by omega)];exact L.more _
   obtain⟨F3,i1,i2,⟨C,m1,ab,i3,i4⟩,i5⟩:=Uj (E:=E) (N:=N) (call:=⟨0,λ_ _ _=>none⟩) aa
   have O:(H++[Ob.row 2 [cells y]])[H.length]? = some (.row 2 [cells y]):=by simp
   have f8:get F3 8=.hptr H.length 0 0:=by rw[i5 8 (by omega) (by omega)];exact g2
   have f5:get F3 5=get F 5:=by rw[i5 5 (by omega) (by omega),g3 5 (by omega) (by omega),e3 5 (by omega)]
   have f2:get F3 2=.hptr 0 0 0:=by rw[i5 2 (by omega) (by omega),g3 2 (by omega) (by omega),e3 2 (by omega)];exact p.f2
   have Q:kP (H++[.row 2 [cells y]]) (get F3 5) o ids (i_ out):=by rw[f5];exact n1.more _
   have hr:(i_ out)[q]? = some (row.map V.bool):=by simp[i_,u]
   have hu:(row.map V.bool)[j]? = some (.bool b):=by simp[hb]
   have S:B<=id:=by
    have:get F 7=.hsl id 2 C m1:=by rw[<-i3,g3 7 (by omega) (by omega),e3 7 (by omega)]
    exact t8 _ _ this
   obtain⟨F4,j1,j2,z⟩:=Re (E:=E) (N:=N) (call:=⟨0,λ_ _ _=>none⟩) f8 O Q hq hj hr hu
   have ad:bn N F1 (.s 35)=.bool true:=by show get F1 35=_;rw[e2];simp
   rcases J with⟨rfl,rfl⟩|⟨rfl,more,hm,aq,rfl⟩
   .simp only at h;have T:P2 t out rest F4 (H++[.row 2 [cells y]]):=by
     refine⟨by rw[z 2 (by omega)];exact f2,by rw[List.getElem?_append_left (ζe.1 p.h0).1];exact p.h0,B,o,ids,id,by rw[z 5 (by omega)];exact Q,n2,W,n4,by simp;omega,by rw[z 7 (by omega)];exact i2,λoff m _=>S⟩
    obtain⟨F',H',r1,r2⟩:=ih out rest D F4 _ h T;exact⟨F',H',ku.step (Ex.seq (Ex.seq (Ex.cM λc=>e1) (Ex.lq ad Ex.skip)) (Ex.sR (Ex.seq (Ex.cM λc=>g1) (Ex.seq (Ex.cM λc=>i1) (Ex.rX (Ex.seq (Ex.nR rfl λc=>j1) (Ex.lq j2 Ex.exit)) (by simp)))))) r1,r2⟩
   .simp only at h;have n6:kP (H++[.row 2 [cells y]]) (get F4 5) o ids (i_ out):=by rw[z 5 (by omega)];exact Q
    obtain⟨F5,A,k1,k2,k3,k4,k5⟩:=T9 (E:=E) (N:=N) (call:=⟨0,λ_ _ _=>none⟩) (by rw[z 8 (by omega)];exact f8) O n6 hq hj hr hu
    have G:∀i,B<=i->i∉ids:=λi hi hm=>by have:=(W i hm).2;omega
    have ah:A[H.length]? = some (.row 2 [cells y]):=by rw[k4 _ (G _ n5)];exact O
    have U:A[0]? = some (.row 1 [cells t]):=by
     rw[k4 0 (λhm=>by have:=(W 0 hm).1;omega),List.getElem?_append_left (ζe.1 p.h0).1];exact p.h0
    obtain⟨w9,X,ai,aj,m2,m3,_⟩:=TF (a:=0) (d:=0) (F:=F5) hd hD hm (by rw[k5 2 (by omega),z 2 (by omega)];exact f2) U ah
    obtain⟨Y,⟨nn,ak⟩,ae,o3⟩:=m3 (by rw[k5 8 (by omega),z 8 (by omega)];exact f8)
    have au:A.length=H.length+1:=by rw[k3];simp
    have i7:get Y 7=.hsl id 2 ab (rest.map cells).length:=by rw[o3 7 (by omega) (by omega),k5 7 (by omega),z 7 (by omega)];exact i4
    have ar:id<H.length:=by
     have:=L.lt (off:=C) (m:=m1) (by rw[<-i3,g3 7 (by omega) (by omega)])
     exact this
    have t6:jm (A++X) (get Y 7) (rest.map cells) id:=by
     have:get Y 7=get F3 7:=by rw[o3 7 (by omega) (by omega),k5 7 (by omega),z 7 (by omega)]
     rw[this];refine(i2.heap (H':=A) λoff n _=>k4 id (G id S)).more X
    have al:∃Z,(∀c,cr E N c none AI Y (A++X)=some (Z,A++X))/\get Z 10=.int .i64 ((0:Nat):Int)/\∀s,s<10->get Z s=get Y s:=
     ⟨set Y 10 (.int .i64 0),λc=>by simp[AI,cr,bu,bn,bh,bl],by simp,λs hs=>by rw[bp,if_neg (by omega)]⟩
    obtain⟨Z,u1,u2,u3⟩:=al;have am:P3 (rest.map cells) (more.l.map cells) B 0 Z (A++X):=by
     refine⟨u2,⟨ai,by rw[u3 9 (by omega),ae];exact aj,id,by rw[u3 7 (by omega)];exact t6,λoff m hh=>⟨S,λaf m' h'=>?_⟩⟩,by simp;omega⟩
     rw[u3 9 (by omega),ae]at h'
     have:=m2 af m' h';omega
    obtain⟨F8,H8,v1,⟨an,v2,v3⟩,v4,v5,v6⟩:=S9 (E:=E) (N:=N) (more.l.map cells) B (by simp;omega) (more.l.map cells).length 0 (rest.map cells) Z (A++X) (by omega) (by simp;omega) am
    have ao:kP H8 (get F8 5) o ids (i_ (out.set q (row.set j true))):=by
     have h5:get F8 5=get F5 5:=by rw[v4 5 (by omega),u3 5 (by omega),o3 5 (by omega) (by omega)]
     rw[h5,Mh];refine(k2.more X).heap (λap=>v5 o ?_) λi hi=>v5 i (W i hi).2
     have:out≠[]:=by intro e;subst e;simp at u
     exact(n2 this).2
    have T:P2 t (out.set q (row.set j true)) (rest++more.l) F8 H8:=by
     refine⟨by rw[v4 2 (by omega),u3 2 (by omega),o3 2 (by omega) (by omega),k5 2 (by omega),z 2 (by omega)];exact f2,?_,B,o,ids,an,ao,λap=>n2 (by intro e;subst e;simp at u),W,n4,by simp at v6;omega,?_,v3⟩
     .rw[v5 0 (by omega),List.getElem?_append_left (ζe.1 U).1];exact U
     .rw[List.drop_zero]at v2;rw[List.map_append];exact v2
    obtain⟨F',H',w1,w2⟩:=ih _ _ D F8 H8 h T;exact⟨F',H',ku.step (Ex.seq (Ex.seq (Ex.cM λc=>e1) (Ex.lq ad Ex.skip)) (Ex.block (Ex.seq (Ex.cM λc=>g1) (Ex.seq (Ex.cM λc=>i1) (Ex.seq (Ex.seq (Ex.nR rfl λc=>j1) (Ex.n_ j2 Ex.skip)) (Ex.seq (Ex.nR rfl λc=>k1)
     (Ex.seq (Ex.ops ⟨nn,ak⟩) (Ex.seq (Ex.cM u1) (Ex.sR (Ex.loop v1))))))))) ) w1,w2⟩
theorem Oz {H:bf} {Z:Nat->Prop} {id:Nat} {r:List Bool} (B:Z id) (h:H[id]? = some (.row 1 (ir (r.map V.bool)))):FR H Z (enc (Sl.row r)) (.hsl id 1 0 r.length):=by
 have hr:bk H id=some (1,ir (r.map V.bool)):=by simp[bk,h,Ob.rows]
 have A:enc (Sl.row r)=.fsl 1 (rows r):=rfl;have C:(rows r).length=r.length:=by simp[rows]
 have hc:ir (r.map V.bool)=rows r:=by simp[ir,rows,Function.comp_def]
 rw[hc]at hr;rw[A,<-C];refine .fsl 1 (rows r) id 0 (rows r) B hr (by omega) (λi a b h1 t=>?_) (λi j a b u v h1 t w z=>?_)
 .grind
 .rw[Nat.zero_add,h1]at t;cases t;rw[w]at z;cases z;refine .same u ?_;obtain⟨c,D,rfl⟩:∃c∈r,a=[V.bool c]:=by
   have:=List.mem_of_getElem? h1;simp only[rows,List.mem_map]at this;obtain⟨c,hc,rfl⟩:=this;simp_all
  have:=List.mem_of_getElem? w;simp at this;subst this;rfl
theorem LR {H:bf} {w:V} {o:Nat} {ids:List Nat} {out:List (List Bool)} (n:kP H w o ids (i_ out)):∃Z,FR H Z (enc (nested out)) w/\(∀id,Z id->(bk H id).isSome=true)/\Deep H Z:=by
 have hv:=n.v
 by_cases L:out=[]
 .subst L;rw[if_pos (show i_ []=[]from rfl)]at hv;subst hv;exact⟨λ_=>False,.same _ rfl,λ_ h=>h.elim,⟨λ_ _ _ h=>h.elim⟩⟩
 .have D:i_ out≠[]:=λh=>L (Gb.1 h)
  rw[if_neg D,tX]at hv;subst hv;have O:=n.ob D;have G:=n.len;rw[tX]at G;have z:∀(i id:Nat) (r:List Bool),ids[i]? = some id->out[i]? = some r->H[id]? = some (.row 1 (ir (r.map V.bool))):=λi id r h1 B=>n.r i id _ h1 (by simp[i_,B])
  have A:∀(i:Nat) (c:List V),(refs ids (i_ out))[i]? = some c->∃id r,ids[i]? = some id/\out[i]? = some r/\c=[.hsl id 1 0 r.length]:=λi c h=>by
   have C:=(ζe.1 h).1;rw[rW n.len,tX]at C;have h1:=ζd (show i<ids.length from by omega)
   have B:=ζd C;have Q:=Af (rows:=i_ out) (r:=out[i].map V.bool) h1 (by simp[i_,B])
   grind
  have I:bk H o=some (1,refs ids (i_ out)):=by simp[bk,O,Ob.rows]
  have J:∀id∈ids,∃(r:List Bool),H[id]? = some (.row 1 (ir (r.map V.bool))):=λid t=>by
   obtain⟨i,C⟩:=List.getElem?_of_mem t;have S:=(ζe.1 C).1;exact⟨_,z i id _ C (ζd (show i<out.length from by omega))⟩
  refine⟨λid=>id=o\/id∈ids,?_,λid h=>?_,⟨λid es ys h hr c hc u hu=>?_⟩⟩
  .have X:enc (nested out)=.fsl 1 (rows (out.map Sl.row)):=by rw[nested,if_neg L];rfl
   have S:(rows (out.map Sl.row)).length=out.length:=by simp[rows]
   rw[X,<-S];refine .fsl 1 _ o 0 (refs ids (i_ out)) (.inl rfl) I (by rw[S,rW n.len,tX];omega) (λi a b h1 B=>?_) (λi j a b u v h1 B Q W=>?_)
   .rw[Nat.zero_add]at B;obtain⟨id,r,_,hr,rfl⟩:=A i b B;simp[rows,hr]at h1;subst h1;rfl
   .rw[Nat.zero_add]at B;obtain⟨id,r,t,hr,rfl⟩:=A i b B;have Y:a=[enc (Sl.row r)]:=by simp[rows,hr]at h1;exact h1.symm
    subst Y
    cases j with
    | zero=>
     simp at Q W;subst Q W;exact Oz (.inr (List.mem_of_getElem? t)) (z i id r t hr)
    | succ j=>simp_all
  .rcases h with rfl|h
   .simp_all
   .obtain⟨r,hr⟩:=J id h;simp[bk,hr,Ob.rows]
  .rcases h with rfl|h
   .rw[I]at hr;cases hr;obtain⟨i,C⟩:=List.getElem?_of_mem hc;obtain⟨id,r,t,T,rfl⟩:=A i c C;simp at hu;subst hu;exact⟨_,Oz (.inr (List.mem_of_getElem? t)) (z i id r t T)⟩
   .obtain⟨r,U⟩:=J id h;have:bk H id=some (1,ir (r.map V.bool)):=by simp[bk,U,Ob.rows]
    rw[this]at hr;cases hr;simp only[ir,List.mem_map]at hc;obtain⟨_,⟨c',_,rfl⟩,rfl⟩:=hc;simp at hu;subst hu;exact⟨_,.same _ rfl⟩
theorem Pz {t:Trace} {x:aY} {out:List (List Bool)} {s:Sl aY} {dir:aY->Option (Sl aY)} (U:tS.keep (uC 161)=true) (W:DN tS uC t dir) (O:xD t=true) (hs:dir x=some s) (hw:bO (mV dir) (fN t,s.l)=some (.x out)) :
 vz tS (uC 117) [enc t,enc x] (enc (nested out)):=by
 obtain⟨fi,g1,g2,g3,g4⟩:=shape;obtain⟨k,hk⟩:=mL.1 hw;have b1:∃F1,(∀c,cr tS uC c none r1 [enc t,enc x] []=some (F1,[.row 1 [cells t],.row 2 [cells x]]))/\get F1 2=.hptr 0 0 0/\get F1 3=.hptr 1 0 0:=by
  refine⟨_,λc=>iQ (v:=.hptr 0 0 0) (H1:=[.row 1 [cells t]]) rfl ?_ <| iQ (v:=.hptr 1 0 0) (H1:=[.row 1 [cells t],.row 2 [cells x]]) rfl ?_ <| vp (v:=.bB) rfl ?_ dG,?_,?_⟩
  .show (ig .box [enc t]).map _=_;simp only[ig,ko,nL,if_true,Option.map_some,ez];rfl
  .simp only[bu,List.map_cons,List.map_nil,bn,bl,bp,Nat.reduceEqDiff,if_false];show (ig .box [enc x]).map _=_;simp only[ig,ko,nL,if_true,Option.map_some,ez];rfl
  .simp[bu,bn,bh]
  .simp[bl]
  .simp[bl]
 obtain⟨F1,c1,c2,c3⟩:=b1;have b3:∃G,(∀c,cr tS uC c none r2 F1 [.row 1 [cells t],.row 2 [cells x]]=some (set F1 5 .bB,[.row 1 [cells t],.row 2 [cells x]]))/\(∀c,cr tS uC c none r3 (set F1 5 .bB) [.row 1 [cells t],.row 2 [cells x]]=some (G,[.row 1 [cells t],.row 2 [cells x]]))/\P1 t x 0 G [.row 1 [cells t],.row 2 [cells x]]:=by
  refine⟨set (set F1 5 .bB) 6 (.int .i64 0),λc=>by simp[r2,cr,bu,bn,bh,bl],λc=>by simp[r3,cr,bu,bn,bh,bl],by simp[c2],by simp[c3],by simp,rfl,rfl,0,[],?_,λh=>absurd rfl h,λid h=>by simp at h⟩
  have:get (set (set F1 5 .bB) 6 (.int .i64 0)) 5=.bB:=by simp
  rw[this,List.take_zero];exact kP.nil _ 0
 obtain⟨G,d1,d2,d3⟩:=b3;obtain⟨F4,Q,e1,e2⟩:=HF (E:=tS) (N:=uC) O t.procs.l.length 0 G _ (by omega) d3
 obtain⟨o,ids,I,n2,n3⟩:=e2.ns;have S:(fN t).length=t.procs.l.length:=by simp[fN]
 rw[List.take_of_length_le (by omega)]at I
 obtain⟨w,X,id,m1,m2,_,m4⟩:=TF (a:=0) (d:=0) (F:=F4) (E:=tS) (N:=uC) U W hs e2.f2 e2.h0 (c:=1) e2.h1;obtain⟨T,o1,o2,o3⟩:=m4 e2.f3;have L:P2 t (fN t) s.l T (Q++X):=by
  refine⟨by rw[o3 2 (by omega) (by omega)];exact e2.f2,by rw[List.getElem?_append_left (ζe.1 e2.h0).1];exact e2.h0,Q.length,o,ids,id,by rw[o3 5 (by omega) (by omega)];exact I.more X,λu=>?_,λi Y=>⟨by have:=n3 i Y;omega,I.lt.2 i Y⟩,?_,by simp,by rw[o2];exact m1,λoff m h=>?_⟩
  .have z:i_ (fN t)≠[]:=λh=>u (Gb.1 h)
   have:t.procs.l.length≠0:=by intro h;apply u;exact List.eq_nil_of_length_eq_zero (by omega)
   have:=n2 this;exact⟨by omega,I.lt.1 z⟩
  .have:=(ζe.1 e2.h0).1;omega
  .rw[o2]at h;have:=m2 off m h;omega
 obtain⟨A,J,p1,p2⟩:=HJ U W k _ _ out T _ hk L;obtain⟨B,o',aa,ab,q1,_⟩:=p2.ns;have l1:∃C,(∀c,cr tS uC c none TA A J=some (C,J))/\get C 4=get A 5:=by
  refine⟨_,λc=>vp (v:=get A 5) rfl ?_ <| vp (v:=get A 5) rfl ?_ dG,?_⟩
  .simp[bu,bn,bh]
  .simp[bu,bn,bh,bl]
  .simp[bl]
 obtain⟨C,y1,y2⟩:=l1;have hex:Ex tS uC code [enc t,enc x] [] .ret C J:=
  Ex.seq (Ex.cM c1) (Ex.seq (Ex.cM d1) (Ex.seq (Ex.seq (Ex.cM d2) (Ex.sR (Ex.loop e1))) (Ex.seq (Ex.ops o1) (Ex.seq (Ex.sR (Ex.loop p1)) (Ex.seq (Ex.cM y1) Ex.ret)))))
 obtain⟨n,D⟩:=hex.run (nm:=some) yN g1 g2 (show [enc t,enc x].length<=fi.ntmps from g3) (vs:=[get C 4]) (by rw[g4];rfl)
 obtain⟨Z,z1,z2,z3⟩:=LR q1;exact⟨n,get A 5,J,Z,by rw[D,y2];rfl,z1,z2,z3⟩
theorem RP (l:List aY):∀c∈l.map (cells (α:=aY)),c.length=2/\c.all V.one=true/\c.all V.scalar=true:=λc hc=>by
 obtain⟨e,_,rfl⟩:=List.mem_map.1 hc;exact⟨rfl,rfl,rfl⟩
theorem S4 (t:Trace):DN tS uC t (dB t):=by
 intro y s H A;have h1:=xu t y;have G:=h1 (cQ s) (by rw[A];rfl)
 have hg:V.cq [enc t,enc y]=true:=by simp only[V.cq,gY,Bool.and_self]
 have w:s.k=.row\/s.k=.nil/\rows s.l=[]:=by
  have C:∀o z,(∃l,o=.row l)\/o=.nil->dB.J1 o t y=some z->(∃l,z=.row l)\/z=.nil:=λo z I u=>by
   unfold dB.J1 at u;obtain⟨e,_,u⟩:=ζg.1 u
   cases D:e.kind==3 with
   | true=>
    rw[D]at u;obtain⟨f,_,u⟩:=ζg.1 u;obtain⟨q,B,u⟩:=ζg.1 u;cases u;unfold fT at B;split at B
    .cases B;exact .inl ⟨_,rfl⟩
    .cases B
   | false=>rw[D]at u;cases u;exact I
  have:(∃l,s=.row l)\/s=.nil:=by
   unfold dB at A
   cases hc:decide (y.index>1)with
   | true=>rw[hc]at A;exact C _ s (.inl ⟨_,rfl⟩) A
   | false=>rw[hc]at A;exact C _ s (.inr rfl) A
  rcases this with⟨l,rfl⟩|rfl
  .exact .inl rfl
  .exact .inr ⟨rfl,rfl⟩
 obtain⟨n,z,H',r1,r2⟩:=QT DV zi (T:=Tx) (f:=uC 161) (rf:=ud (Tx 161)) (by kernel_rfl) hg (Nat.le_of_ble_eq_true (by kernel_rfl)) (k:=s.k) (es:=2) (xs:=rows s.l) (λc hc=>(RP s.l c hc).2.2) w G
 refine Eg (l:=s.l.map cells) (y:=z) (H1:=H') (by kernel_rfl) hg (RP s.l) ⟨n,λk hk=>(mb _ hk).go _ _ _ _ r1⟩ ?_ H
 rcases r2 with⟨J,rfl⟩|⟨id,rfl,L⟩
 .left;cases s <;> simp[Sl.k]at J;exact⟨rfl,rfl⟩
 .right;exact⟨id,by simp[rows],L⟩
end pastX
theorem Ly (t:Trace) (x:aY) (r:Sl (Sl Bool)) (h:lQ t x=some r):Sy.xq 117 [enc t,enc x]=some (enc r):=by
 unfold lQ at h;split at h
 .rename_i u;obtain⟨s,z,h⟩:=ζg.1 h;obtain⟨w,A,h⟩:=ζg.1 h
  cases w with
  | n a=>exact Empty.elim a
  | r e=>exact Empty.elim e
  | x out=>
   cases h;exact uV (pastX.Pz (by kernel_rfl) (pastX.S4 t) u z A)
 .cases h
end Go.VE
namespace Go.VE
noncomputable section
def rq:Option Bool:=some true
instance PS:Fc Sy cL rq:=⟨27,[],λr:Bool=>[.bool r],true,jL.xq (by kernel_rfl) (by kernel_rfl) K6⟩
namespace eZ
def br (s0:Sl Event) (D:Int) (B:Int) (p1:Event->Option Bool):Option (Fw Int Unit Int):=
 bq (decide (B<D))
 ((idx s0 B).bind λt=>
 (p1 t).bind λu=>
 bq u
 (some (.r B))
 (some (.n (IntKind.wrap .i64 (B+1)))))
 (some (.x ()))
def W1 (s0:Sl Event) (B D:Int) (p1:Event->Option Bool):Option Int:=
 (bO (λq:Int=>br s0 B q p1) D).bind (Fw.elim
 (λe=>some (-1))
 (λe=>some e))
end eZ
def eZ (s0:Sl Event) (p1:Event->Option Bool):Option Int:=
 eZ.W1 s0 (len s0) 0 p1
open eZ in
abbrev uu (g1:FuncId) (e1:List V) (p1:Event->Option Bool) (h1:tg Sy cL g1 [] e1 (λz:Event=>[enc z]) (λr:Bool=>[.bool r]) p1 true) (s0:Sl Event):Fc Sy cL (eZ s0 p1):=Fc.M 105 [enc s0,.clo g1 [] e1] (bR 9 s0 (d_ 5 (λu=>(bF [Cv 0 s0,(1,.v (.clo g1 [] e1)),Iv 7 (len s0),Iv 8 u] [])) (λt=>(0,(bF [] []))) (λt=>(bF [Iv 4 t] [])) (λu=>bC 7 9 (bY 16 λw _=>Bh 1 h1.f w λA _=>bC 2 16 a_ a_) a_) (λt=>a_) (λt=>a_)))
def gq (s0:Sl Event) (p1:Event->Option Bool):Option Bool:=
 (eZ s0 p1).bind λt=>
 some (decide (t>=0))
abbrev mI (g1:FuncId) (e1:List V) (p1:Event->Option Bool) (h1:tg Sy cL g1 [] e1 (λz:Event=>[enc z]) (λr:Bool=>[.bool r]) p1 true) (s0:Sl Event):Fc Sy cL (gq s0 p1):=Fc.M 57 [enc s0,.clo g1 [] e1] (bM (F:=uu g1 e1 p1 h1 s0) 9 λt _=>a_)
def pO (B:Event):Option Bool:=
 some (decide ((len B.assign)>12))
instance OB (B:Event):Fc Sy cL (pO B):=Fc.M 77 [enc B] (eu 2 1 B (bR 7 B.assign a_))
namespace fP
def br (s0:Sl Var) (D:Int) (B:Int) (p1:Var->Option Bool):Option (Fw Int Unit Int):=
 bq (decide (B<D))
 ((idx s0 B).bind λt=>
 (p1 t).bind λu=>
 bq u
 (some (.r B))
 (some (.n (IntKind.wrap .i64 (B+1)))))
 (some (.x ()))
def W1 (s0:Sl Var) (B D:Int) (p1:Var->Option Bool):Option Int:=
 (bO (λq:Int=>br s0 B q p1) D).bind (Fw.elim
 (λe=>some (-1))
 (λe=>some e))
end fP
def fP (s0:Sl Var) (p1:Var->Option Bool):Option Int:=
 fP.W1 s0 (len s0) 0 p1
open fP in
abbrev vq (g1:FuncId) (e1:List V) (p1:Var->Option Bool) (h1:tg Sy cL g1 [] e1 (λz:Var=>[enc z]) (λr:Bool=>[.bool r]) p1 true) (s0:Sl Var):Fc Sy cL (fP s0 p1):=Fc.M 124 [enc s0,.clo g1 [] e1] (bR 9 s0 (d_ 5 (λu=>(bF [Cv 0 s0,(1,.v (.clo g1 [] e1)),Iv 7 (len s0),Iv 8 u] [])) (λt=>(0,(bF [] []))) (λt=>(bF [Iv 4 t] [])) (λu=>bC 7 9 (bY 16 λw _=>Bh 1 h1.f w λA _=>bC 2 16 a_ a_) a_) (λt=>a_) (λt=>a_)))
def fL (s0:Sl Var) (p1:Var->Option Bool):Option Bool:=
 (fP s0 p1).bind λt=>
 some (decide (t>=0))
abbrev nY (g1:FuncId) (e1:List V) (p1:Var->Option Bool) (h1:tg Sy cL g1 [] e1 (λz:Var=>[enc z]) (λr:Bool=>[.bool r]) p1 true) (s0:Sl Var):Fc Sy cL (fL s0 p1):=Fc.M 78 [enc s0,.clo g1 [] e1] (bM (F:=vq g1 e1 p1 h1 s0) 9 λt _=>a_)
def pX (B:Var):Option Bool:=
 some (decide (((ByteArray.size B.name:Nat):Int)>40))
instance NW (B:Var):Fc Sy cL (pX B):=Fc.M 79 [enc B] (a_)
namespace ja
def br (B:Int) (U:Sl cm) (G:Int) (W:Trace) (O D:Int):Option (Fw (Int×Int) Unit Unit):=
 bq (decide (D<G))
 ((idx U D).bind λt=>
 (bq (decide ((IntKind.wrap .i64 (O+(len t.events)))>B))
 (some true)
 (some (decide ((len t.vars)>12))):Option Bool).bind λu=>
 (bq u
 (some true)
 (some (decide (((ByteArray.size t.name:Nat):Int)>40))):Option Bool).bind λw=>
 (bq w
 (some true)
 ((gq t.events (λz=>pO z)).bind λA=>
 some A):Option Bool).bind λC=>
 (bq C
 (some true)
 ((fL t.vars (λz=>pX z)).bind λI=>
 some I):Option Bool).bind λJ=>
 bq J
 (some (.r ()))
 (some (.n (IntKind.wrap .i64 (O+(len t.events)),IntKind.wrap .i64 (D+1)))))
 (some (.x ()))
def W1 (B O:Int) (U:Sl cm) (G J:Int) (D:Trace):Option Bool:=
 (bO (λq:Int×Int=>br B U G D q.1 q.2) (O,J)).bind (Fw.elim
 (λe=>some (decide ((len D.procs)<=10)))
 (λe=>some false))
end ja
def ja (D:Trace) (B:Int):Option Bool:=
 ja.W1 B 0 D.procs (len D.procs) 0 D
open ja in
instance Ro (D:Trace) (B:Int):Fc Sy cL (ja D B):=Fc.M 28 [enc D,.int .i64 B] (eu 2 2 D (bR 13 D.procs (d_ 5 (λu=>(bF [Iv 1 B,Pv 2,Iv 5 u.1,Cv 9 D.procs,Iv 10 (len D.procs),Iv 11 u.2] [Xb 2 D])) (λw=>(0,(bF [Pv 2] [Xb 2 D]))) (λw=>(bF [Bv 4 false] [])) (λu=>bC 7 12 (bY 7 λt _=>o8 2 7 0 t (bR 7 t.events (cF 10 5 [23] 28 (bC 10 23 (bL 5) (bR 2 t.vars (bL 2))) λA=>cF 1 5 [29] 34 (bC 1 29 (bL 5) (bL 5)) λC=>cF 1 4 [35] 39 (bC 1 35 (bL 4) (bM (F:=mI 77 [] (λz=>pO z) tg.zH t.events) 2 λG _=>bL 1)) λI=>cF 1 4 [7,40] 44 (bC 1 40 (bL 4) (bM (F:=nY 79 [] (λz=>pX z) tg.zH t.vars) 2 λJ _=>bL 1)) λL=>bC 2 44 a_ a_))) a_) (λw=>bR 6 D.procs a_) (λw=>a_))))
def ni (B:Int):Option Bool:=
 (bq (decide (B>=65))
 (some (decide (B<=90)))
 (some false):Option Bool).bind λt=>
 (bq t
 (some true)
 ((bq (decide (B>=97))
 (some (decide (B<=122)))
 (some false):Option Bool).bind λu=>
 some u):Option Bool).bind λw=>
 some w
instance Of (B:Int):Fc Sy cL (ni B):=Fc.M 192 [.int .u8 B] (cF 10 3 [5] 8 (bC 10 5 (bL 3) (bL 3)) λt=>cF 1 7 [0,9] 16 (bC 1 9 (bL 7) (cF 3 3 [0,12] 15 (bC 3 12 (bL 3) (bL 3)) λu=>bL 1)) λw=>a_)
def ru (B:Int):Option Bool:=
 (bq (decide (B>=48))
 (some (decide (B<=57)))
 (some false):Option Bool).bind λt=>
 some t
instance OU (B:Int):Fc Sy cL (ru B):=Fc.M 193 [.int .u8 B] (cF 10 3 [0,5] 8 (bC 10 5 (bL 3) (bL 3)) λt=>a_)
namespace fZ
def br (s0:ByteArray) (i3:Int):Option (Fw Int Unit Unit):=
 bq (decide (i3<((ByteArray.size s0:Nat):Int)))
 ((jF s0 i3).bind λw=>
 (ni w).bind λz=>
 (bq z
 (some false)
 ((jF s0 i3).bind λA=>
 (ru A).bind λB=>
 some (!B)):Option Bool).bind λC=>
 (bq C
 ((jF s0 i3).bind λt=>
 some (!(t==95)))
 (some false):Option Bool).bind λu=>
 bq u
 (some (.r ()))
 (some (.n (IntKind.wrap .i64 (i3+1)))))
 (some (.x ()))
def W1 (s0:ByteArray) (i3:Int):Option Bool:=
 (bO (λq:Int=>br s0 q) i3).bind (Fw.elim
 (λe=>some true)
 (λe=>some false))
end fZ
def fZ (s0:ByteArray):Option Bool:=
 (bq (decide (((ByteArray.size s0:Nat):Int)<1))
 (some true)
 (some (decide (((ByteArray.size s0:Nat):Int)>16))):Option Bool).bind λt=>
 (bq t
 (some true)
 ((jF s0 0).bind λu=>
 (ni u).bind λw=>
 some (!w)):Option Bool).bind λz=>
 bq z
 (some false)
 (fZ.W1 s0 1)
open fZ in
instance QI (s0:ByteArray):Fc Sy cL (fZ s0):=Fc.M 157 [.str s0] (cF 12 4 [7] 11 (bC 12 7 (bL 4) (bL 4)) λA=>cF 1 5 [12] 17 (bC 1 12 (bL 5) (yF 1 .i64 λB _=>bM 0 λC _=>bL 2)) λD=>bC 2 17 a_ (d_ 11 (λu=>(bF [(0,.v (.str s0)),Iv 3 u] [])) (λt=>(0,(bF [] []))) (λt=>(bF [Bv 2 false] [])) (λu=>bC 10 21 (yF 9 .i64 λG _=>bM 0 λI _=>cF 2 6 [29] 35 (dX 2 29 (bL 6) (yF 2 .i64 λJ _=>bM 0 λL _=>bL 2)) λO=>cF 1 5 [36] 41 (bC 1 36 (yF 2 .i64 λw _=>bL 2) (bL 5)) λz=>bC 2 41 a_ a_) a_) (λt=>a_) (λt=>a_)))
def ou (B:Int):Option Bool:=
 (bq (decide (B>=(-1073741824)))
 (some (decide (B<=1073741824)))
 (some false):Option Bool).bind λt=>
 some t
instance OT (B:Int):Fc Sy cL (ou B):=Fc.M 158 [.int .i64 B] (cF 10 3 [0,5] 8 (bC 10 5 (bL 3) (bL 3)) λt=>a_)
namespace dJ
def dM (G:Int) (B:cm) (D:Int):Option (Fw Int Unit Unit):=
 bq (decide (D<G))
 ((idx B.vars D).bind λt=>
 (idx B.vars G).bind λu=>
 bq (ByteArray.toList t.name==ByteArray.toList u.name)
 (some (.r ()))
 (some (.n (IntKind.wrap .i64 (D+1)))))
 (some (.x ()))
def W3 (D G:Int) (B:cm):Option (Fw Int Unit Int):=
 (bO (λq:Int=>dM D B q) G).bind (Fw.elim
 (λe=>(idx B.vars D).bind λt=>
 (ou t.init_).bind λu=>
 bq u
 (some (.n (IntKind.wrap .i64 (D+1))))
 (some (.r 2)))
 (λe=>some (.r 13)))
def ck (B:cm) (D:Int):Option (Fw Int Unit Int):=
 bq (decide (D<(len B.vars)))
 ((idx B.vars D).bind λt=>
 (fZ t.name).bind λu=>
 bq u
 (W3 D 0 B)
 (some (.r 13)))
 (some (.x ()))
def W2 (D:Int) (B:cm):Option Int:=
 (bO (λq:Int=>ck B q) D).bind (Fw.elim
 (λe=>bq (decide ((len B.events)>64))
 (some 5)
 (some 0))
 (λe=>some e))
def br (p1:Int) (B:Trace) (D:cm) (G:Int):Option (Fw Int Unit Unit):=
 bq (decide (G<p1))
 ((idx B.procs G).bind λt=>
 bq (ByteArray.toList t.name==ByteArray.toList D.name)
 (some (.r ()))
 (some (.n (IntKind.wrap .i64 (G+1)))))
 (some (.x ()))
def W1 (p1 G:Int) (D:Trace) (B:cm):Option Int:=
 (bO (λq:Int=>br p1 D B q) G).bind (Fw.elim
 (λe=>bq (decide ((len B.vars)>8))
 (some 5)
 (dJ.W2 0 B))
 (λe=>some 13))
end dJ
def dJ (B:Trace) (p1:Int):Option Int:=
 (idx B.procs p1).bind λt=>
 (fZ t.name).bind λu=>
 bq u
 (dJ.W1 p1 0 B t)
 (some 13)
open dJ in
instance QC (D:Trace) (p1:Int):Fc Sy cL (dJ D p1):=Fc.M 113 [enc D,.int .i64 p1] (eu 2 2 D (bY 8 λt _=>o8 2 5 0 t (bM 7 λG _=>dX 3 17 (d_ 11 (λB=>(bF [Iv 1 p1,Pv 2,Pv 5,Iv 6 B] [Xb 2 D,Xb 5 t])) (λz=>(0,(bF [Pv 5] [Xb 5 t]))) (λz=>(bF [Iv 4 13] [])) (λB=>bC 9 20 (bY 10 λI _=>bC 7 31 a_ a_) a_) (λz=>bR 7 t.vars (bC 3 35 a_ (d_ 11 (λu=>(bF [Pv 5,Iv 7 u] [Xb 5 t])) (λw=>(2,(bF [Pv 5] [Xb 5 t]))) (λw=>(bF [Iv 4 w] [])) (λu=>bR 7 t.vars (bC 3 40 (bY 11 λJ _=>bM 2 λL _=>dX 3 50 (d_ 11 (λC=>(bF [Pv 5,Iv 7 u,Iv 8 C] [Xb 5 t])) (λA=>(4,(bF [Pv 5,Iv 7 u] [Xb 5 t]))) (λA=>(bF [Iv 4 13] [])) (λC=>bC 9 53 (bY 10 λO _=>bY 5 λQ _=>bC 5 68 a_ a_) a_) (λA=>bY 7 λS _=>bM 2 λT _=>dX 3 76 a_ a_) (λA=>a_)) a_) a_)) (λw=>bR 7 t.events (bC 3 80 a_ a_)) (λw=>a_)))) (λz=>a_)) a_)))
namespace dO
def dM (p1 k8:Int) (J:Trace) (D:Event) (G:Assign) (B:Int):Option (Fw Int Unit Unit):=
 bq (decide (B<k8))
 ((idx D.assign B).bind λt=>
 bq (t.var==G.var)
 (some (.r ()))
 (some (.n (IntKind.wrap .i64 (B+1)))))
 (some (.x ()))
def W3 (p1 k8 B:Int) (D:Trace) (G:Event) (J:Assign):Option (Fw Int Unit Int):=
 (bO (λq:Int=>dM p1 k8 D G J q) B).bind (Fw.elim
 (λe=>some (.n (IntKind.wrap .i64 (k8+1))))
 (λe=>some (.r 8)))
def ck (p1:Int) (D:Trace) (B:Event) (k8:Int):Option (Fw Int Unit Int):=
 bq (decide (k8<(len B.assign)))
 ((idx B.assign k8).bind λt=>
 (bq (decide (t.var<0))
 (some true)
 ((idx D.procs p1).bind λu=>
 some (decide (t.var>=(len u.vars)))):Option Bool).bind λw=>
 (bq w
 (some true)
 ((ou t.value).bind λz=>
 some (!z)):Option Bool).bind λA=>
 bq A
 (some (.r 2))
 (W3 p1 k8 0 D B t))
 (some (.x ()))
def W2 (p1 k8:Int) (B:Trace) (D:Event):Option Int:=
 (bO (λq:Int=>ck p1 B D q) k8).bind (Fw.elim
 (λe=>some 0)
 (λe=>some e))
def J1 (p1 i2:Int) (D:Trace) (B:Event):Option Int:=
 (bq (decide (B.time<0))
 (some true)
 (some (decide (B.time>1099511627776))):Option Bool).bind λt=>
 (bq t
 (some true)
 ((bq (decide (i2>0))
 ((idx D.procs p1).bind λu=>
 (idx u.events (IntKind.wrap .i64 (i2-1))).bind λw=>
 some (decide (B.time<w.time)))
 (some false):Option Bool).bind λz=>
 some z):Option Bool).bind λA=>
 bq A
 (some 11)
 (bq (decide ((len B.assign)>8))
 (some 5)
 (dO.W2 p1 0 D B))
theorem uO (p1 i2:Int) (D:Trace) (B:Event):Le ((J1 p1 i2 D B).bind (λr=>some [.int .i64 r])) (b8 Sy cL (pg (tr Tx 114)) (mO (tb Tx 114) [1,1,1,0] [] (bF [Iv 1 p1,Iv 2 i2,Pv 3,Pv 7] [Xb 3 D,Xb 7 B]))):=
 cF 7 4 [71] 75 (bC 7 71 (bL 4) (bL 4)) λI=>cF 1 19 [2,76] 95 (bC 1 76 (bL 19) (cF 3 15 [2,79] 94 (bC 3 79 (bY 5 λJ _=>bY 4 λL _=>bL 4) (bL 15)) λO=>bL 1)) λQ=>bC 2 95 a_ (bR 8 B.assign (bC 3 99 a_ (d_ 11 (λt=>(bF [Iv 1 p1,Pv 3,Pv 7,Iv 8 t] [Xb 3 D,Xb 7 B])) (λu=>(0,(bF [] []))) (λu=>(bF [Iv 6 u] [])) (λt=>bR 7 B.assign (bC 3 104 (bY 10 λw _=>cF 12 11 [115] 126 (bC 12 115 (bL 11) (bY 5 λC _=>bR 2 C.vars (bL 2))) λS=>IJ 1 5 [130] (λz=>(bF [Iv 1 p1,Pv 3,Pv 7,Iv 8 t,Bv 104 true,Pv 9,Bv 132 z] [Xb 3 D,Xb 7 B,Xb 9 w])) (bC 1 127 (bL 5) (mw 2 λT _=>bL 2)) λz=>bC 2 132 a_ (d_ 10 (λG=>(bF [Iv 1 p1,Pv 3,Pv 7,Iv 8 t,Pv 9,Iv 10 G] [Xb 3 D,Xb 7 B,Xb 9 w])) (λA=>(2,(bF [Iv 1 p1,Pv 3,Pv 7,Iv 8 t] [Xb 3 D,Xb 7 B]))) (λA=>(bF [Iv 6 8] [])) (λG=>bC 9 135 (bY 10 λU _=>bC 7 146 a_ a_) a_) (λA=>a_) (λA=>a_))) a_)) (λu=>a_) (λu=>a_))))
end dO
def dO (B:Trace) (p1 i2:Int):Option Int:=
 (idx B.procs p1).bind λu=>
 (idx u.events i2).bind λt=>
 bq (t.kind==1)
 ((bq (t.peer==0)
 (some (!(t.message==0)))
 (some true):Option Bool).bind λw=>
 bq w
 (some 3)
 (dO.J1 p1 i2 B t))
 ((bq (t.kind==2)
 (some false)
 (some (!(t.kind==3))):Option Bool).bind λz=>
 (bq z
 (some true)
 (some (decide (t.peer<0))):Option Bool).bind λA=>
 (bq A
 (some true)
 (some (decide (t.peer>=(len B.procs)))):Option Bool).bind λC=>
 (bq C
 (some true)
 (some (t.peer==p1)):Option Bool).bind λD=>
 (bq D
 (some true)
 (some (decide (t.message<0))):Option Bool).bind λG=>
 (bq G
 (some true)
 (some (decide (t.message>199))):Option Bool).bind λI=>
 bq I
 (some 3)
 (dO.J1 p1 i2 B t))
open dO in
instance Qv (B:Trace) (p1 i2:Int):Fc Sy cL (dO B p1 i2):=Fc.M 114 [enc B,.int .i64 p1,.int .i64 i2] (eu 2 3 B (bY 8 λu _=>bY 3 λt _=>o8 2 7 0 t (bC 10 22 (cF 7 4 [26] 30 (dX 7 26 (bL 4) (bL 4)) λw=>bC 2 30 a_ (wH 4 (uO p1 i2 B t))) (cF 7 4 [34] 38 (dX 7 34 (bL 4) (bL 4)) λz=>cF 1 4 [39] 43 (bC 1 39 (bL 4) (bL 4)) λA=>cF 1 7 [44] 51 (bC 1 44 (bL 7) (bR 4 B.procs (bL 2))) λC=>cF 1 5 [52] 57 (bC 1 52 (bL 5) (bL 5)) λD=>cF 1 4 [58] 62 (bC 1 58 (bL 4) (bL 4)) λG=>cF 1 4 [63] 67 (bC 1 63 (bL 4) (bL 4)) λI=>bC 2 67 a_ (wH 4 (uO p1 i2 B t))))))
namespace gO
def br (G:Trace) (J:aY) (D:Event) (B:Bool) (O:Int):Option (Fw (Bool×Int) Bool Empty):=
 (idx G.procs D.peer).bind λu=>
 bq (decide (O<(len u.events)))
 ((idx G.procs D.peer).bind λw=>
 (idx w.events O).bind λt=>
 (bq B
 (some true)
 ((bq (t.kind==2)
 (some (t.message==D.message))
 (some false):Option Bool).bind λz=>
 (bq z
 (some (t.peer==J.proc))
 (some false):Option Bool).bind λA=>
 some A):Option Bool).bind λC=>
 some (.n (C,IntKind.wrap .i64 (O+1))))
 (some (.x B))
def W1 (B:Bool) (O:Int) (D:Trace) (G:aY) (J:Event):Option Int:=
 (bO (λq:Bool×Int=>br D G J q.1 q.2) (B,O)).bind (Fw.elim
 (λe=>bq e
 (some 0)
 (some 7))
 (λe=>Empty.elim e))
end gO
def gO (B:Trace) (D:aY):Option Int:=
 (sV B D).bind λt=>
 bq (t.kind==1)
 (some 0)
 ((dw B t.kind t.message).bind λu=>
 bq (G9 u D)
 (bq (t.kind==3)
 (gO.W1 false 0 B D t)
 (some 0))
 (some 8))
open gO in
instance OH (B:Trace) (D:aY):Fc Sy cL (gO B D):=Fc.M 115 [enc B,enc D] (eu 2 2 B (bM 8 λu _=>o8 1 5 0 u (bC 10 14 a_ (mw 11 λC _=>dX 4 22 (bC 11 25 (fD 14 (λt=>(bF [Pv 2,Pv 3,Pv 5,Bv 6 t.1,Iv 7 t.2] [Xb 2 B,Xb 3 D,Xb 5 u])) (λw=>(0,(bF [Bv 6 w] []))) (λt=>bY 9 λz _=>bR 2 z.events (bC 3 35 (bY 11 λG _=>bY 3 λA _=>o8 2 8 0 A (cF 5 18 [8,49] 67 (bC 5 49 (bL 18) (cF 4 6 [53] 59 (bC 4 53 (bL 6) (bL 6)) λI=>cF 1 6 [8,60] 66 (bC 1 60 (bL 6) (bL 6)) λJ=>bL 1)) λL=>a_)) a_)) (λw=>dX 8 69 a_ a_)) a_) a_))))
namespace dS
def J4 (B:Sl Int) (p5:Int) (D:Trace):Option (Fw ((Sl Int)×Bool) ((Sl Int)×Bool) Empty):=
 (Sl.jf B p5).bind λt=>
 (Sl.get B t).bind λu=>
 (Sl.jf B p5).bind λw=>
 (Sl.put B w (IntKind.wrap .i64 (u+1):Int)).bind λz=>
 some (.n (z,true))
def dM (p5:Int) (G:Trace) (B:Sl Int) (D:Bool):Option (Fw ((Sl Int)×Bool) ((Sl Int)×Bool) Empty):=
 (Sl.jf B p5).bind λA=>
 (Sl.get B A).bind λC=>
 (idx G.procs p5).bind λI=>
 bq (decide (C<(len I.events)))
 ((idx G.procs p5).bind λJ=>
 (Sl.jf B p5).bind λL=>
 (Sl.get B L).bind λO=>
 (idx J.events O).bind λt=>
 bq (t.kind==3)
 ((dw G 2 t.message).bind λu=>
 (Sl.jf B u.proc).bind λw=>
 (Sl.get B w).bind λz=>
 bq (decide (z<u.index))
 (some (.x (B,D)))
 (J4 B p5 G))
 (J4 B p5 G))
 (some (.x (B,D)))
def W3 (D:Sl Int) (B:Bool) (p5:Int) (G:Trace):Option (Fw ((Sl Int)×Bool×Int) ((Sl Int)×Bool) Empty):=
 (bO (λq:(Sl Int)×Bool=>dM p5 G q.1 q.2) (D,B)).bind (Fw.elim
 (λe=>some (.n (e.1,e.2,IntKind.wrap .i64 (p5+1))))
 (λe=>Empty.elim e))
def ck (G:Trace) (D:Sl Int) (B:Bool) (p5:Int):Option (Fw ((Sl Int)×Bool×Int) ((Sl Int)×Bool) Empty):=
 bq (decide (p5<(len G.procs)))
 (W3 D B p5 G)
 (some (.x (D,B)))
def W2 (D:Sl Int) (B:Bool) (p5:Int) (G:Trace):Option (Fw (Sl Int) (Sl Int) Empty):=
 (bO (λq:(Sl Int)×Bool×Int=>ck G q.1 q.2.1 q.2.2) (D,B,p5)).bind (Fw.elim
 (λe=>bq e.2
 (some (.n e.1))
 (some (.x e.1)))
 (λe=>Empty.elim e))
def oR (B:Sl Int) (D:Trace) (G:Int):Option (Fw Int Unit Unit):=
 bq (decide (G<(len D.procs)))
 ((Sl.jf B G).bind λt=>
 (Sl.get B t).bind λu=>
 (idx D.procs G).bind λw=>
 bq (decide (u<(len w.events)))
 (some (.r ()))
 (some (.n (IntKind.wrap .i64 (G+1)))))
 (some (.x ()))
def W5 (B:Sl Int) (G:Int) (D:Trace):Option Bool:=
 (bO (λq:Int=>oR B D q) G).bind (Fw.elim
 (λe=>some true)
 (λe=>some false))
def br (D:Trace) (B:Sl Int):Option (Fw (Sl Int) (Sl Int) Empty):=
 W2 B false 0 D
def W1 (B:Sl Int) (D:Trace):Option Bool:=
 (bO (λq:Sl Int=>br D q) B).bind (Fw.elim
 (λe=>dS.W5 e 0 D)
 (λe=>Empty.elim e))
end dS
def dS (B:Trace):Option Bool:=
 (ov (len B.procs) (0:Int)).bind λt=>
 dS.W1 t B
open dS in
instance MN (B:Trace):Fc Sy cL (dS B):=Fc.M 116 [enc B] (eu 2 1 B (bR 7 B.procs (Hp 0 12 λab _=>fD 7 (λJ=>(bF [Pv 1,Ov 3] [Xb 1 B,Lb 2003 J])) (λA=>(0,(bF [Pv 1,Ov 3] [Xb 1 B,Lb 2003 A]))) (λJ=>fD 17 (λu=>(bF [Pv 1,Ov 3,Bv 4 u.2.1,Iv 5 u.2.2] [Xb 1 B,Lb 2003 u.1])) (λC=>(2,(bF [Pv 1,Ov 3,Bv 4 C.2] [Xb 1 B,Lb 2003 C.1]))) (λu=>bR 8 B.procs (bC 3 17 (fD 8 (λD=>(bF [Pv 1,Ov 3,Bv 4 D.2,Iv 5 u.2.2] [Xb 1 B,Lb 2003 D.1])) (λG=>(4,(bF [Pv 1,Ov 3,Bv 4 G.2,Iv 5 u.2.2] [Xb 1 B,Lb 2003 G.1]))) (λD=>jy .i64 7 2003 λad _=>o_ 0 2003 0 1 false (λL=>.int .i64 L) λL _=>bY 3 λX _=>bR 2 X.events (bC 3 31 (bY 9 λae _=>jy .i64 4 2003 λaf _=>o_ 0 2003 0 1 false (λO=>.int .i64 O) λO _=>bY 0 λY _=>o8 2 6 0 Y (bC 10 46 (bM 6 λah _=>jy .i64 9 2003 λZ _=>o_ 0 2003 0 1 false (λw=>.int .i64 w) λw _=>bC 5 58 a_ (xN 5 (jy .i64 4 2003 λQ _=>o_ 0 2003 0 1 false (λt=>.int .i64 t) λt _=>jy .i64 1 2003 λS _=>tU 0 2003 (.int .i64 (IntKind.wrap .i64 (t+1))) λT _=>a_))) (xN 5 (jy .i64 4 2003 λQ _=>o_ 0 2003 0 1 false (λt=>.int .i64 t) λt _=>jy .i64 1 2003 λS _=>tU 0 2003 (.int .i64 (IntKind.wrap .i64 (t+1))) λT _=>a_)))) a_)) (λG=>a_)) a_)) (λC=>dX 8 66 a_ a_)) (λA=>d_ 11 (λU=>(bF [Pv 1,Ov 3,Iv 8 U] [Xb 1 B,Lb 2003 A])) (λI=>(6,(bF [] []))) (λI=>(bF [Bv 2 false] [])) (λU=>bR 8 B.procs (bC 3 71 (jy .i64 9 2003 λaa _=>o_ 0 2003 0 1 false (λz=>.int .i64 z) λz _=>bY 3 λW _=>bR 2 W.events (bC 3 85 a_ a_)) a_)) (λI=>a_) (λI=>a_)))))
instance QF (t:Trace) (x:aY):Fc Sy cL (lQ t x):=Fc.of (A:=λz:Trace×aY=>[enc z.1,enc z.2]) (E:=λr:Sl (Sl Bool)=>[enc r]) (p:=λz=>lQ z.1 z.2) (n:=117) (z:=(t,x)) (jL.LN (by kernel_rfl) (by kernel_rfl) (λz r hr=>Ly z.1 z.2 r hr))
namespace cI
def dM (p6:Int) (B:Trace) (G:aY) (D:Int):Option (Fw Int Unit (Int×aY)):=
 (idx B.procs p6).bind λu=>
 bq (decide (D<(len u.events)))
 ((dO B p6 D).bind λt=>
 bq (t==0)
 (some (.n (IntKind.wrap .i64 (D+1))))
 (some (.r (t,(⟨p6,IntKind.wrap .i64 (D+1)⟩:aY)))))
 (some (.x ()))
def W3 (p6 G:Int) (B:Trace) (D:aY):Option (Fw Int Unit (Int×aY)):=
 (bO (λq:Int=>dM p6 B D q) G).bind (Fw.elim
 (λe=>some (.n (IntKind.wrap .i64 (p6+1))))
 (λe=>some (.r (e.1,e.2))))
def oR (G:Int) (D:Trace) (J:aY) (B:Int):Option (Fw Int Unit (Int×aY)):=
 (idx D.procs G).bind λu=>
 bq (decide (B<(len u.events)))
 ((gO D (⟨G,IntKind.wrap .i64 (B+1)⟩:aY)).bind λt=>
 bq (t==0)
 (some (.n (IntKind.wrap .i64 (B+1))))
 (some (.r (t,(⟨G,IntKind.wrap .i64 (B+1)⟩:aY)))))
 (some (.x ()))
def W5 (J B:Int) (D:Trace) (G:aY):Option (Fw Int Unit (Int×aY)):=
 (bO (λq:Int=>oR J D G q) B).bind (Fw.elim
 (λe=>some (.n (IntKind.wrap .i64 (J+1))))
 (λe=>some (.r (e.1,e.2))))
def Hu (D:Int) (G:Trace) (J:aY) (B:Int):Option (Fw Int Unit aY):=
 (idx G.procs D).bind λu=>
 bq (decide (B<(len u.events)))
 ((lQ G (⟨D,IntKind.wrap .i64 (B+1)⟩:aY)).bind λw=>
 (idx w D).bind λz=>
 (idx z (IntKind.wrap .i64 (B+1))).bind λt=>
 bq t
 (some (.r (⟨D,IntKind.wrap .i64 (B+1)⟩:aY)))
 (some (.n (IntKind.wrap .i64 (B+1)))))
 (some (.x ()))
def W7 (B D:Int) (G:Trace) (J:aY):Option (Fw Int Unit aY):=
 (bO (λq:Int=>Hu B G J q) D).bind (Fw.elim
 (λe=>some (.n (IntKind.wrap .i64 (B+1))))
 (λe=>some (.r e)))
def G_ (B:Trace) (G:aY) (D:Int):Option (Fw Int Unit aY):=
 bq (decide (D<(len B.procs)))
 (W7 D 0 B G)
 (some (.x ()))
def W6 (B:Int) (D:Trace) (G:aY):Option (aY×Int):=
 (bO (λq:Int=>G_ D G q) B).bind (Fw.elim
 (λe=>some (⟨0,0⟩,0))
 (λe=>some (e,10)))
def nF (B:Trace) (D:aY) (G:Int):Option (Fw Int Unit (Int×aY)):=
 bq (decide (G<(len B.procs)))
 (W5 G 0 B D)
 (some (.x ()))
def W4 (G:Int) (B:Trace) (D:aY):Option (aY×Int):=
 (bO (λq:Int=>nF B D q) G).bind (Fw.elim
 (λe=>(dS B).bind λt=>
 bq t
 (some (⟨0,0⟩,0))
 (cI.W6 0 B D))
 (λe=>some (e.2,e.1)))
def ck (B:Trace) (D:aY) (p6:Int):Option (Fw Int Unit (Int×aY)):=
 bq (decide (p6<(len B.procs)))
 (W3 p6 0 B D)
 (some (.x ()))
def W2 (p6:Int) (B:Trace) (D:aY):Option (aY×Int):=
 (bO (λq:Int=>ck B D q) p6).bind (Fw.elim
 (λe=>cI.W4 0 B D)
 (λe=>some (e.2,e.1)))
def br (B:Trace) (D:aY) (p4:Int):Option (Fw Int Unit (Int×aY)):=
 bq (decide (p4<(len B.procs)))
 ((dJ B p4).bind λt=>
 bq (t==0)
 (some (.n (IntKind.wrap .i64 (p4+1))))
 (some (.r (t,(⟨p4,0⟩:aY)))))
 (some (.x ()))
def W1 (p4:Int) (B:Trace) (D:aY):Option (aY×Int):=
 (bO (λq:Int=>br B D q) p4).bind (Fw.elim
 (λe=>cI.W2 0 B D)
 (λe=>some (e.2,e.1)))
end cI
def cI (B:Trace):Option (aY×Int):=
 (bq (decide ((len B.procs)<1))
 (some true)
 (some (decide ((len B.procs)>8))):Option Bool).bind λt=>
 bq t
 (some (⟨0,0⟩,1))
 (cI.W1 0 B (⟨0,0⟩:aY))
open cI in
instance OM (B:Trace):Fc Sy cL (cI B):=Fc.M 70 [enc B] (eu 2 1 B (bR 9 B.procs (cF 2 5 [20] 25 (bC 2 20 (bL 5) (bR 2 B.procs (bL 2))) λZ=>bC 2 25 a_ (d_ 11 (λL=>(bF [Pv 1,Pv 2,Iv 4 L] [Xb 1 B,Xb 2 (⟨0,0⟩:aY)])) (λt=>(0,(bF [Pv 1,Pv 2] [Xb 1 B,Xb 2 (⟨0,0⟩:aY)]))) (λt=>(bF [Pv 2,Iv 3 t.1] [Xb 2 t.2])) (λL=>bR 7 B.procs (bC 3 31 (bM 9 λaa _=>dX 9 38 a_ a_) a_)) (λt=>d_ 10 (λC=>(bF [Pv 1,Pv 2,Iv 6 C] [Xb 1 B,Xb 2 (⟨0,0⟩:aY)])) (λu=>(2,(bF [Pv 1,Pv 2] [Xb 1 B,Xb 2 (⟨0,0⟩:aY)]))) (λu=>(bF [Pv 2,Iv 3 u.1] [Xb 2 u.2])) (λC=>bR 7 B.procs (bC 3 46 (d_ 12 (λO=>(bF [Pv 1,Pv 2,Iv 6 C,Iv 7 O] [Xb 1 B,Xb 2 (⟨0,0⟩:aY)])) (λw=>(4,(bF [Pv 1,Pv 2,Iv 6 C] [Xb 1 B,Xb 2 (⟨0,0⟩:aY)]))) (λw=>(bF [Pv 2,Iv 3 w.1] [Xb 2 w.2])) (λO=>bY 8 λT _=>bR 2 T.events (bC 3 57 (bM 10 λab _=>dX 9 65 a_ a_) a_)) (λw=>a_) (λw=>a_)) a_)) (λu=>d_ 10 (λD=>(bF [Pv 1,Pv 2,Iv 9 D] [Xb 1 B,Xb 2 (⟨0,0⟩:aY)])) (λz=>(6,(bF [Pv 1,Pv 2] [Xb 1 B,Xb 2 (⟨0,0⟩:aY)]))) (λz=>(bF [Pv 2,Iv 3 z.1] [Xb 2 z.2])) (λD=>bR 7 B.procs (bC 3 75 (d_ 12 (λQ=>(bF [Pv 1,Pv 2,Iv 9 D,Iv 10 Q] [Xb 1 B,Xb 2 (⟨0,0⟩:aY)])) (λA=>(8,(bF [Pv 1,Pv 2,Iv 9 D] [Xb 1 B,Xb 2 (⟨0,0⟩:aY)]))) (λA=>(bF [Pv 2,Iv 3 A.1] [Xb 2 A.2])) (λQ=>bY 8 λU _=>bR 2 U.events (bC 3 86 (bM 19 λad _=>dX 9 97 a_ a_) a_)) (λA=>a_) (λA=>a_)) a_)) (λz=>bM 6 λX _=>bC 2 101 a_ (d_ 11 (λG=>(bF [Pv 1,Pv 2,Iv 13 G] [Xb 1 B,Xb 2 (⟨0,0⟩:aY)])) (λI=>(10,(bF [Pv 2] [Xb 2 (⟨0,0⟩:aY)]))) (λI=>(bF [Pv 2,Iv 3 10] [Xb 2 I])) (λG=>bR 7 B.procs (bC 3 107 (d_ 12 (λS=>(bF [Pv 1,Pv 2,Iv 13 G,Iv 14 S] [Xb 1 B,Xb 2 (⟨0,0⟩:aY)])) (λJ=>(12,(bF [Pv 1,Pv 2,Iv 13 G] [Xb 1 B,Xb 2 (⟨0,0⟩:aY)]))) (λJ=>(bF [Pv 2,Iv 3 10] [Xb 2 J])) (λS=>bY 8 λW _=>bR 2 W.events (bC 3 118 (bM 19 λae _=>bY 1 λaf _=>bY 3 λY _=>bC 3 134 a_ a_) a_)) (λJ=>a_) (λJ=>a_)) a_)) (λI=>a_) (λI=>a_))) (λz=>a_)) (λu=>a_)) (λt=>a_)))))
def oH (B:Trace):Option Bool:=
 (cI B).bind λt=>
 some (t.2==0)
instance Qf (B:Trace):Fc Sy cL (oH B):=Fc.M 16 [enc B] (eu 2 1 B (bM 6 λt _=>a_))
def pz (B:Sl Int) (p1:Int):Option (Sl Int):=
 (mq (Sl.row []:Sl Int) B).bind λt=>
 (Sl.jf t p1).bind λu=>
 (Sl.get t u).bind λw=>
 (Sl.jf t p1).bind λz=>
 (Sl.put t z (IntKind.wrap .i64 (w+1):Int)).bind λA=>
 some A
instance QN (B:Sl Int) (p1:Int):Fc Sy cL (pz B p1):=Fc.N 73 [enc B,.int .i64 p1] (vM 9 6 8 λu _=>jy .i64 9 8 λw _=>o_ 0 8 0 1 false (λt=>.int .i64 t) λt _=>jy .i64 1 8 λz _=>tU 0 8 (.int .i64 (IntKind.wrap .i64 (t+1))) λA _=>a_)
namespace lg
def br (B:Sl Int) (D:Trace) (p5:Int):Option (Fw Int Unit Unit):=
 bq (decide (p5<(len B)))
 ((idx B p5).bind λt=>
 (bq (decide (t<0))
 (some true)
 ((idx B p5).bind λu=>
 (idx D.procs p5).bind λw=>
 some (decide (u>(len w.events)))):Option Bool).bind λz=>
 bq z
 (some (.r ()))
 (some (.n (IntKind.wrap .i64 (p5+1)))))
 (some (.x ()))
def W1 (B:Sl Int) (p5:Int) (D:Trace):Option Bool:=
 (bO (λq:Int=>br B D q) p5).bind (Fw.elim
 (λe=>some true)
 (λe=>some false))
end lg
def lg (D:Trace) (B:Sl Int):Option Bool:=
 bq ((len B)==(len D.procs))
 (lg.W1 B 0 D)
 (some false)
open lg in
instance RB (D:Trace) (B:Sl Int):Fc Sy cL (lg D B):=Fc.M 119 [enc D,enc B] (eu 2 2 D (bR 7 B (bR 2 D.procs (dX 3 11 (d_ 11 (λu=>(bF [Cv 1 B,Pv 2,Iv 5 u] [Xb 2 D])) (λt=>(0,(bF [] []))) (λt=>(bF [Bv 4 false] [])) (λu=>bR 6 B (bC 3 15 (bY 9 λz _=>cF 3 13 [23] 36 (bC 3 23 (bL 13) (bY 2 λA _=>bY 4 λw _=>bR 2 w.events (bL 2))) λC=>bC 2 36 a_ a_) a_)) (λt=>a_) (λt=>a_)) a_))))
namespace dA
def ck (B:Sl Int) (p5:Int) (D:Trace) (G:Int):Option (Fw Int Unit Unit):=
 (idx B p5).bind λw=>
 bq (decide (G<w))
 ((idx D.procs p5).bind λz=>
 (idx z.events G).bind λt=>
 bq (t.kind==3)
 ((dw D 2 t.message).bind λu=>
 (idx B u.proc).bind λA=>
 bq (decide (u.index>A))
 (some (.r ()))
 (some (.n (IntKind.wrap .i64 (G+1)))))
 (some (.n (IntKind.wrap .i64 (G+1)))))
 (some (.x ()))
def W2 (B:Sl Int) (p5 G:Int) (D:Trace):Option (Fw Int Unit Unit):=
 (bO (λq:Int=>ck B p5 D q) G).bind (Fw.elim
 (λe=>some (.n (IntKind.wrap .i64 (p5+1))))
 (λe=>some (.r ())))
def br (B:Sl Int) (D:Trace) (p5:Int):Option (Fw Int Unit Unit):=
 bq (decide (p5<(len B)))
 (W2 B p5 0 D)
 (some (.x ()))
def W1 (B:Sl Int) (p5:Int) (D:Trace):Option Bool:=
 (bO (λq:Int=>br B D q) p5).bind (Fw.elim
 (λe=>some true)
 (λe=>some false))
end dA
def dA (D:Trace) (B:Sl Int):Option Bool:=
 dA.W1 B 0 D
open dA in
instance Jy (D:Trace) (B:Sl Int):Fc Sy cL (dA D B):=Fc.M 120 [enc D,enc B] (eu 2 2 D (d_ 11 (λt=>(bF [Cv 1 B,Pv 2,Iv 5 t] [Xb 2 D])) (λu=>(0,(bF [] []))) (λu=>(bF [Bv 4 false] [])) (λt=>bR 6 B (bC 3 12 (d_ 12 (λz=>(bF [Cv 1 B,Pv 2,Iv 5 t,Iv 6 z] [Xb 2 D])) (λw=>(2,(bF [Cv 1 B,Pv 2,Iv 5 t] [Xb 2 D]))) (λw=>(bF [Bv 4 false] [])) (λz=>bY 7 λC _=>bC 4 20 (bY 10 λG _=>bY 3 λA _=>o8 2 7 0 A (bC 9 34 (bM 6 λI _=>bY 11 λJ _=>bC 4 46 a_ a_) a_)) a_) (λw=>a_) (λw=>a_)) a_)) (λu=>a_) (λu=>a_)))
def uD (B:Trace) (D:Sl Int):Option Bool:=
 (lg B D).bind λt=>
 (bq t
 ((dA B D).bind λu=>
 some u)
 (some false):Option Bool).bind λw=>
 some w
instance Sh (B:Trace) (D:Sl Int):Fc Sy cL (uD B D):=Fc.M 72 [enc B,enc D] (eu 2 2 B (bM 7 λt _=>cF 1 4 [1,2,8] 12 (bC 1 8 (bM 2 λu _=>bL 1) (bL 4)) λw=>a_))
namespace iw
def br (G:Sl Int) (D:Trace) (B:Sl (Sl Int)) (p6:Int):Option (Fw ((Sl (Sl Int))×Int) (Sl (Sl Int)) Empty):=
 bq (decide (p6<(len G)))
 ((idx G p6).bind λt=>
 (idx D.procs p6).bind λu=>
 (bq (decide (t<(len u.events)))
 ((pz G p6).bind λw=>
 (uD D w).bind λz=>
 some z)
 (some false):Option Bool).bind λA=>
 bq A
 ((pz G p6).bind λC=>
 (fT B (C:Sl Int)).bind λI=>
 some (.n (I,IntKind.wrap .i64 (p6+1))))
 (some (.n (B,IntKind.wrap .i64 (p6+1)))))
 (some (.x B))
def W1 (G:Sl Int) (B:Sl (Sl Int)) (p6:Int) (D:Trace):Option (Sl (Sl Int)):=
 (bO (λq:(Sl (Sl Int))×Int=>br G D q.1 q.2) (B,p6)).bind (Fw.elim
 (λe=>some e)
 (λe=>Empty.elim e))
end iw
def iw (B:Trace) (D:Sl Int):Option (Sl (Sl Int)):=
 iw.W1 D (Sl.nil:Sl (Sl Int)) 0 B
open iw in
instance Qz (B:Trace) (D:Sl Int):Fc Sy cL (iw B D):=Fc.N 20 [enc B,enc D] (eu 2 2 B (fD 17 (λt=>(bF [Cv 1 D,Pv 2,Ov 5,Iv 6 t.2] [Xb 2 B,Lb 2005 t.1])) (λu=>(0,(bF [Ov 5] [Lb 2005 u]))) (λt=>bR 7 D (bC 3 10 (bY 9 λC _=>bY 4 λz _=>bR 2 z.events (IJ 2 6 [30,29] (λw=>(bF [Cv 1 D,Pv 2,Ov 5,Iv 6 t.2,Bv 10 true,Bv 31 w] [Xb 2 B,Lb 2005 t.1])) (bC 2 25 (bM 3 λG _=>mw 0 λI _=>bL 1) (bL 6)) λw=>bC 2 31 (bM 5 λA _=>uB 0 36 ([A]:List (Sl Int)) (mE 0 2005 36 37 λJ _=>a_)) a_)) a_)) (λu=>a_)))
namespace e_
def br (B:Sl Int) (D i4:Int):Option (Fw (Int×Int) Int Empty):=
 bq (decide (i4<(len B)))
 ((idx B i4).bind λt=>
 some (.n (IntKind.wrap .i64 (D+t),IntKind.wrap .i64 (i4+1))))
 (some (.x D))
def W1 (B:Sl Int) (D i4:Int):Option Int:=
 (bO (λq:Int×Int=>br B q.1 q.2) (D,i4)).bind (Fw.elim
 (λe=>some e)
 (λe=>Empty.elim e))
end e_
def e_ (B:Sl Int):Option Int:=
 e_.W1 B 0 0
open e_ in
instance Qs (B:Sl Int):Fc Sy cL (e_ B):=Fc.M 132 [enc B] (fD 18 (λt=>(bF [Cv 0 B,Iv 3 t.1,Iv 4 t.2] [])) (λu=>(0,(bF [Iv 3 u] []))) (λt=>bR 6 B (bC 3 8 (bY 9 λw _=>a_) a_)) (λu=>a_))
namespace fU
def br (a0 D:Sl Int) (B:Int):Option (Fw Int Unit Bool):=
 bq (decide (B<(len a0)))
 ((idx a0 B).bind λt=>
 (idx D B).bind λu=>
 bq (t==u)
 (some (.n (IntKind.wrap .i64 (B+1))))
 ((idx a0 B).bind λw=>
 (idx D B).bind λz=>
 some (.r (decide (w<z)))))
 (some (.x ()))
def W1 (a0 B:Sl Int) (D:Int):Option Bool:=
 (bO (λq:Int=>br a0 B q) D).bind (Fw.elim
 (λe=>some false)
 (λe=>some e))
end fU
def fU (a0 B:Sl Int):Option Bool:=
 (e_ a0).bind λt=>
 (e_ B).bind λu=>
 bq (t==u)
 (fU.W1 a0 B 0)
 ((e_ a0).bind λw=>
 (e_ B).bind λz=>
 some (decide (w<z)))
open fU in
instance N8 (a0 B:Sl Int):Fc Sy cL (fU a0 B):=Fc.M 134 [enc a0,enc B] (bM 9 λw _=>bM 1 λz _=>dX 3 10 (d_ 11 (λu=>(bF [Cv 0 a0,Cv 1 B,Iv 5 u] [])) (λt=>(0,(bF [] []))) (λt=>(bF [Bv 4 t] [])) (λu=>bR 6 a0 (bC 3 19 (bY 9 λA _=>bY 3 λC _=>dX 4 30 a_ (bY 5 λD _=>bY 3 λG _=>a_)) a_)) (λt=>a_) (λt=>a_)) (bM 4 λI _=>bM 1 λJ _=>a_))
namespace dz
def br (a0 D:Sl Int) (B:Int):Option (Fw Int Unit Unit):=
 bq (decide (B<(len a0)))
 ((idx a0 B).bind λt=>
 (idx D B).bind λu=>
 bq (t==u)
 (some (.n (IntKind.wrap .i64 (B+1))))
 (some (.r ())))
 (some (.x ()))
def W1 (a0 B:Sl Int) (D:Int):Option Bool:=
 (bO (λq:Int=>br a0 B q) D).bind (Fw.elim
 (λe=>some true)
 (λe=>some false))
end dz
def dz (a0 B:Sl Int):Option Bool:=
 bq ((len a0)==(len B))
 (dz.W1 a0 B 0)
 (some false)
open dz in
instance Ls (a0 B:Sl Int):Fc Sy cL (dz a0 B):=Fc.M 74 [enc a0,enc B] (bR 9 a0 (bR 1 B (dX 3 10 (d_ 11 (λu=>(bF [Cv 0 a0,Cv 1 B,Iv 5 u] [])) (λt=>(0,(bF [] []))) (λt=>(bF [Bv 4 false] [])) (λu=>bR 6 a0 (bC 3 14 (bY 9 λw _=>bY 3 λz _=>dX 4 25 a_ a_) a_)) (λt=>a_) (λt=>a_)) a_)))
namespace fS
def br (D:Sl (Sl Int)) (G:Sl Int) (B:Int):Option (Fw Int Int Empty):=
 (bq (decide (B<(len D)))
 ((idx D B).bind λt=>
 (fU t G).bind λu=>
 some u)
 (some false):Option Bool).bind λw=>
 bq w
 (some (.n (IntKind.wrap .i64 (B+1))))
 (some (.x B))
def W1 (B:Sl (Sl Int)) (G:Sl Int) (D:Int):Option (Sl (Sl Int)):=
 (bO (λq:Int=>br B G q) D).bind (Fw.elim
 (λe=>(bq (decide (e<(len B)))
 ((idx B e).bind λw=>
 (dz w G).bind λz=>
 some z)
 (some false):Option Bool).bind λA=>
 bq A
 (some B)
 ((fR B none (some e)).bind λC=>
 (mq (Sl.row []:Sl (Sl Int)) C).bind λI=>
 (fT I (G:Sl Int)).bind λJ=>
 (fR B (some e) none).bind λt=>
 (mq J t).bind λu=>
 some u))
 (λe=>Empty.elim e))
end fS
def fS (B:Sl (Sl Int)) (D:Sl Int):Option (Sl (Sl Int)):=
 fS.W1 B D 0
open fS in
instance N0 (B:Sl (Sl Int)) (D:Sl Int):Fc Sy cL (fS B D):=Fc.N 91 [enc B,enc D] (fD 13 (λu=>(bF [Cv 0 B,Cv 1 D,Iv 5 u] [])) (λt=>(0,(bF [Cv 0 B,Cv 1 D,Iv 5 t] []))) (λu=>bR 6 B (cF 2 7 [11] 18 (bC 2 11 (bY 2 λA _=>bM 2 λC _=>bL 1) (bL 7)) λG=>bC 2 18 a_ a_)) (λt=>bR 7 B (cF 2 7 [25] 32 (bC 2 25 (bY 2 λI _=>bM 2 λJ _=>bL 1) (bL 7)) λL=>bC 2 32 a_ (uB 5 34 ([]:List (Sl Int)) (Ej 2 false true [.int .i64 t] λO _=>vM 0 34 38 λQ _=>uB 7 41 ([D]:List (Sl Int)) (mE 0 38 41 42 λS _=>Ej 8 true false [.int .i64 t] λw _=>vM 0 42 47 λz _=>a_))))))
namespace dN
def dM (D G:Sl (Sl Int)) (U:Int) (J:Sl (Sl Int)) (O:Trace) (B:Sl (Sl Int)) (k9:Int):Option (Fw ((Sl (Sl Int))×Int) (Sl (Sl Int)) Empty):=
 bq (decide (k9<(len J)))
 ((idx J k9).bind λt=>
 (fS B t).bind λu=>
 some (.n (u,IntKind.wrap .i64 (k9+1))))
 (some (.x B))
def W3 (B G D:Sl (Sl Int)) (O:Int) (U:Sl (Sl Int)) (k9:Int) (J:Trace):Option (Fw ((Sl (Sl Int))×Int) (Sl (Sl Int)) Empty):=
 (bO (λq:(Sl (Sl Int))×Int=>dM B G O U J q.1 q.2) (D,k9)).bind (Fw.elim
 (λe=>some (.n (e,IntKind.wrap .i64 (O+1))))
 (λe=>Empty.elim e))
def ck (B G:Sl (Sl Int)) (J:Trace) (D:Sl (Sl Int)) (O:Int):Option (Fw ((Sl (Sl Int))×Int) (Sl (Sl Int)) Empty):=
 bq (decide (O<(len B)))
 ((idx B O).bind λt=>
 (iw J t).bind λu=>
 W3 B G D O u 0 J)
 (some (.x D))
def W2 (B D G:Sl (Sl Int)) (O:Int) (J:Trace):Option (Fw ((Sl (Sl Int))×(Sl (Sl Int))) (Sl (Sl Int)) Unit):=
 (bO (λq:(Sl (Sl Int))×Int=>ck B D J q.1 q.2) (G,O)).bind (Fw.elim
 (λe=>some (.n (e,D)))
 (λe=>Empty.elim e))
def br (G:Trace) (B D:Sl (Sl Int)):Option (Fw ((Sl (Sl Int))×(Sl (Sl Int))) (Sl (Sl Int)) Unit):=
 bq (decide ((len B)>0))
 ((mq D B).bind λt=>
 bq (decide ((len t)>5000))
 (some (.r ()))
 (W2 B t (Sl.nil:Sl (Sl Int)) 0 G))
 (some (.x D))
def W1 (B D:Sl (Sl Int)) (G:Trace):Option ((Sl (Sl Int))×Bool):=
 (bO (λq:(Sl (Sl Int))×(Sl (Sl Int))=>br G q.1 q.2) (B,D)).bind (Fw.elim
 (λe=>some (e,true))
 (λe=>some ((Sl.nil:Sl (Sl Int)),false)))
end dN
def dN (B:Trace):Option ((Sl (Sl Int))×Bool):=
 (ov (len B.procs) (0:Int)).bind λt=>
 dN.W1 (Sl.row [t]:Sl (Sl Int)) (Sl.nil:Sl (Sl Int)) B
open dN in
instance Qx (B:Trace):Fc Sy cL (dN B):=Fc.N 42 [enc B] (eu 2 1 B (bR 8 B.procs (Hp 0 13 λI _=>uB 1 14 ([I]:List (Sl Int)) (d_ 13 (λt=>(bF [Pv 1,Cv 4 t.1,Ov 5] [Xb 1 B,Lb 2005 t.2])) (λz=>(0,(bF [Ov 5] [Lb 2005 z]))) (λz=>(bF [Ov 2,Bv 3 false] [Lb 2002 (Sl.nil:Sl (Sl Int))])) (λt=>bR 7 t.1 (bC 3 17 (vM 8 2005 20 λu _=>Bm 7 20 u (bC 3 23 a_ (fD 18 (λw=>(bF [Pv 1,Cv 4 t.1,Ov 5,Cv 6 w.1,Iv 7 w.2] [Xb 1 B,Lb 2005 u])) (λC=>(2,(bF [Pv 1,Ov 5,Cv 6 C] [Xb 1 B,Lb 2005 u]))) (λw=>bR 8 t.1 (bC 3 27 (bY 10 λJ _=>bM 1 λD _=>fD 12 (λA=>(bF [Pv 1,Cv 4 t.1,Ov 5,Cv 6 A.1,Iv 7 w.2,Cv 8 D,Iv 9 A.2] [Xb 1 B,Lb 2005 u])) (λG=>(4,(bF [Pv 1,Cv 4 t.1,Ov 5,Cv 6 G,Iv 7 w.2] [Xb 1 B,Lb 2005 u]))) (λA=>bR 8 D (bC 3 39 (bY 9 λL _=>bM 1 λO _=>a_) a_)) (λG=>a_)) a_)) (λC=>a_)))) a_)) (λz=>a_) (λz=>a_)))))
def uw (B:Trace):Option Bool:=
 (dN B).bind λt=>
 (bq t.2
 (some (decide ((len t.1)<=400)))
 (some false):Option Bool).bind λu=>
 some u
instance O3 (B:Trace):Fc Sy cL (uw B):=Fc.M 30 [enc B] (eu 2 1 B (bM 6 λt _=>cF 11 4 [3,11] 15 (bC 11 11 (bR 1 t.1 (bL 2)) (bL 4)) λu=>a_))
def lK (G D B:Int):Option Bool:=
 (bq (decide (G>=D))
 (some (decide (G<=B)))
 (some false):Option Bool).bind λt=>
 some t
instance Td (G D B:Int):Fc Sy cL (lK G D B):=Fc.M 148 [.int .i64 G,.int .i64 D,.int .i64 B] (cF 11 4 [0,2,10] 14 (bC 11 10 (bL 4) (bL 4)) λt=>a_)
def oB (B:Int):Option Bool:=
 (bq (decide (B>=97))
 (some (decide (B<=122)))
 (some false):Option Bool).bind λt=>
 (bq t
 (some true)
 ((bq (decide (B>=65))
 (some (decide (B<=90)))
 (some false):Option Bool).bind λu=>
 some u):Option Bool).bind λw=>
 some w
instance OQ (B:Int):Fc Sy cL (oB B):=Fc.M 216 [.int .u8 B] (cF 10 3 [5] 8 (bC 10 5 (bL 3) (bL 3)) λt=>cF 1 7 [0,9] 16 (bC 1 9 (bL 7) (cF 3 3 [0,12] 15 (bC 3 12 (bL 3) (bL 3)) λu=>bL 1)) λw=>a_)
def sC (B:Int):Option Bool:=
 (bq (decide (B>=48))
 (some (decide (B<=57)))
 (some false):Option Bool).bind λt=>
 some t
instance Qw (B:Int):Fc Sy cL (sC B):=Fc.M 217 [.int .u8 B] (cF 10 3 [0,5] 8 (bC 10 5 (bL 3) (bL 3)) λt=>a_)
namespace fE
def br (s0:ByteArray) (D:Int) (B:Int):Option (Fw Int Unit Unit):=
 bq (decide (B<D))
 ((jF s0 B).bind λw=>
 (oB w).bind λz=>
 (bq z
 (some false)
 ((jF s0 B).bind λA=>
 (sC A).bind λC=>
 some (!C)):Option Bool).bind λG=>
 (bq G
 ((jF s0 B).bind λt=>
 some (!(t==95)))
 (some false):Option Bool).bind λu=>
 bq u
 (some (.r ()))
 (some (.n (IntKind.wrap .i64 (B+1)))))
 (some (.x ()))
def W1 (s0:ByteArray) (B D:Int):Option Bool:=
 (bO (λq:Int=>br s0 B q) D).bind (Fw.elim
 (λe=>some true)
 (λe=>some false))
end fE
def fE (s0:ByteArray):Option Bool:=
 (bq (ByteArray.toList s0==ByteArray.toList ByteArray.empty)
 (some true)
 (some (decide (((ByteArray.size s0:Nat):Int)>16))):Option Bool).bind λt=>
 (bq t
 (some true)
 ((jF s0 0).bind λu=>
 (oB u).bind λw=>
 some (!w)):Option Bool).bind λz=>
 bq z
 (some false)
 (fE.W1 s0 ((ByteArray.size s0:Nat):Int) 0)
open fE in
instance PT (s0:ByteArray):Fc Sy cL (fE s0):=Fc.M 178 [.str s0] (cF 11 4 [6] 10 (bC 11 6 (bL 4) (bL 4)) λA=>cF 1 5 [11] 16 (bC 1 11 (bL 5) (yF 1 .i64 λB _=>bM 0 λC _=>bL 2)) λD=>bC 2 16 a_ (d_ 13 (λu=>(bF [(0,.v (.str s0)),Iv 18 ((ByteArray.size s0:Nat):Int),Iv 19 u] [])) (λt=>(0,(bF [] []))) (λt=>(bF [Bv 2 false] [])) (λu=>bC 7 20 (yF 15 .i64 λG _=>bM 0 λI _=>cF 2 6 [27] 33 (dX 2 27 (bL 6) (yF 2 .i64 λJ _=>bM 0 λL _=>bL 2)) λO=>cF 1 5 [3,34] 39 (bC 1 34 (yF 2 .i64 λw _=>bL 2) (bL 5)) λz=>bC 2 39 a_ a_) a_) (λt=>a_) (λt=>a_)))
def iN (B D:cm):Option Bool:=
 some (ByteArray.toList B.name==ByteArray.toList D.name)
instance Gf (B D:cm):Fc Sy cL (iN B D):=Fc.M 179 [enc B,.fptr (cells D)] (eu 2 2 B a_)
namespace fF
def br (s0:Sl cm) (D:Int) (B:Int) (p1:cm->Option Bool):Option (Fw Int Unit Int):=
 bq (decide (B<D))
 ((idx s0 B).bind λt=>
 (p1 t).bind λu=>
 bq u
 (some (.r B))
 (some (.n (IntKind.wrap .i64 (B+1)))))
 (some (.x ()))
def W1 (s0:Sl cm) (B D:Int) (p1:cm->Option Bool):Option Int:=
 (bO (λq:Int=>br s0 B q p1) D).bind (Fw.elim
 (λe=>some (-1))
 (λe=>some e))
end fF
def fF (s0:Sl cm) (p1:cm->Option Bool):Option Int:=
 fF.W1 s0 (len s0) 0 p1
open fF in
abbrev uy (g1:FuncId) (e1:List V) (p1:cm->Option Bool) (h1:tg Sy cL g1 [] e1 (λz:cm=>[enc z]) (λr:Bool=>[.bool r]) p1 true) (s0:Sl cm):Fc Sy cL (fF s0 p1):=Fc.M 104 [enc s0,.clo g1 [] e1] (bR 9 s0 (d_ 5 (λu=>(bF [Cv 0 s0,(1,.v (.clo g1 [] e1)),Iv 7 (len s0),Iv 8 u] [])) (λt=>(0,(bF [] []))) (λt=>(bF [Iv 4 t] [])) (λu=>bC 7 9 (bY 16 λw _=>Bh 1 h1.f w λA _=>bC 2 16 a_ a_) a_) (λt=>a_) (λt=>a_)))
def gN (s0:Sl cm) (p1:cm->Option Bool):Option Bool:=
 (fF s0 p1).bind λt=>
 some (decide (t>=0))
abbrev s6 (g1:FuncId) (e1:List V) (p1:cm->Option Bool) (h1:tg Sy cL g1 [] e1 (λz:cm=>[enc z]) (λr:Bool=>[.bool r]) p1 true) (s0:Sl cm):Fc Sy cL (gN s0 p1):=Fc.M 55 [enc s0,.clo g1 [] e1] (bM (F:=uy g1 e1 p1 h1 s0) 9 λt _=>a_)
def iK (B D:Var):Option Bool:=
 some (ByteArray.toList B.name==ByteArray.toList D.name)
instance Ge (B D:Var):Fc Sy cL (iK B D):=Fc.M 180 [enc B,.fptr (cells D)] (a_)
namespace dW
def br (D:Sl Var) (G:Int) (J:cm) (B:Int):Option (Fw Int Unit Int):=
 bq (decide (B<G))
 ((idx D B).bind λt=>
 (fE t.name).bind λA=>
 (bq A
 ((fR J.vars none (some B)).bind λC=>
 (fL C (λz=>iK z t)).bind λI=>
 some I)
 (some true):Option Bool).bind λu=>
 bq u
 (some (.r 13))
 ((lK t.init_ (-1073741824) 1073741824).bind λw=>
 bq w
 (some (.n (IntKind.wrap .i64 (B+1))))
 (some (.r 2))))
 (some (.x ()))
def W1 (D:Sl Var) (G J:Int) (B:cm):Option Int:=
 (bO (λq:Int=>br D G B q) J).bind (Fw.elim
 (λe=>bq (decide ((len B.events)>64))
 (some 5)
 (some 0))
 (λe=>some e))
end dW
def dW (D:Trace) (p1:Int):Option Int:=
 (idx D.procs p1).bind λt=>
 (fE t.name).bind λu=>
 (bq u
 ((fR D.procs none (some p1)).bind λw=>
 (gN w (λz=>iN z t)).bind λA=>
 some A)
 (some true):Option Bool).bind λB=>
 bq B
 (some 13)
 (bq (decide ((len t.vars)>8))
 (some 5)
 (dW.W1 t.vars (len t.vars) 0 t))
open dW in
instance I_ (B:Trace) (p1:Int):Fc Sy cL (dW B p1):=Fc.M 149 [enc B,.int .i64 p1] (eu 2 2 B (bY 8 λt _=>o8 2 5 0 t (bM 8 λJ _=>cF 2 7 [1,2,18] 25 (dX 2 18 (Ej 3 false true [.int .i64 p1] λC _=>mw (F:=s6 179 [.fptr (cells t)] (λz=>iN z t) tg.zH C) 1 λL _=>bL 1) (bL 7)) λO=>bC 3 13 a_ (bR 5 t.vars (bC 4 26 a_ (bR 9 t.vars (d_ 5 (λw=>(bF [Pv 5,Cv 32 t.vars,Iv 33 (len t.vars),Iv 34 w] [Xb 5 t])) (λu=>(1,(bF [Pv 5] [Xb 5 t]))) (λu=>(bF [Iv 4 u] [])) (λw=>bC 7 35 (bY 8 λA _=>bM 11 λQ _=>cF 2 7 [6,44] 51 (dX 2 44 (Ej 3 false true [.int .i64 w] λD _=>mw (F:=nY 180 [.fptr (cells A)] (λz=>iK z A) tg.zH D) 1 λS _=>bL 1) (bL 7)) λG=>bC 3 39 a_ (bM 5 λI _=>dX 4 52 a_ a_)) a_) (λu=>bR 7 t.events (bC 3 61 a_ a_)) (λu=>a_))))))))
def jd (B:Trace):Option Trace:=
 some B
instance Pf (B:Trace):Fc Sy cL (jd B):=Fc.NE (λr:Trace=>[(.clo 181 [] [.fptr (cells r)])]) 150 [enc B] (eu 2 1 B a_)
namespace gM
def J1 (p1:Int) (D:Bool) (G:Trace) (B:Event):Option Bool:=
 bq D
 ((lK B.peer 0 (IntKind.wrap .i64 ((len G.procs)-1))).bind λt=>
 (bq t
 (some (!(B.peer==p1)))
 (some false):Option Bool).bind λu=>
 (bq u
 ((lK B.message 0 199).bind λw=>
 some w)
 (some false):Option Bool).bind λz=>
 some z)
 (some false)
end gM
def gM (B:Trace) (p1:Int) (e2:Event):Option Bool:=
 bq (e2.kind==1)
 ((bq (e2.peer==0)
 (some (e2.message==0))
 (some false):Option Bool).bind λt=>
 some t)
 (bq (e2.kind==2)
 (gM.J1 p1 true B e2)
 (gM.J1 p1 (e2.kind==3) B e2))
open gM in
instance Pr (B:Trace) (p1:Int) (e2:Event):Fc Sy cL (gM B p1 e2):=Fc.M 182 [enc B,.int .i64 p1,enc e2] (eu 2 3 B (eu 0 5 e2 (bC 17 9 (cF 7 4 [5,14] 18 (bC 7 14 (bL 4) (bL 4)) λA=>a_) (bC 8 19 (xN 4 (bC 0 19 (bR 7 B.procs (bM 1 λt _=>cF 1 5 [1,29] 34 (bC 1 29 (bL 5) (bL 5)) λu=>cF 1 4 [5,35] 39 (bC 1 35 (bM 2 λw _=>bL 1) (bL 4)) λz=>a_)) a_)) (xN 7 (bC 0 19 (bR 7 B.procs (bM 1 λt _=>cF 1 5 [1,29] 34 (bC 1 29 (bL 5) (bL 5)) λu=>cF 1 4 [5,35] 39 (bC 1 35 (bM 2 λw _=>bL 1) (bL 4)) λz=>a_)) a_))))))
def jr (B D:Assign):Option Bool:=
 some (B.var==D.var)
instance GW (B D:Assign):Fc Sy cL (jr B D):=Fc.M 184 [enc B,.fptr (cells D)] (a_)
namespace eN
def br (s0:Sl Assign) (D:Int) (B:Int) (p1:Assign->Option Bool):Option (Fw Int Unit Int):=
 bq (decide (B<D))
 ((idx s0 B).bind λt=>
 (p1 t).bind λu=>
 bq u
 (some (.r B))
 (some (.n (IntKind.wrap .i64 (B+1)))))
 (some (.x ()))
def W1 (s0:Sl Assign) (B D:Int) (p1:Assign->Option Bool):Option Int:=
 (bO (λq:Int=>br s0 B q p1) D).bind (Fw.elim
 (λe=>some (-1))
 (λe=>some e))
end eN
def eN (s0:Sl Assign) (p1:Assign->Option Bool):Option Int:=
 eN.W1 s0 (len s0) 0 p1
open eN in
abbrev tq (g1:FuncId) (e1:List V) (p1:Assign->Option Bool) (h1:tg Sy cL g1 [] e1 (λz:Assign=>[enc z]) (λr:Bool=>[.bool r]) p1 true) (s0:Sl Assign):Fc Sy cL (eN s0 p1):=Fc.M 218 [enc s0,.clo g1 [] e1] (bR 9 s0 (d_ 5 (λu=>(bF [Cv 0 s0,(1,.v (.clo g1 [] e1)),Iv 7 (len s0),Iv 8 u] [])) (λt=>(0,(bF [] []))) (λt=>(bF [Iv 4 t] [])) (λu=>bC 7 9 (bY 16 λw _=>Bh 1 h1.f w λA _=>bC 2 16 a_ a_) a_) (λt=>a_) (λt=>a_)))
def fW (s0:Sl Assign) (p1:Assign->Option Bool):Option Bool:=
 (eN s0 p1).bind λt=>
 some (decide (t>=0))
abbrev rL (g1:FuncId) (e1:List V) (p1:Assign->Option Bool) (h1:tg Sy cL g1 [] e1 (λz:Assign=>[enc z]) (λr:Bool=>[.bool r]) p1 true) (s0:Sl Assign):Fc Sy cL (fW s0 p1):=Fc.M 183 [enc s0,.clo g1 [] e1] (bM (F:=tq g1 e1 p1 h1 s0) 9 λt _=>a_)
namespace di
def ck (D:Sl Assign) (G:Int) (J:Event) (O:cm) (B:Int):Option (Fw Int Unit Int):=
 bq (decide (B<G))
 ((idx D B).bind λt=>
 (lK t.var 0 (IntKind.wrap .i64 ((len O.vars)-1))).bind λA=>
 (bq A
 ((lK t.value (-1073741824) 1073741824).bind λC=>
 some (!C))
 (some true):Option Bool).bind λI=>
 bq I
 (some (.r 2))
 ((fR J.assign none (some B)).bind λu=>
 (fW u (λz=>jr z t)).bind λw=>
 bq w
 (some (.r 8))
 (some (.n (IntKind.wrap .i64 (B+1))))))
 (some (.x ()))
def W2 (B:Sl Assign) (D G:Int) (J:Event) (O:cm):Option Int:=
 (bO (λq:Int=>ck B D J O q) G).bind (Fw.elim
 (λe=>some 0)
 (λe=>some e))
def J1 (D:Int) (J:Trace) (G:aY) (B:Event) (O:cm):Option Int:=
 (gM J G.proc B).bind λt=>
 bq t
 ((lK B.time 0 1099511627776).bind λu=>
 (bq u
 (some (decide (B.time<D)))
 (some true):Option Bool).bind λw=>
 bq w
 (some 11)
 (bq (decide ((len B.assign)>8))
 (some 5)
 (di.W2 B.assign (len B.assign) 0 B O)))
 (some 3)
theorem uO (D:Int) (O:Trace) (J:aY) (B:Event) (G:cm):Le ((J1 D O J B G).bind (λr=>some [.int .i64 r])) (b8 Sy cL (pg (tr Tx 151)) (mO (tb Tx 151) [1,1,1,1,0] [] (bF [Pv 3,Pv 4,Pv 5,Pv 7,Iv 8 D] [Xb 3 O,Xb 4 J,Xb 5 B,Xb 7 G]))):=
 bM 8 λI _=>dX 4 28 (bM 5 λL _=>cF 2 5 [8,40] 45 (dX 2 40 (bL 5) (bL 5)) λQ=>bC 3 35 a_ (bR 5 B.assign (bC 4 46 a_ (bR 9 B.assign (d_ 5 (λu=>(bF [Pv 5,Pv 7,Cv 52 B.assign,Iv 53 (len B.assign),Iv 54 u] [Xb 5 B,Xb 7 G])) (λt=>(1,(bF [] []))) (λt=>(bF [Iv 6 t] [])) (λu=>bC 7 55 (bY 8 λw _=>bR 13 G.vars (bM 1 λS _=>cF 2 5 [68] 73 (dX 2 68 (bM 2 λT _=>bL 2) (bL 5)) λU=>bC 3 59 a_ (Ej 6 false true [.int .i64 u] λA _=>mw (F:=rL 184 [.fptr (cells w)] (λz=>jr z w) tg.zH A) 1 λC _=>bC 3 74 a_ a_))) a_) (λt=>a_) (λt=>a_)))))) a_
end di
def di (D:Trace) (B:aY) (e2:Event):Option Int:=
 (idx D.procs B.proc).bind λt=>
 bq (decide (B.index>1))
 ((idx t.events (IntKind.wrap .i64 (B.index-2))).bind λu=>
 di.J1 u.time D B e2 t)
 (di.J1 0 D B e2 t)
open di in
instance Kg (D:Trace) (B:aY) (e2:Event):Fc Sy cL (di D B e2):=Fc.M 151 [enc D,enc B,enc e2] (eu 2 3 D (eu 1 5 e2 (bY 9 λt _=>o8 2 7 0 t (bC 15 19 (bY 7 λu _=>wH 6 (uO u.time D B e2 t)) (wH 4 (uO 0 D B e2 t))))))
def oN (B:Event) (D G:Int):Option Bool:=
 (bq (B.kind==2)
 (some (B.message==D))
 (some false):Option Bool).bind λt=>
 (bq t
 (some (B.peer==G))
 (some false):Option Bool).bind λu=>
 some u
instance LC (B:Event) (D G:Int):Fc Sy cL (oN B D G):=Fc.M 219 [enc B,.fptr (cells D),.fptr (cells G)] (eu 2 3 B (cF 9 5 [1,8] 13 (bC 9 8 (bL 5) (bL 5)) λt=>cF 1 5 [2,3,14] 19 (bC 1 14 (bL 5) (bL 5)) λu=>a_))
def sF (D:Trace) (p1 G B:Int):Option Bool:=
 (idx D.procs p1).bind λt=>
 (gq t.events (λz=>oN z G B)).bind λu=>
 some u
instance QA (G:Trace) (p1 D B:Int):Fc Sy cL (sF G p1 D B):=Fc.M 185 [enc G,.int .i64 p1,.int .i64 D,.int .i64 B] (eu 2 4 G (bY 10 λt _=>mw (F:=mI 219 [.fptr (cells D),.fptr (cells B)] (λz=>oN z D B) tg.zH t.events) 3 λu _=>a_))
namespace dZ
def rY (D G:Trace) (J:Option (bP 200 bz)) (O:aY) (U:Int) (x:aY×Event) (B:bP 200 bz):Option (Fw (bP 200 bz) Empty (aY×Int×(bP 200 bz))):=
 bq (x.2.kind==2)
 ((bP.at B x.2.message).bind λt=>
 bq (decide (t.from_.index>0))
 (some (.r (x.1,8,B)))
 ((bP.at B x.2.message).bind λu=>
 some (.n (bP.set B x.2.message (⟨x.1,u.to_⟩:bz)))))
 (bq (x.2.kind==3)
 ((bP.at B x.2.message).bind λw=>
 bq (decide (w.to_.index>0))
 (some (.r (x.1,8,B)))
 ((sF G x.2.peer x.2.message x.1.proc).bind λz=>
 bq z
 ((bP.at B x.2.message).bind λA=>
 some (.n (bP.set B x.2.message (⟨A.from_,x.1⟩:bz))))
 (some (.r (x.1,7,B)))))
 (some (.n B)))
def E1 (B G:Trace) (J:Option (bP 200 bz)) (O:aY) (U:Int) (D:bP 200 bz):Option ((Option (bP 200 bz))×aY×Int):=
 (iz B).bind λt=>(m_ (λ(x:aY×Event) (q:bP 200 bz)=>rY B G J O U x q) t D).bind (Fw.uW
 (λq=>some (some q,⟨0,0⟩,0))
 (λe=>Empty.elim e)
 (λe=>some ((none:Option (bP 200 bz)),e.1,e.2.1)))
end dZ
def dZ (B:Trace):Option ((Option (bP 200 bz))×aY×Int):=
 (jd B).bind λt=>
 dZ.E1 t B (none:Option (bP 200 bz)) (⟨0,0⟩:aY) 0 (bP.Dv 200 (⟨⟨0,0⟩,⟨0,0⟩⟩:bz))
open dZ in
instance Ic (B:Trace):Fc Sy cL (dZ B):=Fc.N 152 [enc B] (eu 2 1 B (eu 8 10 (bP.Dv 200 (⟨⟨0,0⟩,⟨0,0⟩⟩:bz)) (RZ 0 5 (bF [Pv 1,Pv 2,Pv 3,Pv 4,Pv 10] [Xb 1 B,(2,.box [cv (none:Option (bP 200 bz))]),Xb 3 (⟨0,0⟩:aY),(4,.box [iv 0]),Xb 10 (bP.Dv 200 (⟨⟨0,0⟩,⟨0,0⟩⟩:bz))]) [cv (none:Option (bP 200 bz))] (by simp only[bF,vD,oZ,qy,oS,qz,rU,qw,rG,o5,qo,vU,rP,rS,rN,rR,tL,tP,qt,rH];rfl) (bM 7 λz _=>IY λJ A=>D0 4 [Pv 1,Pv 2,Pv 3,Pv 4,Pv 5,(12,.v (.clo 181 [] [.fptr (cells z)]))] (λu=>[Xb 1 B,(2,.box [cv (none:Option (bP 200 bz))]),Xb 3 (⟨0,0⟩:aY),(4,.box [iv 0]),(5,.box [.ptr 10 0]),Xb 10 u]) (λw=>Empty.elim w) (λw=>[Xb 1 B,(2,.box [cv (none:Option (bP 200 bz))]),Xb 3 w.1,(4,.box [iv w.2.1]),(5,.box [.ptr 10 0]),Xb 10 w.2.2]) (wj z J A) (λt u=>RZ 2 6 ⟨[Pv 1,Pv 2,Pv 3,Pv 4,Pv 5,(12,.v (.clo 181 [] [.fptr (cells z)])),Cv 13 t.1,Cv 14 t.2],[Xb 1 B,(2,.box [cv (none:Option (bP 200 bz))]),Xb 3 (⟨0,0⟩:aY),(4,.box [iv 0]),(5,.box [.ptr 10 0]),Xb 10 u],[1,2,3,4,5],[],true,0⟩ [iv 0,iv 0] (by simp only[bF,vD,oZ,qy,oS,qz,rU,qw,rG,o5,qo,vU,rP,rS,rN,rR,tL,tP,qt,rH];rfl) (RZ 4 7 ⟨[Pv 1,Pv 2,Pv 3,Pv 4,Pv 5,(12,.v (.clo 181 [] [.fptr (cells z)])),Cv 14 t.2,Pv 6],[Xb 1 B,(2,.box [cv (none:Option (bP 200 bz))]),Xb 3 (⟨0,0⟩:aY),(4,.box [iv 0]),(5,.box [.ptr 10 0]),Xb 10 u,Xb 6 t.1],[1,2,3,4,5],[],true,0⟩ [iv 0,iv 0,iv 0,iv 0,.v .bB] (by simp only[bF,vD,oZ,qy,oS,qz,rU,qw,rG,o5,qo,vU,rP,rS,rN,rR,tL,tP,qt,rH];rfl) (o8 0 7 0 t.2 (Be 1 (bC 22 19 (zh 7 .i64 10 λC L=>IF 2 1 false 10 u t.2.message 1 C L (.int .i64 C.from_.index) (by rfl) (bC 3 28 a_ (zh 8 .i64 10 λD O=>NZ 1 10 u t.2.message 0 D O (⟨t.1,D.to_⟩:bz) t.1 rfl a_))) (bC 7 36 (zh 7 .i64 10 λG Q=>IF 2 1 false 10 u t.2.message 3 G Q (.int .i64 G.to_.index) (by rfl) (bC 3 45 a_ (bM 12 λT _=>dX 3 54 (zh 8 .i64 10 λI S=>NZ 1 10 u t.2.message 2 I S (⟨I.from_,t.1⟩:bz) t.1 rfl a_) a_))) a_)))))) (λu=>S6 13 (bF [Pv 2,Pv 3,Pv 4] [(2,.box [.ptr 10 0]),Xb 3 (⟨0,0⟩:aY),(4,.box [iv 0]),Xb 10 u]) [.ptr 10 0,cv (⟨0,0⟩:aY),iv 0] (OJ (d:=10) (x:=u) (vs:=[enc (⟨0,0⟩:aY),.int .i64 0]) (by kernel_rfl)) (by kernel_rfl)) (λx=>Empty.elim x) (λw=>a_)))))
namespace iq
def J1 (D:bP 200 bz) (B:Sl aY) (J:Sl Event) (G:aY):Option (Sl aY):=
 (idx J (IntKind.wrap .i64 (G.index-1))).bind λt=>
 (bq (t.kind==2)
 ((bP.at D t.message).bind λu=>
 some (decide (u.to_.index>0)))
 (some false):Option Bool).bind λw=>
 bq w
 ((bP.at D t.message).bind λz=>
 (fT B (z.to_:aY)).bind λA=>
 some A)
 (some B)
theorem uO (B:bP 200 bz) (D:Sl aY) (J:Sl Event) (G:aY):Le ((J1 B D J G).bind (λr=>some [enc r])) (b8 Sy cL (pg (tr Tx 186)) (mO (tb Tx 186) [1,1,1,1,0,0] [] (bF [Kv 1 B,Pv 5,Ov 7,Cv 8 J] [Xb 5 G,Lb 2007 D]))):=
 bY 7 λt _=>o8 2 9 0 t (cF 8 10 [40] 50 (bC 8 40 (NY 4 .i64 λu w=>LF 0 2 B t.message 0 u w (LF 0 1 B t.message 2 u w (Oj 0 1 false B t.message 3 u w (.int .i64 u.to_.index) (by rfl) (bL 2)))) (bL 10)) λC=>bC 2 50 (NY 7 .i64 λz A=>LF 0 2 B t.message 0 z A (Oj 0 2 true B t.message 2 z A (enc z.to_) (by rfl) (mE 1 2007 59 60 λI _=>a_))) a_)
end iq
def iq (D:Trace) (B:bP 200 bz) (x2:aY):Option (Sl aY):=
 (idx D.procs x2.proc).bind λt=>
 bq (decide (x2.index<(len t.events)))
 (iq.J1 B (Sl.row [⟨x2.proc,IntKind.wrap .i64 (x2.index+1)⟩]:Sl aY) t.events x2)
 (iq.J1 B (Sl.nil:Sl aY) t.events x2)
open iq in
instance Qu (D:Trace) (B:bP 200 bz) (x2:aY):Fc Sy cL (iq D B x2):=Fc.N 186 [enc D,.fptr (cells B),enc x2] (eu 2 3 D (bY 15 λt _=>bR 11 t.events (bC 3 21 (NQ 10 29 30 .bB (⟨x2.proc,IntKind.wrap .i64 (x2.index+1)⟩:aY) (wH 5 (uO B (Sl.row [⟨x2.proc,IntKind.wrap .i64 (x2.index+1)⟩]:Sl aY) t.events x2))) (wH 5 (uO B (Sl.nil:Sl aY) t.events x2)))))
namespace gL
def dM (O:Trace) (U:Sl aY) (W:Int) (Y:Trace) (aa:bP 200 bz) (ab:aY) (ad:Bool) (J:aY) (B:Sl aY) (G:Int) (D:Mo aY Bool):Option (Fw ((Sl aY)×Int×(Mo aY Bool)) ((Sl aY)×(Mo aY Bool)) Unit):=
 bq (decide (G<W))
 ((idx U G).bind λt=>
 bq (G9 t J)
 (some (.r ()))
 (bq (sY D t false)
 (some (.n (B,IntKind.wrap .i64 (G+1),D)))
 ((fT B (t:aY)).bind λu=>
 some (.n (u,IntKind.wrap .i64 (G+1),nP D t true)))))
 (some (.x (B,D)))
def W3 (D:Sl aY) (B:Trace) (O:Sl aY) (U W:Int) (Y:Trace) (aa:bP 200 bz) (ab:aY) (ad:Bool) (G:aY) (J:Mo aY Bool):Option (Fw ((Sl aY)×(Mo aY Bool)) Unit Unit):=
 (bO (λq:(Sl aY)×Int×(Mo aY Bool)=>dM B O U Y aa ab ad G q.1 q.2.1 q.2.2) (D,W,J)).bind (Fw.elim
 (λe=>some (.n (e.1,e.2)))
 (λe=>some (.r ())))
def ck (D G:Trace) (J:bP 200 bz) (W:aY) (Y:Bool) (O:aY) (B:Sl aY) (U:Mo aY Bool):Option (Fw ((Sl aY)×(Mo aY Bool)) Unit Unit):=
 bq (decide ((len B)>0))
 ((Sl.jf B (IntKind.wrap .i64 ((len B)-1))).bind λu=>
 (Sl.get B u).bind λw=>
 (nk B none (some (IntKind.wrap .i64 ((len B)-1)))).bind λz=>
 (iq G J w).bind λt=>
 W3 z D t (len t) 0 G J W Y O U)
 (some (.x ()))
def W2 (G:Sl aY) (B O:Trace) (U:bP 200 bz) (W:aY) (Y:Bool) (D:aY) (J:Mo aY Bool):Option (Fw Unit Empty aY):=
 (bO (λq:(Sl aY)×(Mo aY Bool)=>ck B O U W Y D q.1 q.2) (G,J)).bind (Fw.elim
 (λe=>some (.n ()))
 (λe=>some (.r D)))
def rY (B D:Trace) (G:bP 200 bz) (J:aY) (O:Bool) (x:aY×Event):Option (Fw Unit Empty aY):=
 W2 (Sl.row [x.1]:Sl aY) B D G J O x.1 []
def E1 (B D:Trace) (G:bP 200 bz) (J:aY) (O:Bool):Option (aY×Bool):=
 (iz B).bind λt=>(m_ (λ(x:aY×Event) (q:Unit)=>rY B D G J O x) t ()).bind (Fw.uW
 (λq=>some (⟨0,0⟩,false))
 (λe=>Empty.elim e)
 (λe=>some (e,true)))
end gL
def gL (B:Trace) (D:bP 200 bz):Option (aY×Bool):=
 (jd B).bind λt=>
 gL.E1 t B D (⟨0,0⟩:aY) false
open gL in
instance OO (B:Trace) (D:bP 200 bz):Fc Sy cL (gL B D):=Fc.M 153 [enc B,.fptr (cells D)] (eu 2 2 B (bM 9 λu _=>IY λS L=>D0 4 [Pv 2,Pv 3,Pv 4,Pv 5,(13,.v (.clo 181 [] [.fptr (cells u)]))] (λO=>[Xb 2 B,(3,.box [cp D]),Xb 4 (⟨0,0⟩:aY),(5,.box [bv false])]) (λC=>Empty.elim C) (λC=>[Xb 2 B,(3,.box [cp D]),Xb 4 C,(5,.box [bv true])]) (wj u S L) (λz O=>Be 4 (d_ 18 (λt=>⟨[Pv 2,Pv 3,Pv 4,Pv 5,Pv 6,(7,.mp 16),Ov 8,(13,.v (.clo 181 [] [.fptr (cells u)]))],[Xb 2 B,(3,.box [cp D]),Xb 4 (⟨0,0⟩:aY),(5,.box [bv false]),Xb 6 z.1,(16,lI t.2),Lb 2008 t.1],[2,3,4,5],[],true,0⟩) (λG=>(2,⟨[Pv 2,Pv 3,Pv 4,Pv 5,(13,.v (.clo 181 [] [.fptr (cells u)]))],[Xb 2 B,(3,.box [cp D]),Xb 4 (⟨0,0⟩:aY),(5,.box [bv false])],[2,3,4,5],[],true,0⟩)) (λG=>⟨[],[Xb 2 B,(3,.box [cp D]),Xb 4 z.1,(5,.box [bv true])],[2,3,4,5],[],true,0⟩) (λt=>Bm 6 2008 t.1 (bC 3 21 (Bm 8 2008 t.1 (jy .i64 1 2008 λT _=>o_ 0 2008 0 2 true (λI=>.agg [.int .i64 I.proc,.int .i64 I.index]) λI _=>Bm 8 2008 t.1 (SP 1 false true 2008 32 [.int .i64 (IntKind.wrap .i64 ((len t.1)-1))] λU _=>bM 8 λJ _=>bR 0 J (d_ 6 (λw=>⟨[Pv 2,Pv 3,Pv 4,Pv 5,Pv 6,(7,.mp 16),Ov 8,(13,.v (.clo 181 [] [.fptr (cells u)])),Cv 36 J,Iv 37 (len J),Iv 38 w.2.1],[Xb 2 B,(3,.box [cp D]),Xb 4 (⟨0,0⟩:aY),(5,.box [bv false]),Xb 6 z.1,(16,lI w.2.2),Lb 2008 w.1],[2,3,4,5],[],true,0⟩) (λA=>(4,⟨[Pv 2,Pv 3,Pv 4,Pv 5,Pv 6,(7,.mp 16),Ov 8,(13,.v (.clo 181 [] [.fptr (cells u)]))],[Xb 2 B,(3,.box [cp D]),Xb 4 (⟨0,0⟩:aY),(5,.box [bv false]),Xb 6 z.1,(16,lI A.2),Lb 2008 A.1],[2,3,4,5],[],true,0⟩)) (λA=>⟨[],[Xb 2 B,(3,.box [cp D]),Xb 4 z.1,(5,.box [bv true])],[2,3,4,5],[],true,0⟩) (λw=>bC 8 39 (bY 7 λQ _=>bC 13 44 a_ (Sp 7 16 w.2.2 Q false (dX 3 49 a_ (RS 5 16 w.2.2 Q true (mE 6 2008 54 55 λW _=>a_))))) a_) (λA=>a_) (λA=>a_))))) a_)) (λG=>a_) (λG=>a_))) (λO=>a_) (λx=>Empty.elim x) (λC=>a_)))
namespace gf
def G0 (B D:Trace) (G:aY) (J:Int) (x:aY×Event):Option (Fw Unit Empty (aY×Int)):=
 (di D x.1 x.2).bind λt=>
 bq (t==0)
 (some (.n ()))
 (some (.r (x.1,t)))
def E2 (B D:Trace) (G:aY) (J:Int):Option (aY×Int):=
 (iz B).bind λw=>(m_ (λ(x:aY×Event) (q:Unit)=>G0 B D G J x) w ()).bind (Fw.uW
 (λq=>(dZ D).bind λt=>
 bq (t.2.2==0)
 ((t.1).bind λz=>
 (gL D z).bind λu=>
 bq u.2
 (some (u.1,10))
 (some (⟨0,0⟩,0)))
 (some (t.2.1,t.2.2)))
 (λe=>Empty.elim e)
 (λe=>some (e.1,e.2)))
def br (D:Int) (G:Trace) (J:aY) (O:Int) (B:Int):Option (Fw Int Unit (aY×Int)):=
 bq (decide (B<D))
 ((dW G B).bind λt=>
 bq (t==0)
 (some (.n (IntKind.wrap .i64 (B+1))))
 (some (.r ((⟨B,0⟩:aY),t))))
 (some (.x ()))
def W1 (J O:Int) (B:Trace) (D:aY) (G:Int):Option (aY×Int):=
 (bO (λq:Int=>br J B D G q) O).bind (Fw.elim
 (λe=>(jd B).bind λt=>
 gf.E2 t B D G)
 (λe=>some (e.1,e.2)))
end gf
def gf (B:Trace):Option (aY×Int):=
 (lK (len B.procs) 1 8).bind λt=>
 bq t
 (gf.W1 (len B.procs) 0 B (⟨0,0⟩:aY) 0)
 (some (⟨0,0⟩,1))
open gf in
instance QM (B:Trace):Fc Sy cL (gf B):=Fc.M 106 [enc B] (eu 2 1 B (bR 9 B.procs (bM 0 λJ _=>dX 3 18 (bR 8 B.procs (d_ 5 (λz=>(bF [Pv 1,Pv 2,Pv 3,Iv 22 (len B.procs),Iv 23 z] [Xb 1 B,Xb 2 (⟨0,0⟩:aY),(3,.box [iv 0])])) (λt=>(0,(bF [Pv 1,Pv 2,Pv 3] [Xb 1 B,Xb 2 (⟨0,0⟩:aY),(3,.box [iv 0])]))) (λt=>(bF [Pv 2,Pv 3] [Xb 2 t.1,(3,.box [iv t.2])])) (λz=>bC 7 24 (bM 15 λL _=>dX 9 30 a_ a_) a_) (λt=>bM 6 λw _=>IY λG A=>D0 4 [Pv 1,Pv 2,Pv 3,(36,.v (.clo 181 [] [.fptr (cells w)]))] (λC=>[Xb 1 B,Xb 2 (⟨0,0⟩:aY),(3,.box [iv 0])]) (λu=>Empty.elim u) (λu=>[Xb 1 B,Xb 2 u.1,(3,.box [iv u.2])]) (wj w G A) (λI C=>o8 8 7 0 I.2 (Be 1 (bM 7 λO _=>dX 9 44 a_ a_))) (λC=>bM 5 λD _=>dX 17 54 (Rp 8 (λQ=>(bF [Pv 2,Pv 3,(36,.v (.clo 181 [] [.fptr (cells w)])),Pv 10,Iv 11 D.2.2,Bv 54 false,Cv 58 B,Cv 59 Q] [Xb 1 B,Xb 2 (⟨0,0⟩:aY),(3,.box [iv 0]),Xb 10 D.2.1])) λS _=>bM 0 λT _=>bC 13 63 a_ a_) a_) (λx=>Empty.elim x) (λu=>a_)) (λt=>a_))) a_)))
def iU (B:Trace):Option Bool:=
 (gf B).bind λt=>
 some (t.2==0)
instance QD (B:Trace):Fc Sy cL (iU B):=Fc.M 59 [enc B] (eu 2 1 B (bM 6 λt _=>a_))
namespace kj
def rY (D:Trace) (B G:Int) (J:aY) (O:Bool) (x:aY×Event):Option (Fw Unit Empty aY):=
 (bq (x.2.kind==B)
 (some (x.2.message==G))
 (some false):Option Bool).bind λt=>
 bq t
 (some (.r x.1))
 (some (.n ()))
def E1 (B:Trace) (D G:Int) (J:aY) (O:Bool):Option (aY×Bool):=
 (iz B).bind λt=>(m_ (λ(x:aY×Event) (q:Unit)=>rY B D G J O x) t ()).bind (Fw.uW
 (λq=>some (⟨0,0⟩,false))
 (λe=>Empty.elim e)
 (λe=>some (e,true)))
end kj
def kj (D:Trace) (B G:Int):Option (aY×Bool):=
 (iU D).bind λt=>
 bq t
 ((jd D).bind λu=>
 kj.E1 u B G (⟨0,0⟩:aY) false)
 (some (⟨0,0⟩,false))
open kj in
instance R_ (G:Trace) (B D:Int):Fc Sy cL (kj G B D):=Fc.M 222 [enc G,.int .i64 B,.int .i64 D] (eu 2 3 G (bM 10 λI _=>dX 3 12 (bM 7 λu _=>IY λA w=>D0 4 [Pv 4,Pv 5,Pv 6,Pv 7,(15,.v (.clo 181 [] [.fptr (cells u)]))] (λz=>[(4,.box [iv B]),(5,.box [iv D]),Xb 6 (⟨0,0⟩:aY),(7,.box [bv false])]) (λt=>Empty.elim t) (λt=>[(4,.box [iv B]),(5,.box [iv D]),Xb 6 t,(7,.box [bv true])]) (wj u A w) (λC z=>o8 8 9 0 C.2 (Be 1 (cF 9 5 [9,22] 27 (bC 9 22 (bL 5) (bL 5)) λJ=>bC 2 27 a_ a_))) (λz=>a_) (λx=>Empty.elim x) (λt=>a_)) a_))
def qR (B:Trace) (m1:Int):Option (aY×Bool):=
 (kj B 2 m1).bind λt=>
 some (t.1,t.2)
instance Pw (B:Trace) (m1:Int):Fc Sy cL (qR B m1):=Fc.M 191 [enc B,.int .i64 m1] (eu 2 2 B (bM 8 λt _=>a_))
namespace jh
def J3 (B:Sl aY) (U:Sl cm) (W Y:Int) (aa:Sl Event) (ab G:Int) (J:Trace) (ad O:b7) (ae:cm) (D:aY):Option (Fw ((Sl aY)×Int×Trace×b7×b7) ((Sl aY)×Trace×b7) Empty):=
 (fT B (D:aY)).bind λt=>
 some (.n (t,IntKind.wrap .i64 (G+1),J,(⟨Sl.nil,Sl.nil⟩:b7),O))
def ck (W:Sl cm) (Y aa:Int) (J:Sl Event) (O:Int) (ab:cm) (B:Sl aY) (D:Int) (G:Trace) (ad U:b7):Option (Fw ((Sl aY)×Int×Trace×b7×b7) ((Sl aY)×Trace×b7) Empty):=
 bq (decide (D<O))
 ((idx J D).bind λt=>
 bq (t.kind==3)
 ((qR G t.message).bind λu=>
 J3 B W Y aa J O D G (⟨Sl.nil,Sl.nil⟩:b7) U ab u.1)
 (J3 B W Y aa J O D G (⟨Sl.nil,Sl.nil⟩:b7) U ab (⟨0,0⟩:aY)))
 (some (.x (B,G,U)))
def W2 (B:Sl aY) (J:Sl cm) (O D:Int) (U:Sl Event) (W Y:Int) (aa:Trace) (ab ad:b7) (G:cm):Option (Fw (Int×Trace×b7×b7) b7 Empty):=
 (bO (λq:(Sl aY)×Int×Trace×b7×b7=>ck J O D U W G q.1 q.2.1 q.2.2.1 q.2.2.2.1 q.2.2.2.2) (B,Y,aa,ab,ad)).bind (Fw.elim
 (λe=>(fT e.2.2.lengths (len G.events:Int)).bind λt=>
 (fT e.2.2.need (e.1:Sl aY)).bind λu=>
 some (.n (IntKind.wrap .i64 (D+1),e.2.1,(⟨Sl.nil,Sl.nil⟩:b7),(⟨t,u⟩:b7))))
 (λe=>Empty.elim e))
def br (D:Sl cm) (G:Int) (B:Int) (O:Trace) (U J:b7):Option (Fw (Int×Trace×b7×b7) b7 Empty):=
 bq (decide (B<G))
 ((idx D B).bind λt=>
 W2 (Sl.nil:Sl aY) D G B t.events (len t.events) 0 O (⟨Sl.nil,Sl.nil⟩:b7) J t)
 (some (.x J))
def W1 (B:Sl cm) (D G:Int) (J:Trace) (O U:b7):Option b7:=
 (bO (λq:Int×Trace×b7×b7=>br B D q.1 q.2.1 q.2.2.1 q.2.2.2) (G,J,O,U)).bind (Fw.elim
 (λe=>some e)
 (λe=>Empty.elim e))
end jh
def jh (B:Trace):Option b7:=
 jh.W1 B.procs (len B.procs) 0 B (⟨Sl.nil,Sl.nil⟩:b7) (⟨Sl.nil,Sl.nil⟩:b7)
open jh in
instance Tl (B:Trace):Fc Sy cL (jh B):=Fc.N 162 [enc B] (eu 2 1 B (bR 13 B.procs (fD 7 (λt=>(bF [Pv 1,Pv 2,Pv 3,Cv 11 B.procs,Iv 12 (len B.procs),Iv 13 t.1] [Xb 1 t.2.1,Xb 2 (⟨Sl.nil,Sl.nil⟩:b7),(3,.box [.own 4060,.own 4061]),Lb 4060 t.2.2.2.lengths,Lb 4061 t.2.2.2.need])) (λA=>(0,(bF [Pv 2,Pv 3] [Xb 2 (⟨Sl.nil,Sl.nil⟩:b7),(3,.box [.own 4060,.own 4061]),Lb 4060 A.lengths,Lb 4061 A.need]))) (λt=>bC 9 14 (bY 7 λu _=>o8 2 5 0 u (bR 12 u.events (fD 8 (λw=>(bF [Pv 1,Pv 2,Pv 3,Pv 5,Ov 6,Cv 11 B.procs,Iv 12 (len B.procs),Iv 13 t.1,Cv 18 u.events,Iv 19 (len u.events),Iv 20 w.2.1] [Xb 1 w.2.2.1,Xb 2 (⟨Sl.nil,Sl.nil⟩:b7),(3,.box [.own 4060,.own 4061]),Xb 5 u,Lb 2006 w.1,Lb 4060 w.2.2.2.2.lengths,Lb 4061 w.2.2.2.2.need])) (λz=>(2,(bF [Pv 1,Pv 2,Pv 3,Pv 5,Ov 6,Cv 11 B.procs,Iv 12 (len B.procs),Iv 13 t.1] [Xb 1 z.2.1,Xb 2 (⟨Sl.nil,Sl.nil⟩:b7),(3,.box [.own 4060,.own 4061]),Xb 5 u,Lb 2006 z.1,Lb 4060 z.2.2.lengths,Lb 4061 z.2.2.need]))) (λw=>bC 10 21 (bY 7 λC _=>o8 2 8 0 C (bC 15 26 (bM 5 λG _=>xN 10 (mE 4 2006 36 37 λD _=>a_)) (xN 7 (mE 4 2006 36 37 λD _=>a_)))) a_) (λz=>bR 8 u.events (mE 1 4060 44 45 λI _=>uB 9 50 ([z.1]:List (Sl aY)) (mE 0 4061 50 51 λJ _=>a_)))))) a_) (λA=>o8 7 2 0 A a_))))
def mN (D:b7) (B:Sl Int) (p2:Int):Option Bool:=
 (idx B p2).bind λu=>
 (idx D.lengths p2).bind λw=>
 bq (u==w)
 (some false)
 ((idx D.need p2).bind λz=>
 (idx B p2).bind λA=>
 (idx z A).bind λt=>
 (idx B t.proc).bind λC=>
 some (decide (t.index<=C)))
instance KH (B:b7) (D:Sl Int) (p2:Int):Fc Sy cL (mN B D p2):=Fc.M 194 [enc B,enc D,.int .i64 p2] (eu 2 3 B (bY 8 λt _=>bY 4 λu _=>bC 4 17 a_ (bY 8 λw _=>bY 3 λz _=>bY 1 λA _=>bY 12 λC _=>a_)))
def kO (s0:Sl Int):Option (Sl Int):=
 (Sl.isNil s0).bind λt=>
 bq t
 (some Sl.nil)
 ((mq (Sl.row []:Sl Int) s0).bind λu=>
 some u)
theorem qI:EC Sy cL 85 (λs0:Sl Int=>[enc s0]) (λz=>kO z):=EC.mk' (ud (Tx 85)) (λs0=>TR 9 λt _=>bC 2 4 a_ (vM 7 5 7 λu _=>a_))
def p_ (B:Int):Option Bool:=
 some (!(B==B))
instance Ow (B:Int):Fc Sy cL (p_ B):=Fc.M 246 [.int .i64 B] (a_)
def oc (B D:Int):Option Int:=
 (p_ B).bind λu=>
 (p_ D).bind λt=>
 bq u
 (bq t
 (some 0)
 (some (-1)))
 (bq t
 (some 1)
 (bq (decide (B<D))
 (some (-1))
 (bq (decide (B>D))
 (some 1)
 (some 0))))
instance Lt (B D:Int):Fc Sy cL (oc B D):=Fc.M 225 [.int .i64 B,.int .i64 D] (bM 8 λt _=>bM 6 λu _=>bC 9 11 (bC 7 12 a_ a_) (bC 9 13 a_ (bC 11 16 a_ (bC 11 19 a_ a_))))
namespace eA
def br (J D O:Sl Int) (G:Int) (B:Int):Option (Fw Int Unit Int):=
 bq (decide (B<G))
 ((idx O B).bind λu=>
 bq (decide (B>=(len D)))
 (some (.r 1))
 ((idx D B).bind λw=>
 (oc u w).bind λt=>
 bq (t==0)
 (some (.n (IntKind.wrap .i64 (B+1))))
 (some (.r t))))
 (some (.x ()))
def W1 (B D O:Sl Int) (G J:Int):Option Int:=
 (bO (λq:Int=>br B D O G q) J).bind (Fw.elim
 (λe=>bq (decide ((len B)<(len D)))
 (some (-1))
 (some 0))
 (λe=>some e))
end eA
def eA (B D:Sl Int):Option Int:=
 eA.W1 B D B (len B) 0
open eA in
instance Im (B D:Sl Int):Fc Sy cL (eA B D):=Fc.M 197 [enc B,enc D] (bR 9 B (d_ 5 (λu=>(bF [Cv 0 B,Cv 1 D,Cv 9 B,Iv 10 (len B),Iv 11 u] [])) (λt=>(0,(bF [Cv 0 B,Cv 1 D] []))) (λt=>(bF [Iv 4 t] [])) (λu=>bC 7 12 (bY 8 λw _=>bR 10 D (bC 3 19 a_ (bY 7 λz _=>bM 8 λA _=>dX 9 28 a_ a_))) a_) (λt=>bR 6 B (bR 1 D (bC 3 35 a_ a_))) (λt=>a_)))
def iO (a0 B:Sl Int):Option Int:=
 (eA a0 B).bind λt=>
 some t
instance HZ (a0 B:Sl Int):Fc Sy cL (iO a0 B):=Fc.M 196 [enc a0,enc B] (bM 9 λt _=>a_)
namespace eG
def br (D G:Sl Int) (J:Int) (B:Int):Option (Fw Int Unit Unit):=
 bq (decide (B<J))
 ((idx D B).bind λt=>
 (idx G B).bind λu=>
 bq (t==u)
 (some (.n (IntKind.wrap .i64 (B+1))))
 (some (.r ())))
 (some (.x ()))
def W1 (B D:Sl Int) (G J:Int):Option Bool:=
 (bO (λq:Int=>br B D G q) J).bind (Fw.elim
 (λe=>some true)
 (λe=>some false))
end eG
def eG (B D:Sl Int):Option Bool:=
 bq ((len B)==(len D))
 (eG.W1 B D (len B) 0)
 (some false)
open eG in
instance JR (B D:Sl Int):Fc Sy cL (eG B D):=Fc.M 39 [enc B,enc D] (bR 9 B (bR 1 D (dX 3 10 (bR 7 B (d_ 5 (λu=>(bF [Cv 0 B,Cv 1 D,Iv 12 (len B),Iv 13 u] [])) (λt=>(0,(bF [] []))) (λt=>(bF [Bv 4 false] [])) (λu=>bC 7 14 (bY 15 λw _=>bY 3 λz _=>dX 4 24 a_ a_) a_) (λt=>a_) (λt=>a_))) a_)))
def jM (a0 B:Sl Int):Option Bool:=
 (eG a0 B).bind λt=>
 some t
instance Ib (a0 B:Sl Int):Fc Sy cL (jM a0 B):=Fc.M 199 [enc a0,enc B] (bM 9 λt _=>a_)
namespace dR
def ck (O:Sl Int) (U:Sl (Sl Int)) (W Y G:Int) (J:b7) (D:Sl (Sl Int)) (B:Int):Option (Fw ((Sl (Sl Int))×Int) (Sl (Sl Int)) Empty):=
 bq (decide (B<G))
 ((mN J O B).bind λu=>
 bq u
 (((kO O).bind Sl.whole).bind λt=>
 (Sl.jf t B).bind λw=>
 (Sl.get t w).bind λz=>
 (Sl.jf t B).bind λA=>
 (Sl.put t A (IntKind.wrap .i64 (z+1):Int)).bind λC=>
 (fT D (C:Sl Int)).bind λI=>
 some (.n (I,IntKind.wrap .i64 (B+1))))
 (some (.n (D,IntKind.wrap .i64 (B+1)))))
 (some (.x D))
def W2 (B:Sl (Sl Int)) (Y:Sl Int) (J:Sl (Sl Int)) (D G O U:Int) (W:b7):Option (Fw ((Sl (Sl Int))×Int×Int) (Sl (Sl Int)) Empty):=
 (bO (λq:(Sl (Sl Int))×Int=>ck Y J D G O W q.1 q.2) (B,U)).bind (Fw.elim
 (λe=>some (.n (e,D,IntKind.wrap .i64 (G+1))))
 (λe=>Empty.elim e))
def br (G:Sl (Sl Int)) (O:b7) (B:Sl (Sl Int)) (J D:Int):Option (Fw ((Sl (Sl Int))×Int×Int) (Sl (Sl Int)) Empty):=
 bq (decide (D<J))
 ((idx G D).bind λt=>
 W2 B t G J D (len t) 0 O)
 (some (.x B))
def W1 (B D:Sl (Sl Int)) (G J:Int) (O:b7):Option (Sl (Sl Int)):=
 (bO (λq:(Sl (Sl Int))×Int×Int=>br D O q.1 q.2.1 q.2.2) (B,G,J)).bind (Fw.elim
 (λe=>(wU e iO).bind λu=>
 (vC u jM).bind λt=>
 some t)
 (λe=>Empty.elim e))
end dR
def dR (D:b7) (B:Sl (Sl Int)):Option (Sl (Sl Int)):=
 dR.W1 (Sl.nil:Sl (Sl Int)) B (len B) 0 D
open dR in
instance Lr (D:b7) (B:Sl (Sl Int)):Fc Sy cL (dR D B):=Fc.N 163 [enc D,enc B] (eu 2 2 D (bR 12 B (fD 6 (λt=>(bF [Pv 2,Ov 5,Cv 10 B,Iv 11 t.2.1,Iv 12 t.2.2] [Xb 2 D,Lb 2005 t.1])) (λC=>(0,(bF [Ov 5] [Lb 2005 C]))) (λt=>bC 8 13 (bY 7 λu _=>bR 7 u (fD 6 (λw=>(bF [Pv 2,Ov 5,Cv 7 u,Cv 10 B,Iv 11 t.2.1,Iv 12 t.2.2,Iv 17 (len u),Iv 18 w.2] [Xb 2 D,Lb 2005 w.1])) (λG=>(2,(bF [Pv 2,Ov 5,Cv 10 B,Iv 11 t.2.1,Iv 12 t.2.2] [Xb 2 D,Lb 2005 G]))) (λw=>bC 8 19 (bM 16 λL _=>bC 2 24 (Q2 4 26 qI u λO _=>jy .i64 7 26 λQ _=>o_ 0 26 0 1 false (λA=>.int .i64 A) λA _=>jy .i64 1 26 λS _=>tU 0 26 (.int .i64 (IntKind.wrap .i64 (A+1))) λI _=>uB 6 35 ([I]:List (Sl Int)) (mE 0 2005 35 36 λT _=>a_)) a_) a_) (λG=>a_))) a_) (λC=>Si 5 2005 DV zi PU (jL.zH (λz=>inferInstanceAs (Fc Sy cL (iO z.1 z.2))) default (λ_=>rfl) (λ_=>rfl) (λ_=>rfl) (λ_=>rfl)) λU _=>Su 5 2005 42 DV zi O7 (jL.zH (λz=>inferInstanceAs (Fc Sy cL (jM z.1 z.2))) default (λ_=>rfl) (λ_=>rfl) (λ_=>rfl) (λ_=>rfl)) λJ _=>a_))))
namespace iy
def br (J:b7) (B:Sl (Sl Int)) (G:Sl (Sl (Sl Int))) (D:Int):Option (Fw ((Sl (Sl Int))×(Sl (Sl (Sl Int)))×Int) (Sl (Sl (Sl Int))) Unit):=
 bq (decide ((len B)>0))
 (bq (decide ((IntKind.wrap .i64 (D+(len B)))>5000))
 (some (.r ()))
 ((fT G (B:Sl (Sl Int))).bind λt=>
 (dR J B).bind λu=>
 some (.n (u,t,IntKind.wrap .i64 (D+(len B))))))
 (some (.x G))
def W1 (B:Sl (Sl Int)) (G:Sl (Sl (Sl Int))) (D:Int) (J:b7):Option ((Sl (Sl (Sl Int)))×Int):=
 (bO (λq:(Sl (Sl Int))×(Sl (Sl (Sl Int)))×Int=>br J q.1 q.2.1 q.2.2) (B,G,D)).bind (Fw.elim
 (λe=>some (e,0))
 (λe=>some ((Sl.nil:Sl (Sl (Sl Int))),16)))
end iy
def iy (B:Trace):Option ((Sl (Sl (Sl Int)))×Int):=
 (iU B).bind λt=>
 bq t
 ((jh B).bind λu=>
 (ov (len B.procs) (0:Int)).bind λw=>
 iy.W1 (Sl.row [w]:Sl (Sl Int)) (Sl.nil:Sl (Sl (Sl Int))) 0 u)
 (some ((Sl.nil:Sl (Sl (Sl Int))),1))
open iy in
instance QE (B:Trace):Fc Sy cL (iy B):=Fc.N 118 [enc B] (eu 2 1 B (bM 8 λA _=>dX 3 10 (bM 6 λw _=>o8 1 4 0 w (bR 6 B.procs (Hp 0 16 λz _=>uB 1 17 ([z]:List (Sl Int)) (d_ 18 (λt=>(bF [Pv 4,Cv 5 t.1,Ov 6,Iv 7 t.2.2] [Xb 4 w,Lb 2006 t.2.1])) (λu=>(0,(bF [Ov 6] [Lb 2006 u]))) (λu=>(bF [Ov 2,Iv 3 16] [Lb 2002 (Sl.nil:Sl (Sl (Sl Int)))])) (λt=>bR 7 t.1 (bC 3 20 (bR 10 t.1 (bC 10 29 a_ (uB 6 32 ([t.1]:List (Sl (Sl Int))) (mE 0 2006 32 33 λC _=>bM 7 λD _=>a_)))) a_)) (λu=>a_) (λu=>a_))))) a_))
def eX (s:Sl (Sl (Sl Int))):Option (Sl (Sl Int)):=if s.l.length<=2147483648/\(s.l.flatMap Sl.l).length<=2147483648 then some (yu s)else none
instance Jg (s:Sl (Sl (Sl Int))):Fc Sy cL (eX s):=Fc.of (A:=λz:Sl (Sl (Sl Int))=>[enc z]) (E:=λr:Sl (Sl Int)=>[enc r]) (p:=eX) (n:=40) (z:=s) (jL.LN (by kernel_rfl) (by kernel_rfl) (λz r h=>by
 unfold eX at h;split at h
 .rename_i hc;cases h;exact uV (ON (E:=Sy.E) (N:=λn=>n) (gid:=90) (nm:=some) (λ_ _ h=>(Option.some.inj h).symm) rfl (by kernel_rfl) (by kernel_rfl) (AA (by kernel_rfl)) (AA (by kernel_rfl)) rfl z hc.1 hc.2)
 .cases h))
def mK (B:Trace):Option ((Sl (Sl Int))×Int):=
 (iy B).bind λt=>
 (eX t.1).bind λu=>
 some (u,t.2)
instance Se (B:Trace):Fc Sy cL (mK B):=Fc.N 71 [enc B] (eu 2 1 B (bM 7 λt _=>bM 10 λu _=>a_))
def uJ (B:Trace):Option ((Sl (Sl Int))×Int):=
 (mK B).bind λt=>
 some (t.1,t.2)
instance Sg (B:Trace):Fc Sy cL (uJ B):=Fc.N 17 [enc B] (eu 2 1 B (bM 7 λt _=>a_))
def kW (c:Sl Int):Option (bP 8 Int):=some (lJ 8 c)
instance NS (c:Sl Int):Fc Sy cL (kW c):=Fc.of (A:=λz:Sl Int=>[enc z]) (E:=λr:bP 8 Int=>[enc r]) (p:=kW) (n:=83) (b:=true) (z:=c) (jL.scalar (jL.LN (by kernel_rfl) (by kernel_rfl) (λz r h=>by
 cases h;exact uV (OP (by kernel_rfl) rfl (λ_=>rfl) z))) It)
namespace c_
def dM (O:Sl Int) (W:Sl (Sl Int)) (Y aa U:Int) (J:Mo (bP 8 Int) Int) (D:Sl Int) (G:Int) (B:bG):Option (Fw ((Sl Int)×Int×bG) ((Sl Int)×(Mo (bP 8 Int) Int)×bG) Empty):=
 bq (decide (G<U))
 ((kW O).bind λt=>
 (bP.at t G).bind λu=>
 (bP.at t G).bind λz=>
 bq (xB J (bP.set t G (IntKind.wrap .i64 (u+1))))
 ((fT D (sY J (bP.set t G (IntKind.wrap .i64 (u+1))) 0:Int)).bind λw=>
 some (.n (w,IntKind.wrap .i64 (G+1),(⟨B.list,⟨none⟩,B.next⟩:bG))))
 (some (.n (D,IntKind.wrap .i64 (G+1),(⟨B.list,⟨none⟩,B.next⟩:bG)))))
 (some (.x (D,J,(⟨B.list,⟨none⟩,B.next⟩:bG))))
def W3 (O B:Sl Int) (U:Sl (Sl Int)) (W D Y aa:Int) (G:Mo (bP 8 Int) Int) (J:bG):Option (Fw (Int×(Mo (bP 8 Int) Int)×bG) ((Mo (bP 8 Int) Int)×bG) Empty):=
 (bO (λq:(Sl Int)×Int×bG=>dM O U W D Y G q.1 q.2.1 q.2.2) (B,aa,J)).bind (Fw.elim
 (λe=>(fT e.2.2.next (e.1:Sl Int)).bind λt=>
 some (.n (IntKind.wrap .i64 (D+1),e.2.1,(⟨e.2.2.list,⟨none⟩,t⟩:bG))))
 (λe=>Empty.elim e))
def ck (J:Sl (Sl Int)) (O:Int) (G:Int) (D:Mo (bP 8 Int) Int) (B:bG):Option (Fw (Int×(Mo (bP 8 Int) Int)×bG) ((Mo (bP 8 Int) Int)×bG) Empty):=
 bq (decide (G<O))
 ((idx J G).bind λt=>
 W3 t (Sl.nil:Sl Int) J O G (len t) 0 D (⟨B.list,⟨none⟩,B.next⟩:bG))
 (some (.x (D,(⟨B.list,⟨none⟩,B.next⟩:bG))))
def W2 (G:Sl (Sl Int)) (J O:Int) (B:Mo (bP 8 Int) Int) (D:bG):Option ((Option bG)×Int):=
 (bO (λq:Int×(Mo (bP 8 Int) Int)×bG=>ck G J q.1 q.2.1 q.2.2) (O,B,D)).bind (Fw.elim
 (λe=>some (some (⟨e.2.list,⟨some e.1⟩,e.2.next⟩:bG),0))
 (λe=>Empty.elim e))
def br (J O:Sl (Sl Int)) (U:Int) (B:Int) (D:Mo (bP 8 Int) Int) (G:bG):Option (Fw (Int×(Mo (bP 8 Int) Int)×bG) ((Mo (bP 8 Int) Int)×bG) Empty):=
 bq (decide (B<U))
 ((idx O B).bind λt=>
 (kW t).bind λu=>
 some (.n (IntKind.wrap .i64 (B+1),nP D u B,(⟨G.list,⟨none⟩,Sl.nil⟩:bG))))
 (some (.x (D,(⟨G.list,⟨none⟩,Sl.nil⟩:bG))))
def W1 (B J:Sl (Sl Int)) (O U:Int) (D:Mo (bP 8 Int) Int) (G:bG):Option ((Option bG)×Int):=
 (bO (λq:Int×(Mo (bP 8 Int) Int)×bG=>br B J O q.1 q.2.1 q.2.2) (U,D,G)).bind (Fw.elim
 (λe=>c_.W2 B (len B) 0 e.1 (⟨e.2.list,⟨none⟩,Sl.nil⟩:bG))
 (λe=>Empty.elim e))
end c_
def c_ (B:Trace):Option ((Option bG)×Int):=
 (uJ B).bind λt=>
 bq (t.2==0)
 (c_.W1 t.1 t.1 (len t.1) 0 [] (⟨t.1,⟨none⟩,Sl.nil⟩:bG))
 (some (none,t.2))
open c_ in
instance OA (J:Trace):Fc Sy cL (c_ J):=Fc.N 82 [enc J] (eu 2 1 J (bM 7 λt _=>dX 14 22 (SR 7 [cv t.1,.mp 25] [cv t.1,.mp 25,.v .bB] [.bB,.fB,.bB] [(0,1),(1,1)] (by simp only[AR,Lj,Mr,I9,Kj,I7,ko,Rj,O9,Rz,QS];rfl) (Sj 0 27 [cv t.1,.mp 25,.v .bB] (by simp only[List.all_cons,RU,M4,Pd,Mz,mF,kH,mD,kL,G8];rfl) (bR 7 t.1 (fD 5 (λz=>(bF [Cv 4 t.1,(6,.ptr 27 0),Cv 28 t.1,Iv 29 (len t.1),Iv 30 z.1] [(25,lI z.2.1),(27,.box [cv z.2.2.list,.mp 25,.v .bB])])) (λI=>(0,(bF [Cv 4 t.1,(6,.ptr 27 0)] [(25,lI I.1),(27,.box [cv I.2.list,.mp 25,.v .bB])]))) (λz=>bC 7 31 (bY 8 λT _=>mw 11 λL _=>RS 1 25 z.2.1 L z.1 a_) a_) (λI=>bR 6 t.1 (fD 6 (λw=>(bF [(6,.ptr 27 0),Cv 43 t.1,Iv 44 (len t.1),Iv 45 w.1] [(25,lI w.2.1),(27,.box [cv w.2.2.list,.mp 25,.own 4542]),Lb 4542 w.2.2.next])) (λG=>(2,(bF [(6,.ptr 27 0)] [(25,lI G.1),(27,.box [cv G.2.list,.mp 25,.own 4542]),Lb 4542 G.2.next]))) (λw=>bC 8 46 (bY 7 λD _=>bR 13 D (fD 7 (λu=>(bF [(6,.ptr 27 0),Cv 10 D,Ov 11,Cv 43 t.1,Iv 44 (len t.1),Iv 45 w.1,Iv 50 (len D),Iv 51 u.2.1] [(25,lI w.2.1),(27,.box [cv u.2.2.list,.mp 25,.own 4542]),Lb 2011 u.1,Lb 4542 u.2.2.next])) (λA=>(4,(bF [(6,.ptr 27 0),Ov 11,Cv 43 t.1,Iv 44 (len t.1),Iv 45 w.1] [(25,lI A.2.1),(27,.box [cv A.2.2.list,.mp 25,.own 4542]),Lb 2011 A.1,Lb 4542 A.2.2.next]))) (λu=>bC 9 52 (bM 14 λB _=>P7 0 13 (bF [(6,.ptr 27 0),Cv 10 D,Ov 11,Cv 43 t.1,Iv 44 (len t.1),Iv 45 w.1,Iv 50 (len D),Iv 51 u.2.1,Bv 52 true,Iv 12 u.2.1,Cv 55 B] [(25,lI w.2.1),(27,.box [cv u.2.2.list,.mp 25,.own 4542]),Lb 2011 u.1,Lb 4542 u.2.2.next]) 8 (0:Int) (by kernel_rfl) (TM 0 13 (bP.Dv 8 (0:Int)) B (zh 5 .i64 13 λC O=>IF 0 1 false 13 B u.2.1 0 C O (.int .i64 C) (by rfl) (zh 1 .i64 13 λQ S=>SA 0 1 13 B u.2.1 0 Q S (IntKind.wrap .i64 (C+1)) (.int .i64 (IntKind.wrap .i64 (C+1))) (by rfl) (TV 8 13 (bP.set B u.2.1 (IntKind.wrap .i64 (C+1))) rfl (RH 0 25 w.2.1 (bP.set B u.2.1 (IntKind.wrap .i64 (C+1))) 0 (bC 12 70 (mE 6 2011 73 74 λU _=>a_) a_))))))) a_) (λA=>uB 10 82 ([A.1]:List (Sl Int)) (mE 0 4542 82 83 λW _=>a_)))) a_) (λG=>a_))))))) a_))
namespace cD
def ck (W:bG) (O:Sl Bool) (U Y:Sl (Sl Int)) (aa ab:Int) (J:Sl Int) (B:Sl Bool) (G D:Int):Option (Fw ((Sl Bool)×Int×Int) (Sl Bool) Empty):=
 bq (decide (D<G))
 ((idx J D).bind λt=>
 (Sl.jf B t).bind λu=>
 (Sl.put B u (true:Bool)).bind λw=>
 some (.n (w,G,IntKind.wrap .i64 (D+1))))
 (some (.x B))
def W2 (O:bG) (G B:Sl Bool) (D U:Sl (Sl Int)) (W J:Int) (Y:Sl Int) (aa ab:Int):Option (Fw ((Sl Bool)×(Sl (Sl Int))×Int) (Sl (Sl Int)) Unit):=
 (bO (λq:(Sl Bool)×Int×Int=>ck O G D U W J Y q.1 q.2.1 q.2.2) (B,aa,ab)).bind (Fw.elim
 (λe=>some (.n (e,D,IntKind.wrap .i64 (J+1))))
 (λe=>Empty.elim e))
def br (O:bG) (J:Sl Bool) (U:Sl (Sl Int)) (W:Int) (B:Sl Bool) (G:Sl (Sl Int)) (D:Int):Option (Fw ((Sl Bool)×(Sl (Sl Int))×Int) (Sl (Sl Int)) Unit):=
 bq (decide (D<W))
 ((idx U D).bind λu=>
 (Sl.jf B D).bind λw=>
 (Sl.get B w).bind λz=>
 bq z
 ((idx J D).bind λA=>
 bq A
 (((kO u).bind Sl.whole).bind λC=>
 (fT G (C:Sl Int)).bind λI=>
 some (.n (B,I,IntKind.wrap .i64 (D+1))))
 (bq (D==(IntKind.wrap .i64 ((len O.list)-1)))
 (some (.r ()))
 ((idx O.next D).bind λt=>
 W2 O J B G U W D t (len t) 0)))
 (some (.n (B,G,IntKind.wrap .i64 (D+1)))))
 (some (.x G))
def W1 (J:bG) (D B:Sl Bool) (G O:Sl (Sl Int)) (U W:Int):Option ((Sl (Sl Int))×Bool):=
 (bO (λq:(Sl Bool)×(Sl (Sl Int))×Int=>br J D O U q.1 q.2.1 q.2.2) (B,G,W)).bind (Fw.elim
 (λe=>some (e,true))
 (λe=>some ((Sl.nil:Sl (Sl Int)),false)))
end cD
def cD (D:bG) (B:Sl Bool):Option ((Sl (Sl Int))×Bool):=
 (ov (len D.list) (false:Bool)).bind λt=>
 (Sl.jf t 0).bind λu=>
 (Sl.put t u (true:Bool)).bind λw=>
 cD.W1 D B w (Sl.nil:Sl (Sl Int)) D.list (len D.list) 0
open cD in
instance DR (D:bG) (B:Sl Bool):Fc Sy cL (cD D B):=Fc.N 84 [.fptr (cells D),enc B] (bR 12 D.list (Hp 0 17 λQ _=>jy .i64 6 17 λS _=>tU 0 17 (.bool true) λT _=>bR 14 D.list (d_ 7 (λt=>(bF [Kv 0 D,Cv 1 B,Ov 6,Ov 7,Cv 23 D.list,Iv 24 (len D.list),Iv 25 t.2.2] [Lb 2006 t.1,Lb 2007 t.2.1])) (λu=>(0,(bF [Ov 7] [Lb 2007 u]))) (λu=>(bF [Ov 4,Bv 5 false] [Lb 2004 (Sl.nil:Sl (Sl Int))])) (λt=>bC 9 26 (bY 8 λG _=>jy .i64 11 2006 λU _=>o_ 0 2006 0 1 false (λA=>.bool A) λA _=>dX 4 30 (bY 5 λW _=>bC 4 36 (Q2 5 43 qI G λI _=>uB 1 44 ([I]:List (Sl Int)) (mE 0 2007 44 45 λX _=>a_)) (bR 8 D.list (bC 5 46 a_ (bY 11 λz _=>bR 1 z (fD 7 (λw=>(bF [Kv 0 D,Cv 1 B,Ov 6,Ov 7,Cv 23 D.list,Iv 24 (len D.list),Iv 25 t.2.2,Cv 61 z,Iv 62 w.2.1,Iv 63 w.2.2] [Lb 2006 w.1,Lb 2007 t.2.1])) (λC=>(3,(bF [Kv 0 D,Cv 1 B,Ov 6,Ov 7,Cv 23 D.list,Iv 24 (len D.list),Iv 25 t.2.2] [Lb 2006 C,Lb 2007 t.2.1]))) (λw=>bC 9 64 (bY 7 λJ _=>jy .i64 7 2006 λL _=>tU 0 2006 (.bool true) λO _=>a_) a_) (λC=>a_)))))) a_) a_) (λu=>a_) (λu=>a_))))
def pS (D:Trace) (B:Sl Bool):Option ((Sl (Sl Int))×Int):=
 (c_ D).bind λt=>
 bq (t.2==0)
 ((t.1).bind λu=>
 bq ((len B)==(len u.list))
 ((cD u B).bind λw=>
 bq w.2
 (some (w.1,0))
 (some (Sl.nil,7)))
 (some (Sl.nil,3)))
 (some (Sl.nil,t.2))
instance N5 (D:Trace) (B:Sl Bool):Fc Sy cL (pS D B):=Fc.N 41 [enc D,enc B] (eu 2 2 D (bM 7 λt _=>dX 14 16 (bR 7 B (Rp 1 (λw=>(bF [Cv 1 B,Cv 6 w,Iv 7 t.2,Bv 16 false,Iv 19 (len B),Cv 20 w] [Xb 2 D])) λu _=>bR 3 u.list (dX 3 25 (bM 7 λz _=>dX 14 33 a_ a_) a_))) a_))
namespace gJ
def br (D:Sl (Sl Int)) (J:Sl Bool) (B:Sl (Sl Int)) (G:Int):Option (Fw ((Sl (Sl Int))×Int) (Sl (Sl Int)) Empty):=
 bq (decide (G<(len D)))
 ((idx J G).bind λt=>
 bq t
 ((idx D G).bind λu=>
 (fT B (u:Sl Int)).bind λw=>
 some (.n (w,IntKind.wrap .i64 (G+1))))
 (some (.n (B,IntKind.wrap .i64 (G+1)))))
 (some (.x B))
def W1 (B:Sl (Sl Int)) (G:Sl Bool) (D:Sl (Sl Int)) (J:Int):Option (Sl (Sl Int)):=
 (bO (λq:(Sl (Sl Int))×Int=>br B G q.1 q.2) (D,J)).bind (Fw.elim
 (λe=>some e)
 (λe=>Empty.elim e))
end gJ
def gJ (B:Sl (Sl Int)) (D:Sl Bool):Option (Sl (Sl Int)):=
 gJ.W1 B D (Sl.nil:Sl (Sl Int)) 0
open gJ in
instance OK (B:Sl (Sl Int)) (D:Sl Bool):Fc Sy cL (gJ B D):=Fc.N 43 [enc B,enc D] (fD 19 (λt=>(bF [Cv 0 B,Cv 1 D,Ov 5,Iv 6 t.2] [Lb 2005 t.1])) (λu=>(0,(bF [Ov 5] [Lb 2005 u]))) (λt=>bR 7 B (bC 3 10 (bY 9 λz _=>bC 3 16 (bY 5 λw _=>uB 1 22 ([w]:List (Sl Int)) (mE 0 2005 22 23 λA _=>a_)) a_) a_)) (λu=>a_))
namespace jC
def br (a0 D:Sl Int) (B:Int):Option (Fw Int Unit Unit):=
 bq (decide (B<(len a0)))
 ((idx a0 B).bind λt=>
 (idx D B).bind λu=>
 bq (t==u)
 (some (.n (IntKind.wrap .i64 (B+1))))
 (some (.r ())))
 (some (.x ()))
def W1 (a0 B:Sl Int) (D:Int):Option Bool:=
 (bO (λq:Int=>br a0 B q) D).bind (Fw.elim
 (λe=>some true)
 (λe=>some false))
end jC
def jC (a0 B:Sl Int):Option Bool:=
 bq ((len a0)==(len B))
 (jC.W1 a0 B 0)
 (some false)
open jC in
instance QH (a0 B:Sl Int):Fc Sy cL (jC a0 B):=Fc.M 88 [enc a0,enc B] (bR 9 a0 (bR 1 B (dX 3 10 (d_ 11 (λu=>(bF [Cv 0 a0,Cv 1 B,Iv 5 u] [])) (λt=>(0,(bF [] []))) (λt=>(bF [Bv 4 false] [])) (λu=>bR 6 a0 (bC 3 14 (bY 9 λw _=>bY 3 λz _=>dX 4 25 a_ a_) a_)) (λt=>a_) (λt=>a_)) a_)))
namespace gI
def br (D:Sl (Sl Int)) (G:Sl Int) (B:Int):Option (Fw Int Unit Unit):=
 bq (decide (B<(len D)))
 ((idx D B).bind λt=>
 (jC t G).bind λu=>
 bq u
 (some (.r ()))
 (some (.n (IntKind.wrap .i64 (B+1)))))
 (some (.x ()))
def W1 (B:Sl (Sl Int)) (D:Sl Int) (G:Int):Option Bool:=
 (bO (λq:Int=>br B D q) G).bind (Fw.elim
 (λe=>some false)
 (λe=>some true))
end gI
def gI (B:Sl (Sl Int)) (D:Sl Int):Option Bool:=
 gI.W1 B D 0
open gI in
instance OS (B:Sl (Sl Int)) (D:Sl Int):Fc Sy cL (gI B D):=Fc.M 131 [enc B,enc D] (d_ 13 (λu=>(bF [Cv 0 B,Cv 1 D,Iv 5 u] [])) (λt=>(0,(bF [] []))) (λt=>(bF [Bv 4 true] [])) (λu=>bR 6 B (bC 3 9 (bY 9 λw _=>bM 2 λz _=>bC 2 17 a_ a_) a_)) (λt=>a_) (λt=>a_))
def sH (B:Trace) (D:Sl Int) (p2:Int):Option Bool:=
 (idx D p2).bind λt=>
 (idx B.procs p2).bind λu=>
 some (decide (t<(len u.events)))
instance QG (B:Trace) (D:Sl Int) (p2:Int):Fc Sy cL (sH B D p2):=Fc.M 135 [enc B,enc D,.int .i64 p2] (eu 2 3 B (bY 7 λu _=>bY 4 λt _=>bR 2 t.events a_))
def sA (B:Trace) (D:Sl Int) (p2 i3:Int):Option Bool:=
 (idx B.procs p2).bind λw=>
 (idx w.events i3).bind λt=>
 bq (t.kind==3)
 ((dw B 2 t.message).bind λu=>
 (idx D u.proc).bind λz=>
 some (decide (u.index<=z)))
 (some true)
instance QL (B:Trace) (D:Sl Int) (p2 i3:Int):Fc Sy cL (sA B D p2 i3):=Fc.M 136 [enc B,enc D,.int .i64 p2,.int .i64 i3] (eu 2 4 B (bY 8 λu _=>bY 3 λt _=>o8 2 9 0 t (dX 10 22 (bM 8 λw _=>bY 11 λz _=>a_) a_)))
namespace eE
def br (G:Sl Int) (D:Trace) (B:Sl Int) (p6:Int):Option (Fw ((Sl Int)×Int) (Sl Int) Empty):=
 bq (decide (p6<(len G)))
 ((sH D G p6).bind λt=>
 (bq t
 ((idx G p6).bind λu=>
 (sA D G p6 u).bind λw=>
 some w)
 (some false):Option Bool).bind λz=>
 bq z
 ((fT B (p6:Int)).bind λA=>
 some (.n (A,IntKind.wrap .i64 (p6+1))))
 (some (.n (B,IntKind.wrap .i64 (p6+1)))))
 (some (.x B))
def W1 (G B:Sl Int) (p6:Int) (D:Trace):Option (Sl Int):=
 (bO (λq:(Sl Int)×Int=>br G D q.1 q.2) (B,p6)).bind (Fw.elim
 (λe=>some e)
 (λe=>Empty.elim e))
end eE
def eE (B:Trace) (D:Sl Int):Option (Sl Int):=
 eE.W1 D (Sl.nil:Sl Int) 0 B
open eE in
instance Mi (B:Trace) (D:Sl Int):Fc Sy cL (eE B D):=Fc.N 92 [enc B,enc D] (eu 2 2 B (fD 17 (λt=>(bF [Cv 1 D,Pv 2,Ov 5,Iv 6 t.2] [Xb 2 B,Lb 2005 t.1])) (λu=>(0,(bF [Ov 5] [Lb 2005 u]))) (λt=>bR 7 D (bC 3 10 (mw 10 λz _=>IJ 1 9 [25,16] (λw=>(bF [Cv 1 D,Pv 2,Ov 5,Iv 6 t.2,Bv 10 true,Bv 26 w] [Xb 2 B,Lb 2005 t.1])) (bC 1 17 (bY 5 λA _=>mw 1 λC _=>bL 1) (bL 9)) λw=>bC 2 26 (mE 5 2005 29 30 λG _=>a_) a_) a_)) (λu=>a_)))
def nJ (B:Sl Int) (p1:Int):Option (Sl Int):=
 (mq (Sl.row []:Sl Int) B).bind λt=>
 (Sl.jf t p1).bind λu=>
 (Sl.get t u).bind λw=>
 (Sl.jf t p1).bind λz=>
 (Sl.put t z (IntKind.wrap .i64 (w+1):Int)).bind λA=>
 some A
instance Qt (B:Sl Int) (p1:Int):Fc Sy cL (nJ B p1):=Fc.N 93 [enc B,.int .i64 p1] (vM 9 6 8 λu _=>jy .i64 7 8 λw _=>o_ 0 8 0 1 false (λt=>.int .i64 t) λt _=>jy .i64 1 8 λz _=>tU 0 8 (.int .i64 (IntKind.wrap .i64 (t+1))) λA _=>a_)
namespace jD
def br (D:Sl (Sl Int)) (G:Sl Int) (B:Int):Option (Fw Int Unit Int):=
 bq (decide (B<(len D)))
 ((idx D B).bind λt=>
 (dz t G).bind λu=>
 bq u
 (some (.r B))
 (some (.n (IntKind.wrap .i64 (B+1)))))
 (some (.x ()))
def W1 (B:Sl (Sl Int)) (D:Sl Int) (G:Int):Option Int:=
 (bO (λq:Int=>br B D q) G).bind (Fw.elim
 (λe=>some (-1))
 (λe=>some e))
end jD
def jD (B:Sl (Sl Int)) (D:Sl Int):Option Int:=
 jD.W1 B D 0
open jD in
instance QJ (B:Sl (Sl Int)) (D:Sl Int):Fc Sy cL (jD B D):=Fc.M 21 [enc B,enc D] (d_ 13 (λu=>(bF [Cv 0 B,Cv 1 D,Iv 5 u] [])) (λt=>(0,(bF [] []))) (λt=>(bF [Iv 4 t] [])) (λu=>bR 6 B (bC 3 9 (bY 9 λw _=>bM 2 λz _=>bC 2 17 a_ a_) a_)) (λt=>a_) (λt=>a_))
namespace ga
def br (D:Trace) (B:Sl Int) (p4:Int):Option (Fw ((Sl Int)×Int) (Sl Int) Empty):=
 bq (decide (p4<(len D.procs)))
 ((idx D.procs p4).bind λt=>
 (fT B (len t.events:Int)).bind λu=>
 some (.n (u,IntKind.wrap .i64 (p4+1))))
 (some (.x B))
def W1 (B:Sl Int) (p4:Int) (D:Trace):Option (Sl Int):=
 (bO (λq:(Sl Int)×Int=>br D q.1 q.2) (B,p4)).bind (Fw.elim
 (λe=>some e)
 (λe=>Empty.elim e))
end ga
def ga (B:Trace):Option (Sl Int):=
 ga.W1 (Sl.nil:Sl Int) 0 B
open ga in
instance LI (B:Trace):Fc Sy cL (ga B):=Fc.N 133 [enc B] (eu 2 1 B (fD 17 (λt=>(bF [Pv 1,Ov 3,Iv 4 t.2] [Xb 1 B,Lb 2003 t.1])) (λu=>(0,(bF [Ov 3] [Lb 2003 u]))) (λt=>bR 8 B.procs (bC 3 9 (bY 10 λw _=>bR 2 w.events (mE 1 2003 20 21 λz _=>a_)) a_)) (λu=>a_)))
namespace cR
def dM (J W:Sl (Sl Int)) (O:Int) (D:Sl Int) (U:Trace) (B:Sl Bool) (G:Int):Option (Fw ((Sl Bool)×Int) (Sl Bool) Empty):=
 bq (decide (G<(len D)))
 ((idx J O).bind λI=>
 (idx D G).bind λL=>
 (nJ I L).bind λt=>
 (jD J t).bind λu=>
 (Sl.jf B u).bind λw=>
 (Sl.get B w).bind λz=>
 bq z
 ((Sl.jf B O).bind λA=>
 (Sl.put B A (true:Bool)).bind λC=>
 some (.n (C,IntKind.wrap .i64 (G+1))))
 (some (.n (B,IntKind.wrap .i64 (G+1)))))
 (some (.x B))
def W3 (G W:Sl (Sl Int)) (B:Sl Bool) (U:Int) (D:Sl Int) (J:Int) (O:Trace):Option (Fw ((Sl Bool)×Int) (Sl Bool) Empty):=
 (bO (λq:(Sl Bool)×Int=>dM G W U D O q.1 q.2) (B,J)).bind (Fw.elim
 (λe=>some (.n (e,IntKind.wrap .i64 (U-1))))
 (λe=>Empty.elim e))
def J2 (D O:Sl (Sl Int)) (B:Sl Bool) (J:Int) (G:Trace):Option (Fw ((Sl Bool)×Int) (Sl Bool) Empty):=
 (idx D J).bind λt=>
 (eE G t).bind λu=>
 W3 D O B J u 0 G
def oR (J:Sl (Sl Int)) (B:Sl Bool) (O:Sl Int) (U:Sl (Sl Int)) (D:Sl Int) (W:Trace) (G:Int):Option (Fw Int (Sl Int) Empty):=
 bq (decide (G<(len D)))
 ((idx D G).bind λu=>
 (nJ O u).bind λt=>
 (jD J t).bind λw=>
 (Sl.jf B w).bind λz=>
 (Sl.get B z).bind λA=>
 bq A
 (some (.x t))
 (some (.n (IntKind.wrap .i64 (G+1)))))
 (some (.x O))
def W5 (J:Sl (Sl Int)) (D:Sl Bool) (O:Sl Int) (B:Sl (Sl Int)) (G:Sl Int) (U:Int) (W:Trace):Option (Fw ((Sl Int)×(Sl (Sl Int))) (Sl (Sl Int)) Empty):=
 (bO (λq:Int=>oR J D O B G W q) U).bind (Fw.elim
 (λe=>(fT B (e:Sl Int)).bind λt=>
 some (.n (e,t)))
 (λe=>Empty.elim e))
def nF (J:Sl (Sl Int)) (D:Sl Bool) (G:Trace) (O:Sl Int) (B:Sl (Sl Int)):Option (Fw ((Sl Int)×(Sl (Sl Int))) (Sl (Sl Int)) Empty):=
 (ga G).bind λt=>
 (e_ t).bind λu=>
 bq (decide ((len B)<=u))
 ((eE G O).bind λw=>
 W5 J D O B w 0 G)
 (some (.x B))
def W4 (G:Sl (Sl Int)) (B:Sl Bool) (J:Sl Int) (D:Sl (Sl Int)) (O:Trace):Option ((Sl (Sl Int))×Bool):=
 (bO (λq:(Sl Int)×(Sl (Sl Int))=>nF G B O q.1 q.2) (J,D)).bind (Fw.elim
 (λe=>some (e,true))
 (λe=>Empty.elim e))
def br (D O:Sl (Sl Int)) (J:Trace) (B:Sl Bool) (G:Int):Option (Fw ((Sl Bool)×Int) (Sl Bool) Empty):=
 bq (decide (G>=0))
 ((idx D G).bind λt=>
 (gI O t).bind λu=>
 bq u
 (some (.n (B,IntKind.wrap .i64 (G-1))))
 (bq (G==(IntKind.wrap .i64 ((len D)-1)))
 ((Sl.jf B G).bind λw=>
 (Sl.put B w (true:Bool)).bind λz=>
 J2 D O z G J)
 (J2 D O B G J)))
 (some (.x B))
def W1 (B J:Sl (Sl Int)) (D:Sl Bool) (O:Int) (G:Trace):Option ((Sl (Sl Int))×Bool):=
 (bO (λq:(Sl Bool)×Int=>br B J G q.1 q.2) (D,O)).bind (Fw.elim
 (λe=>(Sl.jf e 0).bind λu=>
 (Sl.get e u).bind λw=>
 bq w
 ((idx B 0).bind λt=>
 cR.W4 B e t (Sl.row [t]:Sl (Sl Int)) G)
 (some (Sl.nil,false)))
 (λe=>Empty.elim e))
def LK (B G:Sl (Sl Int)) (D:Trace):(Sl Bool)×Int->St:=λq=>(bF [Cv 1 B,Cv 2 G,Pv 3,Ov 8,Iv 9 q.2] [Xb 3 D,Lb 2008 q.1])
def Nt (B G:Sl (Sl Int)) (D:Trace):(Sl Bool)->Nat×St:=λe=>(0,(bF [Cv 1 B,Pv 3,Ov 8] [Xb 3 D,Lb 2008 e]))
def MV (B G:Sl (Sl Int)) (D:Trace):Empty->St:=λe=>Empty.elim e
theorem Oi (B J:Sl (Sl Int)) (G:Sl Bool) (O:Int) (D:Trace):Le ((J2 B J G O D).bind (λw=>some (Fw.out (LK B J D) (Nt B J D) (MV B J D) w))) (b8 Sy cL some (mO (tb Tx 87) [1,1,0,1,0,0,0,0,0,0,1,0,0,1,1,0,0] [] (bF [Cv 1 B,Cv 2 J,Pv 3,Ov 8,Iv 9 O] [Xb 3 D,Lb 2008 G]))):=
 bY 5 λT _=>bM 1 λz _=>fD 11 (λu=>(bF [Cv 1 B,Cv 2 J,Pv 3,Ov 8,Iv 9 O,Cv 10 z,Iv 11 u.2] [Xb 3 D,Lb 2008 u.1])) (λA=>(2,(bF [Cv 1 B,Cv 2 J,Pv 3,Ov 8,Iv 9 O] [Xb 3 D,Lb 2008 A]))) (λu=>bR 7 z (bC 3 50 (bY 11 λU _=>bY 3 λW _=>bM 1 λC _=>mw 0 λI _=>jy .i64 0 2008 λL _=>o_ 0 2008 0 1 false (λt=>.bool t) λt _=>bC 2 66 (jy .i64 4 2008 λQ _=>tU 0 2008 (.bool true) λS _=>a_) a_) a_)) (λA=>a_)
theorem HP (B J:Sl (Sl Int)) (G:Trace) (D:Sl Bool) (O:Int):Le ((br B J G D O).bind (λw=>some (Fw.out (LK B J G) (Nt B J G) (MV B J G) w))) (b8 Sy cL some (.rc (E7 (tb Tx 87) [1,1,0,1,0,0,0]),[],(bF [Cv 1 B,Cv 2 J,Pv 3,Ov 8,Iv 9 O] [Xb 3 G,Lb 2008 D]))):=
 bC 9 24 (bY 11 λu _=>bM 1 λz _=>bC 2 32 a_ (bR 8 B (bC 4 37 (jy .i64 4 2008 λA _=>tU 0 2008 (.bool true) λt _=>wH 4 (Oi B J t O G)) (wH 5 (Oi B J D O G))))) a_
theorem S_ (B J:Sl (Sl Int)) (G:Sl Bool) (O:Int) (D:Trace):Le ((W1 B J G O D).bind (λr=>some [enc r.1,.bool r.2])) (b8 Sy cL (pg (tr Tx 87)) (mO (tb Tx 87) [1,1,0,1,0,0,0] [] (bF [Cv 1 B,Cv 2 J,Pv 3,Ov 8,Iv 9 O] [Xb 3 D,Lb 2008 G]))):=
 Sn (LK B J D) (Nt B J D) (MV B J D) (λq=>HP B J D q.1 q.2) (λe=>jy .i64 6 2008 λQ _=>o_ 0 2008 0 1 false (λu=>.bool u) λu _=>dX 3 73 (bY 6 λC _=>uB 7 78 ([C]:List (Sl Int)) (fD 8 (λt=>(bF [Cv 1 B,Pv 3,Ov 8,Cv 12 t.1,Ov 13] [Xb 3 D,Lb 2008 e,Lb 2013 t.2])) (λI=>(4,(bF [Ov 13] [Lb 2013 I]))) (λt=>Bm 7 2013 t.2 (bM 1 λS _=>bM 0 λT _=>bC 3 84 (bM 8 λw _=>fD 13 (λL=>(bF [Cv 1 B,Pv 3,Ov 8,Cv 12 t.1,Ov 13,Cv 14 w,Iv 15 L] [Xb 3 D,Lb 2008 e,Lb 2013 t.2])) (λA=>(6,(bF [Cv 1 B,Pv 3,Ov 8,Cv 12 A,Ov 13] [Xb 3 D,Lb 2008 e,Lb 2013 t.2]))) (λL=>bR 8 w (bC 3 91 (bY 10 λU _=>bM 1 λW _=>bM 8 λX _=>jy .i64 0 2008 λY _=>o_ 0 2008 0 1 false (λz=>.bool z) λz _=>bC 2 105 a_ a_) a_)) (λA=>uB 5 109 ([A]:List (Sl Int)) (mE 0 2013 109 110 λZ _=>a_))) a_)) (λI=>a_))) a_) (λx=>Empty.elim x)
end cR
def cR (D:Trace) (B G:Sl (Sl Int)):Option ((Sl (Sl Int))×Bool):=
 (ov (len B) (false:Bool)).bind λt=>
 cR.W1 B G t (IntKind.wrap .i64 ((len B)-1)) D
open cR in
instance PD (D:Trace) (B G:Sl (Sl Int)):Fc Sy cL (cR D B G):=Fc.N 87 [enc D,enc B,enc G] (eu 2 3 D (bR 7 B (Hp 0 19 λt _=>bR 7 B (wH 7 (S_ B G t (IntKind.wrap .i64 ((len B)-1)) D)))))
def uS (D:Trace) (B G:Sl (Sl Int)):Option Bool:=
 (cR D B G).bind λt=>
 some (!t.2)
instance Sd (D:Trace) (B G:Sl (Sl Int)):Fc Sy cL (uS D B G):=Fc.M 34 [enc D,enc B,enc G] (eu 2 3 D (bM 8 λt _=>a_))
namespace kz
def br (a0 D:Sl Int) (B:Int):Option (Fw Int Unit Unit):=
 bq (decide (B<(len a0)))
 ((idx a0 B).bind λt=>
 (idx D B).bind λu=>
 bq (t==u)
 (some (.n (IntKind.wrap .i64 (B+1))))
 (some (.r ())))
 (some (.x ()))
def W1 (a0 B:Sl Int) (D:Int):Option Bool:=
 (bO (λq:Int=>br a0 B q) D).bind (Fw.elim
 (λe=>some true)
 (λe=>some false))
end kz
def kz (a0 B:Sl Int):Option Bool:=
 bq ((len a0)==(len B))
 (kz.W1 a0 B 0)
 (some false)
open kz in
instance QB (a0 B:Sl Int):Fc Sy cL (kz a0 B):=Fc.M 94 [enc a0,enc B] (bR 9 a0 (bR 1 B (dX 3 10 (d_ 11 (λu=>(bF [Cv 0 a0,Cv 1 B,Iv 5 u] [])) (λt=>(0,(bF [] []))) (λt=>(bF [Bv 4 false] [])) (λu=>bR 6 a0 (bC 3 14 (bY 9 λw _=>bY 3 λz _=>dX 4 25 a_ a_) a_)) (λt=>a_) (λt=>a_)) a_)))
namespace cN
def dM (J:Sl (Sl Int)) (Y:Sl Bool) (i8:Int) (O:Sl Int) (U:Int) (G:Sl Int) (W:Trace) (B:Sl Bool) (D:Int):Option (Fw ((Sl Bool)×Int) (Sl Bool) Empty):=
 bq (decide (D<(len J)))
 ((idx J D).bind λt=>
 (kz t G).bind λu=>
 bq u
 ((Sl.jf B D).bind λw=>
 (Sl.put B w (true:Bool)).bind λz=>
 some (.n (z,IntKind.wrap .i64 (D+1))))
 (some (.n (B,IntKind.wrap .i64 (D+1)))))
 (some (.x B))
def W3 (J:Sl (Sl Int)) (Y G:Sl Bool) (i8:Int) (B:Sl Int) (O:Int) (D:Sl Int) (U:Int) (W:Trace):Option (Fw ((Sl Bool)×Int) (Sl Bool) Empty):=
 (bO (λq:(Sl Bool)×Int=>dM J Y i8 B O D W q.1 q.2) (G,U)).bind (Fw.elim
 (λe=>some (.n (e,IntKind.wrap .i64 (O+1))))
 (λe=>Empty.elim e))
def ck (G:Sl (Sl Int)) (U:Sl Bool) (i8:Int) (B:Sl Int) (O:Trace) (D:Sl Bool) (J:Int):Option (Fw ((Sl Bool)×Int) (Sl Bool) Empty):=
 bq (decide (J<(len B)))
 ((idx G i8).bind λt=>
 (idx B J).bind λu=>
 (nJ t u).bind λw=>
 W3 G U D i8 B J w (IntKind.wrap .i64 (i8+1)) O)
 (some (.x D))
def W2 (G:Sl (Sl Int)) (U D:Sl Bool) (i8:Int) (B:Sl Int) (J:Int) (O:Trace):Option (Fw ((Sl Bool)×Int) (Sl Bool) Empty):=
 (bO (λq:(Sl Bool)×Int=>ck G U i8 B O q.1 q.2) (D,J)).bind (Fw.elim
 (λe=>some (.n (e,IntKind.wrap .i64 (i8+1))))
 (λe=>Empty.elim e))
def nF (J:Sl (Sl Int)) (O G:Sl Bool) (B:Sl (Sl Int)) (D:Int):Option (Fw ((Sl (Sl Int))×Int) (Sl (Sl Int)) Empty):=
 bq (decide (D<(len J)))
 ((Sl.jf G D).bind λt=>
 (Sl.get G t).bind λu=>
 (bq u
 ((idx O D).bind λw=>
 some w)
 (some false):Option Bool).bind λz=>
 bq z
 ((idx J D).bind λA=>
 (fT B (A:Sl Int)).bind λC=>
 some (.n (C,IntKind.wrap .i64 (D+1))))
 (some (.n (B,IntKind.wrap .i64 (D+1)))))
 (some (.x B))
def W4 (G:Sl (Sl Int)) (O B:Sl Bool) (D:Sl (Sl Int)) (J:Int):Option (Sl (Sl Int)):=
 (bO (λq:(Sl (Sl Int))×Int=>nF G O B q.1 q.2) (D,J)).bind (Fw.elim
 (λe=>some e)
 (λe=>Empty.elim e))
def br (D:Sl (Sl Int)) (J:Sl Bool) (G:Trace) (B:Sl Bool) (i8:Int):Option (Fw ((Sl Bool)×Int) (Sl Bool) Empty):=
 bq (decide (i8<(len D)))
 ((Sl.jf B i8).bind λt=>
 (Sl.get B t).bind λu=>
 (bq u
 ((idx J i8).bind λw=>
 some w)
 (some true):Option Bool).bind λz=>
 bq z
 (some (.n (B,IntKind.wrap .i64 (i8+1))))
 ((idx D i8).bind λA=>
 (eE G A).bind λC=>
 W2 D J B i8 C 0 G))
 (some (.x B))
def W1 (B:Sl (Sl Int)) (J D:Sl Bool) (i8:Int) (G:Trace):Option (Sl (Sl Int)):=
 (bO (λq:(Sl Bool)×Int=>br B J G q.1 q.2) (D,i8)).bind (Fw.elim
 (λe=>cN.W4 B J e (Sl.nil:Sl (Sl Int)) 0)
 (λe=>Empty.elim e))
end cN
def cN (D:Trace) (B:Sl (Sl Int)) (G:Sl Bool):Option (Sl (Sl Int)):=
 (ov (len B) (false:Bool)).bind λt=>
 (Sl.jf t 0).bind λu=>
 (Sl.put t u (true:Bool)).bind λw=>
 cN.W1 B G w 0 D
open cN in
instance NI (G:Trace) (B:Sl (Sl Int)) (D:Sl Bool):Fc Sy cL (cN G B D):=Fc.N 44 [enc G,enc B,enc D] (eu 2 3 G (bR 6 B (Hp 0 17 λah _=>jy .i64 6 17 λai _=>tU 0 17 (.bool true) λaj _=>fD 11 (λt=>(bF [Cv 1 B,Cv 2 D,Pv 3,Ov 7,Iv 8 t.2] [Xb 3 G,Lb 2007 t.1])) (λA=>(0,(bF [Cv 1 B,Cv 2 D,Ov 7] [Lb 2007 A]))) (λt=>bR 7 B (bC 3 23 (jy .i64 10 2007 λak _=>o_ 0 2007 0 1 false (λJ=>.bool J) λJ _=>cF 2 5 [31] 36 (dX 2 31 (bY 2 λal _=>bL 2) (bL 5)) λam=>bC 2 36 a_ (bY 8 λan _=>bM 1 λw _=>fD 11 (λu=>(bF [Cv 1 B,Cv 2 D,Pv 3,Ov 7,Iv 8 t.2,Cv 9 w,Iv 10 u.2] [Xb 3 G,Lb 2007 u.1])) (λL=>(2,(bF [Cv 1 B,Cv 2 D,Pv 3,Ov 7,Iv 8 t.2] [Xb 3 G,Lb 2007 L]))) (λu=>bR 7 w (bC 3 46 (bY 9 λU _=>bY 3 λW _=>bM 1 λO _=>fD 13 (λC=>(bF [Cv 1 B,Cv 2 D,Pv 3,Ov 7,Iv 8 t.2,Cv 9 w,Iv 10 u.2,Cv 11 O,Iv 12 C.2] [Xb 3 G,Lb 2007 C.1])) (λQ=>(4,(bF [Cv 1 B,Cv 2 D,Pv 3,Ov 7,Iv 8 t.2,Cv 9 w,Iv 10 u.2] [Xb 3 G,Lb 2007 Q]))) (λC=>bR 7 B (bC 3 63 (bY 9 λX _=>bM 2 λY _=>bC 2 71 (jy .i64 4 2007 λZ _=>tU 0 2007 (.bool true) λaa _=>a_) a_) a_)) (λQ=>a_)) a_)) (λL=>a_))) a_)) (λA=>fD 17 (λI=>(bF [Cv 1 B,Cv 2 D,Ov 7,Ov 13,Iv 14 I.2] [Lb 2007 A,Lb 2013 I.1])) (λS=>(6,(bF [Ov 13] [Lb 2013 S]))) (λI=>bR 8 B (bC 3 78 (jy .i64 9 2007 λab _=>o_ 0 2007 0 1 false (λz=>.bool z) λz _=>cF 1 5 [85] 90 (bC 1 85 (bY 2 λad _=>bL 2) (bL 5)) λae=>bC 2 90 (bY 5 λT _=>uB 1 96 ([T]:List (Sl Int)) (mE 0 2013 96 97 λaf _=>a_)) a_) a_)) (λS=>a_)))))
namespace iu
def br (a0 D:Sl (Sl Int)) (B:Int):Option (Fw Int Unit Unit):=
 bq (decide (B<(len a0)))
 ((idx a0 B).bind λt=>
 (idx D B).bind λu=>
 (jC t u).bind λw=>
 bq w
 (some (.n (IntKind.wrap .i64 (B+1))))
 (some (.r ())))
 (some (.x ()))
def W1 (a0 B:Sl (Sl Int)) (D:Int):Option Bool:=
 (bO (λq:Int=>br a0 B q) D).bind (Fw.elim
 (λe=>some true)
 (λe=>some false))
end iu
def iu (a0 B:Sl (Sl Int)):Option Bool:=
 bq ((len a0)==(len B))
 (iu.W1 a0 B 0)
 (some false)
open iu in
instance Qy (a0 B:Sl (Sl Int)):Fc Sy cL (iu a0 B):=Fc.M 35 [enc a0,enc B] (bR 9 a0 (bR 1 B (dX 3 10 (d_ 11 (λu=>(bF [Cv 0 a0,Cv 1 B,Iv 5 u] [])) (λt=>(0,(bF [] []))) (λt=>(bF [Bv 4 false] [])) (λu=>bR 6 a0 (bC 3 14 (bY 9 λw _=>bY 3 λz _=>mw 1 λA _=>dX 3 26 a_ a_) a_)) (λt=>a_) (λt=>a_)) a_)))
def kS (B:Trace) (D:Sl Bool):Option Bool:=
 (rq).bind λQ=>
 (bq Q
 ((ja B 14).bind λS=>
 some (!S))
 (some true):Option Bool).bind λT=>
 (bq T
 (some true)
 (some (decide ((len D)>500))):Option Bool).bind λU=>
 (bq U
 (some true)
 ((oH B).bind λW=>
 (bq W
 ((uw B).bind λX=>
 some (!X))
 (some false):Option Bool).bind λY=>
 some Y):Option Bool).bind λZ=>
 bq Z
 ((rq).bind λaa=>
 some aa)
 ((pS B D).bind λt=>
 (oH B).bind λw=>
 bq w
 ((dN B).bind λu=>
 bq ((len D)==(len u.1))
 ((gJ u.1 D).bind λz=>
 (uS B u.1 z).bind λA=>
 bq A
 ((cN B u.1 D).bind λC=>
 (iu t.1 C).bind λG=>
 (bq G
 (some (t.2==0))
 (some false):Option Bool).bind λI=>
 some I)
 ((bq ((len t.1)==0)
 (some (t.2==7))
 (some false):Option Bool).bind λJ=>
 some J))
 ((bq ((len t.1)==0)
 (some (t.2==3))
 (some false):Option Bool).bind λL=>
 some L))
 ((bq ((len t.1)==0)
 (some (t.2==1))
 (some false):Option Bool).bind λO=>
 some O))
instance vK (D:Trace) (B:Sl Bool):Fc Sy cL (kS D B):=Fc.M 7 [enc D,enc B] (eu 2 2 D (bM 6 λQ _=>cF 2 4 [11] 15 (dX 2 11 (bM 1 λS _=>bL 2) (bL 4)) λT=>cF 1 4 [16] 20 (bC 1 16 (bL 4) (bR 1 B (bL 2))) λU=>cF 1 8 [21] 29 (bC 1 21 (bL 8) (bM 1 λW _=>cF 1 4 [24] 28 (bC 1 24 (bM 1 λX _=>bL 2) (bL 4)) λY=>bL 1)) λZ=>bC 2 29 (bM 3 λaa _=>a_) (bM 7 λt _=>bM 11 λw _=>dX 3 39 (bM 6 λu _=>bR 12 B (bR 1 u.1 (dX 4 52 (bM 7 λz _=>mw 0 λA _=>dX 4 65 (bM 10 λC _=>bM 0 λG _=>cF 1 3 [6,86] 89 (bC 1 86 (bL 3) (bL 3)) λI=>a_) (bR 4 t.1 (cF 2 3 [6,76] 79 (bC 2 76 (bL 3) (bL 3)) λJ=>a_))) (bR 4 t.1 (cF 2 3 [6,61] 64 (bC 2 61 (bL 3) (bL 3)) λL=>a_))))) (bR 4 t.1 (cF 2 3 [6,43] 46 (bC 2 43 (bL 3) (bL 3)) λO=>a_)))))
end
end Go.VE
