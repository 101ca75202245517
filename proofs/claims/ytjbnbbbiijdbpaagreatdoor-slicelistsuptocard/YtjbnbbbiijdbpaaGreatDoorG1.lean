/-
 Each function of the program that the law reaches: its plain form, and that it comes to that.
-/
import Derived.Test.YtjbnbbbiijdbpaaGreatDoorK1
import Derived.Test.YtjbnbbbiijdbpaaGreatDoorT1
set_option linter.all false
namespace Go.VE
structure Assign where
 var:Int
 value:Int
 deriving Inhabited
instance:aG Assign where
 cells x:=[.int .i64 x.var,.int .i64 x.value]
 agg:=true
 size:=2
 len _:=rfl
 good x:=by simp only[V.bF,V.good,jF,Bool.and_self]
 one x:=by simp only[List.all_cons,List.all_nil,qz,ou,qv,oq,Bool.and_self]
 plain h:=by cases h
instance {n:Nat}:Lv (n+0) Assign:=⟨λx=>by
 show V.bT (n+0) [.int .i64 x.var,.int .i64 x.value]=true;simp only[hG,jE,oZ,mc,o6,oC,Bool.and_self]⟩
structure Event where
 kind:Int
 peer:Int
 message:Int
 time:Int
 assign:Sl Assign
 deriving Inhabited
instance:aG Event where
 cells x:=[.int .i64 x.kind,.int .i64 x.peer,.int .i64 x.message,.int .i64 x.time,enc x.assign]
 agg:=true
 size:=5
 len _:=rfl
 good x:=by simp only[V.bF,V.good,jF,Bool.and_self]
 one x:=by simp only[List.all_cons,List.all_nil,qz,ou,qv,oq,Bool.and_self]
 plain h:=by cases h
instance {n:Nat}:Lv (n+1) Event:=⟨λx=>by
 show V.bT (n+1) [.int .i64 x.kind,.int .i64 x.peer,.int .i64 x.message,.int .i64 x.time,enc x.assign]=true;simp only[hG,jE,oZ,mc,o6,oC,Bool.and_self]⟩
structure Var where
 name:ByteArray
 init_:Int
 deriving Inhabited
instance:aG Var where
 cells x:=[.str x.name,.int .i64 x.init_]
 agg:=true
 size:=2
 len _:=rfl
 good x:=by simp only[V.bF,V.good,jF,Bool.and_self]
 one x:=by simp only[List.all_cons,List.all_nil,qz,ou,qv,oq,Bool.and_self]
 plain h:=by cases h
instance {n:Nat}:Lv (n+0) Var:=⟨λx=>by
 show V.bT (n+0) [.str x.name,.int .i64 x.init_]=true;simp only[hG,jE,oZ,mc,o6,oC,Bool.and_self]⟩
structure bG where
 name:ByteArray
 vars:Sl Var
 events:Sl Event
 deriving Inhabited
instance:aG bG where
 cells x:=[.str x.name,enc x.vars,enc x.events]
 agg:=true
 size:=3
 len _:=rfl
 good x:=by simp only[V.bF,V.good,jF,Bool.and_self]
 one x:=by simp only[List.all_cons,List.all_nil,qz,ou,qv,oq,Bool.and_self]
 plain h:=by cases h
instance {n:Nat}:Lv (n+2) bG:=⟨λx=>by
 show V.bT (n+2) [.str x.name,enc x.vars,enc x.events]=true;simp only[hG,jE,oZ,mc,o6,oC,Bool.and_self]⟩
structure Trace where
 procs:Sl bG
 deriving Inhabited
instance:aG Trace where
 cells x:=[enc x.procs]
 agg:=true
 size:=1
 len _:=rfl
 good x:=by simp only[V.bF,V.good,jF,Bool.and_self]
 one x:=by simp only[List.all_cons,List.all_nil,qz,ou,qv,oq,Bool.and_self]
 plain h:=by cases h
instance {n:Nat}:Lv (n+3) Trace:=⟨λx=>by
 show V.bT (n+3) [enc x.procs]=true;simp only[hG,jE,oZ,mc,o6,oC,Bool.and_self]⟩
structure Slice where
 empty:Bool
 first:Sl Int
 last:Sl Int
 j:Sl (Sl (Sl Int))
 deriving Inhabited
instance:aG Slice where
 cells x:=[.bool x.empty,enc x.first,enc x.last,enc x.j]
 agg:=true
 size:=4
 len _:=rfl
 good x:=by simp only[V.bF,V.good,jF,Bool.and_self]
 one x:=by simp only[List.all_cons,List.all_nil,qz,ou,qv,oq,Bool.and_self]
 plain h:=by cases h
instance {n:Nat}:Lv (n+3) Slice:=⟨λx=>by
 show V.bT (n+3) [.bool x.empty,enc x.first,enc x.last,enc x.j]=true
 simp only[hG,jE,oZ,mc,o6,oC,Bool.and_self]⟩
structure aK where
 from_:aa
 to_:aa
 deriving Inhabited
instance:aG aK where
 cells x:=[.int .i64 x.from_.proc,.int .i64 x.from_.index,.int .i64 x.to_.proc,.int .i64 x.to_.index]
 agg:=true
 size:=4
 len _:=rfl
 good x:=by simp only[V.bF,V.good,jF,Bool.and_self]
 one x:=by simp only[List.all_cons,List.all_nil,qz,ou,qv,oq,Bool.and_self]
 plain h:=by cases h
instance {n:Nat}:Lv (n+0) aK:=⟨λx=>by
 show V.bT (n+0) [.int .i64 x.from_.proc,.int .i64 x.from_.index,.int .i64 x.to_.proc,.int .i64 x.to_.index]=true;simp only[hG,jE,oZ,mc,o6,oC,Bool.and_self]⟩
def fI (p:Int):Int->List Event->List (aa×Event)
 | _,[]=>[]
 | j,e::r=>(⟨p,j+1⟩,e)::fI p (j+1) r
def dP:Int->List bG->List (aa×Event)
 | _,[]=>[]
 | i,p::r=>fI i 0 p.events.l++dP (i+1) r
def Cw (n:Nat):Bool:=decide (n<9223372036854775807)
def gj (t:Trace):Option (List (aa×Event)):=
 if Cw t.procs.l.length&&t.procs.l.all λp=>Cw p.events.l.length then some (dP 0 t.procs.l)else none
end Go.VE
namespace Go.VE
def GJ:List (Nat×GD):=[
 (86,⟨0x22226260002000201,[],[(6,[.keep [0,1,7,8] []],[.keep [0,1,7,8] []]),(12,[.keep [] []],[]),(22,[.keep [4] []],[]),(27,[.keep [4] []],[])]⟩),
 (40,⟨0x226221,[],[]⟩),
 (41,⟨0x2222212,[],[]⟩),
 (87,⟨0x22226260002000201,[],[(6,[.keep [0,1,7,8] []],[.keep [0,1,7,8] []]),(12,[.keep [] []],[]),(22,[.keep [4] []],[]),(27,[.keep [4] []],[])]⟩),
 (42,⟨0x226221,[],[]⟩),
 (43,⟨0x2222212,[],[]⟩),
 (10,⟨0x222222206444264402644402644402600262202202000020012,[],[(8,[.keep [1,2,5,9,10,11] [2]],[.keep [1,2,5,9,10,11] [2]]),(14,[.keep [2] [2]],[]),(26,[.keep [4] []],[]),(31,[.keep [4] []],[])]⟩),
 (88,⟨0x22226260002000201,[],[(6,[.keep [0,1,7,8] []],[.keep [0,1,7,8] []]),(12,[.keep [] []],[]),(22,[.keep [4] []],[]),(27,[.keep [4] []],[])]⟩),
 (44,⟨0x226221,[],[]⟩),
 (80,⟨0x22226260002000201,[],[(6,[.keep [0,1,7,8] []],[.keep [0,1,7,8] []]),(12,[.keep [] []],[]),(22,[.keep [4] []],[]),(27,[.keep [4] []],[])]⟩),
 (35,⟨0x226221,[],[]⟩),
 (69,⟨0x22221,[],[]⟩),
 (25,⟨0x2644422201,[],[]⟩),
 (45,⟨0x22221,[],[]⟩),
 (11,⟨0x2644442644402644402222012,[],[]⟩),
 (164,⟨0x26c4444026402201,[],[]⟩),
 (165,⟨0x26442201,[],[]⟩),
 (128,⟨0x222064c002644c00222600620000644402644022201,[],[(8,[.keep [2] []],[]),(14,[.keep [0,3] []],[.keep [0,3] []]),(20,[.keep [] []],[]),(28,[.keep [2] []],[]),(33,[.keep [2] []],[])]⟩),
 (129,⟨0x26442201,[],[]⟩),
 (106,⟨0x2222222022226020222062260202260206000022226020622000022202220620226020600002220202602012,[],[(10,[.keep [4] []],[]),(16,[.keep [1,2,5,6] [2,5]],[.keep [1,2,5,6] [2,5]]),(22,[.keep [5] [5]],[]),(30,[.keep [4] []],[]),(39,[.keep [4] []],[]),(45,[.keep [5,7] [5]],[.keep [5,7] [5]]),(51,[.keep [5] [5]],[]),(60,[.keep [4] []],[]),(66,[.keep [5,7,8] [5]],[.keep [5,7,8] [5]]),(72,[.keep [5,7] [5]],[]),(80,[.keep [4] []],[]),(88,[.keep [4] []],[]),(97,[.keep [4] []],[]),(101,[.keep [4] []],[])]⟩),
 (107,⟨0x2222220620226020600006444026c444c04040222020260206220000222006cc44c4444c04040440264402220064402644026c04026c44040264402644022200644022202202026022602012,[],[(13,[.keep [6] []],[]),(20,[.keep [6] []],[]),(22,[.keep [1,2,3,7] [3,7]],[]),(28,[.keep [6] []],[]),(36,[.keep [6] []],[]),(42,[.keep [1,3,7,8] [3,7]],[.keep [1,3,7,8] [3,7]]),(48,[.keep [] []],[]),(59,[.keep [6] []],[]),(64,[.keep [1,3,7,8,9,10] [3,7,9]],[.keep [1,3,7,8,9,10] [3,7,9]]),(70,[.keep [1,3,7,8] [3,7]],[]),(78,[.keep [6] []],[]),(84,[.keep [6] []],[])]⟩),
 (130,⟨0x2262222262022022,[],[]⟩),
 (78,⟨0x20222222262226c0442602020260226020622260200062200002,[],[(6,[.keep [1,2,3,6,7] [3,6]],[.keep [1,2,3,6,7] [3,6]]),(12,[.keep [6] [6]],[]),(18,[.keep [1,2,3,6,7,8] [3,6]],[.keep [1,2,3,6,7,8] [3,6]]),(24,[.keep [1,2,3,6,7] [3,6]],[]),(34,[.keep [6] [6]],[]),(40,[.keep [6] [6]],[])]⟩),
 (108,⟨0x2222226cc40444cc4040444022202602262020622262020000220060e20200022020600122,[],[(30,[.keep [2,3,5,6,7] [2,3,5]],[.keep [2,3,5,6,7] [2,3,5]]),(36,[.keep [6] []],[])]⟩),
 (109,⟨0x22206222602026006220002222203622000622262002062202202026260022602062226020260062200002222012,[],[(6,[.canon (.s 3) 2003 1,.keep [1,3] [1,2003]],[.canon (.s 3) 2003 1,.keep [1,3] [1,2003]]),(14,[.canon (.s 3) 2003 1,.keep [1,3,4,5] [1,2003]],[.canon (.s 3) 2003 1,.keep [1,3,4,5] [1,2003]]),(20,[.canon (.s 3) 2003 1,.keep [1,3,4] [1,2003]],[]),(24,[.canon (.s 3) 2003 1,.keep [1,3,4,5] [1,2003]],[.canon (.s 3) 2003 1,.keep [1,3,4,5] [1,2003]]),(30,[.canon (.s 3) 2003 1,.keep [1,3,4,5] [1,2003]],[]),(43,[.canon (.s 3) 2003 1,.keep [1,3,4,5] [1,2003]],[]),(46,[.canon (.s 3) 2003 1,.keep [1,3,5] [1,2003]],[]),(53,[.canon (.s 3) 2003 1,.keep [1,3] [1,2003]],[]),(59,[.canon (.s 3) 2003 1,.keep [1,3,8] [1,2003]],[.canon (.s 3) 2003 1,.keep [1,3,8] [1,2003]]),(65,[.keep [] []],[]),(73,[.keep [2] []],[]),(78,[.keep [2] []],[])]⟩),
 (131,⟨0x22262622222202062026262202022200122,[],[(10,[.canon (.s 5) 2005 2,.keep [2,3,5] [2,3,2005]],[])]⟩),
 (76,⟨0x202222220222620260600206200622260200062200002020222222222220260020620062226020006220002222222226222202e0006222602000622000222222222026006220000206444022220102,[],[(8,[.keep [2,3] [2]],[]),(14,[.keep [1,2,4] [1,2]],[.keep [1,2,4] [1,2]]),(20,[.keep [1,2] [1,2]],[]),(30,[.keep [2,3] [2]],[]),(37,[.keep [1,2,6] [1,2]],[.keep [1,2,6] [1,2]]),(43,[.keep [1,2] [1,2]],[]),(49,[.keep [1,2,6,7] [1,2]],[.keep [1,2,6,7] [1,2]]),(55,[.keep [1,2,6] [1,2]],[]),(65,[.keep [2,3] [2]],[]),(73,[.keep [1,2,9] [1,2]],[.keep [1,2,9] [1,2]]),(79,[.keep [1,2] [1,2]],[]),(85,[.keep [1,2,9,10] [1,2]],[.keep [1,2,9,10] [1,2]]),(91,[.keep [1,2,9] [1,2]],[]),(103,[.keep [2,3] [2]],[]),(113,[.keep [2,3] [2]],[]),(119,[.keep [1,2,13] [1,2]],[.keep [1,2,13] [1,2]]),(125,[.keep [2] [2]],[]),(131,[.keep [1,2,13,14] [1,2]],[.keep [1,2,13,14] [1,2]]),(137,[.keep [1,2,13] [1,2]],[]),(147,[.keep [2,3] [2]],[]),(153,[.keep [2,3] [2]],[])]⟩),
 (29,⟨0x2222302022212,[],[]⟩),
 (81,⟨0x262222212,[],[]⟩),
 (82,⟨0x22206c444c0404c002226006200012,[],[(6,[.keep [1,2,5] [2]],[.keep [1,2,5] [2]]),(12,[.keep [] []],[]),(20,[.keep [4] []],[]),(25,[.keep [4] []],[])]⟩),
 (77,⟨0x26262222020622202202026222622012,[],[]⟩),
 (83,⟨0x22222202001ef000062600006200012,[],[(6,[.keep [1,2,5] [2]],[.keep [1,2,5] [2]]),(12,[.keep [] []],[]),(18,[.keep [1,2,5,6] [2]],[.keep [1,2,5,6] [2]]),(24,[.keep [1,2,5] [2]],[]),(32,[.keep [4] []],[]),(38,[.keep [4] []],[])]⟩),
 (37,⟨0x26c4426c0026c0022012,[],[]⟩),
 (46,⟨0x2220626002600620000620201,[],[(8,[.keep [4] []],[]),(14,[.keep [0,1,5] []],[.keep [0,1,5] []]),(20,[.keep [] []],[]),(28,[.keep [4] []],[]),(33,[.keep [4] []],[])]⟩),
 (53,⟨0x2220626002600620000620201,[],[(8,[.keep [4] []],[]),(14,[.keep [0,1,5] []],[.keep [0,1,5] []]),(20,[.keep [] []],[]),(28,[.keep [4] []],[]),(33,[.keep [4] []],[])]⟩),
 (47,⟨0x26c44426c04026c44c40260226222626020022226260200226026020122,[],[]⟩),
 (48,⟨0x22222202602602602062600006200012,[],[(6,[.keep [1,2,5] [2]],[.keep [1,2,5] [2]]),(12,[.keep [] []],[]),(18,[.keep [1,2,5,6] [2]],[.keep [1,2,5,6] [2]]),(24,[.keep [1,2,5] [2]],[]),(32,[.keep [4] []],[]),(38,[.keep [4] []],[])]⟩),
 (12,⟨0x2222220262602602006260200062200022222202001ef000062260200006222602022602062200006c440440264c4040264c40022620026444426444022220200220122,[],[(8,[.keep [4] []],[]),(16,[.keep [4] []],[]),(24,[.keep [4] []],[]),(30,[.keep [2,3,5] [2,3]],[.keep [2,3,5] [2,3]]),(36,[.keep [3] [3]],[]),(45,[.keep [4] []],[]),(50,[.keep [2,3,5,6] [2,3]],[.keep [2,3,5,6] [2,3]]),(56,[.keep [2,3,5] [2,3]],[]),(64,[.keep [4] []],[]),(72,[.keep [3,7] [3]],[.keep [3,7] [3]]),(78,[.keep [] []],[]),(84,[.keep [3,7,8] [3]],[.keep [3,7,8] [3]]),(90,[.keep [3,7] [3]],[]),(98,[.keep [4] []],[]),(104,[.keep [4] []],[])]⟩),
 (117,⟨0x26c4426201,[],[]⟩),
 (186,⟨0x26c4444026402201,[],[]⟩),
 (187,⟨0x26442201,[],[]⟩),
 (152,⟨0x22064c402644c00222600200020064440264402201,[],[(8,[.keep [2] []],[]),(14,[.keep [0,18,19] []],[.keep [0,18,19] []]),(20,[.keep [] []],[]),(30,[.keep [2] []],[]),(35,[.keep [2] []],[])]⟩),
 (154,⟨0x26222212,[],[]⟩),
 (188,⟨0x22226260002000201,[],[(6,[.keep [0,1,7,8] []],[.keep [0,1,7,8] []]),(12,[.keep [] []],[]),(22,[.keep [4] []],[]),(27,[.keep [4] []],[])]⟩),
 (153,⟨0x226221,[],[]⟩),
 (155,⟨0x26222212,[],[]⟩),
 (118,⟨0x222222022222026c0c4402222022020000020022220026c0c44422220202602012,[],[(11,[.keep [4] []],[]),(17,[.keep [4] []],[]),(23,[.keep [5,32,33,34] [5]],[.keep [5,32,33,34] [5]]),(29,[.keep [5] [5]],[]),(40,[.keep [4] []],[]),(46,[.keep [4] []],[]),(55,[.keep [4] []],[]),(59,[.keep [4] []],[])]⟩),
 (119,⟨0x2212,[],[]⟩),
 (157,⟨0x2644426c4402622222022202644422202020122,[],[(18,[.keep [1,3,5,19] [3,5]],[])]⟩),
 (159,⟨0x26222212,[],[]⟩),
 (189,⟨0x22226260002000201,[],[(6,[.keep [0,1,7,8] []],[.keep [0,1,7,8] []]),(12,[.keep [] []],[]),(22,[.keep [4] []],[]),(27,[.keep [4] []],[])]⟩),
 (158,⟨0x226221,[],[]⟩),
 (120,⟨0x2202626220026444022622202022020000020022220026c44022220022e02222226220202200202620201222,[],[(12,[.keep [3,4,5,7,8] [3,4,5,7]],[]),(19,[.keep [6] []],[]),(25,[.keep [6] []],[]),(31,[.keep [6] []],[]),(37,[.keep [5,7,52,53,54] [5,7]],[.keep [5,7,52,53,54] [5,7]]),(43,[.keep [] []],[]),(54,[.keep [6] []],[]),(60,[.keep [6] []],[]),(65,[.keep [6] []],[])]⟩),
 (190,⟨0x26c44426c440222012,[],[]⟩),
 (160,⟨0x2662262221222,[],[]⟩),
 (121,⟨0x2202326222002202001ef200220022022226200223262220022022226200202022020202020200002,[],[(8,[.keep [1,2,3,4,5,12] [1,2,3,4,5,10]],[.keep [] [1,2,3,4,5,10]]),(27,[.keep [] [1,2,3,4,5,10]],[]),(39,[.keep [] [1,2,3,4,5,10]],[]),(47,[.keep [] [1,2,3,4,5,10]],[]),(53,[.keep [2,3,4] [2,3,4,10]],[])]⟩),
 (161,⟨0x222622262222264444c4400222020262222262622020262020222620220122,[],[(12,[.canon (.s 7) 2007 2,.keep [1,5,7,8] [5,2007]],[])]⟩),
 (122,⟨0x20222622230026000226002020000e200262220202622002202202020200022,[],[(6,[.keep [2,3,4,5,13] [2,3,4,5]],[.keep [] [2,3,4,5]]),(14,[.canon (.s 8) 2008 2,.keep [2,3,4,5,6,7,8,13] [2,3,4,5,6,16,2008]],[.canon (.s 8) 2008 2,.keep [2,3,4,5,6,7,8,13] [2,3,4,5,6,16,2008]]),(20,[.keep [2,3,4,5,13] [2,3,4,5]],[]),(29,[.canon (.s 8) 2008 2,.keep [2,3,4,5,6,7,8,13,36,37,38] [2,3,4,5,6,16,2008]],[.canon (.s 8) 2008 2,.keep [2,3,4,5,6,7,8,13,36,37,38] [2,3,4,5,6,16,2008]]),(35,[.canon (.s 8) 2008 2,.keep [2,3,4,5,6,7,8,13] [2,3,4,5,6,16,2008]],[]),(46,[.keep [] [2,3,4,5]],[]),(58,[.keep [4,5] [4,5]],[])]⟩),
 (96,⟨0x20022222020262222222022202002202222202e2002020202222222202600200022002022220002,[],[(8,[.keep [2,3] [2,3]],[]),(14,[.keep [1,2,3,22,23] [1,2,3]],[.keep [1,2,3,22,23] [1,2,3]]),(20,[.keep [1,2,3] [1,2,3]],[]),(32,[.keep [2,3] [2,3]],[]),(39,[.keep [1,2,3,36] [1,2,3]],[.keep [] [1,2,3]]),(51,[.keep [] [1,2,3]],[]),(61,[.keep [2,3] [2,3]],[]),(71,[.keep [2,3] [2,3]],[]),(75,[.keep [2,3] [2,3]],[])]⟩),
 (54,⟨0x2222302022212,[],[]⟩),
 (162,⟨0x26222221,[],[]⟩),
 (123,⟨0x264c4422012,[],[]⟩),
 (124,⟨0x2206c444c440422022200000212,[],[(6,[.keep [2,7,8,9] [2]],[.keep [2,7,8,9] [2]]),(12,[.keep [] []],[]),(22,[.keep [4] []],[]),(27,[.keep [4] []],[])]⟩),
 (125,⟨0x26c444422012,[],[]⟩),
 (191,⟨0x200226c0442602020202202022000222,[],[(8,[.keep [6,7] [6,7]],[]),(14,[.keep [4,5,6,7,15] [4,5,6,7]],[.keep [] [4,5,6,7]]),(24,[.keep [] [4,5,6,7]],[]),(28,[.keep [6,7] [6,7]],[])]⟩),
 (163,⟨0x2220622102,[],[]⟩),
 (127,⟨0x2200222202262222626200203202026220220220200000622260202220000001002,[],[(6,[.keep [1,2,4,5,13,14,15] [2,4,5]],[.keep [1,2,4,5,13,14,15] [2,4,5]]),(12,[.keep [4,5] [4,5]],[]),(20,[.keep [1,2,4,5,7,13,14,15,27,28,29] [2,4,5]],[.keep [1,2,4,5,7,13,14,15,27,28,29] [2,4,5]]),(26,[.keep [1,2,4,5,13,14,15] [2,4,5]],[]),(44,[.keep [4,5,6] [4,5]],[]),(50,[.keep [4,5,6] [4,5]],[])]⟩),
 (126,⟨0x22223300200262212,[],[]⟩),
 (99,⟨0x2202620220000222026202200002220262022000000260012,[],[(8,[.keep [6] []],[]),(14,[.keep [1,2,3,17,18,19] [3]],[.keep [1,2,3,17,18,19] [3]]),(20,[.keep [1,2,3] [3]],[]),(30,[.keep [6] []],[]),(37,[.keep [1,3,28,29,30] [3]],[.keep [1,3,28,29,30] [3]]),(43,[.keep [1,3] [3]],[]),(53,[.keep [6] []],[]),(60,[.keep [3,39,40,41] [3]],[.keep [3,39,40,41] [3]]),(66,[.keep [] []],[]),(76,[.keep [6] []],[]),(81,[.keep [6] []],[])]⟩),
 (63,⟨0x22622212,[],[]⟩),
 (24,⟨0x2206262026002000200620201,[],[(8,[.keep [4] []],[]),(14,[.keep [0,1,12,13] []],[.keep [0,1,12,13] []]),(20,[.keep [] []],[]),(30,[.keep [4] []],[]),(35,[.keep [4] []],[])]⟩),
 (55,⟨0x2206222622022222000002206c440440264c4040264c400226200122,[],[(8,[.keep [4] []],[]),(14,[.keep [2,37,38,39] [2]],[.keep [2,37,38,39] [2]]),(20,[.keep [] []],[]),(30,[.keep [4] []],[]),(35,[.keep [4] []],[])]⟩),
 (57,⟨0x22222622222202000022012,[],[(8,[.canon (.s 3) 2003 1,.keep [3,7,8,9] [2003]],[.canon (.s 3) 2003 1,.keep [3,7,8,9] [2003]]),(14,[.canon (.s 3) 2003 1,.keep [3] [2003]],[])]⟩),
 (61,⟨0x226222262022122,[],[]⟩),
 (97,⟨0x26262222012,[],[]⟩),
 (98,⟨0x2206262026002000200620201,[],[(8,[.keep [4] []],[]),(14,[.keep [0,1,12,13] []],[.keep [0,1,12,13] []]),(20,[.keep [] []],[]),(30,[.keep [4] []],[]),(35,[.keep [4] []],[])]⟩),
 (59,⟨0x26c44426c04026c0426022622226200222222620026001222,[],[]⟩),
 (58,⟨0x2e22212,[],[]⟩),
 (56,⟨0x222202662200200022220000021,[],[(6,[.keep [1,8,9,10] []],[.keep [1,8,9,10] []]),(12,[.keep [] []],[]),(20,[.keep [1,5,8,9,10,15,16] []],[.keep [1,5,8,9,10,15,16] []]),(26,[.keep [1,8,9,10] []],[]),(36,[.keep [4] []],[]),(42,[.keep [4] []],[])]⟩),
 (62,⟨0x26262212,[],[]⟩),
 (60,⟨0x26602062012,[],[]⟩),
 (17,⟨0x26220064c4402260026444426444022220200220122,[],[]⟩),
 (72,⟨0x26200201,[],[(8,[.canon (.s 2) 4004 1],[]),(12,[.canon (.s 2) 4004 1],[])]⟩),
 (103,⟨0x222236e2620260000020002022201,[],[(8,[.canon (.s 7) 2007 1,.keep [0,1,2,7,13,14] [2007]],[.canon (.s 7) 2007 1,.keep [0,1,2,7,13,14] [2007]]),(14,[.canon (.s 7) 2007 1,.keep [7] [2007]],[])]⟩),
 (105,⟨0x26221,[],[]⟩),
 (74,⟨0x26221,[],[]⟩),
 (94,⟨0x22222622220000201,[],[(8,[.keep [3,6,7,8] []],[.keep [3,6,7,8] []]),(14,[.keep [3] []],[])]⟩),
 (116,⟨0x26201,[],[]⟩),
 (93,⟨0x62206000200222202201,[],[]⟩),
 (95,⟨0x62222222220262222620062002220000001,[],[(6,[.keep [0,1,9,10,11] []],[.keep [0,1,9,10,11] []]),(12,[.keep [0,1] []],[]),(23,[.keep [4] []],[]),(34,[.keep [4] []],[]),(43,[.keep [4] []],[]),(47,[.keep [4] []],[])]⟩),
 (92,⟨0x222222600220000201,[],[(8,[.keep [3,6,7,8] []],[.keep [3,6,7,8] []]),(14,[.keep [3] []],[]),(24,[.keep [2] []],[]),(29,[.keep [2] []],[])]⟩),
 (91,⟨0x226622620201,[],[]⟩),
 (49,⟨0x2230222222622232002620026662262000062602026002000202260000220620002222200222200020112,[(10,[.closeS (.s 14)])],[(8,[.canon (.s 2) 2002 1,.keep [2,3] [2002]],[]),(18,[.canon (.s 4) 2004 1,.keep [1,4,5,6] [1,16,2004]],[.canon (.s 4) 2004 1,.keep [1,4,5,6] [1,16,2004]]),(24,[.canon (.s 4) 2004 1,.keep [4] [2004]],[]),(33,[.canon (.s 2) 2002 1,.keep [2,3] [2002]],[]),(40,[.canon (.s 4) 2004 1,.keep [1,4,5,6,7,35,36] [1,16,2004]],[.canon (.s 4) 2004 1,.keep [1,4,5,6,7,35,36] [1,16,2004]]),(46,[.canon (.s 4) 2004 1,.keep [1,4,5,6] [1,16,2004]],[]),(72,[.canon (.s 2) 2002 1,.keep [2,3] [2002]],[])]⟩),
 (13,⟨0x22002222202220026021122,[],[]⟩),
 (14,⟨0x22222222026221122,[],[]⟩),
 (50,⟨0x2222226262600260026200001,[],[(8,[.canon (.s 5) 2005 1,.keep [0,1,5,6] [2005]],[.canon (.s 5) 2005 1,.keep [0,1,5,6] [2005]]),(14,[.canon (.s 5) 2005 1,.keep [5] [2005]],[])]⟩),
 (51,⟨0x2220602600620001,[],[(6,[.keep [0,1,5] []],[.keep [0,1,5] []]),(12,[.keep [] []],[]),(20,[.keep [4] []],[]),(25,[.keep [4] []],[])]⟩),
 (52,⟨0x22226262226026260026006200026226002222626002262600262000001,[],[(8,[.keep [0,1,5,6,7] []],[.keep [0,1,5,6,7] []]),(14,[.keep [0,1,5,6] []],[]),(27,[.keep [4] []],[]),(33,[.keep [0,1,8] []],[.keep [0,1,8] []]),(39,[.keep [] []],[]),(47,[.keep [4] []],[]),(52,[.keep [4] []],[])]⟩),
 (15,⟨0x22222222266226226600022262620002200060206002626260260026020260062602026026006220006200022200020112,[(58,[.closeS (.s 6)])],[(8,[.canon (.s 4) 2004 1,.keep [4,5] [2004]],[]),(16,[.canon (.s 6) 2006 1,.keep [1,2,6,7] [2,2006]],[.canon (.s 6) 2006 1,.keep [1,2,6,7] [2,2006]]),(22,[.canon (.s 6) 2006 1,.keep [6] [2006]],[]),(28,[.canon (.s 6) 2006 1,.keep [1,2,6,7,8] [2,2006]],[.canon (.s 6) 2006 1,.keep [1,2,6,7,8] [2,2006]]),(34,[.canon (.s 6) 2006 1,.keep [1,2,6,7] [2,2006]],[]),(57,[.canon (.s 4) 2004 1,.keep [4,5] [2004]],[]),(63,[.keep [1,2,6,7,8,9,10] [2]],[.keep [1,2,6,7,8,9,10] [2]]),(69,[.keep [1,2,6,7,8,9,10] [2]],[]),(77,[.canon (.s 4) 2004 1,.keep [4,5] [2004]],[])]⟩),
 (16,⟨0x22202626002600620000620201,[],[(8,[.keep [4] []],[]),(14,[.keep [0,1,5] []],[.keep [0,1,5] []]),(20,[.keep [] []],[]),(28,[.keep [4] []],[]),(33,[.keep [4] []],[])]⟩),
 (3,⟨0x264426c444264426022220262222202600022222022026442644264422222220262222202600260020644026440220122,[],[]⟩)]
end Go.VE
namespace Go.VE
namespace trace_events_c1
def yP:List RO:=[o1 20 (.s 18) [],o2 21 (ix 5) [.s 16,.s 18] [],o2 22 (lD 5) [.s 21] [21],o2 6 (.a (.alloc 5 [.int .i64 0,.int .i64 0,.int .i64 0,.int .i64 0,.aF])) [] [],o1 5 (.s 20) [20],oz (.l (.store 5)) [.s 6,.s 22] [22]]
def vT:List RO:=[o1 23 (.s 0) [],o1 24 (.s 3) [],o1 25 (.s 5) [5],o2 26 (bI .add) [.s 25,.k (.int .i64 1)] [25],o2 27 (.p (.build [.int .i64 0,.int .i64 0] [(0,1),(1,1)])) [.s 24,.s 26] [24,26],o2 28 (lD 5) [.s 6] [6],
 o2 29 .c [.s 23,.s 27,.s 28] [23,27,28],o2 30 (.p .not) [.s 29] [29]]
def tO:List RO:=[o2 31 (bI .add) [.s 18,.k (.int .i64 1)] [],o1 18 (.s 31) [31]]
def BR:RC:=.hg (.seq (.ops [o2 19 (bI .lss) [.s 18,.s 17] []]) (.seq (.cond (.s 19) .skip (.exit 2)) (.seq (.block 3 (.seq (.ops yP) (.seq (.ops vT) (.cond (.s 30) .ret .skip)))) (.ops tO)))) (.keep [0,3,8,9,10,16,17,18] [])
def ER:List RO:=[o1 12 (.s 10) [],o2 13 (ix 3) [.s 8,.s 10] [],o2 14 (lD 3) [.s 13] [13],o2 4 (.a (.alloc 3 [.str ByteArray.empty,.aF,.aF])) [] [],o1 3 (.s 12) [12],oz (.l (.store 3)) [.s 4,.s 14] [14]]
def Dq:List RO:=[o2 15 (fa 2) [.s 4] [],o2 16 (ld 1) [.s 15] [15],o2 17 ln [.s 16] [],o1 18 (.k (.int .i64 0)) []]
def B1:List RO:=[o2 32 (bI .add) [.s 10,.k (.int .i64 1)] [],o1 10 (.s 32) [32]]
def U2:RC:=.block 2 (.gh (.keep [0,3,8,9,10,16,17,18] []) (.loop BR))
def JF:RC:=.hg (.seq (.ops [o2 11 (bI .lss) [.s 10,.s 9] []]) (.seq (.cond (.s 11) .skip (.exit 0)) (.seq (.block 1 (.seq (.ops ER) (.seq (.ops Dq) U2))) (.ops B1)))) (.keep [0,8,9,10] [])
def Qa:List RO:=[o2 7 (fa 0) [.s 1] [1],o2 8 (ld 1) [.s 7] [7],o2 9 ln [.s 8] [],o1 10 (.k (.int .i64 0)) []]
def U1:RC:=.block 0 (.gh (.keep [0,8,9,10] []) (.loop JF))
def text:RF:=⟨33,[],.seq (.ops Qa) U1⟩
section
variable {S:Sys}
abbrev I1 (ps:Sl bG) (i:Int) (ws:List (List V)) (more:Bool) (y:Nat):St:=⟨[(0,.yl y),Cv 8 ps,Iv 9 (len ps),Iv 10 i],[],[],ws,more,y⟩
abbrev I2 (ps:Sl bG) (i:Int) (es:Sl Event) (j:Int) (ws:List (List V)) (more:Bool) (y:Nat):St:=⟨[(0,.yl y),Iv 3 i,Cv 8 ps,Iv 9 (len ps),Iv 10 i,Cv 16 es,Iv 17 (len es),Iv 18 j],[],[],ws,more,y⟩
abbrev S2 (ps:Sl bG) (i:Int) (es:Sl Event) (j:Int) (b:Bool) (ws:List (List V)) (more:Bool) (y:Nat):St:=⟨[(0,.yl y),Iv 3 i,Cv 8 ps,Iv 9 (len ps),Iv 10 i,Cv 16 es,Iv 17 (len es),Iv 18 j,Bv 19 b],[],[],ws,more,y⟩
theorem SM (ps:Sl bG) (i:Int) (es:Sl Event) (j:Int) (ws:List (List V)) (more:Bool) (y:Nat) (hj:decide (j<len es)=false) :
 rn S.bare kr some (.rc BR) [] (I2 ps i es j ws more y)=some (.exit 2,S2 ps i es j false ws more y):=by
 refine Le.get ?_;refine Kf (n:=7) (fo':=.rc (.cond (.s 19) .skip (.exit 2))) (fs':=[.seq (.seq (.block 3 (.seq (.ops yP) (.seq (.ops vT) (.cond (.s 30) .ret .skip)))) (.ops tO)),.gst (.keep [0,3,8,9,10,16,17,18] [])]) (λb=>S2 ps i es j b ws more y) hj (by kernel_rfl) ?_
 exact Le.of_eq (by kernel_rfl)
theorem XF (ps:Sl bG) (i:Int) (es:Sl Event) (j:Int) (e:Event) (ws:List (List V)) (more:Bool) (y:Nat) (hj:decide (j<len es)=true) (hx:idx es j=some e) (hb:(!(more || !ws.isEmpty))=false) :
 rn S.bare kr some (.rc BR) [] (I2 ps i es j ([enc (⟨i,IntKind.wrap .i64 (j+1)⟩:aa),enc e]::ws) more y)=some (.norm,I2 ps i es (IntKind.wrap .i64 (j+1)) ws more y):=by
 refine Le.get ?_;refine Kt (n:=7) (fo':=.rc (.cond (.s 19) .skip (.exit 2))) (fs':=[.seq (.seq (.block 3 (.seq (.ops yP) (.seq (.ops vT) (.cond (.s 30) .ret .skip)))) (.ops tO)),.gst (.keep [0,3,8,9,10,16,17,18] [])]) (λb=>S2 ps i es j b ([enc (⟨i,IntKind.wrap .i64 (j+1)⟩:aa),enc e]::ws) more y) hj (by kernel_rfl) ?_
 refine Lf hx ?_;refine Kb 8 false [] (yP.drop 1) [.seq (.seq (.ops vT) (.cond (.s 30) .ret .skip)),.blk 3,.seq (.ops tO),.gst (.keep [0,3,8,9,10,16,17,18] [])] ⟨[(0,.yl y),Iv 3 i,Cv 8 ps,Iv 9 (len ps),Iv 10 i,Cv 16 es,Iv 17 (len es),Iv 18 j,Bv 19 true,Iv 20 j],[],[],([enc (⟨i,IntKind.wrap .i64 (j+1)⟩:aa),enc e]::ws),more,y⟩ .i64 rfl (by kernel_rfl) λx h1=>?_
 obtain rfl:x=e:=by rw[hx]at h1;cases h1;rfl
 refine SN 1 false [] (yP.drop 3) [.seq (.seq (.ops vT) (.cond (.s 30) .ret .skip)),.blk 3,.seq (.ops tO),.gst (.keep [0,3,8,9,10,16,17,18] [])] ⟨[(0,.yl y),Iv 3 i,Cv 8 ps,Iv 9 (len ps),Iv 10 i,Cv 16 es,Iv 17 (len es),Iv 18 j,Bv 19 true,Iv 20 j,Cv 22 x],[],[],([enc (⟨i,IntKind.wrap .i64 (j+1)⟩:aa),enc x]::ws),more,y⟩ [iv 0,iv 0,iv 0,iv 0,.v .aF] rfl (by simp only[aL,uP,mX,oN,nh,o5,qp,oG,qx,mT,o4,uZ,qq,qg,qo,qE,sF,sM,oH,qc,SV.bW];rfl) (by kernel_rfl) ?_
 refine Ast 1 false [] (yP.drop 5) [.seq (.seq (.ops vT) (.cond (.s 30) .ret .skip)),.blk 3,.seq (.ops tO),.gst (.keep [0,3,8,9,10,16,17,18] [])] ⟨[(0,.yl y),Iv 3 i,Cv 8 ps,Iv 9 (len ps),Iv 10 i,Cv 16 es,Iv 17 (len es),Iv 18 j,Bv 19 true,Cv 22 x,Pv 6,Iv 5 j],[Xb 6 (⟨0,0,0,0,.nil⟩:Event)],[],([enc (⟨i,IntKind.wrap .i64 (j+1)⟩:aa),enc x]::ws),more,y⟩ 6 0 x [iv 0,iv 0,iv 0,iv 0,.v .aF] ((cells x).map .v) rfl (by kernel_rfl) ?_
 refine Yo (n:=10) (q:=vT.drop 6) (fs':=[.seq (.cond (.s 30) .ret .skip),.blk 3,.seq (.ops tO),.gst (.keep [0,3,8,9,10,16,17,18] [])]) (st:=⟨[(0,.yl y),Iv 3 i,Cv 8 ps,Iv 9 (len ps),Iv 10 i,Cv 16 es,Iv 17 (len es),Iv 18 j,Bv 19 true,(23,.yl y),Cv 27 (⟨i,IntKind.wrap .i64 (j+1)⟩:aa),Cv 28 x],[Xb 6 x],[],([enc (⟨i,IntKind.wrap .i64 (j+1)⟩:aa),enc x]::ws),more,y⟩) (vs:=[cv (⟨i,IntKind.wrap .i64 (j+1)⟩:aa),cv x]) (by kernel_rfl) rfl (by kernel_rfl) (by kernel_rfl) rfl rfl ?_
 refine Kf (n:=3) (fo':=.rc (.cond (.s 30) .ret .skip)) (fs':=[.blk 3,.seq (.ops tO),.gst (.keep [0,3,8,9,10,16,17,18] [])]) (λb=>⟨[(0,.yl y),Iv 3 i,Cv 8 ps,Iv 9 (len ps),Iv 10 i,Cv 16 es,Iv 17 (len es),Iv 18 j,Bv 19 true,Bv 30 b],[Xb 6 x],[],ws,more,y⟩) hb (by kernel_rfl) ?_
 exact Le.of_eq (by kernel_rfl)
theorem NQ (ps:Sl bG) (i:Int) (es:Sl Event) (j:Int) (e:Event) (ws:List (List V)) (more:Bool) (y:Nat) (hj:decide (j<len es)=true) (hx:idx es j=some e) (hb:(!(more || !ws.isEmpty))=true) :
 rn S.bare kr some (.rc BR) [] (I2 ps i es j ([enc (⟨i,IntKind.wrap .i64 (j+1)⟩:aa),enc e]::ws) more y)=some (.ret,⟨[(0,.yl y),Iv 3 i,Cv 8 ps,Iv 9 (len ps),Iv 10 i,Cv 16 es,Iv 17 (len es),Iv 18 j,Bv 19 true,Bv 30 true],[Xb 6 e],[],ws,more,y⟩):=by
 refine Le.get ?_;refine Kt (n:=7) (fo':=.rc (.cond (.s 19) .skip (.exit 2))) (fs':=[.seq (.seq (.block 3 (.seq (.ops yP) (.seq (.ops vT) (.cond (.s 30) .ret .skip)))) (.ops tO)),.gst (.keep [0,3,8,9,10,16,17,18] [])]) (λb=>S2 ps i es j b ([enc (⟨i,IntKind.wrap .i64 (j+1)⟩:aa),enc e]::ws) more y) hj (by kernel_rfl) ?_
 refine Lf hx ?_;refine Kb 8 false [] (yP.drop 1) [.seq (.seq (.ops vT) (.cond (.s 30) .ret .skip)),.blk 3,.seq (.ops tO),.gst (.keep [0,3,8,9,10,16,17,18] [])] ⟨[(0,.yl y),Iv 3 i,Cv 8 ps,Iv 9 (len ps),Iv 10 i,Cv 16 es,Iv 17 (len es),Iv 18 j,Bv 19 true,Iv 20 j],[],[],([enc (⟨i,IntKind.wrap .i64 (j+1)⟩:aa),enc e]::ws),more,y⟩ .i64 rfl (by kernel_rfl) λx h1=>?_
 obtain rfl:x=e:=by rw[hx]at h1;cases h1;rfl
 refine SN 1 false [] (yP.drop 3) [.seq (.seq (.ops vT) (.cond (.s 30) .ret .skip)),.blk 3,.seq (.ops tO),.gst (.keep [0,3,8,9,10,16,17,18] [])] ⟨[(0,.yl y),Iv 3 i,Cv 8 ps,Iv 9 (len ps),Iv 10 i,Cv 16 es,Iv 17 (len es),Iv 18 j,Bv 19 true,Iv 20 j,Cv 22 x],[],[],([enc (⟨i,IntKind.wrap .i64 (j+1)⟩:aa),enc x]::ws),more,y⟩ [iv 0,iv 0,iv 0,iv 0,.v .aF] rfl (by simp only[aL,uP,mX,oN,nh,o5,qp,oG,qx,mT,o4,uZ,qq,qg,qo,qE,sF,sM,oH,qc,SV.bW];rfl) (by kernel_rfl) ?_
 refine Ast 1 false [] (yP.drop 5) [.seq (.seq (.ops vT) (.cond (.s 30) .ret .skip)),.blk 3,.seq (.ops tO),.gst (.keep [0,3,8,9,10,16,17,18] [])] ⟨[(0,.yl y),Iv 3 i,Cv 8 ps,Iv 9 (len ps),Iv 10 i,Cv 16 es,Iv 17 (len es),Iv 18 j,Bv 19 true,Cv 22 x,Pv 6,Iv 5 j],[Xb 6 (⟨0,0,0,0,.nil⟩:Event)],[],([enc (⟨i,IntKind.wrap .i64 (j+1)⟩:aa),enc x]::ws),more,y⟩ 6 0 x [iv 0,iv 0,iv 0,iv 0,.v .aF] ((cells x).map .v) rfl (by kernel_rfl) ?_
 refine Yo (n:=10) (q:=vT.drop 6) (fs':=[.seq (.cond (.s 30) .ret .skip),.blk 3,.seq (.ops tO),.gst (.keep [0,3,8,9,10,16,17,18] [])]) (st:=⟨[(0,.yl y),Iv 3 i,Cv 8 ps,Iv 9 (len ps),Iv 10 i,Cv 16 es,Iv 17 (len es),Iv 18 j,Bv 19 true,(23,.yl y),Cv 27 (⟨i,IntKind.wrap .i64 (j+1)⟩:aa),Cv 28 x],[Xb 6 x],[],([enc (⟨i,IntKind.wrap .i64 (j+1)⟩:aa),enc x]::ws),more,y⟩) (vs:=[cv (⟨i,IntKind.wrap .i64 (j+1)⟩:aa),cv x]) (by kernel_rfl) rfl (by kernel_rfl) (by kernel_rfl) rfl rfl ?_
 refine Kt (n:=3) (fo':=.rc (.cond (.s 30) .ret .skip)) (fs':=[.blk 3,.seq (.ops tO),.gst (.keep [0,3,8,9,10,16,17,18] [])]) (λb=>⟨[(0,.yl y),Iv 3 i,Cv 8 ps,Iv 9 (len ps),Iv 10 i,Cv 16 es,Iv 17 (len es),Iv 18 j,Bv 19 true,Bv 30 b],[Xb 6 x],[],ws,more,y⟩) hb (by kernel_rfl) ?_
 exact Le.of_eq (by kernel_rfl)
abbrev S1 (ps:Sl bG) (i:Int) (b:Bool) (ws:List (List V)) (more:Bool) (y:Nat):St:=⟨[(0,.yl y),Cv 8 ps,Iv 9 (len ps),Iv 10 i,Bv 11 b],[],[],ws,more,y⟩
theorem UH (ps:Sl bG) (i:Int) (ws:List (List V)) (more:Bool) (y:Nat) (hj:decide (i<len ps)=false) :
 rn S.bare kr some (.rc JF) [] (I1 ps i ws more y)=some (.exit 0,S1 ps i false ws more y):=by
 refine Le.get ?_;refine Kf (n:=7) (fo':=.rc (.cond (.s 11) .skip (.exit 0))) (fs':=[.seq (.seq (.block 1 (.seq (.ops ER) (.seq (.ops Dq) U2))) (.ops B1)),.gst (.keep [0,8,9,10] [])]) (λb=>S1 ps i b ws more y) hj (by kernel_rfl) ?_
 exact Le.of_eq (by kernel_rfl)
def MK:List Fm:=[.blk 2,.blk 1,.seq (.ops B1),.gst (.keep [0,8,9,10] [])]
theorem MF (ps:Sl bG) (i:Int) (p:bG) (ws:List (List V)) (more:Bool) (y:Nat) (r:Out×St) (hj:decide (i<len ps)=true) (hx:idx ps i=some p)
 (h:rn S.bare kr some (.rc (.loop BR)) MK (I2 ps i p.events 0 ws more y)=some r):rn S.bare kr some (.rc JF) [] (I1 ps i ws more y)=some r:=by
 refine Le.get ?_;refine Kt (n:=7) (fo':=.rc (.cond (.s 11) .skip (.exit 0))) (fs':=[.seq (.seq (.block 1 (.seq (.ops ER) (.seq (.ops Dq) U2))) (.ops B1)),.gst (.keep [0,8,9,10] [])]) (λb=>S1 ps i b ws more y) hj (by kernel_rfl) ?_
 refine Lf hx ?_;refine Kb 8 false [] (ER.drop 1) [.seq (.seq (.ops Dq) U2),.blk 1,.seq (.ops B1),.gst (.keep [0,8,9,10] [])] ⟨[(0,.yl y),Cv 8 ps,Iv 9 (len ps),Iv 10 i,Bv 11 true,Iv 12 i],[],[],ws,more,y⟩ .i64 rfl (by kernel_rfl) λx h1=>?_
 obtain rfl:x=p:=by rw[hx]at h1;cases h1;rfl
 refine SN 1 false [] (ER.drop 3) [.seq (.seq (.ops Dq) U2),.blk 1,.seq (.ops B1),.gst (.keep [0,8,9,10] [])] ⟨[(0,.yl y),Cv 8 ps,Iv 9 (len ps),Iv 10 i,Bv 11 true,Iv 12 i,Cv 14 x],[],[],ws,more,y⟩ [.v (.str ByteArray.empty),.v .aF,.v .aF] rfl (by simp only[aL,uP,mX,oN,nh,o5,qp,oG,qx,mT,o4,uZ,qq,qg,qo,qE,sF,sM,oH,qc,SV.bW];rfl) (by kernel_rfl) ?_
 refine Ast 1 false [] (ER.drop 5) [.seq (.seq (.ops Dq) U2),.blk 1,.seq (.ops B1),.gst (.keep [0,8,9,10] [])] ⟨[(0,.yl y),Cv 8 ps,Iv 9 (len ps),Iv 10 i,Bv 11 true,Cv 14 x,Pv 4,Iv 3 i],[Xb 4 (⟨ByteArray.empty,.nil,.nil⟩:bG)],[],ws,more,y⟩ 4 0 x [.v (.str ByteArray.empty),.v .aF,.v .aF] ((cells x).map .v) rfl (by kernel_rfl) ?_
 refine TM 6 false [] (Dq.drop 2) [.seq U2,.blk 1,.seq (.ops B1),.gst (.keep [0,8,9,10] [])] ⟨[(0,.yl y),Cv 8 ps,Iv 9 (len ps),Iv 10 i,Bv 11 true,Pv 4,Iv 3 i,Cv 16 x.events],[Xb 4 x],[],ws,more,y⟩ x.events rfl (by kernel_rfl) ?_
 refine AY (n:=5) (fo':=.rc (.loop BR)) (fs':=MK) (st':=I2 ps i x.events 0 ws more y) (by kernel_rfl) (Le.of_eq h)
theorem PW (ps:Sl bG) (i:Int) (es:Sl Event) (j:Int) (ws:List (List V)) (more:Bool) (y:Nat) :
 rn S.bare kr some (.ex 2) MK (S2 ps i es j false ws more y)=some (.norm,I1 ps (IntKind.wrap .i64 (i+1)) ws more y):=by kernel_rfl
theorem wrap_small (n:Nat) (h:n<9223372036854775807):IntKind.wrap .i64 ((n:Int)+1)=((n+1:Nat):Int):=by
 simp[IntKind.wrap,IntKind.bits,IntKind.signed];omega
abbrev eI (x:aa×Event):List V:=[enc x.1,enc x.2]
theorem zK.step {x:List V} {ws rest:List (List V)} {more:Bool} (h:zK ws (x::rest) more):∃ws',ws=x::ws'/\((!(more || !ws'.isEmpty))=false/\zK ws' rest more\/(!(more || !ws'.isEmpty))=true/\ws'=[]):=by
 rcases h with⟨rfl,rfl⟩|⟨rfl,hn,r,hr⟩
 .exact⟨rest,rfl,.inl ⟨rfl,.inl ⟨rfl,rfl⟩⟩⟩
 .cases ws with
  | nil=>exact absurd rfl hn
  | cons w ws=>
   simp only[List.cons_append,List.cons.injEq]at hr;obtain⟨rfl,rfl⟩:=hr;refine⟨ws,rfl,?_⟩
   cases ws with
   | nil=>exact .inr ⟨rfl,rfl⟩
   | cons z zs=>exact .inl ⟨rfl,.inr ⟨rfl,by simp,r,rfl⟩⟩
theorem DG {α:Type} {s:Sl α} {j:Nat} {x:α} {r:List α} (h:s.l.drop j=x::r):idx s (j:Int)=some x/\decide ((j:Int)<len s)=true/\s.l.drop (j+1)=r:=by
 have h1:j<s.l.length:=by
  apply Classical.byContradiction;intro hn;rw[List.drop_eq_nil_of_le (by omega)]at h;cases h
 have h2:=List.drop_eq_getElem_cons h1;rw[h2]at h;simp only[List.cons.injEq]at h;refine⟨?_,by simp[len,h1],h.2⟩
 unfold idx;rw[if_pos (by omega)]
 simp[ζd h1,h.1]
variable {Q:Out×St->Option (Out×St)} {fs:List Fm}
theorem inner (ps:Sl bG) (i:Int) (es:Sl Event) (hl:es.l.length<9223372036854775807) (more:Bool) (y:Nat) (R:List (List V)):∀(rem:List Event) (j:Nat),es.l.drop j=rem->∀ws,zK ws ((fI i j rem).map eI++R) more ->
 (∃(ws':List (List V)) (j':Int),zK ws' R more/\rn S.bare kr Q (.rc (.loop BR)) fs (I2 ps i es j ws more y)=rn S.bare kr Q (.ex 2) fs (S2 ps i es j' false ws' more y)) \/
 (∃st':St,st'.want=[]/\rn S.bare kr Q (.rc (.loop BR)) fs (I2 ps i es j ws more y)=Q (.ret,st'))
 | [],j,hd,ws,hw=>by
  have h1:decide ((j:Int)<len es)=false:=by
   have:es.l.length<=j:=by simpa using hd
   simp[len];omega
  exact .inl ⟨ws,j,by simpa [fI]using hw,B7 (SM ps i es j ws more y h1)⟩
 | e::rem,j,hd,ws,hw=>by
  obtain⟨h1,h2,h3⟩:=DG hd;have hj:j<es.l.length:=by simpa [len]using h2
  simp only[fI,List.map_cons,List.cons_append]at hw;obtain⟨ws',rfl,hb⟩:=zK.step hw;have hwr:=wrap_small j (by omega)
  have hji:((j:Int)+1)=IntKind.wrap .i64 ((j:Int)+1):=by rw[hwr];simp
  rcases hb with⟨hb,hd'⟩|⟨hb,rfl⟩
  .have k:=XF (S:=S) ps i es j e ws' more y h2 h1 hb;rw[<-hji]at k;have k2:=By (Q:=Q) (fs:=fs) k;have ih:=inner ps i es hl more y R rem (j+1) h3 ws' (by push_cast;exact hd')
   rw[show ((j+1:Nat):Int)=(j:Int)+1 from rfl]at ih;rcases ih with⟨ws2,j2,g1,g2⟩|⟨st',g1,g2⟩
   .exact .inl ⟨ws2,j2,g1,k2.trans g2⟩
   .exact .inr ⟨st',g1,k2.trans g2⟩
  .have k:=NQ (S:=S) ps i es j e [] more y h2 h1 hb;rw[<-hji]at k;exact .inr ⟨_,by rfl,B3 k⟩
theorem outer (ps:Sl bG) (hl:ps.l.length<9223372036854775807) (hes:∀p∈ps.l,p.events.l.length<9223372036854775807) (more:Bool) (y:Nat):∀(rem:List bG) (i:Nat),ps.l.drop i=rem->∀ws,zK ws ((dP i rem).map eI) more ->
 rn S.bare kr Qi (.rc (.loop JF)) [.blk 0] (I1 ps i ws more y)=some ()
 | [],i,hd,ws,hw=>by
  have h1:decide ((i:Int)<len ps)=false:=by
   have:ps.l.length<=i:=by simpa using hd
   simp[len];omega
  rw[B7 (UH ps i ws more y h1)];have:ws=[]:=by
   rcases hw with⟨_,rfl⟩|⟨_,hn,r,hr⟩
   .rfl
   .have:ws=[]:=by cases ws with
     | nil=>rfl
     | cons=>simp[dP]at hr
    exact absurd this hn
  subst this;rfl
 | p::rem,i,hd,ws,hw=>by
  obtain⟨h1,h2,h3⟩:=DG hd;have hi:i<ps.l.length:=by simpa [len]using h2
  have hp:p∈ps.l:=List.mem_of_mem_drop (i:=i) (by rw[hd];exact List.mem_cons_self ..)
  simp only[dP,List.map_append]at hw;have hwr:=wrap_small i (by omega)
  rcases inner (S:=S) (Q:=some) (fs:=MK) ps i p.events (hes p hp) more y _ p.events.l 0 rfl ws hw with⟨ws',j',g1,g2⟩|⟨st',g1,g2⟩
  .rw[PW,hwr]at g2;rw[By (MF ps i p ws more y _ h2 h1 g2)];exact outer ps hl hes more y rem (i+1) h3 ws' g1
  .rw[B3 (MF ps i p ws more y _ h2 h1 g2)];simp[Qi,g1]
theorem all (t:Trace) (its:List (aa×Event)) (h:gj t=some its) (ws:List (List V)) (more:Bool) (hw:zK ws (its.map eI) more) (y:Nat) :
 rn S.bare kr Qi (.rc text.body) [] ⟨uJ 0 (([]:List V).map .v++.yl y::[V.fptr (cells t)].map .v),[],[],ws,more,y⟩=some ():=by
 unfold gj at h;split at h
 .rename_i hk;cases h;simp only[ζh,List.all_eq_true,Cw,decide_eq_true_eq]at hk;refine Le.get ?_;refine TM 4 false [] (Qa.drop 2) [.seq U1] ⟨[(0,.yl y),Cv 8 t.procs],[],[],ws,more,y⟩ t.procs rfl (by kernel_rfl) ?_
  refine AY (n:=5) (fo':=.rc (.loop JF)) (fs':=[.blk 0]) (st':=I1 t.procs 0 ws more y) (by kernel_rfl) (Le.of_eq ?_)
  exact outer t.procs hk.1 hk.2 more y t.procs.l 0 rfl ws hw
 .cases h
end
theorem FB {α:Type} [aG α] {a b:Sl α} (h:bn a=bn b):rows a.l=rows b.l:=by
 cases a <;> cases b <;> first|rfl|(simp only[bn,Sl.k,lB,V.fsl.injEq,true_and,reduceCtorEq]at h;done)|(simp only[bn,Sl.k,lB,V.fsl.injEq,true_and,reduceCtorEq]at h;exact h)
theorem CO (p:Int):∀(es es':List Event) (j:Int),rows es=rows es'->(fI p j es).map eI=(fI p j es').map eI
 | [],[],_,_=>rfl
 | [],_::_,_,h=>by simp[rows]at h
 | _::_,[],_,h=>by simp[rows]at h
 | e::es,e'::es',j,h=>by
  simp only[rows,List.map_cons,List.cons.injEq]at h;have h1:enc e=enc e':=by show V.agg (cells e)=V.agg (cells e');rw[h.1]
  simp only[fI,List.map_cons,eI,h1,CO p es es' (j+1) h.2]
theorem AA:∀(ps ps':List bG) (i:Int),rows ps=rows ps'->(dP i ps).map eI=(dP i ps').map eI
 | [],[],_,_=>rfl
 | [],_::_,_,h=>by simp[rows]at h
 | _::_,[],_,h=>by simp[rows]at h
 | p::ps,p'::ps',i,h=>by
  simp only[rows,List.map_cons,List.cons.injEq]at h;have h1:bn p.events=bn p'.events:=by
   have:=h.1;change [V.str p.name,bn p.vars,bn p.events]=[V.str p'.name,bn p'.vars,bn p'.events]at this;simp only[List.cons.injEq]at this;exact this.2.2.1
  simp only[dP,List.map_append,CO i _ _ 0 (FB h1),AA ps ps' (i+1) h.2]
def CD (f:FuncId) (g:FuncId) (a b:List V) (xs:List (List V)):Prop:=∃(t:Trace) (its:List (aa×Event)),g=f/\a=[]/\b=[.fptr (cells t)]/\gj t=some its/\xs=its.map eI
theorem CD.uniq {f g:FuncId} {a b:List V} {xs ys:List (List V)} (h:CD f g a b xs) (k:CD f g a b ys):xs=ys:=by
 obtain⟨t,its,rfl,rfl,rfl,h1,rfl⟩:=h;obtain⟨t',its',_,_,h2,h3,rfl⟩:=k;simp only[List.cons.injEq,V.fptr.injEq,and_true]at h2;have h4:bn t.procs=bn t'.procs:=by
  change [bn t.procs]=[bn t'.procs]at h2;simpa using h2
 unfold gj at h1 h3;split at h1 <;> split at h3 <;> simp only[ζa,reduceCtorEq]at h1 h3;subst h1 h3;exact AA _ _ 0 (FB h4)
end trace_events_c1
end Go.VE
namespace Go.VE
open Go.Proofs.YtjbnbbbiijdbpaaGreatDoor
noncomputable section
noncomputable def HL (f:FuncId):Option C0:=bif Nat.beq f 90 then some (oa E)else none
noncomputable def Sy:Sys:=⟨E,λn=>n,uQ (trace_events_c1.CD 156),wH E,HL⟩
theorem WC:Sy.prm 90=some (oa Sy.E):=by kernel_rfl
theorem U5:∀f q,HL f=some q->mw E f q:=by
 intro f q h;unfold HL at h
 cases h1:Nat.beq f 90 with
 | true=>
  rw[h1]at h;cases h;have:=Nat.eq_of_beq_eq_true h1;subst this;exact Kq (by kernel_rfl) (by kernel_rfl) (by kernel_rfl) (by kernel_rfl)
 | false=>
  rw[h1]at h;cases h
def Tx:pO:=Me E some (lk GJ)
abbrev cL:bD:=cN Sy Tx
theorem UC:∃fi,E.ft 156=some fi/\vi E some fi trace_events_c1.text:=VZ (by kernel_rfl)
theorem HD:qT Sy Tx where
 fn f rf h:=let ⟨fi,h1,h2⟩:=Lt h;⟨fi,some,h1,Bj,h2⟩
 vX f bs y h:=JR h
 prm:=U5
theorem Bp:∀f a b xs,Sy.items f a b=some xs->eA Sy f a b xs:=by
 intro f a b xs h;obtain⟨t,its,rfl,rfl,rfl,h1,rfl⟩:=GQ h;obtain⟨fi,h2,h3⟩:=UC;exact KY Sy h2 Bj h3 (Nat.le_of_ble_eq_true rfl) rfl λws more hw y=>trace_events_c1.all t its h1 ws more hw y
theorem vA (t:Trace) (its:List (aa×Event)) (h:gj t=some its):Sy.items 156 [] [.fptr (cells t)]=some (its.map λx:aa×Event=>[enc x.1,enc x.2]):=
 Gf ⟨t,its,rfl,rfl,rfl,h,rfl⟩ λys hy=>hy.uniq ⟨t,its,rfl,rfl,rfl,h,rfl⟩
theorem IP:Sy.vX 9 []=some (.bool true):=xo (Eu rfl ⟨1,[],by kernel_rfl⟩)
end
end Go.VE
namespace Go.VE
noncomputable section
def rF (t0:Trace) (x1:aa):Option Event:=
 (idx t0.procs x1.proc).bind λx_1=>
 (idx x_1.events (IntKind.wrap .i64 (x1.index-1))).bind λx_2=>
 some x_2
instance WR (t0:Trace) (x1:aa):Fc Sy cL (rF t0 x1):=Fc.N 130 [enc t0,enc x1] (cu 2 2 t0 (aW 10 λx_1 _=>aW 5 λx_2 _=>oE 1 4 0 x_2 ai))
namespace ct
def bf (kind1 m2 p7:Int) (tb3:Trace) (vb6:aa) (i8:Int):Option (Fw Int Unit aa):=
 (idx tb3.procs p7).bind λx_1=>
 au (decide (i8<(len x_1.events)))
 ((idx tb3.procs p7).bind λx_2=>
 (idx x_2.events i8).bind λx_3=>
 (au (x_3.kind==kind1)
 (some (x_3.message==m2))
 (some false):Option Bool).bind λx_4=>
 au x_4
 (some (.r (⟨p7,IntKind.wrap .i64 (i8+1)⟩:aa)))
 (some (.n (IntKind.wrap .i64 (i8+1)))))
 (some (.x ()))
def W2 (kind1 m2 p7 i8:Int) (tb3:Trace) (vb6:aa):Option (Fw Int Unit aa):=
 (aS (λq:Int=>bf kind1 m2 p7 tb3 vb6 q) i8).bind (Fw.elim
 (λe=>some (.n (IntKind.wrap .i64 (p7+1))))
 (λe=>some (.r e)))
def aA (kind1 m2:Int) (tb3:Trace) (vb6:aa) (p7:Int):Option (Fw Int Unit aa):=
 au (decide (p7<(len tb3.procs)))
 (W2 kind1 m2 p7 0 tb3 vb6)
 (some (.x ()))
def W1 (kind1 m2 p7:Int) (tb3:Trace) (vb6:aa):Option aa:=
 (aS (λq:Int=>aA kind1 m2 tb3 vb6 q) p7).bind (Fw.elim
 (λe=>some ⟨0,0⟩)
 (λe=>some e))
end ct
def ct (t0:Trace) (kind1 m2:Int):Option aa:=
 ct.W1 kind1 m2 0 t0 (⟨0,0⟩:aa)
open ct in
instance Ru (t0:Trace) (kind1 m2:Int):Fc Sy cL (ct t0 kind1 m2):=Fc.M 78 [enc t0,.int .i64 kind1,.int .i64 m2] (cu 2 3 t0 (bU 11 (λqW1=>(aL [Iv 1 kind1,Iv 2 m2,Pv 3,Pv 6,Iv 7 qW1] [Xb 3 t0,Xb 6 (⟨0,0⟩:aa)])) (λeW1=>(0,(aL [Pv 6] [Xb 6 (⟨0,0⟩:aa)]))) (λeW1=>(aL [Pv 6] [Xb 6 eW1])) (λqW1=>aU 7 t0.procs (aI 3 14 (bU 12 (λqW2=>(aL [Iv 1 kind1,Iv 2 m2,Pv 3,Pv 6,Iv 7 qW1,Iv 8 qW2] [Xb 3 t0,Xb 6 (⟨0,0⟩:aa)])) (λeW2=>(2,(aL [Iv 1 kind1,Iv 2 m2,Pv 3,Pv 6,Iv 7 qW1] [Xb 3 t0,Xb 6 (⟨0,0⟩:aa)]))) (λeW2=>(aL [Pv 6] [Xb 6 eW2])) (λqW2=>aW 8 λx_1 _=>aU 2 x_1.events (aI 3 25 (aW 10 λx_2 _=>aW 3 λx_3 _=>oE 2 9 0 x_3 (aY 9 5 [9,41] 46 (aI 9 41 (aH 5) (aH 5)) λx_4=>aI 2 46 ai ai)) ai)) (λeW2=>ai) (λeW2=>ai)) ai)) (λeW1=>ai) (λeW1=>ai)))
namespace cr
def J1 (out5:Sl aa) (tb2:Trace) (xb3:aa):Option (Sl aa):=
 (rF tb2 xb3).bind λx_1=>
 au (x_1.kind==3)
 ((ct tb2 2 x_1.message).bind λx_2=>
 (jC out5 (x_2:aa)).bind λx_3=>
 some x_3)
 (some out5)
end cr
def cr (t0:Trace) (x1:aa):Option (Sl aa):=
 au (decide (x1.index>1))
 (cr.J1 (Sl.row [⟨x1.proc,IntKind.wrap .i64 (x1.index-1)⟩]:Sl aa) t0 x1)
 (cr.J1 (Sl.nil:Sl aa) t0 x1)
open cr in
theorem vZ (t0:Trace) (x1:aa):Le ((cr t0 x1).bind λr=>some (bX r)) (bE Sy cL (A1 (tr Tx 131)) (.rc (tb Tx 131),[],start ([enc t0,enc x1].map .v) [])):=
 cu 2 2 t0 (aI 17 9 (MT 10 17 18 .aF (⟨x1.proc,IntKind.wrap .i64 (x1.index-1)⟩:aa) (Ba 5 (aN 4 λx_1 _=>oE 1 6 0 x_1 (aI 10 24 (aN 6 λx_2 _=>wj 1 2005 30 31 λx_3 _=>ai) ai)))) (Ba 5 (aN 4 λx_1 _=>oE 1 6 0 x_1 (aI 10 24 (aN 6 λx_2 _=>wj 1 2005 30 31 λx_3 _=>ai) ai))))
def kT (dir:aa->Option (Sl aa)):List (List Bool)×List aa->Option (Fw (List (List Bool)×List aa) (List (List Bool)) Empty)
 | (out,[])=>some (.x out)
 | (out,y::rest)=>if 0<=y.proc/\0<=y.index then(out[y.proc.toNat]?).bind λrow=>(row[y.index.toNat]?).bind λb=>
  au b (some (.n (out,rest))) ((dir y).bind λmore=>if rest.length+more.l.length<=2147483648 then some (.n (out.set y.proc.toNat (row.set y.index.toNat true),rest++more.l))else none)else none
def eE (t:Trace):List (List Bool):=t.procs.l.map λP=>List.replicate (P.events.l.length+1) false
def wV (t:Trace):Bool:=decide (t.procs.l.length<=2147483648)&&t.procs.l.all λP=>decide (P.events.l.length+1<=2147483648)
def nested (out:List (List Bool)):Sl (Sl Bool):=if out=[]then .nil else .row (out.map .row)
def j7 (t:Trace) (x:aa):Option (Sl (Sl Bool)):=
 if wV t then(cr t x).bind λs=>(aS (kT (cr t)) (eE t,s.l)).bind (Fw.elim (λout=>some (nested out)) (λe=>Empty.elim e))else none
end
end Go.VE
namespace Go.VE
namespace pastX
abbrev tU:Nat->FuncId:=λn=>n
def r1:List RO:=[o2 2 (.a .box) [0] [],o2 3 (.a .box) [1] [],o1 4 (.k (.aF)) []]
def r2:List RO:=[o1 5 (.k (.aF)) []]
def r3:List RO:=[o1 6 (.k (.int .i64 0)) []]
def r4:List RO:=[o1 11 6 [],o2 12 (fa 0) [2] [],o2 13 (ld 1) [12] [],o2 14 ln [13] [],o2 15 (bI .lss) [11,14] []]
def r5:List RO:=[o1 18 5 [],o2 19 (fa 0) [2] [],o2 20 (ld 1) [19] [],o1 21 6 [],o2 22 (ix 3) [20,21] [],o2 23 (fa 2) [22] [],o2 24 (ld 1) [23] [],o2 25 ln [24] [],o2 26 (bI .add) [25,.k (.int .i64 1)] [],o2 27 (.a (.makeSl 1 [.bool false])) [26,26] [],o2 28 (.a (.buildSl 1 1 [.aF] [0])) [27] [],o2 29 (.l (.append 1)) [18,28] [],o1 5 29 []]
def r6:List RO:=[o1 16 6 [],o2 17 (bI .add) [16,.k (.int .i64 1)] [],o1 6 17 []]
def L1:RC:=.seq (.seq (.ops r4) (.cond (.s 15) (.skip) (.exit 0))) (.seq (.block 1 (.ops r5)) (.ops r6))
def r7:List RO:=[o2 30 (lD 1) [2] [],o2 31 (lD 2) [3] [],o2 32 .c [.f 131,30,31] [],o1 7 32 []]
def r8:List RO:=[o1 33 7 [],o2 34 ln [33] [],o2 35 (bI .gtr) [34,.k (.int .i64 0)] []]
def r9:List RO:=[o1 36 7 [],o2 37 (ix 2) [36,.k (.int .i64 0)] [],o2 38 (lD 2) [37] [],o2 8 (.a (.alloc 2 [.int .i64 0,.int .i64 0])) [] [],oz (su 2) [8,38] []]
def CK:List RO:=[o1 39 7 [],o2 40 (.p (.slice 2 true false)) [39,.k (.int .i64 1)] [],o1 7 40 []]
def D0:List RO:=[o1 41 5 [],o2 42 (fa 0) [8] [],o2 43 (ld 1) [42] [],o2 44 (ix 1) [41,43] [],o2 45 (ld 1) [44] [],o2 46 (fa 1) [8] [],o2 47 (ld 1) [46] [],on 48 (ix 1) [45,47] [],on 49 (ld 1) [48] []]
def DX:List RO:=[o1 50 5 [],o2 51 (fa 0) [8] [],o2 52 (ld 1) [51] [],o2 53 (ix 1) [50,52] [],o2 54 (ld 1) [53] [],o2 55 (fa 1) [8] [],o2 56 (ld 1) [55] [],on 57 (ix 1) [54,56] [],oy (su 1) [57,.k (.bool true)] []]
def DD:List RO:=[o2 58 (lD 1) [2] [],o2 59 (lD 2) [8] [],o2 60 .c [.f 131,58,59] [],o1 9 60 []]
def D7:List RO:=[o1 10 (.k (.int .i64 0)) []]
def Fp:List RO:=[o1 61 10 [],o1 62 9 [],o2 63 ln [62] [],o2 64 (bI .lss) [61,63] []]
def EU:List RO:=[o1 67 7 [],o1 68 9 [],o1 69 10 [],o2 70 (ix 2) [68,69] [],o2 71 (lD 2) [70] [],o2 72 (.a (.buildSl 2 1 [.int .i64 0,.int .i64 0] [0])) [71] [],o2 73 (.l (.append 2)) [67,72] [],o1 7 73 []]
def JB:List RO:=[o1 65 10 [],o2 66 (bI .add) [65,.k (.int .i64 1)] [],o1 10 66 []]
def L3:RC:=.seq (.seq (.ops Fp) (.cond (.s 64) (.skip) (.exit 4))) (.seq (.block 5 (.ops EU)) (.ops JB))
def L2:RC:=.seq (.seq (.ops r8) (.cond (.s 35) (.skip) (.exit 2))) (.block 3 (.seq (.ops r9) (.seq (.ops CK) (.seq (.seq (.lS D0) (.cond (.s 49) (.exit 3) (.skip))) (.seq (.lS DX) (.seq (.ops DD) (.seq (.ops D7) (.block 4 (.loop L3)))))))))
def Y2:List RO:=[o1 74 5 [],o1 4 74 []]
def code:RC:=.seq (.ops r1) (.seq (.ops r2) (.seq (.seq (.ops r3) (.block 0 (.loop L1))) (.seq (.ops r7) (.seq (.block 2 (.loop L2)) (.seq (.ops Y2) (.ret))))))
noncomputable abbrev tc:=Go.Proofs.YtjbnbbbiijdbpaaGreatDoor.E
def gU (out:List (List Bool)):List (List V):=out.map λr=>r.map V.bool
theorem shape:∃fi,tc.ft (tU 110)=some fi/\aO ⟨tc,some,fi.ntmps⟩ false fi.body=some code/\2<=fi.ntmps/\fi.results=[.tmp 4]:=by
 have h:((tc.ft (tU 110)).map λfi=>(aO ⟨tc,some,fi.ntmps⟩ false fi.body,Nat.ble 2 fi.ntmps,fi.results))=some (some code,true,[.tmp 4]):=by kernel_rfl
 obtain⟨fi,h1,h2⟩:=ζf.1 h;simp only[ζc]at h2;exact⟨fi,h1,h2.1,Nat.le_of_ble_eq_true h2.2.1,h2.2.2⟩
section
variable {E:Env} {N:Nat->FuncId} {t:Trace} {x:aa} {k:Nat} {F:Frame} {H H1:aq} {call:b_} {b:Option Nat}
theorem iE {o:RO} {l:List RO} {v:V} {r:Frame×aq} (hg:o.gd=none) (hv:aR E N call b o.now o.k (o.az.map (aD N F)) H=some (v,H1)) (h:bP E N call b l (aC F o.dst v) H1=some r):bP E N call b (o::l) F H=some r:=by
 simp only[bP,hg,hv];exact h
theorem vp {o:RO} {l:List RO} {v:V} {r:Frame×aq} (hg:o.gd=none) (hv:aR E N call b o.now o.k (o.az.map (aD N F)) H=some (v,H)) (h:bP E N call b l (aC F o.dst v) H=some r):bP E N call b (o::l) F H=some r:=iE hg hv h
theorem dM:bP E N call b [] F H=some (F,H):=rfl
theorem ld1 (h:H[0]? = some (.row 1 [cells t])):dF H (.load 1 false) [.hptr 0 0 0]=some (bn t.procs):=by
 simp[dF,cG,h,Ob.rows];rfl
theorem ZO {s:Sl bG} {p:bG} {i:Nat} (h:s.l[i]? = some p):jc 3 (bn s) (i:Int)=some (.fptr (cells p)):=by
 have:=Bh (N:=λn=>n) s .i64 (i:Int) 3 rfl
 simp only[ay]at this;rw[this,show idx s (i:Int)=some p from by unfold idx;rw[if_pos (by omega)];exact h];rfl
theorem x4 (f2:get F 2=.hptr 0 0 0) (f6:get F 6=.int .i64 k) (h0:H[0]? = some (.row 1 [cells t])) :
 ∃F',bP E N call none r4 F H=some (F',H)/\get F' 15=.bool (decide (k<t.procs.l.length))/\(∀s,s<11->get F' s=get F s):=by
 refine⟨_,vp (v:=.int .i64 k) rfl ?_ <| vp (v:=.hptr 0 0 0) rfl ?_ <| vp (v:=bn t.procs) rfl ?_ <| vp (v:=.int .i64 t.procs.l.length) rfl ?_ <| vp (v:=.bool (decide (k<t.procs.l.length))) rfl ?_ dM,?_,?_⟩
 .simp[aR,aD,ay,f6]
 .simp[aR,aD,ay,aC,f2,eZ]
 .simp only[aR,List.map_cons,List.map_nil,aD,aC,aB,Nat.reduceEqDiff,if_true,if_false];rw[ld1 h0];rfl
 .simp only[aR,List.map_cons,List.map_nil,aD,aC,aB,Nat.reduceEqDiff,if_true,if_false];rw[vv];rfl
 .simp[aR,aD,ay,aC,gQ,nD]
 .simp[aC]
 .intro s hs;simp only[aC,aB]
  repeat (rw[if_neg (by omega)])
theorem xd {n:Nat} (h:n<=2147483648):IntKind.wrap .i64 ((n:Int)+1)=((n+1:Nat):Int):=by
 simp[IntKind.wrap,IntKind.bits,IntKind.signed];omega
theorem x5 {P:bG} {o:Nat} {ids:List Nat} {rows:List (List V)} (f2:get F 2=.hptr 0 0 0) (f6:get F 6=.int .i64 k) (h0:H[0]? = some (.row 1 [cells t])) (hP:t.procs.l[k]? = some P) (hl:P.events.l.length+1<=2147483648)
 (hn:jA H (get F 5) o ids rows) (hr:rows.length+1<=2147483648) :
 ∃F' H',bP E N call none r5 F H=some (F',H')/\jA H' (get F' 5) (H.length+2) (ids++[H.length]) (rows++[List.replicate (P.events.l.length+1) (.bool false)])/\H.length<=H'.length/\(∀id,id<H.length->id≠o\/rows=[]->H'[id]? = H[id]?)/\(∀s,s<11->s≠5->get F' s=get F s):=by
 obtain⟨H',p1,p2,p3,p4⟩:=hn.push (List.replicate (P.events.l.length+1) (.bool false)) hr;have hrep:gb (List.replicate (P.events.l.length+1) (V.bool false))=List.replicate (P.events.l.length+1) [.bool false]:=by simp[gb]
 rw[hrep,List.length_replicate]at p1;have hb:=xd (n:=P.events.l.length) (by omega)
 refine⟨_,H',vp (v:=get F 5) rfl ?_ <| vp (v:=.hptr 0 0 0) rfl ?_ <| vp (v:=bn t.procs) rfl ?_ <| vp (v:=.int .i64 k) rfl ?_ <| vp (v:=.fptr (cells P)) rfl ?_ <| vp (v:=.fptr [bn P.events]) rfl ?_ <| vp (v:=bn P.events) rfl ?_ <|
  vp (v:=.int .i64 P.events.l.length) rfl ?_ <| vp (v:=.int .i64 ((P.events.l.length+1:Nat):Int)) rfl ?_ <| iE (v:=.hsl H.length 1 0 (P.events.l.length+1)) (H1:=H++[.row 1 (List.replicate (P.events.l.length+1) [.bool false])]) rfl ?_ <|
  iE (v:=.hsl (H.length+1) 1 0 1) (H1:=H++[.row 1 (List.replicate (P.events.l.length+1) [.bool false])]++[.row 1 [[.hsl H.length 1 0 (P.events.l.length+1)]]]) rfl ?_ <|
  iE (v:=.hsl (H.length+2) 1 0 (rows.length+1)) (H1:=H') rfl ?_ <| vp (v:=.hsl (H.length+2) 1 0 (rows.length+1)) rfl ?_ dM,?_,p3,p4,?_⟩
 .simp[aR,aD,ay]
 .simp[aR,aD,ay,aC,f2,eZ]
 .simp only[aR,List.map_cons,List.map_nil,aD,aC,aB,Nat.reduceEqDiff,if_true,if_false];rw[ld1 h0];rfl
 .simp[aR,aD,ay,aC,f6]
 .simp only[aR,List.map_cons,List.map_nil,aD,aC,aB,Nat.reduceEqDiff,if_true,if_false,ay];rw[ZO hP];rfl
 .simp only[aR,List.map_cons,List.map_nil,aD,aC,aB,Nat.reduceEqDiff,if_true,if_false,ay];rfl
 .simp only[aR,List.map_cons,List.map_nil,aD,aC,aB,Nat.reduceEqDiff,if_true,if_false];rfl
 .simp only[aR,List.map_cons,List.map_nil,aD,aC,aB,Nat.reduceEqDiff,if_true,if_false];rw[vv];rfl
 .simp only[aR,List.map_cons,List.map_nil,aD,aC,aB,Nat.reduceEqDiff,if_true,if_false,ay,gQ];rw[hb];rfl
 .simp only[aR,List.map_cons,List.map_nil,aD,aC,aB,Nat.reduceEqDiff,if_true,if_false,iD];rw[if_pos ⟨trivial,trivial,by omega,by omega,by omega⟩]
  simp only[Option.map_some,Mk.val,Int.toNat_natCast]
 .simp only[aR,List.map_cons,List.map_nil,aD,aC,aB,Nat.reduceEqDiff,if_true,if_false,iD];simp[eW,V.cells,V.one,Mk.val]
 .simp only[aR,List.map_cons,List.map_nil,aD,aC,aB,Nat.reduceEqDiff,if_true,if_false];exact p1
 .simp[aR,aD,ay,aC]
 .simp only[aC,aB,if_true];exact p2
 .intro s hs h5;simp only[aC,aB];rw[if_neg (Ne.symm h5)]
  repeat (rw[if_neg (by omega)])
theorem x6 (f6:get F 6=.int .i64 k) (hk:k<=2147483648):∃F',bP E N call none r6 F H=some (F',H)/\get F' 6=.int .i64 ((k+1:Nat):Int)/\(∀s,s<11->s≠6->get F' s=get F s):=by
 have hb:=xd hk;refine⟨_,vp (v:=.int .i64 k) rfl ?_ <| vp (v:=.int .i64 ((k+1:Nat):Int)) rfl ?_ <| vp (v:=.int .i64 ((k+1:Nat):Int)) rfl ?_ dM,?_,?_⟩
 .simp[aR,aD,ay,f6]
 .simp only[aR,List.map_cons,List.map_nil,aD,aC,aB,Nat.reduceEqDiff,if_true,if_false,ay,gQ];rw[hb];rfl
 .simp[aR,aD,ay,aC]
 .simp[aC]
 .intro s hs h6;simp only[aC,aB];rw[if_neg (Ne.symm h6)]
  repeat (rw[if_neg (by omega)])
end
structure P1 (t:Trace) (x:aa) (k:Nat) (F:Frame) (H:aq):Prop where
 f2:get F 2=.hptr 0 0 0
 f3:get F 3=.hptr 1 0 0
 f6:get F 6=.int .i64 k
 h0:H[0]? = some (.row 1 [cells t])
 h1:H[1]? = some (.row 2 [cells x])
 ns:∃o ids,jA H (get F 5) o ids (gU ((eE t).take k))/\(k≠0->2<=o)/\∀id∈ids,2<=id
theorem s_ (out:List (List Bool)):(gU out).length=out.length:=by simp[gU]
theorem HR {E:Env} {N:Nat->FuncId} {t:Trace} {x:aa} (hok:wV t=true):∀(m k:Nat) (F:Frame) (H:aq),k+m=t.procs.l.length->P1 t x k F H->∃F' H',kH E N L1 F H (.exit 0) F' H'/\P1 t x t.procs.l.length F' H':=by
 have hok':t.procs.l.length<=2147483648/\∀P∈t.procs.l,P.events.l.length+1<=2147483648:=by
  simpa [wV]using hok
 intro m
 induction m with
 | zero=>
  intro k F H hk p;have hk':k=t.procs.l.length:=by omega
  obtain⟨F1,e1,e2,e3⟩:=x4 (E:=E) (N:=N) (call:=λ_ _ _=>none) p.f2 p.f6 p.h0
  refine⟨F1,H,kH.stop (Ex.uM (Ex.seq (Ex.dh λc=>?_) (Ex.sw ?_ Ex.exit)) (by simp)) (by simp),?_⟩
  .obtain⟨F2,g1,_,_⟩:=x4 (E:=E) (N:=N) (call:=c) p.f2 p.f6 p.h0;have:bP E N c none r4 F H=bP E N (λ_ _ _=>none) none r4 F H:=rfl
   rw[this];exact e1
  .show get F1 15=_;rw[e2];simp[hk']
  .subst hk';exact⟨by rw[e3 2 (by omega)];exact p.f2,by rw[e3 3 (by omega)];exact p.f3,by rw[e3 6 (by omega)];exact p.f6,p.h0,p.h1,by rw[e3 5 (by omega)];exact p.ns⟩
 | succ m ih=>
  intro k F H hk p;have hkl:k<t.procs.l.length:=by omega
  obtain⟨o,ids,n1,n2,n3⟩:=p.ns;obtain⟨F1,e1,e2,e3⟩:=x4 (E:=E) (N:=N) (call:=λ_ _ _=>none) p.f2 p.f6 p.h0
  have hP:=ζd hkl;have hlen:((eE t).take k).length=k:=by simp[eE];omega
  have n1':jA H (get F1 5) o ids (gU ((eE t).take k)):=by rw[e3 5 (by omega)];exact n1
  obtain⟨F2,H2,g1,g2,g3,g4,g5⟩:=x5 (E:=E) (N:=N) (call:=λ_ _ _=>none) (by rw[e3 2 (by omega)];exact p.f2) (by rw[e3 6 (by omega)];exact p.f6) p.h0 hP (hok'.2 _ (List.getElem_mem hkl)) n1' (by rw[s_,hlen];omega)
  obtain⟨F3,q1,q2,q3⟩:=x6 (E:=E) (N:=N) (call:=λ_ _ _=>none) (H:=H2) (k:=k) (F:=F2) (by rw[g5 6 (by omega) (by omega),e3 6 (by omega)];exact p.f6) (by omega)
  have hl:=n1.lt;have h0l:=(ζe.1 p.h0).1;have h1l:=(ζe.1 p.h1).1;have hkeep:∀i,i<2->i<H.length->H2[i]? = H[i]? := λi hi hl=>g4 i hl (by
   by_cases hk0:k=0
   .subst hk0;right;simp[gU]
   .left;have:=n2 hk0;omega)
  have hp3:P1 t x (k+1) F3 H2:=by
   refine⟨by rw[q3 2 (by omega) (by omega),g5 2 (by omega) (by omega),e3 2 (by omega)];exact p.f2,by rw[q3 3 (by omega) (by omega),g5 3 (by omega) (by omega),e3 3 (by omega)];exact p.f3,q2,
    by rw[hkeep 0 (by omega) h0l];exact p.h0,by rw[hkeep 1 (by omega) h1l];exact p.h1,H.length+2,ids++[H.length],?_,λ_=>by omega,λid hid=>?_⟩
   .rw[q3 5 (by omega) (by omega)]
    have hrows:gU ((eE t).take (k+1))=gU ((eE t).take k)++[List.replicate (t.procs.l[k].events.l.length+1) (.bool false)]:=by
     rw[List.take_add_one];have:(eE t)[k]? = some (List.replicate (t.procs.l[k].events.l.length+1) false):=by simp[eE,hP]
     rw[this];simp[gU]
    rw[hrows];exact g2
   .rcases List.mem_append.1 hid with h|h
    .exact n3 id h
    .simp at h;omega
  obtain⟨F',H',r1,r2⟩:=ih (k+1) F3 H2 (by omega) hp3
  refine⟨F',H',kH.step (Ex.seq (Ex.seq (Ex.dh λc=>e1) (Ex.nu ?_ Ex.skip)) (Ex.seq (Ex.block (Ex.dh λc=>g1)) (Ex.dh λc=>q1))) r1,r2⟩
  show get F1 15=_;rw[e2];simp[hkl]
section
variable {E:Env} {N:Nat->FuncId} {t:Trace} {x y:aa} {F:Frame} {H:aq} {call:b_}
theorem x8 {l:List (List V)} {id:Nat} (h:h_ H (get F 7) l id):∃F',bP E N call none r8 F H=some (F',H)/\get F' 35=.bool (decide (0<l.length))/\(∀s,s<11->get F' s=get F s):=by
 refine⟨_,vp (v:=get F 7) rfl ?_ <| vp (v:=.int .i64 l.length) rfl ?_ <| vp (v:=.bool (decide (0<l.length))) rfl ?_ dM,?_,?_⟩
 .simp[aR,aD,ay]
 .simp only[aR,List.map_cons,List.map_nil,aD,aC,aB,Nat.reduceEqDiff,if_true,if_false,ay,h.len,Option.map_some]
 .simp[aR,aD,ay,aC,gQ,nD]
 .simp[aC]
 .intro s hs;simp only[aC,aB]
  repeat (rw[if_neg (by omega)])
theorem x9 {l:List (List V)} {id:Nat} (h:h_ H (get F 7) (cells y::l) id):∃F',bP E N call none r9 F H=some (F',H++[.row 2 [cells y]])/\get F' 8=.hptr H.length 0 0/\(∀s,s<11->s≠8->get F' s=get F s):=by
 obtain⟨p,p1,p2⟩:=h.get (i:=0) (c:=cells y) rfl;refine⟨_,vp (v:=get F 7) rfl ?_ <| vp (v:=p) rfl ?_ <| vp (v:=.agg (cells y)) rfl ?_ <| iE (v:=.hptr H.length 0 0) (H1:=H++[.row 2 [[.int .i64 0,.int .i64 0]]]) rfl ?_ <| iE (v:=.undef) (H1:=H++[.row 2 [cells y]]) rfl ?_ dM,?_,?_⟩
 .simp[aR,aD,ay]
 .simp only[aR,List.map_cons,List.map_nil,aD,aC,aB,Nat.reduceEqDiff,if_true,if_false,ay];rw[show (0:Int)=((0:Nat):Int)from rfl,p1];rfl
 .simp only[aR,List.map_cons,List.map_nil,aD,aC,aB,Nat.reduceEqDiff,if_true,if_false];rw[p2];rfl
 .simp only[aR,List.map_cons,List.map_nil,aD,aC,aB,Nat.reduceEqDiff,if_true,if_false,iD,Option.map_some,Mk.val]
 .simp only[aR,List.map_cons,List.map_nil,aD,aC,aB,Nat.reduceEqDiff,if_true,if_false];simp[dV,V.cells,V.one]
 .simp[aC]
 .intro s hs h8;simp only[aC,aB];rw[if_neg (Ne.symm h8)]
  repeat (rw[if_neg (by omega)])
theorem ZU {c:List V} {l:List (List V)} {id:Nat} (h:h_ H (get F 7) (c::l) id):∃F',bP E N call none CK F H=some (F',H)/\h_ H (get F' 7) l id/\(∃off m off',get F 7=.hsl id 2 off m/\get F' 7=.hsl id 2 off' l.length)/\(∀s,s<11->s≠7->get F' s=get F s):=by
 obtain⟨w',p1,p2,off,m,off',p3,p4⟩:=h.tail;refine⟨_,vp (v:=get F 7) rfl ?_ <| vp (v:=w') rfl ?_ <| vp (v:=w') rfl ?_ dM,?_,⟨off,m,off',p3,?_⟩,?_⟩
 .simp[aR,aD,ay]
 .simp only[aR,List.map_cons,List.map_nil,aD,aC,aB,Nat.reduceEqDiff,if_true,if_false,ay,jy,ζb,p1,Option.map_some]
 .simp[aR,aD,ay,aC]
 .simp only[aC,aB,if_true];exact p2
 .simp only[aC,aB,if_true];exact p4
 .intro s hs h8;simp only[aC,aB];rw[if_neg (Ne.symm h8)]
  repeat (rw[if_neg (by omega)])
theorem gL (H:aq):H.take H.length=H:=List.take_length ..
theorem S5 {c:Nat} (hc:H[c]? = some (.row 2 [cells y])):dF H (.load 1 false) [.hptr c 0 0]=some (.int .i64 y.proc)/\dF H (.load 1 false) [.hptr c 0 1]=some (.int .i64 y.index)/\dF H (.load 2 true) [.hptr c 0 0]=some (enc y):=by
 refine⟨?_,?_,?_⟩ <;> simp[dF,cG,hc,Ob.rows,cut] <;> rfl
theorem We {c o:Nat} {ids:List Nat} {rows:List (List V)} {p j:Nat} {r:List V} {u:V} (f8:get F 8=.hptr c 0 0) (hc:H[c]? = some (.row 2 [cells y])) (hn:jA H (get F 5) o ids rows) (hp:y.proc=p) (hj:y.index=j) (hr:rows[p]? = some r) (hu:r[j]? = some u) :
 ∃F',bP E N call (some H.length) D0 F H=some (F',H)/\get F' 49=u/\(∀s,s<11->get F' s=get F s):=by
 obtain⟨id,q0,q1,q2,q3,q4⟩:=hn.cell hr hu;obtain⟨c1,c2,_⟩:=S5 hc;rw[hp]at c1;rw[hj]at c2;refine⟨_,vp (v:=get F 5) rfl ?_ <| vp (v:=.hptr c 0 0) rfl ?_ <| vp (v:=.int .i64 p) rfl ?_ <| vp (v:=.hptr o p 0) rfl ?_ <| vp (v:=.hsl id 1 0 r.length) rfl ?_ <| vp (v:=.hptr c 0 1) rfl ?_ <| vp (v:=.int .i64 j) rfl ?_ <| vp (v:=.hptr id j 0) rfl ?_ <| vp (v:=u) rfl ?_ dM,?_,?_⟩
 .simp[aR,aD,ay]
 .simp[aR,aD,ay,aC,f8,eZ]
 .simp only[aR,List.map_cons,List.map_nil,aD,aC,aB,Nat.reduceEqDiff,if_true,if_false,gL];rw[c1];rfl
 .simp only[aR,List.map_cons,List.map_nil,aD,aC,aB,Nat.reduceEqDiff,if_true,if_false,ay];rw[q1];rfl
 .simp only[aR,List.map_cons,List.map_nil,aD,aC,aB,Nat.reduceEqDiff,if_true,if_false,gL];rw[q2];rfl
 .simp[aR,aD,ay,aC,f8,eZ]
 .simp only[aR,List.map_cons,List.map_nil,aD,aC,aB,Nat.reduceEqDiff,if_true,if_false,gL];rw[c2];rfl
 .simp only[aR,List.map_cons,List.map_nil,aD,aC,aB,Nat.reduceEqDiff,if_true,if_false,ay];rw[q3];rfl
 .simp only[aR,List.map_cons,List.map_nil,aD,aC,aB,Nat.reduceEqDiff,if_true,if_false,gL];rw[q4];rfl
 .simp[aC]
 .intro s hs;simp only[aC,aB]
  repeat (rw[if_neg (by omega)])
theorem ZZ {c o:Nat} {ids:List Nat} {rows:List (List V)} {p j:Nat} {r:List V} {u:V} (f8:get F 8=.hptr c 0 0) (hc:H[c]? = some (.row 2 [cells y])) (hn:jA H (get F 5) o ids rows) (hp:y.proc=p) (hj:y.index=j) (hr:rows[p]? = some r) (hu:r[j]? = some u) :
 ∃F' H',bP E N call (some H.length) DX F H=some (F',H')/\jA H' (get F' 5) o ids (rows.set p (r.set j (.bool true)))/\H'.length=H.length/\(∀i,i∉ids->H'[i]? = H[i]?)/\(∀s,s<11->get F' s=get F s):=by
 obtain⟨id,q0,q1,q2,q3,q4⟩:=hn.cell hr hu;obtain⟨c1,c2,_⟩:=S5 hc;rw[hp]at c1;rw[hj]at c2;obtain⟨H',s1,s2,s3,s4⟩:=hn.set hr (ζe.1 hu).1 q0 (u:=.bool true) rfl rfl;refine⟨_,H',vp (v:=get F 5) rfl ?_ <| vp (v:=.hptr c 0 0) rfl ?_ <| vp (v:=.int .i64 p) rfl ?_ <| vp (v:=.hptr o p 0) rfl ?_ <| vp (v:=.hsl id 1 0 r.length) rfl ?_ <| vp (v:=.hptr c 0 1) rfl ?_ <| vp (v:=.int .i64 j) rfl ?_ <| vp (v:=.hptr id j 0) rfl ?_ <| iE (v:=.undef) (H1:=H') rfl ?_ dM,?_,s3,λi hi=>s4 i λe=>hi (e▸List.mem_of_getElem? q0),?_⟩
 .simp[aR,aD,ay]
 .simp[aR,aD,ay,aC,f8,eZ]
 .simp only[aR,List.map_cons,List.map_nil,aD,aC,aB,Nat.reduceEqDiff,if_true,if_false,gL];rw[c1];rfl
 .simp only[aR,List.map_cons,List.map_nil,aD,aC,aB,Nat.reduceEqDiff,if_true,if_false,ay];rw[q1];rfl
 .simp only[aR,List.map_cons,List.map_nil,aD,aC,aB,Nat.reduceEqDiff,if_true,if_false,gL];rw[q2];rfl
 .simp[aR,aD,ay,aC,f8,eZ]
 .simp only[aR,List.map_cons,List.map_nil,aD,aC,aB,Nat.reduceEqDiff,if_true,if_false,gL];rw[c2];rfl
 .simp only[aR,List.map_cons,List.map_nil,aD,aC,aB,Nat.reduceEqDiff,if_true,if_false,ay];rw[q3];rfl
 .simp only[aR,List.map_cons,List.map_nil,aD,aC,aB,Nat.reduceEqDiff,if_true,if_false,s1]
 .simp only[aC,aB,Nat.reduceEqDiff,if_false];exact s2
 .intro s hs;simp only[aC,aB]
  repeat (rw[if_neg (by omega)])
def Cy (E:Env) (N:Nat->FuncId) (t:Trace) (dir:aa->Option (Sl aa)):Prop:=∀(y:aa) (s:Sl aa) (H:aq),dir y=some s ->
 ∃w X id,(∃n,∀k,n<=k->dY E (run E k) (N 131) [enc t,enc y] H=some (w,H++X))/\h_ (H++X) w (s.l.map cells) id/\(∀off m,w=.hsl id 2 off m->id=H.length)
theorem Zn {a d:Nat} (hd:E.keep (N 131)=true) {dir:aa->Option (Sl aa)} (hD:Cy E N t dir) {s:Sl aa} (hs:dir y=some s) (f2:get F 2=.hptr 0 0 0) (h0:H[0]? = some (.row 1 [cells t])) {c:Nat} (hc:H[c]? = some (.row 2 [cells y])) :
 ∃w X id,h_ (H++X) w (s.l.map cells) id/\(∀off m,w=.hsl id 2 off m->id=H.length) /\
  (get F 8=.hptr c 0 0->∃F',(∃n,∀k,n<=k->bP E N (run E k) none DD F H=some (F',H++X))/\get F' 9=w/\(∀s,s<11->s≠9->get F' s=get F s)) /\
  (get F 3=.hptr c 0 0->∃F',(∃n,∀k,n<=k->bP E N (run E k) none r7 F H=some (F',H++X))/\get F' 7=w/\(∀s,s<11->s≠7->get F' s=get F s)):=by
 obtain⟨w,X,id,⟨n,e1⟩,e2,e3⟩:=hD y s H hs;have ht:dF H (.load 1 true) [.hptr 0 0 0]=some (enc t):=by
  simp[dF,cG,h0,Ob.rows,cut];rfl
 obtain⟨_,_,hy⟩:=S5 hc;refine⟨w,X,id,e2,e3,λf8=>⟨_,⟨n,λk hk=>vp (v:=enc t) rfl ?_ <| vp (v:=enc y) rfl ?_ <| iE (v:=w) (H1:=H++X) rfl ?_ <| vp (v:=w) rfl ?_ dM⟩,?_,?_⟩,λf3=>⟨_,⟨n,λk hk=>vp (v:=enc t) rfl ?_ <| vp (v:=enc y) rfl ?_ <| iE (v:=w) (H1:=H++X) rfl ?_ <| vp (v:=w) rfl ?_ dM⟩,?_,?_⟩⟩
 .simp only[aR,List.map_cons,List.map_nil,aD,f2];rw[ht];rfl
 .simp only[aR,List.map_cons,List.map_nil,aD,aC,aB,Nat.reduceEqDiff,if_true,if_false,f8];rw[hy];rfl
 .simp only[aR,List.map_cons,List.map_nil,aD,aC,aB,Nat.reduceEqDiff,if_true,if_false,hd,List.nil_append,List.append_nil];exact e1 k hk
 .simp[aR,aD,ay,aC]
 .simp[aC]
 .intro s hs h9;simp only[aC,aB];rw[if_neg (Ne.symm h9)]
  repeat (rw[if_neg (by omega)])
 .simp only[aR,List.map_cons,List.map_nil,aD,f2];rw[ht];rfl
 .simp only[aR,List.map_cons,List.map_nil,aD,aC,aB,Nat.reduceEqDiff,if_true,if_false,f3];rw[hy];rfl
 .simp only[aR,List.map_cons,List.map_nil,aD,aC,aB,Nat.reduceEqDiff,if_true,if_false,hd,List.nil_append,List.append_nil];exact e1 k hk
 .simp[aR,aD,ay,aC]
 .simp[aC]
 .intro s hs h9;simp only[aC,aB];rw[if_neg (Ne.symm h9)]
  repeat (rw[if_neg (by omega)])
end
section
variable {E:Env} {N:Nat->FuncId} {F:Frame} {H:aq} {call:b_} {i:Nat}
theorem MO {l:List (List V)} {id:Nat} (f10:get F 10=.int .i64 i) (h:h_ H (get F 9) l id):∃F',bP E N call none Fp F H=some (F',H)/\get F' 64=.bool (decide (i<l.length))/\(∀s,s<11->get F' s=get F s):=by
 refine⟨_,vp (v:=.int .i64 i) rfl ?_ <| vp (v:=get F 9) rfl ?_ <| vp (v:=.int .i64 l.length) rfl ?_ <| vp (v:=.bool (decide (i<l.length))) rfl ?_ dM,?_,?_⟩
 .simp[aR,aD,ay,f10]
 .simp[aR,aD,ay,aC]
 .simp only[aR,List.map_cons,List.map_nil,aD,aC,aB,Nat.reduceEqDiff,if_true,if_false,ay,h.len,Option.map_some]
 .simp[aR,aD,ay,aC,gQ,nD]
 .simp[aC]
 .intro s hs;simp only[aC,aB]
  repeat (rw[if_neg (by omega)])
theorem ZX {l l9:List (List V)} {id id9:Nat} {c:List V} (f10:get F 10=.int .i64 i) (h:h_ H (get F 7) l id) (h9:h_ H (get F 9) l9 id9) (hc:l9[i]? = some c) (hl:l.length+1<=2147483648) :
 ∃F' H',bP E N call none EU F H=some (F',H')/\h_ H' (get F' 7) (l++[c]) (H.length+1)/\H'.length=H.length+2/\(∀i,i<H.length->(∀off m,get F 7=.hsl id 2 off m->i≠id)->H'[i]? = H[i]?)/\(∀s,s<11->s≠7->get F' s=get F s):=by
 have hcc:=h9.c c (List.mem_of_getElem? hc);obtain⟨p,p1,p2⟩:=h9.get hc;obtain⟨H',q1,q2,q3,q4⟩:=h.push hcc hl;refine⟨_,H',vp (v:=get F 7) rfl ?_ <| vp (v:=get F 9) rfl ?_ <| vp (v:=.int .i64 i) rfl ?_ <| vp (v:=p) rfl ?_ <| vp (v:=.agg c) rfl ?_ <| iE (v:=.hsl H.length 2 0 1) (H1:=H++[.row 2 [c]]) rfl ?_ <| iE (v:=.hsl (H.length+1) 2 0 (l.length+1)) (H1:=H') rfl ?_ <| vp (v:=.hsl (H.length+1) 2 0 (l.length+1)) rfl ?_ dM,?_,q3,q4,?_⟩
 .simp[aR,aD,ay]
 .simp[aR,aD,ay,aC]
 .simp[aR,aD,ay,aC,f10]
 .simp only[aR,List.map_cons,List.map_nil,aD,aC,aB,Nat.reduceEqDiff,if_true,if_false,ay];rw[p1];rfl
 .simp only[aR,List.map_cons,List.map_nil,aD,aC,aB,Nat.reduceEqDiff,if_true,if_false];rw[p2];rfl
 .simp only[aR,List.map_cons,List.map_nil,aD,aC,aB,Nat.reduceEqDiff,if_true,if_false,iD];have h2:c.all V.one=true:=hcc.2;simp[eW,V.cells,hcc.1,Mk.val];exact λa ha=>List.all_eq_true.1 h2 a ha
 .simp only[aR,List.map_cons,List.map_nil,aD,aC,aB,Nat.reduceEqDiff,if_true,if_false];exact q1
 .simp[aR,aD,ay,aC]
 .simp only[aC,aB,if_true];exact q2
 .intro s hs h8;simp only[aC,aB];rw[if_neg (Ne.symm h8)]
  repeat (rw[if_neg (by omega)])
theorem Z3 (f10:get F 10=.int .i64 i) (hk:i<=2147483648):∃F',bP E N call none JB F H=some (F',H)/\get F' 10=.int .i64 ((i+1:Nat):Int)/\(∀s,s<11->s≠10->get F' s=get F s):=by
 have hb:=xd hk;refine⟨_,vp (v:=.int .i64 i) rfl ?_ <| vp (v:=.int .i64 ((i+1:Nat):Int)) rfl ?_ <| vp (v:=.int .i64 ((i+1:Nat):Int)) rfl ?_ dM,?_,?_⟩
 .simp[aR,aD,ay,f10]
 .simp only[aR,List.map_cons,List.map_nil,aD,aC,aB,Nat.reduceEqDiff,if_true,if_false,ay,gQ];rw[hb];rfl
 .simp[aR,aD,ay,aC]
 .simp[aC]
 .intro s hs h6;simp only[aC,aB];rw[if_neg (Ne.symm h6)]
  repeat (rw[if_neg (by omega)])
structure P3 (l l9:List (List V)) (B i:Nat) (F:Frame) (H:aq):Prop where
 f10:get F 10=.int .i64 i
 t9:∃id9,h_ H (get F 9) l9 id9/\∃id,h_ H (get F 7) l id/\(∀off m,get F 7=.hsl id 2 off m->B<=id/\∀off' m',get F 9=.hsl id9 2 off' m'->id≠id9)
 len:B<=H.length
theorem XE (l9:List (List V)) (B:Nat) (hl9:l9.length<=2147483648):∀(m i:Nat) (l:List (List V)) (F:Frame) (H:aq),i+m=l9.length->l.length+m<=2147483648->P3 l l9 B i F H ->
 ∃F' H',kH E N L3 F H (.exit 4) F' H'/\(∃id,h_ H' (get F' 7) (l++l9.drop i) id/\∀off m,get F' 7=.hsl id 2 off m->B<=id)/\(∀s,s<7->get F' s=get F s)/\(∀j,j<B->H'[j]? = H[j]?)/\H.length<=H'.length:=by
 intro m
 induction m with
 | zero=>
  intro i l F H hi hl p;obtain⟨id9,t9,id,t7,ap⟩:=p.t9;obtain⟨F1,e1,e2,e3⟩:=MO (E:=E) (N:=N) (call:=λ_ _ _=>none) p.f10 t9
  refine⟨F1,H,kH.stop (Ex.uM (Ex.seq (Ex.dh λc=>e1) (Ex.sw ?_ Ex.exit)) (by simp)) (by simp),⟨id,?_,λoff m h=>?_⟩,λs hs=>e3 s (by omega),λ_ _=>rfl,Nat.le_refl _⟩
  .show get F1 64=_;rw[e2];simp;omega
  .rw[e3 7 (by omega),List.drop_of_length_le (by omega),List.append_nil];exact t7
  .rw[e3 7 (by omega)]at h;exact(ap off m h).1
 | succ m ih=>
  intro i l F H hi hl p;have hil:i<l9.length:=by omega
  obtain⟨id9,t9,id,t7,ap⟩:=p.t9;obtain⟨F1,e1,e2,e3⟩:=MO (E:=E) (N:=N) (call:=λ_ _ _=>none) p.f10 t9
  have hc:=ζd hil;have t7':h_ H (get F1 7) l id:=by rw[e3 7 (by omega)];exact t7
  have t9':h_ H (get F1 9) l9 id9:=by rw[e3 9 (by omega)];exact t9
  obtain⟨F2,H2,g1,g2,g3,g4,g5⟩:=ZX (E:=E) (N:=N) (call:=λ_ _ _=>none) (by rw[e3 10 (by omega)];exact p.f10) t7' t9' hc (by omega)
  obtain⟨F3,q1,q2,q3⟩:=Z3 (E:=E) (N:=N) (call:=λ_ _ _=>none) (H:=H2) (i:=i) (F:=F2) (by rw[g5 10 (by omega) (by omega),e3 10 (by omega)];exact p.f10) (by omega)
  have keep:∀j,j<H.length->(∀off m,get F 7=.hsl id 2 off m->j≠id)->H2[j]? = H[j]? := λj hj h=>g4 j hj (by rw[e3 7 (by omega)];exact h)
  have hp3:P3 (l++[l9[i]]) l9 B (i+1) F3 H2:=by
   refine⟨q2,⟨id9,?_,H.length+1,by rw[q3 7 (by omega) (by omega)];exact g2,λoff m h=>⟨by have:=p.len;omega,λoff' m' h'=>?_⟩⟩,by have:=p.len;omega⟩
   .rw[q3 9 (by omega) (by omega),g5 9 (by omega) (by omega),e3 9 (by omega)]
    exact t9.heap λoff n hw=>keep id9 (t9.lt hw) λoff' m' hw'=>Ne.symm ((ap off' m' hw').2 off n hw)
   .rw[q3 9 (by omega) (by omega),g5 9 (by omega) (by omega),e3 9 (by omega)]at h'
    have:=t9.lt h';omega
  obtain⟨F',H',r1,⟨id',r2,r3⟩,r4,r5,r6⟩:=ih (i+1) (l++[l9[i]]) F3 H2 (by omega) (by simp;omega) hp3
  refine⟨F',H',kH.step (Ex.seq (Ex.seq (Ex.dh λc=>e1) (Ex.nu ?_ Ex.skip)) (Ex.seq (Ex.block (Ex.dh λc=>g1)) (Ex.dh λc=>q1))) r1,⟨id',?_,r3⟩,λs hs=>?_,λj hj=>?_,by omega⟩
  .show get F1 64=_;rw[e2];simp[hil]
  .rw[List.append_assoc]at r2;rw[List.drop_eq_getElem_cons hil];exact r2
  .rw[r4 s hs,q3 s (by omega) (by omega),g5 s (by omega) (by omega),e3 s (by omega)]
  .have:=p.len;rw[r5 j hj,keep j (by omega) λoff m h=>by have:=(ap off m h).1;omega]
end
structure P2 (t:Trace) (out:List (List Bool)) (l:List aa) (F:Frame) (H:aq):Prop where
 f2:get F 2=.hptr 0 0 0
 h0:H[0]? = some (.row 1 [cells t])
 ns:∃B o ids id,jA H (get F 5) o ids (gU out)/\(out≠[]->1<=o/\o<B)/\(∀id∈ids,1<=id/\id<B)/\1<=B/\B<=H.length/\h_ H (get F 7) (l.map cells) id/\∀off m,get F 7=.hsl id 2 off m->B<=id
theorem LM (out:List (List Bool)) (p j:Nat) (row:List Bool):gU (out.set p (row.set j true))=(gU out).set p ((row.map V.bool).set j (.bool true)):=by
 simp[gU,List.map_set]
theorem CF {out:List (List Bool)}:gU out=[]↔out=[]:=by simp[gU]
theorem Ll {dir:aa->Option (Sl aa)} {out:List (List Bool)} {y:aa} {rest:List aa} {w:Fw (List (List Bool)×List aa) (List (List Bool)) Empty} (h:kT dir (out,y::rest)=some w) :
 ∃(p j:Nat) (row:List Bool) (b:Bool),y.proc=p/\y.index=j/\out[p]? = some row/\row[j]? = some b/\((b=true/\w=.n (out,rest))\/(b=false/\∃more,dir y=some more/\rest.length+more.l.length<=2147483648/\w=.n (out.set p (row.set j true),rest++more.l))):=by
 simp only[kT]at h;split at h
 .rename_i hy;obtain⟨row,h1,h⟩:=ζg.1 h;obtain⟨b,h2,h⟩:=ζg.1 h;refine⟨y.proc.toNat,y.index.toNat,row,b,by omega,by omega,h1,h2,?_⟩
  cases b with
  | true=>left;simp only[au]at h;exact⟨rfl,by simpa using h.symm⟩
  | false=>
   right;simp only[au,Bool.false_eq_true,if_false]at h;obtain⟨more,h3,h⟩:=ζg.1 h;split at h
   .rename_i hl;exact⟨rfl,more,h3,hl,by simpa using h.symm⟩
   .cases h
 .cases h
theorem Hx {E:Env} {N:Nat->FuncId} {t:Trace} {dir:aa->Option (Sl aa)} (hd:E.keep (N 131)=true) (hD:Cy E N t dir):∀(k:Nat) (out:List (List Bool)) (l:List aa) (out':List (List Bool)) (F:Frame) (H:aq),
 gz (kT dir) k (out,l)=some (.x out')->P2 t out l F H->∃F' H',kH E N L2 F H (.exit 2) F' H'/\P2 t out' [] F' H':=by
 intro k
 induction k with
 | zero=>intro out l out' F H h;simp[gz]at h
 | succ k ih=>
  intro out l out' F H h p;obtain⟨B,o,ids,id,n1,n2,n3,n4,n5,t7,t8⟩:=p.ns;obtain⟨F1,e1,e2,e3⟩:=x8 (E:=E) (N:=N) (call:=λ_ _ _=>none) t7
  rw[List.length_map]at e2
  cases l with
  | nil=>
   simp only[gz,kT]at h;cases h;refine⟨F1,H,kH.stop (Ex.uM (Ex.seq (Ex.dh λc=>e1) (Ex.sw ?_ Ex.exit)) (by simp)) (by simp),?_⟩
   .show get F1 35=_;rw[e2];simp
   .exact⟨by rw[e3 2 (by omega)];exact p.f2,p.h0,B,o,ids,id,by rw[e3 5 (by omega)];exact n1,n2,n3,n4,n5,by rw[e3 7 (by omega)];exact t7,by rw[e3 7 (by omega)];exact t8⟩
  | cons y rest=>
   simp only[gz]at h
   cases hst:kT dir (out,y::rest)with
   | none=>rw[hst]at h;cases h
   | some w=>
   rw[hst]at h;obtain⟨q,j,row,b,hq,hj,hrow,hb,hcase⟩:=Ll hst;have t7':h_ H (get F1 7) (cells y::rest.map cells) id:=by rw[e3 7 (by omega)];exact t7
   obtain⟨F2,g1,g2,g3⟩:=x9 (E:=E) (N:=N) (call:=λ_ _ _=>none) t7'
   have t7'':h_ (H++[.row 2 [cells y]]) (get F2 7) (cells y::rest.map cells) id:=by rw[g3 7 (by omega) (by omega)];exact t7'.more _
   obtain⟨F3,i1,i2,⟨off1,m1,off2,i3,i4⟩,i5⟩:=ZU (E:=E) (N:=N) (call:=λ_ _ _=>none) t7''
   have hcl:(H++[Ob.row 2 [cells y]])[H.length]? = some (.row 2 [cells y]):=by simp
   have f8:get F3 8=.hptr H.length 0 0:=by rw[i5 8 (by omega) (by omega)];exact g2
   have f5:get F3 5=get F 5:=by rw[i5 5 (by omega) (by omega),g3 5 (by omega) (by omega),e3 5 (by omega)]
   have f2:get F3 2=.hptr 0 0 0:=by rw[i5 2 (by omega) (by omega),g3 2 (by omega) (by omega),e3 2 (by omega)];exact p.f2
   have n5':jA (H++[.row 2 [cells y]]) (get F3 5) o ids (gU out):=by rw[f5];exact n1.more _
   have hr:(gU out)[q]? = some (row.map V.bool):=by simp[gU,hrow]
   have hu:(row.map V.bool)[j]? = some (.bool b):=by simp[hb]
   have hB8:B<=id:=by
    have:get F 7=.hsl id 2 off1 m1:=by rw[<-i3,g3 7 (by omega) (by omega),e3 7 (by omega)]
    exact t8 _ _ this
   obtain⟨F4,j1,j2,j3⟩:=We (E:=E) (N:=N) (call:=λ_ _ _=>none) f8 hcl n5' hq hj hr hu
   have h35:aD N F1 (.s 35)=.bool true:=by show get F1 35=_;rw[e2];simp
   rcases hcase with⟨rfl,rfl⟩|⟨rfl,more,hm,hlen,rfl⟩
   .simp only at h;have hp2:P2 t out rest F4 (H++[.row 2 [cells y]]):=by
     refine⟨by rw[j3 2 (by omega)];exact f2,by rw[List.getElem?_append_left (ζe.1 p.h0).1];exact p.h0,B,o,ids,id,by rw[j3 5 (by omega)];exact n5',n2,n3,n4,by simp;omega,by rw[j3 7 (by omega)];exact i2,λoff m _=>hB8⟩
    obtain⟨F',H',r1,r2⟩:=ih out rest out' F4 _ h hp2;exact⟨F',H',kH.step (Ex.seq (Ex.seq (Ex.dh λc=>e1) (Ex.nu h35 Ex.skip)) (Ex.u7 (Ex.seq (Ex.dh λc=>g1) (Ex.seq (Ex.dh λc=>i1) (Ex.uM (Ex.seq (Ex.lS rfl λc=>j1) (Ex.nu j2 Ex.exit)) (by simp)))))) r1,r2⟩
   .simp only at h;have n6:jA (H++[.row 2 [cells y]]) (get F4 5) o ids (gU out):=by rw[j3 5 (by omega)];exact n5'
    obtain⟨F5,H5,k1,k2,k3,k4,k5⟩:=ZZ (E:=E) (N:=N) (call:=λ_ _ _=>none) (by rw[j3 8 (by omega)];exact f8) hcl n6 hq hj hr hu
    have hnid:∀i,B<=i->i∉ids:=λi hi hm=>by have:=(n3 i hm).2;omega
    have hc5:H5[H.length]? = some (.row 2 [cells y]):=by rw[k4 _ (hnid _ n5)];exact hcl
    have h05:H5[0]? = some (.row 1 [cells t]):=by
     rw[k4 0 (λhm=>by have:=(n3 0 hm).1;omega),List.getElem?_append_left (ζe.1 p.h0).1];exact p.h0
    obtain⟨w9,X,id9,m1',m2,m3,_⟩:=Zn (a:=0) (d:=0) (F:=F5) hd hD hm (by rw[k5 2 (by omega),j3 2 (by omega)];exact f2) h05 hc5
    obtain⟨F6,⟨nn,o1'⟩,o2',o3⟩:=m3 (by rw[k5 8 (by omega),j3 8 (by omega)];exact f8)
    have hl5:H5.length=H.length+1:=by rw[k3];simp
    have i7:get F6 7=.hsl id 2 off2 (rest.map cells).length:=by rw[o3 7 (by omega) (by omega),k5 7 (by omega),j3 7 (by omega)];exact i4
    have hidl:id<H.length:=by
     have:=t7'.lt (off:=off1) (m:=m1) (by rw[<-i3,g3 7 (by omega) (by omega)])
     exact this
    have t6:h_ (H5++X) (get F6 7) (rest.map cells) id:=by
     have:get F6 7=get F3 7:=by rw[o3 7 (by omega) (by omega),k5 7 (by omega),j3 7 (by omega)]
     rw[this];refine(i2.heap (H':=H5) λoff n _=>k4 id (hnid id hB8)).more X
    have s10:∃F7,(∀c,bP E N c none D7 F6 (H5++X)=some (F7,H5++X))/\get F7 10=.int .i64 ((0:Nat):Int)/\∀s,s<10->get F7 s=get F6 s:=
     ⟨set F6 10 (.int .i64 0),λc=>by simp[D7,bP,aR,aD,ay,aC],by simp,λs hs=>by rw[aB,if_neg (by omega)]⟩
    obtain⟨F7,u1,u2,u3⟩:=s10;have hp3:P3 (rest.map cells) (more.l.map cells) B 0 F7 (H5++X):=by
     refine⟨u2,⟨id9,by rw[u3 9 (by omega),o2'];exact m1',id,by rw[u3 7 (by omega)];exact t6,λoff m hh=>⟨hB8,λoff' m' h'=>?_⟩⟩,by simp;omega⟩
     rw[u3 9 (by omega),o2']at h'
     have:=m2 off' m' h';omega
    obtain⟨F8,H8,v1,⟨id8,v2,v3⟩,v4,v5,v6⟩:=XE (E:=E) (N:=N) (more.l.map cells) B (by simp;omega) (more.l.map cells).length 0 (rest.map cells) F7 (H5++X) (by omega) (by simp;omega) hp3
    have hn8:jA H8 (get F8 5) o ids (gU (out.set q (row.set j true))):=by
     have h5:get F8 5=get F5 5:=by rw[v4 5 (by omega),u3 5 (by omega),o3 5 (by omega) (by omega)]
     rw[h5,LM];refine(k2.more X).heap (λhne=>v5 o ?_) λi hi=>v5 i (n3 i hi).2
     have:out≠[]:=by intro e;subst e;simp at hrow
     exact(n2 this).2
    have hp2:P2 t (out.set q (row.set j true)) (rest++more.l) F8 H8:=by
     refine⟨by rw[v4 2 (by omega),u3 2 (by omega),o3 2 (by omega) (by omega),k5 2 (by omega),j3 2 (by omega)];exact f2,?_,B,o,ids,id8,hn8,λhne=>n2 (by intro e;subst e;simp at hrow),n3,n4,by simp at v6;omega,?_,v3⟩
     .rw[v5 0 (by omega),List.getElem?_append_left (ζe.1 h05).1];exact h05
     .rw[List.drop_zero]at v2;rw[List.map_append];exact v2
    obtain⟨F',H',w1,w2⟩:=ih _ _ out' F8 H8 h hp2;exact⟨F',H',kH.step (Ex.seq (Ex.seq (Ex.dh λc=>e1) (Ex.nu h35 Ex.skip)) (Ex.block (Ex.seq (Ex.dh λc=>g1) (Ex.seq (Ex.dh λc=>i1) (Ex.seq (Ex.seq (Ex.lS rfl λc=>j1) (Ex.sw j2 Ex.skip)) (Ex.seq (Ex.lS rfl λc=>k1)
     (Ex.seq (Ex.ops ⟨nn,o1'⟩) (Ex.seq (Ex.dh u1) (Ex.u7 (Ex.loop v1))))))))) ) w1,w2⟩
theorem MR {H:aq} {Z:Nat->Prop} {id:Nat} {r:List Bool} (hz:Z id) (h:H[id]? = some (.row 1 (gb (r.map V.bool)))):FR H Z (enc (Sl.row r)) (.hsl id 1 0 r.length):=by
 have hr:ax H id=some (1,gb (r.map V.bool)):=by simp[ax,h,Ob.rows]
 have he:enc (Sl.row r)=.fsl 1 (rows r):=rfl;have hl:(rows r).length=r.length:=by simp[rows]
 have hc:gb (r.map V.bool)=rows r:=by simp[gb,rows,List.map_map,Function.comp_def]
 rw[hc]at hr;rw[he,<-hl];refine .fsl 1 (rows r) id 0 (rows r) hz hr (by omega) (λi a b h1 h2=>?_) (λi j a b u v h1 h2 h3 h4=>?_)
 .rw[Nat.zero_add,h1]at h2;cases h2;rfl
 .rw[Nat.zero_add,h1]at h2;cases h2;rw[h3]at h4;cases h4;refine .same u ?_;obtain⟨c,hc1,rfl⟩:∃c∈r,a=[V.bool c]:=by
   have:=List.mem_of_getElem? h1;simp only[rows,List.mem_map]at this;obtain⟨c,hc,rfl⟩:=this;exact⟨c,hc,rfl⟩
  have:=List.mem_of_getElem? h3;simp at this;subst this;rfl
theorem Ml {H:aq} {w:V} {o:Nat} {ids:List Nat} {out:List (List Bool)} (n:jA H w o ids (gU out)):∃Z,FR H Z (enc (nested out)) w/\(∀id,Z id->(ax H id).isSome=true)/\Deep H Z:=by
 have hv:=n.v
 by_cases ho:out=[]
 .subst ho;rw[if_pos (show gU []=[]from rfl)]at hv;subst hv;exact⟨λ_=>False,.same _ rfl,λ_ h=>h.elim,⟨λ_ _ _ h=>h.elim⟩⟩
 .have hne:gU out≠[]:=λh=>ho (CF.1 h)
  rw[if_neg hne,s_]at hv;subst hv;have hob:=n.ob hne;have hlen:=n.len;rw[s_]at hlen;have hrow:∀(i id:Nat) (r:List Bool),ids[i]? = some id->out[i]? = some r->H[id]? = some (.row 1 (gb (r.map V.bool))):=λi id r h1 h2=>n.r i id _ h1 (by simp[gU,h2])
  have href:∀(i:Nat) (c:List V),(refs ids (gU out))[i]? = some c->∃id r,ids[i]? = some id/\out[i]? = some r/\c=[.hsl id 1 0 r.length]:=λi c h=>by
   have hi:=(ζe.1 h).1;rw[ql n.len,s_]at hi;have h1:=ζd (show i<ids.length from by omega)
   have h2:=ζd hi;have h3:=zl (rows:=gU out) (r:=out[i].map V.bool) h1 (by simp[gU,h2])
   rw[h]at h3;exact⟨_,_,h1,h2,by simpa using h3⟩
  have hzo:ax H o=some (1,refs ids (gU out)):=by simp[ax,hob,Ob.rows]
  have hzi:∀id∈ids,∃(r:List Bool),H[id]? = some (.row 1 (gb (r.map V.bool))):=λid hid=>by
   obtain⟨i,hi⟩:=List.getElem?_of_mem hid;have hl:=(ζe.1 hi).1;exact⟨_,hrow i id _ hi (ζd (show i<out.length from by omega))⟩
  refine⟨λid=>id=o\/id∈ids,?_,λid h=>?_,⟨λid es ys h hr c hc u hu=>?_⟩⟩
  .have he:enc (nested out)=.fsl 1 (rows (out.map Sl.row)):=by rw[nested,if_neg ho];rfl
   have hl:(rows (out.map Sl.row)).length=out.length:=by simp[rows]
   rw[he,<-hl];refine .fsl 1 _ o 0 (refs ids (gU out)) (.inl rfl) hzo (by rw[hl,ql n.len,s_];omega) (λi a b h1 h2=>?_) (λi j a b u v h1 h2 h3 h4=>?_)
   .rw[Nat.zero_add]at h2;obtain⟨id,r,_,hr,rfl⟩:=href i b h2;simp[rows,hr]at h1;subst h1;rfl
   .rw[Nat.zero_add]at h2;obtain⟨id,r,hid,hr,rfl⟩:=href i b h2;have ha:a=[enc (Sl.row r)]:=by simp[rows,hr]at h1;exact h1.symm
    subst ha
    cases j with
    | zero=>
     simp at h3 h4;subst h3 h4;exact MR (.inr (List.mem_of_getElem? hid)) (hrow i id r hid hr)
    | succ j=>simp at h3
  .rcases h with rfl|h
   .simp[hzo]
   .obtain⟨r,hr⟩:=hzi id h;simp[ax,hr,Ob.rows]
  .rcases h with rfl|h
   .rw[hzo]at hr;cases hr;obtain⟨i,hi⟩:=List.getElem?_of_mem hc;obtain⟨id,r,hid,hro,rfl⟩:=href i c hi;simp at hu;subst hu;exact⟨_,MR (.inr (List.mem_of_getElem? hid)) (hrow i id r hid hro)⟩
   .obtain⟨r,hr'⟩:=hzi id h;have:ax H id=some (1,gb (r.map V.bool)):=by simp[ax,hr',Ob.rows]
    rw[this]at hr;cases hr;simp only[gb,List.mem_map]at hc;obtain⟨_,⟨c',_,rfl⟩,rfl⟩:=hc;simp at hu;subst hu;exact⟨_,.same _ rfl⟩
theorem NT {t:Trace} {x:aa} {out:List (List Bool)} {s:Sl aa} {dir:aa->Option (Sl aa)} (hd:tc.keep (tU 131)=true) (hD:Cy tc tU t dir) (hok:wV t=true) (hs:dir x=some s) (hw:aS (kT dir) (eE t,s.l)=some (.x out)) :
 vK tc (tU 110) [enc t,enc x] (enc (nested out)):=by
 obtain⟨fi,g1,g2,g3,g4⟩:=shape;obtain⟨k,hk⟩:=kJ.1 hw;have b1:∃F1,(∀c,bP tc tU c none r1 [enc t,enc x] []=some (F1,[.row 1 [cells t],.row 2 [cells x]]))/\get F1 2=.hptr 0 0 0/\get F1 3=.hptr 1 0 0:=by
  refine⟨_,λc=>iE (v:=.hptr 0 0 0) (H1:=[.row 1 [cells t]]) rfl ?_ <| iE (v:=.hptr 1 0 0) (H1:=[.row 1 [cells t],.row 2 [cells x]]) rfl ?_ <| vp (v:=.aF) rfl ?_ dM,?_,?_⟩
  .show (iD .box [enc t]).map _=_;simp only[iD,oW,oI,if_true,Option.map_some,eB];rfl
  .simp only[aR,List.map_cons,List.map_nil,aD,aC,aB,Nat.reduceEqDiff,if_false];show (iD .box [enc x]).map _=_;simp only[iD,oW,oI,if_true,Option.map_some,eB];rfl
  .simp[aR,aD,ay]
  .simp[aC]
  .simp[aC]
 obtain⟨F1,c1,c2,c3⟩:=b1;have b3:∃F3,(∀c,bP tc tU c none r2 F1 [.row 1 [cells t],.row 2 [cells x]]=some (set F1 5 .aF,[.row 1 [cells t],.row 2 [cells x]]))/\(∀c,bP tc tU c none r3 (set F1 5 .aF) [.row 1 [cells t],.row 2 [cells x]]=some (F3,[.row 1 [cells t],.row 2 [cells x]]))/\P1 t x 0 F3 [.row 1 [cells t],.row 2 [cells x]]:=by
  refine⟨set (set F1 5 .aF) 6 (.int .i64 0),λc=>by simp[r2,bP,aR,aD,ay,aC],λc=>by simp[r3,bP,aR,aD,ay,aC],by simp[c2],by simp[c3],by simp,rfl,rfl,0,[],?_,λh=>absurd rfl h,λid h=>by simp at h⟩
  have:get (set (set F1 5 .aF) 6 (.int .i64 0)) 5=.aF:=by simp
  rw[this,List.take_zero];exact jA.nil _ 0
 obtain⟨F3,d1,d2,d3⟩:=b3;obtain⟨F4,H4,e1,e2⟩:=HR (E:=tc) (N:=tU) hok t.procs.l.length 0 F3 _ (by omega) d3
 obtain⟨o,ids,n1,n2,n3⟩:=e2.ns;have hlen:(eE t).length=t.procs.l.length:=by simp[eE]
 rw[List.take_of_length_le (by omega)]at n1
 obtain⟨w,X,id,m1,m2,_,m4⟩:=Zn (a:=0) (d:=0) (F:=F4) (E:=tc) (N:=tU) hd hD hs e2.f2 e2.h0 (c:=1) e2.h1;obtain⟨F5,o1,o2,o3⟩:=m4 e2.f3;have hp2:P2 t (eE t) s.l F5 (H4++X):=by
  refine⟨by rw[o3 2 (by omega) (by omega)];exact e2.f2,by rw[List.getElem?_append_left (ζe.1 e2.h0).1];exact e2.h0,H4.length,o,ids,id,by rw[o3 5 (by omega) (by omega)];exact n1.more X,λhne=>?_,λi hi=>⟨by have:=n3 i hi;omega,n1.lt.2 i hi⟩,?_,by simp,by rw[o2];exact m1,λoff m h=>?_⟩
  .have hne':gU (eE t)≠[]:=λh=>hne (CF.1 h)
   have:t.procs.l.length≠0:=by intro h;apply hne;exact List.eq_nil_of_length_eq_zero (by omega)
   have:=n2 this;exact⟨by omega,n1.lt.1 hne'⟩
  .have:=(ζe.1 e2.h0).1;omega
  .rw[o2]at h;have:=m2 off m h;omega
 obtain⟨F6,H6,p1,p2⟩:=Hx hd hD k _ _ out F5 _ hk hp2;obtain⟨B,o',ids',id',q1,_⟩:=p2.ns;have l1:∃F7,(∀c,bP tc tU c none Y2 F6 H6=some (F7,H6))/\get F7 4=get F6 5:=by
  refine⟨_,λc=>vp (v:=get F6 5) rfl ?_ <| vp (v:=get F6 5) rfl ?_ dM,?_⟩
  .simp[aR,aD,ay]
  .simp[aR,aD,ay,aC]
  .simp[aC]
 obtain⟨F7,y1,y2⟩:=l1;have hex:Ex tc tU code [enc t,enc x] [] .ret F7 H6:=
  Ex.seq (Ex.dh c1) (Ex.seq (Ex.dh d1) (Ex.seq (Ex.seq (Ex.dh d2) (Ex.u7 (Ex.loop e1))) (Ex.seq (Ex.ops o1) (Ex.seq (Ex.u7 (Ex.loop p1)) (Ex.seq (Ex.dh y1) Ex.ret)))))
 obtain⟨n,hrun⟩:=hex.run (nm:=some) Bj g1 g2 (show [enc t,enc x].length<=fi.ntmps from g3) (vs:=[get F7 4]) (by rw[g4];rfl)
 obtain⟨Z,z1,z2,z3⟩:=Ml q1;exact⟨n,get F6 5,H6,Z,by rw[hrun,y2];rfl,z1,z2,z3⟩
theorem SG (l:List aa):∀c∈l.map (cells (α:=aa)),c.length=2/\c.all V.one=true/\c.all V.scalar=true:=λc hc=>by
 obtain⟨e,_,rfl⟩:=List.mem_map.1 hc;exact⟨rfl,rfl,rfl⟩
theorem WW (t:Trace):Cy tc tU t (cr t):=by
 intro y s H hs;have h1:=vZ t y;have h2:=h1 (bX s) (by rw[hs];rfl)
 have hg:V.bF [enc t,enc y]=true:=by simp only[V.bF,jF,Bool.and_self]
 have hkind:s.k=.row\/s.k=.nil/\rows s.l=[]:=by
  have hj:∀o z,(∃l,o=.row l)\/o=.nil->cr.J1 o t y=some z->(∃l,z=.row l)\/z=.nil:=λo z ho hz=>by
   unfold cr.J1 at hz;obtain⟨e,_,hz⟩:=ζg.1 hz
   cases he:e.kind==3 with
   | true=>
    rw[he]at hz;obtain⟨f,_,hz⟩:=ζg.1 hz;obtain⟨q,hq,hz⟩:=ζg.1 hz;cases hz;unfold jC at hq;split at hq
    .cases hq;exact .inl ⟨_,rfl⟩
    .cases hq
   | false=>rw[he]at hz;cases hz;exact ho
  have:(∃l,s=.row l)\/s=.nil:=by
   unfold cr at hs
   cases hc:decide (y.index>1)with
   | true=>rw[hc]at hs;exact hj _ s (.inl ⟨_,rfl⟩) hs
   | false=>rw[hc]at hs;exact hj _ s (.inr rfl) hs
  rcases this with⟨l,rfl⟩|rfl
  .exact .inl rfl
  .exact .inr ⟨rfl,rfl⟩
 obtain⟨n,z,H',r1,r2⟩:=SR HD Bp (T:=Tx) (f:=tU 131) (rf:=AF (Tx 131)) (by kernel_rfl) hg (Nat.le_of_ble_eq_true (by kernel_rfl)) (k:=s.k) (es:=2) (xs:=rows s.l) (λc hc=>(SG s.l c hc).2.2) hkind h2
 refine DO (l:=s.l.map cells) (y:=z) (H1:=H') (by kernel_rfl) hg (SG s.l) ⟨n,λk hk=>nL _ hk _ _ _ _ r1⟩ ?_ H
 rcases r2 with⟨h3,rfl⟩|⟨id,rfl,h4⟩
 .left;cases s <;> simp[Sl.k]at h3;exact⟨rfl,rfl⟩
 .right;exact⟨id,by simp[rows],h4⟩
end pastX
theorem L0 (t:Trace) (x:aa) (r:Sl (Sl Bool)) (h:j7 t x=some r):Sy.vX 110 [enc t,enc x]=some (enc r):=by
 unfold j7 at h;split at h
 .rename_i hok;obtain⟨s,hs,h⟩:=ζg.1 h;obtain⟨w,hw,h⟩:=ζg.1 h
  cases w with
  | n a=>exact Empty.elim a
  | r e=>exact Empty.elim e
  | x out=>
   cases h;exact xo (pastX.NT (by kernel_rfl) (pastX.WW t) hok hs hw)
 .cases h
end Go.VE
namespace Go.VE
noncomputable section
def pY:Option Bool:=some true
instance PJ:Fc Sy cL pY:=⟨9,[],λr:Bool=>[.bool r],true,kj.vX (by kernel_rfl) (by kernel_rfl) IP⟩
namespace dS
def aA (s0:Sl Event) (v7:Int) (v8:Int) (p1:Event->Option Bool):Option (Fw Int Unit Int):=
 au (decide (v8<v7))
 ((idx s0 v8).bind λx_1=>
 (p1 x_1).bind λx_2=>
 au x_2
 (some (.r v8))
 (some (.n (IntKind.wrap .i64 (v8+1)))))
 (some (.x ()))
def W1 (s0:Sl Event) (v7 v8:Int) (p1:Event->Option Bool):Option Int:=
 (aS (λq:Int=>aA s0 v7 q p1) v8).bind (Fw.elim
 (λe=>some (-1))
 (λe=>some e))
end dS
def dS (s0:Sl Event) (p1:Event->Option Bool):Option Int:=
 dS.W1 s0 (len s0) 0 p1
open dS in
abbrev sY (g1:FuncId) (e1:List V) (p1:Event->Option Bool) (h1:jo Sy cL g1 e1 (λz:Event=>[enc z]) (λr:Bool=>[.bool r]) p1) (s0:Sl Event):Fc Sy cL (dS s0 p1):=Fc.M 86 [enc s0,.clo g1 [] e1] (aU 9 s0 (bU 5 (λqW1=>(aL [Cv 0 s0,(1,.v (.clo g1 [] e1)),Iv 7 (len s0),Iv 8 qW1] [])) (λeW1=>(0,(aL [] []))) (λeW1=>(aL [Iv 4 eW1] [])) (λqW1=>aI 7 9 (aW 16 λx_1 _=>rW 1 h1.f x_1 λx_2 _=>aI 2 16 ai ai) ai) (λeW1=>ai) (λeW1=>ai))) (l:=by simp[h1.d])
def eY (s0:Sl Event) (p1:Event->Option Bool):Option Bool:=
 (dS s0 p1).bind λx_1=>
 some (decide (x_1>=0))
abbrev kG (g1:FuncId) (e1:List V) (p1:Event->Option Bool) (h1:jo Sy cL g1 e1 (λz:Event=>[enc z]) (λr:Bool=>[.bool r]) p1) (s0:Sl Event):Fc Sy cL (eY s0 p1):=Fc.M 40 [enc s0,.clo g1 [] e1] (aN (F:=sY g1 e1 p1 h1 s0) 9 λx_1 _=>ai) (l:=by simp[h1.d])
def oc (x0:Event):Option Bool:=
 some (decide ((len x0.assign)>12))
instance MV (x0:Event):Fc Sy cL (oc x0):=Fc.M 41 [enc x0] (cu 2 1 x0 (aU 7 x0.assign ai))
namespace eG
def aA (s0:Sl Var) (v7:Int) (v8:Int) (p1:Var->Option Bool):Option (Fw Int Unit Int):=
 au (decide (v8<v7))
 ((idx s0 v8).bind λx_1=>
 (p1 x_1).bind λx_2=>
 au x_2
 (some (.r v8))
 (some (.n (IntKind.wrap .i64 (v8+1)))))
 (some (.x ()))
def W1 (s0:Sl Var) (v7 v8:Int) (p1:Var->Option Bool):Option Int:=
 (aS (λq:Int=>aA s0 v7 q p1) v8).bind (Fw.elim
 (λe=>some (-1))
 (λe=>some e))
end eG
def eG (s0:Sl Var) (p1:Var->Option Bool):Option Int:=
 eG.W1 s0 (len s0) 0 p1
open eG in
abbrev uC (g1:FuncId) (e1:List V) (p1:Var->Option Bool) (h1:jo Sy cL g1 e1 (λz:Var=>[enc z]) (λr:Bool=>[.bool r]) p1) (s0:Sl Var):Fc Sy cL (eG s0 p1):=Fc.M 87 [enc s0,.clo g1 [] e1] (aU 9 s0 (bU 5 (λqW1=>(aL [Cv 0 s0,(1,.v (.clo g1 [] e1)),Iv 7 (len s0),Iv 8 qW1] [])) (λeW1=>(0,(aL [] []))) (λeW1=>(aL [Iv 4 eW1] [])) (λqW1=>aI 7 9 (aW 16 λx_1 _=>rW 1 h1.f x_1 λx_2 _=>aI 2 16 ai ai) ai) (λeW1=>ai) (λeW1=>ai))) (l:=by simp[h1.d])
def eD (s0:Sl Var) (p1:Var->Option Bool):Option Bool:=
 (eG s0 p1).bind λx_1=>
 some (decide (x_1>=0))
abbrev lU (g1:FuncId) (e1:List V) (p1:Var->Option Bool) (h1:jo Sy cL g1 e1 (λz:Var=>[enc z]) (λr:Bool=>[.bool r]) p1) (s0:Sl Var):Fc Sy cL (eD s0 p1):=Fc.M 42 [enc s0,.clo g1 [] e1] (aN (F:=uC g1 e1 p1 h1 s0) 9 λx_1 _=>ai) (l:=by simp[h1.d])
def oe (v0:Var):Option Bool:=
 some (decide (((ByteArray.size v0.name:Nat):Int)>40))
instance MW (v0:Var):Fc Sy cL (oe v0):=Fc.M 43 [enc v0] (ai)
namespace gP
def aA (most1:Int) (v9:Sl bG) (v10:Int) (tb2:Trace) (n5 v11:Int):Option (Fw (Int×Int) Unit Unit):=
 au (decide (v11<v10))
 ((idx v9 v11).bind λx_1=>
 (au (decide ((IntKind.wrap .i64 (n5+(len x_1.events)))>most1))
 (some true)
 (some (decide ((len x_1.vars)>12))):Option Bool).bind λx_2=>
 (au x_2
 (some true)
 (some (decide (((ByteArray.size x_1.name:Nat):Int)>40))):Option Bool).bind λx_3=>
 (au x_3
 (some true)
 ((eY x_1.events (λz=>oc z)).bind λx_4=>
 some x_4):Option Bool).bind λx_5=>
 (au x_5
 (some true)
 ((eD x_1.vars (λz=>oe z)).bind λx_6=>
 some x_6):Option Bool).bind λx_7=>
 au x_7
 (some (.r ()))
 (some (.n (IntKind.wrap .i64 (n5+(len x_1.events)),IntKind.wrap .i64 (v11+1)))))
 (some (.x ()))
def W1 (most1 n5:Int) (v9:Sl bG) (v10 v11:Int) (tb2:Trace):Option Bool:=
 (aS (λq:Int×Int=>aA most1 v9 v10 tb2 q.1 q.2) (n5,v11)).bind (Fw.elim
 (λe=>some (decide ((len tb2.procs)<=10)))
 (λe=>some false))
end gP
def gP (t0:Trace) (most1:Int):Option Bool:=
 gP.W1 most1 0 t0.procs (len t0.procs) 0 t0
open gP in
instance VI (t0:Trace) (most1:Int):Fc Sy cL (gP t0 most1):=Fc.M 10 [enc t0,.int .i64 most1] (cu 2 2 t0 (aU 13 t0.procs (bU 5 (λqW1=>(aL [Iv 1 most1,Pv 2,Iv 5 qW1.1,Cv 9 t0.procs,Iv 10 (len t0.procs),Iv 11 qW1.2] [Xb 2 t0])) (λeW1=>(0,(aL [Pv 2] [Xb 2 t0]))) (λeW1=>(aL [Bv 4 false] [])) (λqW1=>aI 7 12 (aW 7 λx_1 _=>oE 2 7 0 x_1 (aU 7 x_1.events (aY 10 5 [23] 28 (aI 10 23 (aH 5) (aU 2 x_1.vars (aH 2))) λx_2=>aY 1 5 [29] 34 (aI 1 29 (aH 5) (aH 5)) λx_3=>aY 1 4 [35] 39 (aI 1 35 (aH 4) (aN (F:=kG 41 [] (λz=>oc z) jo.rT x_1.events) 2 λx_4 _=>aH 1)) λx_5=>aY 1 4 [7,40] 44 (aI 1 40 (aH 4) (aN (F:=lU 43 [] (λz=>oe z) jo.rT x_1.vars) 2 λx_6 _=>aH 1)) λx_7=>aI 2 44 ai ai))) ai) (λeW1=>aU 6 t0.procs ai) (λeW1=>ai))))
namespace dU
def aA (s0:Sl (Sl (Sl Int))) (v7:Int) (v8:Int) (p1:(Sl (Sl Int))->Option Bool):Option (Fw Int Unit Int):=
 au (decide (v8<v7))
 ((idx s0 v8).bind λx_1=>
 (p1 x_1).bind λx_2=>
 au x_2
 (some (.r v8))
 (some (.n (IntKind.wrap .i64 (v8+1)))))
 (some (.x ()))
def W1 (s0:Sl (Sl (Sl Int))) (v7 v8:Int) (p1:(Sl (Sl Int))->Option Bool):Option Int:=
 (aS (λq:Int=>aA s0 v7 q p1) v8).bind (Fw.elim
 (λe=>some (-1))
 (λe=>some e))
end dU
def dU (s0:Sl (Sl (Sl Int))) (p1:(Sl (Sl Int))->Option Bool):Option Int:=
 dU.W1 s0 (len s0) 0 p1
open dU in
abbrev s7 (g1:FuncId) (e1:List V) (p1:(Sl (Sl Int))->Option Bool) (h1:jo Sy cL g1 e1 (λz:Sl (Sl Int)=>[enc z]) (λr:Bool=>[.bool r]) p1) (s0:Sl (Sl (Sl Int))):Fc Sy cL (dU s0 p1):=Fc.M 88 [enc s0,.clo g1 [] e1] (aU 9 s0 (bU 5 (λqW1=>(aL [Cv 0 s0,(1,.v (.clo g1 [] e1)),Iv 7 (len s0),Iv 8 qW1] [])) (λeW1=>(0,(aL [] []))) (λeW1=>(aL [Iv 4 eW1] [])) (λqW1=>aI 7 9 (aW 16 λx_1 _=>rW 1 h1.f x_1 λx_2 _=>aI 2 16 ai ai) ai) (λeW1=>ai) (λeW1=>ai))) (l:=by simp[h1.d])
def gG (s0:Sl (Sl (Sl Int))) (p1:(Sl (Sl Int))->Option Bool):Option Bool:=
 (dU s0 p1).bind λx_1=>
 some (decide (x_1>=0))
abbrev rj (g1:FuncId) (e1:List V) (p1:(Sl (Sl Int))->Option Bool) (h1:jo Sy cL g1 e1 (λz:Sl (Sl Int)=>[enc z]) (λr:Bool=>[.bool r]) p1) (s0:Sl (Sl (Sl Int))):Fc Sy cL (gG s0 p1):=Fc.M 44 [enc s0,.clo g1 [] e1] (aN (F:=s7 g1 e1 p1 h1 s0) 9 λx_1 _=>ai) (l:=by simp[h1.d])
namespace dZ
def aA (s0:Sl (Sl Int)) (v7:Int) (v8:Int) (p1:(Sl Int)->Option Bool):Option (Fw Int Unit Int):=
 au (decide (v8<v7))
 ((idx s0 v8).bind λx_1=>
 (p1 x_1).bind λx_2=>
 au x_2
 (some (.r v8))
 (some (.n (IntKind.wrap .i64 (v8+1)))))
 (some (.x ()))
def W1 (s0:Sl (Sl Int)) (v7 v8:Int) (p1:(Sl Int)->Option Bool):Option Int:=
 (aS (λq:Int=>aA s0 v7 q p1) v8).bind (Fw.elim
 (λe=>some (-1))
 (λe=>some e))
end dZ
def dZ (s0:Sl (Sl Int)) (p1:(Sl Int)->Option Bool):Option Int:=
 dZ.W1 s0 (len s0) 0 p1
open dZ in
abbrev tI (g1:FuncId) (e1:List V) (p1:(Sl Int)->Option Bool) (h1:jo Sy cL g1 e1 (λz:Sl Int=>[enc z]) (λr:Bool=>[.bool r]) p1) (s0:Sl (Sl Int)):Fc Sy cL (dZ s0 p1):=Fc.M 80 [enc s0,.clo g1 [] e1] (aU 9 s0 (bU 5 (λqW1=>(aL [Cv 0 s0,(1,.v (.clo g1 [] e1)),Iv 7 (len s0),Iv 8 qW1] [])) (λeW1=>(0,(aL [] []))) (λeW1=>(aL [Iv 4 eW1] [])) (λqW1=>aI 7 9 (aW 16 λx_1 _=>rW 1 h1.f x_1 λx_2 _=>aI 2 16 ai ai) ai) (λeW1=>ai) (λeW1=>ai))) (l:=by simp[h1.d])
def fB (s0:Sl (Sl Int)) (p1:(Sl Int)->Option Bool):Option Bool:=
 (dZ s0 p1).bind λx_1=>
 some (decide (x_1>=0))
abbrev lu (g1:FuncId) (e1:List V) (p1:(Sl Int)->Option Bool) (h1:jo Sy cL g1 e1 (λz:Sl Int=>[enc z]) (λr:Bool=>[.bool r]) p1) (s0:Sl (Sl Int)):Fc Sy cL (fB s0 p1):=Fc.M 35 [enc s0,.clo g1 [] e1] (aN (F:=tI g1 e1 p1 h1 s0) 9 λx_1 _=>ai) (l:=by simp[h1.d])
def lZ (c0:Sl Int):Option Bool:=
 some (decide ((len c0)>12))
instance JX (c0:Sl Int):Fc Sy cL (lZ c0):=Fc.M 69 [enc c0] (aU 8 c0 ai)
def pR (l0:Sl (Sl Int)):Option Bool:=
 (au (decide ((len l0)<=60))
 ((fB l0 (λz=>lZ z)).bind λx_1=>
 some (!x_1))
 (some false):Option Bool).bind λx_2=>
 some x_2
instance NN (l0:Sl (Sl Int)):Fc Sy cL (pR l0):=Fc.M 25 [enc l0] (aU 8 l0 (aY 2 4 [0,6] 10 (aI 2 6 (aN (F:=lu 69 [] (λz=>lZ z) jo.rT l0) 1 λx_1 _=>aH 2) (aH 4)) λx_2=>ai))
def gR (l0:Sl (Sl Int)):Option Bool:=
 (pR l0).bind λx_1=>
 some (!x_1)
instance JZ (l0:Sl (Sl Int)):Fc Sy cL (gR l0):=Fc.M 45 [enc l0] (aN 8 λx_1 _=>ai)
def pI (s0:Slice):Option Bool:=
 (au (decide ((len s0.first)<=12))
 (some (decide ((len s0.last)<=12)))
 (some false):Option Bool).bind λx_1=>
 (au x_1
 (some (decide ((len s0.j)<=12)))
 (some false):Option Bool).bind λx_2=>
 (au x_2
 ((gG s0.j (λz=>gR z)).bind λx_3=>
 some (!x_3))
 (some false):Option Bool).bind λx_4=>
 some x_4
instance Pp (s0:Slice):Fc Sy cL (pI s0):=Fc.M 11 [enc s0] (cu 2 1 s0 (aU 7 s0.first (aY 2 5 [7] 12 (aI 2 7 (aU 2 s0.last (aH 2)) (aH 5)) λx_1=>aY 1 5 [13] 18 (aI 1 13 (aU 2 s0.j (aH 2)) (aH 5)) λx_2=>aY 1 5 [1,19] 24 (aI 1 19 (aN (F:=rj 45 [] (λz=>gR z) jo.rT s0.j) 2 λx_3 _=>aH 2) (aH 5)) λx_4=>ai)))
def lg (c0:Int):Option Bool:=
 (au (decide (c0>=65))
 (some (decide (c0<=90)))
 (some false):Option Bool).bind λx_1=>
 (au x_1
 (some true)
 ((au (decide (c0>=97))
 (some (decide (c0<=122)))
 (some false):Option Bool).bind λx_2=>
 some x_2):Option Bool).bind λx_3=>
 some x_3
instance MC (c0:Int):Fc Sy cL (lg c0):=Fc.M 164 [.int .u8 c0] (aY 10 3 [5] 8 (aI 10 5 (aH 3) (aH 3)) λx_1=>aY 1 7 [0,9] 16 (aI 1 9 (aH 7) (aY 3 3 [0,12] 15 (aI 3 12 (aH 3) (aH 3)) λx_2=>aH 1)) λx_3=>ai)
def o9 (c0:Int):Option Bool:=
 (au (decide (c0>=48))
 (some (decide (c0<=57)))
 (some false):Option Bool).bind λx_1=>
 some x_1
instance Qb (c0:Int):Fc Sy cL (o9 c0):=Fc.M 165 [.int .u8 c0] (aY 10 3 [0,5] 8 (aI 10 5 (aH 3) (aH 3)) λx_1=>ai)
namespace eU
def aA (s0:ByteArray) (i3:Int):Option (Fw Int Unit Unit):=
 au (decide (i3<((ByteArray.size s0:Nat):Int)))
 ((iq s0 i3).bind λx_5=>
 (lg x_5).bind λx_6=>
 (au x_6
 (some false)
 ((iq s0 i3).bind λx_7=>
 (o9 x_7).bind λx_8=>
 some (!x_8)):Option Bool).bind λx_9=>
 (au x_9
 ((iq s0 i3).bind λx_10=>
 some (!(x_10==95)))
 (some false):Option Bool).bind λx_11=>
 au x_11
 (some (.r ()))
 (some (.n (IntKind.wrap .i64 (i3+1)))))
 (some (.x ()))
def W1 (s0:ByteArray) (i3:Int):Option Bool:=
 (aS (λq:Int=>aA s0 q) i3).bind (Fw.elim
 (λe=>some true)
 (λe=>some false))
end eU
def eU (s0:ByteArray):Option Bool:=
 (au (decide (((ByteArray.size s0:Nat):Int)<1))
 (some true)
 (some (decide (((ByteArray.size s0:Nat):Int)>16))):Option Bool).bind λx_1=>
 (au x_1
 (some true)
 ((iq s0 0).bind λx_2=>
 (lg x_2).bind λx_3=>
 some (!x_3)):Option Bool).bind λx_4=>
 au x_4
 (some false)
 (eU.W1 s0 1)
open eU in
instance RE (s0:ByteArray):Fc Sy cL (eU s0):=Fc.M 128 [.str s0] (aY 12 4 [7] 11 (aI 12 7 (aH 4) (aH 4)) λx_1=>aY 1 5 [12] 17 (aI 1 12 (aH 5) (xy 1 .i64 λx_2 _=>aN 0 λx_3 _=>aH 2)) λx_4=>aI 2 17 ai (bU 11 (λqW1=>(aL [(0,.v (.str s0)),Iv 3 qW1] [])) (λeW1=>(0,(aL [] []))) (λeW1=>(aL [Bv 2 false] [])) (λqW1=>aI 10 21 (xy 9 .i64 λx_5 _=>aN 0 λx_6 _=>aY 2 6 [29] 35 (cq 2 29 (aH 6) (xy 2 .i64 λx_7 _=>aN 0 λx_8 _=>aH 2)) λx_9=>aY 1 5 [36] 41 (aI 1 36 (xy 2 .i64 λx_10 _=>aH 2) (aH 5)) λx_11=>aI 2 41 ai ai) ai) (λeW1=>ai) (λeW1=>ai)))
def mA (n0:Int):Option Bool:=
 (au (decide (n0>=(-1073741824)))
 (some (decide (n0<=1073741824)))
 (some false):Option Bool).bind λx_1=>
 some x_1
instance PT (n0:Int):Fc Sy cL (mA n0):=Fc.M 129 [.int .i64 n0] (aY 10 3 [0,5] 8 (aI 10 5 (aH 3) (aH 3)) λx_1=>ai)
namespace cF
def dG (i7:Int) (xb5:bG) (j8:Int):Option (Fw Int Unit Unit):=
 au (decide (j8<i7))
 ((idx xb5.vars j8).bind λx_6=>
 (idx xb5.vars i7).bind λx_7=>
 au (ByteArray.toList x_6.name==ByteArray.toList x_7.name)
 (some (.r ()))
 (some (.n (IntKind.wrap .i64 (j8+1)))))
 (some (.x ()))
def W3 (i7 j8:Int) (xb5:bG):Option (Fw Int Unit Int):=
 (aS (λq:Int=>dG i7 xb5 q) j8).bind (Fw.elim
 (λe=>(idx xb5.vars i7).bind λx_8=>
 (mA x_8.init_).bind λx_9=>
 au x_9
 (some (.n (IntKind.wrap .i64 (i7+1))))
 (some (.r 2)))
 (λe=>some (.r 13)))
def bf (xb5:bG) (i7:Int):Option (Fw Int Unit Int):=
 au (decide (i7<(len xb5.vars)))
 ((idx xb5.vars i7).bind λx_4=>
 (eU x_4.name).bind λx_5=>
 au x_5
 (W3 i7 0 xb5)
 (some (.r 13)))
 (some (.x ()))
def W2 (i7:Int) (xb5:bG):Option Int:=
 (aS (λq:Int=>bf xb5 q) i7).bind (Fw.elim
 (λe=>au (decide ((len xb5.events)>64))
 (some 5)
 (some 0))
 (λe=>some e))
def aA (p1:Int) (tb2:Trace) (xb5:bG) (i6:Int):Option (Fw Int Unit Unit):=
 au (decide (i6<p1))
 ((idx tb2.procs i6).bind λx_3=>
 au (ByteArray.toList x_3.name==ByteArray.toList xb5.name)
 (some (.r ()))
 (some (.n (IntKind.wrap .i64 (i6+1)))))
 (some (.x ()))
def W1 (p1 i6:Int) (tb2:Trace) (xb5:bG):Option Int:=
 (aS (λq:Int=>aA p1 tb2 xb5 q) i6).bind (Fw.elim
 (λe=>au (decide ((len xb5.vars)>8))
 (some 5)
 (cF.W2 0 xb5))
 (λe=>some 13))
end cF
def cF (t0:Trace) (p1:Int):Option Int:=
 (idx t0.procs p1).bind λx_1=>
 (eU x_1.name).bind λx_2=>
 au x_2
 (cF.W1 p1 0 t0 x_1)
 (some 13)
open cF in
instance RD (t0:Trace) (p1:Int):Fc Sy cL (cF t0 p1):=Fc.M 106 [enc t0,.int .i64 p1] (cu 2 2 t0 (aW 8 λx_1 _=>oE 2 5 0 x_1 (aN 7 λx_2 _=>cq 3 17 (bU 11 (λqW1=>(aL [Iv 1 p1,Pv 2,Pv 5,Iv 6 qW1] [Xb 2 t0,Xb 5 x_1])) (λeW1=>(0,(aL [Pv 5] [Xb 5 x_1]))) (λeW1=>(aL [Iv 4 13] [])) (λqW1=>aI 9 20 (aW 10 λx_3 _=>aI 7 31 ai ai) ai) (λeW1=>aU 7 x_1.vars (aI 3 35 ai (bU 11 (λqW2=>(aL [Pv 5,Iv 7 qW2] [Xb 5 x_1])) (λeW2=>(2,(aL [Pv 5] [Xb 5 x_1]))) (λeW2=>(aL [Iv 4 eW2] [])) (λqW2=>aU 7 x_1.vars (aI 3 40 (aW 11 λx_4 _=>aN 2 λx_5 _=>cq 3 50 (bU 11 (λqW3=>(aL [Pv 5,Iv 7 qW2,Iv 8 qW3] [Xb 5 x_1])) (λeW3=>(4,(aL [Pv 5,Iv 7 qW2] [Xb 5 x_1]))) (λeW3=>(aL [Iv 4 13] [])) (λqW3=>aI 9 53 (aW 10 λx_6 _=>aW 5 λx_7 _=>aI 5 68 ai ai) ai) (λeW3=>aW 7 λx_8 _=>aN 2 λx_9 _=>cq 3 76 ai ai) (λeW3=>ai)) ai) ai)) (λeW2=>aU 7 x_1.events (aI 3 80 ai ai)) (λeW2=>ai)))) (λeW1=>ai)) ai)))
namespace cH
def dG (p1 k8:Int) (tb3:Trace) (xb7:Event) (ab9:Assign) (j10:Int):Option (Fw Int Unit Unit):=
 au (decide (j10<k8))
 ((idx xb7.assign j10).bind λx_20=>
 au (x_20.var==ab9.var)
 (some (.r ()))
 (some (.n (IntKind.wrap .i64 (j10+1)))))
 (some (.x ()))
def W3 (p1 k8 j10:Int) (tb3:Trace) (xb7:Event) (ab9:Assign):Option (Fw Int Unit Int):=
 (aS (λq:Int=>dG p1 k8 tb3 xb7 ab9 q) j10).bind (Fw.elim
 (λe=>some (.n (IntKind.wrap .i64 (k8+1))))
 (λe=>some (.r 8)))
def bf (p1:Int) (tb3:Trace) (xb7:Event) (k8:Int):Option (Fw Int Unit Int):=
 au (decide (k8<(len xb7.assign)))
 ((idx xb7.assign k8).bind λx_15=>
 (au (decide (x_15.var<0))
 (some true)
 ((idx tb3.procs p1).bind λx_16=>
 some (decide (x_15.var>=(len x_16.vars)))):Option Bool).bind λx_17=>
 (au x_17
 (some true)
 ((mA x_15.value).bind λx_18=>
 some (!x_18)):Option Bool).bind λx_19=>
 au x_19
 (some (.r 2))
 (W3 p1 k8 0 tb3 xb7 x_15))
 (some (.x ()))
def W2 (p1 k8:Int) (tb3:Trace) (xb7:Event):Option Int:=
 (aS (λq:Int=>bf p1 tb3 xb7 q) k8).bind (Fw.elim
 (λe=>some 0)
 (λe=>some e))
def J1 (p1 i2:Int) (tb3:Trace) (xb7:Event):Option Int:=
 (au (decide (xb7.time<0))
 (some true)
 (some (decide (xb7.time>1099511627776))):Option Bool).bind λx_10=>
 (au x_10
 (some true)
 ((au (decide (i2>0))
 ((idx tb3.procs p1).bind λx_11=>
 (idx x_11.events (IntKind.wrap .i64 (i2-1))).bind λx_12=>
 some (decide (xb7.time<x_12.time)))
 (some false):Option Bool).bind λx_13=>
 some x_13):Option Bool).bind λx_14=>
 au x_14
 (some 11)
 (au (decide ((len xb7.assign)>8))
 (some 5)
 (cH.W2 p1 0 tb3 xb7))
theorem tZ (p1 i2:Int) (tb3:Trace) (xb7:Event):Le ((J1 p1 i2 tb3 xb7).bind (λr=>some [.int .i64 r])) (bE Sy cL (oh (tr Tx 107)) (rO (tb Tx 107) [1,1,1,0] [] (aL [Iv 1 p1,Iv 2 i2,Pv 3,Pv 7] [Xb 3 tb3,Xb 7 xb7]))):=
 aY 7 4 [71] 75 (aI 7 71 (aH 4) (aH 4)) λx_10=>aY 1 19 [2,76] 95 (aI 1 76 (aH 19) (aY 3 15 [2,79] 94 (aI 3 79 (aW 5 λx_11 _=>aW 4 λx_12 _=>aH 4) (aH 15)) λx_13=>aH 1)) λx_14=>aI 2 95 ai (aU 8 xb7.assign (aI 3 99 ai (bU 11 (λqW2=>(aL [Iv 1 p1,Pv 3,Pv 7,Iv 8 qW2] [Xb 3 tb3,Xb 7 xb7])) (λeW2=>(0,(aL [] []))) (λeW2=>(aL [Iv 6 eW2] [])) (λqW2=>aU 7 xb7.assign (aI 3 104 (aW 10 λx_15 _=>aY 12 11 [115] 126 (aI 12 115 (aH 11) (aW 5 λx_16 _=>aU 2 x_16.vars (aH 2))) λx_17=>XI 1 5 [130] (λx_19=>(aL [Iv 1 p1,Pv 3,Pv 7,Iv 8 qW2,Bv 104 true,Pv 9,Bv 132 x_19] [Xb 3 tb3,Xb 7 xb7,Xb 9 x_15])) (aI 1 127 (aH 5) (iW 2 λx_18 _=>aH 2)) λx_19=>aI 2 132 ai (bU 10 (λqW3=>(aL [Iv 1 p1,Pv 3,Pv 7,Iv 8 qW2,Pv 9,Iv 10 qW3] [Xb 3 tb3,Xb 7 xb7,Xb 9 x_15])) (λeW3=>(2,(aL [Iv 1 p1,Pv 3,Pv 7,Iv 8 qW2] [Xb 3 tb3,Xb 7 xb7]))) (λeW3=>(aL [Iv 6 8] [])) (λqW3=>aI 9 135 (aW 10 λx_20 _=>aI 7 146 ai ai) ai) (λeW3=>ai) (λeW3=>ai))) ai)) (λeW2=>ai) (λeW2=>ai))))
end cH
def cH (t0:Trace) (p1 i2:Int):Option Int:=
 (idx t0.procs p1).bind λx_1=>
 (idx x_1.events i2).bind λx_2=>
 au (x_2.kind==1)
 ((au (x_2.peer==0)
 (some (!(x_2.message==0)))
 (some true):Option Bool).bind λx_3=>
 au x_3
 (some 3)
 (cH.J1 p1 i2 t0 x_2))
 ((au (x_2.kind==2)
 (some false)
 (some (!(x_2.kind==3))):Option Bool).bind λx_4=>
 (au x_4
 (some true)
 (some (decide (x_2.peer<0))):Option Bool).bind λx_5=>
 (au x_5
 (some true)
 (some (decide (x_2.peer>=(len t0.procs)))):Option Bool).bind λx_6=>
 (au x_6
 (some true)
 (some (x_2.peer==p1)):Option Bool).bind λx_7=>
 (au x_7
 (some true)
 (some (decide (x_2.message<0))):Option Bool).bind λx_8=>
 (au x_8
 (some true)
 (some (decide (x_2.message>199))):Option Bool).bind λx_9=>
 au x_9
 (some 3)
 (cH.J1 p1 i2 t0 x_2))
open cH in
instance RA (t0:Trace) (p1 i2:Int):Fc Sy cL (cH t0 p1 i2):=Fc.M 107 [enc t0,.int .i64 p1,.int .i64 i2] (cu 2 3 t0 (aW 8 λx_1 _=>aW 3 λx_2 _=>oE 2 7 0 x_2 (aI 10 22 (aY 7 4 [26] 30 (cq 7 26 (aH 4) (aH 4)) λx_3=>aI 2 30 ai (A2 4 (tZ p1 i2 t0 x_2))) (aY 7 4 [34] 38 (cq 7 34 (aH 4) (aH 4)) λx_4=>aY 1 4 [39] 43 (aI 1 39 (aH 4) (aH 4)) λx_5=>aY 1 7 [44] 51 (aI 1 44 (aH 7) (aU 4 t0.procs (aH 2))) λx_6=>aY 1 5 [52] 57 (aI 1 52 (aH 5) (aH 5)) λx_7=>aY 1 4 [58] 62 (aI 1 58 (aH 4) (aH 4)) λx_8=>aY 1 4 [63] 67 (aI 1 63 (aH 4) (aH 4)) λx_9=>aI 2 67 ai (A2 4 (tZ p1 i2 t0 x_2))))))
namespace fF
def aA (tb2:Trace) (xb3:aa) (eb5:Event) (sent6:Bool) (i7:Int):Option (Fw (Bool×Int) Bool Empty):=
 (idx tb2.procs eb5.peer).bind λx_3=>
 au (decide (i7<(len x_3.events)))
 ((idx tb2.procs eb5.peer).bind λx_4=>
 (idx x_4.events i7).bind λx_5=>
 (au sent6
 (some true)
 ((au (x_5.kind==2)
 (some (x_5.message==eb5.message))
 (some false):Option Bool).bind λx_6=>
 (au x_6
 (some (x_5.peer==xb3.proc))
 (some false):Option Bool).bind λx_7=>
 some x_7):Option Bool).bind λx_8=>
 some (.n (x_8,IntKind.wrap .i64 (i7+1))))
 (some (.x sent6))
def W1 (sent6:Bool) (i7:Int) (tb2:Trace) (xb3:aa) (eb5:Event):Option Int:=
 (aS (λq:Bool×Int=>aA tb2 xb3 eb5 q.1 q.2) (sent6,i7)).bind (Fw.elim
 (λe=>au e
 (some 0)
 (some 7))
 (λe=>Empty.elim e))
end fF
def fF (t0:Trace) (x1:aa):Option Int:=
 (rF t0 x1).bind λx_1=>
 au (x_1.kind==1)
 (some 0)
 ((ct t0 x_1.kind x_1.message).bind λx_2=>
 au (Fz x_2 x1)
 (au (x_1.kind==3)
 (fF.W1 false 0 t0 x1 x_1)
 (some 0))
 (some 8))
open fF in
instance MQ (t0:Trace) (x1:aa):Fc Sy cL (fF t0 x1):=Fc.M 108 [enc t0,enc x1] (cu 2 2 t0 (aN 8 λx_1 _=>oE 1 5 0 x_1 (aI 10 14 ai (iW 11 λx_2 _=>cq 4 22 (aI 11 25 (mh 14 (λqW1=>(aL [Pv 2,Pv 3,Pv 5,Bv 6 qW1.1,Iv 7 qW1.2] [Xb 2 t0,Xb 3 x1,Xb 5 x_1])) (λeW1=>(0,(aL [Bv 6 eW1] []))) (λqW1=>aW 9 λx_3 _=>aU 2 x_3.events (aI 3 35 (aW 11 λx_4 _=>aW 3 λx_5 _=>oE 2 8 0 x_5 (aY 5 18 [8,49] 67 (aI 5 49 (aH 18) (aY 4 6 [53] 59 (aI 4 53 (aH 6) (aH 6)) λx_6=>aY 1 6 [8,60] 66 (aI 1 60 (aH 6) (aH 6)) λx_7=>aH 1)) λx_8=>ai)) ai)) (λeW1=>cq 8 69 ai ai)) ai) ai))))
namespace bQ
def J4 (done3:Sl Int) (p5:Int) (tb1:Trace):Option (Fw ((Sl Int)×Bool) ((Sl Int)×Bool) Empty):=
 (Sl.mj done3 p5).bind λx_12=>
 (Sl.get done3 x_12).bind λx_13=>
 (Sl.mj done3 p5).bind λx_14=>
 (Sl.put done3 x_14 (IntKind.wrap .i64 (x_13+1):Int)).bind λx_15=>
 some (.n (x_15,true))
def dG (p5:Int) (tb1:Trace) (done3:Sl Int) (moved4:Bool):Option (Fw ((Sl Int)×Bool) ((Sl Int)×Bool) Empty):=
 (Sl.mj done3 p5).bind λx_2=>
 (Sl.get done3 x_2).bind λx_3=>
 (idx tb1.procs p5).bind λx_4=>
 au (decide (x_3<(len x_4.events)))
 ((idx tb1.procs p5).bind λx_5=>
 (Sl.mj done3 p5).bind λx_6=>
 (Sl.get done3 x_6).bind λx_7=>
 (idx x_5.events x_7).bind λx_8=>
 au (x_8.kind==3)
 ((ct tb1 2 x_8.message).bind λx_9=>
 (Sl.mj done3 x_9.proc).bind λx_10=>
 (Sl.get done3 x_10).bind λx_11=>
 au (decide (x_11<x_9.index))
 (some (.x (done3,moved4)))
 (J4 done3 p5 tb1))
 (J4 done3 p5 tb1))
 (some (.x (done3,moved4)))
def W3 (done3:Sl Int) (moved4:Bool) (p5:Int) (tb1:Trace):Option (Fw ((Sl Int)×Bool×Int) ((Sl Int)×Bool) Empty):=
 (aS (λq:(Sl Int)×Bool=>dG p5 tb1 q.1 q.2) (done3,moved4)).bind (Fw.elim
 (λe=>some (.n (e.1,e.2,IntKind.wrap .i64 (p5+1))))
 (λe=>Empty.elim e))
def bf (tb1:Trace) (done3:Sl Int) (moved4:Bool) (p5:Int):Option (Fw ((Sl Int)×Bool×Int) ((Sl Int)×Bool) Empty):=
 au (decide (p5<(len tb1.procs)))
 (W3 done3 moved4 p5 tb1)
 (some (.x (done3,moved4)))
def W2 (done3:Sl Int) (moved4:Bool) (p5:Int) (tb1:Trace):Option (Fw (Sl Int) (Sl Int) Empty):=
 (aS (λq:(Sl Int)×Bool×Int=>bf tb1 q.1 q.2.1 q.2.2) (done3,moved4,p5)).bind (Fw.elim
 (λe=>au e.2
 (some (.n e.1))
 (some (.x e.1)))
 (λe=>Empty.elim e))
def uO (done3:Sl Int) (tb1:Trace) (p8:Int):Option (Fw Int Unit Unit):=
 au (decide (p8<(len tb1.procs)))
 ((Sl.mj done3 p8).bind λx_16=>
 (Sl.get done3 x_16).bind λx_17=>
 (idx tb1.procs p8).bind λx_18=>
 au (decide (x_17<(len x_18.events)))
 (some (.r ()))
 (some (.n (IntKind.wrap .i64 (p8+1)))))
 (some (.x ()))
def W5 (done3:Sl Int) (p8:Int) (tb1:Trace):Option Bool:=
 (aS (λq:Int=>uO done3 tb1 q) p8).bind (Fw.elim
 (λe=>some true)
 (λe=>some false))
def aA (tb1:Trace) (done3:Sl Int):Option (Fw (Sl Int) (Sl Int) Empty):=
 W2 done3 false 0 tb1
def W1 (done3:Sl Int) (tb1:Trace):Option Bool:=
 (aS (λq:Sl Int=>aA tb1 q) done3).bind (Fw.elim
 (λe=>bQ.W5 e 0 tb1)
 (λe=>Empty.elim e))
end bQ
def bQ (t0:Trace):Option Bool:=
 (tj (len t0.procs) (0:Int)).bind λx_1=>
 bQ.W1 x_1 t0
open bQ in
instance K_ (t0:Trace):Fc Sy cL (bQ t0):=Fc.M 109 [enc t0] (cu 2 1 t0 (aU 7 t0.procs (Yf 0 12 λx_1 _=>mh 7 (λqW1=>(aL [Pv 1,Ov 3] [Xb 1 t0,Lb 2003 qW1])) (λeW1=>(0,(aL [Pv 1,Ov 3] [Xb 1 t0,Lb 2003 eW1]))) (λqW1=>mh 17 (λqW2=>(aL [Pv 1,Ov 3,Bv 4 qW2.2.1,Iv 5 qW2.2.2] [Xb 1 t0,Lb 2003 qW2.1])) (λeW2=>(2,(aL [Pv 1,Ov 3,Bv 4 eW2.2] [Xb 1 t0,Lb 2003 eW2.1]))) (λqW2=>aU 8 t0.procs (aI 3 17 (mh 8 (λqW3=>(aL [Pv 1,Ov 3,Bv 4 qW3.2,Iv 5 qW2.2.2] [Xb 1 t0,Lb 2003 qW3.1])) (λeW3=>(4,(aL [Pv 1,Ov 3,Bv 4 eW3.2,Iv 5 qW2.2.2] [Xb 1 t0,Lb 2003 eW3.1]))) (λqW3=>pX .i64 7 2003 λx_2 _=>s9 0 2003 0 1 false (λx_3=>.int .i64 x_3) λx_3 _=>aW 3 λx_4 _=>aU 2 x_4.events (aI 3 31 (aW 9 λx_5 _=>pX .i64 4 2003 λx_6 _=>s9 0 2003 0 1 false (λx_7=>.int .i64 x_7) λx_7 _=>aW 0 λx_8 _=>oE 2 6 0 x_8 (aI 10 46 (aN 6 λx_9 _=>pX .i64 9 2003 λx_10 _=>s9 0 2003 0 1 false (λx_11=>.int .i64 x_11) λx_11 _=>aI 5 58 ai (Ba 5 (pX .i64 4 2003 λx_12 _=>s9 0 2003 0 1 false (λx_13=>.int .i64 x_13) λx_13 _=>pX .i64 1 2003 λx_14 _=>Mt 0 2003 (.int .i64 (IntKind.wrap .i64 (x_13+1))) λx_15 _=>ai))) (Ba 5 (pX .i64 4 2003 λx_12 _=>s9 0 2003 0 1 false (λx_13=>.int .i64 x_13) λx_13 _=>pX .i64 1 2003 λx_14 _=>Mt 0 2003 (.int .i64 (IntKind.wrap .i64 (x_13+1))) λx_15 _=>ai)))) ai)) (λeW3=>ai)) ai)) (λeW2=>cq 8 66 ai ai)) (λeW1=>bU 11 (λqW5=>(aL [Pv 1,Ov 3,Iv 8 qW5] [Xb 1 t0,Lb 2003 eW1])) (λeW5=>(6,(aL [] []))) (λeW5=>(aL [Bv 2 false] [])) (λqW5=>aU 8 t0.procs (aI 3 71 (pX .i64 9 2003 λx_16 _=>s9 0 2003 0 1 false (λx_17=>.int .i64 x_17) λx_17 _=>aW 3 λx_18 _=>aU 2 x_18.events (aI 3 85 ai ai)) ai)) (λeW5=>ai) (λeW5=>ai)))))
instance RG (t:Trace) (x:aa):Fc Sy cL (j7 t x):=Fc.of (A:=λz:Trace×aa=>[enc z.1,enc z.2]) (E:=λr:Sl (Sl Bool)=>[enc r]) (p:=λz=>j7 z.1 z.2) (n:=110) (z:=(t,x)) (kj.TV (by kernel_rfl) (by kernel_rfl) (λz r hr=>L0 z.1 z.2 r hr))
namespace bM
def dG (p6:Int) (tb1:Trace) (vb2:aa) (i7:Int):Option (Fw Int Unit (Int×aa)):=
 (idx tb1.procs p6).bind λx_3=>
 au (decide (i7<(len x_3.events)))
 ((cH tb1 p6 i7).bind λx_4=>
 au (x_4==0)
 (some (.n (IntKind.wrap .i64 (i7+1))))
 (some (.r (x_4,(⟨p6,IntKind.wrap .i64 (i7+1)⟩:aa)))))
 (some (.x ()))
def W3 (p6 i7:Int) (tb1:Trace) (vb2:aa):Option (Fw Int Unit (Int×aa)):=
 (aS (λq:Int=>dG p6 tb1 vb2 q) i7).bind (Fw.elim
 (λe=>some (.n (IntKind.wrap .i64 (p6+1))))
 (λe=>some (.r (e.1,e.2))))
def uO (p9:Int) (tb1:Trace) (vb2:aa) (i10:Int):Option (Fw Int Unit (Int×aa)):=
 (idx tb1.procs p9).bind λx_5=>
 au (decide (i10<(len x_5.events)))
 ((fF tb1 (⟨p9,IntKind.wrap .i64 (i10+1)⟩:aa)).bind λx_6=>
 au (x_6==0)
 (some (.n (IntKind.wrap .i64 (i10+1))))
 (some (.r (x_6,(⟨p9,IntKind.wrap .i64 (i10+1)⟩:aa)))))
 (some (.x ()))
def W5 (p9 i10:Int) (tb1:Trace) (vb2:aa):Option (Fw Int Unit (Int×aa)):=
 (aS (λq:Int=>uO p9 tb1 vb2 q) i10).bind (Fw.elim
 (λe=>some (.n (IntKind.wrap .i64 (p9+1))))
 (λe=>some (.r (e.1,e.2))))
def EK (p13:Int) (tb1:Trace) (vb2:aa) (i14:Int):Option (Fw Int Unit aa):=
 (idx tb1.procs p13).bind λx_7=>
 au (decide (i14<(len x_7.events)))
 ((j7 tb1 (⟨p13,IntKind.wrap .i64 (i14+1)⟩:aa)).bind λx_8=>
 (idx x_8 p13).bind λx_9=>
 (idx x_9 (IntKind.wrap .i64 (i14+1))).bind λx_10=>
 au x_10
 (some (.r (⟨p13,IntKind.wrap .i64 (i14+1)⟩:aa)))
 (some (.n (IntKind.wrap .i64 (i14+1)))))
 (some (.x ()))
def W7 (p13 i14:Int) (tb1:Trace) (vb2:aa):Option (Fw Int Unit aa):=
 (aS (λq:Int=>EK p13 tb1 vb2 q) i14).bind (Fw.elim
 (λe=>some (.n (IntKind.wrap .i64 (p13+1))))
 (λe=>some (.r e)))
def FD (tb1:Trace) (vb2:aa) (p13:Int):Option (Fw Int Unit aa):=
 au (decide (p13<(len tb1.procs)))
 (W7 p13 0 tb1 vb2)
 (some (.x ()))
def W6 (p13:Int) (tb1:Trace) (vb2:aa):Option (aa×Int):=
 (aS (λq:Int=>FD tb1 vb2 q) p13).bind (Fw.elim
 (λe=>some (⟨0,0⟩,0))
 (λe=>some (e,10)))
def sL (tb1:Trace) (vb2:aa) (p9:Int):Option (Fw Int Unit (Int×aa)):=
 au (decide (p9<(len tb1.procs)))
 (W5 p9 0 tb1 vb2)
 (some (.x ()))
def W4 (p9:Int) (tb1:Trace) (vb2:aa):Option (aa×Int):=
 (aS (λq:Int=>sL tb1 vb2 q) p9).bind (Fw.elim
 (λe=>(bQ tb1).bind λx_11=>
 au x_11
 (some (⟨0,0⟩,0))
 (bM.W6 0 tb1 vb2))
 (λe=>some (e.2,e.1)))
def bf (tb1:Trace) (vb2:aa) (p6:Int):Option (Fw Int Unit (Int×aa)):=
 au (decide (p6<(len tb1.procs)))
 (W3 p6 0 tb1 vb2)
 (some (.x ()))
def W2 (p6:Int) (tb1:Trace) (vb2:aa):Option (aa×Int):=
 (aS (λq:Int=>bf tb1 vb2 q) p6).bind (Fw.elim
 (λe=>bM.W4 0 tb1 vb2)
 (λe=>some (e.2,e.1)))
def aA (tb1:Trace) (vb2:aa) (p4:Int):Option (Fw Int Unit (Int×aa)):=
 au (decide (p4<(len tb1.procs)))
 ((cF tb1 p4).bind λx_2=>
 au (x_2==0)
 (some (.n (IntKind.wrap .i64 (p4+1))))
 (some (.r (x_2,(⟨p4,0⟩:aa)))))
 (some (.x ()))
def W1 (p4:Int) (tb1:Trace) (vb2:aa):Option (aa×Int):=
 (aS (λq:Int=>aA tb1 vb2 q) p4).bind (Fw.elim
 (λe=>bM.W2 0 tb1 vb2)
 (λe=>some (e.2,e.1)))
end bM
def bM (t0:Trace):Option (aa×Int):=
 (au (decide ((len t0.procs)<1))
 (some true)
 (some (decide ((len t0.procs)>8))):Option Bool).bind λx_1=>
 au x_1
 (some (⟨0,0⟩,1))
 (bM.W1 0 t0 (⟨0,0⟩:aa))
open bM in
instance Pb (t0:Trace):Fc Sy cL (bM t0):=Fc.M 76 [enc t0] (cu 2 1 t0 (aU 9 t0.procs (aY 2 5 [20] 25 (aI 2 20 (aH 5) (aU 2 t0.procs (aH 2))) λx_1=>aI 2 25 ai (bU 11 (λqW1=>(aL [Pv 1,Pv 2,Iv 4 qW1] [Xb 1 t0,Xb 2 (⟨0,0⟩:aa)])) (λeW1=>(0,(aL [Pv 1,Pv 2] [Xb 1 t0,Xb 2 (⟨0,0⟩:aa)]))) (λeW1=>(aL [Pv 2,Iv 3 eW1.1] [Xb 2 eW1.2])) (λqW1=>aU 7 t0.procs (aI 3 31 (aN 9 λx_2 _=>cq 9 38 ai ai) ai)) (λeW1=>bU 10 (λqW2=>(aL [Pv 1,Pv 2,Iv 6 qW2] [Xb 1 t0,Xb 2 (⟨0,0⟩:aa)])) (λeW2=>(2,(aL [Pv 1,Pv 2] [Xb 1 t0,Xb 2 (⟨0,0⟩:aa)]))) (λeW2=>(aL [Pv 2,Iv 3 eW2.1] [Xb 2 eW2.2])) (λqW2=>aU 7 t0.procs (aI 3 46 (bU 12 (λqW3=>(aL [Pv 1,Pv 2,Iv 6 qW2,Iv 7 qW3] [Xb 1 t0,Xb 2 (⟨0,0⟩:aa)])) (λeW3=>(4,(aL [Pv 1,Pv 2,Iv 6 qW2] [Xb 1 t0,Xb 2 (⟨0,0⟩:aa)]))) (λeW3=>(aL [Pv 2,Iv 3 eW3.1] [Xb 2 eW3.2])) (λqW3=>aW 8 λx_3 _=>aU 2 x_3.events (aI 3 57 (aN 10 λx_4 _=>cq 9 65 ai ai) ai)) (λeW3=>ai) (λeW3=>ai)) ai)) (λeW2=>bU 10 (λqW4=>(aL [Pv 1,Pv 2,Iv 9 qW4] [Xb 1 t0,Xb 2 (⟨0,0⟩:aa)])) (λeW4=>(6,(aL [Pv 1,Pv 2] [Xb 1 t0,Xb 2 (⟨0,0⟩:aa)]))) (λeW4=>(aL [Pv 2,Iv 3 eW4.1] [Xb 2 eW4.2])) (λqW4=>aU 7 t0.procs (aI 3 75 (bU 12 (λqW5=>(aL [Pv 1,Pv 2,Iv 9 qW4,Iv 10 qW5] [Xb 1 t0,Xb 2 (⟨0,0⟩:aa)])) (λeW5=>(8,(aL [Pv 1,Pv 2,Iv 9 qW4] [Xb 1 t0,Xb 2 (⟨0,0⟩:aa)]))) (λeW5=>(aL [Pv 2,Iv 3 eW5.1] [Xb 2 eW5.2])) (λqW5=>aW 8 λx_5 _=>aU 2 x_5.events (aI 3 86 (aN 19 λx_6 _=>cq 9 97 ai ai) ai)) (λeW5=>ai) (λeW5=>ai)) ai)) (λeW4=>aN 6 λx_11 _=>aI 2 101 ai (bU 11 (λqW6=>(aL [Pv 1,Pv 2,Iv 13 qW6] [Xb 1 t0,Xb 2 (⟨0,0⟩:aa)])) (λeW6=>(10,(aL [Pv 2] [Xb 2 (⟨0,0⟩:aa)]))) (λeW6=>(aL [Pv 2,Iv 3 10] [Xb 2 eW6])) (λqW6=>aU 7 t0.procs (aI 3 107 (bU 12 (λqW7=>(aL [Pv 1,Pv 2,Iv 13 qW6,Iv 14 qW7] [Xb 1 t0,Xb 2 (⟨0,0⟩:aa)])) (λeW7=>(12,(aL [Pv 1,Pv 2,Iv 13 qW6] [Xb 1 t0,Xb 2 (⟨0,0⟩:aa)]))) (λeW7=>(aL [Pv 2,Iv 3 10] [Xb 2 eW7])) (λqW7=>aW 8 λx_7 _=>aU 2 x_7.events (aI 3 118 (aN 19 λx_8 _=>aW 1 λx_9 _=>aW 3 λx_10 _=>aI 3 134 ai ai) ai)) (λeW7=>ai) (λeW7=>ai)) ai)) (λeW6=>ai) (λeW6=>ai))) (λeW4=>ai)) (λeW2=>ai)) (λeW1=>ai)))))
def gT (t0:Trace):Option Bool:=
 (bM t0).bind λx_1=>
 some (x_1.2==0)
instance Oa (t0:Trace):Fc Sy cL (gT t0):=Fc.M 29 [enc t0] (cu 2 1 t0 (aN 6 λx_1 _=>ai))
def uK (t0:Trace) (c1:Sl Int):Option Bool:=
 some ((len c1)==(len t0.procs))
instance Rt (t0:Trace) (c1:Sl Int):Fc Sy cL (uK t0 c1):=Fc.M 81 [enc t0,enc c1] (cu 2 2 t0 (aU 6 c1 (aU 2 t0.procs ai)))
namespace jr
def aA (c1:Sl Int) (tb2:Trace) (p5:Int):Option (Fw Int Unit Unit):=
 au (decide (p5<(len c1)))
 ((idx c1 p5).bind λx_1=>
 (au (decide (x_1<0))
 (some true)
 ((idx c1 p5).bind λx_2=>
 (idx tb2.procs p5).bind λx_3=>
 some (decide (x_2>(len x_3.events)))):Option Bool).bind λx_4=>
 au x_4
 (some (.r ()))
 (some (.n (IntKind.wrap .i64 (p5+1)))))
 (some (.x ()))
def W1 (c1:Sl Int) (p5:Int) (tb2:Trace):Option Bool:=
 (aS (λq:Int=>aA c1 tb2 q) p5).bind (Fw.elim
 (λe=>some true)
 (λe=>some false))
end jr
def jr (t0:Trace) (c1:Sl Int):Option Bool:=
 jr.W1 c1 0 t0
open jr in
instance PO (t0:Trace) (c1:Sl Int):Fc Sy cL (jr t0 c1):=Fc.M 82 [enc t0,enc c1] (cu 2 2 t0 (bU 11 (λqW1=>(aL [Cv 1 c1,Pv 2,Iv 5 qW1] [Xb 2 t0])) (λeW1=>(0,(aL [] []))) (λeW1=>(aL [Bv 4 false] [])) (λqW1=>aU 6 c1 (aI 3 9 (aW 9 λx_1 _=>aY 3 13 [17] 30 (aI 3 17 (aH 13) (aW 2 λx_2 _=>aW 4 λx_3 _=>aU 2 x_3.events (aH 2))) λx_4=>aI 2 30 ai ai) ai)) (λeW1=>ai) (λeW1=>ai)))
def uu (t0:Trace) (c1:Sl Int) (p2 i3:Int):Option Bool:=
 (idx t0.procs p2).bind λx_1=>
 (idx x_1.events i3).bind λx_2=>
 au (x_2.kind==3)
 ((ct t0 2 x_2.message).bind λx_3=>
 (idx c1 x_3.proc).bind λx_4=>
 some (decide (x_3.index<=x_4)))
 (some true)
instance Rz (t0:Trace) (c1:Sl Int) (p2 i3:Int):Fc Sy cL (uu t0 c1 p2 i3):=Fc.M 77 [enc t0,enc c1,.int .i64 p2,.int .i64 i3] (cu 2 4 t0 (aW 8 λx_1 _=>aW 3 λx_2 _=>oE 2 9 0 x_2 (cq 10 22 (aN 8 λx_3 _=>aW 11 λx_4 _=>ai) ai)))
namespace dz
def bf (c1:Sl Int) (p5:Int) (tb2:Trace) (i6:Int):Option (Fw Int Unit Unit):=
 (idx c1 p5).bind λx_1=>
 au (decide (i6<x_1))
 ((uu tb2 c1 p5 i6).bind λx_2=>
 au x_2
 (some (.n (IntKind.wrap .i64 (i6+1))))
 (some (.r ())))
 (some (.x ()))
def W2 (c1:Sl Int) (p5 i6:Int) (tb2:Trace):Option (Fw Int Unit Unit):=
 (aS (λq:Int=>bf c1 p5 tb2 q) i6).bind (Fw.elim
 (λe=>some (.n (IntKind.wrap .i64 (p5+1))))
 (λe=>some (.r ())))
def aA (c1:Sl Int) (tb2:Trace) (p5:Int):Option (Fw Int Unit Unit):=
 au (decide (p5<(len c1)))
 (W2 c1 p5 0 tb2)
 (some (.x ()))
def W1 (c1:Sl Int) (p5:Int) (tb2:Trace):Option Bool:=
 (aS (λq:Int=>aA c1 tb2 q) p5).bind (Fw.elim
 (λe=>some true)
 (λe=>some false))
end dz
def dz (t0:Trace) (c1:Sl Int):Option Bool:=
 dz.W1 c1 0 t0
open dz in
instance Nd (t0:Trace) (c1:Sl Int):Fc Sy cL (dz t0 c1):=Fc.M 83 [enc t0,enc c1] (cu 2 2 t0 (bU 11 (λqW1=>(aL [Cv 1 c1,Pv 2,Iv 5 qW1] [Xb 2 t0])) (λeW1=>(0,(aL [] []))) (λeW1=>(aL [Bv 4 false] [])) (λqW1=>aU 6 c1 (aI 3 10 (bU 12 (λqW2=>(aL [Cv 1 c1,Pv 2,Iv 5 qW1,Iv 6 qW2] [Xb 2 t0])) (λeW2=>(2,(aL [Cv 1 c1,Pv 2,Iv 5 qW1] [Xb 2 t0]))) (λeW2=>(aL [Bv 4 false] [])) (λqW2=>aW 7 λx_1 _=>aI 4 18 (aN 11 λx_2 _=>cq 3 26 ai ai) ai) (λeW2=>ai) (λeW2=>ai)) ai)) (λeW1=>ai) (λeW1=>ai)))
def fT (t0:Trace) (c1:Sl Int):Option Bool:=
 (gT t0).bind λx_1=>
 (au x_1
 ((uK t0 c1).bind λx_2=>
 some x_2)
 (some false):Option Bool).bind λx_3=>
 (au x_3
 ((jr t0 c1).bind λx_4=>
 some x_4)
 (some false):Option Bool).bind λx_5=>
 (au x_5
 ((dz t0 c1).bind λx_6=>
 some x_6)
 (some false):Option Bool).bind λx_7=>
 some x_7
instance HT (t0:Trace) (c1:Sl Int):Fc Sy cL (fT t0 c1):=Fc.M 37 [enc t0,enc c1] (cu 2 2 t0 (aN 6 λx_1 _=>aY 1 4 [7] 11 (aI 1 7 (aN 2 λx_2 _=>aH 1) (aH 4)) λx_3=>aY 1 4 [12] 16 (aI 1 12 (aN 2 λx_4 _=>aH 1) (aH 4)) λx_5=>aY 1 4 [1,2,17] 21 (aI 1 17 (aN 2 λx_6 _=>aH 1) (aH 4)) λx_7=>ai))
namespace eF
def aA (a0 b1:Sl Int) (i5:Int):Option (Fw Int Unit Unit):=
 au (decide (i5<(len a0)))
 ((idx a0 i5).bind λx_1=>
 (idx b1 i5).bind λx_2=>
 au (decide (x_1>x_2))
 (some (.r ()))
 (some (.n (IntKind.wrap .i64 (i5+1)))))
 (some (.x ()))
def W1 (a0 b1:Sl Int) (i5:Int):Option Bool:=
 (aS (λq:Int=>aA a0 b1 q) i5).bind (Fw.elim
 (λe=>some true)
 (λe=>some false))
end eF
def eF (a0 b1:Sl Int):Option Bool:=
 au ((len a0)==(len b1))
 (eF.W1 a0 b1 0)
 (some false)
open eF in
instance Wb (a0 b1:Sl Int):Fc Sy cL (eF a0 b1):=Fc.M 46 [enc a0,enc b1] (aU 9 a0 (aU 1 b1 (cq 3 10 (bU 11 (λqW1=>(aL [Cv 0 a0,Cv 1 b1,Iv 5 qW1] [])) (λeW1=>(0,(aL [] []))) (λeW1=>(aL [Bv 4 false] [])) (λqW1=>aU 6 a0 (aI 3 14 (aW 9 λx_1 _=>aW 3 λx_2 _=>aI 4 25 ai ai) ai)) (λeW1=>ai) (λeW1=>ai)) ai)))
namespace cM
def aA (a0 b1:Sl Int) (i5:Int):Option (Fw Int Unit Unit):=
 au (decide (i5<(len a0)))
 ((idx a0 i5).bind λx_1=>
 (idx b1 i5).bind λx_2=>
 au (x_1==x_2)
 (some (.n (IntKind.wrap .i64 (i5+1))))
 (some (.r ())))
 (some (.x ()))
def W1 (a0 b1:Sl Int) (i5:Int):Option Bool:=
 (aS (λq:Int=>aA a0 b1 q) i5).bind (Fw.elim
 (λe=>some true)
 (λe=>some false))
end cM
def cM (a0 b1:Sl Int):Option Bool:=
 au ((len a0)==(len b1))
 (cM.W1 a0 b1 0)
 (some false)
open cM in
instance JW (a0 b1:Sl Int):Fc Sy cL (cM a0 b1):=Fc.M 53 [enc a0,enc b1] (aU 9 a0 (aU 1 b1 (cq 3 10 (bU 11 (λqW1=>(aL [Cv 0 a0,Cv 1 b1,Iv 5 qW1] [])) (λeW1=>(0,(aL [] []))) (λeW1=>(aL [Bv 4 false] [])) (λqW1=>aU 6 a0 (aI 3 14 (aW 9 λx_1 _=>aW 3 λx_2 _=>cq 4 25 ai ai) ai)) (λeW1=>ai) (λeW1=>ai)) ai)))
def nv (t0:Trace) (s1:Slice) (p2 i3:Int):Option Bool:=
 (idx s1.j p2).bind λx_1=>
 (idx x_1 i3).bind λx_2=>
 (idx s1.last p2).bind λx_3=>
 au (decide (i3>=x_3))
 (some ((len x_2)==0))
 ((idx s1.first p2).bind λx_4=>
 au (decide (i3<x_4))
 ((cM x_2 s1.first).bind λx_5=>
 some x_5)
 ((fT t0 x_2).bind λx_6=>
 (au x_6
 ((idx x_2 p2).bind λx_7=>
 some (decide (x_7>i3)))
 (some false):Option Bool).bind λx_8=>
 (au x_8
 ((eF s1.first x_2).bind λx_9=>
 some x_9)
 (some false):Option Bool).bind λx_10=>
 (au x_10
 ((eF x_2 s1.last).bind λx_11=>
 some x_11)
 (some false):Option Bool).bind λx_12=>
 some x_12))
instance J6 (t0:Trace) (s1:Slice) (p2 i3:Int):Fc Sy cL (nv t0 s1 p2 i3):=Fc.M 47 [enc t0,enc s1,.int .i64 p2,.int .i64 i3] (cu 2 4 t0 (cu 0 5 s1 (aW 8 λx_1 _=>aW 2 λx_2 _=>aW 11 λx_3 _=>aI 4 24 (aU 4 x_2 ai) (aW 10 λx_4 _=>aI 4 34 (aN 6 λx_5 _=>ai) (aN 7 λx_6 _=>aY 1 7 [2,3,42] 49 (aI 1 42 (aW 2 λx_7 _=>aH 4) (aH 7)) λx_8=>aY 1 5 [50] 55 (aI 1 50 (aN 3 λx_9 _=>aH 1) (aH 5)) λx_10=>aY 1 5 [5,9,56] 61 (aI 1 56 (aN 3 λx_11 _=>aH 1) (aH 5)) λx_12=>ai)))))
namespace dA
def bf (c1:Sl Int) (p5:Int) (sb2:Slice) (i6:Int):Option (Fw Int Unit Unit):=
 (idx c1 p5).bind λx_1=>
 au (decide (i6<x_1))
 ((idx sb2.j p5).bind λx_2=>
 (idx x_2 i6).bind λx_3=>
 (eF x_3 c1).bind λx_4=>
 au x_4
 (some (.n (IntKind.wrap .i64 (i6+1))))
 (some (.r ())))
 (some (.x ()))
def W2 (c1:Sl Int) (p5 i6:Int) (sb2:Slice):Option (Fw Int Unit Unit):=
 (aS (λq:Int=>bf c1 p5 sb2 q) i6).bind (Fw.elim
 (λe=>some (.n (IntKind.wrap .i64 (p5+1))))
 (λe=>some (.r ())))
def aA (c1:Sl Int) (sb2:Slice) (p5:Int):Option (Fw Int Unit Unit):=
 au (decide (p5<(len c1)))
 (W2 c1 p5 0 sb2)
 (some (.x ()))
def W1 (c1:Sl Int) (p5:Int) (sb2:Slice):Option Bool:=
 (aS (λq:Int=>aA c1 sb2 q) p5).bind (Fw.elim
 (λe=>some true)
 (λe=>some false))
end dA
def dA (s0:Slice) (c1:Sl Int):Option Bool:=
 dA.W1 c1 0 s0
open dA in
instance Nf (s0:Slice) (c1:Sl Int):Fc Sy cL (dA s0 c1):=Fc.M 48 [enc s0,enc c1] (cu 2 2 s0 (bU 11 (λqW1=>(aL [Cv 1 c1,Pv 2,Iv 5 qW1] [Xb 2 s0])) (λeW1=>(0,(aL [] []))) (λeW1=>(aL [Bv 4 false] [])) (λqW1=>aU 6 c1 (aI 3 10 (bU 12 (λqW2=>(aL [Cv 1 c1,Pv 2,Iv 5 qW1,Iv 6 qW2] [Xb 2 s0])) (λeW2=>(2,(aL [Cv 1 c1,Pv 2,Iv 5 qW1] [Xb 2 s0]))) (λeW2=>(aL [Bv 4 false] [])) (λqW2=>aW 7 λx_1 _=>aI 4 18 (aW 10 λx_2 _=>aW 2 λx_3 _=>aN 2 λx_4 _=>cq 3 31 ai ai) ai) (λeW2=>ai) (λeW2=>ai)) ai)) (λeW1=>ai) (λeW1=>ai)))
namespace bN
def bf (p5:Int) (tb2:Trace) (sb3:Slice) (i6:Int):Option (Fw Int Unit Unit):=
 (idx sb3.j p5).bind λx_12=>
 au (decide (i6<(len x_12)))
 ((nv tb2 sb3 p5 i6).bind λx_13=>
 au x_13
 (some (.n (IntKind.wrap .i64 (i6+1))))
 (some (.r ())))
 (some (.x ()))
def W2 (p5 i6:Int) (tb2:Trace) (sb3:Slice):Option (Fw Int Unit Unit):=
 (aS (λq:Int=>bf p5 tb2 sb3 q) i6).bind (Fw.elim
 (λe=>some (.n (IntKind.wrap .i64 (p5+1))))
 (λe=>some (.r ())))
def sL (p7:Int) (sb3:Slice) (i8:Int):Option (Fw Int Unit Unit):=
 (idx sb3.last p7).bind λx_14=>
 au (decide (i8<x_14))
 ((idx sb3.j p7).bind λx_15=>
 (idx x_15 i8).bind λx_16=>
 (dA sb3 x_16).bind λx_17=>
 au x_17
 (some (.n (IntKind.wrap .i64 (i8+1))))
 (some (.r ())))
 (some (.x ()))
def W4 (p7 i8:Int) (sb3:Slice):Option (Fw Int Unit Unit):=
 (aS (λq:Int=>sL p7 sb3 q) i8).bind (Fw.elim
 (λe=>some (.n (IntKind.wrap .i64 (p7+1))))
 (λe=>some (.r ())))
def dG (sb3:Slice) (p7:Int):Option (Fw Int Unit Unit):=
 au (decide (p7<(len sb3.j)))
 (W4 p7 0 sb3)
 (some (.x ()))
def W3 (p7:Int) (sb3:Slice):Option Bool:=
 (aS (λq:Int=>dG sb3 q) p7).bind (Fw.elim
 (λe=>some true)
 (λe=>some false))
def aA (tb2:Trace) (sb3:Slice) (p5:Int):Option (Fw Int Unit Unit):=
 au (decide (p5<(len sb3.j)))
 ((idx sb3.j p5).bind λx_10=>
 (idx tb2.procs p5).bind λx_11=>
 au ((len x_10)==(len x_11.events))
 (W2 p5 0 tb2 sb3)
 (some (.r ())))
 (some (.x ()))
def W1 (p5:Int) (tb2:Trace) (sb3:Slice):Option Bool:=
 (aS (λq:Int=>aA tb2 sb3 q) p5).bind (Fw.elim
 (λe=>bN.W3 0 sb3)
 (λe=>some false))
end bN
def bN (t0:Trace) (s1:Slice):Option Bool:=
 (gT t0).bind λx_1=>
 au x_1
 (au s1.empty
 ((au ((len s1.first)==0)
 (some ((len s1.last)==0))
 (some false):Option Bool).bind λx_2=>
 (au x_2
 (some ((len s1.j)==0))
 (some false):Option Bool).bind λx_3=>
 some x_3)
 ((fT t0 s1.first).bind λx_4=>
 (au x_4
 ((fT t0 s1.last).bind λx_5=>
 some (!x_5))
 (some true):Option Bool).bind λx_6=>
 (au x_6
 (some true)
 ((eF s1.first s1.last).bind λx_7=>
 some (!x_7)):Option Bool).bind λx_8=>
 (au x_8
 (some true)
 (some (!((len s1.j)==(len t0.procs)))):Option Bool).bind λx_9=>
 au x_9
 (some false)
 (bN.W1 0 t0 s1)))
 (some false)
open bN in
instance Oh (t0:Trace) (s1:Slice):Fc Sy cL (bN t0 s1):=Fc.M 12 [enc t0,enc s1] (cu 2 2 t0 (cu 0 3 s1 (aN 7 λx_1 _=>cq 3 11 (aI 10 13 (aU 5 s1.first (aY 2 5 [18] 23 (aI 2 18 (aU 2 s1.last (aH 2)) (aH 5)) λx_2=>aY 1 5 [3,24] 29 (aI 1 24 (aU 2 s1.j (aH 2)) (aH 5)) λx_3=>ai)) (aN 9 λx_4 _=>aY 2 6 [35] 41 (cq 2 35 (aN 3 λx_5 _=>aH 2) (aH 6)) λx_6=>aY 1 7 [42] 49 (aI 1 42 (aH 7) (aN 4 λx_7 _=>aH 2)) λx_8=>aY 1 8 [50] 58 (aI 1 50 (aH 8) (aU 2 s1.j (aU 2 t0.procs (aH 2)))) λx_9=>aI 2 58 ai (bU 11 (λqW1=>(aL [Pv 2,Pv 3,Iv 5 qW1] [Xb 2 t0,Xb 3 s1])) (λeW1=>(0,(aL [Pv 3] [Xb 3 s1]))) (λeW1=>(aL [Bv 4 false] [])) (λqW1=>aU 7 s1.j (aI 3 63 (aW 11 λx_10 _=>aU 1 x_10 (aW 3 λx_11 _=>aU 2 x_11.events (cq 3 79 (bU 10 (λqW2=>(aL [Pv 2,Pv 3,Iv 5 qW1,Iv 6 qW2] [Xb 2 t0,Xb 3 s1])) (λeW2=>(2,(aL [Pv 2,Pv 3,Iv 5 qW1] [Xb 2 t0,Xb 3 s1]))) (λeW2=>(aL [Bv 4 false] [])) (λqW2=>aW 8 λx_12 _=>aU 1 x_12 (aI 3 87 (aN 11 λx_13 _=>cq 3 95 ai ai) ai)) (λeW2=>ai) (λeW2=>ai)) ai))) ai)) (λeW1=>bU 10 (λqW3=>(aL [Pv 3,Iv 7 qW3] [Xb 3 s1])) (λeW3=>(4,(aL [] []))) (λeW3=>(aL [Bv 4 false] [])) (λqW3=>aU 7 s1.j (aI 3 100 (bU 12 (λqW4=>(aL [Pv 3,Iv 7 qW3,Iv 8 qW4] [Xb 3 s1])) (λeW4=>(6,(aL [Pv 3,Iv 7 qW3] [Xb 3 s1]))) (λeW4=>(aL [Bv 4 false] [])) (λqW4=>aW 8 λx_14 _=>aI 4 109 (aW 11 λx_15 _=>aW 2 λx_16 _=>iW 1 λx_17 _=>cq 3 122 ai ai) ai) (λeW4=>ai) (λeW4=>ai)) ai)) (λeW3=>ai) (λeW3=>ai)) (λeW1=>ai)))) ai)))
def kf (x0 low1 high2:Int):Option Bool:=
 (au (decide (x0>=low1))
 (some (decide (x0<=high2)))
 (some false):Option Bool).bind λx_1=>
 some x_1
instance XB (x0 low1 high2:Int):Fc Sy cL (kf x0 low1 high2):=Fc.M 117 [.int .i64 x0,.int .i64 low1,.int .i64 high2] (aY 11 4 [0,2,10] 14 (aI 11 10 (aH 4) (aH 4)) λx_1=>ai)
def mP (c0:Int):Option Bool:=
 (au (decide (c0>=97))
 (some (decide (c0<=122)))
 (some false):Option Bool).bind λx_1=>
 (au x_1
 (some true)
 ((au (decide (c0>=65))
 (some (decide (c0<=90)))
 (some false):Option Bool).bind λx_2=>
 some x_2):Option Bool).bind λx_3=>
 some x_3
instance Qz (c0:Int):Fc Sy cL (mP c0):=Fc.M 186 [.int .u8 c0] (aY 10 3 [5] 8 (aI 10 5 (aH 3) (aH 3)) λx_1=>aY 1 7 [0,9] 16 (aI 1 9 (aH 7) (aY 3 3 [0,12] 15 (aI 3 12 (aH 3) (aH 3)) λx_2=>aH 1)) λx_3=>ai)
def qR (c0:Int):Option Bool:=
 (au (decide (c0>=48))
 (some (decide (c0<=57)))
 (some false):Option Bool).bind λx_1=>
 some x_1
instance RH (c0:Int):Fc Sy cL (qR c0):=Fc.M 187 [.int .u8 c0] (aY 10 3 [0,5] 8 (aI 10 5 (aH 3) (aH 3)) λx_1=>ai)
namespace ec
def aA (s0:ByteArray) (v18:Int) (v19:Int):Option (Fw Int Unit Unit):=
 au (decide (v19<v18))
 ((iq s0 v19).bind λx_5=>
 (mP x_5).bind λx_6=>
 (au x_6
 (some false)
 ((iq s0 v19).bind λx_7=>
 (qR x_7).bind λx_8=>
 some (!x_8)):Option Bool).bind λx_9=>
 (au x_9
 ((iq s0 v19).bind λx_10=>
 some (!(x_10==95)))
 (some false):Option Bool).bind λx_11=>
 au x_11
 (some (.r ()))
 (some (.n (IntKind.wrap .i64 (v19+1)))))
 (some (.x ()))
def W1 (s0:ByteArray) (v18 v19:Int):Option Bool:=
 (aS (λq:Int=>aA s0 v18 q) v19).bind (Fw.elim
 (λe=>some true)
 (λe=>some false))
end ec
def ec (s0:ByteArray):Option Bool:=
 (au (ByteArray.toList s0==ByteArray.toList ByteArray.empty)
 (some true)
 (some (decide (((ByteArray.size s0:Nat):Int)>16))):Option Bool).bind λx_1=>
 (au x_1
 (some true)
 ((iq s0 0).bind λx_2=>
 (mP x_2).bind λx_3=>
 some (!x_3)):Option Bool).bind λx_4=>
 au x_4
 (some false)
 (ec.W1 s0 ((ByteArray.size s0:Nat):Int) 0)
open ec in
instance Pw (s0:ByteArray):Fc Sy cL (ec s0):=Fc.M 152 [.str s0] (aY 11 4 [6] 10 (aI 11 6 (aH 4) (aH 4)) λx_1=>aY 1 5 [11] 16 (aI 1 11 (aH 5) (xy 1 .i64 λx_2 _=>aN 0 λx_3 _=>aH 2)) λx_4=>aI 2 16 ai (bU 13 (λqW1=>(aL [(0,.v (.str s0)),Iv 18 ((ByteArray.size s0:Nat):Int),Iv 19 qW1] [])) (λeW1=>(0,(aL [] []))) (λeW1=>(aL [Bv 2 false] [])) (λqW1=>aI 7 20 (xy 15 .i64 λx_5 _=>aN 0 λx_6 _=>aY 2 6 [27] 33 (cq 2 27 (aH 6) (xy 2 .i64 λx_7 _=>aN 0 λx_8 _=>aH 2)) λx_9=>aY 1 5 [3,34] 39 (aI 1 34 (xy 2 .i64 λx_10 _=>aH 2) (aH 5)) λx_11=>aI 2 39 ai ai) ai) (λeW1=>ai) (λeW1=>ai)))
def gy (y0 v1:bG):Option Bool:=
 some (ByteArray.toList y0.name==ByteArray.toList v1.name)
instance Ee (y0 v1:bG):Fc Sy cL (gy y0 v1):=Fc.M 154 [enc y0,.fptr (cells v1)] (cu 2 2 y0 ai)
namespace d_
def aA (s0:Sl bG) (v7:Int) (v8:Int) (p1:bG->Option Bool):Option (Fw Int Unit Int):=
 au (decide (v8<v7))
 ((idx s0 v8).bind λx_1=>
 (p1 x_1).bind λx_2=>
 au x_2
 (some (.r v8))
 (some (.n (IntKind.wrap .i64 (v8+1)))))
 (some (.x ()))
def W1 (s0:Sl bG) (v7 v8:Int) (p1:bG->Option Bool):Option Int:=
 (aS (λq:Int=>aA s0 v7 q p1) v8).bind (Fw.elim
 (λe=>some (-1))
 (λe=>some e))
end d_
def d_ (s0:Sl bG) (p1:bG->Option Bool):Option Int:=
 d_.W1 s0 (len s0) 0 p1
open d_ in
abbrev tJ (g1:FuncId) (e1:List V) (p1:bG->Option Bool) (h1:jo Sy cL g1 e1 (λz:bG=>[enc z]) (λr:Bool=>[.bool r]) p1) (s0:Sl bG):Fc Sy cL (d_ s0 p1):=Fc.M 188 [enc s0,.clo g1 [] e1] (aU 9 s0 (bU 5 (λqW1=>(aL [Cv 0 s0,(1,.v (.clo g1 [] e1)),Iv 7 (len s0),Iv 8 qW1] [])) (λeW1=>(0,(aL [] []))) (λeW1=>(aL [Iv 4 eW1] [])) (λqW1=>aI 7 9 (aW 16 λx_1 _=>rW 1 h1.f x_1 λx_2 _=>aI 2 16 ai ai) ai) (λeW1=>ai) (λeW1=>ai))) (l:=by simp[h1.d])
def fC (s0:Sl bG) (p1:bG->Option Bool):Option Bool:=
 (d_ s0 p1).bind λx_1=>
 some (decide (x_1>=0))
abbrev rM (g1:FuncId) (e1:List V) (p1:bG->Option Bool) (h1:jo Sy cL g1 e1 (λz:bG=>[enc z]) (λr:Bool=>[.bool r]) p1) (s0:Sl bG):Fc Sy cL (fC s0 p1):=Fc.M 153 [enc s0,.clo g1 [] e1] (aN (F:=tJ g1 e1 p1 h1 s0) 9 λx_1 _=>ai) (l:=by simp[h1.d])
def gA (w0 v1:Var):Option Bool:=
 some (ByteArray.toList w0.name==ByteArray.toList v1.name)
instance Ed (w0 v1:Var):Fc Sy cL (gA w0 v1):=Fc.M 155 [enc w0,.fptr (cells v1)] (ai)
namespace cT
def aA (v32:Sl Var) (v33:Int) (xb5:bG) (v34:Int):Option (Fw Int Unit Int):=
 au (decide (v34<v33))
 ((idx v32 v34).bind λx_6=>
 (ec x_6.name).bind λx_7=>
 (au x_7
 ((fP xb5.vars none (some v34)).bind λx_8=>
 (eD x_8 (λz=>gA z x_6)).bind λx_9=>
 some x_9)
 (some true):Option Bool).bind λx_10=>
 au x_10
 (some (.r 13))
 ((kf x_6.init_ (-1073741824) 1073741824).bind λx_11=>
 au x_11
 (some (.n (IntKind.wrap .i64 (v34+1))))
 (some (.r 2))))
 (some (.x ()))
def W1 (v32:Sl Var) (v33 v34:Int) (xb5:bG):Option Int:=
 (aS (λq:Int=>aA v32 v33 xb5 q) v34).bind (Fw.elim
 (λe=>au (decide ((len xb5.events)>64))
 (some 5)
 (some 0))
 (λe=>some e))
end cT
def cT (t0:Trace) (p1:Int):Option Int:=
 (idx t0.procs p1).bind λx_1=>
 (ec x_1.name).bind λx_2=>
 (au x_2
 ((fP t0.procs none (some p1)).bind λx_3=>
 (fC x_3 (λz=>gy z x_1)).bind λx_4=>
 some x_4)
 (some true):Option Bool).bind λx_5=>
 au x_5
 (some 13)
 (au (decide ((len x_1.vars)>8))
 (some 5)
 (cT.W1 x_1.vars (len x_1.vars) 0 x_1))
open cT in
instance GA (t0:Trace) (p1:Int):Fc Sy cL (cT t0 p1):=Fc.M 118 [enc t0,.int .i64 p1] (cu 2 2 t0 (aW 8 λx_1 _=>oE 2 5 0 x_1 (aN 8 λx_2 _=>aY 2 7 [1,2,18] 25 (cq 2 18 (Bq 3 false true [.int .i64 p1] λx_3 _=>iW (F:=rM 154 [.fptr (cells x_1)] (λz=>gy z x_1) jo.rT x_3) 1 λx_4 _=>aH 1) (aH 7)) λx_5=>aI 3 13 ai (aU 5 x_1.vars (aI 4 26 ai (aU 9 x_1.vars (bU 5 (λqW1=>(aL [Pv 5,Cv 32 x_1.vars,Iv 33 (len x_1.vars),Iv 34 qW1] [Xb 5 x_1])) (λeW1=>(1,(aL [Pv 5] [Xb 5 x_1]))) (λeW1=>(aL [Iv 4 eW1] [])) (λqW1=>aI 7 35 (aW 8 λx_6 _=>aN 11 λx_7 _=>aY 2 7 [6,44] 51 (cq 2 44 (Bq 3 false true [.int .i64 qW1] λx_8 _=>iW (F:=lU 155 [.fptr (cells x_6)] (λz=>gA z x_6) jo.rT x_8) 1 λx_9 _=>aH 1) (aH 7)) λx_10=>aI 3 39 ai (aN 5 λx_11 _=>cq 4 52 ai ai)) ai) (λeW1=>aU 7 x_1.events (aI 3 61 ai ai)) (λeW1=>ai))))))))
def gM (t0:Trace):Option Trace:=
 some t0
instance QV (t0:Trace):Fc Sy cL (gM t0):=Fc.NE (λr:Trace=>[(.clo 156 [] [.fptr (cells r)])]) 119 [enc t0] (cu 2 1 t0 ai)
namespace fA
def J1 (p1:Int) (v19:Bool) (tb3:Trace) (eb5:Event):Option Bool:=
 au v19
 ((kf eb5.peer 0 (IntKind.wrap .i64 ((len tb3.procs)-1))).bind λx_2=>
 (au x_2
 (some (!(eb5.peer==p1)))
 (some false):Option Bool).bind λx_3=>
 (au x_3
 ((kf eb5.message 0 199).bind λx_4=>
 some x_4)
 (some false):Option Bool).bind λx_5=>
 some x_5)
 (some false)
end fA
def fA (t0:Trace) (p1:Int) (e2:Event):Option Bool:=
 au (e2.kind==1)
 ((au (e2.peer==0)
 (some (e2.message==0))
 (some false):Option Bool).bind λx_1=>
 some x_1)
 (au (e2.kind==2)
 (fA.J1 p1 true t0 e2)
 (fA.J1 p1 (e2.kind==3) t0 e2))
open fA in
instance N5 (t0:Trace) (p1:Int) (e2:Event):Fc Sy cL (fA t0 p1 e2):=Fc.M 157 [enc t0,.int .i64 p1,enc e2] (cu 2 3 t0 (cu 0 5 e2 (aI 17 9 (aY 7 4 [5,14] 18 (aI 7 14 (aH 4) (aH 4)) λx_1=>ai) (aI 8 19 (Ba 4 (aI 0 19 (aU 7 t0.procs (aN 1 λx_2 _=>aY 1 5 [1,29] 34 (aI 1 29 (aH 5) (aH 5)) λx_3=>aY 1 4 [5,35] 39 (aI 1 35 (aN 2 λx_4 _=>aH 1) (aH 4)) λx_5=>ai)) ai)) (Ba 7 (aI 0 19 (aU 7 t0.procs (aN 1 λx_2 _=>aY 1 5 [1,29] 34 (aI 1 29 (aH 5) (aH 5)) λx_3=>aY 1 4 [5,35] 39 (aI 1 35 (aN 2 λx_4 _=>aH 1) (aH 4)) λx_5=>ai)) ai))))))
def ij (b0 v1:Assign):Option Bool:=
 some (b0.var==v1.var)
instance EP (b0 v1:Assign):Fc Sy cL (ij b0 v1):=Fc.M 159 [enc b0,.fptr (cells v1)] (ai)
namespace dJ
def aA (s0:Sl Assign) (v7:Int) (v8:Int) (p1:Assign->Option Bool):Option (Fw Int Unit Int):=
 au (decide (v8<v7))
 ((idx s0 v8).bind λx_1=>
 (p1 x_1).bind λx_2=>
 au x_2
 (some (.r v8))
 (some (.n (IntKind.wrap .i64 (v8+1)))))
 (some (.x ()))
def W1 (s0:Sl Assign) (v7 v8:Int) (p1:Assign->Option Bool):Option Int:=
 (aS (λq:Int=>aA s0 v7 q p1) v8).bind (Fw.elim
 (λe=>some (-1))
 (λe=>some e))
end dJ
def dJ (s0:Sl Assign) (p1:Assign->Option Bool):Option Int:=
 dJ.W1 s0 (len s0) 0 p1
open dJ in
abbrev sg (g1:FuncId) (e1:List V) (p1:Assign->Option Bool) (h1:jo Sy cL g1 e1 (λz:Assign=>[enc z]) (λr:Bool=>[.bool r]) p1) (s0:Sl Assign):Fc Sy cL (dJ s0 p1):=Fc.M 189 [enc s0,.clo g1 [] e1] (aU 9 s0 (bU 5 (λqW1=>(aL [Cv 0 s0,(1,.v (.clo g1 [] e1)),Iv 7 (len s0),Iv 8 qW1] [])) (λeW1=>(0,(aL [] []))) (λeW1=>(aL [Iv 4 eW1] [])) (λqW1=>aI 7 9 (aW 16 λx_1 _=>rW 1 h1.f x_1 λx_2 _=>aI 2 16 ai ai) ai) (λeW1=>ai) (λeW1=>ai))) (l:=by simp[h1.d])
def eO (s0:Sl Assign) (p1:Assign->Option Bool):Option Bool:=
 (dJ s0 p1).bind λx_1=>
 some (decide (x_1>=0))
abbrev qu (g1:FuncId) (e1:List V) (p1:Assign->Option Bool) (h1:jo Sy cL g1 e1 (λz:Assign=>[enc z]) (λr:Bool=>[.bool r]) p1) (s0:Sl Assign):Fc Sy cL (eO s0 p1):=Fc.M 158 [enc s0,.clo g1 [] e1] (aN (F:=sg g1 e1 p1 h1 s0) 9 λx_1 _=>ai) (l:=by simp[h1.d])
namespace cg
def bf (v52:Sl Assign) (v53:Int) (eb5:Event) (xb7:bG) (v54:Int):Option (Fw Int Unit Int):=
 au (decide (v54<v53))
 ((idx v52 v54).bind λx_6=>
 (kf x_6.var 0 (IntKind.wrap .i64 ((len xb7.vars)-1))).bind λx_7=>
 (au x_7
 ((kf x_6.value (-1073741824) 1073741824).bind λx_8=>
 some (!x_8))
 (some true):Option Bool).bind λx_9=>
 au x_9
 (some (.r 2))
 ((fP eb5.assign none (some v54)).bind λx_10=>
 (eO x_10 (λz=>ij z x_6)).bind λx_11=>
 au x_11
 (some (.r 8))
 (some (.n (IntKind.wrap .i64 (v54+1))))))
 (some (.x ()))
def W2 (v52:Sl Assign) (v53 v54:Int) (eb5:Event) (xb7:bG):Option Int:=
 (aS (λq:Int=>bf v52 v53 eb5 xb7 q) v54).bind (Fw.elim
 (λe=>some 0)
 (λe=>some e))
def J1 (last8:Int) (tb3:Trace) (idb4:aa) (eb5:Event) (xb7:bG):Option Int:=
 (fA tb3 idb4.proc eb5).bind λx_3=>
 au x_3
 ((kf eb5.time 0 1099511627776).bind λx_4=>
 (au x_4
 (some (decide (eb5.time<last8)))
 (some true):Option Bool).bind λx_5=>
 au x_5
 (some 11)
 (au (decide ((len eb5.assign)>8))
 (some 5)
 (cg.W2 eb5.assign (len eb5.assign) 0 eb5 xb7)))
 (some 3)
theorem tZ (last8:Int) (tb3:Trace) (idb4:aa) (eb5:Event) (xb7:bG):Le ((J1 last8 tb3 idb4 eb5 xb7).bind (λr=>some [.int .i64 r])) (bE Sy cL (oh (tr Tx 120)) (rO (tb Tx 120) [1,1,1,1,0] [] (aL [Pv 3,Pv 4,Pv 5,Pv 7,Iv 8 last8] [Xb 3 tb3,Xb 4 idb4,Xb 5 eb5,Xb 7 xb7]))):=
 aN 8 λx_3 _=>cq 4 28 (aN 5 λx_4 _=>aY 2 5 [8,40] 45 (cq 2 40 (aH 5) (aH 5)) λx_5=>aI 3 35 ai (aU 5 eb5.assign (aI 4 46 ai (aU 9 eb5.assign (bU 5 (λqW2=>(aL [Pv 5,Pv 7,Cv 52 eb5.assign,Iv 53 (len eb5.assign),Iv 54 qW2] [Xb 5 eb5,Xb 7 xb7])) (λeW2=>(1,(aL [] []))) (λeW2=>(aL [Iv 6 eW2] [])) (λqW2=>aI 7 55 (aW 8 λx_6 _=>aU 13 xb7.vars (aN 1 λx_7 _=>aY 2 5 [68] 73 (cq 2 68 (aN 2 λx_8 _=>aH 2) (aH 5)) λx_9=>aI 3 59 ai (Bq 6 false true [.int .i64 qW2] λx_10 _=>iW (F:=qu 159 [.fptr (cells x_6)] (λz=>ij z x_6) jo.rT x_10) 1 λx_11 _=>aI 3 74 ai ai))) ai) (λeW2=>ai) (λeW2=>ai)))))) ai
end cg
def cg (t0:Trace) (id1:aa) (e2:Event):Option Int:=
 (idx t0.procs id1.proc).bind λx_1=>
 au (decide (id1.index>1))
 ((idx x_1.events (IntKind.wrap .i64 (id1.index-2))).bind λx_2=>
 cg.J1 x_2.time t0 id1 e2 x_1)
 (cg.J1 0 t0 id1 e2 x_1)
open cg in
instance I5 (t0:Trace) (id1:aa) (e2:Event):Fc Sy cL (cg t0 id1 e2):=Fc.M 120 [enc t0,enc id1,enc e2] (cu 2 3 t0 (cu 1 5 e2 (aW 9 λx_1 _=>oE 2 7 0 x_1 (aI 15 19 (aW 7 λx_2 _=>A2 6 (tZ x_2.time t0 id1 e2 x_1)) (A2 4 (tZ 0 t0 id1 e2 x_1))))))
def ni (e0:Event) (v1 v2:Int):Option Bool:=
 (au (e0.kind==2)
 (some (e0.message==v1))
 (some false):Option Bool).bind λx_1=>
 (au x_1
 (some (e0.peer==v2))
 (some false):Option Bool).bind λx_2=>
 some x_2
instance KX (e0:Event) (v1 v2:Int):Fc Sy cL (ni e0 v1 v2):=Fc.M 190 [enc e0,.fptr (cells v1),.fptr (cells v2)] (cu 2 3 e0 (aY 9 5 [1,8] 13 (aI 9 8 (aH 5) (aH 5)) λx_1=>aY 1 5 [2,3,14] 19 (aI 1 14 (aH 5) (aH 5)) λx_2=>ai))
def qY (t0:Trace) (p1 m2 to_3:Int):Option Bool:=
 (idx t0.procs p1).bind λx_1=>
 (eY x_1.events (λz=>ni z m2 to_3)).bind λx_2=>
 some x_2
instance Rs (t0:Trace) (p1 m2 to_3:Int):Fc Sy cL (qY t0 p1 m2 to_3):=Fc.M 160 [enc t0,.int .i64 p1,.int .i64 m2,.int .i64 to_3] (cu 2 4 t0 (aW 10 λx_1 _=>iW (F:=kG 190 [.fptr (cells m2),.fptr (cells to_3)] (λz=>ni z m2 to_3) jo.rT x_1.events) 3 λx_2 _=>ai))
namespace cW
def oS (vk0_12 tb1:Trace) (vb2:Option (bh 200 aK)) (vb3:aa) (vb4:Int) (x:aa×Event) (vb10:bh 200 aK):Option (Fw (bh 200 aK) Empty (aa×Int×(bh 200 aK))):=
 au (x.2.kind==2)
 ((bh.at vb10 x.2.message).bind λx_2=>
 au (decide (x_2.from_.index>0))
 (some (.r (x.1,8,vb10)))
 ((bh.at vb10 x.2.message).bind λx_3=>
 some (.n (bh.set vb10 x.2.message (⟨x.1,x_3.to_⟩:aK)))))
 (au (x.2.kind==3)
 ((bh.at vb10 x.2.message).bind λx_4=>
 au (decide (x_4.to_.index>0))
 (some (.r (x.1,8,vb10)))
 ((qY tb1 x.2.peer x.2.message x.1.proc).bind λx_5=>
 au x_5
 ((bh.at vb10 x.2.message).bind λx_6=>
 some (.n (bh.set vb10 x.2.message (⟨x_6.from_,x.1⟩:aK))))
 (some (.r (x.1,7,vb10)))))
 (some (.n vb10)))
def E1 (vk0_12 tb1:Trace) (vb2:Option (bh 200 aK)) (vb3:aa) (vb4:Int) (vb10:bh 200 aK):Option ((Option (bh 200 aK))×aa×Int):=
 (gj vk0_12).bind λits=>(kQ (λ(x:aa×Event) (q:bh 200 aK)=>oS vk0_12 tb1 vb2 vb3 vb4 x q) its vb10).bind (Fw.tV
 (λq=>some (some q,⟨0,0⟩,0))
 (λe=>Empty.elim e)
 (λe=>some ((none:Option (bh 200 aK)),e.1,e.2.1)))
end cW
def cW (t0:Trace):Option ((Option (bh 200 aK))×aa×Int):=
 (gM t0).bind λx_1=>
 cW.E1 x_1 t0 (none:Option (bh 200 aK)) (⟨0,0⟩:aa) 0 (bh.IS 200 (⟨⟨0,0⟩,⟨0,0⟩⟩:aK))
open cW in
instance GN (t0:Trace):Fc Sy cL (cW t0):=Fc.N 121 [enc t0] (cu 2 1 t0 (cu 8 10 (bh.IS 200 (⟨⟨0,0⟩,⟨0,0⟩⟩:aK)) (VQ 0 5 (aL [Pv 1,Pv 2,Pv 3,Pv 4,Pv 10] [Xb 1 t0,(2,.box [cv (none:Option (bh 200 aK))]),Xb 3 (⟨0,0⟩:aa),(4,.box [iv 0]),Xb 10 (bh.IS 200 (⟨⟨0,0⟩,⟨0,0⟩⟩:aK))]) [cv (none:Option (bh 200 aK))] (by simp only[aL,uP,mX,oN,nh,o5,qp,oG,qx,mT,o4,uZ,qq,qg,qo,qE,sF,sM,oH,qc];rfl) (aN 7 λx_1 _=>G0 λits hits=>Cs 4 [Pv 1,Pv 2,Pv 3,Pv 4,Pv 5,(12,.v (.clo 156 [] [.fptr (cells x_1)]))] (λqE1=>[Xb 1 t0,(2,.box [cv (none:Option (bh 200 aK))]),Xb 3 (⟨0,0⟩:aa),(4,.box [iv 0]),(5,.box [.ptr 10 0]),Xb 10 qE1]) (λeE1=>Empty.elim eE1) (λeE1=>[Xb 1 t0,(2,.box [cv (none:Option (bh 200 aK))]),Xb 3 eE1.1,(4,.box [iv eE1.2.1]),(5,.box [.ptr 10 0]),Xb 10 eE1.2.2]) (vA x_1 its hits) (λxE1 qE1=>VQ 2 6 ⟨[Pv 1,Pv 2,Pv 3,Pv 4,Pv 5,(12,.v (.clo 156 [] [.fptr (cells x_1)])),Cv 13 xE1.1,Cv 14 xE1.2],[Xb 1 t0,(2,.box [cv (none:Option (bh 200 aK))]),Xb 3 (⟨0,0⟩:aa),(4,.box [iv 0]),(5,.box [.ptr 10 0]),Xb 10 qE1],[1,2,3,4,5],[],true,0⟩ [iv 0,iv 0] (by simp only[aL,uP,mX,oN,nh,o5,qp,oG,qx,mT,o4,uZ,qq,qg,qo,qE,sF,sM,oH,qc];rfl) (VQ 4 7 ⟨[Pv 1,Pv 2,Pv 3,Pv 4,Pv 5,(12,.v (.clo 156 [] [.fptr (cells x_1)])),Cv 14 xE1.2,Pv 6],[Xb 1 t0,(2,.box [cv (none:Option (bh 200 aK))]),Xb 3 (⟨0,0⟩:aa),(4,.box [iv 0]),(5,.box [.ptr 10 0]),Xb 10 qE1,Xb 6 xE1.1],[1,2,3,4,5],[],true,0⟩ [iv 0,iv 0,iv 0,iv 0,.v .aF] (by simp only[aL,uP,mX,oN,nh,o5,qp,oG,qx,mT,o4,uZ,qq,qg,qo,qE,sF,sM,oH,qc];rfl) (oE 0 7 0 xE1.2 (AM 1 (aI 22 19 (CB 7 .i64 10 λx_2 h_2=>Nh 2 1 false 10 qE1 xE1.2.message 1 x_2 h_2 (.int .i64 x_2.from_.index) (by rfl) (aI 3 28 ai (CB 8 .i64 10 λx_3 h_3=>Nk 1 2 10 qE1 xE1.2.message 0 x_3 h_3 (⟨xE1.1,x_3.to_⟩:aK) (enc xE1.1) (by rfl) ai))) (aI 7 36 (CB 7 .i64 10 λx_4 h_4=>Nh 2 1 false 10 qE1 xE1.2.message 3 x_4 h_4 (.int .i64 x_4.to_.index) (by rfl) (aI 3 45 ai (aN 12 λx_5 _=>cq 3 54 (CB 8 .i64 10 λx_6 h_6=>Nk 1 2 10 qE1 xE1.2.message 2 x_6 h_6 (⟨x_6.from_,xE1.1⟩:aK) (enc xE1.1) (by rfl) ai) ai))) ai)))))) (λqE1=>Xk 13 (aL [Pv 2,Pv 3,Pv 4] [(2,.box [.ptr 10 0]),Xb 3 (⟨0,0⟩:aa),(4,.box [iv 0]),Xb 10 qE1]) [.ptr 10 0,cv (⟨0,0⟩:aa),iv 0] (Qo (d:=10) (x:=qE1) (vs:=[enc (⟨0,0⟩:aa),.int .i64 0]) (by kernel_rfl)) (by kernel_rfl)) (λx=>Empty.elim x) (λeE1=>ai)))))
namespace ga
def J1 (lq1:bh 200 aK) (out7:Sl aa) (p8:Sl Event) (xb5:aa):Option (Sl aa):=
 (idx p8 (IntKind.wrap .i64 (xb5.index-1))).bind λx_2=>
 (au (x_2.kind==2)
 ((bh.at lq1 x_2.message).bind λx_3=>
 some (decide (x_3.to_.index>0)))
 (some false):Option Bool).bind λx_4=>
 au x_4
 ((bh.at lq1 x_2.message).bind λx_5=>
 (jC out7 (x_5.to_:aa)).bind λx_6=>
 some x_6)
 (some out7)
theorem tZ (lq1:bh 200 aK) (out7:Sl aa) (p8:Sl Event) (xb5:aa):Le ((J1 lq1 out7 p8 xb5).bind (λr=>some [enc r])) (bE Sy cL (oh (tr Tx 161)) (rO (tb Tx 161) [1,1,1,1,0,0] [] (aL [Kv 1 lq1,Pv 5,Ov 7,Cv 8 p8] [Xb 5 xb5,Lb 2007 out7]))):=
 aW 7 λx_2 _=>oE 2 9 0 x_2 (aY 8 10 [40] 50 (aI 8 40 (Na 4 .i64 λx_3 h_3=>K5 0 2 lq1 x_2.message 0 x_3 h_3 (K5 0 1 lq1 x_2.message 2 x_3 h_3 (M3 0 1 false lq1 x_2.message 3 x_3 h_3 (.int .i64 x_3.to_.index) (by rfl) (aH 2)))) (aH 10)) λx_4=>aI 2 50 (Na 7 .i64 λx_5 h_5=>K5 0 2 lq1 x_2.message 0 x_5 h_5 (M3 0 2 true lq1 x_2.message 2 x_5 h_5 (enc x_5.to_) (by rfl) (wj 1 2007 59 60 λx_6 _=>ai))) ai)
end ga
def ga (t0:Trace) (l1:bh 200 aK) (x2:aa):Option (Sl aa):=
 (idx t0.procs x2.proc).bind λx_1=>
 au (decide (x2.index<(len x_1.events)))
 (ga.J1 l1 (Sl.row [⟨x2.proc,IntKind.wrap .i64 (x2.index+1)⟩]:Sl aa) x_1.events x2)
 (ga.J1 l1 (Sl.nil:Sl aa) x_1.events x2)
open ga in
instance Rn (t0:Trace) (l1:bh 200 aK) (x2:aa):Fc Sy cL (ga t0 l1 x2):=Fc.N 161 [enc t0,.fptr (cells l1),enc x2] (cu 2 3 t0 (aW 15 λx_1 _=>aU 11 x_1.events (aI 3 21 (MT 10 29 30 .aF (⟨x2.proc,IntKind.wrap .i64 (x2.index+1)⟩:aa) (A2 5 (tZ l1 (Sl.row [⟨x2.proc,IntKind.wrap .i64 (x2.index+1)⟩]:Sl aa) x_1.events x2))) (A2 5 (tZ l1 (Sl.nil:Sl aa) x_1.events x2)))))
namespace dN
def dG (vk0_13:Trace) (v36:Sl aa) (v37:Int) (tb2:Trace) (lb3:bh 200 aK) (vb4:aa) (vb5:Bool) (idb6:aa) (rest8:Sl aa) (v38:Int) (vb16:Mo aa Bool):Option (Fw ((Sl aa)×Int×(Mo aa Bool)) ((Sl aa)×(Mo aa Bool)) Unit):=
 au (decide (v38<v37))
 ((idx v36 v38).bind λx_6=>
 au (Fz x_6 idb6)
 (some (.r ()))
 (au (uF vb16 x_6 false)
 (some (.n (rest8,IntKind.wrap .i64 (v38+1),vb16)))
 ((jC rest8 (x_6:aa)).bind λx_7=>
 some (.n (x_7,IntKind.wrap .i64 (v38+1),kz vb16 x_6 true)))))
 (some (.x (rest8,vb16)))
def W3 (rest8:Sl aa) (vk0_13:Trace) (v36:Sl aa) (v37 v38:Int) (tb2:Trace) (lb3:bh 200 aK) (vb4:aa) (vb5:Bool) (idb6:aa) (vb16:Mo aa Bool):Option (Fw ((Sl aa)×(Mo aa Bool)) Unit Unit):=
 (aS (λq:(Sl aa)×Int×(Mo aa Bool)=>dG vk0_13 v36 v37 tb2 lb3 vb4 vb5 idb6 q.1 q.2.1 q.2.2) (rest8,v38,vb16)).bind (Fw.elim
 (λe=>some (.n (e.1,e.2)))
 (λe=>some (.r ())))
def bf (vk0_13 tb2:Trace) (lb3:bh 200 aK) (vb4:aa) (vb5:Bool) (idb6:aa) (rest8:Sl aa) (vb16:Mo aa Bool):Option (Fw ((Sl aa)×(Mo aa Bool)) Unit Unit):=
 au (decide ((len rest8)>0))
 ((Sl.mj rest8 (IntKind.wrap .i64 ((len rest8)-1))).bind λx_2=>
 (Sl.get rest8 x_2).bind λx_3=>
 (lq rest8 none (some (IntKind.wrap .i64 ((len rest8)-1)))).bind λx_4=>
 (ga tb2 lb3 x_3).bind λx_5=>
 W3 x_4 vk0_13 x_5 (len x_5) 0 tb2 lb3 vb4 vb5 idb6 vb16)
 (some (.x ()))
def W2 (rest8:Sl aa) (vk0_13 tb2:Trace) (lb3:bh 200 aK) (vb4:aa) (vb5:Bool) (idb6:aa) (vb16:Mo aa Bool):Option (Fw Unit Empty aa):=
 (aS (λq:(Sl aa)×(Mo aa Bool)=>bf vk0_13 tb2 lb3 vb4 vb5 idb6 q.1 q.2) (rest8,vb16)).bind (Fw.elim
 (λe=>some (.n ()))
 (λe=>some (.r idb6)))
def oS (vk0_13 tb2:Trace) (lb3:bh 200 aK) (vb4:aa) (vb5:Bool) (x:aa×Event):Option (Fw Unit Empty aa):=
 W2 (Sl.row [x.1]:Sl aa) vk0_13 tb2 lb3 vb4 vb5 x.1 []
def E1 (vk0_13 tb2:Trace) (lb3:bh 200 aK) (vb4:aa) (vb5:Bool):Option (aa×Bool):=
 (gj vk0_13).bind λits=>(kQ (λ(x:aa×Event) (q:Unit)=>oS vk0_13 tb2 lb3 vb4 vb5 x) its ()).bind (Fw.tV
 (λq=>some (⟨0,0⟩,false))
 (λe=>Empty.elim e)
 (λe=>some (e,true)))
end dN
def dN (t0:Trace) (l1:bh 200 aK):Option (aa×Bool):=
 (gM t0).bind λx_1=>
 dN.E1 x_1 t0 l1 (⟨0,0⟩:aa) false
open dN in
instance Q7 (t0:Trace) (l1:bh 200 aK):Fc Sy cL (dN t0 l1):=Fc.M 122 [enc t0,.fptr (cells l1)] (cu 2 2 t0 (aN 9 λx_1 _=>G0 λits hits=>Cs 4 [Pv 2,Pv 3,Pv 4,Pv 5,(13,.v (.clo 156 [] [.fptr (cells x_1)]))] (λqE1=>[Xb 2 t0,(3,.box [cp l1]),Xb 4 (⟨0,0⟩:aa),(5,.box [bv false])]) (λeE1=>Empty.elim eE1) (λeE1=>[Xb 2 t0,(3,.box [cp l1]),Xb 4 eE1,(5,.box [bv true])]) (vA x_1 its hits) (λxE1 qE1=>AM 4 (bU 18 (λqW2=>⟨[Pv 2,Pv 3,Pv 4,Pv 5,Pv 6,(7,.mp 16),Ov 8,(13,.v (.clo 156 [] [.fptr (cells x_1)]))],[Xb 2 t0,(3,.box [cp l1]),Xb 4 (⟨0,0⟩:aa),(5,.box [bv false]),Xb 6 xE1.1,(16,pG qW2.2),Lb 2008 qW2.1],[2,3,4,5],[],true,0⟩) (λeW2=>(2,⟨[Pv 2,Pv 3,Pv 4,Pv 5,(13,.v (.clo 156 [] [.fptr (cells x_1)]))],[Xb 2 t0,(3,.box [cp l1]),Xb 4 (⟨0,0⟩:aa),(5,.box [bv false])],[2,3,4,5],[],true,0⟩)) (λeW2=>⟨[],[Xb 2 t0,(3,.box [cp l1]),Xb 4 xE1.1,(5,.box [bv true])],[2,3,4,5],[],true,0⟩) (λqW2=>yf 6 2008 qW2.1 (aI 3 21 (yf 8 2008 qW2.1 (pX .i64 1 2008 λx_2 _=>s9 0 2008 0 2 true (λx_3=>.agg [.int .i64 x_3.proc,.int .i64 x_3.index]) λx_3 _=>yf 8 2008 qW2.1 (Xr 1 false true 2008 32 [.int .i64 (IntKind.wrap .i64 ((len qW2.1)-1))] λx_4 _=>aN 8 λx_5 _=>aU 0 x_5 (bU 6 (λqW3=>⟨[Pv 2,Pv 3,Pv 4,Pv 5,Pv 6,(7,.mp 16),Ov 8,(13,.v (.clo 156 [] [.fptr (cells x_1)])),Cv 36 x_5,Iv 37 (len x_5),Iv 38 qW3.2.1],[Xb 2 t0,(3,.box [cp l1]),Xb 4 (⟨0,0⟩:aa),(5,.box [bv false]),Xb 6 xE1.1,(16,pG qW3.2.2),Lb 2008 qW3.1],[2,3,4,5],[],true,0⟩) (λeW3=>(4,⟨[Pv 2,Pv 3,Pv 4,Pv 5,Pv 6,(7,.mp 16),Ov 8,(13,.v (.clo 156 [] [.fptr (cells x_1)]))],[Xb 2 t0,(3,.box [cp l1]),Xb 4 (⟨0,0⟩:aa),(5,.box [bv false]),Xb 6 xE1.1,(16,pG eW3.2),Lb 2008 eW3.1],[2,3,4,5],[],true,0⟩)) (λeW3=>⟨[],[Xb 2 t0,(3,.box [cp l1]),Xb 4 xE1.1,(5,.box [bv true])],[2,3,4,5],[],true,0⟩) (λqW3=>aI 8 39 (aW 7 λx_6 _=>aI 13 44 ai (MM 7 16 qW3.2.2 x_6 false (cq 3 49 ai (K7 5 16 qW3.2.2 x_6 true (wj 6 2008 54 55 λx_7 _=>ai))))) ai) (λeW3=>ai) (λeW3=>ai))))) ai)) (λeW2=>ai) (λeW2=>ai))) (λqE1=>ai) (λx=>Empty.elim x) (λeE1=>ai)))
namespace eV
def Fs (vk0_36 tb1:Trace) (vb2:aa) (vb3:Int) (x:aa×Event):Option (Fw Unit Empty (aa×Int)):=
 (cg tb1 x.1 x.2).bind λx_3=>
 au (x_3==0)
 (some (.n ()))
 (some (.r (x.1,x_3)))
def E2 (vk0_36 tb1:Trace) (vb2:aa) (vb3:Int):Option (aa×Int):=
 (gj vk0_36).bind λits=>(kQ (λ(x:aa×Event) (q:Unit)=>Fs vk0_36 tb1 vb2 vb3 x) its ()).bind (Fw.tV
 (λq=>(cW tb1).bind λx_5=>
 au (x_5.2.2==0)
 ((x_5.1).bind λx_6=>
 (dN tb1 x_6).bind λx_7=>
 au x_7.2
 (some (x_7.1,10))
 (some (⟨0,0⟩,0)))
 (some (x_5.2.1,x_5.2.2)))
 (λe=>Empty.elim e)
 (λe=>some (e.1,e.2)))
def aA (v22:Int) (tb1:Trace) (vb2:aa) (vb3:Int) (v23:Int):Option (Fw Int Unit (aa×Int)):=
 au (decide (v23<v22))
 ((cT tb1 v23).bind λx_2=>
 au (x_2==0)
 (some (.n (IntKind.wrap .i64 (v23+1))))
 (some (.r ((⟨v23,0⟩:aa),x_2))))
 (some (.x ()))
def W1 (v22 v23:Int) (tb1:Trace) (vb2:aa) (vb3:Int):Option (aa×Int):=
 (aS (λq:Int=>aA v22 tb1 vb2 vb3 q) v23).bind (Fw.elim
 (λe=>(gM tb1).bind λx_4=>
 eV.E2 x_4 tb1 vb2 vb3)
 (λe=>some (e.1,e.2)))
end eV
def eV (t0:Trace):Option (aa×Int):=
 (kf (len t0.procs) 1 8).bind λx_1=>
 au x_1
 (eV.W1 (len t0.procs) 0 t0 (⟨0,0⟩:aa) 0)
 (some (⟨0,0⟩,1))
open eV in
instance Rp (t0:Trace):Fc Sy cL (eV t0):=Fc.M 96 [enc t0] (cu 2 1 t0 (aU 9 t0.procs (aN 0 λx_1 _=>cq 3 18 (aU 8 t0.procs (bU 5 (λqW1=>(aL [Pv 1,Pv 2,Pv 3,Iv 22 (len t0.procs),Iv 23 qW1] [Xb 1 t0,Xb 2 (⟨0,0⟩:aa),(3,.box [iv 0])])) (λeW1=>(0,(aL [Pv 1,Pv 2,Pv 3] [Xb 1 t0,Xb 2 (⟨0,0⟩:aa),(3,.box [iv 0])]))) (λeW1=>(aL [Pv 2,Pv 3] [Xb 2 eW1.1,(3,.box [iv eW1.2])])) (λqW1=>aI 7 24 (aN 15 λx_2 _=>cq 9 30 ai ai) ai) (λeW1=>aN 6 λx_4 _=>G0 λits hits=>Cs 4 [Pv 1,Pv 2,Pv 3,(36,.v (.clo 156 [] [.fptr (cells x_4)]))] (λqE2=>[Xb 1 t0,Xb 2 (⟨0,0⟩:aa),(3,.box [iv 0])]) (λeE2=>Empty.elim eE2) (λeE2=>[Xb 1 t0,Xb 2 eE2.1,(3,.box [iv eE2.2])]) (vA x_4 its hits) (λxE2 qE2=>oE 8 7 0 xE2.2 (AM 1 (aN 7 λx_3 _=>cq 9 44 ai ai))) (λqE2=>aN 5 λx_5 _=>cq 17 54 (ZD 8 (λoo=>(aL [Pv 2,Pv 3,(36,.v (.clo 156 [] [.fptr (cells x_4)])),Pv 10,Iv 11 x_5.2.2,Bv 54 false,Cv 58 t0,Cv 59 oo] [Xb 1 t0,Xb 2 (⟨0,0⟩:aa),(3,.box [iv 0]),Xb 10 x_5.2.1])) λx_6 _=>aN 0 λx_7 _=>aI 13 63 ai ai) ai) (λx=>Empty.elim x) (λeE2=>ai)) (λeW1=>ai))) ai)))
def dw (t0:Trace):Option Bool:=
 (eV t0).bind λx_1=>
 some (x_1.2==0)
instance Rk (t0:Trace):Fc Sy cL (dw t0):=Fc.M 54 [enc t0] (cu 2 1 t0 (aN 6 λx_1 _=>ai))
def kB (c0:Sl Int) (v1:Trace):Option Bool:=
 some (!((len c0)==(len v1.procs)))
instance Rb (c0:Sl Int) (v1:Trace):Fc Sy cL (kB c0 v1):=Fc.M 162 [enc c0,.fptr (cells v1)] (aU 8 c0 (aU 2 v1.procs ai))
def wY (t0:Trace) (l1:Sl (Sl Int)):Option Bool:=
 (dw t0).bind λx_1=>
 (au x_1
 ((fB l1 (λz=>kB z t0)).bind λx_2=>
 some (!x_2))
 (some false):Option Bool).bind λx_3=>
 some x_3
instance WO (t0:Trace) (l1:Sl (Sl Int)):Fc Sy cL (wY t0 l1):=Fc.M 123 [enc t0,enc l1] (cu 2 2 t0 (aN 6 λx_1 _=>aY 1 5 [1,2,7] 12 (aI 1 7 (iW (F:=lu 162 [.fptr (cells t0)] (λz=>kB z t0) jo.rT l1) 2 λx_2 _=>aH 2) (aH 5)) λx_3=>ai))
namespace gJ
def aA (v7:Sl Int) (v8:Int) (tb2:Trace) (v9:Int):Option (Fw Int Unit Unit):=
 au (decide (v9<v8))
 ((idx v7 v9).bind λx_1=>
 (au (decide (x_1<0))
 (some true)
 ((idx tb2.procs v9).bind λx_2=>
 some (decide (x_1>(len x_2.events)))):Option Bool).bind λx_3=>
 au x_3
 (some (.r ()))
 (some (.n (IntKind.wrap .i64 (v9+1)))))
 (some (.x ()))
def W1 (v7:Sl Int) (v8 v9:Int) (tb2:Trace):Option Bool:=
 (aS (λq:Int=>aA v7 v8 tb2 q) v9).bind (Fw.elim
 (λe=>some true)
 (λe=>some false))
end gJ
def gJ (t0:Trace) (c1:Sl Int):Option Bool:=
 gJ.W1 c1 (len c1) 0 t0
open gJ in
instance Rq (t0:Trace) (c1:Sl Int):Fc Sy cL (gJ t0 c1):=Fc.M 124 [enc t0,enc c1] (cu 2 2 t0 (aU 7 c1 (bU 5 (λqW1=>(aL [Pv 2,Cv 7 c1,Iv 8 (len c1),Iv 9 qW1] [Xb 2 t0])) (λeW1=>(0,(aL [] []))) (λeW1=>(aL [Bv 4 false] [])) (λqW1=>aI 7 10 (aW 8 λx_1 _=>aY 10 10 [5,6,16] 26 (aI 10 16 (aH 10) (aW 4 λx_2 _=>aU 2 x_2.events (aH 2))) λx_3=>aI 2 26 ai ai) ai) (λeW1=>ai) (λeW1=>ai))))
def yR (t0:Trace) (p1:Int):Option Bool:=
 (au (decide (p1>=0))
 (some (decide (p1<(len t0.procs))))
 (some false):Option Bool).bind λx_1=>
 some x_1
instance RB (t0:Trace) (p1:Int):Fc Sy cL (yR t0 p1):=Fc.M 125 [enc t0,.int .i64 p1] (cu 2 2 t0 (aY 8 6 [1,2,7] 13 (aI 8 7 (aU 3 t0.procs (aH 2)) (aH 6)) λx_1=>ai))
namespace i_
def oS (vk0_15:Trace) (kindb4 mb5:Int) (vb6:aa) (vb7:Bool) (x:aa×Event):Option (Fw Unit Empty aa):=
 (au (x.2.kind==kindb4)
 (some (x.2.message==mb5))
 (some false):Option Bool).bind λx_3=>
 au x_3
 (some (.r x.1))
 (some (.n ()))
def E1 (vk0_15:Trace) (kindb4 mb5:Int) (vb6:aa) (vb7:Bool):Option (aa×Bool):=
 (gj vk0_15).bind λits=>(kQ (λ(x:aa×Event) (q:Unit)=>oS vk0_15 kindb4 mb5 vb6 vb7 x) its ()).bind (Fw.tV
 (λq=>some (⟨0,0⟩,false))
 (λe=>Empty.elim e)
 (λe=>some (e,true)))
end i_
def i_ (t0:Trace) (kind1 m2:Int):Option (aa×Bool):=
 (dw t0).bind λx_1=>
 au x_1
 ((gM t0).bind λx_2=>
 i_.E1 x_2 kind1 m2 (⟨0,0⟩:aa) false)
 (some (⟨0,0⟩,false))
open i_ in
instance VO (t0:Trace) (kind1 m2:Int):Fc Sy cL (i_ t0 kind1 m2):=Fc.M 191 [enc t0,.int .i64 kind1,.int .i64 m2] (cu 2 3 t0 (aN 10 λx_1 _=>cq 3 12 (aN 7 λx_2 _=>G0 λits hits=>Cs 4 [Pv 4,Pv 5,Pv 6,Pv 7,(15,.v (.clo 156 [] [.fptr (cells x_2)]))] (λqE1=>[(4,.box [iv kind1]),(5,.box [iv m2]),Xb 6 (⟨0,0⟩:aa),(7,.box [bv false])]) (λeE1=>Empty.elim eE1) (λeE1=>[(4,.box [iv kind1]),(5,.box [iv m2]),Xb 6 eE1,(7,.box [bv true])]) (vA x_2 its hits) (λxE1 qE1=>oE 8 9 0 xE1.2 (AM 1 (aY 9 5 [9,22] 27 (aI 9 22 (aH 5) (aH 5)) λx_3=>aI 2 27 ai ai))) (λqE1=>ai) (λx=>Empty.elim x) (λeE1=>ai)) ai))
def pF (t0:Trace) (m1:Int):Option (aa×Bool):=
 (i_ t0 2 m1).bind λx_1=>
 some (x_1.1,x_1.2)
instance NI (t0:Trace) (m1:Int):Fc Sy cL (pF t0 m1):=Fc.M 163 [enc t0,.int .i64 m1] (cu 2 2 t0 (aN 8 λx_1 _=>ai))
namespace eT
def bf (c1:Sl Int) (p7:Int) (v13:Sl Int) (v14 v15:Int) (v27:Sl Event) (v28:Int) (tb2:Trace) (sendb4 receiveb5:aa) (v29:Int):Option (Fw Int Unit (aa×aa)):=
 au (decide (v29<v28))
 ((idx v27 v29).bind λx_4=>
 au (x_4.kind==3)
 ((pF tb2 x_4.message).bind λx_5=>
 (idx c1 x_5.1.proc).bind λx_6=>
 au (decide (x_5.1.index>x_6))
 (some (.r (x_5.1,(⟨p7,IntKind.wrap .i64 (v29+1)⟩:aa))))
 (some (.n (IntKind.wrap .i64 (v29+1)))))
 (some (.n (IntKind.wrap .i64 (v29+1)))))
 (some (.x ()))
def W2 (c1:Sl Int) (p7:Int) (v13:Sl Int) (v14 v15:Int) (v27:Sl Event) (v28 v29:Int) (tb2:Trace) (sendb4 receiveb5:aa):Option (Fw Int Unit (aa×aa)):=
 (aS (λq:Int=>bf c1 p7 v13 v14 v15 v27 v28 tb2 sendb4 receiveb5 q) v29).bind (Fw.elim
 (λe=>some (.n (IntKind.wrap .i64 (v15+1))))
 (λe=>some (.r (e.1,e.2))))
def aA (c1 v13:Sl Int) (v14:Int) (tb2:Trace) (sendb4 receiveb5:aa) (v15:Int):Option (Fw Int Unit (aa×aa)):=
 au (decide (v15<v14))
 ((idx v13 v15).bind λx_1=>
 (idx tb2.procs v15).bind λx_2=>
 (fP x_2.events none (some x_1)).bind λx_3=>
 W2 c1 v15 v13 v14 v15 x_3 (len x_3) 0 tb2 sendb4 receiveb5)
 (some (.x ()))
def W1 (c1 v13:Sl Int) (v14 v15:Int) (tb2:Trace) (sendb4 receiveb5:aa):Option (aa×aa×Bool):=
 (aS (λq:Int=>aA c1 v13 v14 tb2 sendb4 receiveb5 q) v15).bind (Fw.elim
 (λe=>some (⟨0,0⟩,⟨0,0⟩,false))
 (λe=>some (e.1,e.2,true)))
end eT
def eT (t0:Trace) (c1:Sl Int):Option (aa×aa×Bool):=
 eT.W1 c1 c1 (len c1) 0 t0 (⟨0,0⟩:aa) (⟨0,0⟩:aa)
open eT in
instance Rr (t0:Trace) (c1:Sl Int):Fc Sy cL (eT t0 c1):=Fc.M 127 [enc t0,enc c1] (cu 2 2 t0 (aU 9 c1 (bU 5 (λqW1=>(aL [Cv 1 c1,Pv 2,Pv 4,Pv 5,Cv 13 c1,Iv 14 (len c1),Iv 15 qW1] [Xb 2 t0,Xb 4 (⟨0,0⟩:aa),Xb 5 (⟨0,0⟩:aa)])) (λeW1=>(0,(aL [Pv 4,Pv 5] [Xb 4 (⟨0,0⟩:aa),Xb 5 (⟨0,0⟩:aa)]))) (λeW1=>(aL [Pv 4,Pv 5,Bv 6 true] [Xb 4 eW1.1,Xb 5 eW1.2])) (λqW1=>aI 7 16 (aW 8 λx_1 _=>aW 10 λx_2 _=>Bq 3 false true [.int .i64 x_1] λx_3 _=>aU 0 x_3 (bU 5 (λqW2=>(aL [Cv 1 c1,Pv 2,Pv 4,Pv 5,Iv 7 qW1,Cv 13 c1,Iv 14 (len c1),Iv 15 qW1,Cv 27 x_3,Iv 28 (len x_3),Iv 29 qW2] [Xb 2 t0,Xb 4 (⟨0,0⟩:aa),Xb 5 (⟨0,0⟩:aa)])) (λeW2=>(2,(aL [Cv 1 c1,Pv 2,Pv 4,Pv 5,Cv 13 c1,Iv 14 (len c1),Iv 15 qW1] [Xb 2 t0,Xb 4 (⟨0,0⟩:aa),Xb 5 (⟨0,0⟩:aa)]))) (λeW2=>(aL [Pv 4,Pv 5,Bv 6 true] [Xb 4 eW2.1,Xb 5 eW2.2])) (λqW2=>aI 7 30 (aW 8 λx_4 _=>oE 3 10 0 x_4 (cq 10 36 (aN 8 λx_5 _=>aW 15 λx_6 _=>aI 4 51 ai ai) ai)) ai) (λeW2=>ai) (λeW2=>ai))) ai) (λeW1=>ai) (λeW1=>ai))))
def vj (t0:Trace) (c1:Sl Int):Option Bool:=
 (eT t0 c1).bind λx_1=>
 some (!x_1.2.2)
instance Vi (t0:Trace) (c1:Sl Int):Fc Sy cL (vj t0 c1):=Fc.M 126 [enc t0,enc c1] (cu 2 2 t0 (aN 7 λx_1 _=>ai))
namespace dQ
def dG (v39:Sl (Sl Int)) (v40:Int) (tb3:Trace) (v41:Int):Option (Fw Int Unit Unit):=
 au (decide (v41<v40))
 ((idx v39 v41).bind λx_6=>
 (vj tb3 x_6).bind λx_7=>
 au x_7
 (some (.n (IntKind.wrap .i64 (v41+1))))
 (some (.r ())))
 (some (.x ()))
def W3 (v39:Sl (Sl Int)) (v40 v41:Int) (tb3:Trace):Option Int:=
 (aS (λq:Int=>dG v39 v40 tb3 q) v41).bind (Fw.elim
 (λe=>some 0)
 (λe=>some 18))
def bf (l1:Sl (Sl Int)) (v28:Sl Int) (v29:Int) (tb3:Trace) (v30:Int):Option (Fw Int Unit Unit):=
 au (decide (v30<v29))
 ((idx v28 v30).bind λx_4=>
 (yR tb3 x_4).bind λx_5=>
 au x_5
 (some (.n (IntKind.wrap .i64 (v30+1))))
 (some (.r ())))
 (some (.x ()))
def W2 (l1:Sl (Sl Int)) (v28:Sl Int) (v29 v30:Int) (tb3:Trace):Option Int:=
 (aS (λq:Int=>bf l1 v28 v29 tb3 q) v30).bind (Fw.elim
 (λe=>dQ.W3 l1 (len l1) 0 tb3)
 (λe=>some 2))
def aA (l1:Sl (Sl Int)) (procs2:Sl Int) (v17:Sl (Sl Int)) (v18:Int) (tb3:Trace) (v19:Int):Option (Fw Int Unit Unit):=
 au (decide (v19<v18))
 ((idx v17 v19).bind λx_2=>
 (gJ tb3 x_2).bind λx_3=>
 au x_3
 (some (.n (IntKind.wrap .i64 (v19+1))))
 (some (.r ())))
 (some (.x ()))
def W1 (l1:Sl (Sl Int)) (procs2:Sl Int) (v17:Sl (Sl Int)) (v18 v19:Int) (tb3:Trace):Option Int:=
 (aS (λq:Int=>aA l1 procs2 v17 v18 tb3 q) v19).bind (Fw.elim
 (λe=>dQ.W2 l1 procs2 (len procs2) 0 tb3)
 (λe=>some 2))
end dQ
def dQ (t0:Trace) (l1:Sl (Sl Int)) (procs2:Sl Int):Option Int:=
 (wY t0 l1).bind λx_1=>
 au x_1
 (dQ.W1 l1 procs2 l1 (len l1) 0 t0)
 (some 1)
open dQ in
instance WS (t0:Trace) (l1:Sl (Sl Int)) (procs2:Sl Int):Fc Sy cL (dQ t0 l1 procs2):=Fc.M 99 [enc t0,enc l1,enc procs2] (cu 2 3 t0 (aN 8 λx_1 _=>cq 3 16 (aU 7 l1 (bU 5 (λqW1=>(aL [Cv 1 l1,Cv 2 procs2,Pv 3,Cv 17 l1,Iv 18 (len l1),Iv 19 qW1] [Xb 3 t0])) (λeW1=>(0,(aL [Cv 1 l1,Cv 2 procs2,Pv 3] [Xb 3 t0]))) (λeW1=>(aL [Iv 6 2] [])) (λqW1=>aI 7 20 (aW 7 λx_2 _=>aN 8 λx_3 _=>cq 3 26 ai ai) ai) (λeW1=>aU 6 procs2 (bU 5 (λqW2=>(aL [Cv 1 l1,Pv 3,Cv 28 procs2,Iv 29 (len procs2),Iv 30 qW2] [Xb 3 t0])) (λeW2=>(2,(aL [Cv 1 l1,Pv 3] [Xb 3 t0]))) (λeW2=>(aL [Iv 6 2] [])) (λqW2=>aI 7 31 (aW 7 λx_4 _=>aN 8 λx_5 _=>cq 3 37 ai ai) ai) (λeW2=>aU 6 l1 (bU 5 (λqW3=>(aL [Pv 3,Cv 39 l1,Iv 40 (len l1),Iv 41 qW3] [Xb 3 t0])) (λeW3=>(4,(aL [] []))) (λeW3=>(aL [Iv 6 18] [])) (λqW3=>aI 7 42 (aW 7 λx_6 _=>aN 8 λx_7 _=>cq 3 48 ai ai) ai) (λeW3=>ai) (λeW3=>ai))) (λeW2=>ai))) (λeW1=>ai))) ai))
def iA (t0:Trace) (c1:Sl Int):Option Bool:=
 (dQ t0 (Sl.row [c1]:Sl (Sl Int)) (Sl.nil:Sl Int)).bind λx_1=>
 some (x_1==0)
instance KS (t0:Trace) (c1:Sl Int):Fc Sy cL (iA t0 c1):=Fc.M 63 [enc t0,enc c1] (cu 2 2 t0 (E7 7 7 ([c1]:List (Sl Int)) (iW 0 λx_1 _=>ai)))
namespace ir
def aA (a0 b1:Sl Int) (v12:Int) (v13:Int):Option (Fw Int Unit Unit):=
 au (decide (v13<v12))
 ((idx a0 v13).bind λx_1=>
 (idx b1 v13).bind λx_2=>
 au (decide (x_1>x_2))
 (some (.r ()))
 (some (.n (IntKind.wrap .i64 (v13+1)))))
 (some (.x ()))
def W1 (a0 b1:Sl Int) (v12 v13:Int):Option Bool:=
 (aS (λq:Int=>aA a0 b1 v12 q) v13).bind (Fw.elim
 (λe=>some true)
 (λe=>some false))
end ir
def ir (a0 b1:Sl Int):Option Bool:=
 au ((len a0)==(len b1))
 (ir.W1 a0 b1 (len a0) 0)
 (some false)
open ir in
instance X3 (a0 b1:Sl Int):Fc Sy cL (ir a0 b1):=Fc.M 24 [enc a0,enc b1] (aU 9 a0 (aU 1 b1 (cq 3 10 (aU 7 a0 (bU 5 (λqW1=>(aL [Cv 0 a0,Cv 1 b1,Iv 12 (len a0),Iv 13 qW1] [])) (λeW1=>(0,(aL [] []))) (λeW1=>(aL [Bv 4 false] [])) (λqW1=>aI 7 14 (aW 15 λx_1 _=>aW 3 λx_2 _=>aI 4 24 ai ai) ai) (λeW1=>ai) (λeW1=>ai))) ai)))
namespace fh
def aA (v37:Sl (Sl (Sl Int))) (v38:Int) (tb2:Trace) (v39:Int):Option (Fw Int Unit Unit):=
 au (decide (v39<v38))
 ((idx v37 v39).bind λx_7=>
 (idx tb2.procs v39).bind λx_8=>
 au ((len x_7)==(len x_8.events))
 (some (.n (IntKind.wrap .i64 (v39+1))))
 (some (.r ())))
 (some (.x ()))
def W1 (v37:Sl (Sl (Sl Int))) (v38 v39:Int) (tb2:Trace):Option Bool:=
 (aS (λq:Int=>aA v37 v38 tb2 q) v39).bind (Fw.elim
 (λe=>some true)
 (λe=>some false))
end fh
def fh (t0:Trace) (s1:Slice):Option Bool:=
 (iA t0 s1.first).bind λx_1=>
 (au x_1
 ((iA t0 s1.last).bind λx_2=>
 some (!x_2))
 (some true):Option Bool).bind λx_3=>
 (au x_3
 (some true)
 ((ir s1.first s1.last).bind λx_4=>
 some (!x_4)):Option Bool).bind λx_5=>
 (au x_5
 (some true)
 (some (!((len s1.j)==(len t0.procs)))):Option Bool).bind λx_6=>
 au x_6
 (some false)
 (fh.W1 s1.j (len s1.j) 0 t0)
open fh in
instance QJ (t0:Trace) (s1:Slice):Fc Sy cL (fh t0 s1):=Fc.M 55 [enc t0,enc s1] (cu 2 2 t0 (cu 0 3 s1 (aN 9 λx_1 _=>aY 2 6 [12] 18 (cq 2 12 (aN 3 λx_2 _=>aH 2) (aH 6)) λx_3=>aY 1 7 [19] 26 (aI 1 19 (aH 7) (aN 4 λx_4 _=>aH 2)) λx_5=>aY 1 8 [27] 35 (aI 1 27 (aH 8) (aU 2 s1.j (aU 2 t0.procs (aH 2)))) λx_6=>aI 2 35 ai (aU 8 s1.j (bU 5 (λqW1=>(aL [Pv 2,Cv 37 s1.j,Iv 38 (len s1.j),Iv 39 qW1] [Xb 2 t0])) (λeW1=>(0,(aL [] []))) (λeW1=>(aL [Bv 4 false] [])) (λqW1=>aI 7 40 (aW 8 λx_7 _=>aU 8 x_7 (aW 3 λx_8 _=>aU 2 x_8.events (cq 3 53 ai ai))) ai) (λeW1=>ai) (λeW1=>ai))))))
namespace eS
def aA (v7:Sl bG) (v8:Int) (out3:Sl Int) (v9:Int):Option (Fw ((Sl Int)×Int) (Sl Int) Empty):=
 au (decide (v9<v8))
 ((idx v7 v9).bind λx_1=>
 (jC out3 (len x_1.events:Int)).bind λx_2=>
 some (.n (x_2,IntKind.wrap .i64 (v9+1))))
 (some (.x out3))
def W1 (out3:Sl Int) (v7:Sl bG) (v8 v9:Int):Option (Sl Int):=
 (aS (λq:(Sl Int)×Int=>aA v7 v8 q.1 q.2) (out3,v9)).bind (Fw.elim
 (λe=>some e)
 (λe=>Empty.elim e))
end eS
def eS (t0:Trace):Option (Sl Int):=
 eS.W1 (Sl.nil:Sl Int) t0.procs (len t0.procs) 0
open eS in
instance Rl (t0:Trace):Fc Sy cL (eS t0):=Fc.N 57 [enc t0] (cu 2 1 t0 (aU 13 t0.procs (mh 6 (λqW1=>(aL [Ov 3,Cv 7 t0.procs,Iv 8 (len t0.procs),Iv 9 qW1.2] [Lb 2003 qW1.1])) (λeW1=>(0,(aL [Ov 3] [Lb 2003 eW1]))) (λqW1=>aI 8 10 (aW 7 λx_1 _=>oE 2 5 0 x_1 (aU 6 x_1.events (wj 1 2003 17 18 λx_2 _=>ai))) ai) (λeW1=>ai))))
def iU (s0:Slice) (x1:aa):Option (Sl Int):=
 (idx s0.j x1.proc).bind λx_1=>
 (idx x_1 (IntKind.wrap .i64 (x1.index-1))).bind λx_2=>
 some x_2
instance Nt (s0:Slice) (x1:aa):Fc Sy cL (iU s0 x1):=Fc.N 61 [enc s0,enc x1] (cu 2 2 s0 (aW 10 λx_1 _=>aW 4 λx_2 _=>ai))
def mN (x0:aa) (c1:Sl Int):Option Bool:=
 (idx c1 x0.proc).bind λx_1=>
 some (decide (x0.index<=x_1))
instance XO (x0:aa) (c1:Sl Int):Fc Sy cL (mN x0 c1):=Fc.M 97 [enc x0,enc c1] (aW 13 λx_1 _=>ai)
namespace dm
def aA (s10 s21:Sl Int) (v12:Int) (v13:Int):Option (Fw Int Unit Unit):=
 au (decide (v13<v12))
 ((idx s10 v13).bind λx_1=>
 (idx s21 v13).bind λx_2=>
 au (x_1==x_2)
 (some (.n (IntKind.wrap .i64 (v13+1))))
 (some (.r ())))
 (some (.x ()))
def W1 (s10 s21:Sl Int) (v12 v13:Int):Option Bool:=
 (aS (λq:Int=>aA s10 s21 v12 q) v13).bind (Fw.elim
 (λe=>some true)
 (λe=>some false))
end dm
def dm (s10 s21:Sl Int):Option Bool:=
 au ((len s10)==(len s21))
 (dm.W1 s10 s21 (len s10) 0)
 (some false)
open dm in
instance HV (s10 s21:Sl Int):Fc Sy cL (dm s10 s21):=Fc.M 98 [enc s10,enc s21] (aU 9 s10 (aU 1 s21 (cq 3 10 (aU 7 s10 (bU 5 (λqW1=>(aL [Cv 0 s10,Cv 1 s21,Iv 12 (len s10),Iv 13 qW1] [])) (λeW1=>(0,(aL [] []))) (λeW1=>(aL [Bv 4 false] [])) (λqW1=>aI 7 14 (aW 15 λx_1 _=>aW 3 λx_2 _=>cq 4 24 ai ai) ai) (λeW1=>ai) (λeW1=>ai))) ai)))
def qQ (t0:Trace) (s1:Slice) (x2:aa):Option Bool:=
 (iU s1 x2).bind λx_1=>
 (mN x2 s1.last).bind λx_2=>
 au x_2
 ((mN x2 s1.first).bind λx_3=>
 au x_3
 ((dm x_1 s1.first).bind λx_4=>
 some x_4)
 ((iA t0 x_1).bind λx_5=>
 (au x_5
 ((mN x2 x_1).bind λx_6=>
 some x_6)
 (some false):Option Bool).bind λx_7=>
 (au x_7
 ((ir s1.first x_1).bind λx_8=>
 some x_8)
 (some false):Option Bool).bind λx_9=>
 (au x_9
 ((ir x_1 s1.last).bind λx_10=>
 some x_10)
 (some false):Option Bool).bind λx_11=>
 some x_11))
 (some ((len x_1)==0))
instance Ry (t0:Trace) (s1:Slice) (x2:aa):Fc Sy cL (qQ t0 s1 x2):=Fc.M 59 [enc t0,enc s1,enc x2] (cu 2 3 t0 (cu 0 4 s1 (aN 8 λx_1 _=>aN 10 λx_2 _=>cq 4 11 (aN 6 λx_3 _=>aI 3 20 (aN 6 λx_4 _=>ai) (aN 8 λx_5 _=>aY 1 4 [5,32] 36 (aI 1 32 (aN 2 λx_6 _=>aH 1) (aH 4)) λx_7=>aY 1 5 [37] 42 (aI 1 37 (aN 3 λx_8 _=>aH 1) (aH 5)) λx_9=>aY 1 5 [4,7,43] 48 (aI 1 43 (aN 3 λx_10 _=>aH 1) (aH 5)) λx_11=>ai)) (aU 4 x_1 ai))))
def kE (x0:aa) (v1:Trace) (v2:Slice):Option Bool:=
 (qQ v1 v2 x0).bind λx_1=>
 some x_1
instance Km (x0:aa) (v1:Trace) (v2:Slice):Fc Sy cL (kE x0 v1 v2):=Fc.M 58 [enc x0,.fptr (cells v1),.fptr (cells v2)] (aN 11 λx_1 _=>ai)
namespace dn
def bf (p5:Int) (v8:Sl Int) (v9 v10 v15:Int) (v16:Int) (p1:aa->Option Bool):Option (Fw Int Unit Unit):=
 au (decide (v16<v15))
 ((p1 (⟨p5,IntKind.wrap .i64 (v16+1)⟩:aa)).bind λx_2=>
 au x_2
 (some (.n (IntKind.wrap .i64 (v16+1))))
 (some (.r ())))
 (some (.x ()))
def W2 (p5:Int) (v8:Sl Int) (v9 v10 v15 v16:Int) (p1:aa->Option Bool):Option (Fw Int Unit Unit):=
 (aS (λq:Int=>bf p5 v8 v9 v10 v15 q p1) v16).bind (Fw.elim
 (λe=>some (.n (IntKind.wrap .i64 (v10+1))))
 (λe=>some (.r ())))
def aA (v8:Sl Int) (v9:Int) (v10:Int) (p1:aa->Option Bool):Option (Fw Int Unit Unit):=
 au (decide (v10<v9))
 ((idx v8 v10).bind λx_1=>
 W2 v10 v8 v9 v10 x_1 0 p1)
 (some (.x ()))
def W1 (v8:Sl Int) (v9 v10:Int) (p1:aa->Option Bool):Option Bool:=
 (aS (λq:Int=>aA v8 v9 q p1) v10).bind (Fw.elim
 (λe=>some true)
 (λe=>some false))
end dn
def dn (c0:Sl Int) (p1:aa->Option Bool):Option Bool:=
 dn.W1 c0 (len c0) 0 p1
open dn in
abbrev tn (g1:FuncId) (e1:List V) (p1:aa->Option Bool) (h1:jo Sy cL g1 e1 (λz:aa=>[enc z]) (λr:Bool=>[.bool r]) p1) (c0:Sl Int):Fc Sy cL (dn c0 p1):=Fc.M 56 [enc c0,.clo g1 [] e1] (aU 9 c0 (bU 5 (λqW1=>(aL [(1,.v (.clo g1 [] e1)),Cv 8 c0,Iv 9 (len c0),Iv 10 qW1] [])) (λeW1=>(0,(aL [] []))) (λeW1=>(aL [Bv 4 false] [])) (λqW1=>aI 7 11 (aW 8 λx_1 _=>bU 13 (λqW2=>(aL [(1,.v (.clo g1 [] e1)),Iv 5 qW1,Cv 8 c0,Iv 9 (len c0),Iv 10 qW1,Iv 15 x_1,Iv 16 qW2] [])) (λeW2=>(2,(aL [(1,.v (.clo g1 [] e1)),Cv 8 c0,Iv 9 (len c0),Iv 10 qW1] []))) (λeW2=>(aL [Bv 4 false] [])) (λqW2=>aI 7 17 (rW 18 h1.f (⟨qW1,IntKind.wrap .i64 (qW2+1)⟩:aa) λx_2 _=>cq 3 25 ai ai) ai) (λeW2=>ai) (λeW2=>ai)) ai) (λeW1=>ai) (λeW1=>ai))) (l:=by simp[h1.d])
def ko (y0:aa) (v1:Slice) (v2:Sl Int):Option Bool:=
 (iU v1 y0).bind λx_1=>
 (ir x_1 v2).bind λx_2=>
 some x_2
instance HS (y0:aa) (v1:Slice) (v2:Sl Int):Fc Sy cL (ko y0 v1 v2):=Fc.M 62 [enc y0,.fptr (cells v1),.fptr (cells v2)] (aN 10 λx_1 _=>iW 1 λx_2 _=>ai)
def nj (x0:aa) (v1:Slice):Option Bool:=
 (iU v1 x0).bind λx_1=>
 (dn x_1 (λz=>ko z v1 x_1)).bind λx_2=>
 some x_2
instance LF (x0:aa) (v1:Slice):Fc Sy cL (nj x0 v1):=Fc.M 60 [enc x0,.fptr (cells v1)] (aN 10 λx_1 _=>oE 1 4 0 x_1 (iW (F:=tn 62 [.fptr (cells v1),.fptr (cells x_1)] (λz=>ko z v1 x_1) jo.rT x_1) 6 λx_2 _=>ai))
def j_ (t0:Trace) (s1:Slice):Option Bool:=
 (dw t0).bind λx_1=>
 au x_1
 (au s1.empty
 ((au ((len s1.first)==0)
 (some ((len s1.last)==0))
 (some false):Option Bool).bind λx_2=>
 (au x_2
 (some ((len s1.j)==0))
 (some false):Option Bool).bind λx_3=>
 some x_3)
 ((fh t0 s1).bind λx_4=>
 (au x_4
 ((eS t0).bind λx_5=>
 (dn x_5 (λz=>kE z t0 s1)).bind λx_6=>
 some (!x_6))
 (some true):Option Bool).bind λx_7=>
 au x_7
 (some false)
 ((dn s1.last (λz=>nj z s1)).bind λx_8=>
 some x_8)))
 (some false)
instance Ro (t0:Trace) (s1:Slice):Fc Sy cL (j_ t0 s1):=Fc.M 17 [enc t0,enc s1] (cu 2 2 t0 (cu 0 3 s1 (aN 7 λx_1 _=>cq 3 7 (aI 10 9 (aU 5 s1.first (aY 2 5 [14] 19 (aI 2 14 (aU 2 s1.last (aH 2)) (aH 5)) λx_2=>aY 1 5 [3,20] 25 (aI 1 20 (aU 2 s1.j (aH 2)) (aH 5)) λx_3=>ai)) (aN 8 λx_4 _=>aY 2 6 [2,30] 36 (cq 2 30 (aN 1 λx_5 _=>iW (F:=tn 58 [.fptr (cells t0),.fptr (cells s1)] (λz=>kE z t0 s1) jo.rT x_5) 1 λx_6 _=>aH 2) (aH 6)) λx_7=>aI 2 36 ai (iW (F:=tn 60 [.fptr (cells s1)] (λz=>nj z s1) jo.rT s1.last) 8 λx_8 _=>ai))) ai)))
def kV (s0:Sl Int):Option (Sl Int):=
 (Sl.isNil s0).bind λx_1=>
 au x_1
 (some Sl.nil)
 ((qt (Sl.row []:Sl Int) s0).bind λx_2=>
 some x_2)
theorem uX:C6 Sy cL 72 (λs0:Sl Int=>[enc s0]) (λz=>kV z):=C6.mk' (AF (Tx 72)) (λs0=>ZL 9 λx_1 _=>aI 2 4 ai (CY 7 5 7 λx_2 _=>ai))
def kg (c:Sl Int):Option (bh 8 Int):=some (pN 8 c)
instance Rm (c:Sl Int):Fc Sy cL (kg c):=Fc.of (A:=λz:Sl Int=>[enc z]) (E:=λr:bh 8 Int=>[enc r]) (p:=kg) (n:=89) (z:=c) (kj.TV (by kernel_rfl) (by kernel_rfl) (λz r h=>by
 cases h;exact xo (P7 (by kernel_rfl) rfl (λ_=>rfl) z)))
namespace fE
def aA (a0 b1:Sl Int) (v13:Int) (out7:Sl Int) (v14:Int) (p2:(Int×Int)->Option Int):Option (Fw ((Sl Int)×Int) (Sl Int) Empty):=
 au (decide (v14<v13))
 ((idx a0 v14).bind λx_2=>
 (idx b1 v14).bind λx_3=>
 (p2 (x_2,x_3)).bind λx_4=>
 (Sl.mj out7 v14).bind λx_5=>
 (Sl.put out7 x_5 (x_4:Int)).bind λx_6=>
 some (.n (x_6,IntKind.wrap .i64 (v14+1))))
 (some (.x out7))
def W1 (a0 b1 out7:Sl Int) (v13 v14:Int) (p2:(Int×Int)->Option Int):Option (Sl Int):=
 (aS (λq:(Sl Int)×Int=>aA a0 b1 v13 q.1 q.2 p2) (out7,v14)).bind (Fw.elim
 (λe=>some e)
 (λe=>Empty.elim e))
end fE
def fE (a0 b1:Sl Int) (p2:(Int×Int)->Option Int):Option (Sl Int):=
 (tj (len a0) (0:Int)).bind λx_1=>
 fE.W1 a0 b1 x_1 (len a0) 0 p2
open fE in
abbrev z6 (g2:FuncId) (e2:List V) (p2:(Int×Int)->Option Int) (h2:jo Sy cL g2 e2 (λz:Int×Int=>[.int .i64 z.1,.int .i64 z.2]) (λr:Int=>[.int .i64 r]) p2) (a0 b1:Sl Int):Fc Sy cL (fE a0 b1 p2):=Fc.N 103 [enc a0,enc b1,.clo g2 [] e2] (aU 8 a0 (Yf 0 11 λx_1 _=>aU 7 a0 (mh 6 (λqW1=>(aL [Cv 0 a0,Cv 1 b1,(2,.v (.clo g2 [] e2)),Ov 7,Iv 13 (len a0),Iv 14 qW1.2] [Lb 2007 qW1.1])) (λeW1=>(0,(aL [Ov 7] [Lb 2007 eW1]))) (λqW1=>aI 8 15 (aW 17 λx_2 _=>aW 3 λx_3 _=>rW 1 h2.f (x_2,x_3) λx_4 _=>pX .i64 0 2007 λx_5 _=>Mt 0 2007 (.int .i64 x_4) λx_6 _=>ai) ai) (λeW1=>ai)))) (l:=by simp[h2.d])
def n_ (x0 y1:Int):Option Int:=
 some (if y1>x0 then y1 else x0)
instance Ng (x0 y1:Int):Fc Sy cL (n_ x0 y1):=Fc.M 105 [.int .i64 x0,.int .i64 y1] (ai)
def p_ (a0 b1:Sl Int):Option (Sl Int):=
 (fE a0 b1 (λz=>n_ z.1 z.2)).bind λx_1=>
 some x_1
instance V4 (a0 b1:Sl Int):Fc Sy cL (p_ a0 b1):=Fc.N 74 [enc a0,enc b1] (aN (F:=z6 105 [] (λz=>n_ z.1 z.2) jo.rT a0 b1) 9 λx_1 _=>ai)
namespace gp
def aA (v6:Sl Int) (v7:Int) (n3 v8:Int):Option (Fw (Int×Int) Int Empty):=
 au (decide (v8<v7))
 ((idx v6 v8).bind λx_1=>
 some (.n (IntKind.wrap .i64 (n3+x_1),IntKind.wrap .i64 (v8+1))))
 (some (.x n3))
def W1 (n3:Int) (v6:Sl Int) (v7 v8:Int):Option Int:=
 (aS (λq:Int×Int=>aA v6 v7 q.1 q.2) (n3,v8)).bind (Fw.elim
 (λe=>some e)
 (λe=>Empty.elim e))
end gp
def gp (c0:Sl Int):Option Int:=
 gp.W1 0 c0 (len c0) 0
open gp in
instance Ty (c0:Sl Int):Fc Sy cL (gp c0):=Fc.M 94 [enc c0] (aU 14 c0 (mh 5 (λqW1=>(aL [Iv 3 qW1.1,Cv 6 c0,Iv 7 (len c0),Iv 8 qW1.2] [])) (λeW1=>(0,(aL [Iv 3 eW1] []))) (λqW1=>aI 7 9 (aW 7 λx_1 _=>ai) ai) (λeW1=>ai)))
def nX (x0:Int):Option Bool:=
 some (!(x0==x0))
instance MJ (x0:Int):Fc Sy cL (nX x0):=Fc.M 116 [.int .i64 x0] (ai)
def jP (x0 y1:Int):Option Int:=
 (nX x0).bind λx_1=>
 (nX y1).bind λx_2=>
 au x_1
 (au x_2
 (some 0)
 (some (-1)))
 (au x_2
 (some 1)
 (au (decide (x0<y1))
 (some (-1))
 (au (decide (x0>y1))
 (some 1)
 (some 0))))
instance JY (x0 y1:Int):Fc Sy cL (jP x0 y1):=Fc.M 93 [.int .i64 x0,.int .i64 y1] (aN 8 λx_1 _=>aN 6 λx_2 _=>aI 9 11 (aI 7 12 ai ai) (aI 9 13 ai (aI 11 16 ai (aI 11 19 ai ai))))
namespace cV
def aA (s10 s21 v9:Sl Int) (v10:Int) (v11:Int):Option (Fw Int Unit Int):=
 au (decide (v11<v10))
 ((idx v9 v11).bind λx_1=>
 au (decide (v11>=(len s21)))
 (some (.r 1))
 ((idx s21 v11).bind λx_2=>
 (jP x_1 x_2).bind λx_3=>
 au (x_3==0)
 (some (.n (IntKind.wrap .i64 (v11+1))))
 (some (.r x_3))))
 (some (.x ()))
def W1 (s10 s21 v9:Sl Int) (v10 v11:Int):Option Int:=
 (aS (λq:Int=>aA s10 s21 v9 v10 q) v11).bind (Fw.elim
 (λe=>au (decide ((len s10)<(len s21)))
 (some (-1))
 (some 0))
 (λe=>some e))
end cV
def cV (s10 s21:Sl Int):Option Int:=
 cV.W1 s10 s21 s10 (len s10) 0
open cV in
instance Hw (s10 s21:Sl Int):Fc Sy cL (cV s10 s21):=Fc.M 95 [enc s10,enc s21] (aU 9 s10 (bU 5 (λqW1=>(aL [Cv 0 s10,Cv 1 s21,Cv 9 s10,Iv 10 (len s10),Iv 11 qW1] [])) (λeW1=>(0,(aL [Cv 0 s10,Cv 1 s21] []))) (λeW1=>(aL [Iv 4 eW1] [])) (λqW1=>aI 7 12 (aW 8 λx_1 _=>aU 10 s21 (aI 3 19 ai (aW 7 λx_2 _=>aN 8 λx_3 _=>cq 9 28 ai ai))) ai) (λeW1=>aU 6 s10 (aU 1 s21 (aI 3 35 ai ai))) (λeW1=>ai)))
namespace gn
def aA (zero3:Int) (v6:Sl Int) (v7:Int) (v8:Int):Option (Fw Int Unit Int):=
 au (decide (v8<v7))
 ((idx v6 v8).bind λx_1=>
 au (x_1==zero3)
 (some (.n (IntKind.wrap .i64 (v8+1))))
 (some (.r x_1)))
 (some (.x ()))
def W1 (zero3:Int) (v6:Sl Int) (v7 v8:Int):Option Int:=
 (aS (λq:Int=>aA zero3 v6 v7 q) v8).bind (Fw.elim
 (λe=>some zero3)
 (λe=>some e))
end gn
def gn (vals0:Sl Int):Option Int:=
 gn.W1 0 vals0 (len vals0) 0
open gn in
instance Ul (vals0:Sl Int):Fc Sy cL (gn vals0):=Fc.M 92 [enc vals0] (aU 14 vals0 (bU 5 (λqW1=>(aL [Iv 3 0,Cv 6 vals0,Iv 7 (len vals0),Iv 8 qW1] [])) (λeW1=>(0,(aL [Iv 3 0] []))) (λeW1=>(aL [Iv 2 eW1] [])) (λqW1=>aI 7 9 (aW 7 λx_1 _=>cq 11 14 ai ai) ai) (λeW1=>ai) (λeW1=>ai)))
def jv (a0 b1:Sl Int):Option Int:=
 (gp a0).bind λx_1=>
 (gp b1).bind λx_2=>
 (jP x_1 x_2).bind λx_3=>
 (cV a0 b1).bind λx_4=>
 (gn (Sl.row [x_3,x_4]:Sl Int)).bind λx_5=>
 some x_5
instance Pj (a0 b1:Sl Int):Fc Sy cL (jv a0 b1):=Fc.M 91 [enc a0,enc b1] (aN 8 λx_1 _=>aN 1 λx_2 _=>aN 0 λx_3 _=>aN 2 λx_4 _=>iW 1 λx_5 _=>ai)
namespace fm
def bf (i6:Int) (c7:Sl Int) (v35:Int) (sb1:Slice) (out4:Sl (Sl Int)) (v36:Int) (vb16:Mo (bh 8 Int) Bool):Option (Fw ((Sl (Sl Int))×Int×(Mo (bh 8 Int) Bool)) ((Sl (Sl Int))×(Mo (bh 8 Int) Bool)) Empty):=
 au (decide (v36<v35))
 ((idx c7 v36).bind λx_5=>
 (idx sb1.last v36).bind λx_6=>
 au (x_5==x_6)
 (some (.n (out4,IntKind.wrap .i64 (v36+1),vb16)))
 ((idx c7 v36).bind λx_7=>
 (iU sb1 (⟨v36,IntKind.wrap .i64 (x_7+1)⟩:aa)).bind λx_8=>
 (p_ c7 x_8).bind λx_9=>
 (kg x_9).bind λx_10=>
 au (uF vb16 x_10 false)
 (some (.n (out4,IntKind.wrap .i64 (v36+1),vb16)))
 ((kg x_9).bind λx_11=>
 (jC out4 (x_9:Sl Int)).bind λx_12=>
 some (.n (x_12,IntKind.wrap .i64 (v36+1),kz vb16 x_11 true)))))
 (some (.x (out4,vb16)))
def W2 (out4:Sl (Sl Int)) (i6:Int) (c7:Sl Int) (v35 v36:Int) (sb1:Slice) (vb16:Mo (bh 8 Int) Bool):Option (Fw ((Sl (Sl Int))×Int×(Mo (bh 8 Int) Bool)) (Sl (Sl Int)) Unit):=
 (aS (λq:(Sl (Sl Int))×Int×(Mo (bh 8 Int) Bool)=>bf i6 c7 v35 sb1 q.1 q.2.1 q.2.2) (out4,v36,vb16)).bind (Fw.elim
 (λe=>some (.n (e.1,IntKind.wrap .i64 (i6+1),e.2)))
 (λe=>Empty.elim e))
def aA (sb1:Slice) (out4:Sl (Sl Int)) (i6:Int) (vb16:Mo (bh 8 Int) Bool):Option (Fw ((Sl (Sl Int))×Int×(Mo (bh 8 Int) Bool)) (Sl (Sl Int)) Unit):=
 au (decide (i6<(len out4)))
 (au (decide ((len out4)>5000))
 (some (.r ()))
 ((Sl.mj out4 i6).bind λx_3=>
 (Sl.get out4 x_3).bind λx_4=>
 W2 out4 i6 x_4 (len x_4) 0 sb1 vb16))
 (some (.x out4))
def W1 (out4:Sl (Sl Int)) (i6:Int) (sb1:Slice) (vb16:Mo (bh 8 Int) Bool):Option ((Sl (Sl Int))×Bool):=
 (aS (λq:(Sl (Sl Int))×Int×(Mo (bh 8 Int) Bool)=>aA sb1 q.1 q.2.1 q.2.2) (out4,i6,vb16)).bind (Fw.elim
 (λe=>(uD e jv).bind λx_13=>
 some (x_13,true))
 (λe=>some ((Sl.nil:Sl (Sl Int)),false)))
end fm
def fm (s0:Slice):Option ((Sl (Sl Int))×Bool):=
 au s0.empty
 (some ((Sl.nil:Sl (Sl Int)),true))
 (((kV s0.first).bind Sl.whole).bind λx_1=>
 (kg s0.first).bind λx_2=>
 fm.W1 (Sl.row [x_1]:Sl (Sl Int)) 0 s0 (kz ([]:Mo (bh 8 Int) Bool) x_2 true))
open fm in
instance WN (s0:Slice):Fc Sy cL (fm s0):=Fc.N 49 [enc s0] (cu 2 1 s0 (aI 11 11 ai (ZH 7 14 uX s0.first λx_1 _=>E7 1 15 ([x_1]:List (Sl Int)) (aN 8 λx_2 _=>K7 0 16 ([]:Mo (bh 8 Int) Bool) x_2 true (bU 13 (λqW1=>(aL [Pv 1,Ov 4,(5,.mp 16),Iv 6 qW1.2.1] [Xb 1 s0,(16,pG qW1.2.2),Lb 2004 qW1.1])) (λeW1=>(0,(aL [Ov 4] [Lb 2004 eW1]))) (λeW1=>(aL [Ov 2,Bv 3 false] [Lb 2002 (Sl.nil:Sl (Sl Int))])) (λqW1=>yf 7 2004 qW1.1 (aI 3 24 (yf 9 2004 qW1.1 (aI 3 29 ai (pX .i64 7 2004 λx_3 _=>s9 0 2004 0 1 false (λx_4=>enc x_4) λx_4 _=>aU 6 x_4 (mh 6 (λqW2=>(aL [Pv 1,Ov 4,(5,.mp 16),Iv 6 qW1.2.1,Cv 7 x_4,Iv 35 (len x_4),Iv 36 qW2.2.1] [Xb 1 s0,(16,pG qW2.2.2),Lb 2004 qW2.1])) (λeW2=>(2,(aL [Pv 1,Ov 4,(5,.mp 16),Iv 6 qW1.2.1] [Xb 1 s0,(16,pG eW2.2),Lb 2004 eW2.1]))) (λqW2=>aI 8 37 (aW 16 λx_5 _=>aW 4 λx_6 _=>aI 4 48 ai (aW 10 λx_7 _=>aN 3 λx_8 _=>aN 0 λx_9 _=>aN 7 λx_10 _=>MM 0 16 qW2.2.2 x_10 false (cq 3 64 ai (aN 5 λx_11 _=>K7 0 16 qW2.2.2 x_11 true (E7 5 70 ([x_9]:List (Sl Int)) (wj 0 2004 70 71 λx_12 _=>ai)))))) ai) (λeW2=>ai))))) ai)) (λeW1=>XM 5 2004 HD Bp WC (kj.rT (λz=>inferInstanceAs (Fc Sy cL (jv z.1 z.2))) default (λ_=>rfl) (λ_=>rfl) (λ_=>rfl) (λ_=>rfl)) λx_13 _=>ai) (λeW1=>ai))))))
def iB (t0:Trace) (s1:Slice):Option ((Sl (Sl Int))×Int):=
 (j_ t0 s1).bind λx_1=>
 au x_1
 ((fm s1).bind λx_2=>
 au x_2.2
 (some (x_2.1,0))
 (some (Sl.nil,16)))
 (some (Sl.nil,1))
instance VB (t0:Trace) (s1:Slice):Fc Sy cL (iB t0 s1):=Fc.N 13 [enc t0,enc s1] (cu 2 2 t0 (cu 0 3 s1 (aN 9 λx_1 _=>cq 3 11 (aN 6 λx_2 _=>cq 14 18 ai ai) ai)))
def j9 (t0:Trace) (s1:Slice):Option (Int×Int):=
 (iB t0 s1).bind λx_1=>
 some (len x_1.1,x_1.2)
instance Rj (t0:Trace) (s1:Slice):Fc Sy cL (j9 t0 s1):=Fc.M 14 [enc t0,enc s1] (cu 2 2 t0 (cu 0 3 s1 (aN 8 λx_1 _=>aU 10 x_1.1 ai)))
namespace fD
def aA (a0 b1:Sl Int) (out5:Sl Int) (i6:Int):Option (Fw ((Sl Int)×Int) (Sl Int) Empty):=
 au (decide (i6<(len a0)))
 ((idx a0 i6).bind λx_1=>
 (idx b1 i6).bind λx_2=>
 (jC out5 ((if x_2>x_1 then x_2 else x_1):Int)).bind λx_3=>
 some (.n (x_3,IntKind.wrap .i64 (i6+1))))
 (some (.x out5))
def W1 (a0 b1 out5:Sl Int) (i6:Int):Option (Sl Int):=
 (aS (λq:(Sl Int)×Int=>aA a0 b1 q.1 q.2) (out5,i6)).bind (Fw.elim
 (λe=>some e)
 (λe=>Empty.elim e))
end fD
def fD (a0 b1:Sl Int):Option (Sl Int):=
 fD.W1 a0 b1 (Sl.nil:Sl Int) 0
open fD in
instance Rw (a0 b1:Sl Int):Fc Sy cL (fD a0 b1):=Fc.N 50 [enc a0,enc b1] (mh 19 (λqW1=>(aL [Cv 0 a0,Cv 1 b1,Ov 5,Iv 6 qW1.2] [Lb 2005 qW1.1])) (λeW1=>(0,(aL [Ov 5] [Lb 2005 eW1]))) (λqW1=>aU 7 a0 (aI 3 10 (aW 9 λx_1 _=>aW 3 λx_2 _=>wj 3 2005 23 24 λx_3 _=>ai) ai)) (λeW1=>ai))
namespace fq
def aA (l0:Sl (Sl Int)) (c1:Sl Int) (i5:Int):Option (Fw Int Unit Unit):=
 au (decide (i5<(len l0)))
 ((idx l0 i5).bind λx_1=>
 (cM x_1 c1).bind λx_2=>
 au x_2
 (some (.r ()))
 (some (.n (IntKind.wrap .i64 (i5+1)))))
 (some (.x ()))
def W1 (l0:Sl (Sl Int)) (c1:Sl Int) (i5:Int):Option Bool:=
 (aS (λq:Int=>aA l0 c1 q) i5).bind (Fw.elim
 (λe=>some false)
 (λe=>some true))
end fq
def fq (l0:Sl (Sl Int)) (c1:Sl Int):Option Bool:=
 fq.W1 l0 c1 0
open fq in
instance Qf (l0:Sl (Sl Int)) (c1:Sl Int):Fc Sy cL (fq l0 c1):=Fc.M 51 [enc l0,enc c1] (bU 13 (λqW1=>(aL [Cv 0 l0,Cv 1 c1,Iv 5 qW1] [])) (λeW1=>(0,(aL [] []))) (λeW1=>(aL [Bv 4 true] [])) (λqW1=>aU 6 l0 (aI 3 9 (aW 9 λx_1 _=>aN 2 λx_2 _=>aI 2 17 ai ai) ai)) (λeW1=>ai) (λeW1=>ai))
namespace cE
def bf (a0 b1:Sl Int) (i8:Int):Option (Fw Int Unit Bool):=
 au (decide (i8<(len a0)))
 ((idx a0 i8).bind λx_3=>
 (idx b1 i8).bind λx_4=>
 au (x_3==x_4)
 (some (.n (IntKind.wrap .i64 (i8+1))))
 ((idx a0 i8).bind λx_5=>
 (idx b1 i8).bind λx_6=>
 some (.r (decide (x_5<x_6)))))
 (some (.x ()))
def W2 (a0 b1:Sl Int) (i8:Int):Option Bool:=
 (aS (λq:Int=>bf a0 b1 q) i8).bind (Fw.elim
 (λe=>some false)
 (λe=>some e))
def aA (a0 b1:Sl Int) (m5 n6 i7:Int):Option (Fw (Int×Int×Int) (Int×Int) Empty):=
 au (decide (i7<(len a0)))
 ((idx a0 i7).bind λx_1=>
 (idx b1 i7).bind λx_2=>
 some (.n (IntKind.wrap .i64 (m5+x_1),IntKind.wrap .i64 (n6+x_2),IntKind.wrap .i64 (i7+1))))
 (some (.x (m5,n6)))
def W1 (a0 b1:Sl Int) (m5 n6 i7:Int):Option Bool:=
 (aS (λq:Int×Int×Int=>aA a0 b1 q.1 q.2.1 q.2.2) (m5,n6,i7)).bind (Fw.elim
 (λe=>au (e.1==e.2)
 (cE.W2 a0 b1 0)
 (some (decide (e.1<e.2))))
 (λe=>Empty.elim e))
end cE
def cE (a0 b1:Sl Int):Option Bool:=
 cE.W1 a0 b1 0 0 0
open cE in
instance Ns (a0 b1:Sl Int):Fc Sy cL (cE a0 b1):=Fc.M 52 [enc a0,enc b1] (mh 19 (λqW1=>(aL [Cv 0 a0,Cv 1 b1,Iv 5 qW1.1,Iv 6 qW1.2.1,Iv 7 qW1.2.2] [])) (λeW1=>(0,(aL [Cv 0 a0,Cv 1 b1,Iv 5 eW1.1,Iv 6 eW1.2] []))) (λqW1=>aU 6 a0 (aI 3 12 (aW 10 λx_1 _=>aW 9 λx_2 _=>ai) ai)) (λeW1=>cq 10 29 (bU 11 (λqW2=>(aL [Cv 0 a0,Cv 1 b1,Iv 8 qW2] [])) (λeW2=>(2,(aL [] []))) (λeW2=>(aL [Bv 4 eW2] [])) (λqW2=>aU 6 a0 (aI 3 36 (aW 9 λx_3 _=>aW 3 λx_4 _=>cq 4 47 ai (aW 5 λx_5 _=>aW 3 λx_6 _=>ai)) ai)) (λeW2=>ai) (λeW2=>ai)) ai))
namespace dg
def dG (most1:Int) (out6:Sl (Sl Int)) (i7 p8:Int) (c9:Sl Int) (sb2:Slice) (BB:Int):Option (Fw Int Int Empty):=
 (idx out6 (IntKind.wrap .i64 (BB-1))).bind λx_14=>
 (cE c9 x_14).bind λx_15=>
 au x_15
 (some (.n (IntKind.wrap .i64 (BB-1))))
 (some (.x BB))
def W3 (most1:Int) (out6:Sl (Sl Int)) (i7 p8:Int) (c9:Sl Int) (BB:Int) (sb2:Slice):Option (Fw ((Sl (Sl Int))×Int) (Sl (Sl Int)) Unit):=
 (aS (λq:Int=>dG most1 out6 i7 p8 c9 sb2 q) BB).bind (Fw.elim
 (λe=>(fP out6 none (some e)).bind λx_16=>
 (qt (Sl.row []:Sl (Sl Int)) x_16).bind λx_17=>
 (jC x_17 (c9:Sl Int)).bind λx_18=>
 (fP out6 (some e) none).bind λx_19=>
 (qt x_18 x_19).bind λx_20=>
 some (.n (x_20,IntKind.wrap .i64 (p8+1))))
 (λe=>Empty.elim e))
def bf (most1 i7:Int) (sb2:Slice) (out6:Sl (Sl Int)) (p8:Int):Option (Fw ((Sl (Sl Int))×Int) (Sl (Sl Int)) Unit):=
 au (decide (p8<(len sb2.j)))
 ((Sl.mj out6 i7).bind λx_1=>
 (Sl.get out6 x_1).bind λx_2=>
 (idx x_2 p8).bind λx_3=>
 (idx sb2.last p8).bind λx_4=>
 au (decide (x_3>=x_4))
 (some (.n (out6,IntKind.wrap .i64 (p8+1))))
 ((Sl.mj out6 i7).bind λx_5=>
 (Sl.get out6 x_5).bind λx_6=>
 (idx sb2.j p8).bind λx_7=>
 (Sl.mj out6 i7).bind λx_8=>
 (Sl.get out6 x_8).bind λx_9=>
 (idx x_9 p8).bind λx_10=>
 (idx x_7 x_10).bind λx_11=>
 (fD x_6 x_11).bind λx_12=>
 (fq out6 x_12).bind λx_13=>
 au x_13
 (some (.n (out6,IntKind.wrap .i64 (p8+1))))
 (au ((len out6)==most1)
 (some (.r ()))
 (W3 most1 out6 i7 p8 x_12 (len out6) sb2))))
 (some (.x out6))
def W2 (most1:Int) (out6:Sl (Sl Int)) (i7 p8:Int) (sb2:Slice):Option (Fw ((Sl (Sl Int))×Int) (Sl (Sl Int)) Unit):=
 (aS (λq:(Sl (Sl Int))×Int=>bf most1 i7 sb2 q.1 q.2) (out6,p8)).bind (Fw.elim
 (λe=>some (.n (e,IntKind.wrap .i64 (i7+1))))
 (λe=>some (.r ())))
def aA (most1:Int) (sb2:Slice) (out6:Sl (Sl Int)) (i7:Int):Option (Fw ((Sl (Sl Int))×Int) (Sl (Sl Int)) Unit):=
 au (decide (i7<(len out6)))
 (W2 most1 out6 i7 0 sb2)
 (some (.x out6))
def W1 (most1:Int) (out6:Sl (Sl Int)) (i7:Int) (sb2:Slice):Option ((Sl (Sl Int))×Bool):=
 (aS (λq:(Sl (Sl Int))×Int=>aA most1 sb2 q.1 q.2) (out6,i7)).bind (Fw.elim
 (λe=>some (e,true))
 (λe=>some ((Sl.nil:Sl (Sl Int)),false)))
end dg
def dg (s0:Slice) (most1:Int):Option ((Sl (Sl Int))×Bool):=
 au s0.empty
 (some ((Sl.nil:Sl (Sl Int)),true))
 (dg.W1 most1 (Sl.row [s0.first]:Sl (Sl Int)) 0 s0)
open dg in
instance Rx (s0:Slice) (most1:Int):Fc Sy cL (dg s0 most1):=Fc.N 15 [enc s0,.int .i64 most1] (cu 2 2 s0 (aI 11 12 ai (E7 7 15 ([s0.first]:List (Sl Int)) (bU 12 (λqW1=>(aL [Iv 1 most1,Pv 2,Ov 6,Iv 7 qW1.2] [Xb 2 s0,Lb 2006 qW1.1])) (λeW1=>(0,(aL [Ov 6] [Lb 2006 eW1]))) (λeW1=>(aL [Ov 4,Bv 5 false] [Lb 2004 (Sl.nil:Sl (Sl Int))])) (λqW1=>yf 7 2006 qW1.1 (aI 3 19 (bU 13 (λqW2=>(aL [Iv 1 most1,Pv 2,Ov 6,Iv 7 qW1.2,Iv 8 qW2.2] [Xb 2 s0,Lb 2006 qW2.1])) (λeW2=>(2,(aL [Iv 1 most1,Pv 2,Ov 6,Iv 7 qW1.2] [Xb 2 s0,Lb 2006 eW2]))) (λeW2=>(aL [Ov 4,Bv 5 false] [Lb 2004 (Sl.nil:Sl (Sl Int))])) (λqW2=>aU 8 s0.j (aI 3 26 (pX .i64 10 2006 λx_1 _=>s9 0 2006 0 1 false (λx_2=>enc x_2) λx_2 _=>aW 1 λx_3 _=>aW 4 λx_4 _=>aI 4 41 ai (pX .i64 7 2006 λx_5 _=>s9 0 2006 0 1 false (λx_6=>enc x_6) λx_6 _=>aW 3 λx_7 _=>pX .i64 3 2006 λx_8 _=>s9 0 2006 0 1 false (λx_9=>enc x_9) λx_9 _=>aW 1 λx_10 _=>aW 1 λx_11 _=>aN 1 λx_12 _=>iW 8 λx_13 _=>aI 2 63 ai (aU 8 qW2.1 (aI 4 67 ai (aU 6 qW2.1 (mh 6 (λqW3=>(aL [Iv 1 most1,Pv 2,Cv 6 qW2.1,Iv 7 qW1.2,Iv 8 qW2.2,Cv 9 x_12,Iv 10 qW3] [Xb 2 s0])) (λeW3=>(4,(aL [Iv 1 most1,Pv 2,Cv 6 qW2.1,Iv 7 qW1.2,Iv 8 qW2.2,Cv 9 x_12,Iv 10 eW3] [Xb 2 s0]))) (λqW3=>aW 8 λx_14 _=>aN 1 λx_15 _=>aI 2 76 ai ai) (λeW3=>E7 3 79 ([]:List (Sl Int)) (Bq 2 false true [.int .i64 eW3] λx_16 _=>CY 0 79 83 λx_17 _=>E7 1 85 ([x_12]:List (Sl Int)) (wj 0 83 85 86 λx_18 _=>Bq 2 true false [.int .i64 eW3] λx_19 _=>CY 0 86 90 λx_20 _=>ai))))))))) ai)) (λeW2=>ai) (λeW2=>ai)) ai)) (λeW1=>ai) (λeW1=>ai)))))
namespace di
def aA (a0 b1:Sl (Sl Int)) (i5:Int):Option (Fw Int Unit Unit):=
 au (decide (i5<(len a0)))
 ((idx a0 i5).bind λx_1=>
 (idx b1 i5).bind λx_2=>
 (cM x_1 x_2).bind λx_3=>
 au x_3
 (some (.n (IntKind.wrap .i64 (i5+1))))
 (some (.r ())))
 (some (.x ()))
def W1 (a0 b1:Sl (Sl Int)) (i5:Int):Option Bool:=
 (aS (λq:Int=>aA a0 b1 q) i5).bind (Fw.elim
 (λe=>some true)
 (λe=>some false))
end di
def di (a0 b1:Sl (Sl Int)):Option Bool:=
 au ((len a0)==(len b1))
 (di.W1 a0 b1 0)
 (some false)
open di in
instance JC (a0 b1:Sl (Sl Int)):Fc Sy cL (di a0 b1):=Fc.M 16 [enc a0,enc b1] (aU 9 a0 (aU 1 b1 (cq 3 10 (bU 11 (λqW1=>(aL [Cv 0 a0,Cv 1 b1,Iv 5 qW1] [])) (λeW1=>(0,(aL [] []))) (λeW1=>(aL [Bv 4 false] [])) (λqW1=>aU 6 a0 (aI 3 14 (aW 9 λx_1 _=>aW 3 λx_2 _=>iW 1 λx_3 _=>cq 3 26 ai ai) ai)) (λeW1=>ai) (λeW1=>ai)) ai)))
def ku (t0:Trace) (s1:Slice):Option Bool:=
 (pY).bind λx_1=>
 (au x_1
 ((gP t0 14).bind λx_2=>
 some (!x_2))
 (some true):Option Bool).bind λx_3=>
 (au x_3
 (some true)
 ((pI s1).bind λx_4=>
 some (!x_4)):Option Bool).bind λx_5=>
 au x_5
 ((pY).bind λx_6=>
 some x_6)
 ((bN t0 s1).bind λx_7=>
 au x_7
 ((dg s1 300).bind λx_8=>
 au x_8.2
 ((iB t0 s1).bind λx_9=>
 (j9 t0 s1).bind λx_10=>
 (di x_9.1 x_8.1).bind λx_11=>
 (au x_11
 (some (x_9.2==0))
 (some false):Option Bool).bind λx_12=>
 (au x_12
 (some (x_10.1==(len x_8.1)))
 (some false):Option Bool).bind λx_13=>
 (au x_13
 (some (x_10.2==0))
 (some false):Option Bool).bind λx_14=>
 some x_14)
 (some true))
 ((iB t0 s1).bind λx_15=>
 (j9 t0 s1).bind λx_16=>
 (au ((len x_15.1)==0)
 (some (x_15.2==1))
 (some false):Option Bool).bind λx_17=>
 (au x_17
 (some (x_16.1==0))
 (some false):Option Bool).bind λx_18=>
 (au x_18
 (some (x_16.2==1))
 (some false):Option Bool).bind λx_19=>
 some x_19))
instance v_ (t0:Trace) (s1:Slice):Fc Sy cL (ku t0 s1):=Fc.M 3 [enc t0,enc s1] (cu 2 2 t0 (cu 0 3 s1 (aN 6 λx_1 _=>aY 2 4 [17] 21 (cq 2 17 (aN 1 λx_2 _=>aH 2) (aH 4)) λx_3=>aY 1 4 [22] 26 (aI 1 22 (aH 4) (aN 1 λx_4 _=>aH 2)) λx_5=>aI 2 26 (aN 3 λx_6 _=>ai) (aN 8 λx_7 _=>cq 3 31 (aN 6 λx_8 _=>cq 14 65 (aN 7 λx_9 _=>aN 11 λx_10 _=>aN 11 λx_11 _=>aY 1 3 [12,81] 84 (aI 1 81 (aH 3) (aH 3)) λx_12=>aY 1 5 [9,13,85] 90 (aI 1 85 (aU 2 x_8.1 (aH 2)) (aH 5)) λx_13=>aY 1 3 [14,91] 94 (aI 1 91 (aH 3) (aH 3)) λx_14=>ai) ai) (aN 5 λx_15 _=>aN 11 λx_16 _=>aU 10 x_15.1 (aY 2 3 [6,47] 50 (aI 2 47 (aH 3) (aH 3)) λx_17=>aY 1 3 [7,51] 54 (aI 1 51 (aH 3) (aH 3)) λx_18=>aY 1 3 [8,55] 58 (aI 1 55 (aH 3) (aH 3)) λx_19=>ai))))))
end
end Go.VE
