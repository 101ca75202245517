/-
 Each function of the program that the law reaches: its plain form, and that it comes to that.
-/
import Derived.Test.YtjbnbbbiijdbpaaGreatDoorK1
import Derived.Test.YtjbnbbbiijdbpaaGreatDoorT1
set_option linter.all false
namespace Go.VE
structure Assign where
 var:Int
 value:Int
 deriving Inhabited
instance:aI Assign where
 cells x:=[.int .i64 x.var,.int .i64 x.value]
 agg:=true
 size:=2
 len _:=rfl
 good x:=by simp only[V.bH,V.good,kG,Bool.and_self]
 one x:=by simp only[List.all_cons,List.all_nil,pM,nE,pP,nG,Bool.and_self]
 plain h:=by cases h
instance {n:Nat}:Lv (n+0) Assign:=⟨fun x=>by
 show V.ck (n+0) [.int .i64 x.var,.int .i64 x.value]=true;simp only[gY,jx,nU,lP,oe,nO,Bool.and_self]⟩
structure Event where
 kind:Int
 peer:Int
 message:Int
 time:Int
 assign:Sl Assign
 deriving Inhabited
instance:aI Event where
 cells x:=[.int .i64 x.kind,.int .i64 x.peer,.int .i64 x.message,.int .i64 x.time,enc x.assign]
 agg:=true
 size:=5
 len _:=rfl
 good x:=by simp only[V.bH,V.good,kG,Bool.and_self]
 one x:=by simp only[List.all_cons,List.all_nil,pM,nE,pP,nG,Bool.and_self]
 plain h:=by cases h
instance {n:Nat}:Lv (n+1) Event:=⟨fun x=>by
 show V.ck (n+1) [.int .i64 x.kind,.int .i64 x.peer,.int .i64 x.message,.int .i64 x.time,enc x.assign]=true;simp only[gY,jx,nU,lP,oe,nO,Bool.and_self]⟩
structure Var where
 name:ByteArray
 init_:Int
 deriving Inhabited
instance:aI Var where
 cells x:=[.str x.name,.int .i64 x.init_]
 agg:=true
 size:=2
 len _:=rfl
 good x:=by simp only[V.bH,V.good,kG,Bool.and_self]
 one x:=by simp only[List.all_cons,List.all_nil,pM,nE,pP,nG,Bool.and_self]
 plain h:=by cases h
instance {n:Nat}:Lv (n+0) Var:=⟨fun x=>by
 show V.ck (n+0) [.str x.name,.int .i64 x.init_]=true;simp only[gY,jx,nU,lP,oe,nO,Bool.and_self]⟩
structure bt where
 name:ByteArray
 vars:Sl Var
 events:Sl Event
 deriving Inhabited
instance:aI bt where
 cells x:=[.str x.name,enc x.vars,enc x.events]
 agg:=true
 size:=3
 len _:=rfl
 good x:=by simp only[V.bH,V.good,kG,Bool.and_self]
 one x:=by simp only[List.all_cons,List.all_nil,pM,nE,pP,nG,Bool.and_self]
 plain h:=by cases h
instance {n:Nat}:Lv (n+2) bt:=⟨fun x=>by
 show V.ck (n+2) [.str x.name,enc x.vars,enc x.events]=true;simp only[gY,jx,nU,lP,oe,nO,Bool.and_self]⟩
structure Trace where
 procs:Sl bt
 deriving Inhabited
instance:aI Trace where
 cells x:=[enc x.procs]
 agg:=true
 size:=1
 len _:=rfl
 good x:=by simp only[V.bH,V.good,kG,Bool.and_self]
 one x:=by simp only[List.all_cons,List.all_nil,pM,nE,pP,nG,Bool.and_self]
 plain h:=by cases h
instance {n:Nat}:Lv (n+3) Trace:=⟨fun x=>by
 show V.ck (n+3) [enc x.procs]=true;simp only[gY,jx,nU,lP,oe,nO,Bool.and_self]⟩
structure Slice where
 empty:Bool
 first:Sl Int
 last:Sl Int
 j:Sl (Sl (Sl Int))
 deriving Inhabited
instance:aI Slice where
 cells x:=[.bool x.empty,enc x.first,enc x.last,enc x.j]
 agg:=true
 size:=4
 len _:=rfl
 good x:=by simp only[V.bH,V.good,kG,Bool.and_self]
 one x:=by simp only[List.all_cons,List.all_nil,pM,nE,pP,nG,Bool.and_self]
 plain h:=by cases h
instance {n:Nat}:Lv (n+3) Slice:=⟨fun x=>by
 show V.ck (n+3) [.bool x.empty,enc x.first,enc x.last,enc x.j]=true
 simp only[gY,jx,nU,lP,oe,nO,Bool.and_self]⟩
structure aH where
 from_:aa
 to_:aa
 deriving Inhabited
instance:aI aH where
 cells x:=[.int .i64 x.from_.proc,.int .i64 x.from_.index,.int .i64 x.to_.proc,.int .i64 x.to_.index]
 agg:=true
 size:=4
 len _:=rfl
 good x:=by simp only[V.bH,V.good,kG,Bool.and_self]
 one x:=by simp only[List.all_cons,List.all_nil,pM,nE,pP,nG,Bool.and_self]
 plain h:=by cases h
instance {n:Nat}:Lv (n+0) aH:=⟨fun x=>by
 show V.ck (n+0) [.int .i64 x.from_.proc,.int .i64 x.from_.index,.int .i64 x.to_.proc,.int .i64 x.to_.index]=true;simp only[gY,jx,nU,lP,oe,nO,Bool.and_self]⟩
def fN (p:Int):Int→List Event→List (aa×Event)
 | _,[]=>[]
 | j,e::r=>(⟨p,j+1⟩,e)::fN p (j+1) r
def dO:Int→List bt→List (aa×Event)
 | _,[]=>[]
 | i,p::r=>fN i 0 p.events.l++dO (i+1) r
def Ci (n:Nat):Bool:=decide (n<9223372036854775807)
def gb (t:Trace):Option (List (aa×Event)):=
 if Ci t.procs.l.length&&t.procs.l.all fun p=>Ci p.events.l.length then some (dO 0 t.procs.l)else none
end Go.VE
namespace Go.VE
def G4:List (Nat×GD):=[
 (86,⟨0x22226260002000201,[],[(6,[.keep [0,1,7,8] []],[.keep [0,1,7,8] []]),(12,[.keep [] []],[]),(22,[.keep [4] []],[]),(27,[.keep [4] []],[])]⟩),
 (40,⟨0x226221,[],[]⟩),
 (41,⟨0x2222212,[],[]⟩),
 (87,⟨0x22226260002000201,[],[(6,[.keep [0,1,7,8] []],[.keep [0,1,7,8] []]),(12,[.keep [] []],[]),(22,[.keep [4] []],[]),(27,[.keep [4] []],[])]⟩),
 (42,⟨0x226221,[],[]⟩),
 (43,⟨0x2222212,[],[]⟩),
 (10,⟨0x222222206444264402644402644402600262202202000020012,[],[(8,[.keep [1,2,5,9,10,11] [2]],[.keep [1,2,5,9,10,11] [2]]),(14,[.keep [2] [2]],[]),(26,[.keep [4] []],[]),(31,[.keep [4] []],[])]⟩),
 (88,⟨0x22226260002000201,[],[(6,[.keep [0,1,7,8] []],[.keep [0,1,7,8] []]),(12,[.keep [] []],[]),(22,[.keep [4] []],[]),(27,[.keep [4] []],[])]⟩),
 (44,⟨0x226221,[],[]⟩),
 (80,⟨0x22226260002000201,[],[(6,[.keep [0,1,7,8] []],[.keep [0,1,7,8] []]),(12,[.keep [] []],[]),(22,[.keep [4] []],[]),(27,[.keep [4] []],[])]⟩),
 (35,⟨0x226221,[],[]⟩),
 (69,⟨0x22221,[],[]⟩),
 (25,⟨0x2644422201,[],[]⟩),
 (45,⟨0x22221,[],[]⟩),
 (11,⟨0x2644442644402644402222012,[],[]⟩),
 (164,⟨0x26c4444026402201,[],[]⟩),
 (165,⟨0x26442201,[],[]⟩),
 (128,⟨0x222064c002644c00222600620000644402644022201,[],[(8,[.keep [2] []],[]),(14,[.keep [0,3] []],[.keep [0,3] []]),(20,[.keep [] []],[]),(28,[.keep [2] []],[]),(33,[.keep [2] []],[])]⟩),
 (129,⟨0x26442201,[],[]⟩),
 (106,⟨0x2222222022226020222062260202260206000022226020622000022202220620226020600002220202602012,[],[(10,[.keep [4] []],[]),(16,[.keep [1,2,5,6] [2,5]],[.keep [1,2,5,6] [2,5]]),(22,[.keep [5] [5]],[]),(30,[.keep [4] []],[]),(39,[.keep [4] []],[]),(45,[.keep [5,7] [5]],[.keep [5,7] [5]]),(51,[.keep [5] [5]],[]),(60,[.keep [4] []],[]),(66,[.keep [5,7,8] [5]],[.keep [5,7,8] [5]]),(72,[.keep [5,7] [5]],[]),(80,[.keep [4] []],[]),(88,[.keep [4] []],[]),(97,[.keep [4] []],[]),(101,[.keep [4] []],[])]⟩),
 (107,⟨0x2222220620226020600006444026c444c04040222020260206220000222006cc44c4444c04040440264402220064402644026c04026c44040264402644022200644022202202026022602012,[],[(13,[.keep [6] []],[]),(20,[.keep [6] []],[]),(22,[.keep [1,2,3,7] [3,7]],[]),(28,[.keep [6] []],[]),(36,[.keep [6] []],[]),(42,[.keep [1,3,7,8] [3,7]],[.keep [1,3,7,8] [3,7]]),(48,[.keep [] []],[]),(59,[.keep [6] []],[]),(64,[.keep [1,3,7,8,9,10] [3,7,9]],[.keep [1,3,7,8,9,10] [3,7,9]]),(70,[.keep [1,3,7,8] [3,7]],[]),(78,[.keep [6] []],[]),(84,[.keep [6] []],[])]⟩),
 (130,⟨0x2262222262022022,[],[]⟩),
 (78,⟨0x20222222262226c0442602020260226020622260200062200002,[],[(6,[.keep [1,2,3,6,7] [3,6]],[.keep [1,2,3,6,7] [3,6]]),(12,[.keep [6] [6]],[]),(18,[.keep [1,2,3,6,7,8] [3,6]],[.keep [1,2,3,6,7,8] [3,6]]),(24,[.keep [1,2,3,6,7] [3,6]],[]),(34,[.keep [6] [6]],[]),(40,[.keep [6] [6]],[])]⟩),
 (108,⟨0x2222226cc40444cc4040444022202602262020622262020000220060e20200022020600122,[],[(30,[.keep [2,3,5,6,7] [2,3,5]],[.keep [2,3,5,6,7] [2,3,5]]),(36,[.keep [6] []],[])]⟩),
 (109,⟨0x22206222602026006220002222203622000622262002062202202026260022602062226020260062200002222012,[],[(6,[.canon (.s 3) 2003 1,.keep [1,3] [1,2003]],[.canon (.s 3) 2003 1,.keep [1,3] [1,2003]]),(14,[.canon (.s 3) 2003 1,.keep [1,3,4,5] [1,2003]],[.canon (.s 3) 2003 1,.keep [1,3,4,5] [1,2003]]),(20,[.canon (.s 3) 2003 1,.keep [1,3,4] [1,2003]],[]),(24,[.canon (.s 3) 2003 1,.keep [1,3,4,5] [1,2003]],[.canon (.s 3) 2003 1,.keep [1,3,4,5] [1,2003]]),(30,[.canon (.s 3) 2003 1,.keep [1,3,4,5] [1,2003]],[]),(43,[.canon (.s 3) 2003 1,.keep [1,3,4,5] [1,2003]],[]),(46,[.canon (.s 3) 2003 1,.keep [1,3,5] [1,2003]],[]),(53,[.canon (.s 3) 2003 1,.keep [1,3] [1,2003]],[]),(59,[.canon (.s 3) 2003 1,.keep [1,3,8] [1,2003]],[.canon (.s 3) 2003 1,.keep [1,3,8] [1,2003]]),(65,[.keep [] []],[]),(73,[.keep [2] []],[]),(78,[.keep [2] []],[])]⟩),
 (131,⟨0x22262622222202062026262202022200122,[],[(10,[.canon (.s 5) 2005 2,.keep [2,3,5] [2,3,2005]],[])]⟩),
 (76,⟨0x202222220222620260600206200622260200062200002020222222222220260020620062226020006220002222222226222202e0006222602000622000222222222026006220000206444022220102,[],[(8,[.keep [2,3] [2]],[]),(14,[.keep [1,2,4] [1,2]],[.keep [1,2,4] [1,2]]),(20,[.keep [1,2] [1,2]],[]),(30,[.keep [2,3] [2]],[]),(37,[.keep [1,2,6] [1,2]],[.keep [1,2,6] [1,2]]),(43,[.keep [1,2] [1,2]],[]),(49,[.keep [1,2,6,7] [1,2]],[.keep [1,2,6,7] [1,2]]),(55,[.keep [1,2,6] [1,2]],[]),(65,[.keep [2,3] [2]],[]),(73,[.keep [1,2,9] [1,2]],[.keep [1,2,9] [1,2]]),(79,[.keep [1,2] [1,2]],[]),(85,[.keep [1,2,9,10] [1,2]],[.keep [1,2,9,10] [1,2]]),(91,[.keep [1,2,9] [1,2]],[]),(103,[.keep [2,3] [2]],[]),(113,[.keep [2,3] [2]],[]),(119,[.keep [1,2,13] [1,2]],[.keep [1,2,13] [1,2]]),(125,[.keep [2] [2]],[]),(131,[.keep [1,2,13,14] [1,2]],[.keep [1,2,13,14] [1,2]]),(137,[.keep [1,2,13] [1,2]],[]),(147,[.keep [2,3] [2]],[]),(153,[.keep [2,3] [2]],[])]⟩),
 (29,⟨0x2222302022212,[],[]⟩),
 (81,⟨0x262222212,[],[]⟩),
 (82,⟨0x22206c444c0404c002226006200012,[],[(6,[.keep [1,2,5] [2]],[.keep [1,2,5] [2]]),(12,[.keep [] []],[]),(20,[.keep [4] []],[]),(25,[.keep [4] []],[])]⟩),
 (77,⟨0x26262222020622202202026222622012,[],[]⟩),
 (83,⟨0x22222202001ef000062600006200012,[],[(6,[.keep [1,2,5] [2]],[.keep [1,2,5] [2]]),(12,[.keep [] []],[]),(18,[.keep [1,2,5,6] [2]],[.keep [1,2,5,6] [2]]),(24,[.keep [1,2,5] [2]],[]),(32,[.keep [4] []],[]),(38,[.keep [4] []],[])]⟩),
 (37,⟨0x26c4426c0026c0022012,[],[]⟩),
 (46,⟨0x2220626002600620000620201,[],[(8,[.keep [4] []],[]),(14,[.keep [0,1,5] []],[.keep [0,1,5] []]),(20,[.keep [] []],[]),(28,[.keep [4] []],[]),(33,[.keep [4] []],[])]⟩),
 (53,⟨0x2220626002600620000620201,[],[(8,[.keep [4] []],[]),(14,[.keep [0,1,5] []],[.keep [0,1,5] []]),(20,[.keep [] []],[]),(28,[.keep [4] []],[]),(33,[.keep [4] []],[])]⟩),
 (47,⟨0x26c44426c04026c44c40260226222626020022226260200226026020122,[],[]⟩),
 (48,⟨0x22222202602602602062600006200012,[],[(6,[.keep [1,2,5] [2]],[.keep [1,2,5] [2]]),(12,[.keep [] []],[]),(18,[.keep [1,2,5,6] [2]],[.keep [1,2,5,6] [2]]),(24,[.keep [1,2,5] [2]],[]),(32,[.keep [4] []],[]),(38,[.keep [4] []],[])]⟩),
 (12,⟨0x2222220262602602006260200062200022222202001ef000062260200006222602022602062200006c440440264c4040264c40022620026444426444022220200220122,[],[(8,[.keep [4] []],[]),(16,[.keep [4] []],[]),(24,[.keep [4] []],[]),(30,[.keep [2,3,5] [2,3]],[.keep [2,3,5] [2,3]]),(36,[.keep [3] [3]],[]),(45,[.keep [4] []],[]),(50,[.keep [2,3,5,6] [2,3]],[.keep [2,3,5,6] [2,3]]),(56,[.keep [2,3,5] [2,3]],[]),(64,[.keep [4] []],[]),(72,[.keep [3,7] [3]],[.keep [3,7] [3]]),(78,[.keep [] []],[]),(84,[.keep [3,7,8] [3]],[.keep [3,7,8] [3]]),(90,[.keep [3,7] [3]],[]),(98,[.keep [4] []],[]),(104,[.keep [4] []],[])]⟩),
 (19,⟨0x26c4426c40026c04026c042220122,[],[]⟩),
 (117,⟨0x26c4426201,[],[]⟩),
 (186,⟨0x26c4444026402201,[],[]⟩),
 (187,⟨0x26442201,[],[]⟩),
 (152,⟨0x22064c402644c00222600200020064440264402201,[],[(8,[.keep [2] []],[]),(14,[.keep [0,18,19] []],[.keep [0,18,19] []]),(20,[.keep [] []],[]),(30,[.keep [2] []],[]),(35,[.keep [2] []],[])]⟩),
 (154,⟨0x26222212,[],[]⟩),
 (188,⟨0x22226260002000201,[],[(6,[.keep [0,1,7,8] []],[.keep [0,1,7,8] []]),(12,[.keep [] []],[]),(22,[.keep [4] []],[]),(27,[.keep [4] []],[])]⟩),
 (153,⟨0x226221,[],[]⟩),
 (155,⟨0x26222212,[],[]⟩),
 (118,⟨0x222222022222026c0c4402222022020000020022220026c0c44422220202602012,[],[(11,[.keep [4] []],[]),(17,[.keep [4] []],[]),(23,[.keep [5,32,33,34] [5]],[.keep [5,32,33,34] [5]]),(29,[.keep [5] [5]],[]),(40,[.keep [4] []],[]),(46,[.keep [4] []],[]),(55,[.keep [4] []],[]),(59,[.keep [4] []],[])]⟩),
 (119,⟨0x2212,[],[]⟩),
 (157,⟨0x2644426c4402622222022202644422202020122,[],[(18,[.keep [1,3,5,19] [3,5]],[])]⟩),
 (159,⟨0x26222212,[],[]⟩),
 (189,⟨0x22226260002000201,[],[(6,[.keep [0,1,7,8] []],[.keep [0,1,7,8] []]),(12,[.keep [] []],[]),(22,[.keep [4] []],[]),(27,[.keep [4] []],[])]⟩),
 (158,⟨0x226221,[],[]⟩),
 (120,⟨0x2202626220026444022622202022020000020022220026c44022220022e02222226220202200202620201222,[],[(12,[.keep [3,4,5,7,8] [3,4,5,7]],[]),(19,[.keep [6] []],[]),(25,[.keep [6] []],[]),(31,[.keep [6] []],[]),(37,[.keep [5,7,52,53,54] [5,7]],[.keep [5,7,52,53,54] [5,7]]),(43,[.keep [] []],[]),(54,[.keep [6] []],[]),(60,[.keep [6] []],[]),(65,[.keep [6] []],[])]⟩),
 (190,⟨0x26c44426c440222012,[],[]⟩),
 (160,⟨0x2662262221222,[],[]⟩),
 (121,⟨0x2202326222002202001ef200220022022226200223262220022022226200202022020202020200002,[],[(8,[.keep [1,2,3,4,5,12] [1,2,3,4,5,10]],[.keep [] [1,2,3,4,5,10]]),(27,[.keep [] [1,2,3,4,5,10]],[]),(39,[.keep [] [1,2,3,4,5,10]],[]),(47,[.keep [] [1,2,3,4,5,10]],[]),(53,[.keep [2,3,4] [2,3,4,10]],[])]⟩),
 (161,⟨0x222622262222264444c4400222020262222262622020262020222620220122,[],[(12,[.canon (.s 7) 2007 2,.keep [1,5,7,8] [5,2007]],[])]⟩),
 (122,⟨0x20222622230026000226002020000e200262220202622002202202020200022,[],[(6,[.keep [2,3,4,5,13] [2,3,4,5]],[.keep [] [2,3,4,5]]),(14,[.canon (.s 8) 2008 2,.keep [2,3,4,5,6,7,8,13] [2,3,4,5,6,16,2008]],[.canon (.s 8) 2008 2,.keep [2,3,4,5,6,7,8,13] [2,3,4,5,6,16,2008]]),(20,[.keep [2,3,4,5,13] [2,3,4,5]],[]),(29,[.canon (.s 8) 2008 2,.keep [2,3,4,5,6,7,8,13,36,37,38] [2,3,4,5,6,16,2008]],[.canon (.s 8) 2008 2,.keep [2,3,4,5,6,7,8,13,36,37,38] [2,3,4,5,6,16,2008]]),(35,[.canon (.s 8) 2008 2,.keep [2,3,4,5,6,7,8,13] [2,3,4,5,6,16,2008]],[]),(46,[.keep [] [2,3,4,5]],[]),(58,[.keep [4,5] [4,5]],[])]⟩),
 (96,⟨0x20022222020262222222022202002202222202e2002020202222222202600200022002022220002,[],[(8,[.keep [2,3] [2,3]],[]),(14,[.keep [1,2,3,22,23] [1,2,3]],[.keep [1,2,3,22,23] [1,2,3]]),(20,[.keep [1,2,3] [1,2,3]],[]),(32,[.keep [2,3] [2,3]],[]),(39,[.keep [1,2,3,36] [1,2,3]],[.keep [] [1,2,3]]),(51,[.keep [] [1,2,3]],[]),(61,[.keep [2,3] [2,3]],[]),(71,[.keep [2,3] [2,3]],[]),(75,[.keep [2,3] [2,3]],[])]⟩),
 (54,⟨0x2222302022212,[],[]⟩),
 (162,⟨0x26222221,[],[]⟩),
 (123,⟨0x264c4422012,[],[]⟩),
 (124,⟨0x2206c444c440422022200000212,[],[(6,[.keep [2,7,8,9] [2]],[.keep [2,7,8,9] [2]]),(12,[.keep [] []],[]),(22,[.keep [4] []],[]),(27,[.keep [4] []],[])]⟩),
 (125,⟨0x26c444422012,[],[]⟩),
 (191,⟨0x200226c0442602020202202022000222,[],[(8,[.keep [6,7] [6,7]],[]),(14,[.keep [4,5,6,7,15] [4,5,6,7]],[.keep [] [4,5,6,7]]),(24,[.keep [] [4,5,6,7]],[]),(28,[.keep [6,7] [6,7]],[])]⟩),
 (163,⟨0x2220622102,[],[]⟩),
 (127,⟨0x2200222202262222626200203202026220220220200000622260202220000001002,[],[(6,[.keep [1,2,4,5,13,14,15] [2,4,5]],[.keep [1,2,4,5,13,14,15] [2,4,5]]),(12,[.keep [4,5] [4,5]],[]),(20,[.keep [1,2,4,5,7,13,14,15,27,28,29] [2,4,5]],[.keep [1,2,4,5,7,13,14,15,27,28,29] [2,4,5]]),(26,[.keep [1,2,4,5,13,14,15] [2,4,5]],[]),(44,[.keep [4,5,6] [4,5]],[]),(50,[.keep [4,5,6] [4,5]],[])]⟩),
 (126,⟨0x22223300200262212,[],[]⟩),
 (99,⟨0x2202620220000222026202200002220262022000000260012,[],[(8,[.keep [6] []],[]),(14,[.keep [1,2,3,17,18,19] [3]],[.keep [1,2,3,17,18,19] [3]]),(20,[.keep [1,2,3] [3]],[]),(30,[.keep [6] []],[]),(37,[.keep [1,3,28,29,30] [3]],[.keep [1,3,28,29,30] [3]]),(43,[.keep [1,3] [3]],[]),(53,[.keep [6] []],[]),(60,[.keep [3,39,40,41] [3]],[.keep [3,39,40,41] [3]]),(66,[.keep [] []],[]),(76,[.keep [6] []],[]),(81,[.keep [6] []],[])]⟩),
 (66,⟨0x222236e26202600000200020222020220266002112,[],[(18,[.canon (.s 11) 2011 1,.keep [1,2,3,11,25,26] [2011]],[.canon (.s 11) 2011 1,.keep [1,2,3,11,25,26] [2011]]),(24,[.canon (.s 11) 2011 1,.keep [11] [2011]],[])]⟩),
 (67,⟨0x26221,[],[]⟩),
 (22,⟨0x2220e222112,[],[]⟩),
 (68,⟨0x26221,[],[]⟩),
 (23,⟨0x2220e222112,[],[]⟩),
 (63,⟨0x22622212,[],[]⟩),
 (24,⟨0x2206262026002000200620201,[],[(8,[.keep [4] []],[]),(14,[.keep [0,1,12,13] []],[.keep [0,1,12,13] []]),(20,[.keep [] []],[]),(30,[.keep [4] []],[]),(35,[.keep [4] []],[])]⟩),
 (55,⟨0x2206222622022222000002206c440440264c4040264c400226200122,[],[(8,[.keep [4] []],[]),(14,[.keep [2,37,38,39] [2]],[.keep [2,37,38,39] [2]]),(20,[.keep [] []],[]),(30,[.keep [4] []],[]),(35,[.keep [4] []],[])]⟩),
 (57,⟨0x22222622222202000022012,[],[(8,[.canon (.s 3) 2003 1,.keep [3,7,8,9] [2003]],[.canon (.s 3) 2003 1,.keep [3,7,8,9] [2003]]),(14,[.canon (.s 3) 2003 1,.keep [3] [2003]],[])]⟩),
 (61,⟨0x226222262022122,[],[]⟩),
 (97,⟨0x26262222012,[],[]⟩),
 (98,⟨0x2206262026002000200620201,[],[(8,[.keep [4] []],[]),(14,[.keep [0,1,12,13] []],[.keep [0,1,12,13] []]),(20,[.keep [] []],[]),(30,[.keep [4] []],[]),(35,[.keep [4] []],[])]⟩),
 (59,⟨0x26c44426c04026c0426022622226200222222620026001222,[],[]⟩),
 (58,⟨0x2e22212,[],[]⟩),
 (56,⟨0x222202662200200022220000021,[],[(6,[.keep [1,8,9,10] []],[.keep [1,8,9,10] []]),(12,[.keep [] []],[]),(20,[.keep [1,5,8,9,10,15,16] []],[.keep [1,5,8,9,10,15,16] []]),(26,[.keep [1,8,9,10] []],[]),(36,[.keep [4] []],[]),(42,[.keep [4] []],[])]⟩),
 (62,⟨0x26262212,[],[]⟩),
 (60,⟨0x26602062012,[],[]⟩),
 (17,⟨0x26220064c4402260026444426444022220200220122,[],[]⟩),
 (100,⟨0x26262212,[],[]⟩),
 (64,⟨0x26cc026c40026c0402220122,[],[]⟩),
 (18,⟨0x26c4426c042600122,[],[]⟩),
 (6,⟨0x222206c4c044c44c0026c4c004c04c0026c04c0022e00022602602020002600200020064c400264c440264001cf4000264001cf4000264001cf000264001cf000264001cf000264001cf000264422222202e00022202e0002064001cf000264001cf000264c0026440264402644026440220122,[],[(8,[.keep [8] []],[]),(20,[.keep [8] []],[]),(26,[.keep [2,3,4,5,9,138,139] [4,5]],[.keep [2,3,4,5,9,138,139] [4,5]]),(32,[.keep [] []],[]),(40,[.keep [2,3,4,5,9,13,138,139,145,146] [4,5]],[.keep [2,3,4,5,9,13,138,139,145,146] [4,5]]),(46,[.keep [2,3,4,5,9,138,139] [4,5]],[]),(58,[.keep [8] []],[]),(64,[.keep [8] []],[])]⟩)]
end Go.VE
namespace Go.VE
namespace trace_events_c1
def yD:List RO:=[o1 20 (.s 18) [],o2 21 (ix 5) [.s 16,.s 18] [],o2 22 (lD 5) [.s 21] [21],o2 6 (.a (.alloc 5 [.int .i64 0,.int .i64 0,.int .i64 0,.int .i64 0,.aG])) [] [],o1 5 (.s 20) [20],oz (.l (.store 5)) [.s 6,.s 22] [22]]
def vC:List RO:=[o1 23 (.s 0) [],o1 24 (.s 3) [],o1 25 (.s 5) [5],o2 26 (bI .add) [.s 25,.k (.int .i64 1)] [25],o2 27 (.p (.build [.int .i64 0,.int .i64 0] [(0,1),(1,1)])) [.s 24,.s 26] [24,26],o2 28 (lD 5) [.s 6] [6],
 o2 29 .c [.s 23,.s 27,.s 28] [23,27,28],o2 30 (.p .not) [.s 29] [29]]
def tC:List RO:=[o2 31 (bI .add) [.s 18,.k (.int .i64 1)] [],o1 18 (.s 31) [31]]
def BR:RC:=.hg (.seq (.ops [o2 19 (bI .lss) [.s 18,.s 17] []]) (.seq (.cond (.s 19) .skip (.exit 2)) (.seq (.block 3 (.seq (.ops yD) (.seq (.ops vC) (.cond (.s 30) .ret .skip)))) (.ops tC)))) (.keep [0,3,8,9,10,16,17,18] [])
def Fi:List RO:=[o1 12 (.s 10) [],o2 13 (ix 3) [.s 8,.s 10] [],o2 14 (lD 3) [.s 13] [13],o2 4 (.a (.alloc 3 [.str ByteArray.empty,.aG,.aG])) [] [],o1 3 (.s 12) [12],oz (.l (.store 3)) [.s 4,.s 14] [14]]
def CK:List RO:=[o2 15 (fa 2) [.s 4] [],o2 16 (ld 1) [.s 15] [15],o2 17 ln [.s 16] [],o1 18 (.k (.int .i64 0)) []]
def BI:List RO:=[o2 32 (bI .add) [.s 10,.k (.int .i64 1)] [],o1 10 (.s 32) [32]]
def U2:RC:=.block 2 (.gh (.keep [0,3,8,9,10,16,17,18] []) (.loop BR))
def Jc:RC:=.hg (.seq (.ops [o2 11 (bI .lss) [.s 10,.s 9] []]) (.seq (.cond (.s 11) .skip (.exit 0)) (.seq (.block 1 (.seq (.ops Fi) (.seq (.ops CK) U2))) (.ops BI)))) (.keep [0,8,9,10] [])
def Qa:List RO:=[o2 7 (fa 0) [.s 1] [1],o2 8 (ld 1) [.s 7] [7],o2 9 ln [.s 8] [],o1 10 (.k (.int .i64 0)) []]
def U1:RC:=.block 0 (.gh (.keep [0,8,9,10] []) (.loop Jc))
def text:RF:=⟨33,[],.seq (.ops Qa) U1⟩
section
variable {S:Sys}
abbrev I1 (ps:Sl bt) (i:Int) (ws:List (List V)) (more:Bool) (y:Nat):St:=⟨[(0,.yl y),Cv 8 ps,Iv 9 (len ps),Iv 10 i],[],[],ws,more,y⟩
abbrev I2 (ps:Sl bt) (i:Int) (es:Sl Event) (j:Int) (ws:List (List V)) (more:Bool) (y:Nat):St:=⟨[(0,.yl y),Iv 3 i,Cv 8 ps,Iv 9 (len ps),Iv 10 i,Cv 16 es,Iv 17 (len es),Iv 18 j],[],[],ws,more,y⟩
abbrev S2 (ps:Sl bt) (i:Int) (es:Sl Event) (j:Int) (b:Bool) (ws:List (List V)) (more:Bool) (y:Nat):St:=⟨[(0,.yl y),Iv 3 i,Cv 8 ps,Iv 9 (len ps),Iv 10 i,Cv 16 es,Iv 17 (len es),Iv 18 j,Bv 19 b],[],[],ws,more,y⟩
theorem R4 (ps:Sl bt) (i:Int) (es:Sl Event) (j:Int) (ws:List (List V)) (more:Bool) (y:Nat) (hj:decide (j<len es)=false) :
 rn S.bare j_ some (.rc BR) [] (I2 ps i es j ws more y)=some (.exit 2,S2 ps i es j false ws more y):=by
 refine Le.get ?_;refine Kf (n:=7) (fo':=.rc (.cond (.s 19) .skip (.exit 2))) (fs':=[.seq (.seq (.block 3 (.seq (.ops yD) (.seq (.ops vC) (.cond (.s 30) .ret .skip)))) (.ops tC)),.gst (.keep [0,3,8,9,10,16,17,18] [])]) (fun b=>S2 ps i es j b ws more y) hj (by kernel_rfl) ?_
 exact Le.of_eq (by kernel_rfl)
theorem Wz (ps:Sl bt) (i:Int) (es:Sl Event) (j:Int) (e:Event) (ws:List (List V)) (more:Bool) (y:Nat) (hj:decide (j<len es)=true) (hx:idx es j=some e) (hb:(!(more || !ws.isEmpty))=false) :
 rn S.bare j_ some (.rc BR) [] (I2 ps i es j ([enc (⟨i,IntKind.wrap .i64 (j+1)⟩:aa),enc e]::ws) more y)=some (.norm,I2 ps i es (IntKind.wrap .i64 (j+1)) ws more y):=by
 refine Le.get ?_;refine Kt (n:=7) (fo':=.rc (.cond (.s 19) .skip (.exit 2))) (fs':=[.seq (.seq (.block 3 (.seq (.ops yD) (.seq (.ops vC) (.cond (.s 30) .ret .skip)))) (.ops tC)),.gst (.keep [0,3,8,9,10,16,17,18] [])]) (fun b=>S2 ps i es j b ([enc (⟨i,IntKind.wrap .i64 (j+1)⟩:aa),enc e]::ws) more y) hj (by kernel_rfl) ?_
 refine Lc hx ?_;refine Lz 8 false [] (yD.drop 1) [.seq (.seq (.ops vC) (.cond (.s 30) .ret .skip)),.blk 3,.seq (.ops tC),.gst (.keep [0,3,8,9,10,16,17,18] [])] ⟨[(0,.yl y),Iv 3 i,Cv 8 ps,Iv 9 (len ps),Iv 10 i,Cv 16 es,Iv 17 (len es),Iv 18 j,Bv 19 true,Iv 20 j],[],[],([enc (⟨i,IntKind.wrap .i64 (j+1)⟩:aa),enc e]::ws),more,y⟩ .i64 rfl (by kernel_rfl) fun x h1=>?_
 obtain rfl:x=e:=by rw[hx]at h1;cases h1;rfl
 refine Ti 1 false [] (yD.drop 3) [.seq (.seq (.ops vC) (.cond (.s 30) .ret .skip)),.blk 3,.seq (.ops tC),.gst (.keep [0,3,8,9,10,16,17,18] [])] ⟨[(0,.yl y),Iv 3 i,Cv 8 ps,Iv 9 (len ps),Iv 10 i,Cv 16 es,Iv 17 (len es),Iv 18 j,Bv 19 true,Iv 20 j,Cv 22 x],[],[],([enc (⟨i,IntKind.wrap .i64 (j+1)⟩:aa),enc x]::ws),more,y⟩ [iv 0,iv 0,iv 0,iv 0,.v .aG] rfl (by simp only[aR,uu,mA,nY,mq,oC,qg,nW,pX,mL,nX,uH,pW,pL,qf,pO,rU,rX,oq,qc,SV.bW];rfl) (by kernel_rfl) ?_
 refine Ast 1 false [] (yD.drop 5) [.seq (.seq (.ops vC) (.cond (.s 30) .ret .skip)),.blk 3,.seq (.ops tC),.gst (.keep [0,3,8,9,10,16,17,18] [])] ⟨[(0,.yl y),Iv 3 i,Cv 8 ps,Iv 9 (len ps),Iv 10 i,Cv 16 es,Iv 17 (len es),Iv 18 j,Bv 19 true,Cv 22 x,Pv 6,Iv 5 j],[Xb 6 (⟨0,0,0,0,.nil⟩:Event)],[],([enc (⟨i,IntKind.wrap .i64 (j+1)⟩:aa),enc x]::ws),more,y⟩ 6 0 x [iv 0,iv 0,iv 0,iv 0,.v .aG] ((cells x).map .v) rfl (by kernel_rfl) ?_
 refine Xy (n:=10) (q:=vC.drop 6) (fs':=[.seq (.cond (.s 30) .ret .skip),.blk 3,.seq (.ops tC),.gst (.keep [0,3,8,9,10,16,17,18] [])]) (st:=⟨[(0,.yl y),Iv 3 i,Cv 8 ps,Iv 9 (len ps),Iv 10 i,Cv 16 es,Iv 17 (len es),Iv 18 j,Bv 19 true,(23,.yl y),Cv 27 (⟨i,IntKind.wrap .i64 (j+1)⟩:aa),Cv 28 x],[Xb 6 x],[],([enc (⟨i,IntKind.wrap .i64 (j+1)⟩:aa),enc x]::ws),more,y⟩) (vs:=[cv (⟨i,IntKind.wrap .i64 (j+1)⟩:aa),cv x]) (by kernel_rfl) rfl (by kernel_rfl) (by kernel_rfl) rfl rfl ?_
 refine Kf (n:=3) (fo':=.rc (.cond (.s 30) .ret .skip)) (fs':=[.blk 3,.seq (.ops tC),.gst (.keep [0,3,8,9,10,16,17,18] [])]) (fun b=>⟨[(0,.yl y),Iv 3 i,Cv 8 ps,Iv 9 (len ps),Iv 10 i,Cv 16 es,Iv 17 (len es),Iv 18 j,Bv 19 true,Bv 30 b],[Xb 6 x],[],ws,more,y⟩) hb (by kernel_rfl) ?_
 exact Le.of_eq (by kernel_rfl)
theorem OD (ps:Sl bt) (i:Int) (es:Sl Event) (j:Int) (e:Event) (ws:List (List V)) (more:Bool) (y:Nat) (hj:decide (j<len es)=true) (hx:idx es j=some e) (hb:(!(more || !ws.isEmpty))=true) :
 rn S.bare j_ some (.rc BR) [] (I2 ps i es j ([enc (⟨i,IntKind.wrap .i64 (j+1)⟩:aa),enc e]::ws) more y)=some (.ret,⟨[(0,.yl y),Iv 3 i,Cv 8 ps,Iv 9 (len ps),Iv 10 i,Cv 16 es,Iv 17 (len es),Iv 18 j,Bv 19 true,Bv 30 true],[Xb 6 e],[],ws,more,y⟩):=by
 refine Le.get ?_;refine Kt (n:=7) (fo':=.rc (.cond (.s 19) .skip (.exit 2))) (fs':=[.seq (.seq (.block 3 (.seq (.ops yD) (.seq (.ops vC) (.cond (.s 30) .ret .skip)))) (.ops tC)),.gst (.keep [0,3,8,9,10,16,17,18] [])]) (fun b=>S2 ps i es j b ([enc (⟨i,IntKind.wrap .i64 (j+1)⟩:aa),enc e]::ws) more y) hj (by kernel_rfl) ?_
 refine Lc hx ?_;refine Lz 8 false [] (yD.drop 1) [.seq (.seq (.ops vC) (.cond (.s 30) .ret .skip)),.blk 3,.seq (.ops tC),.gst (.keep [0,3,8,9,10,16,17,18] [])] ⟨[(0,.yl y),Iv 3 i,Cv 8 ps,Iv 9 (len ps),Iv 10 i,Cv 16 es,Iv 17 (len es),Iv 18 j,Bv 19 true,Iv 20 j],[],[],([enc (⟨i,IntKind.wrap .i64 (j+1)⟩:aa),enc e]::ws),more,y⟩ .i64 rfl (by kernel_rfl) fun x h1=>?_
 obtain rfl:x=e:=by rw[hx]at h1;cases h1;rfl
 refine Ti 1 false [] (yD.drop 3) [.seq (.seq (.ops vC) (.cond (.s 30) .ret .skip)),.blk 3,.seq (.ops tC),.gst (.keep [0,3,8,9,10,16,17,18] [])] ⟨[(0,.yl y),Iv 3 i,Cv 8 ps,Iv 9 (len ps),Iv 10 i,Cv 16 es,Iv 17 (len es),Iv 18 j,Bv 19 true,Iv 20 j,Cv 22 x],[],[],([enc (⟨i,IntKind.wrap .i64 (j+1)⟩:aa),enc x]::ws),more,y⟩ [iv 0,iv 0,iv 0,iv 0,.v .aG] rfl (by simp only[aR,uu,mA,nY,mq,oC,qg,nW,pX,mL,nX,uH,pW,pL,qf,pO,rU,rX,oq,qc,SV.bW];rfl) (by kernel_rfl) ?_
 refine Ast 1 false [] (yD.drop 5) [.seq (.seq (.ops vC) (.cond (.s 30) .ret .skip)),.blk 3,.seq (.ops tC),.gst (.keep [0,3,8,9,10,16,17,18] [])] ⟨[(0,.yl y),Iv 3 i,Cv 8 ps,Iv 9 (len ps),Iv 10 i,Cv 16 es,Iv 17 (len es),Iv 18 j,Bv 19 true,Cv 22 x,Pv 6,Iv 5 j],[Xb 6 (⟨0,0,0,0,.nil⟩:Event)],[],([enc (⟨i,IntKind.wrap .i64 (j+1)⟩:aa),enc x]::ws),more,y⟩ 6 0 x [iv 0,iv 0,iv 0,iv 0,.v .aG] ((cells x).map .v) rfl (by kernel_rfl) ?_
 refine Xy (n:=10) (q:=vC.drop 6) (fs':=[.seq (.cond (.s 30) .ret .skip),.blk 3,.seq (.ops tC),.gst (.keep [0,3,8,9,10,16,17,18] [])]) (st:=⟨[(0,.yl y),Iv 3 i,Cv 8 ps,Iv 9 (len ps),Iv 10 i,Cv 16 es,Iv 17 (len es),Iv 18 j,Bv 19 true,(23,.yl y),Cv 27 (⟨i,IntKind.wrap .i64 (j+1)⟩:aa),Cv 28 x],[Xb 6 x],[],([enc (⟨i,IntKind.wrap .i64 (j+1)⟩:aa),enc x]::ws),more,y⟩) (vs:=[cv (⟨i,IntKind.wrap .i64 (j+1)⟩:aa),cv x]) (by kernel_rfl) rfl (by kernel_rfl) (by kernel_rfl) rfl rfl ?_
 refine Kt (n:=3) (fo':=.rc (.cond (.s 30) .ret .skip)) (fs':=[.blk 3,.seq (.ops tC),.gst (.keep [0,3,8,9,10,16,17,18] [])]) (fun b=>⟨[(0,.yl y),Iv 3 i,Cv 8 ps,Iv 9 (len ps),Iv 10 i,Cv 16 es,Iv 17 (len es),Iv 18 j,Bv 19 true,Bv 30 b],[Xb 6 x],[],ws,more,y⟩) hb (by kernel_rfl) ?_
 exact Le.of_eq (by kernel_rfl)
abbrev S1 (ps:Sl bt) (i:Int) (b:Bool) (ws:List (List V)) (more:Bool) (y:Nat):St:=⟨[(0,.yl y),Cv 8 ps,Iv 9 (len ps),Iv 10 i,Bv 11 b],[],[],ws,more,y⟩
theorem Rh (ps:Sl bt) (i:Int) (ws:List (List V)) (more:Bool) (y:Nat) (hj:decide (i<len ps)=false) :
 rn S.bare j_ some (.rc Jc) [] (I1 ps i ws more y)=some (.exit 0,S1 ps i false ws more y):=by
 refine Le.get ?_;refine Kf (n:=7) (fo':=.rc (.cond (.s 11) .skip (.exit 0))) (fs':=[.seq (.seq (.block 1 (.seq (.ops Fi) (.seq (.ops CK) U2))) (.ops BI)),.gst (.keep [0,8,9,10] [])]) (fun b=>S1 ps i b ws more y) hj (by kernel_rfl) ?_
 exact Le.of_eq (by kernel_rfl)
def LU:List Fm:=[.blk 2,.blk 1,.seq (.ops BI),.gst (.keep [0,8,9,10] [])]
theorem L8 (ps:Sl bt) (i:Int) (p:bt) (ws:List (List V)) (more:Bool) (y:Nat) (r:Out×St) (hj:decide (i<len ps)=true) (hx:idx ps i=some p)
 (h:rn S.bare j_ some (.rc (.loop BR)) LU (I2 ps i p.events 0 ws more y)=some r):rn S.bare j_ some (.rc Jc) [] (I1 ps i ws more y)=some r:=by
 refine Le.get ?_;refine Kt (n:=7) (fo':=.rc (.cond (.s 11) .skip (.exit 0))) (fs':=[.seq (.seq (.block 1 (.seq (.ops Fi) (.seq (.ops CK) U2))) (.ops BI)),.gst (.keep [0,8,9,10] [])]) (fun b=>S1 ps i b ws more y) hj (by kernel_rfl) ?_
 refine Lc hx ?_;refine Lz 8 false [] (Fi.drop 1) [.seq (.seq (.ops CK) U2),.blk 1,.seq (.ops BI),.gst (.keep [0,8,9,10] [])] ⟨[(0,.yl y),Cv 8 ps,Iv 9 (len ps),Iv 10 i,Bv 11 true,Iv 12 i],[],[],ws,more,y⟩ .i64 rfl (by kernel_rfl) fun x h1=>?_
 obtain rfl:x=p:=by rw[hx]at h1;cases h1;rfl
 refine Ti 1 false [] (Fi.drop 3) [.seq (.seq (.ops CK) U2),.blk 1,.seq (.ops BI),.gst (.keep [0,8,9,10] [])] ⟨[(0,.yl y),Cv 8 ps,Iv 9 (len ps),Iv 10 i,Bv 11 true,Iv 12 i,Cv 14 x],[],[],ws,more,y⟩ [.v (.str ByteArray.empty),.v .aG,.v .aG] rfl (by simp only[aR,uu,mA,nY,mq,oC,qg,nW,pX,mL,nX,uH,pW,pL,qf,pO,rU,rX,oq,qc,SV.bW];rfl) (by kernel_rfl) ?_
 refine Ast 1 false [] (Fi.drop 5) [.seq (.seq (.ops CK) U2),.blk 1,.seq (.ops BI),.gst (.keep [0,8,9,10] [])] ⟨[(0,.yl y),Cv 8 ps,Iv 9 (len ps),Iv 10 i,Bv 11 true,Cv 14 x,Pv 4,Iv 3 i],[Xb 4 (⟨ByteArray.empty,.nil,.nil⟩:bt)],[],ws,more,y⟩ 4 0 x [.v (.str ByteArray.empty),.v .aG,.v .aG] ((cells x).map .v) rfl (by kernel_rfl) ?_
 refine U9 6 false [] (CK.drop 2) [.seq U2,.blk 1,.seq (.ops BI),.gst (.keep [0,8,9,10] [])] ⟨[(0,.yl y),Cv 8 ps,Iv 9 (len ps),Iv 10 i,Bv 11 true,Pv 4,Iv 3 i,Cv 16 x.events],[Xb 4 x],[],ws,more,y⟩ x.events rfl (by kernel_rfl) ?_
 refine AV (n:=5) (fo':=.rc (.loop BR)) (fs':=LU) (st':=I2 ps i x.events 0 ws more y) (by kernel_rfl) (Le.of_eq h)
theorem Nn (ps:Sl bt) (i:Int) (es:Sl Event) (j:Int) (ws:List (List V)) (more:Bool) (y:Nat) :
 rn S.bare j_ some (.ex 2) LU (S2 ps i es j false ws more y)=some (.norm,I1 ps (IntKind.wrap .i64 (i+1)) ws more y):=by kernel_rfl
theorem wrap_small (n:Nat) (h:n<9223372036854775807):IntKind.wrap .i64 ((n:Int)+1)=((n+1:Nat):Int):=by
 simp[IntKind.wrap,IntKind.bits,IntKind.signed];omega
abbrev eI (x:aa×Event):List V:=[enc x.1,enc x.2]
theorem Ai.step {x:List V} {ws rest:List (List V)} {more:Bool} (h:Ai ws (x::rest) more):∃ws',ws=x::ws'∧((!(more || !ws'.isEmpty))=false∧Ai ws' rest more∨(!(more || !ws'.isEmpty))=true∧ws'=[]):=by
 rcases h with⟨rfl,rfl⟩|⟨rfl,hn,r,hr⟩
 ·exact⟨rest,rfl,.inl ⟨rfl,.inl ⟨rfl,rfl⟩⟩⟩
 ·cases ws with
  | nil=>exact absurd rfl hn
  | cons w ws=>
   simp only[List.cons_append,List.cons.injEq]at hr;obtain⟨rfl,rfl⟩:=hr;refine⟨ws,rfl,?_⟩
   cases ws with
   | nil=>exact .inr ⟨rfl,rfl⟩
   | cons z zs=>exact .inl ⟨rfl,.inr ⟨rfl,by simp,r,rfl⟩⟩
theorem DB {α:Type} {s:Sl α} {j:Nat} {x:α} {r:List α} (h:s.l.drop j=x::r):idx s (j:Int)=some x∧decide ((j:Int)<len s)=true∧s.l.drop (j+1)=r:=by
 have h1:j<s.l.length:=by
  apply Classical.byContradiction;intro hn;rw[List.drop_eq_nil_of_le (by omega)]at h;cases h
 have h2:=List.drop_eq_getElem_cons h1;rw[h2]at h;simp only[List.cons.injEq]at h;refine⟨?_,by simp[len,h1],h.2⟩
 unfold idx;rw[if_pos (by omega)]
 simp[ζd h1,h.1]
variable {Q:Out×St→Option (Out×St)} {fs:List Fm}
theorem inner (ps:Sl bt) (i:Int) (es:Sl Event) (hl:es.l.length<9223372036854775807) (more:Bool) (y:Nat) (R:List (List V)):∀(rem:List Event) (j:Nat),es.l.drop j=rem→∀ws,Ai ws ((fN i j rem).map eI++R) more →
 (∃(ws':List (List V)) (j':Int),Ai ws' R more∧rn S.bare j_ Q (.rc (.loop BR)) fs (I2 ps i es j ws more y)=rn S.bare j_ Q (.ex 2) fs (S2 ps i es j' false ws' more y)) ∨
 (∃st':St,st'.want=[]∧rn S.bare j_ Q (.rc (.loop BR)) fs (I2 ps i es j ws more y)=Q (.ret,st'))
 | [],j,hd,ws,hw=>by
  have h1:decide ((j:Int)<len es)=false:=by
   have:es.l.length≤j:=by simpa using hd
   simp[len];omega
  exact .inl ⟨ws,j,by simpa [fN]using hw,BN (R4 ps i es j ws more y h1)⟩
 | e::rem,j,hd,ws,hw=>by
  obtain⟨h1,h2,h3⟩:=DB hd;have hj:j<es.l.length:=by simpa [len]using h2
  simp only[fN,List.map_cons,List.cons_append]at hw;obtain⟨ws',rfl,hb⟩:=Ai.step hw;have hwr:=wrap_small j (by omega)
  have hji:((j:Int)+1)=IntKind.wrap .i64 ((j:Int)+1):=by rw[hwr];simp
  rcases hb with⟨hb,hd'⟩|⟨hb,rfl⟩
  ·have k:=Wz (S:=S) ps i es j e ws' more y h2 h1 hb;rw[←hji]at k;have k2:=BF (Q:=Q) (fs:=fs) k;have ih:=inner ps i es hl more y R rem (j+1) h3 ws' (by push_cast;exact hd')
   rw[show ((j+1:Nat):Int)=(j:Int)+1 from rfl]at ih;rcases ih with⟨ws2,j2,g1,g2⟩|⟨st',g1,g2⟩
   ·exact .inl ⟨ws2,j2,g1,k2.trans g2⟩
   ·exact .inr ⟨st',g1,k2.trans g2⟩
  ·have k:=OD (S:=S) ps i es j e [] more y h2 h1 hb;rw[←hji]at k;exact .inr ⟨_,by rfl,BE k⟩
theorem outer (ps:Sl bt) (hl:ps.l.length<9223372036854775807) (hes:∀p∈ps.l,p.events.l.length<9223372036854775807) (more:Bool) (y:Nat):∀(rem:List bt) (i:Nat),ps.l.drop i=rem→∀ws,Ai ws ((dO i rem).map eI) more →
 rn S.bare j_ Qi (.rc (.loop Jc)) [.blk 0] (I1 ps i ws more y)=some ()
 | [],i,hd,ws,hw=>by
  have h1:decide ((i:Int)<len ps)=false:=by
   have:ps.l.length≤i:=by simpa using hd
   simp[len];omega
  rw[BN (Rh ps i ws more y h1)];have:ws=[]:=by
   rcases hw with⟨_,rfl⟩|⟨_,hn,r,hr⟩
   ·rfl
   ·have:ws=[]:=by cases ws with
     | nil=>rfl
     | cons=>simp[dO]at hr
    exact absurd this hn
  subst this;rfl
 | p::rem,i,hd,ws,hw=>by
  obtain⟨h1,h2,h3⟩:=DB hd;have hi:i<ps.l.length:=by simpa [len]using h2
  have hp:p∈ps.l:=List.mem_of_mem_drop (i:=i) (by rw[hd];exact List.mem_cons_self ..)
  simp only[dO,List.map_append]at hw;have hwr:=wrap_small i (by omega)
  rcases inner (S:=S) (Q:=some) (fs:=LU) ps i p.events (hes p hp) more y _ p.events.l 0 rfl ws hw with⟨ws',j',g1,g2⟩|⟨st',g1,g2⟩
  ·rw[Nn,hwr]at g2;rw[BF (L8 ps i p ws more y _ h2 h1 g2)];exact outer ps hl hes more y rem (i+1) h3 ws' g1
  ·rw[BE (L8 ps i p ws more y _ h2 h1 g2)];simp[Qi,g1]
theorem all (t:Trace) (its:List (aa×Event)) (h:gb t=some its) (ws:List (List V)) (more:Bool) (hw:Ai ws (its.map eI) more) (y:Nat) :
 rn S.bare j_ Qi (.rc text.body) [] ⟨ue 0 (([]:List V).map .v++.yl y::[V.fptr (cells t)].map .v),[],[],ws,more,y⟩=some ():=by
 unfold gb at h;split at h
 ·rename_i hk;cases h;simp only[ζh,List.all_eq_true,Ci,decide_eq_true_eq]at hk;refine Le.get ?_;refine U9 4 false [] (Qa.drop 2) [.seq U1] ⟨[(0,.yl y),Cv 8 t.procs],[],[],ws,more,y⟩ t.procs rfl (by kernel_rfl) ?_
  refine AV (n:=5) (fo':=.rc (.loop Jc)) (fs':=[.blk 0]) (st':=I1 t.procs 0 ws more y) (by kernel_rfl) (Le.of_eq ?_)
  exact outer t.procs hk.1 hk.2 more y t.procs.l 0 rfl ws hw
 ·cases h
end
theorem EP {α:Type} [aI α] {a b:Sl α} (h:bz a=bz b):rows a.l=rows b.l:=by
 cases a <;> cases b <;> first|rfl|(simp only[bz,Sl.k,lC,V.fsl.injEq,true_and,reduceCtorEq]at h;done)|(simp only[bz,Sl.k,lC,V.fsl.injEq,true_and,reduceCtorEq]at h;exact h)
theorem CB (p:Int):∀(es es':List Event) (j:Int),rows es=rows es'→(fN p j es).map eI=(fN p j es').map eI
 | [],[],_,_=>rfl
 | [],_::_,_,h=>by simp[rows]at h
 | _::_,[],_,h=>by simp[rows]at h
 | e::es,e'::es',j,h=>by
  simp only[rows,List.map_cons,List.cons.injEq]at h;have h1:enc e=enc e':=by show V.agg (cells e)=V.agg (cells e');rw[h.1]
  simp only[fN,List.map_cons,eI,h1,CB p es es' (j+1) h.2]
theorem zK:∀(ps ps':List bt) (i:Int),rows ps=rows ps'→(dO i ps).map eI=(dO i ps').map eI
 | [],[],_,_=>rfl
 | [],_::_,_,h=>by simp[rows]at h
 | _::_,[],_,h=>by simp[rows]at h
 | p::ps,p'::ps',i,h=>by
  simp only[rows,List.map_cons,List.cons.injEq]at h;have h1:bz p.events=bz p'.events:=by
   have:=h.1;change [V.str p.name,bz p.vars,bz p.events]=[V.str p'.name,bz p'.vars,bz p'.events]at this;simp only[List.cons.injEq]at this;exact this.2.2.1
  simp only[dO,List.map_append,CB i _ _ 0 (EP h1),zK ps ps' (i+1) h.2]
def Cg (f:FuncId) (g:FuncId) (a b:List V) (xs:List (List V)):Prop:=∃(t:Trace) (its:List (aa×Event)),g=f∧a=[]∧b=[.fptr (cells t)]∧gb t=some its∧xs=its.map eI
theorem Cg.uniq {f g:FuncId} {a b:List V} {xs ys:List (List V)} (h:Cg f g a b xs) (k:Cg f g a b ys):xs=ys:=by
 obtain⟨t,its,rfl,rfl,rfl,h1,rfl⟩:=h;obtain⟨t',its',_,_,h2,h3,rfl⟩:=k;simp only[List.cons.injEq,V.fptr.injEq,and_true]at h2;have h4:bz t.procs=bz t'.procs:=by
  change [bz t.procs]=[bz t'.procs]at h2;simpa using h2
 unfold gb at h1 h3;split at h1 <;> split at h3 <;> simp only[ζa,reduceCtorEq]at h1 h3;subst h1 h3;exact zK _ _ 0 (EP h4)
end trace_events_c1
end Go.VE
namespace Go.VE
open Go.Proofs.YtjbnbbbiijdbpaaGreatDoor
noncomputable section
noncomputable def FK (f:FuncId):Option Ft:=none
noncomputable def Sy:Sys:=⟨E,fun n=>n,um (trace_events_c1.Cg 156),wY E,FK⟩
theorem Uw:∀f q,FK f=some q→nL E f q:=by
 intro f q h;unfold FK at h;cases h
def Tx:pJ:=Lx E some (lk G4)
abbrev cL:bE:=dU Sy Tx
theorem Q_:∃fi,E.ft 156=some fi∧vw E some fi trace_events_c1.text:=Ty (by kernel_rfl)
theorem Mc:s9 Sy Tx where
 fn f rf h:=let ⟨fi,h1,h2⟩:=Lg h;⟨fi,some,h1,A9,h2⟩
 vF f bs y h:=I_ h
 prm:=Uw
theorem Fy:∀f a b xs,Sy.items f a b=some xs→fE Sy f a b xs:=by
 intro f a b xs h;obtain⟨t,its,rfl,rfl,rfl,h1,rfl⟩:=FL h;obtain⟨fi,h2,h3⟩:=Q_;exact KV Sy h2 A9 h3 (Nat.le_of_ble_eq_true rfl) rfl fun ws more hw y=>trace_events_c1.all t its h1 ws more hw y
theorem uO (t:Trace) (its:List (aa×Event)) (h:gb t=some its):Sy.items 156 [] [.fptr (cells t)]=some (its.map fun x:aa×Event=>[enc x.1,enc x.2]):=
 Hl ⟨t,its,rfl,rfl,rfl,h,rfl⟩ fun ys hy=>hy.uniq ⟨t,its,rfl,rfl,rfl,h,rfl⟩
theorem Il:Sy.vF 9 []=some (.bool true):=BZ (Ep rfl ⟨1,[],by kernel_rfl⟩)
end
end Go.VE
namespace Go.VE
noncomputable section
def qM (t0:Trace) (x1:aa):Option Event:=
 (idx t0.procs x1.proc).bind fun x_1=>
 (idx x_1.events (IntKind.wrap .i64 (x1.index-1))).bind fun x_2=>
 some x_2
instance V1 (t0:Trace) (x1:aa):Fc Sy cL (qM t0 x1):=Fc.N 130 [enc t0,enc x1] (ct 2 2 t0 (bn 10 fun x_1 _=>bn 5 fun x_2 _=>ov 1 4 0 x_2 aj))
namespace cz
def bg (kind1 m2 p7:Int) (tb3:Trace) (vb6:aa) (i8:Int):Option (Fw Int Unit aa):=
 (idx tb3.procs p7).bind fun x_1=>
 au (decide (i8<(len x_1.events)))
 ((idx tb3.procs p7).bind fun x_2=>
 (idx x_2.events i8).bind fun x_3=>
 (au (x_3.kind==kind1)
 (some (x_3.message==m2))
 (some false):Option Bool).bind fun x_4=>
 au x_4
 (some (.r (⟨p7,IntKind.wrap .i64 (i8+1)⟩:aa)))
 (some (.n (IntKind.wrap .i64 (i8+1)))))
 (some (.x ()))
def W2 (kind1 m2 p7 i8:Int) (tb3:Trace) (vb6:aa):Option (Fw Int Unit aa):=
 (aW (fun q:Int=>bg kind1 m2 p7 tb3 vb6 q) i8).bind (Fw.elim
 (fun e=>some (.n (IntKind.wrap .i64 (p7+1))))
 (fun e=>some (.r e)))
def aD (kind1 m2:Int) (tb3:Trace) (vb6:aa) (p7:Int):Option (Fw Int Unit aa):=
 au (decide (p7<(len tb3.procs)))
 (W2 kind1 m2 p7 0 tb3 vb6)
 (some (.x ()))
def W1 (kind1 m2 p7:Int) (tb3:Trace) (vb6:aa):Option aa:=
 (aW (fun q:Int=>aD kind1 m2 tb3 vb6 q) p7).bind (Fw.elim
 (fun e=>some ⟨0,0⟩)
 (fun e=>some e))
end cz
def cz (t0:Trace) (kind1 m2:Int):Option aa:=
 cz.W1 kind1 m2 0 t0 (⟨0,0⟩:aa)
open cz in
instance QA (t0:Trace) (kind1 m2:Int):Fc Sy cL (cz t0 kind1 m2):=Fc.M 78 [enc t0,.int .i64 kind1,.int .i64 m2] (ct 2 3 t0 (cq 11 (fun qW1=>(aR [Iv 1 kind1,Iv 2 m2,Pv 3,Pv 6,Iv 7 qW1] [Xb 3 t0,Xb 6 (⟨0,0⟩:aa)])) (fun eW1=>(0,(aR [Pv 6] [Xb 6 (⟨0,0⟩:aa)]))) (fun eW1=>(aR [Pv 6] [Xb 6 eW1])) (fun qW1=>aZ 7 t0.procs (aJ 3 14 (cq 12 (fun qW2=>(aR [Iv 1 kind1,Iv 2 m2,Pv 3,Pv 6,Iv 7 qW1,Iv 8 qW2] [Xb 3 t0,Xb 6 (⟨0,0⟩:aa)])) (fun eW2=>(2,(aR [Iv 1 kind1,Iv 2 m2,Pv 3,Pv 6,Iv 7 qW1] [Xb 3 t0,Xb 6 (⟨0,0⟩:aa)]))) (fun eW2=>(aR [Pv 6] [Xb 6 eW2])) (fun qW2=>bn 8 fun x_1 _=>aZ 2 x_1.events (aJ 3 25 (bn 10 fun x_2 _=>bn 3 fun x_3 _=>ov 2 9 0 x_3 (aT 9 5 [9,41] 46 (aJ 9 41 (aA 5) (aA 5)) fun x_4=>aJ 2 46 aj aj)) aj)) (fun eW2=>aj) (fun eW2=>aj)) aj)) (fun eW1=>aj) (fun eW1=>aj)))
namespace cw
def J1 (out5:Sl aa) (tb2:Trace) (xb3:aa):Option (Sl aa):=
 (qM tb2 xb3).bind fun x_1=>
 au (x_1.kind==3)
 ((cz tb2 2 x_1.message).bind fun x_2=>
 (kB out5 (x_2:aa)).bind fun x_3=>
 some x_3)
 (some out5)
end cw
def cw (t0:Trace) (x1:aa):Option (Sl aa):=
 au (decide (x1.index>1))
 (cw.J1 (Sl.row [⟨x1.proc,IntKind.wrap .i64 (x1.index-1)⟩]:Sl aa) t0 x1)
 (cw.J1 (Sl.nil:Sl aa) t0 x1)
open cw in
theorem vL (t0:Trace) (x1:aa):Le ((cw t0 x1).bind fun r=>some (cR r)) (bN Sy cL (FM (tr Tx 131)) (.rc (tb Tx 131),[],start ([enc t0,enc x1].map .v) [])):=
 ct 2 2 t0 (aJ 17 9 (MF 10 17 18 .aG (⟨x1.proc,IntKind.wrap .i64 (x1.index-1)⟩:aa) (AQ 5 (aK 4 fun x_1 _=>ov 1 6 0 x_1 (aJ 10 24 (aK 6 fun x_2 _=>CT 1 2005 30 31 fun x_3 _=>aj) aj)))) (AQ 5 (aK 4 fun x_1 _=>ov 1 6 0 x_1 (aJ 10 24 (aK 6 fun x_2 _=>CT 1 2005 30 31 fun x_3 _=>aj) aj))))
def kI (dir:aa→Option (Sl aa)):List (List Bool)×List aa→Option (Fw (List (List Bool)×List aa) (List (List Bool)) Empty)
 | (out,[])=>some (.x out)
 | (out,y::rest)=>if 0≤y.proc∧0≤y.index then(out[y.proc.toNat]?).bind fun row=>(row[y.index.toNat]?).bind fun b=>
  au b (some (.n (out,rest))) ((dir y).bind fun more=>if rest.length+more.l.length≤2147483648 then some (.n (out.set y.proc.toNat (row.set y.index.toNat true),rest++more.l))else none)else none
def eB (t:Trace):List (List Bool):=t.procs.l.map fun P=>List.replicate (P.events.l.length+1) false
def wZ (t:Trace):Bool:=decide (t.procs.l.length≤2147483648)&&t.procs.l.all fun P=>decide (P.events.l.length+1≤2147483648)
def nested (out:List (List Bool)):Sl (Sl Bool):=if out=[]then .nil else .row (out.map .row)
def jV (t:Trace) (x:aa):Option (Sl (Sl Bool)):=
 if wZ t then(cw t x).bind fun s=>(aW (kI (cw t)) (eB t,s.l)).bind (Fw.elim (fun out=>some (nested out)) (fun e=>Empty.elim e))else none
end
end Go.VE
namespace Go.VE
namespace pastX
abbrev sZ:Nat→FuncId:=fun n=>n
def r1:List RO:=[o2 2 (.a .box) [0] [],o2 3 (.a .box) [1] [],o1 4 (.k (.aG)) []]
def r2:List RO:=[o1 5 (.k (.aG)) []]
def r3:List RO:=[o1 6 (.k (.int .i64 0)) []]
def r4:List RO:=[o1 11 6 [],o2 12 (fa 0) [2] [],o2 13 (ld 1) [12] [],o2 14 ln [13] [],o2 15 (bI .lss) [11,14] []]
def r5:List RO:=[o1 18 5 [],o2 19 (fa 0) [2] [],o2 20 (ld 1) [19] [],o1 21 6 [],o2 22 (ix 3) [20,21] [],o2 23 (fa 2) [22] [],o2 24 (ld 1) [23] [],o2 25 ln [24] [],o2 26 (bI .add) [25,.k (.int .i64 1)] [],o2 27 (.a (.makeSl 1 [.bool false])) [26,26] [],o2 28 (.a (.buildSl 1 1 [.aG] [0])) [27] [],o2 29 (.l (.append 1)) [18,28] [],o1 5 29 []]
def r6:List RO:=[o1 16 6 [],o2 17 (bI .add) [16,.k (.int .i64 1)] [],o1 6 17 []]
def L1:RC:=.seq (.seq (.ops r4) (.cond (.s 15) (.skip) (.exit 0))) (.seq (.block 1 (.ops r5)) (.ops r6))
def r7:List RO:=[o2 30 (lD 1) [2] [],o2 31 (lD 2) [3] [],o2 32 .c [.f 131,30,31] [],o1 7 32 []]
def r8:List RO:=[o1 33 7 [],o2 34 ln [33] [],o2 35 (bI .gtr) [34,.k (.int .i64 0)] []]
def r9:List RO:=[o1 36 7 [],o2 37 (ix 2) [36,.k (.int .i64 0)] [],o2 38 (lD 2) [37] [],o2 8 (.a (.alloc 2 [.int .i64 0,.int .i64 0])) [] [],oz (su 2) [8,38] []]
def CS:List RO:=[o1 39 7 [],o2 40 (.p (.slice 2 true false)) [39,.k (.int .i64 1)] [],o1 7 40 []]
def D4:List RO:=[o1 41 5 [],o2 42 (fa 0) [8] [],o2 43 (ld 1) [42] [],o2 44 (ix 1) [41,43] [],o2 45 (ld 1) [44] [],o2 46 (fa 1) [8] [],o2 47 (ld 1) [46] [],on 48 (ix 1) [45,47] [],on 49 (ld 1) [48] []]
def CP:List RO:=[o1 50 5 [],o2 51 (fa 0) [8] [],o2 52 (ld 1) [51] [],o2 53 (ix 1) [50,52] [],o2 54 (ld 1) [53] [],o2 55 (fa 1) [8] [],o2 56 (ld 1) [55] [],on 57 (ix 1) [54,56] [],oy (su 1) [57,.k (.bool true)] []]
def D1:List RO:=[o2 58 (lD 1) [2] [],o2 59 (lD 2) [8] [],o2 60 .c [.f 131,58,59] [],o1 9 60 []]
def Cy:List RO:=[o1 10 (.k (.int .i64 0)) []]
def FA:List RO:=[o1 61 10 [],o1 62 9 [],o2 63 ln [62] [],o2 64 (bI .lss) [61,63] []]
def r16:List RO:=[o1 67 7 [],o1 68 9 [],o1 69 10 [],o2 70 (ix 2) [68,69] [],o2 71 (lD 2) [70] [],o2 72 (.a (.buildSl 2 1 [.int .i64 0,.int .i64 0] [0])) [71] [],o2 73 (.l (.append 2)) [67,72] [],o1 7 73 []]
def IE:List RO:=[o1 65 10 [],o2 66 (bI .add) [65,.k (.int .i64 1)] [],o1 10 66 []]
def L3:RC:=.seq (.seq (.ops FA) (.cond (.s 64) (.skip) (.exit 4))) (.seq (.block 5 (.ops r16)) (.ops IE))
def L2:RC:=.seq (.seq (.ops r8) (.cond (.s 35) (.skip) (.exit 2))) (.block 3 (.seq (.ops r9) (.seq (.ops CS) (.seq (.seq (.lK D4) (.cond (.s 49) (.exit 3) (.skip))) (.seq (.lK CP) (.seq (.ops D1) (.seq (.ops Cy) (.block 4 (.loop L3)))))))))
def XF:List RO:=[o1 74 5 [],o1 4 74 []]
def code:RC:=.seq (.ops r1) (.seq (.ops r2) (.seq (.seq (.ops r3) (.block 0 (.loop L1))) (.seq (.ops r7) (.seq (.block 2 (.loop L2)) (.seq (.ops XF) (.ret))))))
noncomputable abbrev sR:=Go.Proofs.YtjbnbbbiijdbpaaGreatDoor.E
def gQ (out:List (List Bool)):List (List V):=out.map fun r=>r.map V.bool
theorem shape:∃fi,sR.ft (sZ 110)=some fi∧aN ⟨sR,some,fi.ntmps⟩ false fi.body=some code∧2≤fi.ntmps∧fi.results=[.tmp 4]:=by
 have h:((sR.ft (sZ 110)).map fun fi=>(aN ⟨sR,some,fi.ntmps⟩ false fi.body,Nat.ble 2 fi.ntmps,fi.results))=some (some code,true,[.tmp 4]):=by kernel_rfl
 obtain⟨fi,h1,h2⟩:=ζf.1 h;simp only[ζc]at h2;exact⟨fi,h1,h2.1,Nat.le_of_ble_eq_true h2.2.1,h2.2.2⟩
section
variable {E:Env} {N:Nat→FuncId} {t:Trace} {x:aa} {k:Nat} {F:Frame} {H H1:aq} {call:b_} {b:Option Nat}
theorem iB {o:RO} {l:List RO} {v:V} {r:Frame×aq} (hg:o.gd=none) (hv:aS E N call b o.now o.k (o.az.map (aF N F)) H=some (v,H1)) (h:bO E N call b l (aC F o.dst v) H1=some r):bO E N call b (o::l) F H=some r:=by
 simp only[bO,hg,hv];exact h
theorem vp {o:RO} {l:List RO} {v:V} {r:Frame×aq} (hg:o.gd=none) (hv:aS E N call b o.now o.k (o.az.map (aF N F)) H=some (v,H)) (h:bO E N call b l (aC F o.dst v) H=some r):bO E N call b (o::l) F H=some r:=iB hg hv h
theorem dN:bO E N call b [] F H=some (F,H):=rfl
theorem ld1 (h:H[0]? = some (.row 1 [cells t])):dD H (.load 1 false) [.hptr 0 0 0]=some (bz t.procs):=by
 simp[dD,cM,h,Ob.rows];rfl
theorem Zf {s:Sl bt} {p:bt} {i:Nat} (h:s.l[i]? = some p):i_ 3 (bz s) (i:Int)=some (.fptr (cells p)):=by
 have:=AN (N:=fun n=>n) s .i64 (i:Int) 3 rfl
 simp only[ay]at this;rw[this,show idx s (i:Int)=some p from by unfold idx;rw[if_pos (by omega)];exact h];rfl
theorem x4 (f2:get F 2=.hptr 0 0 0) (f6:get F 6=.int .i64 k) (h0:H[0]? = some (.row 1 [cells t])) :
 ∃F',bO E N call none r4 F H=some (F',H)∧get F' 15=.bool (decide (k<t.procs.l.length))∧(∀s,s<11→get F' s=get F s):=by
 refine⟨_,vp (v:=.int .i64 k) rfl ?_ <| vp (v:=.hptr 0 0 0) rfl ?_ <| vp (v:=bz t.procs) rfl ?_ <| vp (v:=.int .i64 t.procs.l.length) rfl ?_ <| vp (v:=.bool (decide (k<t.procs.l.length))) rfl ?_ dN,?_,?_⟩
 ·simp[aS,aF,ay,f6]
 ·simp[aS,aF,ay,aC,f2,e9]
 ·simp only[aS,List.map_cons,List.map_nil,aF,aC,aB,Nat.reduceEqDiff,if_true,if_false];rw[ld1 h0];rfl
 ·simp only[aS,List.map_cons,List.map_nil,aF,aC,aB,Nat.reduceEqDiff,if_true,if_false];rw[vB];rfl
 ·simp[aS,aF,ay,aC,gP,mQ]
 ·simp[aC]
 ·intro s hs;simp only[aC,aB]
  repeat (rw[if_neg (by omega)])
theorem vM {n:Nat} (h:n≤2147483648):IntKind.wrap .i64 ((n:Int)+1)=((n+1:Nat):Int):=by
 simp[IntKind.wrap,IntKind.bits,IntKind.signed];omega
theorem x5 {P:bt} {o:Nat} {ids:List Nat} {rows:List (List V)} (f2:get F 2=.hptr 0 0 0) (f6:get F 6=.int .i64 k) (h0:H[0]? = some (.row 1 [cells t])) (hP:t.procs.l[k]? = some P) (hl:P.events.l.length+1≤2147483648)
 (hn:jw H (get F 5) o ids rows) (hr:rows.length+1≤2147483648) :
 ∃F' H',bO E N call none r5 F H=some (F',H')∧jw H' (get F' 5) (H.length+2) (ids++[H.length]) (rows++[List.replicate (P.events.l.length+1) (.bool false)])∧H.length≤H'.length∧(∀id,id<H.length→id≠o∨rows=[]→H'[id]? = H[id]?)∧(∀s,s<11→s≠5→get F' s=get F s):=by
 obtain⟨H',p1,p2,p3,p4⟩:=hn.push (List.replicate (P.events.l.length+1) (.bool false)) hr;have hrep:gf (List.replicate (P.events.l.length+1) (V.bool false))=List.replicate (P.events.l.length+1) [.bool false]:=by simp[gf]
 rw[hrep,List.length_replicate]at p1;have hb:=vM (n:=P.events.l.length) (by omega)
 refine⟨_,H',vp (v:=get F 5) rfl ?_ <| vp (v:=.hptr 0 0 0) rfl ?_ <| vp (v:=bz t.procs) rfl ?_ <| vp (v:=.int .i64 k) rfl ?_ <| vp (v:=.fptr (cells P)) rfl ?_ <| vp (v:=.fptr [bz P.events]) rfl ?_ <| vp (v:=bz P.events) rfl ?_ <|
  vp (v:=.int .i64 P.events.l.length) rfl ?_ <| vp (v:=.int .i64 ((P.events.l.length+1:Nat):Int)) rfl ?_ <| iB (v:=.hsl H.length 1 0 (P.events.l.length+1)) (H1:=H++[.row 1 (List.replicate (P.events.l.length+1) [.bool false])]) rfl ?_ <|
  iB (v:=.hsl (H.length+1) 1 0 1) (H1:=H++[.row 1 (List.replicate (P.events.l.length+1) [.bool false])]++[.row 1 [[.hsl H.length 1 0 (P.events.l.length+1)]]]) rfl ?_ <|
  iB (v:=.hsl (H.length+2) 1 0 (rows.length+1)) (H1:=H') rfl ?_ <| vp (v:=.hsl (H.length+2) 1 0 (rows.length+1)) rfl ?_ dN,?_,p3,p4,?_⟩
 ·simp[aS,aF,ay]
 ·simp[aS,aF,ay,aC,f2,e9]
 ·simp only[aS,List.map_cons,List.map_nil,aF,aC,aB,Nat.reduceEqDiff,if_true,if_false];rw[ld1 h0];rfl
 ·simp[aS,aF,ay,aC,f6]
 ·simp only[aS,List.map_cons,List.map_nil,aF,aC,aB,Nat.reduceEqDiff,if_true,if_false,ay];rw[Zf hP];rfl
 ·simp only[aS,List.map_cons,List.map_nil,aF,aC,aB,Nat.reduceEqDiff,if_true,if_false,ay];rfl
 ·simp only[aS,List.map_cons,List.map_nil,aF,aC,aB,Nat.reduceEqDiff,if_true,if_false];rfl
 ·simp only[aS,List.map_cons,List.map_nil,aF,aC,aB,Nat.reduceEqDiff,if_true,if_false];rw[vB];rfl
 ·simp only[aS,List.map_cons,List.map_nil,aF,aC,aB,Nat.reduceEqDiff,if_true,if_false,ay,gP];rw[hb];rfl
 ·simp only[aS,List.map_cons,List.map_nil,aF,aC,aB,Nat.reduceEqDiff,if_true,if_false,iz];rw[if_pos ⟨trivial,trivial,by omega,by omega,by omega⟩]
  simp only[Option.map_some,Mk.val,Int.toNat_natCast]
 ·simp only[aS,List.map_cons,List.map_nil,aF,aC,aB,Nat.reduceEqDiff,if_true,if_false,iz];simp[eX,V.cells,V.one,Mk.val]
 ·simp only[aS,List.map_cons,List.map_nil,aF,aC,aB,Nat.reduceEqDiff,if_true,if_false];exact p1
 ·simp[aS,aF,ay,aC]
 ·simp only[aC,aB,if_true];exact p2
 ·intro s hs h5;simp only[aC,aB];rw[if_neg (Ne.symm h5)]
  repeat (rw[if_neg (by omega)])
theorem x6 (f6:get F 6=.int .i64 k) (hk:k≤2147483648):∃F',bO E N call none r6 F H=some (F',H)∧get F' 6=.int .i64 ((k+1:Nat):Int)∧(∀s,s<11→s≠6→get F' s=get F s):=by
 have hb:=vM hk;refine⟨_,vp (v:=.int .i64 k) rfl ?_ <| vp (v:=.int .i64 ((k+1:Nat):Int)) rfl ?_ <| vp (v:=.int .i64 ((k+1:Nat):Int)) rfl ?_ dN,?_,?_⟩
 ·simp[aS,aF,ay,f6]
 ·simp only[aS,List.map_cons,List.map_nil,aF,aC,aB,Nat.reduceEqDiff,if_true,if_false,ay,gP];rw[hb];rfl
 ·simp[aS,aF,ay,aC]
 ·simp[aC]
 ·intro s hs h6;simp only[aC,aB];rw[if_neg (Ne.symm h6)]
  repeat (rw[if_neg (by omega)])
end
structure P1 (t:Trace) (x:aa) (k:Nat) (F:Frame) (H:aq):Prop where
 f2:get F 2=.hptr 0 0 0
 f3:get F 3=.hptr 1 0 0
 f6:get F 6=.int .i64 k
 h0:H[0]? = some (.row 1 [cells t])
 h1:H[1]? = some (.row 2 [cells x])
 ns:∃o ids,jw H (get F 5) o ids (gQ ((eB t).take k))∧(k≠0→2≤o)∧∀id∈ids,2≤id
theorem sP (out:List (List Bool)):(gQ out).length=out.length:=by simp[gQ]
theorem HE {E:Env} {N:Nat→FuncId} {t:Trace} {x:aa} (hok:wZ t=true):∀(m k:Nat) (F:Frame) (H:aq),k+m=t.procs.l.length→P1 t x k F H→∃F' H',ku E N L1 F H (.exit 0) F' H'∧P1 t x t.procs.l.length F' H':=by
 have hok':t.procs.l.length≤2147483648∧∀P∈t.procs.l,P.events.l.length+1≤2147483648:=by
  simpa [wZ]using hok
 intro m
 induction m with
 | zero=>
  intro k F H hk p;have hk':k=t.procs.l.length:=by omega
  obtain⟨F1,e1,e2,e3⟩:=x4 (E:=E) (N:=N) (call:=fun _ _ _=>none) p.f2 p.f6 p.h0
  refine⟨F1,H,ku.stop (Ex.tN (Ex.seq (Ex.dc fun c=>?_) (Ex.rD ?_ Ex.exit)) (by simp)) (by simp),?_⟩
  ·obtain⟨F2,g1,_,_⟩:=x4 (E:=E) (N:=N) (call:=c) p.f2 p.f6 p.h0;have:bO E N c none r4 F H=bO E N (fun _ _ _=>none) none r4 F H:=rfl
   rw[this];exact e1
  ·show get F1 15=_;rw[e2];simp[hk']
  ·subst hk';exact⟨by rw[e3 2 (by omega)];exact p.f2,by rw[e3 3 (by omega)];exact p.f3,by rw[e3 6 (by omega)];exact p.f6,p.h0,p.h1,by rw[e3 5 (by omega)];exact p.ns⟩
 | succ m ih=>
  intro k F H hk p;have hkl:k<t.procs.l.length:=by omega
  obtain⟨o,ids,n1,n2,n3⟩:=p.ns;obtain⟨F1,e1,e2,e3⟩:=x4 (E:=E) (N:=N) (call:=fun _ _ _=>none) p.f2 p.f6 p.h0
  have hP:=ζd hkl;have hlen:((eB t).take k).length=k:=by simp[eB];omega
  have n1':jw H (get F1 5) o ids (gQ ((eB t).take k)):=by rw[e3 5 (by omega)];exact n1
  obtain⟨F2,H2,g1,g2,g3,g4,g5⟩:=x5 (E:=E) (N:=N) (call:=fun _ _ _=>none) (by rw[e3 2 (by omega)];exact p.f2) (by rw[e3 6 (by omega)];exact p.f6) p.h0 hP (hok'.2 _ (List.getElem_mem hkl)) n1' (by rw[sP,hlen];omega)
  obtain⟨F3,q1,q2,q3⟩:=x6 (E:=E) (N:=N) (call:=fun _ _ _=>none) (H:=H2) (k:=k) (F:=F2) (by rw[g5 6 (by omega) (by omega),e3 6 (by omega)];exact p.f6) (by omega)
  have hl:=n1.lt;have h0l:=(ζe.1 p.h0).1;have h1l:=(ζe.1 p.h1).1;have hkeep:∀i,i<2→i<H.length→H2[i]? = H[i]? := fun i hi hl=>g4 i hl (by
   by_cases hk0:k=0
   ·subst hk0;right;simp[gQ]
   ·left;have:=n2 hk0;omega)
  have hp3:P1 t x (k+1) F3 H2:=by
   refine⟨by rw[q3 2 (by omega) (by omega),g5 2 (by omega) (by omega),e3 2 (by omega)];exact p.f2,by rw[q3 3 (by omega) (by omega),g5 3 (by omega) (by omega),e3 3 (by omega)];exact p.f3,q2,
    by rw[hkeep 0 (by omega) h0l];exact p.h0,by rw[hkeep 1 (by omega) h1l];exact p.h1,H.length+2,ids++[H.length],?_,fun _=>by omega,fun id hid=>?_⟩
   ·rw[q3 5 (by omega) (by omega)]
    have hrows:gQ ((eB t).take (k+1))=gQ ((eB t).take k)++[List.replicate (t.procs.l[k].events.l.length+1) (.bool false)]:=by
     rw[List.take_add_one];have:(eB t)[k]? = some (List.replicate (t.procs.l[k].events.l.length+1) false):=by simp[eB,hP]
     rw[this];simp[gQ]
    rw[hrows];exact g2
   ·rcases List.mem_append.1 hid with h|h
    ·exact n3 id h
    ·simp at h;omega
  obtain⟨F',H',r1,r2⟩:=ih (k+1) F3 H2 (by omega) hp3
  refine⟨F',H',ku.step (Ex.seq (Ex.seq (Ex.dc fun c=>e1) (Ex.mD ?_ Ex.skip)) (Ex.seq (Ex.block (Ex.dc fun c=>g1)) (Ex.dc fun c=>q1))) r1,r2⟩
  show get F1 15=_;rw[e2];simp[hkl]
section
variable {E:Env} {N:Nat→FuncId} {t:Trace} {x y:aa} {F:Frame} {H:aq} {call:b_}
theorem x8 {l:List (List V)} {id:Nat} (h:gZ H (get F 7) l id):∃F',bO E N call none r8 F H=some (F',H)∧get F' 35=.bool (decide (0<l.length))∧(∀s,s<11→get F' s=get F s):=by
 refine⟨_,vp (v:=get F 7) rfl ?_ <| vp (v:=.int .i64 l.length) rfl ?_ <| vp (v:=.bool (decide (0<l.length))) rfl ?_ dN,?_,?_⟩
 ·simp[aS,aF,ay]
 ·simp only[aS,List.map_cons,List.map_nil,aF,aC,aB,Nat.reduceEqDiff,if_true,if_false,ay,h.len,Option.map_some]
 ·simp[aS,aF,ay,aC,gP,mQ]
 ·simp[aC]
 ·intro s hs;simp only[aC,aB]
  repeat (rw[if_neg (by omega)])
theorem x9 {l:List (List V)} {id:Nat} (h:gZ H (get F 7) (cells y::l) id):∃F',bO E N call none r9 F H=some (F',H++[.row 2 [cells y]])∧get F' 8=.hptr H.length 0 0∧(∀s,s<11→s≠8→get F' s=get F s):=by
 obtain⟨p,p1,p2⟩:=h.get (i:=0) (c:=cells y) rfl;refine⟨_,vp (v:=get F 7) rfl ?_ <| vp (v:=p) rfl ?_ <| vp (v:=.agg (cells y)) rfl ?_ <| iB (v:=.hptr H.length 0 0) (H1:=H++[.row 2 [[.int .i64 0,.int .i64 0]]]) rfl ?_ <| iB (v:=.undef) (H1:=H++[.row 2 [cells y]]) rfl ?_ dN,?_,?_⟩
 ·simp[aS,aF,ay]
 ·simp only[aS,List.map_cons,List.map_nil,aF,aC,aB,Nat.reduceEqDiff,if_true,if_false,ay];rw[show (0:Int)=((0:Nat):Int)from rfl,p1];rfl
 ·simp only[aS,List.map_cons,List.map_nil,aF,aC,aB,Nat.reduceEqDiff,if_true,if_false];rw[p2];rfl
 ·simp only[aS,List.map_cons,List.map_nil,aF,aC,aB,Nat.reduceEqDiff,if_true,if_false,iz,Option.map_some,Mk.val]
 ·simp only[aS,List.map_cons,List.map_nil,aF,aC,aB,Nat.reduceEqDiff,if_true,if_false];simp[dW,V.cells,V.one]
 ·simp[aC]
 ·intro s hs h8;simp only[aC,aB];rw[if_neg (Ne.symm h8)]
  repeat (rw[if_neg (by omega)])
theorem ZK {c:List V} {l:List (List V)} {id:Nat} (h:gZ H (get F 7) (c::l) id):∃F',bO E N call none CS F H=some (F',H)∧gZ H (get F' 7) l id∧(∃off m off',get F 7=.hsl id 2 off m∧get F' 7=.hsl id 2 off' l.length)∧(∀s,s<11→s≠7→get F' s=get F s):=by
 obtain⟨w',p1,p2,off,m,off',p3,p4⟩:=h.tail;refine⟨_,vp (v:=get F 7) rfl ?_ <| vp (v:=w') rfl ?_ <| vp (v:=w') rfl ?_ dN,?_,⟨off,m,off',p3,?_⟩,?_⟩
 ·simp[aS,aF,ay]
 ·simp only[aS,List.map_cons,List.map_nil,aF,aC,aB,Nat.reduceEqDiff,if_true,if_false,ay,jy,ζb,p1,Option.map_some]
 ·simp[aS,aF,ay,aC]
 ·simp only[aC,aB,if_true];exact p2
 ·simp only[aC,aB,if_true];exact p4
 ·intro s hs h8;simp only[aC,aB];rw[if_neg (Ne.symm h8)]
  repeat (rw[if_neg (by omega)])
theorem gH (H:aq):H.take H.length=H:=List.take_length ..
theorem Rr {c:Nat} (hc:H[c]? = some (.row 2 [cells y])):dD H (.load 1 false) [.hptr c 0 0]=some (.int .i64 y.proc)∧dD H (.load 1 false) [.hptr c 0 1]=some (.int .i64 y.index)∧dD H (.load 2 true) [.hptr c 0 0]=some (enc y):=by
 refine⟨?_,?_,?_⟩ <;> simp[dD,cM,hc,Ob.rows,cut] <;> rfl
theorem T0 {c o:Nat} {ids:List Nat} {rows:List (List V)} {p j:Nat} {r:List V} {u:V} (f8:get F 8=.hptr c 0 0) (hc:H[c]? = some (.row 2 [cells y])) (hn:jw H (get F 5) o ids rows) (hp:y.proc=p) (hj:y.index=j) (hr:rows[p]? = some r) (hu:r[j]? = some u) :
 ∃F',bO E N call (some H.length) D4 F H=some (F',H)∧get F' 49=u∧(∀s,s<11→get F' s=get F s):=by
 obtain⟨id,q0,q1,q2,q3,q4⟩:=hn.cell hr hu;obtain⟨c1,c2,_⟩:=Rr hc;rw[hp]at c1;rw[hj]at c2;refine⟨_,vp (v:=get F 5) rfl ?_ <| vp (v:=.hptr c 0 0) rfl ?_ <| vp (v:=.int .i64 p) rfl ?_ <| vp (v:=.hptr o p 0) rfl ?_ <| vp (v:=.hsl id 1 0 r.length) rfl ?_ <| vp (v:=.hptr c 0 1) rfl ?_ <| vp (v:=.int .i64 j) rfl ?_ <| vp (v:=.hptr id j 0) rfl ?_ <| vp (v:=u) rfl ?_ dN,?_,?_⟩
 ·simp[aS,aF,ay]
 ·simp[aS,aF,ay,aC,f8,e9]
 ·simp only[aS,List.map_cons,List.map_nil,aF,aC,aB,Nat.reduceEqDiff,if_true,if_false,gH];rw[c1];rfl
 ·simp only[aS,List.map_cons,List.map_nil,aF,aC,aB,Nat.reduceEqDiff,if_true,if_false,ay];rw[q1];rfl
 ·simp only[aS,List.map_cons,List.map_nil,aF,aC,aB,Nat.reduceEqDiff,if_true,if_false,gH];rw[q2];rfl
 ·simp[aS,aF,ay,aC,f8,e9]
 ·simp only[aS,List.map_cons,List.map_nil,aF,aC,aB,Nat.reduceEqDiff,if_true,if_false,gH];rw[c2];rfl
 ·simp only[aS,List.map_cons,List.map_nil,aF,aC,aB,Nat.reduceEqDiff,if_true,if_false,ay];rw[q3];rfl
 ·simp only[aS,List.map_cons,List.map_nil,aF,aC,aB,Nat.reduceEqDiff,if_true,if_false,gH];rw[q4];rfl
 ·simp[aC]
 ·intro s hs;simp only[aC,aB]
  repeat (rw[if_neg (by omega)])
theorem ZA {c o:Nat} {ids:List Nat} {rows:List (List V)} {p j:Nat} {r:List V} {u:V} (f8:get F 8=.hptr c 0 0) (hc:H[c]? = some (.row 2 [cells y])) (hn:jw H (get F 5) o ids rows) (hp:y.proc=p) (hj:y.index=j) (hr:rows[p]? = some r) (hu:r[j]? = some u) :
 ∃F' H',bO E N call (some H.length) CP F H=some (F',H')∧jw H' (get F' 5) o ids (rows.set p (r.set j (.bool true)))∧H'.length=H.length∧(∀i,i∉ids→H'[i]? = H[i]?)∧(∀s,s<11→get F' s=get F s):=by
 obtain⟨id,q0,q1,q2,q3,q4⟩:=hn.cell hr hu;obtain⟨c1,c2,_⟩:=Rr hc;rw[hp]at c1;rw[hj]at c2;obtain⟨H',s1,s2,s3,s4⟩:=hn.set hr (ζe.1 hu).1 q0 (u:=.bool true) rfl rfl;refine⟨_,H',vp (v:=get F 5) rfl ?_ <| vp (v:=.hptr c 0 0) rfl ?_ <| vp (v:=.int .i64 p) rfl ?_ <| vp (v:=.hptr o p 0) rfl ?_ <| vp (v:=.hsl id 1 0 r.length) rfl ?_ <| vp (v:=.hptr c 0 1) rfl ?_ <| vp (v:=.int .i64 j) rfl ?_ <| vp (v:=.hptr id j 0) rfl ?_ <| iB (v:=.undef) (H1:=H') rfl ?_ dN,?_,s3,fun i hi=>s4 i fun e=>hi (e▸List.mem_of_getElem? q0),?_⟩
 ·simp[aS,aF,ay]
 ·simp[aS,aF,ay,aC,f8,e9]
 ·simp only[aS,List.map_cons,List.map_nil,aF,aC,aB,Nat.reduceEqDiff,if_true,if_false,gH];rw[c1];rfl
 ·simp only[aS,List.map_cons,List.map_nil,aF,aC,aB,Nat.reduceEqDiff,if_true,if_false,ay];rw[q1];rfl
 ·simp only[aS,List.map_cons,List.map_nil,aF,aC,aB,Nat.reduceEqDiff,if_true,if_false,gH];rw[q2];rfl
 ·simp[aS,aF,ay,aC,f8,e9]
 ·simp only[aS,List.map_cons,List.map_nil,aF,aC,aB,Nat.reduceEqDiff,if_true,if_false,gH];rw[c2];rfl
 ·simp only[aS,List.map_cons,List.map_nil,aF,aC,aB,Nat.reduceEqDiff,if_true,if_false,ay];rw[q3];rfl
 ·simp only[aS,List.map_cons,List.map_nil,aF,aC,aB,Nat.reduceEqDiff,if_true,if_false,s1]
 ·simp only[aC,aB,Nat.reduceEqDiff,if_false];exact s2
 ·intro s hs;simp only[aC,aB]
  repeat (rw[if_neg (by omega)])
def Cl (E:Env) (N:Nat→FuncId) (t:Trace) (dir:aa→Option (Sl aa)):Prop:=∀(y:aa) (s:Sl aa) (H:aq),dir y=some s →
 ∃w X id,(∃n,∀k,n≤k→d_ E (run E k) (N 131) [enc t,enc y] H=some (w,H++X))∧gZ (H++X) w (s.l.map cells) id∧(∀off m,w=.hsl id 2 off m→id=H.length)
theorem Xj {a d:Nat} (hd:E.keep (N 131)=true) {dir:aa→Option (Sl aa)} (hD:Cl E N t dir) {s:Sl aa} (hs:dir y=some s) (f2:get F 2=.hptr 0 0 0) (h0:H[0]? = some (.row 1 [cells t])) {c:Nat} (hc:H[c]? = some (.row 2 [cells y])) :
 ∃w X id,gZ (H++X) w (s.l.map cells) id∧(∀off m,w=.hsl id 2 off m→id=H.length) ∧
  (get F 8=.hptr c 0 0→∃F',(∃n,∀k,n≤k→bO E N (run E k) none D1 F H=some (F',H++X))∧get F' 9=w∧(∀s,s<11→s≠9→get F' s=get F s)) ∧
  (get F 3=.hptr c 0 0→∃F',(∃n,∀k,n≤k→bO E N (run E k) none r7 F H=some (F',H++X))∧get F' 7=w∧(∀s,s<11→s≠7→get F' s=get F s)):=by
 obtain⟨w,X,id,⟨n,e1⟩,e2,e3⟩:=hD y s H hs;have ht:dD H (.load 1 true) [.hptr 0 0 0]=some (enc t):=by
  simp[dD,cM,h0,Ob.rows,cut];rfl
 obtain⟨_,_,hy⟩:=Rr hc;refine⟨w,X,id,e2,e3,fun f8=>⟨_,⟨n,fun k hk=>vp (v:=enc t) rfl ?_ <| vp (v:=enc y) rfl ?_ <| iB (v:=w) (H1:=H++X) rfl ?_ <| vp (v:=w) rfl ?_ dN⟩,?_,?_⟩,fun f3=>⟨_,⟨n,fun k hk=>vp (v:=enc t) rfl ?_ <| vp (v:=enc y) rfl ?_ <| iB (v:=w) (H1:=H++X) rfl ?_ <| vp (v:=w) rfl ?_ dN⟩,?_,?_⟩⟩
 ·simp only[aS,List.map_cons,List.map_nil,aF,f2];rw[ht];rfl
 ·simp only[aS,List.map_cons,List.map_nil,aF,aC,aB,Nat.reduceEqDiff,if_true,if_false,f8];rw[hy];rfl
 ·simp only[aS,List.map_cons,List.map_nil,aF,aC,aB,Nat.reduceEqDiff,if_true,if_false,hd,List.nil_append,List.append_nil];exact e1 k hk
 ·simp[aS,aF,ay,aC]
 ·simp[aC]
 ·intro s hs h9;simp only[aC,aB];rw[if_neg (Ne.symm h9)]
  repeat (rw[if_neg (by omega)])
 ·simp only[aS,List.map_cons,List.map_nil,aF,f2];rw[ht];rfl
 ·simp only[aS,List.map_cons,List.map_nil,aF,aC,aB,Nat.reduceEqDiff,if_true,if_false,f3];rw[hy];rfl
 ·simp only[aS,List.map_cons,List.map_nil,aF,aC,aB,Nat.reduceEqDiff,if_true,if_false,hd,List.nil_append,List.append_nil];exact e1 k hk
 ·simp[aS,aF,ay,aC]
 ·simp[aC]
 ·intro s hs h9;simp only[aC,aB];rw[if_neg (Ne.symm h9)]
  repeat (rw[if_neg (by omega)])
end
section
variable {E:Env} {N:Nat→FuncId} {F:Frame} {H:aq} {call:b_} {i:Nat}
theorem L4 {l:List (List V)} {id:Nat} (f10:get F 10=.int .i64 i) (h:gZ H (get F 9) l id):∃F',bO E N call none FA F H=some (F',H)∧get F' 64=.bool (decide (i<l.length))∧(∀s,s<11→get F' s=get F s):=by
 refine⟨_,vp (v:=.int .i64 i) rfl ?_ <| vp (v:=get F 9) rfl ?_ <| vp (v:=.int .i64 l.length) rfl ?_ <| vp (v:=.bool (decide (i<l.length))) rfl ?_ dN,?_,?_⟩
 ·simp[aS,aF,ay,f10]
 ·simp[aS,aF,ay,aC]
 ·simp only[aS,List.map_cons,List.map_nil,aF,aC,aB,Nat.reduceEqDiff,if_true,if_false,ay,h.len,Option.map_some]
 ·simp[aS,aF,ay,aC,gP,mQ]
 ·simp[aC]
 ·intro s hs;simp only[aC,aB]
  repeat (rw[if_neg (by omega)])
theorem ZB {l l9:List (List V)} {id id9:Nat} {c:List V} (f10:get F 10=.int .i64 i) (h:gZ H (get F 7) l id) (h9:gZ H (get F 9) l9 id9) (hc:l9[i]? = some c) (hl:l.length+1≤2147483648) :
 ∃F' H',bO E N call none r16 F H=some (F',H')∧gZ H' (get F' 7) (l++[c]) (H.length+1)∧H'.length=H.length+2∧(∀i,i<H.length→(∀off m,get F 7=.hsl id 2 off m→i≠id)→H'[i]? = H[i]?)∧(∀s,s<11→s≠7→get F' s=get F s):=by
 have hcc:=h9.c c (List.mem_of_getElem? hc);obtain⟨p,p1,p2⟩:=h9.get hc;obtain⟨H',q1,q2,q3,q4⟩:=h.push hcc hl;refine⟨_,H',vp (v:=get F 7) rfl ?_ <| vp (v:=get F 9) rfl ?_ <| vp (v:=.int .i64 i) rfl ?_ <| vp (v:=p) rfl ?_ <| vp (v:=.agg c) rfl ?_ <| iB (v:=.hsl H.length 2 0 1) (H1:=H++[.row 2 [c]]) rfl ?_ <| iB (v:=.hsl (H.length+1) 2 0 (l.length+1)) (H1:=H') rfl ?_ <| vp (v:=.hsl (H.length+1) 2 0 (l.length+1)) rfl ?_ dN,?_,q3,q4,?_⟩
 ·simp[aS,aF,ay]
 ·simp[aS,aF,ay,aC]
 ·simp[aS,aF,ay,aC,f10]
 ·simp only[aS,List.map_cons,List.map_nil,aF,aC,aB,Nat.reduceEqDiff,if_true,if_false,ay];rw[p1];rfl
 ·simp only[aS,List.map_cons,List.map_nil,aF,aC,aB,Nat.reduceEqDiff,if_true,if_false];rw[p2];rfl
 ·simp only[aS,List.map_cons,List.map_nil,aF,aC,aB,Nat.reduceEqDiff,if_true,if_false,iz];have h2:c.all V.one=true:=hcc.2;simp[eX,V.cells,hcc.1,Mk.val];exact fun a ha=>List.all_eq_true.1 h2 a ha
 ·simp only[aS,List.map_cons,List.map_nil,aF,aC,aB,Nat.reduceEqDiff,if_true,if_false];exact q1
 ·simp[aS,aF,ay,aC]
 ·simp only[aC,aB,if_true];exact q2
 ·intro s hs h8;simp only[aC,aB];rw[if_neg (Ne.symm h8)]
  repeat (rw[if_neg (by omega)])
theorem ZI (f10:get F 10=.int .i64 i) (hk:i≤2147483648):∃F',bO E N call none IE F H=some (F',H)∧get F' 10=.int .i64 ((i+1:Nat):Int)∧(∀s,s<11→s≠10→get F' s=get F s):=by
 have hb:=vM hk;refine⟨_,vp (v:=.int .i64 i) rfl ?_ <| vp (v:=.int .i64 ((i+1:Nat):Int)) rfl ?_ <| vp (v:=.int .i64 ((i+1:Nat):Int)) rfl ?_ dN,?_,?_⟩
 ·simp[aS,aF,ay,f10]
 ·simp only[aS,List.map_cons,List.map_nil,aF,aC,aB,Nat.reduceEqDiff,if_true,if_false,ay,gP];rw[hb];rfl
 ·simp[aS,aF,ay,aC]
 ·simp[aC]
 ·intro s hs h6;simp only[aC,aB];rw[if_neg (Ne.symm h6)]
  repeat (rw[if_neg (by omega)])
structure P3 (l l9:List (List V)) (B i:Nat) (F:Frame) (H:aq):Prop where
 f10:get F 10=.int .i64 i
 t9:∃id9,gZ H (get F 9) l9 id9∧∃id,gZ H (get F 7) l id∧(∀off m,get F 7=.hsl id 2 off m→B≤id∧∀off' m',get F 9=.hsl id9 2 off' m'→id≠id9)
 len:B≤H.length
theorem V7 (l9:List (List V)) (B:Nat) (hl9:l9.length≤2147483648):∀(m i:Nat) (l:List (List V)) (F:Frame) (H:aq),i+m=l9.length→l.length+m≤2147483648→P3 l l9 B i F H →
 ∃F' H',ku E N L3 F H (.exit 4) F' H'∧(∃id,gZ H' (get F' 7) (l++l9.drop i) id∧∀off m,get F' 7=.hsl id 2 off m→B≤id)∧(∀s,s<7→get F' s=get F s)∧(∀j,j<B→H'[j]? = H[j]?)∧H.length≤H'.length:=by
 intro m
 induction m with
 | zero=>
  intro i l F H hi hl p;obtain⟨id9,t9,id,t7,ap⟩:=p.t9;obtain⟨F1,e1,e2,e3⟩:=L4 (E:=E) (N:=N) (call:=fun _ _ _=>none) p.f10 t9
  refine⟨F1,H,ku.stop (Ex.tN (Ex.seq (Ex.dc fun c=>e1) (Ex.rD ?_ Ex.exit)) (by simp)) (by simp),⟨id,?_,fun off m h=>?_⟩,fun s hs=>e3 s (by omega),fun _ _=>rfl,Nat.le_refl _⟩
  ·show get F1 64=_;rw[e2];simp;omega
  ·rw[e3 7 (by omega),List.drop_of_length_le (by omega),List.append_nil];exact t7
  ·rw[e3 7 (by omega)]at h;exact(ap off m h).1
 | succ m ih=>
  intro i l F H hi hl p;have hil:i<l9.length:=by omega
  obtain⟨id9,t9,id,t7,ap⟩:=p.t9;obtain⟨F1,e1,e2,e3⟩:=L4 (E:=E) (N:=N) (call:=fun _ _ _=>none) p.f10 t9
  have hc:=ζd hil;have t7':gZ H (get F1 7) l id:=by rw[e3 7 (by omega)];exact t7
  have t9':gZ H (get F1 9) l9 id9:=by rw[e3 9 (by omega)];exact t9
  obtain⟨F2,H2,g1,g2,g3,g4,g5⟩:=ZB (E:=E) (N:=N) (call:=fun _ _ _=>none) (by rw[e3 10 (by omega)];exact p.f10) t7' t9' hc (by omega)
  obtain⟨F3,q1,q2,q3⟩:=ZI (E:=E) (N:=N) (call:=fun _ _ _=>none) (H:=H2) (i:=i) (F:=F2) (by rw[g5 10 (by omega) (by omega),e3 10 (by omega)];exact p.f10) (by omega)
  have keep:∀j,j<H.length→(∀off m,get F 7=.hsl id 2 off m→j≠id)→H2[j]? = H[j]? := fun j hj h=>g4 j hj (by rw[e3 7 (by omega)];exact h)
  have hp3:P3 (l++[l9[i]]) l9 B (i+1) F3 H2:=by
   refine⟨q2,⟨id9,?_,H.length+1,by rw[q3 7 (by omega) (by omega)];exact g2,fun off m h=>⟨by have:=p.len;omega,fun off' m' h'=>?_⟩⟩,by have:=p.len;omega⟩
   ·rw[q3 9 (by omega) (by omega),g5 9 (by omega) (by omega),e3 9 (by omega)]
    exact t9.heap fun off n hw=>keep id9 (t9.lt hw) fun off' m' hw'=>Ne.symm ((ap off' m' hw').2 off n hw)
   ·rw[q3 9 (by omega) (by omega),g5 9 (by omega) (by omega),e3 9 (by omega)]at h'
    have:=t9.lt h';omega
  obtain⟨F',H',r1,⟨id',r2,r3⟩,r4,r5,r6⟩:=ih (i+1) (l++[l9[i]]) F3 H2 (by omega) (by simp;omega) hp3
  refine⟨F',H',ku.step (Ex.seq (Ex.seq (Ex.dc fun c=>e1) (Ex.mD ?_ Ex.skip)) (Ex.seq (Ex.block (Ex.dc fun c=>g1)) (Ex.dc fun c=>q1))) r1,⟨id',?_,r3⟩,fun s hs=>?_,fun j hj=>?_,by omega⟩
  ·show get F1 64=_;rw[e2];simp[hil]
  ·rw[List.append_assoc]at r2;rw[List.drop_eq_getElem_cons hil];exact r2
  ·rw[r4 s hs,q3 s (by omega) (by omega),g5 s (by omega) (by omega),e3 s (by omega)]
  ·have:=p.len;rw[r5 j hj,keep j (by omega) fun off m h=>by have:=(ap off m h).1;omega]
end
structure P2 (t:Trace) (out:List (List Bool)) (l:List aa) (F:Frame) (H:aq):Prop where
 f2:get F 2=.hptr 0 0 0
 h0:H[0]? = some (.row 1 [cells t])
 ns:∃B o ids id,jw H (get F 5) o ids (gQ out)∧(out≠[]→1≤o∧o<B)∧(∀id∈ids,1≤id∧id<B)∧1≤B∧B≤H.length∧gZ H (get F 7) (l.map cells) id∧∀off m,get F 7=.hsl id 2 off m→B≤id
theorem Ko (out:List (List Bool)) (p j:Nat) (row:List Bool):gQ (out.set p (row.set j true))=(gQ out).set p ((row.map V.bool).set j (.bool true)):=by
 simp[gQ,List.map_set]
theorem DZ {out:List (List Bool)}:gQ out=[]↔out=[]:=by simp[gQ]
theorem LQ {dir:aa→Option (Sl aa)} {out:List (List Bool)} {y:aa} {rest:List aa} {w:Fw (List (List Bool)×List aa) (List (List Bool)) Empty} (h:kI dir (out,y::rest)=some w) :
 ∃(p j:Nat) (row:List Bool) (b:Bool),y.proc=p∧y.index=j∧out[p]? = some row∧row[j]? = some b∧((b=true∧w=.n (out,rest))∨(b=false∧∃more,dir y=some more∧rest.length+more.l.length≤2147483648∧w=.n (out.set p (row.set j true),rest++more.l))):=by
 simp only[kI]at h;split at h
 ·rename_i hy;obtain⟨row,h1,h⟩:=ζg.1 h;obtain⟨b,h2,h⟩:=ζg.1 h;refine⟨y.proc.toNat,y.index.toNat,row,b,by omega,by omega,h1,h2,?_⟩
  cases b with
  | true=>left;simp only[au]at h;exact⟨rfl,by simpa using h.symm⟩
  | false=>
   right;simp only[au,Bool.false_eq_true,if_false]at h;obtain⟨more,h3,h⟩:=ζg.1 h;split at h
   ·rename_i hl;exact⟨rfl,more,h3,hl,by simpa using h.symm⟩
   ·cases h
 ·cases h
theorem F_ {E:Env} {N:Nat→FuncId} {t:Trace} {dir:aa→Option (Sl aa)} (hd:E.keep (N 131)=true) (hD:Cl E N t dir):∀(k:Nat) (out:List (List Bool)) (l:List aa) (out':List (List Bool)) (F:Frame) (H:aq),
 gw (kI dir) k (out,l)=some (.x out')→P2 t out l F H→∃F' H',ku E N L2 F H (.exit 2) F' H'∧P2 t out' [] F' H':=by
 intro k
 induction k with
 | zero=>intro out l out' F H h;simp[gw]at h
 | succ k ih=>
  intro out l out' F H h p;obtain⟨B,o,ids,id,n1,n2,n3,n4,n5,t7,t8⟩:=p.ns;obtain⟨F1,e1,e2,e3⟩:=x8 (E:=E) (N:=N) (call:=fun _ _ _=>none) t7
  rw[List.length_map]at e2
  cases l with
  | nil=>
   simp only[gw,kI]at h;cases h;refine⟨F1,H,ku.stop (Ex.tN (Ex.seq (Ex.dc fun c=>e1) (Ex.rD ?_ Ex.exit)) (by simp)) (by simp),?_⟩
   ·show get F1 35=_;rw[e2];simp
   ·exact⟨by rw[e3 2 (by omega)];exact p.f2,p.h0,B,o,ids,id,by rw[e3 5 (by omega)];exact n1,n2,n3,n4,n5,by rw[e3 7 (by omega)];exact t7,by rw[e3 7 (by omega)];exact t8⟩
  | cons y rest=>
   simp only[gw]at h
   cases hst:kI dir (out,y::rest)with
   | none=>rw[hst]at h;cases h
   | some w=>
   rw[hst]at h;obtain⟨q,j,row,b,hq,hj,hrow,hb,hcase⟩:=LQ hst;have t7':gZ H (get F1 7) (cells y::rest.map cells) id:=by rw[e3 7 (by omega)];exact t7
   obtain⟨F2,g1,g2,g3⟩:=x9 (E:=E) (N:=N) (call:=fun _ _ _=>none) t7'
   have t7'':gZ (H++[.row 2 [cells y]]) (get F2 7) (cells y::rest.map cells) id:=by rw[g3 7 (by omega) (by omega)];exact t7'.more _
   obtain⟨F3,i1,i2,⟨off1,m1,off2,i3,i4⟩,i5⟩:=ZK (E:=E) (N:=N) (call:=fun _ _ _=>none) t7''
   have hcl:(H++[Ob.row 2 [cells y]])[H.length]? = some (.row 2 [cells y]):=by simp
   have f8:get F3 8=.hptr H.length 0 0:=by rw[i5 8 (by omega) (by omega)];exact g2
   have f5:get F3 5=get F 5:=by rw[i5 5 (by omega) (by omega),g3 5 (by omega) (by omega),e3 5 (by omega)]
   have f2:get F3 2=.hptr 0 0 0:=by rw[i5 2 (by omega) (by omega),g3 2 (by omega) (by omega),e3 2 (by omega)];exact p.f2
   have n5':jw (H++[.row 2 [cells y]]) (get F3 5) o ids (gQ out):=by rw[f5];exact n1.more _
   have hr:(gQ out)[q]? = some (row.map V.bool):=by simp[gQ,hrow]
   have hu:(row.map V.bool)[j]? = some (.bool b):=by simp[hb]
   have hB8:B≤id:=by
    have:get F 7=.hsl id 2 off1 m1:=by rw[←i3,g3 7 (by omega) (by omega),e3 7 (by omega)]
    exact t8 _ _ this
   obtain⟨F4,j1,j2,j3⟩:=T0 (E:=E) (N:=N) (call:=fun _ _ _=>none) f8 hcl n5' hq hj hr hu
   have h35:aF N F1 (.s 35)=.bool true:=by show get F1 35=_;rw[e2];simp
   rcases hcase with⟨rfl,rfl⟩|⟨rfl,more,hm,hlen,rfl⟩
   ·simp only at h;have hp2:P2 t out rest F4 (H++[.row 2 [cells y]]):=by
     refine⟨by rw[j3 2 (by omega)];exact f2,by rw[List.getElem?_append_left (ζe.1 p.h0).1];exact p.h0,B,o,ids,id,by rw[j3 5 (by omega)];exact n5',n2,n3,n4,by simp;omega,by rw[j3 7 (by omega)];exact i2,fun off m _=>hB8⟩
    obtain⟨F',H',r1,r2⟩:=ih out rest out' F4 _ h hp2;exact⟨F',H',ku.step (Ex.seq (Ex.seq (Ex.dc fun c=>e1) (Ex.mD h35 Ex.skip)) (Ex.uk (Ex.seq (Ex.dc fun c=>g1) (Ex.seq (Ex.dc fun c=>i1) (Ex.tN (Ex.seq (Ex.lK rfl fun c=>j1) (Ex.mD j2 Ex.exit)) (by simp)))))) r1,r2⟩
   ·simp only at h;have n6:jw (H++[.row 2 [cells y]]) (get F4 5) o ids (gQ out):=by rw[j3 5 (by omega)];exact n5'
    obtain⟨F5,H5,k1,k2,k3,k4,k5⟩:=ZA (E:=E) (N:=N) (call:=fun _ _ _=>none) (by rw[j3 8 (by omega)];exact f8) hcl n6 hq hj hr hu
    have hnid:∀i,B≤i→i∉ids:=fun i hi hm=>by have:=(n3 i hm).2;omega
    have hc5:H5[H.length]? = some (.row 2 [cells y]):=by rw[k4 _ (hnid _ n5)];exact hcl
    have h05:H5[0]? = some (.row 1 [cells t]):=by
     rw[k4 0 (fun hm=>by have:=(n3 0 hm).1;omega),List.getElem?_append_left (ζe.1 p.h0).1];exact p.h0
    obtain⟨w9,X,id9,m1',m2,m3,_⟩:=Xj (a:=0) (d:=0) (F:=F5) hd hD hm (by rw[k5 2 (by omega),j3 2 (by omega)];exact f2) h05 hc5
    obtain⟨F6,⟨nn,o1'⟩,o2',o3⟩:=m3 (by rw[k5 8 (by omega),j3 8 (by omega)];exact f8)
    have hl5:H5.length=H.length+1:=by rw[k3];simp
    have i7:get F6 7=.hsl id 2 off2 (rest.map cells).length:=by rw[o3 7 (by omega) (by omega),k5 7 (by omega),j3 7 (by omega)];exact i4
    have hidl:id<H.length:=by
     have:=t7'.lt (off:=off1) (m:=m1) (by rw[←i3,g3 7 (by omega) (by omega)])
     exact this
    have t6:gZ (H5++X) (get F6 7) (rest.map cells) id:=by
     have:get F6 7=get F3 7:=by rw[o3 7 (by omega) (by omega),k5 7 (by omega),j3 7 (by omega)]
     rw[this];refine(i2.heap (H':=H5) fun off n _=>k4 id (hnid id hB8)).more X
    have s10:∃F7,(∀c,bO E N c none Cy F6 (H5++X)=some (F7,H5++X))∧get F7 10=.int .i64 ((0:Nat):Int)∧∀s,s<10→get F7 s=get F6 s:=
     ⟨set F6 10 (.int .i64 0),fun c=>by simp[Cy,bO,aS,aF,ay,aC],by simp,fun s hs=>by rw[aB,if_neg (by omega)]⟩
    obtain⟨F7,u1,u2,u3⟩:=s10;have hp3:P3 (rest.map cells) (more.l.map cells) B 0 F7 (H5++X):=by
     refine⟨u2,⟨id9,by rw[u3 9 (by omega),o2'];exact m1',id,by rw[u3 7 (by omega)];exact t6,fun off m hh=>⟨hB8,fun off' m' h'=>?_⟩⟩,by simp;omega⟩
     rw[u3 9 (by omega),o2']at h'
     have:=m2 off' m' h';omega
    obtain⟨F8,H8,v1,⟨id8,v2,v3⟩,v4,v5,v6⟩:=V7 (E:=E) (N:=N) (more.l.map cells) B (by simp;omega) (more.l.map cells).length 0 (rest.map cells) F7 (H5++X) (by omega) (by simp;omega) hp3
    have hn8:jw H8 (get F8 5) o ids (gQ (out.set q (row.set j true))):=by
     have h5:get F8 5=get F5 5:=by rw[v4 5 (by omega),u3 5 (by omega),o3 5 (by omega) (by omega)]
     rw[h5,Ko];refine(k2.more X).heap (fun hne=>v5 o ?_) fun i hi=>v5 i (n3 i hi).2
     have:out≠[]:=by intro e;subst e;simp at hrow
     exact(n2 this).2
    have hp2:P2 t (out.set q (row.set j true)) (rest++more.l) F8 H8:=by
     refine⟨by rw[v4 2 (by omega),u3 2 (by omega),o3 2 (by omega) (by omega),k5 2 (by omega),j3 2 (by omega)];exact f2,?_,B,o,ids,id8,hn8,fun hne=>n2 (by intro e;subst e;simp at hrow),n3,n4,by simp at v6;omega,?_,v3⟩
     ·rw[v5 0 (by omega),List.getElem?_append_left (ζe.1 h05).1];exact h05
     ·rw[List.drop_zero]at v2;rw[List.map_append];exact v2
    obtain⟨F',H',w1,w2⟩:=ih _ _ out' F8 H8 h hp2;exact⟨F',H',ku.step (Ex.seq (Ex.seq (Ex.dc fun c=>e1) (Ex.mD h35 Ex.skip)) (Ex.block (Ex.seq (Ex.dc fun c=>g1) (Ex.seq (Ex.dc fun c=>i1) (Ex.seq (Ex.seq (Ex.lK rfl fun c=>j1) (Ex.rD j2 Ex.skip)) (Ex.seq (Ex.lK rfl fun c=>k1)
     (Ex.seq (Ex.ops ⟨nn,o1'⟩) (Ex.seq (Ex.dc u1) (Ex.uk (Ex.loop v1))))))))) ) w1,w2⟩
theorem Ma {H:aq} {Z:Nat→Prop} {id:Nat} {r:List Bool} (hz:Z id) (h:H[id]? = some (.row 1 (gf (r.map V.bool)))):FR H Z (enc (Sl.row r)) (.hsl id 1 0 r.length):=by
 have hr:ax H id=some (1,gf (r.map V.bool)):=by simp[ax,h,Ob.rows]
 have he:enc (Sl.row r)=.fsl 1 (rows r):=rfl;have hl:(rows r).length=r.length:=by simp[rows]
 have hc:gf (r.map V.bool)=rows r:=by simp[gf,rows,List.map_map,Function.comp_def]
 rw[hc]at hr;rw[he,←hl];refine .fsl 1 (rows r) id 0 (rows r) hz hr (by omega) (fun i a b h1 h2=>?_) (fun i j a b u v h1 h2 h3 h4=>?_)
 ·rw[Nat.zero_add,h1]at h2;cases h2;rfl
 ·rw[Nat.zero_add,h1]at h2;cases h2;rw[h3]at h4;cases h4;refine .same u ?_;obtain⟨c,hc1,rfl⟩:∃c∈r,a=[V.bool c]:=by
   have:=List.mem_of_getElem? h1;simp only[rows,List.mem_map]at this;obtain⟨c,hc,rfl⟩:=this;exact⟨c,hc,rfl⟩
  have:=List.mem_of_getElem? h3;simp at this;subst this;rfl
theorem LR {H:aq} {w:V} {o:Nat} {ids:List Nat} {out:List (List Bool)} (n:jw H w o ids (gQ out)):∃Z,FR H Z (enc (nested out)) w∧(∀id,Z id→(ax H id).isSome=true)∧Deep H Z:=by
 have hv:=n.v
 by_cases ho:out=[]
 ·subst ho;rw[if_pos (show gQ []=[]from rfl)]at hv;subst hv;exact⟨fun _=>False,.same _ rfl,fun _ h=>h.elim,⟨fun _ _ _ h=>h.elim⟩⟩
 ·have hne:gQ out≠[]:=fun h=>ho (DZ.1 h)
  rw[if_neg hne,sP]at hv;subst hv;have hob:=n.ob hne;have hlen:=n.len;rw[sP]at hlen;have hrow:∀(i id:Nat) (r:List Bool),ids[i]? = some id→out[i]? = some r→H[id]? = some (.row 1 (gf (r.map V.bool))):=fun i id r h1 h2=>n.r i id _ h1 (by simp[gQ,h2])
  have href:∀(i:Nat) (c:List V),(refs ids (gQ out))[i]? = some c→∃id r,ids[i]? = some id∧out[i]? = some r∧c=[.hsl id 1 0 r.length]:=fun i c h=>by
   have hi:=(ζe.1 h).1;rw[pS n.len,sP]at hi;have h1:=ζd (show i<ids.length from by omega)
   have h2:=ζd hi;have h3:=yH (rows:=gQ out) (r:=out[i].map V.bool) h1 (by simp[gQ,h2])
   rw[h]at h3;exact⟨_,_,h1,h2,by simpa using h3⟩
  have hzo:ax H o=some (1,refs ids (gQ out)):=by simp[ax,hob,Ob.rows]
  have hzi:∀id∈ids,∃(r:List Bool),H[id]? = some (.row 1 (gf (r.map V.bool))):=fun id hid=>by
   obtain⟨i,hi⟩:=List.getElem?_of_mem hid;have hl:=(ζe.1 hi).1;exact⟨_,hrow i id _ hi (ζd (show i<out.length from by omega))⟩
  refine⟨fun id=>id=o∨id∈ids,?_,fun id h=>?_,⟨fun id es ys h hr c hc u hu=>?_⟩⟩
  ·have he:enc (nested out)=.fsl 1 (rows (out.map Sl.row)):=by rw[nested,if_neg ho];rfl
   have hl:(rows (out.map Sl.row)).length=out.length:=by simp[rows]
   rw[he,←hl];refine .fsl 1 _ o 0 (refs ids (gQ out)) (.inl rfl) hzo (by rw[hl,pS n.len,sP];omega) (fun i a b h1 h2=>?_) (fun i j a b u v h1 h2 h3 h4=>?_)
   ·rw[Nat.zero_add]at h2;obtain⟨id,r,_,hr,rfl⟩:=href i b h2;simp[rows,hr]at h1;subst h1;rfl
   ·rw[Nat.zero_add]at h2;obtain⟨id,r,hid,hr,rfl⟩:=href i b h2;have ha:a=[enc (Sl.row r)]:=by simp[rows,hr]at h1;exact h1.symm
    subst ha
    cases j with
    | zero=>
     simp at h3 h4;subst h3 h4;exact Ma (.inr (List.mem_of_getElem? hid)) (hrow i id r hid hr)
    | succ j=>simp at h3
  ·rcases h with rfl|h
   ·simp[hzo]
   ·obtain⟨r,hr⟩:=hzi id h;simp[ax,hr,Ob.rows]
  ·rcases h with rfl|h
   ·rw[hzo]at hr;cases hr;obtain⟨i,hi⟩:=List.getElem?_of_mem hc;obtain⟨id,r,hid,hro,rfl⟩:=href i c hi;simp at hu;subst hu;exact⟨_,Ma (.inr (List.mem_of_getElem? hid)) (hrow i id r hid hro)⟩
   ·obtain⟨r,hr'⟩:=hzi id h;have:ax H id=some (1,gf (r.map V.bool)):=by simp[ax,hr',Ob.rows]
    rw[this]at hr;cases hr;simp only[gf,List.mem_map]at hc;obtain⟨_,⟨c',_,rfl⟩,rfl⟩:=hc;simp at hu;subst hu;exact⟨_,.same _ rfl⟩
theorem M3 {t:Trace} {x:aa} {out:List (List Bool)} {s:Sl aa} {dir:aa→Option (Sl aa)} (hd:sR.keep (sZ 131)=true) (hD:Cl sR sZ t dir) (hok:wZ t=true) (hs:dir x=some s) (hw:aW (kI dir) (eB t,s.l)=some (.x out)) :
 yZ sR (sZ 110) [enc t,enc x] (enc (nested out)):=by
 obtain⟨fi,g1,g2,g3,g4⟩:=shape;obtain⟨k,hk⟩:=kz.1 hw;have b1:∃F1,(∀c,bO sR sZ c none r1 [enc t,enc x] []=some (F1,[.row 1 [cells t],.row 2 [cells x]]))∧get F1 2=.hptr 0 0 0∧get F1 3=.hptr 1 0 0:=by
  refine⟨_,fun c=>iB (v:=.hptr 0 0 0) (H1:=[.row 1 [cells t]]) rfl ?_ <| iB (v:=.hptr 1 0 0) (H1:=[.row 1 [cells t],.row 2 [cells x]]) rfl ?_ <| vp (v:=.aG) rfl ?_ dN,?_,?_⟩
  ·show (iz .box [enc t]).map _=_;simp only[iz,ox,nV,if_true,Option.map_some,eV];rfl
  ·simp only[aS,List.map_cons,List.map_nil,aF,aC,aB,Nat.reduceEqDiff,if_false];show (iz .box [enc x]).map _=_;simp only[iz,ox,nV,if_true,Option.map_some,eV];rfl
  ·simp[aS,aF,ay]
  ·simp[aC]
  ·simp[aC]
 obtain⟨F1,c1,c2,c3⟩:=b1;have b3:∃F3,(∀c,bO sR sZ c none r2 F1 [.row 1 [cells t],.row 2 [cells x]]=some (set F1 5 .aG,[.row 1 [cells t],.row 2 [cells x]]))∧(∀c,bO sR sZ c none r3 (set F1 5 .aG) [.row 1 [cells t],.row 2 [cells x]]=some (F3,[.row 1 [cells t],.row 2 [cells x]]))∧P1 t x 0 F3 [.row 1 [cells t],.row 2 [cells x]]:=by
  refine⟨set (set F1 5 .aG) 6 (.int .i64 0),fun c=>by simp[r2,bO,aS,aF,ay,aC],fun c=>by simp[r3,bO,aS,aF,ay,aC],by simp[c2],by simp[c3],by simp,rfl,rfl,0,[],?_,fun h=>absurd rfl h,fun id h=>by simp at h⟩
  have:get (set (set F1 5 .aG) 6 (.int .i64 0)) 5=.aG:=by simp
  rw[this,List.take_zero];exact jw.nil _ 0
 obtain⟨F3,d1,d2,d3⟩:=b3;obtain⟨F4,H4,e1,e2⟩:=HE (E:=sR) (N:=sZ) hok t.procs.l.length 0 F3 _ (by omega) d3
 obtain⟨o,ids,n1,n2,n3⟩:=e2.ns;have hlen:(eB t).length=t.procs.l.length:=by simp[eB]
 rw[List.take_of_length_le (by omega)]at n1
 obtain⟨w,X,id,m1,m2,_,m4⟩:=Xj (a:=0) (d:=0) (F:=F4) (E:=sR) (N:=sZ) hd hD hs e2.f2 e2.h0 (c:=1) e2.h1;obtain⟨F5,o1,o2,o3⟩:=m4 e2.f3;have hp2:P2 t (eB t) s.l F5 (H4++X):=by
  refine⟨by rw[o3 2 (by omega) (by omega)];exact e2.f2,by rw[List.getElem?_append_left (ζe.1 e2.h0).1];exact e2.h0,H4.length,o,ids,id,by rw[o3 5 (by omega) (by omega)];exact n1.more X,fun hne=>?_,fun i hi=>⟨by have:=n3 i hi;omega,n1.lt.2 i hi⟩,?_,by simp,by rw[o2];exact m1,fun off m h=>?_⟩
  ·have hne':gQ (eB t)≠[]:=fun h=>hne (DZ.1 h)
   have:t.procs.l.length≠0:=by intro h;apply hne;exact List.eq_nil_of_length_eq_zero (by omega)
   have:=n2 this;exact⟨by omega,n1.lt.1 hne'⟩
  ·have:=(ζe.1 e2.h0).1;omega
  ·rw[o2]at h;have:=m2 off m h;omega
 obtain⟨F6,H6,p1,p2⟩:=F_ hd hD k _ _ out F5 _ hk hp2;obtain⟨B,o',ids',id',q1,_⟩:=p2.ns;have l1:∃F7,(∀c,bO sR sZ c none XF F6 H6=some (F7,H6))∧get F7 4=get F6 5:=by
  refine⟨_,fun c=>vp (v:=get F6 5) rfl ?_ <| vp (v:=get F6 5) rfl ?_ dN,?_⟩
  ·simp[aS,aF,ay]
  ·simp[aS,aF,ay,aC]
  ·simp[aC]
 obtain⟨F7,y1,y2⟩:=l1;have hex:Ex sR sZ code [enc t,enc x] [] .ret F7 H6:=
  Ex.seq (Ex.dc c1) (Ex.seq (Ex.dc d1) (Ex.seq (Ex.seq (Ex.dc d2) (Ex.uk (Ex.loop e1))) (Ex.seq (Ex.ops o1) (Ex.seq (Ex.uk (Ex.loop p1)) (Ex.seq (Ex.dc y1) Ex.ret)))))
 obtain⟨n,hrun⟩:=hex.run (nm:=some) A9 g1 g2 (show [enc t,enc x].length≤fi.ntmps from g3) (vs:=[get F7 4]) (by rw[g4];rfl)
 obtain⟨Z,z1,z2,z3⟩:=LR q1;exact⟨n,get F6 5,H6,Z,by rw[hrun,y2];rfl,z1,z2,z3⟩
theorem VN (l:List aa):∀c∈l.map (cells (α:=aa)),c.length=2∧c.all V.one=true∧c.all V.scalar=true:=fun c hc=>by
 obtain⟨e,_,rfl⟩:=List.mem_map.1 hc;exact⟨rfl,rfl,rfl⟩
theorem Ww (t:Trace):Cl sR sZ t (cw t):=by
 intro y s H hs;have h1:=vL t y;have h2:=h1 (cR s) (by rw[hs];rfl)
 have hg:V.bH [enc t,enc y]=true:=by simp only[V.bH,kG,Bool.and_self]
 have hkind:s.k=.row∨s.k=.nil∧rows s.l=[]:=by
  have hj:∀o z,(∃l,o=.row l)∨o=.nil→cw.J1 o t y=some z→(∃l,z=.row l)∨z=.nil:=fun o z ho hz=>by
   unfold cw.J1 at hz;obtain⟨e,_,hz⟩:=ζg.1 hz
   cases he:e.kind==3 with
   | true=>
    rw[he]at hz;obtain⟨f,_,hz⟩:=ζg.1 hz;obtain⟨q,hq,hz⟩:=ζg.1 hz;cases hz;unfold kB at hq;split at hq
    ·cases hq;exact .inl ⟨_,rfl⟩
    ·cases hq
   | false=>rw[he]at hz;cases hz;exact ho
  have:(∃l,s=.row l)∨s=.nil:=by
   unfold cw at hs
   cases hc:decide (y.index>1)with
   | true=>rw[hc]at hs;exact hj _ s (.inl ⟨_,rfl⟩) hs
   | false=>rw[hc]at hs;exact hj _ s (.inr rfl) hs
  rcases this with⟨l,rfl⟩|rfl
  ·exact .inl rfl
  ·exact .inr ⟨rfl,rfl⟩
 obtain⟨n,z,H',r1,r2⟩:=Vb Mc Fy (T:=Tx) (f:=sZ 131) (rf:=BO (Tx 131)) (by kernel_rfl) hg (Nat.le_of_ble_eq_true (by kernel_rfl)) (k:=s.k) (es:=2) (xs:=rows s.l) (fun c hc=>(VN s.l c hc).2.2) hkind h2
 refine DA (l:=s.l.map cells) (y:=z) (H1:=H') (by kernel_rfl) hg (VN s.l) ⟨n,fun k hk=>qJ _ hk _ _ _ _ r1⟩ ?_ H
 rcases r2 with⟨h3,rfl⟩|⟨id,rfl,h4⟩
 ·left;cases s <;> simp[Sl.k]at h3;exact⟨rfl,rfl⟩
 ·right;exact⟨id,by simp[rows],h4⟩
end pastX
theorem LG (t:Trace) (x:aa) (r:Sl (Sl Bool)) (h:jV t x=some r):Sy.vF 110 [enc t,enc x]=some (enc r):=by
 unfold jV at h;split at h
 ·rename_i hok;obtain⟨s,hs,h⟩:=ζg.1 h;obtain⟨w,hw,h⟩:=ζg.1 h
  cases w with
  | n a=>exact Empty.elim a
  | r e=>exact Empty.elim e
  | x out=>
   cases h;exact BZ (pastX.M3 (by kernel_rfl) (pastX.Ww t) hok hs hw)
 ·cases h
end Go.VE
namespace Go.VE
noncomputable section
def oQ:Option Bool:=some true
instance MT:Fc Sy cL oQ:=⟨9,[],fun r:Bool=>[.bool r],true,lE.vF (by kernel_rfl) (by kernel_rfl) Il⟩
namespace dQ
def aD (s0:Sl Event) (v7:Int) (v8:Int) (p1:Event→Option Bool):Option (Fw Int Unit Int):=
 au (decide (v8<v7))
 ((idx s0 v8).bind fun x_1=>
 (p1 x_1).bind fun x_2=>
 au x_2
 (some (.r v8))
 (some (.n (IntKind.wrap .i64 (v8+1)))))
 (some (.x ()))
def W1 (s0:Sl Event) (v7 v8:Int) (p1:Event→Option Bool):Option Int:=
 (aW (fun q:Int=>aD s0 v7 q p1) v8).bind (Fw.elim
 (fun e=>some (-1))
 (fun e=>some e))
end dQ
def dQ (s0:Sl Event) (p1:Event→Option Bool):Option Int:=
 dQ.W1 s0 (len s0) 0 p1
open dQ in
abbrev sH (g1:FuncId) (e1:List V) (p1:Event→Option Bool) (h1:iW Sy cL g1 e1 (fun z:Event=>[enc z]) (fun r:Bool=>[.bool r]) p1) (s0:Sl Event):Fc Sy cL (dQ s0 p1):=Fc.M 86 [enc s0,.clo g1 [] e1] (aZ 9 s0 (cq 5 (fun qW1=>(aR [Cv 0 s0,(1,.v (.clo g1 [] e1)),Iv 7 (len s0),Iv 8 qW1] [])) (fun eW1=>(0,(aR [] []))) (fun eW1=>(aR [Iv 4 eW1] [])) (fun qW1=>aJ 7 9 (bn 16 fun x_1 _=>rN 1 h1.f x_1 fun x_2 _=>aJ 2 16 aj aj) aj) (fun eW1=>aj) (fun eW1=>aj))) (l:=by simp[h1.d])
def eY (s0:Sl Event) (p1:Event→Option Bool):Option Bool:=
 (dQ s0 p1).bind fun x_1=>
 some (decide (x_1≥0))
abbrev ko (g1:FuncId) (e1:List V) (p1:Event→Option Bool) (h1:iW Sy cL g1 e1 (fun z:Event=>[enc z]) (fun r:Bool=>[.bool r]) p1) (s0:Sl Event):Fc Sy cL (eY s0 p1):=Fc.M 40 [enc s0,.clo g1 [] e1] (aK (F:=sH g1 e1 p1 h1 s0) 9 fun x_1 _=>aj) (l:=by simp[h1.d])
def nu (x0:Event):Option Bool:=
 some (decide ((len x0.assign)>12))
instance Mr (x0:Event):Fc Sy cL (nu x0):=Fc.M 41 [enc x0] (ct 2 1 x0 (aZ 7 x0.assign aj))
namespace eA
def aD (s0:Sl Var) (v7:Int) (v8:Int) (p1:Var→Option Bool):Option (Fw Int Unit Int):=
 au (decide (v8<v7))
 ((idx s0 v8).bind fun x_1=>
 (p1 x_1).bind fun x_2=>
 au x_2
 (some (.r v8))
 (some (.n (IntKind.wrap .i64 (v8+1)))))
 (some (.x ()))
def W1 (s0:Sl Var) (v7 v8:Int) (p1:Var→Option Bool):Option Int:=
 (aW (fun q:Int=>aD s0 v7 q p1) v8).bind (Fw.elim
 (fun e=>some (-1))
 (fun e=>some e))
end eA
def eA (s0:Sl Var) (p1:Var→Option Bool):Option Int:=
 eA.W1 s0 (len s0) 0 p1
open eA in
abbrev tW (g1:FuncId) (e1:List V) (p1:Var→Option Bool) (h1:iW Sy cL g1 e1 (fun z:Var=>[enc z]) (fun r:Bool=>[.bool r]) p1) (s0:Sl Var):Fc Sy cL (eA s0 p1):=Fc.M 87 [enc s0,.clo g1 [] e1] (aZ 9 s0 (cq 5 (fun qW1=>(aR [Cv 0 s0,(1,.v (.clo g1 [] e1)),Iv 7 (len s0),Iv 8 qW1] [])) (fun eW1=>(0,(aR [] []))) (fun eW1=>(aR [Iv 4 eW1] [])) (fun qW1=>aJ 7 9 (bn 16 fun x_1 _=>rN 1 h1.f x_1 fun x_2 _=>aJ 2 16 aj aj) aj) (fun eW1=>aj) (fun eW1=>aj))) (l:=by simp[h1.d])
def ey (s0:Sl Var) (p1:Var→Option Bool):Option Bool:=
 (eA s0 p1).bind fun x_1=>
 some (decide (x_1≥0))
abbrev lG (g1:FuncId) (e1:List V) (p1:Var→Option Bool) (h1:iW Sy cL g1 e1 (fun z:Var=>[enc z]) (fun r:Bool=>[.bool r]) p1) (s0:Sl Var):Fc Sy cL (ey s0 p1):=Fc.M 42 [enc s0,.clo g1 [] e1] (aK (F:=tW g1 e1 p1 h1 s0) 9 fun x_1 _=>aj) (l:=by simp[h1.d])
def ny (v0:Var):Option Bool:=
 some (decide (((ByteArray.size v0.name:Nat):Int)>40))
instance LV (v0:Var):Fc Sy cL (ny v0):=Fc.M 43 [enc v0] (aj)
namespace gK
def aD (most1:Int) (v9:Sl bt) (v10:Int) (tb2:Trace) (n5 v11:Int):Option (Fw (Int×Int) Unit Unit):=
 au (decide (v11<v10))
 ((idx v9 v11).bind fun x_1=>
 (au (decide ((IntKind.wrap .i64 (n5+(len x_1.events)))>most1))
 (some true)
 (some (decide ((len x_1.vars)>12))):Option Bool).bind fun x_2=>
 (au x_2
 (some true)
 (some (decide (((ByteArray.size x_1.name:Nat):Int)>40))):Option Bool).bind fun x_3=>
 (au x_3
 (some true)
 ((eY x_1.events (fun z=>nu z)).bind fun x_4=>
 some x_4):Option Bool).bind fun x_5=>
 (au x_5
 (some true)
 ((ey x_1.vars (fun z=>ny z)).bind fun x_6=>
 some x_6):Option Bool).bind fun x_7=>
 au x_7
 (some (.r ()))
 (some (.n (IntKind.wrap .i64 (n5+(len x_1.events)),IntKind.wrap .i64 (v11+1)))))
 (some (.x ()))
def W1 (most1 n5:Int) (v9:Sl bt) (v10 v11:Int) (tb2:Trace):Option Bool:=
 (aW (fun q:Int×Int=>aD most1 v9 v10 tb2 q.1 q.2) (n5,v11)).bind (Fw.elim
 (fun e=>some (decide ((len tb2.procs)≤10)))
 (fun e=>some false))
end gK
def gK (t0:Trace) (most1:Int):Option Bool:=
 gK.W1 most1 0 t0.procs (len t0.procs) 0 t0
open gK in
instance R3 (t0:Trace) (most1:Int):Fc Sy cL (gK t0 most1):=Fc.M 10 [enc t0,.int .i64 most1] (ct 2 2 t0 (aZ 13 t0.procs (cq 5 (fun qW1=>(aR [Iv 1 most1,Pv 2,Iv 5 qW1.1,Cv 9 t0.procs,Iv 10 (len t0.procs),Iv 11 qW1.2] [Xb 2 t0])) (fun eW1=>(0,(aR [Pv 2] [Xb 2 t0]))) (fun eW1=>(aR [Bv 4 false] [])) (fun qW1=>aJ 7 12 (bn 7 fun x_1 _=>ov 2 7 0 x_1 (aZ 7 x_1.events (aT 10 5 [23] 28 (aJ 10 23 (aA 5) (aZ 2 x_1.vars (aA 2))) fun x_2=>aT 1 5 [29] 34 (aJ 1 29 (aA 5) (aA 5)) fun x_3=>aT 1 4 [35] 39 (aJ 1 35 (aA 4) (aK (F:=ko 41 [] (fun z=>nu z) iW.qT x_1.events) 2 fun x_4 _=>aA 1)) fun x_5=>aT 1 4 [7,40] 44 (aJ 1 40 (aA 4) (aK (F:=lG 43 [] (fun z=>ny z) iW.qT x_1.vars) 2 fun x_6 _=>aA 1)) fun x_7=>aJ 2 44 aj aj))) aj) (fun eW1=>aZ 6 t0.procs aj) (fun eW1=>aj))))
namespace dR
def aD (s0:Sl (Sl (Sl Int))) (v7:Int) (v8:Int) (p1:(Sl (Sl Int))→Option Bool):Option (Fw Int Unit Int):=
 au (decide (v8<v7))
 ((idx s0 v8).bind fun x_1=>
 (p1 x_1).bind fun x_2=>
 au x_2
 (some (.r v8))
 (some (.n (IntKind.wrap .i64 (v8+1)))))
 (some (.x ()))
def W1 (s0:Sl (Sl (Sl Int))) (v7 v8:Int) (p1:(Sl (Sl Int))→Option Bool):Option Int:=
 (aW (fun q:Int=>aD s0 v7 q p1) v8).bind (Fw.elim
 (fun e=>some (-1))
 (fun e=>some e))
end dR
def dR (s0:Sl (Sl (Sl Int))) (p1:(Sl (Sl Int))→Option Bool):Option Int:=
 dR.W1 s0 (len s0) 0 p1
open dR in
abbrev sn (g1:FuncId) (e1:List V) (p1:(Sl (Sl Int))→Option Bool) (h1:iW Sy cL g1 e1 (fun z:Sl (Sl Int)=>[enc z]) (fun r:Bool=>[.bool r]) p1) (s0:Sl (Sl (Sl Int))):Fc Sy cL (dR s0 p1):=Fc.M 88 [enc s0,.clo g1 [] e1] (aZ 9 s0 (cq 5 (fun qW1=>(aR [Cv 0 s0,(1,.v (.clo g1 [] e1)),Iv 7 (len s0),Iv 8 qW1] [])) (fun eW1=>(0,(aR [] []))) (fun eW1=>(aR [Iv 4 eW1] [])) (fun qW1=>aJ 7 9 (bn 16 fun x_1 _=>rN 1 h1.f x_1 fun x_2 _=>aJ 2 16 aj aj) aj) (fun eW1=>aj) (fun eW1=>aj))) (l:=by simp[h1.d])
def gC (s0:Sl (Sl (Sl Int))) (p1:(Sl (Sl Int))→Option Bool):Option Bool:=
 (dR s0 p1).bind fun x_1=>
 some (decide (x_1≥0))
abbrev qK (g1:FuncId) (e1:List V) (p1:(Sl (Sl Int))→Option Bool) (h1:iW Sy cL g1 e1 (fun z:Sl (Sl Int)=>[enc z]) (fun r:Bool=>[.bool r]) p1) (s0:Sl (Sl (Sl Int))):Fc Sy cL (gC s0 p1):=Fc.M 44 [enc s0,.clo g1 [] e1] (aK (F:=sn g1 e1 p1 h1 s0) 9 fun x_1 _=>aj) (l:=by simp[h1.d])
namespace dY
def aD (s0:Sl (Sl Int)) (v7:Int) (v8:Int) (p1:(Sl Int)→Option Bool):Option (Fw Int Unit Int):=
 au (decide (v8<v7))
 ((idx s0 v8).bind fun x_1=>
 (p1 x_1).bind fun x_2=>
 au x_2
 (some (.r v8))
 (some (.n (IntKind.wrap .i64 (v8+1)))))
 (some (.x ()))
def W1 (s0:Sl (Sl Int)) (v7 v8:Int) (p1:(Sl Int)→Option Bool):Option Int:=
 (aW (fun q:Int=>aD s0 v7 q p1) v8).bind (Fw.elim
 (fun e=>some (-1))
 (fun e=>some e))
end dY
def dY (s0:Sl (Sl Int)) (p1:(Sl Int)→Option Bool):Option Int:=
 dY.W1 s0 (len s0) 0 p1
open dY in
abbrev sX (g1:FuncId) (e1:List V) (p1:(Sl Int)→Option Bool) (h1:iW Sy cL g1 e1 (fun z:Sl Int=>[enc z]) (fun r:Bool=>[.bool r]) p1) (s0:Sl (Sl Int)):Fc Sy cL (dY s0 p1):=Fc.M 80 [enc s0,.clo g1 [] e1] (aZ 9 s0 (cq 5 (fun qW1=>(aR [Cv 0 s0,(1,.v (.clo g1 [] e1)),Iv 7 (len s0),Iv 8 qW1] [])) (fun eW1=>(0,(aR [] []))) (fun eW1=>(aR [Iv 4 eW1] [])) (fun qW1=>aJ 7 9 (bn 16 fun x_1 _=>rN 1 h1.f x_1 fun x_2 _=>aJ 2 16 aj aj) aj) (fun eW1=>aj) (fun eW1=>aj))) (l:=by simp[h1.d])
def fC (s0:Sl (Sl Int)) (p1:(Sl Int)→Option Bool):Option Bool:=
 (dY s0 p1).bind fun x_1=>
 some (decide (x_1≥0))
abbrev kU (g1:FuncId) (e1:List V) (p1:(Sl Int)→Option Bool) (h1:iW Sy cL g1 e1 (fun z:Sl Int=>[enc z]) (fun r:Bool=>[.bool r]) p1) (s0:Sl (Sl Int)):Fc Sy cL (fC s0 p1):=Fc.M 35 [enc s0,.clo g1 [] e1] (aK (F:=sX g1 e1 p1 h1 s0) 9 fun x_1 _=>aj) (l:=by simp[h1.d])
def lF (c0:Sl Int):Option Bool:=
 some (decide ((len c0)>12))
instance Jy (c0:Sl Int):Fc Sy cL (lF c0):=Fc.M 69 [enc c0] (aZ 8 c0 aj)
def oM (l0:Sl (Sl Int)):Option Bool:=
 (au (decide ((len l0)≤60))
 ((fC l0 (fun z=>lF z)).bind fun x_1=>
 some (!x_1))
 (some false):Option Bool).bind fun x_2=>
 some x_2
instance NV (l0:Sl (Sl Int)):Fc Sy cL (oM l0):=Fc.M 25 [enc l0] (aZ 8 l0 (aT 2 4 [0,6] 10 (aJ 2 6 (aK (F:=kU 69 [] (fun z=>lF z) iW.qT l0) 1 fun x_1 _=>aA 2) (aA 4)) fun x_2=>aj))
def gR (l0:Sl (Sl Int)):Option Bool:=
 (oM l0).bind fun x_1=>
 some (!x_1)
instance Jx (l0:Sl (Sl Int)):Fc Sy cL (gR l0):=Fc.M 45 [enc l0] (aK 8 fun x_1 _=>aj)
def o9 (s0:Slice):Option Bool:=
 (au (decide ((len s0.first)≤12))
 (some (decide ((len s0.last)≤12)))
 (some false):Option Bool).bind fun x_1=>
 (au x_1
 (some (decide ((len s0.j)≤12)))
 (some false):Option Bool).bind fun x_2=>
 (au x_2
 ((gC s0.j (fun z=>gR z)).bind fun x_3=>
 some (!x_3))
 (some false):Option Bool).bind fun x_4=>
 some x_4
instance P0 (s0:Slice):Fc Sy cL (o9 s0):=Fc.M 11 [enc s0] (ct 2 1 s0 (aZ 7 s0.first (aT 2 5 [7] 12 (aJ 2 7 (aZ 2 s0.last (aA 2)) (aA 5)) fun x_1=>aT 1 5 [13] 18 (aJ 1 13 (aZ 2 s0.j (aA 2)) (aA 5)) fun x_2=>aT 1 5 [1,19] 24 (aJ 1 19 (aK (F:=qK 45 [] (fun z=>gR z) iW.qT s0.j) 2 fun x_3 _=>aA 2) (aA 5)) fun x_4=>aj)))
def kR (c0:Int):Option Bool:=
 (au (decide (c0≥65))
 (some (decide (c0≤90)))
 (some false):Option Bool).bind fun x_1=>
 (au x_1
 (some true)
 ((au (decide (c0≥97))
 (some (decide (c0≤122)))
 (some false):Option Bool).bind fun x_2=>
 some x_2):Option Bool).bind fun x_3=>
 some x_3
instance Mw (c0:Int):Fc Sy cL (kR c0):=Fc.M 164 [.int .u8 c0] (aT 10 3 [5] 8 (aJ 10 5 (aA 3) (aA 3)) fun x_1=>aT 1 7 [0,9] 16 (aJ 1 9 (aA 7) (aT 3 3 [0,12] 15 (aJ 3 12 (aA 3) (aA 3)) fun x_2=>aA 1)) fun x_3=>aj)
def oH (c0:Int):Option Bool:=
 (au (decide (c0≥48))
 (some (decide (c0≤57)))
 (some false):Option Bool).bind fun x_1=>
 some x_1
instance MX (c0:Int):Fc Sy cL (oH c0):=Fc.M 165 [.int .u8 c0] (aT 10 3 [0,5] 8 (aJ 10 5 (aA 3) (aA 3)) fun x_1=>aj)
namespace eU
def aD (s0:ByteArray) (i3:Int):Option (Fw Int Unit Unit):=
 au (decide (i3<((ByteArray.size s0:Nat):Int)))
 ((gO s0 i3).bind fun x_5=>
 (kR x_5).bind fun x_6=>
 (au x_6
 (some false)
 ((gO s0 i3).bind fun x_7=>
 (oH x_7).bind fun x_8=>
 some (!x_8)):Option Bool).bind fun x_9=>
 (au x_9
 ((gO s0 i3).bind fun x_10=>
 some (!(x_10==95)))
 (some false):Option Bool).bind fun x_11=>
 au x_11
 (some (.r ()))
 (some (.n (IntKind.wrap .i64 (i3+1)))))
 (some (.x ()))
def W1 (s0:ByteArray) (i3:Int):Option Bool:=
 (aW (fun q:Int=>aD s0 q) i3).bind (Fw.elim
 (fun e=>some true)
 (fun e=>some false))
end eU
def eU (s0:ByteArray):Option Bool:=
 (au (decide (((ByteArray.size s0:Nat):Int)<1))
 (some true)
 (some (decide (((ByteArray.size s0:Nat):Int)>16))):Option Bool).bind fun x_1=>
 (au x_1
 (some true)
 ((gO s0 0).bind fun x_2=>
 (kR x_2).bind fun x_3=>
 some (!x_3)):Option Bool).bind fun x_4=>
 au x_4
 (some false)
 (eU.W1 s0 1)
open eU in
instance Qt (s0:ByteArray):Fc Sy cL (eU s0):=Fc.M 128 [.str s0] (aT 12 4 [7] 11 (aJ 12 7 (aA 4) (aA 4)) fun x_1=>aT 1 5 [12] 17 (aJ 1 12 (aA 5) (vQ 1 .i64 fun x_2 _=>aK 0 fun x_3 _=>aA 2)) fun x_4=>aJ 2 17 aj (cq 11 (fun qW1=>(aR [(0,.v (.str s0)),Iv 3 qW1] [])) (fun eW1=>(0,(aR [] []))) (fun eW1=>(aR [Bv 2 false] [])) (fun qW1=>aJ 10 21 (vQ 9 .i64 fun x_5 _=>aK 0 fun x_6 _=>aT 2 6 [29] 35 (cG 2 29 (aA 6) (vQ 2 .i64 fun x_7 _=>aK 0 fun x_8 _=>aA 2)) fun x_9=>aT 1 5 [36] 41 (aJ 1 36 (vQ 2 .i64 fun x_10 _=>aA 2) (aA 5)) fun x_11=>aJ 2 41 aj aj) aj) (fun eW1=>aj) (fun eW1=>aj)))
def lN (n0:Int):Option Bool:=
 (au (decide (n0≥(-1073741824)))
 (some (decide (n0≤1073741824)))
 (some false):Option Bool).bind fun x_1=>
 some x_1
instance NQ (n0:Int):Fc Sy cL (lN n0):=Fc.M 129 [.int .i64 n0] (aT 10 3 [0,5] 8 (aJ 10 5 (aA 3) (aA 3)) fun x_1=>aj)
namespace cH
def dw (i7:Int) (xb5:bt) (j8:Int):Option (Fw Int Unit Unit):=
 au (decide (j8<i7))
 ((idx xb5.vars j8).bind fun x_6=>
 (idx xb5.vars i7).bind fun x_7=>
 au (ByteArray.toList x_6.name==ByteArray.toList x_7.name)
 (some (.r ()))
 (some (.n (IntKind.wrap .i64 (j8+1)))))
 (some (.x ()))
def W3 (i7 j8:Int) (xb5:bt):Option (Fw Int Unit Int):=
 (aW (fun q:Int=>dw i7 xb5 q) j8).bind (Fw.elim
 (fun e=>(idx xb5.vars i7).bind fun x_8=>
 (lN x_8.init_).bind fun x_9=>
 au x_9
 (some (.n (IntKind.wrap .i64 (i7+1))))
 (some (.r 2)))
 (fun e=>some (.r 13)))
def bg (xb5:bt) (i7:Int):Option (Fw Int Unit Int):=
 au (decide (i7<(len xb5.vars)))
 ((idx xb5.vars i7).bind fun x_4=>
 (eU x_4.name).bind fun x_5=>
 au x_5
 (W3 i7 0 xb5)
 (some (.r 13)))
 (some (.x ()))
def W2 (i7:Int) (xb5:bt):Option Int:=
 (aW (fun q:Int=>bg xb5 q) i7).bind (Fw.elim
 (fun e=>au (decide ((len xb5.events)>64))
 (some 5)
 (some 0))
 (fun e=>some e))
def aD (p1:Int) (tb2:Trace) (xb5:bt) (i6:Int):Option (Fw Int Unit Unit):=
 au (decide (i6<p1))
 ((idx tb2.procs i6).bind fun x_3=>
 au (ByteArray.toList x_3.name==ByteArray.toList xb5.name)
 (some (.r ()))
 (some (.n (IntKind.wrap .i64 (i6+1)))))
 (some (.x ()))
def W1 (p1 i6:Int) (tb2:Trace) (xb5:bt):Option Int:=
 (aW (fun q:Int=>aD p1 tb2 xb5 q) i6).bind (Fw.elim
 (fun e=>au (decide ((len xb5.vars)>8))
 (some 5)
 (cH.W2 0 xb5))
 (fun e=>some 13))
end cH
def cH (t0:Trace) (p1:Int):Option Int:=
 (idx t0.procs p1).bind fun x_1=>
 (eU x_1.name).bind fun x_2=>
 au x_2
 (cH.W1 p1 0 t0 x_1)
 (some 13)
open cH in
instance Qp (t0:Trace) (p1:Int):Fc Sy cL (cH t0 p1):=Fc.M 106 [enc t0,.int .i64 p1] (ct 2 2 t0 (bn 8 fun x_1 _=>ov 2 5 0 x_1 (aK 7 fun x_2 _=>cG 3 17 (cq 11 (fun qW1=>(aR [Iv 1 p1,Pv 2,Pv 5,Iv 6 qW1] [Xb 2 t0,Xb 5 x_1])) (fun eW1=>(0,(aR [Pv 5] [Xb 5 x_1]))) (fun eW1=>(aR [Iv 4 13] [])) (fun qW1=>aJ 9 20 (bn 10 fun x_3 _=>aJ 7 31 aj aj) aj) (fun eW1=>aZ 7 x_1.vars (aJ 3 35 aj (cq 11 (fun qW2=>(aR [Pv 5,Iv 7 qW2] [Xb 5 x_1])) (fun eW2=>(2,(aR [Pv 5] [Xb 5 x_1]))) (fun eW2=>(aR [Iv 4 eW2] [])) (fun qW2=>aZ 7 x_1.vars (aJ 3 40 (bn 11 fun x_4 _=>aK 2 fun x_5 _=>cG 3 50 (cq 11 (fun qW3=>(aR [Pv 5,Iv 7 qW2,Iv 8 qW3] [Xb 5 x_1])) (fun eW3=>(4,(aR [Pv 5,Iv 7 qW2] [Xb 5 x_1]))) (fun eW3=>(aR [Iv 4 13] [])) (fun qW3=>aJ 9 53 (bn 10 fun x_6 _=>bn 5 fun x_7 _=>aJ 5 68 aj aj) aj) (fun eW3=>bn 7 fun x_8 _=>aK 2 fun x_9 _=>cG 3 76 aj aj) (fun eW3=>aj)) aj) aj)) (fun eW2=>aZ 7 x_1.events (aJ 3 80 aj aj)) (fun eW2=>aj)))) (fun eW1=>aj)) aj)))
namespace cK
def dw (p1 k8:Int) (tb3:Trace) (xb7:Event) (ab9:Assign) (j10:Int):Option (Fw Int Unit Unit):=
 au (decide (j10<k8))
 ((idx xb7.assign j10).bind fun x_20=>
 au (x_20.var==ab9.var)
 (some (.r ()))
 (some (.n (IntKind.wrap .i64 (j10+1)))))
 (some (.x ()))
def W3 (p1 k8 j10:Int) (tb3:Trace) (xb7:Event) (ab9:Assign):Option (Fw Int Unit Int):=
 (aW (fun q:Int=>dw p1 k8 tb3 xb7 ab9 q) j10).bind (Fw.elim
 (fun e=>some (.n (IntKind.wrap .i64 (k8+1))))
 (fun e=>some (.r 8)))
def bg (p1:Int) (tb3:Trace) (xb7:Event) (k8:Int):Option (Fw Int Unit Int):=
 au (decide (k8<(len xb7.assign)))
 ((idx xb7.assign k8).bind fun x_15=>
 (au (decide (x_15.var<0))
 (some true)
 ((idx tb3.procs p1).bind fun x_16=>
 some (decide (x_15.var≥(len x_16.vars)))):Option Bool).bind fun x_17=>
 (au x_17
 (some true)
 ((lN x_15.value).bind fun x_18=>
 some (!x_18)):Option Bool).bind fun x_19=>
 au x_19
 (some (.r 2))
 (W3 p1 k8 0 tb3 xb7 x_15))
 (some (.x ()))
def W2 (p1 k8:Int) (tb3:Trace) (xb7:Event):Option Int:=
 (aW (fun q:Int=>bg p1 tb3 xb7 q) k8).bind (Fw.elim
 (fun e=>some 0)
 (fun e=>some e))
def J1 (p1 i2:Int) (tb3:Trace) (xb7:Event):Option Int:=
 (au (decide (xb7.time<0))
 (some true)
 (some (decide (xb7.time>1099511627776))):Option Bool).bind fun x_10=>
 (au x_10
 (some true)
 ((au (decide (i2>0))
 ((idx tb3.procs p1).bind fun x_11=>
 (idx x_11.events (IntKind.wrap .i64 (i2-1))).bind fun x_12=>
 some (decide (xb7.time<x_12.time)))
 (some false):Option Bool).bind fun x_13=>
 some x_13):Option Bool).bind fun x_14=>
 au x_14
 (some 11)
 (au (decide ((len xb7.assign)>8))
 (some 5)
 (cK.W2 p1 0 tb3 xb7))
theorem s_ (p1 i2:Int) (tb3:Trace) (xb7:Event):Le ((J1 p1 i2 tb3 xb7).bind (fun r=>some [.int .i64 r])) (bN Sy cL (nQ (tr Tx 107)) (ru (tb Tx 107) [1,1,1,0] [] (aR [Iv 1 p1,Iv 2 i2,Pv 3,Pv 7] [Xb 3 tb3,Xb 7 xb7]))):=
 aT 7 4 [71] 75 (aJ 7 71 (aA 4) (aA 4)) fun x_10=>aT 1 19 [2,76] 95 (aJ 1 76 (aA 19) (aT 3 15 [2,79] 94 (aJ 3 79 (bn 5 fun x_11 _=>bn 4 fun x_12 _=>aA 4) (aA 15)) fun x_13=>aA 1)) fun x_14=>aJ 2 95 aj (aZ 8 xb7.assign (aJ 3 99 aj (cq 11 (fun qW2=>(aR [Iv 1 p1,Pv 3,Pv 7,Iv 8 qW2] [Xb 3 tb3,Xb 7 xb7])) (fun eW2=>(0,(aR [] []))) (fun eW2=>(aR [Iv 6 eW2] [])) (fun qW2=>aZ 7 xb7.assign (aJ 3 104 (bn 10 fun x_15 _=>aT 12 11 [115] 126 (aJ 12 115 (aA 11) (bn 5 fun x_16 _=>aZ 2 x_16.vars (aA 2))) fun x_17=>WZ 1 5 [130] (fun x_19=>(aR [Iv 1 p1,Pv 3,Pv 7,Iv 8 qW2,Bv 104 true,Pv 9,Bv 132 x_19] [Xb 3 tb3,Xb 7 xb7,Xb 9 x_15])) (aJ 1 127 (aA 5) (iU 2 fun x_18 _=>aA 2)) fun x_19=>aJ 2 132 aj (cq 10 (fun qW3=>(aR [Iv 1 p1,Pv 3,Pv 7,Iv 8 qW2,Pv 9,Iv 10 qW3] [Xb 3 tb3,Xb 7 xb7,Xb 9 x_15])) (fun eW3=>(2,(aR [Iv 1 p1,Pv 3,Pv 7,Iv 8 qW2] [Xb 3 tb3,Xb 7 xb7]))) (fun eW3=>(aR [Iv 6 8] [])) (fun qW3=>aJ 9 135 (bn 10 fun x_20 _=>aJ 7 146 aj aj) aj) (fun eW3=>aj) (fun eW3=>aj))) aj)) (fun eW2=>aj) (fun eW2=>aj))))
end cK
def cK (t0:Trace) (p1 i2:Int):Option Int:=
 (idx t0.procs p1).bind fun x_1=>
 (idx x_1.events i2).bind fun x_2=>
 au (x_2.kind==1)
 ((au (x_2.peer==0)
 (some (!(x_2.message==0)))
 (some true):Option Bool).bind fun x_3=>
 au x_3
 (some 3)
 (cK.J1 p1 i2 t0 x_2))
 ((au (x_2.kind==2)
 (some false)
 (some (!(x_2.kind==3))):Option Bool).bind fun x_4=>
 (au x_4
 (some true)
 (some (decide (x_2.peer<0))):Option Bool).bind fun x_5=>
 (au x_5
 (some true)
 (some (decide (x_2.peer≥(len t0.procs)))):Option Bool).bind fun x_6=>
 (au x_6
 (some true)
 (some (x_2.peer==p1)):Option Bool).bind fun x_7=>
 (au x_7
 (some true)
 (some (decide (x_2.message<0))):Option Bool).bind fun x_8=>
 (au x_8
 (some true)
 (some (decide (x_2.message>199))):Option Bool).bind fun x_9=>
 au x_9
 (some 3)
 (cK.J1 p1 i2 t0 x_2))
open cK in
instance Qx (t0:Trace) (p1 i2:Int):Fc Sy cL (cK t0 p1 i2):=Fc.M 107 [enc t0,.int .i64 p1,.int .i64 i2] (ct 2 3 t0 (bn 8 fun x_1 _=>bn 3 fun x_2 _=>ov 2 7 0 x_2 (aJ 10 22 (aT 7 4 [26] 30 (cG 7 26 (aA 4) (aA 4)) fun x_3=>aJ 2 30 aj (AH 4 (s_ p1 i2 t0 x_2))) (aT 7 4 [34] 38 (cG 7 34 (aA 4) (aA 4)) fun x_4=>aT 1 4 [39] 43 (aJ 1 39 (aA 4) (aA 4)) fun x_5=>aT 1 7 [44] 51 (aJ 1 44 (aA 7) (aZ 4 t0.procs (aA 2))) fun x_6=>aT 1 5 [52] 57 (aJ 1 52 (aA 5) (aA 5)) fun x_7=>aT 1 4 [58] 62 (aJ 1 58 (aA 4) (aA 4)) fun x_8=>aT 1 4 [63] 67 (aJ 1 63 (aA 4) (aA 4)) fun x_9=>aJ 2 67 aj (AH 4 (s_ p1 i2 t0 x_2))))))
namespace fH
def aD (tb2:Trace) (xb3:aa) (eb5:Event) (sent6:Bool) (i7:Int):Option (Fw (Bool×Int) Bool Empty):=
 (idx tb2.procs eb5.peer).bind fun x_3=>
 au (decide (i7<(len x_3.events)))
 ((idx tb2.procs eb5.peer).bind fun x_4=>
 (idx x_4.events i7).bind fun x_5=>
 (au sent6
 (some true)
 ((au (x_5.kind==2)
 (some (x_5.message==eb5.message))
 (some false):Option Bool).bind fun x_6=>
 (au x_6
 (some (x_5.peer==xb3.proc))
 (some false):Option Bool).bind fun x_7=>
 some x_7):Option Bool).bind fun x_8=>
 some (.n (x_8,IntKind.wrap .i64 (i7+1))))
 (some (.x sent6))
def W1 (sent6:Bool) (i7:Int) (tb2:Trace) (xb3:aa) (eb5:Event):Option Int:=
 (aW (fun q:Bool×Int=>aD tb2 xb3 eb5 q.1 q.2) (sent6,i7)).bind (Fw.elim
 (fun e=>au e
 (some 0)
 (some 7))
 (fun e=>Empty.elim e))
end fH
def fH (t0:Trace) (x1:aa):Option Int:=
 (qM t0 x1).bind fun x_1=>
 au (x_1.kind==1)
 (some 0)
 ((cz t0 x_1.kind x_1.message).bind fun x_2=>
 au (FJ x_2 x1)
 (au (x_1.kind==3)
 (fH.W1 false 0 t0 x1 x_1)
 (some 0))
 (some 8))
open fH in
instance LX (t0:Trace) (x1:aa):Fc Sy cL (fH t0 x1):=Fc.M 108 [enc t0,enc x1] (ct 2 2 t0 (aK 8 fun x_1 _=>ov 1 5 0 x_1 (aJ 10 14 aj (iU 11 fun x_2 _=>cG 4 22 (aJ 11 25 (uB 14 (fun qW1=>(aR [Pv 2,Pv 3,Pv 5,Bv 6 qW1.1,Iv 7 qW1.2] [Xb 2 t0,Xb 3 x1,Xb 5 x_1])) (fun eW1=>(0,(aR [Bv 6 eW1] []))) (fun qW1=>bn 9 fun x_3 _=>aZ 2 x_3.events (aJ 3 35 (bn 11 fun x_4 _=>bn 3 fun x_5 _=>ov 2 8 0 x_5 (aT 5 18 [8,49] 67 (aJ 5 49 (aA 18) (aT 4 6 [53] 59 (aJ 4 53 (aA 6) (aA 6)) fun x_6=>aT 1 6 [8,60] 66 (aJ 1 60 (aA 6) (aA 6)) fun x_7=>aA 1)) fun x_8=>aj)) aj)) (fun eW1=>cG 8 69 aj aj)) aj) aj))))
namespace bP
def J4 (done3:Sl Int) (p5:Int) (tb1:Trace):Option (Fw ((Sl Int)×Bool) ((Sl Int)×Bool) Empty):=
 (Sl.oR done3 p5).bind fun x_12=>
 (Sl.get done3 x_12).bind fun x_13=>
 (Sl.oR done3 p5).bind fun x_14=>
 (Sl.put done3 x_14 (IntKind.wrap .i64 (x_13+1):Int)).bind fun x_15=>
 some (.n (x_15,true))
def dw (p5:Int) (tb1:Trace) (done3:Sl Int) (moved4:Bool):Option (Fw ((Sl Int)×Bool) ((Sl Int)×Bool) Empty):=
 (Sl.oR done3 p5).bind fun x_2=>
 (Sl.get done3 x_2).bind fun x_3=>
 (idx tb1.procs p5).bind fun x_4=>
 au (decide (x_3<(len x_4.events)))
 ((idx tb1.procs p5).bind fun x_5=>
 (Sl.oR done3 p5).bind fun x_6=>
 (Sl.get done3 x_6).bind fun x_7=>
 (idx x_5.events x_7).bind fun x_8=>
 au (x_8.kind==3)
 ((cz tb1 2 x_8.message).bind fun x_9=>
 (Sl.oR done3 x_9.proc).bind fun x_10=>
 (Sl.get done3 x_10).bind fun x_11=>
 au (decide (x_11<x_9.index))
 (some (.x (done3,moved4)))
 (J4 done3 p5 tb1))
 (J4 done3 p5 tb1))
 (some (.x (done3,moved4)))
def W3 (done3:Sl Int) (moved4:Bool) (p5:Int) (tb1:Trace):Option (Fw ((Sl Int)×Bool×Int) ((Sl Int)×Bool) Empty):=
 (aW (fun q:(Sl Int)×Bool=>dw p5 tb1 q.1 q.2) (done3,moved4)).bind (Fw.elim
 (fun e=>some (.n (e.1,e.2,IntKind.wrap .i64 (p5+1))))
 (fun e=>Empty.elim e))
def bg (tb1:Trace) (done3:Sl Int) (moved4:Bool) (p5:Int):Option (Fw ((Sl Int)×Bool×Int) ((Sl Int)×Bool) Empty):=
 au (decide (p5<(len tb1.procs)))
 (W3 done3 moved4 p5 tb1)
 (some (.x (done3,moved4)))
def W2 (done3:Sl Int) (moved4:Bool) (p5:Int) (tb1:Trace):Option (Fw (Sl Int) (Sl Int) Empty):=
 (aW (fun q:(Sl Int)×Bool×Int=>bg tb1 q.1 q.2.1 q.2.2) (done3,moved4,p5)).bind (Fw.elim
 (fun e=>au e.2
 (some (.n e.1))
 (some (.x e.1)))
 (fun e=>Empty.elim e))
def uD (done3:Sl Int) (tb1:Trace) (p8:Int):Option (Fw Int Unit Unit):=
 au (decide (p8<(len tb1.procs)))
 ((Sl.oR done3 p8).bind fun x_16=>
 (Sl.get done3 x_16).bind fun x_17=>
 (idx tb1.procs p8).bind fun x_18=>
 au (decide (x_17<(len x_18.events)))
 (some (.r ()))
 (some (.n (IntKind.wrap .i64 (p8+1)))))
 (some (.x ()))
def W5 (done3:Sl Int) (p8:Int) (tb1:Trace):Option Bool:=
 (aW (fun q:Int=>uD done3 tb1 q) p8).bind (Fw.elim
 (fun e=>some true)
 (fun e=>some false))
def aD (tb1:Trace) (done3:Sl Int):Option (Fw (Sl Int) (Sl Int) Empty):=
 W2 done3 false 0 tb1
def W1 (done3:Sl Int) (tb1:Trace):Option Bool:=
 (aW (fun q:Sl Int=>aD tb1 q) done3).bind (Fw.elim
 (fun e=>bP.W5 e 0 tb1)
 (fun e=>Empty.elim e))
end bP
def bP (t0:Trace):Option Bool:=
 (sV (len t0.procs) (0:Int)).bind fun x_1=>
 bP.W1 x_1 t0
open bP in
instance Kz (t0:Trace):Fc Sy cL (bP t0):=Fc.M 109 [enc t0] (ct 2 1 t0 (aZ 7 t0.procs (XA 0 12 fun x_1 _=>uB 7 (fun qW1=>(aR [Pv 1,Ov 3] [Xb 1 t0,Lb 2003 qW1])) (fun eW1=>(0,(aR [Pv 1,Ov 3] [Xb 1 t0,Lb 2003 eW1]))) (fun qW1=>uB 17 (fun qW2=>(aR [Pv 1,Ov 3,Bv 4 qW2.2.1,Iv 5 qW2.2.2] [Xb 1 t0,Lb 2003 qW2.1])) (fun eW2=>(2,(aR [Pv 1,Ov 3,Bv 4 eW2.2] [Xb 1 t0,Lb 2003 eW2.1]))) (fun qW2=>aZ 8 t0.procs (aJ 3 17 (uB 8 (fun qW3=>(aR [Pv 1,Ov 3,Bv 4 qW3.2,Iv 5 qW2.2.2] [Xb 1 t0,Lb 2003 qW3.1])) (fun eW3=>(4,(aR [Pv 1,Ov 3,Bv 4 eW3.2,Iv 5 qW2.2.2] [Xb 1 t0,Lb 2003 eW3.1]))) (fun qW3=>tU .i64 7 2003 fun x_2 _=>za 0 2003 0 1 false (fun x_3=>.int .i64 x_3) fun x_3 _=>bn 3 fun x_4 _=>aZ 2 x_4.events (aJ 3 31 (bn 9 fun x_5 _=>tU .i64 4 2003 fun x_6 _=>za 0 2003 0 1 false (fun x_7=>.int .i64 x_7) fun x_7 _=>bn 0 fun x_8 _=>ov 2 6 0 x_8 (aJ 10 46 (aK 6 fun x_9 _=>tU .i64 9 2003 fun x_10 _=>za 0 2003 0 1 false (fun x_11=>.int .i64 x_11) fun x_11 _=>aJ 5 58 aj (AQ 5 (tU .i64 4 2003 fun x_12 _=>za 0 2003 0 1 false (fun x_13=>.int .i64 x_13) fun x_13 _=>tU .i64 1 2003 fun x_14 _=>KR 0 2003 (.int .i64 (IntKind.wrap .i64 (x_13+1))) fun x_15 _=>aj))) (AQ 5 (tU .i64 4 2003 fun x_12 _=>za 0 2003 0 1 false (fun x_13=>.int .i64 x_13) fun x_13 _=>tU .i64 1 2003 fun x_14 _=>KR 0 2003 (.int .i64 (IntKind.wrap .i64 (x_13+1))) fun x_15 _=>aj)))) aj)) (fun eW3=>aj)) aj)) (fun eW2=>cG 8 66 aj aj)) (fun eW1=>cq 11 (fun qW5=>(aR [Pv 1,Ov 3,Iv 8 qW5] [Xb 1 t0,Lb 2003 eW1])) (fun eW5=>(6,(aR [] []))) (fun eW5=>(aR [Bv 2 false] [])) (fun qW5=>aZ 8 t0.procs (aJ 3 71 (tU .i64 9 2003 fun x_16 _=>za 0 2003 0 1 false (fun x_17=>.int .i64 x_17) fun x_17 _=>bn 3 fun x_18 _=>aZ 2 x_18.events (aJ 3 85 aj aj)) aj)) (fun eW5=>aj) (fun eW5=>aj)))))
instance QG (t:Trace) (x:aa):Fc Sy cL (jV t x):=Fc.of (A:=fun z:Trace×aa=>[enc z.1,enc z.2]) (E:=fun r:Sl (Sl Bool)=>[enc r]) (p:=fun z=>jV z.1 z.2) (n:=110) (z:=(t,x)) (lE.Y6 (by kernel_rfl) (by kernel_rfl) (fun z r hr=>LG z.1 z.2 r hr))
namespace bM
def dw (p6:Int) (tb1:Trace) (vb2:aa) (i7:Int):Option (Fw Int Unit (Int×aa)):=
 (idx tb1.procs p6).bind fun x_3=>
 au (decide (i7<(len x_3.events)))
 ((cK tb1 p6 i7).bind fun x_4=>
 au (x_4==0)
 (some (.n (IntKind.wrap .i64 (i7+1))))
 (some (.r (x_4,(⟨p6,IntKind.wrap .i64 (i7+1)⟩:aa)))))
 (some (.x ()))
def W3 (p6 i7:Int) (tb1:Trace) (vb2:aa):Option (Fw Int Unit (Int×aa)):=
 (aW (fun q:Int=>dw p6 tb1 vb2 q) i7).bind (Fw.elim
 (fun e=>some (.n (IntKind.wrap .i64 (p6+1))))
 (fun e=>some (.r (e.1,e.2))))
def uD (p9:Int) (tb1:Trace) (vb2:aa) (i10:Int):Option (Fw Int Unit (Int×aa)):=
 (idx tb1.procs p9).bind fun x_5=>
 au (decide (i10<(len x_5.events)))
 ((fH tb1 (⟨p9,IntKind.wrap .i64 (i10+1)⟩:aa)).bind fun x_6=>
 au (x_6==0)
 (some (.n (IntKind.wrap .i64 (i10+1))))
 (some (.r (x_6,(⟨p9,IntKind.wrap .i64 (i10+1)⟩:aa)))))
 (some (.x ()))
def W5 (p9 i10:Int) (tb1:Trace) (vb2:aa):Option (Fw Int Unit (Int×aa)):=
 (aW (fun q:Int=>uD p9 tb1 vb2 q) i10).bind (Fw.elim
 (fun e=>some (.n (IntKind.wrap .i64 (p9+1))))
 (fun e=>some (.r (e.1,e.2))))
def E_ (p13:Int) (tb1:Trace) (vb2:aa) (i14:Int):Option (Fw Int Unit aa):=
 (idx tb1.procs p13).bind fun x_7=>
 au (decide (i14<(len x_7.events)))
 ((jV tb1 (⟨p13,IntKind.wrap .i64 (i14+1)⟩:aa)).bind fun x_8=>
 (idx x_8 p13).bind fun x_9=>
 (idx x_9 (IntKind.wrap .i64 (i14+1))).bind fun x_10=>
 au x_10
 (some (.r (⟨p13,IntKind.wrap .i64 (i14+1)⟩:aa)))
 (some (.n (IntKind.wrap .i64 (i14+1)))))
 (some (.x ()))
def W7 (p13 i14:Int) (tb1:Trace) (vb2:aa):Option (Fw Int Unit aa):=
 (aW (fun q:Int=>E_ p13 tb1 vb2 q) i14).bind (Fw.elim
 (fun e=>some (.n (IntKind.wrap .i64 (p13+1))))
 (fun e=>some (.r e)))
def Fq (tb1:Trace) (vb2:aa) (p13:Int):Option (Fw Int Unit aa):=
 au (decide (p13<(len tb1.procs)))
 (W7 p13 0 tb1 vb2)
 (some (.x ()))
def W6 (p13:Int) (tb1:Trace) (vb2:aa):Option (aa×Int):=
 (aW (fun q:Int=>Fq tb1 vb2 q) p13).bind (Fw.elim
 (fun e=>some (⟨0,0⟩,0))
 (fun e=>some (e,10)))
def r_ (tb1:Trace) (vb2:aa) (p9:Int):Option (Fw Int Unit (Int×aa)):=
 au (decide (p9<(len tb1.procs)))
 (W5 p9 0 tb1 vb2)
 (some (.x ()))
def W4 (p9:Int) (tb1:Trace) (vb2:aa):Option (aa×Int):=
 (aW (fun q:Int=>r_ tb1 vb2 q) p9).bind (Fw.elim
 (fun e=>(bP tb1).bind fun x_11=>
 au x_11
 (some (⟨0,0⟩,0))
 (bM.W6 0 tb1 vb2))
 (fun e=>some (e.2,e.1)))
def bg (tb1:Trace) (vb2:aa) (p6:Int):Option (Fw Int Unit (Int×aa)):=
 au (decide (p6<(len tb1.procs)))
 (W3 p6 0 tb1 vb2)
 (some (.x ()))
def W2 (p6:Int) (tb1:Trace) (vb2:aa):Option (aa×Int):=
 (aW (fun q:Int=>bg tb1 vb2 q) p6).bind (Fw.elim
 (fun e=>bM.W4 0 tb1 vb2)
 (fun e=>some (e.2,e.1)))
def aD (tb1:Trace) (vb2:aa) (p4:Int):Option (Fw Int Unit (Int×aa)):=
 au (decide (p4<(len tb1.procs)))
 ((cH tb1 p4).bind fun x_2=>
 au (x_2==0)
 (some (.n (IntKind.wrap .i64 (p4+1))))
 (some (.r (x_2,(⟨p4,0⟩:aa)))))
 (some (.x ()))
def W1 (p4:Int) (tb1:Trace) (vb2:aa):Option (aa×Int):=
 (aW (fun q:Int=>aD tb1 vb2 q) p4).bind (Fw.elim
 (fun e=>bM.W2 0 tb1 vb2)
 (fun e=>some (e.2,e.1)))
end bM
def bM (t0:Trace):Option (aa×Int):=
 (au (decide ((len t0.procs)<1))
 (some true)
 (some (decide ((len t0.procs)>8))):Option Bool).bind fun x_1=>
 au x_1
 (some (⟨0,0⟩,1))
 (bM.W1 0 t0 (⟨0,0⟩:aa))
open bM in
instance Od (t0:Trace):Fc Sy cL (bM t0):=Fc.M 76 [enc t0] (ct 2 1 t0 (aZ 9 t0.procs (aT 2 5 [20] 25 (aJ 2 20 (aA 5) (aZ 2 t0.procs (aA 2))) fun x_1=>aJ 2 25 aj (cq 11 (fun qW1=>(aR [Pv 1,Pv 2,Iv 4 qW1] [Xb 1 t0,Xb 2 (⟨0,0⟩:aa)])) (fun eW1=>(0,(aR [Pv 1,Pv 2] [Xb 1 t0,Xb 2 (⟨0,0⟩:aa)]))) (fun eW1=>(aR [Pv 2,Iv 3 eW1.1] [Xb 2 eW1.2])) (fun qW1=>aZ 7 t0.procs (aJ 3 31 (aK 9 fun x_2 _=>cG 9 38 aj aj) aj)) (fun eW1=>cq 10 (fun qW2=>(aR [Pv 1,Pv 2,Iv 6 qW2] [Xb 1 t0,Xb 2 (⟨0,0⟩:aa)])) (fun eW2=>(2,(aR [Pv 1,Pv 2] [Xb 1 t0,Xb 2 (⟨0,0⟩:aa)]))) (fun eW2=>(aR [Pv 2,Iv 3 eW2.1] [Xb 2 eW2.2])) (fun qW2=>aZ 7 t0.procs (aJ 3 46 (cq 12 (fun qW3=>(aR [Pv 1,Pv 2,Iv 6 qW2,Iv 7 qW3] [Xb 1 t0,Xb 2 (⟨0,0⟩:aa)])) (fun eW3=>(4,(aR [Pv 1,Pv 2,Iv 6 qW2] [Xb 1 t0,Xb 2 (⟨0,0⟩:aa)]))) (fun eW3=>(aR [Pv 2,Iv 3 eW3.1] [Xb 2 eW3.2])) (fun qW3=>bn 8 fun x_3 _=>aZ 2 x_3.events (aJ 3 57 (aK 10 fun x_4 _=>cG 9 65 aj aj) aj)) (fun eW3=>aj) (fun eW3=>aj)) aj)) (fun eW2=>cq 10 (fun qW4=>(aR [Pv 1,Pv 2,Iv 9 qW4] [Xb 1 t0,Xb 2 (⟨0,0⟩:aa)])) (fun eW4=>(6,(aR [Pv 1,Pv 2] [Xb 1 t0,Xb 2 (⟨0,0⟩:aa)]))) (fun eW4=>(aR [Pv 2,Iv 3 eW4.1] [Xb 2 eW4.2])) (fun qW4=>aZ 7 t0.procs (aJ 3 75 (cq 12 (fun qW5=>(aR [Pv 1,Pv 2,Iv 9 qW4,Iv 10 qW5] [Xb 1 t0,Xb 2 (⟨0,0⟩:aa)])) (fun eW5=>(8,(aR [Pv 1,Pv 2,Iv 9 qW4] [Xb 1 t0,Xb 2 (⟨0,0⟩:aa)]))) (fun eW5=>(aR [Pv 2,Iv 3 eW5.1] [Xb 2 eW5.2])) (fun qW5=>bn 8 fun x_5 _=>aZ 2 x_5.events (aJ 3 86 (aK 19 fun x_6 _=>cG 9 97 aj aj) aj)) (fun eW5=>aj) (fun eW5=>aj)) aj)) (fun eW4=>aK 6 fun x_11 _=>aJ 2 101 aj (cq 11 (fun qW6=>(aR [Pv 1,Pv 2,Iv 13 qW6] [Xb 1 t0,Xb 2 (⟨0,0⟩:aa)])) (fun eW6=>(10,(aR [Pv 2] [Xb 2 (⟨0,0⟩:aa)]))) (fun eW6=>(aR [Pv 2,Iv 3 10] [Xb 2 eW6])) (fun qW6=>aZ 7 t0.procs (aJ 3 107 (cq 12 (fun qW7=>(aR [Pv 1,Pv 2,Iv 13 qW6,Iv 14 qW7] [Xb 1 t0,Xb 2 (⟨0,0⟩:aa)])) (fun eW7=>(12,(aR [Pv 1,Pv 2,Iv 13 qW6] [Xb 1 t0,Xb 2 (⟨0,0⟩:aa)]))) (fun eW7=>(aR [Pv 2,Iv 3 10] [Xb 2 eW7])) (fun qW7=>bn 8 fun x_7 _=>aZ 2 x_7.events (aJ 3 118 (aK 19 fun x_8 _=>bn 1 fun x_9 _=>bn 3 fun x_10 _=>aJ 3 134 aj aj) aj)) (fun eW7=>aj) (fun eW7=>aj)) aj)) (fun eW6=>aj) (fun eW6=>aj))) (fun eW4=>aj)) (fun eW2=>aj)) (fun eW1=>aj)))))
def fB (t0:Trace):Option Bool:=
 (bM t0).bind fun x_1=>
 some (x_1.2==0)
instance NK (t0:Trace):Fc Sy cL (fB t0):=Fc.M 29 [enc t0] (ct 2 1 t0 (aK 6 fun x_1 _=>aj))
def qy (t0:Trace) (c1:Sl Int):Option Bool:=
 some ((len c1)==(len t0.procs))
instance Qz (t0:Trace) (c1:Sl Int):Fc Sy cL (qy t0 c1):=Fc.M 81 [enc t0,enc c1] (ct 2 2 t0 (aZ 6 c1 (aZ 2 t0.procs aj)))
namespace iC
def aD (c1:Sl Int) (tb2:Trace) (p5:Int):Option (Fw Int Unit Unit):=
 au (decide (p5<(len c1)))
 ((idx c1 p5).bind fun x_1=>
 (au (decide (x_1<0))
 (some true)
 ((idx c1 p5).bind fun x_2=>
 (idx tb2.procs p5).bind fun x_3=>
 some (decide (x_2>(len x_3.events)))):Option Bool).bind fun x_4=>
 au x_4
 (some (.r ()))
 (some (.n (IntKind.wrap .i64 (p5+1)))))
 (some (.x ()))
def W1 (c1:Sl Int) (p5:Int) (tb2:Trace):Option Bool:=
 (aW (fun q:Int=>aD c1 tb2 q) p5).bind (Fw.elim
 (fun e=>some true)
 (fun e=>some false))
end iC
def iC (t0:Trace) (c1:Sl Int):Option Bool:=
 iC.W1 c1 0 t0
open iC in
instance OA (t0:Trace) (c1:Sl Int):Fc Sy cL (iC t0 c1):=Fc.M 82 [enc t0,enc c1] (ct 2 2 t0 (cq 11 (fun qW1=>(aR [Cv 1 c1,Pv 2,Iv 5 qW1] [Xb 2 t0])) (fun eW1=>(0,(aR [] []))) (fun eW1=>(aR [Bv 4 false] [])) (fun qW1=>aZ 6 c1 (aJ 3 9 (bn 9 fun x_1 _=>aT 3 13 [17] 30 (aJ 3 17 (aA 13) (bn 2 fun x_2 _=>bn 4 fun x_3 _=>aZ 2 x_3.events (aA 2))) fun x_4=>aJ 2 30 aj aj) aj)) (fun eW1=>aj) (fun eW1=>aj)))
def tX (t0:Trace) (c1:Sl Int) (p2 i3:Int):Option Bool:=
 (idx t0.procs p2).bind fun x_1=>
 (idx x_1.events i3).bind fun x_2=>
 au (x_2.kind==3)
 ((cz t0 2 x_2.message).bind fun x_3=>
 (idx c1 x_3.proc).bind fun x_4=>
 some (decide (x_3.index≤x_4)))
 (some true)
instance QH (t0:Trace) (c1:Sl Int) (p2 i3:Int):Fc Sy cL (tX t0 c1 p2 i3):=Fc.M 77 [enc t0,enc c1,.int .i64 p2,.int .i64 i3] (ct 2 4 t0 (bn 8 fun x_1 _=>bn 3 fun x_2 _=>ov 2 9 0 x_2 (cG 10 22 (aK 8 fun x_3 _=>bn 11 fun x_4 _=>aj) aj)))
namespace dy
def bg (c1:Sl Int) (p5:Int) (tb2:Trace) (i6:Int):Option (Fw Int Unit Unit):=
 (idx c1 p5).bind fun x_1=>
 au (decide (i6<x_1))
 ((tX tb2 c1 p5 i6).bind fun x_2=>
 au x_2
 (some (.n (IntKind.wrap .i64 (i6+1))))
 (some (.r ())))
 (some (.x ()))
def W2 (c1:Sl Int) (p5 i6:Int) (tb2:Trace):Option (Fw Int Unit Unit):=
 (aW (fun q:Int=>bg c1 p5 tb2 q) i6).bind (Fw.elim
 (fun e=>some (.n (IntKind.wrap .i64 (p5+1))))
 (fun e=>some (.r ())))
def aD (c1:Sl Int) (tb2:Trace) (p5:Int):Option (Fw Int Unit Unit):=
 au (decide (p5<(len c1)))
 (W2 c1 p5 0 tb2)
 (some (.x ()))
def W1 (c1:Sl Int) (p5:Int) (tb2:Trace):Option Bool:=
 (aW (fun q:Int=>aD c1 tb2 q) p5).bind (Fw.elim
 (fun e=>some true)
 (fun e=>some false))
end dy
def dy (t0:Trace) (c1:Sl Int):Option Bool:=
 dy.W1 c1 0 t0
open dy in
instance Mh (t0:Trace) (c1:Sl Int):Fc Sy cL (dy t0 c1):=Fc.M 83 [enc t0,enc c1] (ct 2 2 t0 (cq 11 (fun qW1=>(aR [Cv 1 c1,Pv 2,Iv 5 qW1] [Xb 2 t0])) (fun eW1=>(0,(aR [] []))) (fun eW1=>(aR [Bv 4 false] [])) (fun qW1=>aZ 6 c1 (aJ 3 10 (cq 12 (fun qW2=>(aR [Cv 1 c1,Pv 2,Iv 5 qW1,Iv 6 qW2] [Xb 2 t0])) (fun eW2=>(2,(aR [Cv 1 c1,Pv 2,Iv 5 qW1] [Xb 2 t0]))) (fun eW2=>(aR [Bv 4 false] [])) (fun qW2=>bn 7 fun x_1 _=>aJ 4 18 (aK 11 fun x_2 _=>cG 3 26 aj aj) aj) (fun eW2=>aj) (fun eW2=>aj)) aj)) (fun eW1=>aj) (fun eW1=>aj)))
def dh (t0:Trace) (c1:Sl Int):Option Bool:=
 (fB t0).bind fun x_1=>
 (au x_1
 ((qy t0 c1).bind fun x_2=>
 some x_2)
 (some false):Option Bool).bind fun x_3=>
 (au x_3
 ((iC t0 c1).bind fun x_4=>
 some x_4)
 (some false):Option Bool).bind fun x_5=>
 (au x_5
 ((dy t0 c1).bind fun x_6=>
 some x_6)
 (some false):Option Bool).bind fun x_7=>
 some x_7
instance HF (t0:Trace) (c1:Sl Int):Fc Sy cL (dh t0 c1):=Fc.M 37 [enc t0,enc c1] (ct 2 2 t0 (aK 6 fun x_1 _=>aT 1 4 [7] 11 (aJ 1 7 (aK 2 fun x_2 _=>aA 1) (aA 4)) fun x_3=>aT 1 4 [12] 16 (aJ 1 12 (aK 2 fun x_4 _=>aA 1) (aA 4)) fun x_5=>aT 1 4 [1,2,17] 21 (aJ 1 17 (aK 2 fun x_6 _=>aA 1) (aA 4)) fun x_7=>aj))
namespace cU
def aD (a0 b1:Sl Int) (i5:Int):Option (Fw Int Unit Unit):=
 au (decide (i5<(len a0)))
 ((idx a0 i5).bind fun x_1=>
 (idx b1 i5).bind fun x_2=>
 au (decide (x_1>x_2))
 (some (.r ()))
 (some (.n (IntKind.wrap .i64 (i5+1)))))
 (some (.x ()))
def W1 (a0 b1:Sl Int) (i5:Int):Option Bool:=
 (aW (fun q:Int=>aD a0 b1 q) i5).bind (Fw.elim
 (fun e=>some true)
 (fun e=>some false))
end cU
def cU (a0 b1:Sl Int):Option Bool:=
 au ((len a0)==(len b1))
 (cU.W1 a0 b1 0)
 (some false)
open cU in
instance Ro (a0 b1:Sl Int):Fc Sy cL (cU a0 b1):=Fc.M 46 [enc a0,enc b1] (aZ 9 a0 (aZ 1 b1 (cG 3 10 (cq 11 (fun qW1=>(aR [Cv 0 a0,Cv 1 b1,Iv 5 qW1] [])) (fun eW1=>(0,(aR [] []))) (fun eW1=>(aR [Bv 4 false] [])) (fun qW1=>aZ 6 a0 (aJ 3 14 (bn 9 fun x_1 _=>bn 3 fun x_2 _=>aJ 4 25 aj aj) aj)) (fun eW1=>aj) (fun eW1=>aj)) aj)))
namespace dz
def aD (a0 b1:Sl Int) (i5:Int):Option (Fw Int Unit Unit):=
 au (decide (i5<(len a0)))
 ((idx a0 i5).bind fun x_1=>
 (idx b1 i5).bind fun x_2=>
 au (x_1==x_2)
 (some (.n (IntKind.wrap .i64 (i5+1))))
 (some (.r ())))
 (some (.x ()))
def W1 (a0 b1:Sl Int) (i5:Int):Option Bool:=
 (aW (fun q:Int=>aD a0 b1 q) i5).bind (Fw.elim
 (fun e=>some true)
 (fun e=>some false))
end dz
def dz (a0 b1:Sl Int):Option Bool:=
 au ((len a0)==(len b1))
 (dz.W1 a0 b1 0)
 (some false)
open dz in
instance Jz (a0 b1:Sl Int):Fc Sy cL (dz a0 b1):=Fc.M 53 [enc a0,enc b1] (aZ 9 a0 (aZ 1 b1 (cG 3 10 (cq 11 (fun qW1=>(aR [Cv 0 a0,Cv 1 b1,Iv 5 qW1] [])) (fun eW1=>(0,(aR [] []))) (fun eW1=>(aR [Bv 4 false] [])) (fun qW1=>aZ 6 a0 (aJ 3 14 (bn 9 fun x_1 _=>bn 3 fun x_2 _=>cG 4 25 aj aj) aj)) (fun eW1=>aj) (fun eW1=>aj)) aj)))
def mj (t0:Trace) (s1:Slice) (p2 i3:Int):Option Bool:=
 (idx s1.j p2).bind fun x_1=>
 (idx x_1 i3).bind fun x_2=>
 (idx s1.last p2).bind fun x_3=>
 au (decide (i3≥x_3))
 (some ((len x_2)==0))
 ((idx s1.first p2).bind fun x_4=>
 au (decide (i3<x_4))
 ((dz x_2 s1.first).bind fun x_5=>
 some x_5)
 ((dh t0 x_2).bind fun x_6=>
 (au x_6
 ((idx x_2 p2).bind fun x_7=>
 some (decide (x_7>i3)))
 (some false):Option Bool).bind fun x_8=>
 (au x_8
 ((cU s1.first x_2).bind fun x_9=>
 some x_9)
 (some false):Option Bool).bind fun x_10=>
 (au x_10
 ((cU x_2 s1.last).bind fun x_11=>
 some x_11)
 (some false):Option Bool).bind fun x_12=>
 some x_12))
instance Lw (t0:Trace) (s1:Slice) (p2 i3:Int):Fc Sy cL (mj t0 s1 p2 i3):=Fc.M 47 [enc t0,enc s1,.int .i64 p2,.int .i64 i3] (ct 2 4 t0 (ct 0 5 s1 (bn 8 fun x_1 _=>bn 2 fun x_2 _=>bn 11 fun x_3 _=>aJ 4 24 (aZ 4 x_2 aj) (bn 10 fun x_4 _=>aJ 4 34 (aK 6 fun x_5 _=>aj) (aK 7 fun x_6 _=>aT 1 7 [2,3,42] 49 (aJ 1 42 (bn 2 fun x_7 _=>aA 4) (aA 7)) fun x_8=>aT 1 5 [50] 55 (aJ 1 50 (aK 3 fun x_9 _=>aA 1) (aA 5)) fun x_10=>aT 1 5 [5,9,56] 61 (aJ 1 56 (aK 3 fun x_11 _=>aA 1) (aA 5)) fun x_12=>aj)))))
namespace cF
def bg (c1:Sl Int) (p5:Int) (sb2:Slice) (i6:Int):Option (Fw Int Unit Unit):=
 (idx c1 p5).bind fun x_1=>
 au (decide (i6<x_1))
 ((idx sb2.j p5).bind fun x_2=>
 (idx x_2 i6).bind fun x_3=>
 (cU x_3 c1).bind fun x_4=>
 au x_4
 (some (.n (IntKind.wrap .i64 (i6+1))))
 (some (.r ())))
 (some (.x ()))
def W2 (c1:Sl Int) (p5 i6:Int) (sb2:Slice):Option (Fw Int Unit Unit):=
 (aW (fun q:Int=>bg c1 p5 sb2 q) i6).bind (Fw.elim
 (fun e=>some (.n (IntKind.wrap .i64 (p5+1))))
 (fun e=>some (.r ())))
def aD (c1:Sl Int) (sb2:Slice) (p5:Int):Option (Fw Int Unit Unit):=
 au (decide (p5<(len c1)))
 (W2 c1 p5 0 sb2)
 (some (.x ()))
def W1 (c1:Sl Int) (p5:Int) (sb2:Slice):Option Bool:=
 (aW (fun q:Int=>aD c1 sb2 q) p5).bind (Fw.elim
 (fun e=>some true)
 (fun e=>some false))
end cF
def cF (s0:Slice) (c1:Sl Int):Option Bool:=
 cF.W1 c1 0 s0
open cF in
instance L7 (s0:Slice) (c1:Sl Int):Fc Sy cL (cF s0 c1):=Fc.M 48 [enc s0,enc c1] (ct 2 2 s0 (cq 11 (fun qW1=>(aR [Cv 1 c1,Pv 2,Iv 5 qW1] [Xb 2 s0])) (fun eW1=>(0,(aR [] []))) (fun eW1=>(aR [Bv 4 false] [])) (fun qW1=>aZ 6 c1 (aJ 3 10 (cq 12 (fun qW2=>(aR [Cv 1 c1,Pv 2,Iv 5 qW1,Iv 6 qW2] [Xb 2 s0])) (fun eW2=>(2,(aR [Cv 1 c1,Pv 2,Iv 5 qW1] [Xb 2 s0]))) (fun eW2=>(aR [Bv 4 false] [])) (fun qW2=>bn 7 fun x_1 _=>aJ 4 18 (bn 10 fun x_2 _=>bn 2 fun x_3 _=>aK 2 fun x_4 _=>cG 3 31 aj aj) aj) (fun eW2=>aj) (fun eW2=>aj)) aj)) (fun eW1=>aj) (fun eW1=>aj)))
namespace bY
def bg (p5:Int) (tb2:Trace) (sb3:Slice) (i6:Int):Option (Fw Int Unit Unit):=
 (idx sb3.j p5).bind fun x_12=>
 au (decide (i6<(len x_12)))
 ((mj tb2 sb3 p5 i6).bind fun x_13=>
 au x_13
 (some (.n (IntKind.wrap .i64 (i6+1))))
 (some (.r ())))
 (some (.x ()))
def W2 (p5 i6:Int) (tb2:Trace) (sb3:Slice):Option (Fw Int Unit Unit):=
 (aW (fun q:Int=>bg p5 tb2 sb3 q) i6).bind (Fw.elim
 (fun e=>some (.n (IntKind.wrap .i64 (p5+1))))
 (fun e=>some (.r ())))
def r_ (p7:Int) (sb3:Slice) (i8:Int):Option (Fw Int Unit Unit):=
 (idx sb3.last p7).bind fun x_14=>
 au (decide (i8<x_14))
 ((idx sb3.j p7).bind fun x_15=>
 (idx x_15 i8).bind fun x_16=>
 (cF sb3 x_16).bind fun x_17=>
 au x_17
 (some (.n (IntKind.wrap .i64 (i8+1))))
 (some (.r ())))
 (some (.x ()))
def W4 (p7 i8:Int) (sb3:Slice):Option (Fw Int Unit Unit):=
 (aW (fun q:Int=>r_ p7 sb3 q) i8).bind (Fw.elim
 (fun e=>some (.n (IntKind.wrap .i64 (p7+1))))
 (fun e=>some (.r ())))
def dw (sb3:Slice) (p7:Int):Option (Fw Int Unit Unit):=
 au (decide (p7<(len sb3.j)))
 (W4 p7 0 sb3)
 (some (.x ()))
def W3 (p7:Int) (sb3:Slice):Option Bool:=
 (aW (fun q:Int=>dw sb3 q) p7).bind (Fw.elim
 (fun e=>some true)
 (fun e=>some false))
def aD (tb2:Trace) (sb3:Slice) (p5:Int):Option (Fw Int Unit Unit):=
 au (decide (p5<(len sb3.j)))
 ((idx sb3.j p5).bind fun x_10=>
 (idx tb2.procs p5).bind fun x_11=>
 au ((len x_10)==(len x_11.events))
 (W2 p5 0 tb2 sb3)
 (some (.r ())))
 (some (.x ()))
def W1 (p5:Int) (tb2:Trace) (sb3:Slice):Option Bool:=
 (aW (fun q:Int=>aD tb2 sb3 q) p5).bind (Fw.elim
 (fun e=>bY.W3 0 sb3)
 (fun e=>some false))
end bY
def bY (t0:Trace) (s1:Slice):Option Bool:=
 (fB t0).bind fun x_1=>
 au x_1
 (au s1.empty
 ((au ((len s1.first)==0)
 (some ((len s1.last)==0))
 (some false):Option Bool).bind fun x_2=>
 (au x_2
 (some ((len s1.j)==0))
 (some false):Option Bool).bind fun x_3=>
 some x_3)
 ((dh t0 s1.first).bind fun x_4=>
 (au x_4
 ((dh t0 s1.last).bind fun x_5=>
 some (!x_5))
 (some true):Option Bool).bind fun x_6=>
 (au x_6
 (some true)
 ((cU s1.first s1.last).bind fun x_7=>
 some (!x_7)):Option Bool).bind fun x_8=>
 (au x_8
 (some true)
 (some (!((len s1.j)==(len t0.procs)))):Option Bool).bind fun x_9=>
 au x_9
 (some false)
 (bY.W1 0 t0 s1)))
 (some false)
open bY in
instance Nb (t0:Trace) (s1:Slice):Fc Sy cL (bY t0 s1):=Fc.M 12 [enc t0,enc s1] (ct 2 2 t0 (ct 0 3 s1 (aK 7 fun x_1 _=>cG 3 11 (aJ 10 13 (aZ 5 s1.first (aT 2 5 [18] 23 (aJ 2 18 (aZ 2 s1.last (aA 2)) (aA 5)) fun x_2=>aT 1 5 [3,24] 29 (aJ 1 24 (aZ 2 s1.j (aA 2)) (aA 5)) fun x_3=>aj)) (aK 9 fun x_4 _=>aT 2 6 [35] 41 (cG 2 35 (aK 3 fun x_5 _=>aA 2) (aA 6)) fun x_6=>aT 1 7 [42] 49 (aJ 1 42 (aA 7) (aK 4 fun x_7 _=>aA 2)) fun x_8=>aT 1 8 [50] 58 (aJ 1 50 (aA 8) (aZ 2 s1.j (aZ 2 t0.procs (aA 2)))) fun x_9=>aJ 2 58 aj (cq 11 (fun qW1=>(aR [Pv 2,Pv 3,Iv 5 qW1] [Xb 2 t0,Xb 3 s1])) (fun eW1=>(0,(aR [Pv 3] [Xb 3 s1]))) (fun eW1=>(aR [Bv 4 false] [])) (fun qW1=>aZ 7 s1.j (aJ 3 63 (bn 11 fun x_10 _=>aZ 1 x_10 (bn 3 fun x_11 _=>aZ 2 x_11.events (cG 3 79 (cq 10 (fun qW2=>(aR [Pv 2,Pv 3,Iv 5 qW1,Iv 6 qW2] [Xb 2 t0,Xb 3 s1])) (fun eW2=>(2,(aR [Pv 2,Pv 3,Iv 5 qW1] [Xb 2 t0,Xb 3 s1]))) (fun eW2=>(aR [Bv 4 false] [])) (fun qW2=>bn 8 fun x_12 _=>aZ 1 x_12 (aJ 3 87 (aK 11 fun x_13 _=>cG 3 95 aj aj) aj)) (fun eW2=>aj) (fun eW2=>aj)) aj))) aj)) (fun eW1=>cq 10 (fun qW3=>(aR [Pv 3,Iv 7 qW3] [Xb 3 s1])) (fun eW3=>(4,(aR [] []))) (fun eW3=>(aR [Bv 4 false] [])) (fun qW3=>aZ 7 s1.j (aJ 3 100 (cq 12 (fun qW4=>(aR [Pv 3,Iv 7 qW3,Iv 8 qW4] [Xb 3 s1])) (fun eW4=>(6,(aR [Pv 3,Iv 7 qW3] [Xb 3 s1]))) (fun eW4=>(aR [Bv 4 false] [])) (fun qW4=>bn 8 fun x_14 _=>aJ 4 109 (bn 11 fun x_15 _=>bn 2 fun x_16 _=>iU 1 fun x_17 _=>cG 3 122 aj aj) aj) (fun eW4=>aj) (fun eW4=>aj)) aj)) (fun eW3=>aj) (fun eW3=>aj)) (fun eW1=>aj)))) aj)))
def oP (t0:Trace) (s1:Slice) (c2:Sl Int):Option Bool:=
 (au s1.empty
 (some false)
 ((dh t0 c2).bind fun x_1=>
 some x_1):Option Bool).bind fun x_2=>
 (au x_2
 ((cU s1.first c2).bind fun x_3=>
 some x_3)
 (some false):Option Bool).bind fun x_4=>
 (au x_4
 ((cU c2 s1.last).bind fun x_5=>
 some x_5)
 (some false):Option Bool).bind fun x_6=>
 (au x_6
 ((cF s1 c2).bind fun x_7=>
 some x_7)
 (some false):Option Bool).bind fun x_8=>
 some x_8
instance RH (t0:Trace) (s1:Slice) (c2:Sl Int):Fc Sy cL (oP t0 s1 c2):=Fc.M 19 [enc t0,enc s1,enc c2] (ct 2 3 t0 (ct 0 4 s1 (aT 9 4 [3,10] 14 (cG 9 10 (aA 4) (aK 2 fun x_1 _=>aA 1)) fun x_2=>aT 1 5 [15] 20 (aJ 1 15 (aK 3 fun x_3 _=>aA 1) (aA 5)) fun x_4=>aT 1 5 [21] 26 (aJ 1 21 (aK 3 fun x_5 _=>aA 1) (aA 5)) fun x_6=>aT 1 4 [2,4,27] 31 (aJ 1 27 (aK 2 fun x_7 _=>aA 1) (aA 4)) fun x_8=>aj)))
def jU (x0 low1 high2:Int):Option Bool:=
 (au (decide (x0≥low1))
 (some (decide (x0≤high2)))
 (some false):Option Bool).bind fun x_1=>
 some x_1
instance WL (x0 low1 high2:Int):Fc Sy cL (jU x0 low1 high2):=Fc.M 117 [.int .i64 x0,.int .i64 low1,.int .i64 high2] (aT 11 4 [0,2,10] 14 (aJ 11 10 (aA 4) (aA 4)) fun x_1=>aj)
def iD (c0:Int):Option Bool:=
 (au (decide (c0≥97))
 (some (decide (c0≤122)))
 (some false):Option Bool).bind fun x_1=>
 (au x_1
 (some true)
 ((au (decide (c0≥65))
 (some (decide (c0≤90)))
 (some false):Option Bool).bind fun x_2=>
 some x_2):Option Bool).bind fun x_3=>
 some x_3
instance PF (c0:Int):Fc Sy cL (iD c0):=Fc.M 186 [.int .u8 c0] (aT 10 3 [5] 8 (aJ 10 5 (aA 3) (aA 3)) fun x_1=>aT 1 7 [0,9] 16 (aJ 1 9 (aA 7) (aT 3 3 [0,12] 15 (aJ 3 12 (aA 3) (aA 3)) fun x_2=>aA 1)) fun x_3=>aj)
def k_ (c0:Int):Option Bool:=
 (au (decide (c0≥48))
 (some (decide (c0≤57)))
 (some false):Option Bool).bind fun x_1=>
 some x_1
instance QC (c0:Int):Fc Sy cL (k_ c0):=Fc.M 187 [.int .u8 c0] (aT 10 3 [0,5] 8 (aJ 10 5 (aA 3) (aA 3)) fun x_1=>aj)
namespace cZ
def aD (s0:ByteArray) (v18:Int) (v19:Int):Option (Fw Int Unit Unit):=
 au (decide (v19<v18))
 ((gO s0 v19).bind fun x_5=>
 (iD x_5).bind fun x_6=>
 (au x_6
 (some false)
 ((gO s0 v19).bind fun x_7=>
 (k_ x_7).bind fun x_8=>
 some (!x_8)):Option Bool).bind fun x_9=>
 (au x_9
 ((gO s0 v19).bind fun x_10=>
 some (!(x_10==95)))
 (some false):Option Bool).bind fun x_11=>
 au x_11
 (some (.r ()))
 (some (.n (IntKind.wrap .i64 (v19+1)))))
 (some (.x ()))
def W1 (s0:ByteArray) (v18 v19:Int):Option Bool:=
 (aW (fun q:Int=>aD s0 v18 q) v19).bind (Fw.elim
 (fun e=>some true)
 (fun e=>some false))
end cZ
def cZ (s0:ByteArray):Option Bool:=
 (au (ByteArray.toList s0==ByteArray.toList ByteArray.empty)
 (some true)
 (some (decide (((ByteArray.size s0:Nat):Int)>16))):Option Bool).bind fun x_1=>
 (au x_1
 (some true)
 ((gO s0 0).bind fun x_2=>
 (iD x_2).bind fun x_3=>
 some (!x_3)):Option Bool).bind fun x_4=>
 au x_4
 (some false)
 (cZ.W1 s0 ((ByteArray.size s0:Nat):Int) 0)
open cZ in
instance Nv (s0:ByteArray):Fc Sy cL (cZ s0):=Fc.M 152 [.str s0] (aT 11 4 [6] 10 (aJ 11 6 (aA 4) (aA 4)) fun x_1=>aT 1 5 [11] 16 (aJ 1 11 (aA 5) (vQ 1 .i64 fun x_2 _=>aK 0 fun x_3 _=>aA 2)) fun x_4=>aJ 2 16 aj (cq 13 (fun qW1=>(aR [(0,.v (.str s0)),Iv 18 ((ByteArray.size s0:Nat):Int),Iv 19 qW1] [])) (fun eW1=>(0,(aR [] []))) (fun eW1=>(aR [Bv 2 false] [])) (fun qW1=>aJ 7 20 (vQ 15 .i64 fun x_5 _=>aK 0 fun x_6 _=>aT 2 6 [27] 33 (cG 2 27 (aA 6) (vQ 2 .i64 fun x_7 _=>aK 0 fun x_8 _=>aA 2)) fun x_9=>aT 1 5 [3,34] 39 (aJ 1 34 (vQ 2 .i64 fun x_10 _=>aA 2) (aA 5)) fun x_11=>aJ 2 39 aj aj) aj) (fun eW1=>aj) (fun eW1=>aj)))
def e_ (y0 v1:bt):Option Bool:=
 some (ByteArray.toList y0.name==ByteArray.toList v1.name)
instance D8 (y0 v1:bt):Fc Sy cL (e_ y0 v1):=Fc.M 154 [enc y0,.fptr (cells v1)] (ct 2 2 y0 aj)
namespace ec
def aD (s0:Sl bt) (v7:Int) (v8:Int) (p1:bt→Option Bool):Option (Fw Int Unit Int):=
 au (decide (v8<v7))
 ((idx s0 v8).bind fun x_1=>
 (p1 x_1).bind fun x_2=>
 au x_2
 (some (.r v8))
 (some (.n (IntKind.wrap .i64 (v8+1)))))
 (some (.x ()))
def W1 (s0:Sl bt) (v7 v8:Int) (p1:bt→Option Bool):Option Int:=
 (aW (fun q:Int=>aD s0 v7 q p1) v8).bind (Fw.elim
 (fun e=>some (-1))
 (fun e=>some e))
end ec
def ec (s0:Sl bt) (p1:bt→Option Bool):Option Int:=
 ec.W1 s0 (len s0) 0 p1
open ec in
abbrev sY (g1:FuncId) (e1:List V) (p1:bt→Option Bool) (h1:iW Sy cL g1 e1 (fun z:bt=>[enc z]) (fun r:Bool=>[.bool r]) p1) (s0:Sl bt):Fc Sy cL (ec s0 p1):=Fc.M 188 [enc s0,.clo g1 [] e1] (aZ 9 s0 (cq 5 (fun qW1=>(aR [Cv 0 s0,(1,.v (.clo g1 [] e1)),Iv 7 (len s0),Iv 8 qW1] [])) (fun eW1=>(0,(aR [] []))) (fun eW1=>(aR [Iv 4 eW1] [])) (fun qW1=>aJ 7 9 (bn 16 fun x_1 _=>rN 1 h1.f x_1 fun x_2 _=>aJ 2 16 aj aj) aj) (fun eW1=>aj) (fun eW1=>aj))) (l:=by simp[h1.d])
def fF (s0:Sl bt) (p1:bt→Option Bool):Option Bool:=
 (ec s0 p1).bind fun x_1=>
 some (decide (x_1≥0))
abbrev rz (g1:FuncId) (e1:List V) (p1:bt→Option Bool) (h1:iW Sy cL g1 e1 (fun z:bt=>[enc z]) (fun r:Bool=>[.bool r]) p1) (s0:Sl bt):Fc Sy cL (fF s0 p1):=Fc.M 153 [enc s0,.clo g1 [] e1] (aK (F:=sY g1 e1 p1 h1 s0) 9 fun x_1 _=>aj) (l:=by simp[h1.d])
def fh (w0 v1:Var):Option Bool:=
 some (ByteArray.toList w0.name==ByteArray.toList v1.name)
instance D7 (w0 v1:Var):Fc Sy cL (fh w0 v1):=Fc.M 155 [enc w0,.fptr (cells v1)] (aj)
namespace bX
def aD (v32:Sl Var) (v33:Int) (xb5:bt) (v34:Int):Option (Fw Int Unit Int):=
 au (decide (v34<v33))
 ((idx v32 v34).bind fun x_6=>
 (cZ x_6.name).bind fun x_7=>
 (au x_7
 ((gy xb5.vars none (some v34)).bind fun x_8=>
 (ey x_8 (fun z=>fh z x_6)).bind fun x_9=>
 some x_9)
 (some true):Option Bool).bind fun x_10=>
 au x_10
 (some (.r 13))
 ((jU x_6.init_ (-1073741824) 1073741824).bind fun x_11=>
 au x_11
 (some (.n (IntKind.wrap .i64 (v34+1))))
 (some (.r 2))))
 (some (.x ()))
def W1 (v32:Sl Var) (v33 v34:Int) (xb5:bt):Option Int:=
 (aW (fun q:Int=>aD v32 v33 xb5 q) v34).bind (Fw.elim
 (fun e=>au (decide ((len xb5.events)>64))
 (some 5)
 (some 0))
 (fun e=>some e))
end bX
def bX (t0:Trace) (p1:Int):Option Int:=
 (idx t0.procs p1).bind fun x_1=>
 (cZ x_1.name).bind fun x_2=>
 (au x_2
 ((gy t0.procs none (some p1)).bind fun x_3=>
 (fF x_3 (fun z=>e_ z x_1)).bind fun x_4=>
 some x_4)
 (some true):Option Bool).bind fun x_5=>
 au x_5
 (some 13)
 (au (decide ((len x_1.vars)>8))
 (some 5)
 (bX.W1 x_1.vars (len x_1.vars) 0 x_1))
open bX in
instance Gw (t0:Trace) (p1:Int):Fc Sy cL (bX t0 p1):=Fc.M 118 [enc t0,.int .i64 p1] (ct 2 2 t0 (bn 8 fun x_1 _=>ov 2 5 0 x_1 (aK 8 fun x_2 _=>aT 2 7 [1,2,18] 25 (cG 2 18 (Ge 3 false true [.int .i64 p1] fun x_3 _=>iU (F:=rz 154 [.fptr (cells x_1)] (fun z=>e_ z x_1) iW.qT x_3) 1 fun x_4 _=>aA 1) (aA 7)) fun x_5=>aJ 3 13 aj (aZ 5 x_1.vars (aJ 4 26 aj (aZ 9 x_1.vars (cq 5 (fun qW1=>(aR [Pv 5,Cv 32 x_1.vars,Iv 33 (len x_1.vars),Iv 34 qW1] [Xb 5 x_1])) (fun eW1=>(1,(aR [Pv 5] [Xb 5 x_1]))) (fun eW1=>(aR [Iv 4 eW1] [])) (fun qW1=>aJ 7 35 (bn 8 fun x_6 _=>aK 11 fun x_7 _=>aT 2 7 [6,44] 51 (cG 2 44 (Ge 3 false true [.int .i64 qW1] fun x_8 _=>iU (F:=lG 155 [.fptr (cells x_6)] (fun z=>fh z x_6) iW.qT x_8) 1 fun x_9 _=>aA 1) (aA 7)) fun x_10=>aJ 3 39 aj (aK 5 fun x_11 _=>cG 4 52 aj aj)) aj) (fun eW1=>aZ 7 x_1.events (aJ 3 61 aj aj)) (fun eW1=>aj))))))))
def gi (t0:Trace):Option Trace:=
 some t0
instance OE (t0:Trace):Fc Sy cL (gi t0):=Fc.NE (fun r:Trace=>[(.clo 156 [] [.fptr (cells r)])]) 119 [enc t0] (ct 2 1 t0 aj)
namespace dA
def J1 (p1:Int) (v19:Bool) (tb3:Trace) (eb5:Event):Option Bool:=
 au v19
 ((jU eb5.peer 0 (IntKind.wrap .i64 ((len tb3.procs)-1))).bind fun x_2=>
 (au x_2
 (some (!(eb5.peer==p1)))
 (some false):Option Bool).bind fun x_3=>
 (au x_3
 ((jU eb5.message 0 199).bind fun x_4=>
 some x_4)
 (some false):Option Bool).bind fun x_5=>
 some x_5)
 (some false)
end dA
def dA (t0:Trace) (p1:Int) (e2:Event):Option Bool:=
 au (e2.kind==1)
 ((au (e2.peer==0)
 (some (e2.message==0))
 (some false):Option Bool).bind fun x_1=>
 some x_1)
 (au (e2.kind==2)
 (dA.J1 p1 true t0 e2)
 (dA.J1 p1 (e2.kind==3) t0 e2))
open dA in
instance ND (t0:Trace) (p1:Int) (e2:Event):Fc Sy cL (dA t0 p1 e2):=Fc.M 157 [enc t0,.int .i64 p1,enc e2] (ct 2 3 t0 (ct 0 5 e2 (aJ 17 9 (aT 7 4 [5,14] 18 (aJ 7 14 (aA 4) (aA 4)) fun x_1=>aj) (aJ 8 19 (AQ 4 (aJ 0 19 (aZ 7 t0.procs (aK 1 fun x_2 _=>aT 1 5 [1,29] 34 (aJ 1 29 (aA 5) (aA 5)) fun x_3=>aT 1 4 [5,35] 39 (aJ 1 35 (aK 2 fun x_4 _=>aA 1) (aA 4)) fun x_5=>aj)) aj)) (AQ 7 (aJ 0 19 (aZ 7 t0.procs (aK 1 fun x_2 _=>aT 1 5 [1,29] 34 (aJ 1 29 (aA 5) (aA 5)) fun x_3=>aT 1 4 [5,35] 39 (aJ 1 35 (aK 2 fun x_4 _=>aA 1) (aA 4)) fun x_5=>aj)) aj))))))
def fV (b0 v1:Assign):Option Bool:=
 some (b0.var==v1.var)
instance EI (b0 v1:Assign):Fc Sy cL (fV b0 v1):=Fc.M 159 [enc b0,.fptr (cells v1)] (aj)
namespace dI
def aD (s0:Sl Assign) (v7:Int) (v8:Int) (p1:Assign→Option Bool):Option (Fw Int Unit Int):=
 au (decide (v8<v7))
 ((idx s0 v8).bind fun x_1=>
 (p1 x_1).bind fun x_2=>
 au x_2
 (some (.r v8))
 (some (.n (IntKind.wrap .i64 (v8+1)))))
 (some (.x ()))
def W1 (s0:Sl Assign) (v7 v8:Int) (p1:Assign→Option Bool):Option Int:=
 (aW (fun q:Int=>aD s0 v7 q p1) v8).bind (Fw.elim
 (fun e=>some (-1))
 (fun e=>some e))
end dI
def dI (s0:Sl Assign) (p1:Assign→Option Bool):Option Int:=
 dI.W1 s0 (len s0) 0 p1
open dI in
abbrev rR (g1:FuncId) (e1:List V) (p1:Assign→Option Bool) (h1:iW Sy cL g1 e1 (fun z:Assign=>[enc z]) (fun r:Bool=>[.bool r]) p1) (s0:Sl Assign):Fc Sy cL (dI s0 p1):=Fc.M 189 [enc s0,.clo g1 [] e1] (aZ 9 s0 (cq 5 (fun qW1=>(aR [Cv 0 s0,(1,.v (.clo g1 [] e1)),Iv 7 (len s0),Iv 8 qW1] [])) (fun eW1=>(0,(aR [] []))) (fun eW1=>(aR [Iv 4 eW1] [])) (fun qW1=>aJ 7 9 (bn 16 fun x_1 _=>rN 1 h1.f x_1 fun x_2 _=>aJ 2 16 aj aj) aj) (fun eW1=>aj) (fun eW1=>aj))) (l:=by simp[h1.d])
def eN (s0:Sl Assign) (p1:Assign→Option Bool):Option Bool:=
 (dI s0 p1).bind fun x_1=>
 some (decide (x_1≥0))
abbrev qj (g1:FuncId) (e1:List V) (p1:Assign→Option Bool) (h1:iW Sy cL g1 e1 (fun z:Assign=>[enc z]) (fun r:Bool=>[.bool r]) p1) (s0:Sl Assign):Fc Sy cL (eN s0 p1):=Fc.M 158 [enc s0,.clo g1 [] e1] (aK (F:=rR g1 e1 p1 h1 s0) 9 fun x_1 _=>aj) (l:=by simp[h1.d])
namespace bA
def bg (v52:Sl Assign) (v53:Int) (eb5:Event) (xb7:bt) (v54:Int):Option (Fw Int Unit Int):=
 au (decide (v54<v53))
 ((idx v52 v54).bind fun x_6=>
 (jU x_6.var 0 (IntKind.wrap .i64 ((len xb7.vars)-1))).bind fun x_7=>
 (au x_7
 ((jU x_6.value (-1073741824) 1073741824).bind fun x_8=>
 some (!x_8))
 (some true):Option Bool).bind fun x_9=>
 au x_9
 (some (.r 2))
 ((gy eb5.assign none (some v54)).bind fun x_10=>
 (eN x_10 (fun z=>fV z x_6)).bind fun x_11=>
 au x_11
 (some (.r 8))
 (some (.n (IntKind.wrap .i64 (v54+1))))))
 (some (.x ()))
def W2 (v52:Sl Assign) (v53 v54:Int) (eb5:Event) (xb7:bt):Option Int:=
 (aW (fun q:Int=>bg v52 v53 eb5 xb7 q) v54).bind (Fw.elim
 (fun e=>some 0)
 (fun e=>some e))
def J1 (last8:Int) (tb3:Trace) (idb4:aa) (eb5:Event) (xb7:bt):Option Int:=
 (dA tb3 idb4.proc eb5).bind fun x_3=>
 au x_3
 ((jU eb5.time 0 1099511627776).bind fun x_4=>
 (au x_4
 (some (decide (eb5.time<last8)))
 (some true):Option Bool).bind fun x_5=>
 au x_5
 (some 11)
 (au (decide ((len eb5.assign)>8))
 (some 5)
 (bA.W2 eb5.assign (len eb5.assign) 0 eb5 xb7)))
 (some 3)
theorem s_ (last8:Int) (tb3:Trace) (idb4:aa) (eb5:Event) (xb7:bt):Le ((J1 last8 tb3 idb4 eb5 xb7).bind (fun r=>some [.int .i64 r])) (bN Sy cL (nQ (tr Tx 120)) (ru (tb Tx 120) [1,1,1,1,0] [] (aR [Pv 3,Pv 4,Pv 5,Pv 7,Iv 8 last8] [Xb 3 tb3,Xb 4 idb4,Xb 5 eb5,Xb 7 xb7]))):=
 aK 8 fun x_3 _=>cG 4 28 (aK 5 fun x_4 _=>aT 2 5 [8,40] 45 (cG 2 40 (aA 5) (aA 5)) fun x_5=>aJ 3 35 aj (aZ 5 eb5.assign (aJ 4 46 aj (aZ 9 eb5.assign (cq 5 (fun qW2=>(aR [Pv 5,Pv 7,Cv 52 eb5.assign,Iv 53 (len eb5.assign),Iv 54 qW2] [Xb 5 eb5,Xb 7 xb7])) (fun eW2=>(1,(aR [] []))) (fun eW2=>(aR [Iv 6 eW2] [])) (fun qW2=>aJ 7 55 (bn 8 fun x_6 _=>aZ 13 xb7.vars (aK 1 fun x_7 _=>aT 2 5 [68] 73 (cG 2 68 (aK 2 fun x_8 _=>aA 2) (aA 5)) fun x_9=>aJ 3 59 aj (Ge 6 false true [.int .i64 qW2] fun x_10 _=>iU (F:=qj 159 [.fptr (cells x_6)] (fun z=>fV z x_6) iW.qT x_10) 1 fun x_11 _=>aJ 3 74 aj aj))) aj) (fun eW2=>aj) (fun eW2=>aj)))))) aj
end bA
def bA (t0:Trace) (id1:aa) (e2:Event):Option Int:=
 (idx t0.procs id1.proc).bind fun x_1=>
 au (decide (id1.index>1))
 ((idx x_1.events (IntKind.wrap .i64 (id1.index-2))).bind fun x_2=>
 bA.J1 x_2.time t0 id1 e2 x_1)
 (bA.J1 0 t0 id1 e2 x_1)
open bA in
instance HV (t0:Trace) (id1:aa) (e2:Event):Fc Sy cL (bA t0 id1 e2):=Fc.M 120 [enc t0,enc id1,enc e2] (ct 2 3 t0 (ct 1 5 e2 (bn 9 fun x_1 _=>ov 2 7 0 x_1 (aJ 15 19 (bn 7 fun x_2 _=>AH 6 (s_ x_2.time t0 id1 e2 x_1)) (AH 4 (s_ 0 t0 id1 e2 x_1))))))
def mJ (e0:Event) (v1 v2:Int):Option Bool:=
 (au (e0.kind==2)
 (some (e0.message==v1))
 (some false):Option Bool).bind fun x_1=>
 (au x_1
 (some (e0.peer==v2))
 (some false):Option Bool).bind fun x_2=>
 some x_2
instance Km (e0:Event) (v1 v2:Int):Fc Sy cL (mJ e0 v1 v2):=Fc.M 190 [enc e0,.fptr (cells v1),.fptr (cells v2)] (ct 2 3 e0 (aT 9 5 [1,8] 13 (aJ 9 8 (aA 5) (aA 5)) fun x_1=>aT 1 5 [2,3,14] 19 (aJ 1 14 (aA 5) (aA 5)) fun x_2=>aj))
def qo (t0:Trace) (p1 m2 to_3:Int):Option Bool:=
 (idx t0.procs p1).bind fun x_1=>
 (eY x_1.events (fun z=>mJ z m2 to_3)).bind fun x_2=>
 some x_2
instance Qn (t0:Trace) (p1 m2 to_3:Int):Fc Sy cL (qo t0 p1 m2 to_3):=Fc.M 160 [enc t0,.int .i64 p1,.int .i64 m2,.int .i64 to_3] (ct 2 4 t0 (bn 10 fun x_1 _=>iU (F:=ko 190 [.fptr (cells m2),.fptr (cells to_3)] (fun z=>mJ z m2 to_3) iW.qT x_1.events) 3 fun x_2 _=>aj))
namespace cW
def mK (vk0_12 tb1:Trace) (vb2:Option (bq 200 aH)) (vb3:aa) (vb4:Int) (x:aa×Event) (vb10:bq 200 aH):Option (Fw (bq 200 aH) Empty (aa×Int×(bq 200 aH))):=
 au (x.2.kind==2)
 ((bq.at vb10 x.2.message).bind fun x_2=>
 au (decide (x_2.from_.index>0))
 (some (.r (x.1,8,vb10)))
 ((bq.at vb10 x.2.message).bind fun x_3=>
 some (.n (bq.set vb10 x.2.message (⟨x.1,x_3.to_⟩:aH)))))
 (au (x.2.kind==3)
 ((bq.at vb10 x.2.message).bind fun x_4=>
 au (decide (x_4.to_.index>0))
 (some (.r (x.1,8,vb10)))
 ((qo tb1 x.2.peer x.2.message x.1.proc).bind fun x_5=>
 au x_5
 ((bq.at vb10 x.2.message).bind fun x_6=>
 some (.n (bq.set vb10 x.2.message (⟨x_6.from_,x.1⟩:aH))))
 (some (.r (x.1,7,vb10)))))
 (some (.n vb10)))
def E1 (vk0_12 tb1:Trace) (vb2:Option (bq 200 aH)) (vb3:aa) (vb4:Int) (vb10:bq 200 aH):Option ((Option (bq 200 aH))×aa×Int):=
 (gb vk0_12).bind fun its=>(kH (fun (x:aa×Event) (q:bq 200 aH)=>mK vk0_12 tb1 vb2 vb3 vb4 x q) its vb10).bind (Fw.tH
 (fun q=>some (some q,⟨0,0⟩,0))
 (fun e=>Empty.elim e)
 (fun e=>some ((none:Option (bq 200 aH)),e.1,e.2.1)))
end cW
def cW (t0:Trace):Option ((Option (bq 200 aH))×aa×Int):=
 (gi t0).bind fun x_1=>
 cW.E1 x_1 t0 (none:Option (bq 200 aH)) (⟨0,0⟩:aa) 0 (bq.Iq 200 (⟨⟨0,0⟩,⟨0,0⟩⟩:aH))
open cW in
instance Gp (t0:Trace):Fc Sy cL (cW t0):=Fc.N 121 [enc t0] (ct 2 1 t0 (ct 8 10 (bq.Iq 200 (⟨⟨0,0⟩,⟨0,0⟩⟩:aH)) (S9 0 5 (aR [Pv 1,Pv 2,Pv 3,Pv 4,Pv 10] [Xb 1 t0,(2,.box [cv (none:Option (bq 200 aH))]),Xb 3 (⟨0,0⟩:aa),(4,.box [iv 0]),Xb 10 (bq.Iq 200 (⟨⟨0,0⟩,⟨0,0⟩⟩:aH))]) [cv (none:Option (bq 200 aH))] (by simp only[aR,uu,mA,nY,mq,oC,qg,nW,pX,mL,nX,uH,pW,pL,qf,pO,rU,rX,oq,qc];rfl) (aK 7 fun x_1 _=>Hy fun its hits=>Cp 4 [Pv 1,Pv 2,Pv 3,Pv 4,Pv 5,(12,.v (.clo 156 [] [.fptr (cells x_1)]))] (fun qE1=>[Xb 1 t0,(2,.box [cv (none:Option (bq 200 aH))]),Xb 3 (⟨0,0⟩:aa),(4,.box [iv 0]),(5,.box [.ptr 10 0]),Xb 10 qE1]) (fun eE1=>Empty.elim eE1) (fun eE1=>[Xb 1 t0,(2,.box [cv (none:Option (bq 200 aH))]),Xb 3 eE1.1,(4,.box [iv eE1.2.1]),(5,.box [.ptr 10 0]),Xb 10 eE1.2.2]) (uO x_1 its hits) (fun xE1 qE1=>S9 2 6 ⟨[Pv 1,Pv 2,Pv 3,Pv 4,Pv 5,(12,.v (.clo 156 [] [.fptr (cells x_1)])),Cv 13 xE1.1,Cv 14 xE1.2],[Xb 1 t0,(2,.box [cv (none:Option (bq 200 aH))]),Xb 3 (⟨0,0⟩:aa),(4,.box [iv 0]),(5,.box [.ptr 10 0]),Xb 10 qE1],[1,2,3,4,5],[],true,0⟩ [iv 0,iv 0] (by simp only[aR,uu,mA,nY,mq,oC,qg,nW,pX,mL,nX,uH,pW,pL,qf,pO,rU,rX,oq,qc];rfl) (S9 4 7 ⟨[Pv 1,Pv 2,Pv 3,Pv 4,Pv 5,(12,.v (.clo 156 [] [.fptr (cells x_1)])),Cv 14 xE1.2,Pv 6],[Xb 1 t0,(2,.box [cv (none:Option (bq 200 aH))]),Xb 3 (⟨0,0⟩:aa),(4,.box [iv 0]),(5,.box [.ptr 10 0]),Xb 10 qE1,Xb 6 xE1.1],[1,2,3,4,5],[],true,0⟩ [iv 0,iv 0,iv 0,iv 0,.v .aG] (by simp only[aR,uu,mA,nY,mq,oC,qg,nW,pX,mL,nX,uH,pW,pL,qf,pO,rU,rX,oq,qc];rfl) (ov 0 7 0 xE1.2 (Ab 1 (aJ 22 19 (Ce 7 .i64 10 fun x_2 h_2=>L6 2 1 false 10 qE1 xE1.2.message 1 x_2 h_2 (.int .i64 x_2.from_.index) (by rfl) (aJ 3 28 aj (Ce 8 .i64 10 fun x_3 h_3=>MH 1 2 10 qE1 xE1.2.message 0 x_3 h_3 (⟨xE1.1,x_3.to_⟩:aH) (enc xE1.1) (by rfl) aj))) (aJ 7 36 (Ce 7 .i64 10 fun x_4 h_4=>L6 2 1 false 10 qE1 xE1.2.message 3 x_4 h_4 (.int .i64 x_4.to_.index) (by rfl) (aJ 3 45 aj (aK 12 fun x_5 _=>cG 3 54 (Ce 8 .i64 10 fun x_6 h_6=>MH 1 2 10 qE1 xE1.2.message 2 x_6 h_6 (⟨x_6.from_,xE1.1⟩:aH) (enc xE1.1) (by rfl) aj) aj))) aj)))))) (fun qE1=>WQ 13 (aR [Pv 2,Pv 3,Pv 4] [(2,.box [.ptr 10 0]),Xb 3 (⟨0,0⟩:aa),(4,.box [iv 0]),Xb 10 qE1]) [.ptr 10 0,cv (⟨0,0⟩:aa),iv 0] (MO (d:=10) (x:=qE1) (vs:=[enc (⟨0,0⟩:aa),.int .i64 0]) (by kernel_rfl)) (by kernel_rfl)) (fun x=>Empty.elim x) (fun eE1=>aj)))))
namespace fW
def J1 (lq1:bq 200 aH) (out7:Sl aa) (p8:Sl Event) (xb5:aa):Option (Sl aa):=
 (idx p8 (IntKind.wrap .i64 (xb5.index-1))).bind fun x_2=>
 (au (x_2.kind==2)
 ((bq.at lq1 x_2.message).bind fun x_3=>
 some (decide (x_3.to_.index>0)))
 (some false):Option Bool).bind fun x_4=>
 au x_4
 ((bq.at lq1 x_2.message).bind fun x_5=>
 (kB out7 (x_5.to_:aa)).bind fun x_6=>
 some x_6)
 (some out7)
theorem s_ (lq1:bq 200 aH) (out7:Sl aa) (p8:Sl Event) (xb5:aa):Le ((J1 lq1 out7 p8 xb5).bind (fun r=>some [enc r])) (bN Sy cL (nQ (tr Tx 161)) (ru (tb Tx 161) [1,1,1,1,0,0] [] (aR [Kv 1 lq1,Pv 5,Ov 7,Cv 8 p8] [Xb 5 xb5,Lb 2007 out7]))):=
 bn 7 fun x_2 _=>ov 2 9 0 x_2 (aT 8 10 [40] 50 (aJ 8 40 (Mz 4 .i64 fun x_3 h_3=>Lf 0 2 lq1 x_2.message 0 x_3 h_3 (Lf 0 1 lq1 x_2.message 2 x_3 h_3 (MC 0 1 false lq1 x_2.message 3 x_3 h_3 (.int .i64 x_3.to_.index) (by rfl) (aA 2)))) (aA 10)) fun x_4=>aJ 2 50 (Mz 7 .i64 fun x_5 h_5=>Lf 0 2 lq1 x_2.message 0 x_5 h_5 (MC 0 2 true lq1 x_2.message 2 x_5 h_5 (enc x_5.to_) (by rfl) (CT 1 2007 59 60 fun x_6 _=>aj))) aj)
end fW
def fW (t0:Trace) (l1:bq 200 aH) (x2:aa):Option (Sl aa):=
 (idx t0.procs x2.proc).bind fun x_1=>
 au (decide (x2.index<(len x_1.events)))
 (fW.J1 l1 (Sl.row [⟨x2.proc,IntKind.wrap .i64 (x2.index+1)⟩]:Sl aa) x_1.events x2)
 (fW.J1 l1 (Sl.nil:Sl aa) x_1.events x2)
open fW in
instance Qu (t0:Trace) (l1:bq 200 aH) (x2:aa):Fc Sy cL (fW t0 l1 x2):=Fc.N 161 [enc t0,.fptr (cells l1),enc x2] (ct 2 3 t0 (bn 15 fun x_1 _=>aZ 11 x_1.events (aJ 3 21 (MF 10 29 30 .aG (⟨x2.proc,IntKind.wrap .i64 (x2.index+1)⟩:aa) (AH 5 (s_ l1 (Sl.row [⟨x2.proc,IntKind.wrap .i64 (x2.index+1)⟩]:Sl aa) x_1.events x2))) (AH 5 (s_ l1 (Sl.nil:Sl aa) x_1.events x2)))))
namespace dM
def dw (vk0_13:Trace) (v36:Sl aa) (v37:Int) (tb2:Trace) (lb3:bq 200 aH) (vb4:aa) (vb5:Bool) (idb6:aa) (rest8:Sl aa) (v38:Int) (vb16:Mo aa Bool):Option (Fw ((Sl aa)×Int×(Mo aa Bool)) ((Sl aa)×(Mo aa Bool)) Unit):=
 au (decide (v38<v37))
 ((idx v36 v38).bind fun x_6=>
 au (FJ x_6 idb6)
 (some (.r ()))
 (au (AB vb16 x_6 false)
 (some (.n (rest8,IntKind.wrap .i64 (v38+1),vb16)))
 ((kB rest8 (x_6:aa)).bind fun x_7=>
 some (.n (x_7,IntKind.wrap .i64 (v38+1),nK vb16 x_6 true)))))
 (some (.x (rest8,vb16)))
def W3 (rest8:Sl aa) (vk0_13:Trace) (v36:Sl aa) (v37 v38:Int) (tb2:Trace) (lb3:bq 200 aH) (vb4:aa) (vb5:Bool) (idb6:aa) (vb16:Mo aa Bool):Option (Fw ((Sl aa)×(Mo aa Bool)) Unit Unit):=
 (aW (fun q:(Sl aa)×Int×(Mo aa Bool)=>dw vk0_13 v36 v37 tb2 lb3 vb4 vb5 idb6 q.1 q.2.1 q.2.2) (rest8,v38,vb16)).bind (Fw.elim
 (fun e=>some (.n (e.1,e.2)))
 (fun e=>some (.r ())))
def bg (vk0_13 tb2:Trace) (lb3:bq 200 aH) (vb4:aa) (vb5:Bool) (idb6:aa) (rest8:Sl aa) (vb16:Mo aa Bool):Option (Fw ((Sl aa)×(Mo aa Bool)) Unit Unit):=
 au (decide ((len rest8)>0))
 ((Sl.oR rest8 (IntKind.wrap .i64 ((len rest8)-1))).bind fun x_2=>
 (Sl.get rest8 x_2).bind fun x_3=>
 (kN rest8 none (some (IntKind.wrap .i64 ((len rest8)-1)))).bind fun x_4=>
 (fW tb2 lb3 x_3).bind fun x_5=>
 W3 x_4 vk0_13 x_5 (len x_5) 0 tb2 lb3 vb4 vb5 idb6 vb16)
 (some (.x ()))
def W2 (rest8:Sl aa) (vk0_13 tb2:Trace) (lb3:bq 200 aH) (vb4:aa) (vb5:Bool) (idb6:aa) (vb16:Mo aa Bool):Option (Fw Unit Empty aa):=
 (aW (fun q:(Sl aa)×(Mo aa Bool)=>bg vk0_13 tb2 lb3 vb4 vb5 idb6 q.1 q.2) (rest8,vb16)).bind (Fw.elim
 (fun e=>some (.n ()))
 (fun e=>some (.r idb6)))
def mK (vk0_13 tb2:Trace) (lb3:bq 200 aH) (vb4:aa) (vb5:Bool) (x:aa×Event):Option (Fw Unit Empty aa):=
 W2 (Sl.row [x.1]:Sl aa) vk0_13 tb2 lb3 vb4 vb5 x.1 []
def E1 (vk0_13 tb2:Trace) (lb3:bq 200 aH) (vb4:aa) (vb5:Bool):Option (aa×Bool):=
 (gb vk0_13).bind fun its=>(kH (fun (x:aa×Event) (q:Unit)=>mK vk0_13 tb2 lb3 vb4 vb5 x) its ()).bind (Fw.tH
 (fun q=>some (⟨0,0⟩,false))
 (fun e=>Empty.elim e)
 (fun e=>some (e,true)))
end dM
def dM (t0:Trace) (l1:bq 200 aH):Option (aa×Bool):=
 (gi t0).bind fun x_1=>
 dM.E1 x_1 t0 l1 (⟨0,0⟩:aa) false
open dM in
instance P4 (t0:Trace) (l1:bq 200 aH):Fc Sy cL (dM t0 l1):=Fc.M 122 [enc t0,.fptr (cells l1)] (ct 2 2 t0 (aK 9 fun x_1 _=>Hy fun its hits=>Cp 4 [Pv 2,Pv 3,Pv 4,Pv 5,(13,.v (.clo 156 [] [.fptr (cells x_1)]))] (fun qE1=>[Xb 2 t0,(3,.box [cp l1]),Xb 4 (⟨0,0⟩:aa),(5,.box [bv false])]) (fun eE1=>Empty.elim eE1) (fun eE1=>[Xb 2 t0,(3,.box [cp l1]),Xb 4 eE1,(5,.box [bv true])]) (uO x_1 its hits) (fun xE1 qE1=>Ab 4 (cq 18 (fun qW2=>⟨[Pv 2,Pv 3,Pv 4,Pv 5,Pv 6,(7,.mp 16),Ov 8,(13,.v (.clo 156 [] [.fptr (cells x_1)]))],[Xb 2 t0,(3,.box [cp l1]),Xb 4 (⟨0,0⟩:aa),(5,.box [bv false]),Xb 6 xE1.1,(16,sy qW2.2),Lb 2008 qW2.1],[2,3,4,5],[],true,0⟩) (fun eW2=>(2,⟨[Pv 2,Pv 3,Pv 4,Pv 5,(13,.v (.clo 156 [] [.fptr (cells x_1)]))],[Xb 2 t0,(3,.box [cp l1]),Xb 4 (⟨0,0⟩:aa),(5,.box [bv false])],[2,3,4,5],[],true,0⟩)) (fun eW2=>⟨[],[Xb 2 t0,(3,.box [cp l1]),Xb 4 xE1.1,(5,.box [bv true])],[2,3,4,5],[],true,0⟩) (fun qW2=>HC 6 2008 qW2.1 (aJ 3 21 (HC 8 2008 qW2.1 (tU .i64 1 2008 fun x_2 _=>za 0 2008 0 2 true (fun x_3=>.agg [.int .i64 x_3.proc,.int .i64 x_3.index]) fun x_3 _=>HC 8 2008 qW2.1 (Xe 1 false true 2008 32 [.int .i64 (IntKind.wrap .i64 ((len qW2.1)-1))] fun x_4 _=>aK 8 fun x_5 _=>aZ 0 x_5 (cq 6 (fun qW3=>⟨[Pv 2,Pv 3,Pv 4,Pv 5,Pv 6,(7,.mp 16),Ov 8,(13,.v (.clo 156 [] [.fptr (cells x_1)])),Cv 36 x_5,Iv 37 (len x_5),Iv 38 qW3.2.1],[Xb 2 t0,(3,.box [cp l1]),Xb 4 (⟨0,0⟩:aa),(5,.box [bv false]),Xb 6 xE1.1,(16,sy qW3.2.2),Lb 2008 qW3.1],[2,3,4,5],[],true,0⟩) (fun eW3=>(4,⟨[Pv 2,Pv 3,Pv 4,Pv 5,Pv 6,(7,.mp 16),Ov 8,(13,.v (.clo 156 [] [.fptr (cells x_1)]))],[Xb 2 t0,(3,.box [cp l1]),Xb 4 (⟨0,0⟩:aa),(5,.box [bv false]),Xb 6 xE1.1,(16,sy eW3.2),Lb 2008 eW3.1],[2,3,4,5],[],true,0⟩)) (fun eW3=>⟨[],[Xb 2 t0,(3,.box [cp l1]),Xb 4 xE1.1,(5,.box [bv true])],[2,3,4,5],[],true,0⟩) (fun qW3=>aJ 8 39 (bn 7 fun x_6 _=>aJ 13 44 aj (Ws 7 16 qW3.2.2 x_6 false (cG 3 49 aj (Za 5 16 qW3.2.2 x_6 true (CT 6 2008 54 55 fun x_7 _=>aj))))) aj) (fun eW3=>aj) (fun eW3=>aj))))) aj)) (fun eW2=>aj) (fun eW2=>aj))) (fun qE1=>aj) (fun x=>Empty.elim x) (fun eE1=>aj)))
namespace eS
def EN (vk0_36 tb1:Trace) (vb2:aa) (vb3:Int) (x:aa×Event):Option (Fw Unit Empty (aa×Int)):=
 (bA tb1 x.1 x.2).bind fun x_3=>
 au (x_3==0)
 (some (.n ()))
 (some (.r (x.1,x_3)))
def E2 (vk0_36 tb1:Trace) (vb2:aa) (vb3:Int):Option (aa×Int):=
 (gb vk0_36).bind fun its=>(kH (fun (x:aa×Event) (q:Unit)=>EN vk0_36 tb1 vb2 vb3 x) its ()).bind (Fw.tH
 (fun q=>(cW tb1).bind fun x_5=>
 au (x_5.2.2==0)
 ((x_5.1).bind fun x_6=>
 (dM tb1 x_6).bind fun x_7=>
 au x_7.2
 (some (x_7.1,10))
 (some (⟨0,0⟩,0)))
 (some (x_5.2.1,x_5.2.2)))
 (fun e=>Empty.elim e)
 (fun e=>some (e.1,e.2)))
def aD (v22:Int) (tb1:Trace) (vb2:aa) (vb3:Int) (v23:Int):Option (Fw Int Unit (aa×Int)):=
 au (decide (v23<v22))
 ((bX tb1 v23).bind fun x_2=>
 au (x_2==0)
 (some (.n (IntKind.wrap .i64 (v23+1))))
 (some (.r ((⟨v23,0⟩:aa),x_2))))
 (some (.x ()))
def W1 (v22 v23:Int) (tb1:Trace) (vb2:aa) (vb3:Int):Option (aa×Int):=
 (aW (fun q:Int=>aD v22 tb1 vb2 vb3 q) v23).bind (Fw.elim
 (fun e=>(gi tb1).bind fun x_4=>
 eS.E2 x_4 tb1 vb2 vb3)
 (fun e=>some (e.1,e.2)))
end eS
def eS (t0:Trace):Option (aa×Int):=
 (jU (len t0.procs) 1 8).bind fun x_1=>
 au x_1
 (eS.W1 (len t0.procs) 0 t0 (⟨0,0⟩:aa) 0)
 (some (⟨0,0⟩,1))
open eS in
instance QB (t0:Trace):Fc Sy cL (eS t0):=Fc.M 96 [enc t0] (ct 2 1 t0 (aZ 9 t0.procs (aK 0 fun x_1 _=>cG 3 18 (aZ 8 t0.procs (cq 5 (fun qW1=>(aR [Pv 1,Pv 2,Pv 3,Iv 22 (len t0.procs),Iv 23 qW1] [Xb 1 t0,Xb 2 (⟨0,0⟩:aa),(3,.box [iv 0])])) (fun eW1=>(0,(aR [Pv 1,Pv 2,Pv 3] [Xb 1 t0,Xb 2 (⟨0,0⟩:aa),(3,.box [iv 0])]))) (fun eW1=>(aR [Pv 2,Pv 3] [Xb 2 eW1.1,(3,.box [iv eW1.2])])) (fun qW1=>aJ 7 24 (aK 15 fun x_2 _=>cG 9 30 aj aj) aj) (fun eW1=>aK 6 fun x_4 _=>Hy fun its hits=>Cp 4 [Pv 1,Pv 2,Pv 3,(36,.v (.clo 156 [] [.fptr (cells x_4)]))] (fun qE2=>[Xb 1 t0,Xb 2 (⟨0,0⟩:aa),(3,.box [iv 0])]) (fun eE2=>Empty.elim eE2) (fun eE2=>[Xb 1 t0,Xb 2 eE2.1,(3,.box [iv eE2.2])]) (uO x_4 its hits) (fun xE2 qE2=>ov 8 7 0 xE2.2 (Ab 1 (aK 7 fun x_3 _=>cG 9 44 aj aj))) (fun qE2=>aK 5 fun x_5 _=>cG 17 54 (Y4 8 (fun oo=>(aR [Pv 2,Pv 3,(36,.v (.clo 156 [] [.fptr (cells x_4)])),Pv 10,Iv 11 x_5.2.2,Bv 54 false,Cv 58 t0,Cv 59 oo] [Xb 1 t0,Xb 2 (⟨0,0⟩:aa),(3,.box [iv 0]),Xb 10 x_5.2.1])) fun x_6 _=>aK 0 fun x_7 _=>aJ 13 63 aj aj) aj) (fun x=>Empty.elim x) (fun eE2=>aj)) (fun eW1=>aj))) aj)))
def bZ (t0:Trace):Option Bool:=
 (eS t0).bind fun x_1=>
 some (x_1.2==0)
instance Qw (t0:Trace):Fc Sy cL (bZ t0):=Fc.M 54 [enc t0] (ct 2 1 t0 (aK 6 fun x_1 _=>aj))
def dB (c0:Sl Int) (v1:Trace):Option Bool:=
 some (!((len c0)==(len v1.procs)))
instance N5 (c0:Sl Int) (v1:Trace):Fc Sy cL (dB c0 v1):=Fc.M 162 [enc c0,.fptr (cells v1)] (aZ 8 c0 (aZ 2 v1.procs aj))
def qZ (t0:Trace) (l1:Sl (Sl Int)):Option Bool:=
 (bZ t0).bind fun x_1=>
 (au x_1
 ((fC l1 (fun z=>dB z t0)).bind fun x_2=>
 some (!x_2))
 (some false):Option Bool).bind fun x_3=>
 some x_3
instance V4 (t0:Trace) (l1:Sl (Sl Int)):Fc Sy cL (qZ t0 l1):=Fc.M 123 [enc t0,enc l1] (ct 2 2 t0 (aK 6 fun x_1 _=>aT 1 5 [1,2,7] 12 (aJ 1 7 (iU (F:=kU 162 [.fptr (cells t0)] (fun z=>dB z t0) iW.qT l1) 2 fun x_2 _=>aA 2) (aA 5)) fun x_3=>aj))
namespace gF
def aD (v7:Sl Int) (v8:Int) (tb2:Trace) (v9:Int):Option (Fw Int Unit Unit):=
 au (decide (v9<v8))
 ((idx v7 v9).bind fun x_1=>
 (au (decide (x_1<0))
 (some true)
 ((idx tb2.procs v9).bind fun x_2=>
 some (decide (x_1>(len x_2.events)))):Option Bool).bind fun x_3=>
 au x_3
 (some (.r ()))
 (some (.n (IntKind.wrap .i64 (v9+1)))))
 (some (.x ()))
def W1 (v7:Sl Int) (v8 v9:Int) (tb2:Trace):Option Bool:=
 (aW (fun q:Int=>aD v7 v8 tb2 q) v9).bind (Fw.elim
 (fun e=>some true)
 (fun e=>some false))
end gF
def gF (t0:Trace) (c1:Sl Int):Option Bool:=
 gF.W1 c1 (len c1) 0 t0
open gF in
instance QE (t0:Trace) (c1:Sl Int):Fc Sy cL (gF t0 c1):=Fc.M 124 [enc t0,enc c1] (ct 2 2 t0 (aZ 7 c1 (cq 5 (fun qW1=>(aR [Pv 2,Cv 7 c1,Iv 8 (len c1),Iv 9 qW1] [Xb 2 t0])) (fun eW1=>(0,(aR [] []))) (fun eW1=>(aR [Bv 4 false] [])) (fun qW1=>aJ 7 10 (bn 8 fun x_1 _=>aT 10 10 [5,6,16] 26 (aJ 10 16 (aA 10) (bn 4 fun x_2 _=>aZ 2 x_2.events (aA 2))) fun x_3=>aJ 2 26 aj aj) aj) (fun eW1=>aj) (fun eW1=>aj))))
def qx (t0:Trace) (p1:Int):Option Bool:=
 (au (decide (p1≥0))
 (some (decide (p1<(len t0.procs))))
 (some false):Option Bool).bind fun x_1=>
 some x_1
instance Qr (t0:Trace) (p1:Int):Fc Sy cL (qx t0 p1):=Fc.M 125 [enc t0,.int .i64 p1] (ct 2 2 t0 (aT 8 6 [1,2,7] 13 (aJ 8 7 (aZ 3 t0.procs (aA 2)) (aA 6)) fun x_1=>aj))
namespace fJ
def mK (vk0_15:Trace) (kindb4 mb5:Int) (vb6:aa) (vb7:Bool) (x:aa×Event):Option (Fw Unit Empty aa):=
 (au (x.2.kind==kindb4)
 (some (x.2.message==mb5))
 (some false):Option Bool).bind fun x_3=>
 au x_3
 (some (.r x.1))
 (some (.n ()))
def E1 (vk0_15:Trace) (kindb4 mb5:Int) (vb6:aa) (vb7:Bool):Option (aa×Bool):=
 (gb vk0_15).bind fun its=>(kH (fun (x:aa×Event) (q:Unit)=>mK vk0_15 kindb4 mb5 vb6 vb7 x) its ()).bind (Fw.tH
 (fun q=>some (⟨0,0⟩,false))
 (fun e=>Empty.elim e)
 (fun e=>some (e,true)))
end fJ
def fJ (t0:Trace) (kind1 m2:Int):Option (aa×Bool):=
 (bZ t0).bind fun x_1=>
 au x_1
 ((gi t0).bind fun x_2=>
 fJ.E1 x_2 kind1 m2 (⟨0,0⟩:aa) false)
 (some (⟨0,0⟩,false))
open fJ in
instance RI (t0:Trace) (kind1 m2:Int):Fc Sy cL (fJ t0 kind1 m2):=Fc.M 191 [enc t0,.int .i64 kind1,.int .i64 m2] (ct 2 3 t0 (aK 10 fun x_1 _=>cG 3 12 (aK 7 fun x_2 _=>Hy fun its hits=>Cp 4 [Pv 4,Pv 5,Pv 6,Pv 7,(15,.v (.clo 156 [] [.fptr (cells x_2)]))] (fun qE1=>[(4,.box [iv kind1]),(5,.box [iv m2]),Xb 6 (⟨0,0⟩:aa),(7,.box [bv false])]) (fun eE1=>Empty.elim eE1) (fun eE1=>[(4,.box [iv kind1]),(5,.box [iv m2]),Xb 6 eE1,(7,.box [bv true])]) (uO x_2 its hits) (fun xE1 qE1=>ov 8 9 0 xE1.2 (Ab 1 (aT 9 5 [9,22] 27 (aJ 9 22 (aA 5) (aA 5)) fun x_3=>aJ 2 27 aj aj))) (fun qE1=>aj) (fun x=>Empty.elim x) (fun eE1=>aj)) aj))
def pE (t0:Trace) (m1:Int):Option (aa×Bool):=
 (fJ t0 2 m1).bind fun x_1=>
 some (x_1.1,x_1.2)
instance Pk (t0:Trace) (m1:Int):Fc Sy cL (pE t0 m1):=Fc.M 163 [enc t0,.int .i64 m1] (ct 2 2 t0 (aK 8 fun x_1 _=>aj))
namespace eR
def bg (c1:Sl Int) (p7:Int) (v13:Sl Int) (v14 v15:Int) (v27:Sl Event) (v28:Int) (tb2:Trace) (sendb4 receiveb5:aa) (v29:Int):Option (Fw Int Unit (aa×aa)):=
 au (decide (v29<v28))
 ((idx v27 v29).bind fun x_4=>
 au (x_4.kind==3)
 ((pE tb2 x_4.message).bind fun x_5=>
 (idx c1 x_5.1.proc).bind fun x_6=>
 au (decide (x_5.1.index>x_6))
 (some (.r (x_5.1,(⟨p7,IntKind.wrap .i64 (v29+1)⟩:aa))))
 (some (.n (IntKind.wrap .i64 (v29+1)))))
 (some (.n (IntKind.wrap .i64 (v29+1)))))
 (some (.x ()))
def W2 (c1:Sl Int) (p7:Int) (v13:Sl Int) (v14 v15:Int) (v27:Sl Event) (v28 v29:Int) (tb2:Trace) (sendb4 receiveb5:aa):Option (Fw Int Unit (aa×aa)):=
 (aW (fun q:Int=>bg c1 p7 v13 v14 v15 v27 v28 tb2 sendb4 receiveb5 q) v29).bind (Fw.elim
 (fun e=>some (.n (IntKind.wrap .i64 (v15+1))))
 (fun e=>some (.r (e.1,e.2))))
def aD (c1 v13:Sl Int) (v14:Int) (tb2:Trace) (sendb4 receiveb5:aa) (v15:Int):Option (Fw Int Unit (aa×aa)):=
 au (decide (v15<v14))
 ((idx v13 v15).bind fun x_1=>
 (idx tb2.procs v15).bind fun x_2=>
 (gy x_2.events none (some x_1)).bind fun x_3=>
 W2 c1 v15 v13 v14 v15 x_3 (len x_3) 0 tb2 sendb4 receiveb5)
 (some (.x ()))
def W1 (c1 v13:Sl Int) (v14 v15:Int) (tb2:Trace) (sendb4 receiveb5:aa):Option (aa×aa×Bool):=
 (aW (fun q:Int=>aD c1 v13 v14 tb2 sendb4 receiveb5 q) v15).bind (Fw.elim
 (fun e=>some (⟨0,0⟩,⟨0,0⟩,false))
 (fun e=>some (e.1,e.2,true)))
end eR
def eR (t0:Trace) (c1:Sl Int):Option (aa×aa×Bool):=
 eR.W1 c1 c1 (len c1) 0 t0 (⟨0,0⟩:aa) (⟨0,0⟩:aa)
open eR in
instance Qo (t0:Trace) (c1:Sl Int):Fc Sy cL (eR t0 c1):=Fc.M 127 [enc t0,enc c1] (ct 2 2 t0 (aZ 9 c1 (cq 5 (fun qW1=>(aR [Cv 1 c1,Pv 2,Pv 4,Pv 5,Cv 13 c1,Iv 14 (len c1),Iv 15 qW1] [Xb 2 t0,Xb 4 (⟨0,0⟩:aa),Xb 5 (⟨0,0⟩:aa)])) (fun eW1=>(0,(aR [Pv 4,Pv 5] [Xb 4 (⟨0,0⟩:aa),Xb 5 (⟨0,0⟩:aa)]))) (fun eW1=>(aR [Pv 4,Pv 5,Bv 6 true] [Xb 4 eW1.1,Xb 5 eW1.2])) (fun qW1=>aJ 7 16 (bn 8 fun x_1 _=>bn 10 fun x_2 _=>Ge 3 false true [.int .i64 x_1] fun x_3 _=>aZ 0 x_3 (cq 5 (fun qW2=>(aR [Cv 1 c1,Pv 2,Pv 4,Pv 5,Iv 7 qW1,Cv 13 c1,Iv 14 (len c1),Iv 15 qW1,Cv 27 x_3,Iv 28 (len x_3),Iv 29 qW2] [Xb 2 t0,Xb 4 (⟨0,0⟩:aa),Xb 5 (⟨0,0⟩:aa)])) (fun eW2=>(2,(aR [Cv 1 c1,Pv 2,Pv 4,Pv 5,Cv 13 c1,Iv 14 (len c1),Iv 15 qW1] [Xb 2 t0,Xb 4 (⟨0,0⟩:aa),Xb 5 (⟨0,0⟩:aa)]))) (fun eW2=>(aR [Pv 4,Pv 5,Bv 6 true] [Xb 4 eW2.1,Xb 5 eW2.2])) (fun qW2=>aJ 7 30 (bn 8 fun x_4 _=>ov 3 10 0 x_4 (cG 10 36 (aK 8 fun x_5 _=>bn 15 fun x_6 _=>aJ 4 51 aj aj) aj)) aj) (fun eW2=>aj) (fun eW2=>aj))) aj) (fun eW1=>aj) (fun eW1=>aj))))
def oZ (t0:Trace) (c1:Sl Int):Option Bool:=
 (eR t0 c1).bind fun x_1=>
 some (!x_1.2.2)
instance Tn (t0:Trace) (c1:Sl Int):Fc Sy cL (oZ t0 c1):=Fc.M 126 [enc t0,enc c1] (ct 2 2 t0 (aK 7 fun x_1 _=>aj))
namespace a_
def dw (v39:Sl (Sl Int)) (v40:Int) (tb3:Trace) (v41:Int):Option (Fw Int Unit Unit):=
 au (decide (v41<v40))
 ((idx v39 v41).bind fun x_6=>
 (oZ tb3 x_6).bind fun x_7=>
 au x_7
 (some (.n (IntKind.wrap .i64 (v41+1))))
 (some (.r ())))
 (some (.x ()))
def W3 (v39:Sl (Sl Int)) (v40 v41:Int) (tb3:Trace):Option Int:=
 (aW (fun q:Int=>dw v39 v40 tb3 q) v41).bind (Fw.elim
 (fun e=>some 0)
 (fun e=>some 18))
def bg (l1:Sl (Sl Int)) (v28:Sl Int) (v29:Int) (tb3:Trace) (v30:Int):Option (Fw Int Unit Unit):=
 au (decide (v30<v29))
 ((idx v28 v30).bind fun x_4=>
 (qx tb3 x_4).bind fun x_5=>
 au x_5
 (some (.n (IntKind.wrap .i64 (v30+1))))
 (some (.r ())))
 (some (.x ()))
def W2 (l1:Sl (Sl Int)) (v28:Sl Int) (v29 v30:Int) (tb3:Trace):Option Int:=
 (aW (fun q:Int=>bg l1 v28 v29 tb3 q) v30).bind (Fw.elim
 (fun e=>a_.W3 l1 (len l1) 0 tb3)
 (fun e=>some 2))
def aD (l1:Sl (Sl Int)) (procs2:Sl Int) (v17:Sl (Sl Int)) (v18:Int) (tb3:Trace) (v19:Int):Option (Fw Int Unit Unit):=
 au (decide (v19<v18))
 ((idx v17 v19).bind fun x_2=>
 (gF tb3 x_2).bind fun x_3=>
 au x_3
 (some (.n (IntKind.wrap .i64 (v19+1))))
 (some (.r ())))
 (some (.x ()))
def W1 (l1:Sl (Sl Int)) (procs2:Sl Int) (v17:Sl (Sl Int)) (v18 v19:Int) (tb3:Trace):Option Int:=
 (aW (fun q:Int=>aD l1 procs2 v17 v18 tb3 q) v19).bind (Fw.elim
 (fun e=>a_.W2 l1 procs2 (len procs2) 0 tb3)
 (fun e=>some 2))
end a_
def a_ (t0:Trace) (l1:Sl (Sl Int)) (procs2:Sl Int):Option Int:=
 (qZ t0 l1).bind fun x_1=>
 au x_1
 (a_.W1 l1 procs2 l1 (len l1) 0 t0)
 (some 1)
open a_ in
instance V5 (t0:Trace) (l1:Sl (Sl Int)) (procs2:Sl Int):Fc Sy cL (a_ t0 l1 procs2):=Fc.M 99 [enc t0,enc l1,enc procs2] (ct 2 3 t0 (aK 8 fun x_1 _=>cG 3 16 (aZ 7 l1 (cq 5 (fun qW1=>(aR [Cv 1 l1,Cv 2 procs2,Pv 3,Cv 17 l1,Iv 18 (len l1),Iv 19 qW1] [Xb 3 t0])) (fun eW1=>(0,(aR [Cv 1 l1,Cv 2 procs2,Pv 3] [Xb 3 t0]))) (fun eW1=>(aR [Iv 6 2] [])) (fun qW1=>aJ 7 20 (bn 7 fun x_2 _=>aK 8 fun x_3 _=>cG 3 26 aj aj) aj) (fun eW1=>aZ 6 procs2 (cq 5 (fun qW2=>(aR [Cv 1 l1,Pv 3,Cv 28 procs2,Iv 29 (len procs2),Iv 30 qW2] [Xb 3 t0])) (fun eW2=>(2,(aR [Cv 1 l1,Pv 3] [Xb 3 t0]))) (fun eW2=>(aR [Iv 6 2] [])) (fun qW2=>aJ 7 31 (bn 7 fun x_4 _=>aK 8 fun x_5 _=>cG 3 37 aj aj) aj) (fun eW2=>aZ 6 l1 (cq 5 (fun qW3=>(aR [Pv 3,Cv 39 l1,Iv 40 (len l1),Iv 41 qW3] [Xb 3 t0])) (fun eW3=>(4,(aR [] []))) (fun eW3=>(aR [Iv 6 18] [])) (fun qW3=>aJ 7 42 (bn 7 fun x_6 _=>aK 8 fun x_7 _=>cG 3 48 aj aj) aj) (fun eW3=>aj) (fun eW3=>aj))) (fun eW2=>aj))) (fun eW1=>aj))) aj))
namespace eP
def aD (a1 b2:Sl Int) (v25:Int) (out11:Sl Int) (v26:Int) (p3:(Int×Int)→Option Int):Option (Fw ((Sl Int)×Int) (Sl Int) Empty):=
 au (decide (v26<v25))
 ((idx a1 v26).bind fun x_3=>
 (idx b2 v26).bind fun x_4=>
 (p3 (x_3,x_4)).bind fun x_5=>
 (Sl.oR out11 v26).bind fun x_6=>
 (Sl.put out11 x_6 (x_5:Int)).bind fun x_7=>
 some (.n (x_7,IntKind.wrap .i64 (v26+1))))
 (some (.x out11))
def W1 (a1 b2 out11:Sl Int) (v25 v26:Int) (p3:(Int×Int)→Option Int):Option ((Sl Int)×Int):=
 (aW (fun q:(Sl Int)×Int=>aD a1 b2 v25 q.1 q.2 p3) (out11,v26)).bind (Fw.elim
 (fun e=>some (e,0))
 (fun e=>Empty.elim e))
end eP
def eP (t0:Trace) (a1 b2:Sl Int) (p3:(Int×Int)→Option Int):Option ((Sl Int)×Int):=
 (a_ t0 (Sl.row [a1,b2]:Sl (Sl Int)) (Sl.nil:Sl Int)).bind fun x_1=>
 au (x_1==0)
 ((sV (len a1) (0:Int)).bind fun x_2=>
 eP.W1 a1 b2 x_2 (len a1) 0 p3)
 (some (Sl.nil,x_1))
open eP in
abbrev vG (g3:FuncId) (e3:List V) (p3:(Int×Int)→Option Int) (h3:iW Sy cL g3 e3 (fun z:Int×Int=>[.int .i64 z.1,.int .i64 z.2]) (fun r:Int=>[.int .i64 r]) p3) (t0:Trace) (a1 b2:Sl Int):Fc Sy cL (eP t0 a1 b2 p3):=Fc.N 66 [enc t0,enc a1,enc b2,.clo g3 [] e3] (ct 2 4 t0 (XN 10 16 ([a1,b2]:List (Sl Int)) (iU 0 fun x_1 _=>cG 9 19 (aZ 6 a1 (XA 0 23 fun x_2 _=>aZ 7 a1 (uB 6 (fun qW1=>(aR [Cv 1 a1,Cv 2 b2,(3,.v (.clo g3 [] e3)),Ov 11,Iv 25 (len a1),Iv 26 qW1.2] [Lb 2011 qW1.1])) (fun eW1=>(0,(aR [Ov 11] [Lb 2011 eW1]))) (fun qW1=>aJ 8 27 (bn 17 fun x_3 _=>bn 3 fun x_4 _=>rN 1 h3.f (x_3,x_4) fun x_5 _=>tU .i64 0 2011 fun x_6 _=>KR 0 2011 (.int .i64 x_5) fun x_7 _=>aj) aj) (fun eW1=>aj)))) aj))) (l:=by simp[h3.d])
def qz (x0 y1:Int):Option Int:=
 some (if y1>x0 then y1 else x0)
instance QF (x0 y1:Int):Fc Sy cL (qz x0 y1):=Fc.M 67 [.int .i64 x0,.int .i64 y1] (aj)
def uX (t0:Trace) (a1 b2:Sl Int):Option ((Sl Int)×Int):=
 (eP t0 a1 b2 (fun z=>qz z.1 z.2)).bind fun x_1=>
 some (x_1.1,x_1.2)
instance Xf (t0:Trace) (a1 b2:Sl Int):Fc Sy cL (uX t0 a1 b2):=Fc.N 22 [enc t0,enc a1,enc b2] (ct 2 3 t0 (aK (F:=vG 67 [] (fun z=>qz z.1 z.2) iW.qT t0 a1 b2) 9 fun x_1 _=>aj))
def qp (x0 y1:Int):Option Int:=
 some (if y1<x0 then y1 else x0)
instance QD (x0 y1:Int):Fc Sy cL (qp x0 y1):=Fc.M 68 [.int .i64 x0,.int .i64 y1] (aj)
def u6 (t0:Trace) (a1 b2:Sl Int):Option ((Sl Int)×Int):=
 (eP t0 a1 b2 (fun z=>qp z.1 z.2)).bind fun x_1=>
 some (x_1.1,x_1.2)
instance WH (t0:Trace) (a1 b2:Sl Int):Fc Sy cL (u6 t0 a1 b2):=Fc.N 23 [enc t0,enc a1,enc b2] (ct 2 3 t0 (aK (F:=vG 68 [] (fun z=>qp z.1 z.2) iW.qT t0 a1 b2) 9 fun x_1 _=>aj))
def gx (t0:Trace) (c1:Sl Int):Option Bool:=
 (a_ t0 (Sl.row [c1]:Sl (Sl Int)) (Sl.nil:Sl Int)).bind fun x_1=>
 some (x_1==0)
instance K0 (t0:Trace) (c1:Sl Int):Fc Sy cL (gx t0 c1):=Fc.M 63 [enc t0,enc c1] (ct 2 2 t0 (XN 7 7 ([c1]:List (Sl Int)) (iU 0 fun x_1 _=>aj)))
namespace cI
def aD (a0 b1:Sl Int) (v12:Int) (v13:Int):Option (Fw Int Unit Unit):=
 au (decide (v13<v12))
 ((idx a0 v13).bind fun x_1=>
 (idx b1 v13).bind fun x_2=>
 au (decide (x_1>x_2))
 (some (.r ()))
 (some (.n (IntKind.wrap .i64 (v13+1)))))
 (some (.x ()))
def W1 (a0 b1:Sl Int) (v12 v13:Int):Option Bool:=
 (aW (fun q:Int=>aD a0 b1 v12 q) v13).bind (Fw.elim
 (fun e=>some true)
 (fun e=>some false))
end cI
def cI (a0 b1:Sl Int):Option Bool:=
 au ((len a0)==(len b1))
 (cI.W1 a0 b1 (len a0) 0)
 (some false)
open cI in
instance YQ (a0 b1:Sl Int):Fc Sy cL (cI a0 b1):=Fc.M 24 [enc a0,enc b1] (aZ 9 a0 (aZ 1 b1 (cG 3 10 (aZ 7 a0 (cq 5 (fun qW1=>(aR [Cv 0 a0,Cv 1 b1,Iv 12 (len a0),Iv 13 qW1] [])) (fun eW1=>(0,(aR [] []))) (fun eW1=>(aR [Bv 4 false] [])) (fun qW1=>aJ 7 14 (bn 15 fun x_1 _=>bn 3 fun x_2 _=>aJ 4 24 aj aj) aj) (fun eW1=>aj) (fun eW1=>aj))) aj)))
namespace fA
def aD (v37:Sl (Sl (Sl Int))) (v38:Int) (tb2:Trace) (v39:Int):Option (Fw Int Unit Unit):=
 au (decide (v39<v38))
 ((idx v37 v39).bind fun x_7=>
 (idx tb2.procs v39).bind fun x_8=>
 au ((len x_7)==(len x_8.events))
 (some (.n (IntKind.wrap .i64 (v39+1))))
 (some (.r ())))
 (some (.x ()))
def W1 (v37:Sl (Sl (Sl Int))) (v38 v39:Int) (tb2:Trace):Option Bool:=
 (aW (fun q:Int=>aD v37 v38 tb2 q) v39).bind (Fw.elim
 (fun e=>some true)
 (fun e=>some false))
end fA
def fA (t0:Trace) (s1:Slice):Option Bool:=
 (gx t0 s1.first).bind fun x_1=>
 (au x_1
 ((gx t0 s1.last).bind fun x_2=>
 some (!x_2))
 (some true):Option Bool).bind fun x_3=>
 (au x_3
 (some true)
 ((cI s1.first s1.last).bind fun x_4=>
 some (!x_4)):Option Bool).bind fun x_5=>
 (au x_5
 (some true)
 (some (!((len s1.j)==(len t0.procs)))):Option Bool).bind fun x_6=>
 au x_6
 (some false)
 (fA.W1 s1.j (len s1.j) 0 t0)
open fA in
instance O7 (t0:Trace) (s1:Slice):Fc Sy cL (fA t0 s1):=Fc.M 55 [enc t0,enc s1] (ct 2 2 t0 (ct 0 3 s1 (aK 9 fun x_1 _=>aT 2 6 [12] 18 (cG 2 12 (aK 3 fun x_2 _=>aA 2) (aA 6)) fun x_3=>aT 1 7 [19] 26 (aJ 1 19 (aA 7) (aK 4 fun x_4 _=>aA 2)) fun x_5=>aT 1 8 [27] 35 (aJ 1 27 (aA 8) (aZ 2 s1.j (aZ 2 t0.procs (aA 2)))) fun x_6=>aJ 2 35 aj (aZ 8 s1.j (cq 5 (fun qW1=>(aR [Pv 2,Cv 37 s1.j,Iv 38 (len s1.j),Iv 39 qW1] [Xb 2 t0])) (fun eW1=>(0,(aR [] []))) (fun eW1=>(aR [Bv 4 false] [])) (fun qW1=>aJ 7 40 (bn 8 fun x_7 _=>aZ 8 x_7 (bn 3 fun x_8 _=>aZ 2 x_8.events (cG 3 53 aj aj))) aj) (fun eW1=>aj) (fun eW1=>aj))))))
namespace eT
def aD (v7:Sl bt) (v8:Int) (out3:Sl Int) (v9:Int):Option (Fw ((Sl Int)×Int) (Sl Int) Empty):=
 au (decide (v9<v8))
 ((idx v7 v9).bind fun x_1=>
 (kB out3 (len x_1.events:Int)).bind fun x_2=>
 some (.n (x_2,IntKind.wrap .i64 (v9+1))))
 (some (.x out3))
def W1 (out3:Sl Int) (v7:Sl bt) (v8 v9:Int):Option (Sl Int):=
 (aW (fun q:(Sl Int)×Int=>aD v7 v8 q.1 q.2) (out3,v9)).bind (Fw.elim
 (fun e=>some e)
 (fun e=>Empty.elim e))
end eT
def eT (t0:Trace):Option (Sl Int):=
 eT.W1 (Sl.nil:Sl Int) t0.procs (len t0.procs) 0
open eT in
instance Qs (t0:Trace):Fc Sy cL (eT t0):=Fc.N 57 [enc t0] (ct 2 1 t0 (aZ 13 t0.procs (uB 6 (fun qW1=>(aR [Ov 3,Cv 7 t0.procs,Iv 8 (len t0.procs),Iv 9 qW1.2] [Lb 2003 qW1.1])) (fun eW1=>(0,(aR [Ov 3] [Lb 2003 eW1]))) (fun qW1=>aJ 8 10 (bn 7 fun x_1 _=>ov 2 5 0 x_1 (aZ 6 x_1.events (CT 1 2003 17 18 fun x_2 _=>aj))) aj) (fun eW1=>aj))))
def iS (s0:Slice) (x1:aa):Option (Sl Int):=
 (idx s0.j x1.proc).bind fun x_1=>
 (idx x_1 (IntKind.wrap .i64 (x1.index-1))).bind fun x_2=>
 some x_2
instance LZ (s0:Slice) (x1:aa):Fc Sy cL (iS s0 x1):=Fc.N 61 [enc s0,enc x1] (ct 2 2 s0 (bn 10 fun x_1 _=>bn 4 fun x_2 _=>aj))
def me (x0:aa) (c1:Sl Int):Option Bool:=
 (idx c1 x0.proc).bind fun x_1=>
 some (decide (x0.index≤x_1))
instance Wc (x0:aa) (c1:Sl Int):Fc Sy cL (me x0 c1):=Fc.M 97 [enc x0,enc c1] (bn 13 fun x_1 _=>aj)
namespace c_
def aD (s10 s21:Sl Int) (v12:Int) (v13:Int):Option (Fw Int Unit Unit):=
 au (decide (v13<v12))
 ((idx s10 v13).bind fun x_1=>
 (idx s21 v13).bind fun x_2=>
 au (x_1==x_2)
 (some (.n (IntKind.wrap .i64 (v13+1))))
 (some (.r ())))
 (some (.x ()))
def W1 (s10 s21:Sl Int) (v12 v13:Int):Option Bool:=
 (aW (fun q:Int=>aD s10 s21 v12 q) v13).bind (Fw.elim
 (fun e=>some true)
 (fun e=>some false))
end c_
def c_ (s10 s21:Sl Int):Option Bool:=
 au ((len s10)==(len s21))
 (c_.W1 s10 s21 (len s10) 0)
 (some false)
open c_ in
instance HZ (s10 s21:Sl Int):Fc Sy cL (c_ s10 s21):=Fc.M 98 [enc s10,enc s21] (aZ 9 s10 (aZ 1 s21 (cG 3 10 (aZ 7 s10 (cq 5 (fun qW1=>(aR [Cv 0 s10,Cv 1 s21,Iv 12 (len s10),Iv 13 qW1] [])) (fun eW1=>(0,(aR [] []))) (fun eW1=>(aR [Bv 4 false] [])) (fun qW1=>aJ 7 14 (bn 15 fun x_1 _=>bn 3 fun x_2 _=>cG 4 24 aj aj) aj) (fun eW1=>aj) (fun eW1=>aj))) aj)))
def qG (t0:Trace) (s1:Slice) (x2:aa):Option Bool:=
 (iS s1 x2).bind fun x_1=>
 (me x2 s1.last).bind fun x_2=>
 au x_2
 ((me x2 s1.first).bind fun x_3=>
 au x_3
 ((c_ x_1 s1.first).bind fun x_4=>
 some x_4)
 ((gx t0 x_1).bind fun x_5=>
 (au x_5
 ((me x2 x_1).bind fun x_6=>
 some x_6)
 (some false):Option Bool).bind fun x_7=>
 (au x_7
 ((cI s1.first x_1).bind fun x_8=>
 some x_8)
 (some false):Option Bool).bind fun x_9=>
 (au x_9
 ((cI x_1 s1.last).bind fun x_10=>
 some x_10)
 (some false):Option Bool).bind fun x_11=>
 some x_11))
 (some ((len x_1)==0))
instance Qy (t0:Trace) (s1:Slice) (x2:aa):Fc Sy cL (qG t0 s1 x2):=Fc.M 59 [enc t0,enc s1,enc x2] (ct 2 3 t0 (ct 0 4 s1 (aK 8 fun x_1 _=>aK 10 fun x_2 _=>cG 4 11 (aK 6 fun x_3 _=>aJ 3 20 (aK 6 fun x_4 _=>aj) (aK 8 fun x_5 _=>aT 1 4 [5,32] 36 (aJ 1 32 (aK 2 fun x_6 _=>aA 1) (aA 4)) fun x_7=>aT 1 5 [37] 42 (aJ 1 37 (aK 3 fun x_8 _=>aA 1) (aA 5)) fun x_9=>aT 1 5 [4,7,43] 48 (aJ 1 43 (aK 3 fun x_10 _=>aA 1) (aA 5)) fun x_11=>aj)) (aZ 4 x_1 aj))))
def kg (x0:aa) (v1:Trace) (v2:Slice):Option Bool:=
 (qG v1 v2 x0).bind fun x_1=>
 some x_1
instance KG (x0:aa) (v1:Trace) (v2:Slice):Fc Sy cL (kg x0 v1 v2):=Fc.M 58 [enc x0,.fptr (cells v1),.fptr (cells v2)] (aK 11 fun x_1 _=>aj)
namespace cO
def bg (p5:Int) (v8:Sl Int) (v9 v10 v15:Int) (v16:Int) (p1:aa→Option Bool):Option (Fw Int Unit Unit):=
 au (decide (v16<v15))
 ((p1 (⟨p5,IntKind.wrap .i64 (v16+1)⟩:aa)).bind fun x_2=>
 au x_2
 (some (.n (IntKind.wrap .i64 (v16+1))))
 (some (.r ())))
 (some (.x ()))
def W2 (p5:Int) (v8:Sl Int) (v9 v10 v15 v16:Int) (p1:aa→Option Bool):Option (Fw Int Unit Unit):=
 (aW (fun q:Int=>bg p5 v8 v9 v10 v15 q p1) v16).bind (Fw.elim
 (fun e=>some (.n (IntKind.wrap .i64 (v10+1))))
 (fun e=>some (.r ())))
def aD (v8:Sl Int) (v9:Int) (v10:Int) (p1:aa→Option Bool):Option (Fw Int Unit Unit):=
 au (decide (v10<v9))
 ((idx v8 v10).bind fun x_1=>
 W2 v10 v8 v9 v10 x_1 0 p1)
 (some (.x ()))
def W1 (v8:Sl Int) (v9 v10:Int) (p1:aa→Option Bool):Option Bool:=
 (aW (fun q:Int=>aD v8 v9 q p1) v10).bind (Fw.elim
 (fun e=>some true)
 (fun e=>some false))
end cO
def cO (c0:Sl Int) (p1:aa→Option Bool):Option Bool:=
 cO.W1 c0 (len c0) 0 p1
open cO in
abbrev o8 (g1:FuncId) (e1:List V) (p1:aa→Option Bool) (h1:iW Sy cL g1 e1 (fun z:aa=>[enc z]) (fun r:Bool=>[.bool r]) p1) (c0:Sl Int):Fc Sy cL (cO c0 p1):=Fc.M 56 [enc c0,.clo g1 [] e1] (aZ 9 c0 (cq 5 (fun qW1=>(aR [(1,.v (.clo g1 [] e1)),Cv 8 c0,Iv 9 (len c0),Iv 10 qW1] [])) (fun eW1=>(0,(aR [] []))) (fun eW1=>(aR [Bv 4 false] [])) (fun qW1=>aJ 7 11 (bn 8 fun x_1 _=>cq 13 (fun qW2=>(aR [(1,.v (.clo g1 [] e1)),Iv 5 qW1,Cv 8 c0,Iv 9 (len c0),Iv 10 qW1,Iv 15 x_1,Iv 16 qW2] [])) (fun eW2=>(2,(aR [(1,.v (.clo g1 [] e1)),Cv 8 c0,Iv 9 (len c0),Iv 10 qW1] []))) (fun eW2=>(aR [Bv 4 false] [])) (fun qW2=>aJ 7 17 (rN 18 h1.f (⟨qW1,IntKind.wrap .i64 (qW2+1)⟩:aa) fun x_2 _=>cG 3 25 aj aj) aj) (fun eW2=>aj) (fun eW2=>aj)) aj) (fun eW1=>aj) (fun eW1=>aj))) (l:=by simp[h1.d])
def jZ (y0:aa) (v1:Slice) (v2:Sl Int):Option Bool:=
 (iS v1 y0).bind fun x_1=>
 (cI x_1 v2).bind fun x_2=>
 some x_2
instance HG (y0:aa) (v1:Slice) (v2:Sl Int):Fc Sy cL (jZ y0 v1 v2):=Fc.M 62 [enc y0,.fptr (cells v1),.fptr (cells v2)] (aK 10 fun x_1 _=>iU 1 fun x_2 _=>aj)
def mw (x0:aa) (v1:Slice):Option Bool:=
 (iS v1 x0).bind fun x_1=>
 (cO x_1 (fun z=>jZ z v1 x_1)).bind fun x_2=>
 some x_2
instance Kp (x0:aa) (v1:Slice):Fc Sy cL (mw x0 v1):=Fc.M 60 [enc x0,.fptr (cells v1)] (aK 10 fun x_1 _=>ov 1 4 0 x_1 (iU (F:=o8 62 [.fptr (cells v1),.fptr (cells x_1)] (fun z=>jZ z v1 x_1) iW.qT x_1) 6 fun x_2 _=>aj))
def kW (t0:Trace) (s1:Slice):Option Bool:=
 (bZ t0).bind fun x_1=>
 au x_1
 (au s1.empty
 ((au ((len s1.first)==0)
 (some ((len s1.last)==0))
 (some false):Option Bool).bind fun x_2=>
 (au x_2
 (some ((len s1.j)==0))
 (some false):Option Bool).bind fun x_3=>
 some x_3)
 ((fA t0 s1).bind fun x_4=>
 (au x_4
 ((eT t0).bind fun x_5=>
 (cO x_5 (fun z=>kg z t0 s1)).bind fun x_6=>
 some (!x_6))
 (some true):Option Bool).bind fun x_7=>
 au x_7
 (some false)
 ((cO s1.last (fun z=>mw z s1)).bind fun x_8=>
 some x_8)))
 (some false)
instance Qq (t0:Trace) (s1:Slice):Fc Sy cL (kW t0 s1):=Fc.M 17 [enc t0,enc s1] (ct 2 2 t0 (ct 0 3 s1 (aK 7 fun x_1 _=>cG 3 7 (aJ 10 9 (aZ 5 s1.first (aT 2 5 [14] 19 (aJ 2 14 (aZ 2 s1.last (aA 2)) (aA 5)) fun x_2=>aT 1 5 [3,20] 25 (aJ 1 20 (aZ 2 s1.j (aA 2)) (aA 5)) fun x_3=>aj)) (aK 8 fun x_4 _=>aT 2 6 [2,30] 36 (cG 2 30 (aK 1 fun x_5 _=>iU (F:=o8 58 [.fptr (cells t0),.fptr (cells s1)] (fun z=>kg z t0 s1) iW.qT x_5) 1 fun x_6 _=>aA 2) (aA 6)) fun x_7=>aJ 2 36 aj (iU (F:=o8 60 [.fptr (cells s1)] (fun z=>mw z s1) iW.qT s1.last) 8 fun x_8 _=>aj))) aj)))
def ki (x0:aa) (v1:Slice) (v2:Sl Int):Option Bool:=
 (iS v1 x0).bind fun x_1=>
 (cI x_1 v2).bind fun x_2=>
 some x_2
instance Nj (x0:aa) (v1:Slice) (v2:Sl Int):Fc Sy cL (ki x0 v1 v2):=Fc.M 100 [enc x0,.fptr (cells v1),.fptr (cells v2)] (aK 10 fun x_1 _=>iU 1 fun x_2 _=>aj)
def tI (s0:Slice) (c1:Sl Int):Option Bool:=
 (au s0.empty
 (some false)
 ((cI s0.first c1).bind fun x_1=>
 some x_1):Option Bool).bind fun x_2=>
 (au x_2
 ((cI c1 s0.last).bind fun x_3=>
 some x_3)
 (some false):Option Bool).bind fun x_4=>
 (au x_4
 ((cO c1 (fun z=>ki z s0 c1)).bind fun x_5=>
 some x_5)
 (some false):Option Bool).bind fun x_6=>
 some x_6
instance V2 (s0:Slice) (c1:Sl Int):Fc Sy cL (tI s0 c1):=Fc.M 64 [enc s0,enc c1] (ct 2 2 s0 (ct 0 3 c1 (aT 9 5 [8] 13 (cG 9 8 (aA 5) (aK 3 fun x_1 _=>aA 1)) fun x_2=>aT 1 5 [14] 19 (aJ 1 14 (aK 3 fun x_3 _=>aA 1) (aA 5)) fun x_4=>aT 1 4 [2,3,20] 24 (aJ 1 20 (iU (F:=o8 100 [.fptr (cells s0),.fptr (cells c1)] (fun z=>ki z s0 c1) iW.qT c1) 2 fun x_5 _=>aA 1) (aA 4)) fun x_6=>aj)))
def jc (t0:Trace) (s1:Slice) (c2:Sl Int):Option Bool:=
 (kW t0 s1).bind fun x_1=>
 (au x_1
 ((gx t0 c2).bind fun x_2=>
 some x_2)
 (some false):Option Bool).bind fun x_3=>
 (au x_3
 ((tI s1 c2).bind fun x_4=>
 some x_4)
 (some false):Option Bool).bind fun x_5=>
 some x_5
instance VZ (t0:Trace) (s1:Slice) (c2:Sl Int):Fc Sy cL (jc t0 s1 c2):=Fc.M 18 [enc t0,enc s1,enc c2] (ct 2 3 t0 (ct 0 4 s1 (aK 7 fun x_1 _=>aT 1 4 [3,10] 14 (aJ 1 10 (aK 2 fun x_2 _=>aA 1) (aA 4)) fun x_3=>aT 1 4 [2,4,15] 19 (aJ 1 15 (aK 2 fun x_4 _=>aA 1) (aA 4)) fun x_5=>aj)))
namespace bS
def bg (a2 b3 j9:Sl Int) (p13 v138 v139 v145:Int) (tb4:Trace) (sb5:Slice) (v146:Int):Option (Fw Int Unit Unit):=
 au (decide (v146<v145))
 ((idx sb5.j p13).bind fun x_35=>
 (idx x_35 v146).bind fun x_36=>
 (jc tb4 sb5 x_36).bind fun x_37=>
 (au x_37
 ((idx x_36 p13).bind fun x_38=>
 some (decide (x_38≤v146)))
 (some true):Option Bool).bind fun x_39=>
 (au x_39
 (some true)
 ((idx a2 p13).bind fun x_40=>
 (au (decide (x_40>v146))
 ((cI x_36 a2).bind fun x_41=>
 some (!x_41))
 (some false):Option Bool).bind fun x_42=>
 some x_42):Option Bool).bind fun x_43=>
 (au x_43
 (some true)
 ((idx b3 p13).bind fun x_44=>
 (au (decide (x_44>v146))
 ((cI x_36 b3).bind fun x_45=>
 some (!x_45))
 (some false):Option Bool).bind fun x_46=>
 some x_46):Option Bool).bind fun x_47=>
 au x_47
 (some (.r ()))
 (some (.n (IntKind.wrap .i64 (v146+1)))))
 (some (.x ()))
def W2 (a2 b3 j9:Sl Int) (p13 v138 v139 v145 v146:Int) (tb4:Trace) (sb5:Slice):Option (Fw Int Unit Unit):=
 (aW (fun q:Int=>bg a2 b3 j9 p13 v138 v139 v145 tb4 sb5 q) v146).bind (Fw.elim
 (fun e=>some (.n (IntKind.wrap .i64 (v139+1))))
 (fun e=>some (.r ())))
def aD (a2 b3 j9:Sl Int) (v138:Int) (tb4:Trace) (sb5:Slice) (v139:Int):Option (Fw Int Unit Unit):=
 au (decide (v139<v138))
 ((idx j9 v139).bind fun x_34=>
 W2 a2 b3 j9 v139 v138 v139 x_34 0 tb4 sb5)
 (some (.x ()))
def W1 (a2 b3 j9:Sl Int) (v138 v139:Int) (tb4:Trace) (sb5:Slice):Option Bool:=
 (aW (fun q:Int=>aD a2 b3 j9 v138 tb4 sb5 q) v139).bind (Fw.elim
 (fun e=>some true)
 (fun e=>some false))
end bS
def bS (t0:Trace) (s1:Slice) (a2 b3:Sl Int):Option Bool:=
 (oQ).bind fun x_1=>
 (au x_1
 ((gK t0 40).bind fun x_2=>
 some (!x_2))
 (some true):Option Bool).bind fun x_3=>
 (au x_3
 (some true)
 ((o9 s1).bind fun x_4=>
 some (!x_4)):Option Bool).bind fun x_5=>
 (au x_5
 (some true)
 (some (decide ((len a2)>20))):Option Bool).bind fun x_6=>
 (au x_6
 (some true)
 (some (decide ((len b3)>20))):Option Bool).bind fun x_7=>
 (au x_7
 (some true)
 ((bY t0 s1).bind fun x_8=>
 some (!x_8)):Option Bool).bind fun x_9=>
 (au x_9
 (some true)
 ((oP t0 s1 a2).bind fun x_10=>
 some (!x_10)):Option Bool).bind fun x_11=>
 (au x_11
 (some true)
 ((oP t0 s1 b3).bind fun x_12=>
 some (!x_12)):Option Bool).bind fun x_13=>
 au x_13
 ((oQ).bind fun x_14=>
 some x_14)
 ((uX t0 a2 b3).bind fun x_15=>
 (u6 t0 a2 b3).bind fun x_16=>
 (au (x_15.2==0)
 (some (!(x_16.2==0)))
 (some true):Option Bool).bind fun x_17=>
 (au x_17
 (some true)
 ((jc t0 s1 a2).bind fun x_18=>
 some (!x_18)):Option Bool).bind fun x_19=>
 (au x_19
 (some true)
 ((jc t0 s1 b3).bind fun x_20=>
 some (!x_20)):Option Bool).bind fun x_21=>
 (au x_21
 (some true)
 ((jc t0 s1 x_15.1).bind fun x_22=>
 some (!x_22)):Option Bool).bind fun x_23=>
 (au x_23
 (some true)
 ((jc t0 s1 x_16.1).bind fun x_24=>
 some (!x_24)):Option Bool).bind fun x_25=>
 (au x_25
 (some true)
 ((jc t0 s1 s1.first).bind fun x_26=>
 some (!x_26)):Option Bool).bind fun x_27=>
 (au x_27
 (some true)
 ((jc t0 s1 s1.last).bind fun x_28=>
 some (!x_28)):Option Bool).bind fun x_29=>
 (au x_29
 (some true)
 ((cI s1.first x_16.1).bind fun x_30=>
 some (!x_30)):Option Bool).bind fun x_31=>
 (au x_31
 (some true)
 ((cI x_15.1 s1.last).bind fun x_32=>
 some (!x_32)):Option Bool).bind fun x_33=>
 au x_33
 (some false)
 (bS.W1 a2 b3 x_15.1 (len x_15.1) 0 t0 s1))
open bS in
instance uo (t0:Trace) (s1:Slice) (a2 b3:Sl Int):Fc Sy cL (bS t0 s1 a2 b3):=Fc.M 6 [enc t0,enc s1,enc a2,enc b3] (ct 2 4 t0 (ct 0 5 s1 (aK 6 fun x_1 _=>aT 2 4 [18] 22 (cG 2 18 (aK 1 fun x_2 _=>aA 2) (aA 4)) fun x_3=>aT 1 4 [23] 27 (aJ 1 23 (aA 4) (aK 1 fun x_4 _=>aA 2)) fun x_5=>aT 1 4 [28] 32 (aJ 1 28 (aA 4) (aZ 1 a2 (aA 2))) fun x_6=>aT 1 4 [33] 37 (aJ 1 33 (aA 4) (aZ 1 b3 (aA 2))) fun x_7=>aT 1 5 [38] 43 (aJ 1 38 (aA 5) (aK 2 fun x_8 _=>aA 2)) fun x_9=>aT 1 6 [44] 50 (aJ 1 44 (aA 6) (aK 3 fun x_10 _=>aA 2)) fun x_11=>aT 1 6 [51] 57 (aJ 1 51 (aA 6) (aK 3 fun x_12 _=>aA 2)) fun x_13=>aJ 2 57 (aK 3 fun x_14 _=>aj) (aK 8 fun x_15 _=>aK 12 fun x_16 _=>aT 13 3 [12,75] 78 (cG 13 75 (aA 3) (aA 3)) fun x_17=>aT 1 6 [79] 85 (aJ 1 79 (aA 6) (aK 3 fun x_18 _=>aA 2)) fun x_19=>aT 1 6 [86] 92 (aJ 1 86 (aA 6) (aK 3 fun x_20 _=>aA 2)) fun x_21=>aT 1 6 [93] 99 (aJ 1 93 (aA 6) (aK 3 fun x_22 _=>aA 2)) fun x_23=>aT 1 6 [100] 106 (aJ 1 100 (aA 6) (aK 3 fun x_24 _=>aA 2)) fun x_25=>aT 1 7 [107] 114 (aJ 1 107 (aA 7) (aK 4 fun x_26 _=>aA 2)) fun x_27=>aT 1 7 [115] 122 (aJ 1 115 (aA 7) (aK 4 fun x_28 _=>aA 2)) fun x_29=>aT 1 6 [11,123] 129 (aJ 1 123 (aA 6) (aK 3 fun x_30 _=>aA 2)) fun x_31=>aT 1 6 [130] 136 (aJ 1 130 (aA 6) (aK 3 fun x_32 _=>aA 2)) fun x_33=>aJ 2 136 aj (aZ 7 x_15.1 (cq 5 (fun qW1=>(aR [Cv 2 a2,Cv 3 b3,Pv 4,Pv 5,Cv 9 x_15.1,Iv 138 (len x_15.1),Iv 139 qW1] [Xb 4 t0,Xb 5 s1])) (fun eW1=>(0,(aR [] []))) (fun eW1=>(aR [Bv 8 false] [])) (fun qW1=>aJ 7 140 (bn 15 fun x_34 _=>cq 6 (fun qW2=>(aR [Cv 2 a2,Cv 3 b3,Pv 4,Pv 5,Cv 9 x_15.1,Iv 13 qW1,Iv 138 (len x_15.1),Iv 139 qW1,Iv 145 x_34,Iv 146 qW2] [Xb 4 t0,Xb 5 s1])) (fun eW2=>(2,(aR [Cv 2 a2,Cv 3 b3,Pv 4,Pv 5,Cv 9 x_15.1,Iv 138 (len x_15.1),Iv 139 qW1] [Xb 4 t0,Xb 5 s1]))) (fun eW2=>(aR [Bv 8 false] [])) (fun qW2=>aJ 7 147 (bn 16 fun x_35 _=>bn 2 fun x_36 _=>aK 9 fun x_37 _=>aT 2 7 [162] 169 (cG 2 162 (bn 2 fun x_38 _=>aA 4) (aA 7)) fun x_39=>aT 1 13 [170] 183 (aJ 1 170 (aA 13) (bn 2 fun x_40 _=>aT 4 5 [177] 182 (aJ 4 177 (aK 2 fun x_41 _=>aA 2) (aA 5)) fun x_42=>aA 1)) fun x_43=>aT 1 13 [14,15,184] 197 (aJ 1 184 (aA 13) (bn 2 fun x_44 _=>aT 4 5 [15,191] 196 (aJ 4 191 (aK 2 fun x_45 _=>aA 2) (aA 5)) fun x_46=>aA 1)) fun x_47=>aJ 2 197 aj aj) aj) (fun eW2=>aj) (fun eW2=>aj)) aj) (fun eW1=>aj) (fun eW1=>aj)))))))
end
end Go.VE
