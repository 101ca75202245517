/-
 Each function of the program that the law reaches: its plain form, and that it comes to that.
-/
import Derived.Test.YtjbnbbbiijdbpaaGreatDoorK1
import Derived.Test.YtjbnbbbiijdbpaaGreatDoorT1
set_option linter.all false
namespace Go.VE
structure Assign where
 var:Int
 value:Int
 deriving Inhabited
instance:aI Assign where
 cells x:=[.int .i64 x.var,.int .i64 x.value]
 agg:=true
 size:=2
 len _:=rfl
 good x:=by simp only[V.bF,V.good,kC,Bool.and_self]
 one x:=by simp only[List.all_cons,List.all_nil,qa,nQ,pW,nN,Bool.and_self]
 plain h:=by cases h
instance {n:Nat}:Lv (n+0) Assign:=⟨fun x=>by
 show V.cg (n+0) [.int .i64 x.var,.int .i64 x.value]=true;simp only[gU,jl,oD,l8,oh,nG,Bool.and_self]⟩
structure Event where
 kind:Int
 peer:Int
 message:Int
 time:Int
 assign:Sl Assign
 deriving Inhabited
instance:aI Event where
 cells x:=[.int .i64 x.kind,.int .i64 x.peer,.int .i64 x.message,.int .i64 x.time,enc x.assign]
 agg:=true
 size:=5
 len _:=rfl
 good x:=by simp only[V.bF,V.good,kC,Bool.and_self]
 one x:=by simp only[List.all_cons,List.all_nil,qa,nQ,pW,nN,Bool.and_self]
 plain h:=by cases h
instance {n:Nat}:Lv (n+1) Event:=⟨fun x=>by
 show V.cg (n+1) [.int .i64 x.kind,.int .i64 x.peer,.int .i64 x.message,.int .i64 x.time,enc x.assign]=true;simp only[gU,jl,oD,l8,oh,nG,Bool.and_self]⟩
structure Var where
 name:ByteArray
 init_:Int
 deriving Inhabited
instance:aI Var where
 cells x:=[.str x.name,.int .i64 x.init_]
 agg:=true
 size:=2
 len _:=rfl
 good x:=by simp only[V.bF,V.good,kC,Bool.and_self]
 one x:=by simp only[List.all_cons,List.all_nil,qa,nQ,pW,nN,Bool.and_self]
 plain h:=by cases h
instance {n:Nat}:Lv (n+0) Var:=⟨fun x=>by
 show V.cg (n+0) [.str x.name,.int .i64 x.init_]=true;simp only[gU,jl,oD,l8,oh,nG,Bool.and_self]⟩
structure bq where
 name:ByteArray
 vars:Sl Var
 events:Sl Event
 deriving Inhabited
instance:aI bq where
 cells x:=[.str x.name,enc x.vars,enc x.events]
 agg:=true
 size:=3
 len _:=rfl
 good x:=by simp only[V.bF,V.good,kC,Bool.and_self]
 one x:=by simp only[List.all_cons,List.all_nil,qa,nQ,pW,nN,Bool.and_self]
 plain h:=by cases h
instance {n:Nat}:Lv (n+2) bq:=⟨fun x=>by
 show V.cg (n+2) [.str x.name,enc x.vars,enc x.events]=true;simp only[gU,jl,oD,l8,oh,nG,Bool.and_self]⟩
structure Trace where
 procs:Sl bq
 deriving Inhabited
instance:aI Trace where
 cells x:=[enc x.procs]
 agg:=true
 size:=1
 len _:=rfl
 good x:=by simp only[V.bF,V.good,kC,Bool.and_self]
 one x:=by simp only[List.all_cons,List.all_nil,qa,nQ,pW,nN,Bool.and_self]
 plain h:=by cases h
instance {n:Nat}:Lv (n+3) Trace:=⟨fun x=>by
 show V.cg (n+3) [enc x.procs]=true;simp only[gU,jl,oD,l8,oh,nG,Bool.and_self]⟩
structure Slice where
 empty:Bool
 first:Sl Int
 last:Sl Int
 j:Sl (Sl (Sl Int))
 deriving Inhabited
instance:aI Slice where
 cells x:=[.bool x.empty,enc x.first,enc x.last,enc x.j]
 agg:=true
 size:=4
 len _:=rfl
 good x:=by simp only[V.bF,V.good,kC,Bool.and_self]
 one x:=by simp only[List.all_cons,List.all_nil,qa,nQ,pW,nN,Bool.and_self]
 plain h:=by cases h
instance {n:Nat}:Lv (n+3) Slice:=⟨fun x=>by
 show V.cg (n+3) [.bool x.empty,enc x.first,enc x.last,enc x.j]=true
 simp only[gU,jl,oD,l8,oh,nG,Bool.and_self]⟩
structure aH where
 from_:aa
 to_:aa
 deriving Inhabited
instance:aI aH where
 cells x:=[.int .i64 x.from_.proc,.int .i64 x.from_.index,.int .i64 x.to_.proc,.int .i64 x.to_.index]
 agg:=true
 size:=4
 len _:=rfl
 good x:=by simp only[V.bF,V.good,kC,Bool.and_self]
 one x:=by simp only[List.all_cons,List.all_nil,qa,nQ,pW,nN,Bool.and_self]
 plain h:=by cases h
instance {n:Nat}:Lv (n+0) aH:=⟨fun x=>by
 show V.cg (n+0) [.int .i64 x.from_.proc,.int .i64 x.from_.index,.int .i64 x.to_.proc,.int .i64 x.to_.index]=true;simp only[gU,jl,oD,l8,oh,nG,Bool.and_self]⟩
def fJ (p:Int):Int→List Event→List (aa×Event)
 | _,[]=>[]
 | j,e::r=>(⟨p,j+1⟩,e)::fJ p (j+1) r
def dK:Int→List bq→List (aa×Event)
 | _,[]=>[]
 | i,p::r=>fJ i 0 p.events.l++dK (i+1) r
def Ci (n:Nat):Bool:=decide (n<9223372036854775807)
def fV (t:Trace):Option (List (aa×Event)):=
 if Ci t.procs.l.length&&t.procs.l.all fun p=>Ci p.events.l.length then some (dK 0 t.procs.l)else none
end Go.VE
namespace Go.VE
def Gl:List (Nat×GD):=[
 (86,⟨0x22226260002000201,[],[(6,[.keep [0,1,7,8] []],[.keep [0,1,7,8] []]),(12,[.keep [] []],[]),(22,[.keep [4] []],[]),(27,[.keep [4] []],[])]⟩),
 (40,⟨0x226221,[],[]⟩),
 (41,⟨0x2222212,[],[]⟩),
 (87,⟨0x22226260002000201,[],[(6,[.keep [0,1,7,8] []],[.keep [0,1,7,8] []]),(12,[.keep [] []],[]),(22,[.keep [4] []],[]),(27,[.keep [4] []],[])]⟩),
 (42,⟨0x226221,[],[]⟩),
 (43,⟨0x2222212,[],[]⟩),
 (10,⟨0x222222206444264402644402644402600262202202000020012,[],[(8,[.keep [1,2,5,9,10,11] [2]],[.keep [1,2,5,9,10,11] [2]]),(14,[.keep [2] [2]],[]),(26,[.keep [4] []],[]),(31,[.keep [4] []],[])]⟩),
 (88,⟨0x22226260002000201,[],[(6,[.keep [0,1,7,8] []],[.keep [0,1,7,8] []]),(12,[.keep [] []],[]),(22,[.keep [4] []],[]),(27,[.keep [4] []],[])]⟩),
 (44,⟨0x226221,[],[]⟩),
 (80,⟨0x22226260002000201,[],[(6,[.keep [0,1,7,8] []],[.keep [0,1,7,8] []]),(12,[.keep [] []],[]),(22,[.keep [4] []],[]),(27,[.keep [4] []],[])]⟩),
 (35,⟨0x226221,[],[]⟩),
 (69,⟨0x22221,[],[]⟩),
 (25,⟨0x2644422201,[],[]⟩),
 (45,⟨0x22221,[],[]⟩),
 (11,⟨0x2644442644402644402222012,[],[]⟩),
 (164,⟨0x26c4444026402201,[],[]⟩),
 (165,⟨0x26442201,[],[]⟩),
 (128,⟨0x222064c002644c00222600620000644402644022201,[],[(8,[.keep [2] []],[]),(14,[.keep [0,3] []],[.keep [0,3] []]),(20,[.keep [] []],[]),(28,[.keep [2] []],[]),(33,[.keep [2] []],[])]⟩),
 (129,⟨0x26442201,[],[]⟩),
 (106,⟨0x2222222022226020222062260202260206000022226020622000022202220620226020600002220202602012,[],[(10,[.keep [4] []],[]),(16,[.keep [1,2,5,6] [2,5]],[.keep [1,2,5,6] [2,5]]),(22,[.keep [5] [5]],[]),(30,[.keep [4] []],[]),(39,[.keep [4] []],[]),(45,[.keep [5,7] [5]],[.keep [5,7] [5]]),(51,[.keep [5] [5]],[]),(60,[.keep [4] []],[]),(66,[.keep [5,7,8] [5]],[.keep [5,7,8] [5]]),(72,[.keep [5,7] [5]],[]),(80,[.keep [4] []],[]),(88,[.keep [4] []],[]),(97,[.keep [4] []],[]),(101,[.keep [4] []],[])]⟩),
 (107,⟨0x2222220620226020600006444026c444c04040222020260206220000222006cc44c4444c04040440264402220064402644026c04026c44040264402644022200644022202202026022602012,[],[(13,[.keep [6] []],[]),(20,[.keep [6] []],[]),(22,[.keep [1,2,3,7] [3,7]],[]),(28,[.keep [6] []],[]),(36,[.keep [6] []],[]),(42,[.keep [1,3,7,8] [3,7]],[.keep [1,3,7,8] [3,7]]),(48,[.keep [] []],[]),(59,[.keep [6] []],[]),(64,[.keep [1,3,7,8,9,10] [3,7,9]],[.keep [1,3,7,8,9,10] [3,7,9]]),(70,[.keep [1,3,7,8] [3,7]],[]),(78,[.keep [6] []],[]),(84,[.keep [6] []],[])]⟩),
 (130,⟨0x2262222262022022,[],[]⟩),
 (78,⟨0x20222222262226c0442602020260226020622260200062200002,[],[(6,[.keep [1,2,3,6,7] [3,6]],[.keep [1,2,3,6,7] [3,6]]),(12,[.keep [6] [6]],[]),(18,[.keep [1,2,3,6,7,8] [3,6]],[.keep [1,2,3,6,7,8] [3,6]]),(24,[.keep [1,2,3,6,7] [3,6]],[]),(34,[.keep [6] [6]],[]),(40,[.keep [6] [6]],[])]⟩),
 (108,⟨0x2222226cc40444cc4040444022202602262020622262020000220060e20200022020600122,[],[(30,[.keep [2,3,5,6,7] [2,3,5]],[.keep [2,3,5,6,7] [2,3,5]]),(36,[.keep [6] []],[])]⟩),
 (109,⟨0x22206222602026006220002222203622000622262002062202202026260022602062226020260062200002222012,[],[(6,[.canon (.s 3) 2003 1,.keep [1,3] [1,2003]],[.canon (.s 3) 2003 1,.keep [1,3] [1,2003]]),(14,[.canon (.s 3) 2003 1,.keep [1,3,4,5] [1,2003]],[.canon (.s 3) 2003 1,.keep [1,3,4,5] [1,2003]]),(20,[.canon (.s 3) 2003 1,.keep [1,3,4] [1,2003]],[]),(24,[.canon (.s 3) 2003 1,.keep [1,3,4,5] [1,2003]],[.canon (.s 3) 2003 1,.keep [1,3,4,5] [1,2003]]),(30,[.canon (.s 3) 2003 1,.keep [1,3,4,5] [1,2003]],[]),(43,[.canon (.s 3) 2003 1,.keep [1,3,4,5] [1,2003]],[]),(46,[.canon (.s 3) 2003 1,.keep [1,3,5] [1,2003]],[]),(53,[.canon (.s 3) 2003 1,.keep [1,3] [1,2003]],[]),(59,[.canon (.s 3) 2003 1,.keep [1,3,8] [1,2003]],[.canon (.s 3) 2003 1,.keep [1,3,8] [1,2003]]),(65,[.keep [] []],[]),(73,[.keep [2] []],[]),(78,[.keep [2] []],[])]⟩),
 (131,⟨0x22262622222202062026262202022200122,[],[(10,[.canon (.s 5) 2005 2,.keep [2,3,5] [2,3,2005]],[])]⟩),
 (76,⟨0x202222220222620260600206200622260200062200002020222222222220260020620062226020006220002222222226222202e0006222602000622000222222222026006220000206444022220102,[],[(8,[.keep [2,3] [2]],[]),(14,[.keep [1,2,4] [1,2]],[.keep [1,2,4] [1,2]]),(20,[.keep [1,2] [1,2]],[]),(30,[.keep [2,3] [2]],[]),(37,[.keep [1,2,6] [1,2]],[.keep [1,2,6] [1,2]]),(43,[.keep [1,2] [1,2]],[]),(49,[.keep [1,2,6,7] [1,2]],[.keep [1,2,6,7] [1,2]]),(55,[.keep [1,2,6] [1,2]],[]),(65,[.keep [2,3] [2]],[]),(73,[.keep [1,2,9] [1,2]],[.keep [1,2,9] [1,2]]),(79,[.keep [1,2] [1,2]],[]),(85,[.keep [1,2,9,10] [1,2]],[.keep [1,2,9,10] [1,2]]),(91,[.keep [1,2,9] [1,2]],[]),(103,[.keep [2,3] [2]],[]),(113,[.keep [2,3] [2]],[]),(119,[.keep [1,2,13] [1,2]],[.keep [1,2,13] [1,2]]),(125,[.keep [2] [2]],[]),(131,[.keep [1,2,13,14] [1,2]],[.keep [1,2,13,14] [1,2]]),(137,[.keep [1,2,13] [1,2]],[]),(147,[.keep [2,3] [2]],[]),(153,[.keep [2,3] [2]],[])]⟩),
 (29,⟨0x2222302022212,[],[]⟩),
 (81,⟨0x262222212,[],[]⟩),
 (82,⟨0x22206c444c0404c002226006200012,[],[(6,[.keep [1,2,5] [2]],[.keep [1,2,5] [2]]),(12,[.keep [] []],[]),(20,[.keep [4] []],[]),(25,[.keep [4] []],[])]⟩),
 (77,⟨0x26262222020622202202026222622012,[],[]⟩),
 (83,⟨0x22222202001ef000062600006200012,[],[(6,[.keep [1,2,5] [2]],[.keep [1,2,5] [2]]),(12,[.keep [] []],[]),(18,[.keep [1,2,5,6] [2]],[.keep [1,2,5,6] [2]]),(24,[.keep [1,2,5] [2]],[]),(32,[.keep [4] []],[]),(38,[.keep [4] []],[])]⟩),
 (37,⟨0x26c4426c0026c0022012,[],[]⟩),
 (46,⟨0x2220626002600620000620201,[],[(8,[.keep [4] []],[]),(14,[.keep [0,1,5] []],[.keep [0,1,5] []]),(20,[.keep [] []],[]),(28,[.keep [4] []],[]),(33,[.keep [4] []],[])]⟩),
 (53,⟨0x2220626002600620000620201,[],[(8,[.keep [4] []],[]),(14,[.keep [0,1,5] []],[.keep [0,1,5] []]),(20,[.keep [] []],[]),(28,[.keep [4] []],[]),(33,[.keep [4] []],[])]⟩),
 (47,⟨0x26c44426c04026c44c40260226222626020022226260200226026020122,[],[]⟩),
 (48,⟨0x22222202602602602062600006200012,[],[(6,[.keep [1,2,5] [2]],[.keep [1,2,5] [2]]),(12,[.keep [] []],[]),(18,[.keep [1,2,5,6] [2]],[.keep [1,2,5,6] [2]]),(24,[.keep [1,2,5] [2]],[]),(32,[.keep [4] []],[]),(38,[.keep [4] []],[])]⟩),
 (12,⟨0x2222220262602602006260200062200022222202001ef000062260200006222602022602062200006c440440264c4040264c40022620026444426444022220200220122,[],[(8,[.keep [4] []],[]),(16,[.keep [4] []],[]),(24,[.keep [4] []],[]),(30,[.keep [2,3,5] [2,3]],[.keep [2,3,5] [2,3]]),(36,[.keep [3] [3]],[]),(45,[.keep [4] []],[]),(50,[.keep [2,3,5,6] [2,3]],[.keep [2,3,5,6] [2,3]]),(56,[.keep [2,3,5] [2,3]],[]),(64,[.keep [4] []],[]),(72,[.keep [3,7] [3]],[.keep [3,7] [3]]),(78,[.keep [] []],[]),(84,[.keep [3,7,8] [3]],[.keep [3,7,8] [3]]),(90,[.keep [3,7] [3]],[]),(98,[.keep [4] []],[]),(104,[.keep [4] []],[])]⟩),
 (117,⟨0x26c4426201,[],[]⟩),
 (186,⟨0x26c4444026402201,[],[]⟩),
 (187,⟨0x26442201,[],[]⟩),
 (152,⟨0x22064c402644c00222600200020064440264402201,[],[(8,[.keep [2] []],[]),(14,[.keep [0,18,19] []],[.keep [0,18,19] []]),(20,[.keep [] []],[]),(30,[.keep [2] []],[]),(35,[.keep [2] []],[])]⟩),
 (154,⟨0x26222212,[],[]⟩),
 (188,⟨0x22226260002000201,[],[(6,[.keep [0,1,7,8] []],[.keep [0,1,7,8] []]),(12,[.keep [] []],[]),(22,[.keep [4] []],[]),(27,[.keep [4] []],[])]⟩),
 (153,⟨0x226221,[],[]⟩),
 (155,⟨0x26222212,[],[]⟩),
 (118,⟨0x222222022222026c0c4402222022020000020022220026c0c44422220202602012,[],[(11,[.keep [4] []],[]),(17,[.keep [4] []],[]),(23,[.keep [5,32,33,34] [5]],[.keep [5,32,33,34] [5]]),(29,[.keep [5] [5]],[]),(40,[.keep [4] []],[]),(46,[.keep [4] []],[]),(55,[.keep [4] []],[]),(59,[.keep [4] []],[])]⟩),
 (119,⟨0x2212,[],[]⟩),
 (157,⟨0x2644426c4402622222022202644422202020122,[],[(18,[.keep [1,3,5,19] [3,5]],[])]⟩),
 (159,⟨0x26222212,[],[]⟩),
 (189,⟨0x22226260002000201,[],[(6,[.keep [0,1,7,8] []],[.keep [0,1,7,8] []]),(12,[.keep [] []],[]),(22,[.keep [4] []],[]),(27,[.keep [4] []],[])]⟩),
 (158,⟨0x226221,[],[]⟩),
 (120,⟨0x2202626220026444022622202022020000020022220026c44022220022e02222226220202200202620201222,[],[(12,[.keep [3,4,5,7,8] [3,4,5,7]],[]),(19,[.keep [6] []],[]),(25,[.keep [6] []],[]),(31,[.keep [6] []],[]),(37,[.keep [5,7,52,53,54] [5,7]],[.keep [5,7,52,53,54] [5,7]]),(43,[.keep [] []],[]),(54,[.keep [6] []],[]),(60,[.keep [6] []],[]),(65,[.keep [6] []],[])]⟩),
 (190,⟨0x26c44426c440222012,[],[]⟩),
 (160,⟨0x2662262221222,[],[]⟩),
 (121,⟨0x2202326222002202001ef200220022022226200223262220022022226200202022020202020200002,[],[(8,[.keep [1,2,3,4,5,12] [1,2,3,4,5,10]],[.keep [] [1,2,3,4,5,10]]),(27,[.keep [] [1,2,3,4,5,10]],[]),(39,[.keep [] [1,2,3,4,5,10]],[]),(47,[.keep [] [1,2,3,4,5,10]],[]),(53,[.keep [2,3,4] [2,3,4,10]],[])]⟩),
 (161,⟨0x222622262222264444c4400222020262222262622020262020222620220122,[],[(12,[.canon (.s 7) 2007 2,.keep [1,5,7,8] [5,2007]],[])]⟩),
 (122,⟨0x20222622230026000226002020000e200262220202622002202202020200022,[],[(6,[.keep [2,3,4,5,13] [2,3,4,5]],[.keep [] [2,3,4,5]]),(14,[.canon (.s 8) 2008 2,.keep [2,3,4,5,6,7,8,13] [2,3,4,5,6,16,2008]],[.canon (.s 8) 2008 2,.keep [2,3,4,5,6,7,8,13] [2,3,4,5,6,16,2008]]),(20,[.keep [2,3,4,5,13] [2,3,4,5]],[]),(29,[.canon (.s 8) 2008 2,.keep [2,3,4,5,6,7,8,13,36,37,38] [2,3,4,5,6,16,2008]],[.canon (.s 8) 2008 2,.keep [2,3,4,5,6,7,8,13,36,37,38] [2,3,4,5,6,16,2008]]),(35,[.canon (.s 8) 2008 2,.keep [2,3,4,5,6,7,8,13] [2,3,4,5,6,16,2008]],[]),(46,[.keep [] [2,3,4,5]],[]),(58,[.keep [4,5] [4,5]],[])]⟩),
 (96,⟨0x20022222020262222222022202002202222202e2002020202222222202600200022002022220002,[],[(8,[.keep [2,3] [2,3]],[]),(14,[.keep [1,2,3,22,23] [1,2,3]],[.keep [1,2,3,22,23] [1,2,3]]),(20,[.keep [1,2,3] [1,2,3]],[]),(32,[.keep [2,3] [2,3]],[]),(39,[.keep [1,2,3,36] [1,2,3]],[.keep [] [1,2,3]]),(51,[.keep [] [1,2,3]],[]),(61,[.keep [2,3] [2,3]],[]),(71,[.keep [2,3] [2,3]],[]),(75,[.keep [2,3] [2,3]],[])]⟩),
 (54,⟨0x2222302022212,[],[]⟩),
 (162,⟨0x26222221,[],[]⟩),
 (123,⟨0x264c4422012,[],[]⟩),
 (124,⟨0x2206c444c440422022200000212,[],[(6,[.keep [2,7,8,9] [2]],[.keep [2,7,8,9] [2]]),(12,[.keep [] []],[]),(22,[.keep [4] []],[]),(27,[.keep [4] []],[])]⟩),
 (125,⟨0x26c444422012,[],[]⟩),
 (191,⟨0x200226c0442602020202202022000222,[],[(8,[.keep [6,7] [6,7]],[]),(14,[.keep [4,5,6,7,15] [4,5,6,7]],[.keep [] [4,5,6,7]]),(24,[.keep [] [4,5,6,7]],[]),(28,[.keep [6,7] [6,7]],[])]⟩),
 (163,⟨0x2220622102,[],[]⟩),
 (127,⟨0x2200222202262222626200203202026220220220200000622260202220000001002,[],[(6,[.keep [1,2,4,5,13,14,15] [2,4,5]],[.keep [1,2,4,5,13,14,15] [2,4,5]]),(12,[.keep [4,5] [4,5]],[]),(20,[.keep [1,2,4,5,7,13,14,15,27,28,29] [2,4,5]],[.keep [1,2,4,5,7,13,14,15,27,28,29] [2,4,5]]),(26,[.keep [1,2,4,5,13,14,15] [2,4,5]],[]),(44,[.keep [4,5,6] [4,5]],[]),(50,[.keep [4,5,6] [4,5]],[])]⟩),
 (126,⟨0x22223300200262212,[],[]⟩),
 (99,⟨0x2202620220000222026202200002220262022000000260012,[],[(8,[.keep [6] []],[]),(14,[.keep [1,2,3,17,18,19] [3]],[.keep [1,2,3,17,18,19] [3]]),(20,[.keep [1,2,3] [3]],[]),(30,[.keep [6] []],[]),(37,[.keep [1,3,28,29,30] [3]],[.keep [1,3,28,29,30] [3]]),(43,[.keep [1,3] [3]],[]),(53,[.keep [6] []],[]),(60,[.keep [3,39,40,41] [3]],[.keep [3,39,40,41] [3]]),(66,[.keep [] []],[]),(76,[.keep [6] []],[]),(81,[.keep [6] []],[])]⟩),
 (63,⟨0x22622212,[],[]⟩),
 (24,⟨0x2206262026002000200620201,[],[(8,[.keep [4] []],[]),(14,[.keep [0,1,12,13] []],[.keep [0,1,12,13] []]),(20,[.keep [] []],[]),(30,[.keep [4] []],[]),(35,[.keep [4] []],[])]⟩),
 (55,⟨0x2206222622022222000002206c440440264c4040264c400226200122,[],[(8,[.keep [4] []],[]),(14,[.keep [2,37,38,39] [2]],[.keep [2,37,38,39] [2]]),(20,[.keep [] []],[]),(30,[.keep [4] []],[]),(35,[.keep [4] []],[])]⟩),
 (57,⟨0x22222622222202000022012,[],[(8,[.canon (.s 3) 2003 1,.keep [3,7,8,9] [2003]],[.canon (.s 3) 2003 1,.keep [3,7,8,9] [2003]]),(14,[.canon (.s 3) 2003 1,.keep [3] [2003]],[])]⟩),
 (61,⟨0x226222262022122,[],[]⟩),
 (97,⟨0x26262222012,[],[]⟩),
 (98,⟨0x2206262026002000200620201,[],[(8,[.keep [4] []],[]),(14,[.keep [0,1,12,13] []],[.keep [0,1,12,13] []]),(20,[.keep [] []],[]),(30,[.keep [4] []],[]),(35,[.keep [4] []],[])]⟩),
 (59,⟨0x26c44426c04026c0426022622226200222222620026001222,[],[]⟩),
 (58,⟨0x2e22212,[],[]⟩),
 (56,⟨0x222202662200200022220000021,[],[(6,[.keep [1,8,9,10] []],[.keep [1,8,9,10] []]),(12,[.keep [] []],[]),(20,[.keep [1,5,8,9,10,15,16] []],[.keep [1,5,8,9,10,15,16] []]),(26,[.keep [1,8,9,10] []],[]),(36,[.keep [4] []],[]),(42,[.keep [4] []],[])]⟩),
 (62,⟨0x26262212,[],[]⟩),
 (60,⟨0x26602062012,[],[]⟩),
 (17,⟨0x26220064c4402260026444426444022220200220122,[],[]⟩),
 (100,⟨0x26262212,[],[]⟩),
 (64,⟨0x26cc026c40026c0402220122,[],[]⟩),
 (18,⟨0x26c4426c042600122,[],[]⟩),
 (19,⟨0x26c4426c40026c04026c042220122,[],[]⟩),
 (4,⟨0x26cc001cf44444001cf00026060026002064402644026440220122,[],[]⟩),
 (65,⟨0x26622212,[],[]⟩),
 (20,⟨0x26cc402620000200064c042260011222,[],[]⟩),
 (21,⟨0x22222202e26026020006260200062200002e20000201222,[],[(8,[.keep [6] []],[]),(16,[.keep [6] []],[]),(22,[.keep [3,4,5,7] [3,4,5]],[.keep [3,4,5,7] [3,4,5]]),(28,[.keep [] []],[]),(34,[.keep [3,4,5,7,8] [3,4,5]],[.keep [3,4,5,7,8] [3,4,5]]),(40,[.keep [3,4,5,7] [3,4,5]],[]),(48,[.keep [6] []],[]),(54,[.keep [6] []],[])]⟩),
 (5,⟨0x264426e2222264422264c002260022202e00020644026440264402201222,[],[]⟩)]
end Go.VE
namespace Go.VE
namespace trace_events_c1
def ya:List RO:=[o1 20 (.s 18) [],o2 21 (ix 5) [.s 16,.s 18] [],o2 22 (lD 5) [.s 21] [21],o2 6 (.a (.alloc 5 [.int .i64 0,.int .i64 0,.int .i64 0,.int .i64 0,.aF])) [] [],o1 5 (.s 20) [20],oz (.l (.store 5)) [.s 6,.s 22] [22]]
def vt:List RO:=[o1 23 (.s 0) [],o1 24 (.s 3) [],o1 25 (.s 5) [5],o2 26 (bI .add) [.s 25,.k (.int .i64 1)] [25],o2 27 (.p (.build [.int .i64 0,.int .i64 0] [(0,1),(1,1)])) [.s 24,.s 26] [24,26],o2 28 (lD 5) [.s 6] [6],
 o2 29 .c [.s 23,.s 27,.s 28] [23,27,28],o2 30 (.p .not) [.s 29] [29]]
def sZ:List RO:=[o2 31 (bI .add) [.s 18,.k (.int .i64 1)] [],o1 18 (.s 31) [31]]
def Be:RC:=.hg (.seq (.ops [o2 19 (bI .lss) [.s 18,.s 17] []]) (.seq (.cond (.s 19) .skip (.exit 2)) (.seq (.block 3 (.seq (.ops ya) (.seq (.ops vt) (.cond (.s 30) .ret .skip)))) (.ops sZ)))) (.keep [0,3,8,9,10,16,17,18] [])
def Fi:List RO:=[o1 12 (.s 10) [],o2 13 (ix 3) [.s 8,.s 10] [],o2 14 (lD 3) [.s 13] [13],o2 4 (.a (.alloc 3 [.str ByteArray.empty,.aF,.aF])) [] [],o1 3 (.s 12) [12],oz (.l (.store 3)) [.s 4,.s 14] [14]]
def CJ:List RO:=[o2 15 (fa 2) [.s 4] [],o2 16 (ld 1) [.s 15] [15],o2 17 ln [.s 16] [],o1 18 (.k (.int .i64 0)) []]
def BC:List RO:=[o2 32 (bI .add) [.s 10,.k (.int .i64 1)] [],o1 10 (.s 32) [32]]
def U2:RC:=.block 2 (.gh (.keep [0,3,8,9,10,16,17,18] []) (.loop Be))
def HN:RC:=.hg (.seq (.ops [o2 11 (bI .lss) [.s 10,.s 9] []]) (.seq (.cond (.s 11) .skip (.exit 0)) (.seq (.block 1 (.seq (.ops Fi) (.seq (.ops CJ) U2))) (.ops BC)))) (.keep [0,8,9,10] [])
def Qa:List RO:=[o2 7 (fa 0) [.s 1] [1],o2 8 (ld 1) [.s 7] [7],o2 9 ln [.s 8] [],o1 10 (.k (.int .i64 0)) []]
def U1:RC:=.block 0 (.gh (.keep [0,8,9,10] []) (.loop HN))
def text:RF:=⟨33,[],.seq (.ops Qa) U1⟩
section
variable {S:Sys}
abbrev I1 (ps:Sl bq) (i:Int) (ws:List (List V)) (more:Bool) (y:Nat):St:=⟨[(0,.yl y),Cv 8 ps,Iv 9 (len ps),Iv 10 i],[],[],ws,more,y⟩
abbrev I2 (ps:Sl bq) (i:Int) (es:Sl Event) (j:Int) (ws:List (List V)) (more:Bool) (y:Nat):St:=⟨[(0,.yl y),Iv 3 i,Cv 8 ps,Iv 9 (len ps),Iv 10 i,Cv 16 es,Iv 17 (len es),Iv 18 j],[],[],ws,more,y⟩
abbrev S2 (ps:Sl bq) (i:Int) (es:Sl Event) (j:Int) (b:Bool) (ws:List (List V)) (more:Bool) (y:Nat):St:=⟨[(0,.yl y),Iv 3 i,Cv 8 ps,Iv 9 (len ps),Iv 10 i,Cv 16 es,Iv 17 (len es),Iv 18 j,Bv 19 b],[],[],ws,more,y⟩
theorem SE (ps:Sl bq) (i:Int) (es:Sl Event) (j:Int) (ws:List (List V)) (more:Bool) (y:Nat) (hj:decide (j<len es)=false) :
 rn S.bare j_ some (.rc Be) [] (I2 ps i es j ws more y)=some (.exit 2,S2 ps i es j false ws more y):=by
 refine Le.get ?_;refine Kf (n:=7) (fo':=.rc (.cond (.s 19) .skip (.exit 2))) (fs':=[.seq (.seq (.block 3 (.seq (.ops ya) (.seq (.ops vt) (.cond (.s 30) .ret .skip)))) (.ops sZ)),.gst (.keep [0,3,8,9,10,16,17,18] [])]) (fun b=>S2 ps i es j b ws more y) hj (by kernel_rfl) ?_
 exact Le.of_eq (by kernel_rfl)
theorem Wm (ps:Sl bq) (i:Int) (es:Sl Event) (j:Int) (e:Event) (ws:List (List V)) (more:Bool) (y:Nat) (hj:decide (j<len es)=true) (hx:idx es j=some e) (hb:(!(more || !ws.isEmpty))=false) :
 rn S.bare j_ some (.rc Be) [] (I2 ps i es j ([enc (⟨i,IntKind.wrap .i64 (j+1)⟩:aa),enc e]::ws) more y)=some (.norm,I2 ps i es (IntKind.wrap .i64 (j+1)) ws more y):=by
 refine Le.get ?_;refine Kt (n:=7) (fo':=.rc (.cond (.s 19) .skip (.exit 2))) (fs':=[.seq (.seq (.block 3 (.seq (.ops ya) (.seq (.ops vt) (.cond (.s 30) .ret .skip)))) (.ops sZ)),.gst (.keep [0,3,8,9,10,16,17,18] [])]) (fun b=>S2 ps i es j b ([enc (⟨i,IntKind.wrap .i64 (j+1)⟩:aa),enc e]::ws) more y) hj (by kernel_rfl) ?_
 refine J7 hx ?_;refine Ka 8 false [] (ya.drop 1) [.seq (.seq (.ops vt) (.cond (.s 30) .ret .skip)),.blk 3,.seq (.ops sZ),.gst (.keep [0,3,8,9,10,16,17,18] [])] ⟨[(0,.yl y),Iv 3 i,Cv 8 ps,Iv 9 (len ps),Iv 10 i,Cv 16 es,Iv 17 (len es),Iv 18 j,Bv 19 true,Iv 20 j],[],[],([enc (⟨i,IntKind.wrap .i64 (j+1)⟩:aa),enc e]::ws),more,y⟩ .i64 rfl (by kernel_rfl) fun x h1=>?_
 obtain rfl:x=e:=by rw[hx]at h1;cases h1;rfl
 refine QN 1 false [] (ya.drop 3) [.seq (.seq (.ops vt) (.cond (.s 30) .ret .skip)),.blk 3,.seq (.ops sZ),.gst (.keep [0,3,8,9,10,16,17,18] [])] ⟨[(0,.yl y),Iv 3 i,Cv 8 ps,Iv 9 (len ps),Iv 10 i,Cv 16 es,Iv 17 (len es),Iv 18 j,Bv 19 true,Iv 20 j,Cv 22 x],[],[],([enc (⟨i,IntKind.wrap .i64 (j+1)⟩:aa),enc x]::ws),more,y⟩ [iv 0,iv 0,iv 0,iv 0,.v .aF] rfl (by simp only[aS,uw,mL,oB,mz,nW,pO,ot,pU,mE,ox,uu,pY,pX,pN,qe,rQ,rR,nU,pS,SV.bV];rfl) (by kernel_rfl) ?_
 refine Ast 1 false [] (ya.drop 5) [.seq (.seq (.ops vt) (.cond (.s 30) .ret .skip)),.blk 3,.seq (.ops sZ),.gst (.keep [0,3,8,9,10,16,17,18] [])] ⟨[(0,.yl y),Iv 3 i,Cv 8 ps,Iv 9 (len ps),Iv 10 i,Cv 16 es,Iv 17 (len es),Iv 18 j,Bv 19 true,Cv 22 x,Pv 6,Iv 5 j],[Xb 6 (⟨0,0,0,0,.nil⟩:Event)],[],([enc (⟨i,IntKind.wrap .i64 (j+1)⟩:aa),enc x]::ws),more,y⟩ 6 0 x [iv 0,iv 0,iv 0,iv 0,.v .aF] ((cells x).map .v) rfl (by kernel_rfl) ?_
 refine Xz (n:=10) (q:=vt.drop 6) (fs':=[.seq (.cond (.s 30) .ret .skip),.blk 3,.seq (.ops sZ),.gst (.keep [0,3,8,9,10,16,17,18] [])]) (st:=⟨[(0,.yl y),Iv 3 i,Cv 8 ps,Iv 9 (len ps),Iv 10 i,Cv 16 es,Iv 17 (len es),Iv 18 j,Bv 19 true,(23,.yl y),Cv 27 (⟨i,IntKind.wrap .i64 (j+1)⟩:aa),Cv 28 x],[Xb 6 x],[],([enc (⟨i,IntKind.wrap .i64 (j+1)⟩:aa),enc x]::ws),more,y⟩) (vs:=[cv (⟨i,IntKind.wrap .i64 (j+1)⟩:aa),cv x]) (by kernel_rfl) rfl (by kernel_rfl) (by kernel_rfl) rfl rfl ?_
 refine Kf (n:=3) (fo':=.rc (.cond (.s 30) .ret .skip)) (fs':=[.blk 3,.seq (.ops sZ),.gst (.keep [0,3,8,9,10,16,17,18] [])]) (fun b=>⟨[(0,.yl y),Iv 3 i,Cv 8 ps,Iv 9 (len ps),Iv 10 i,Cv 16 es,Iv 17 (len es),Iv 18 j,Bv 19 true,Bv 30 b],[Xb 6 x],[],ws,more,y⟩) hb (by kernel_rfl) ?_
 exact Le.of_eq (by kernel_rfl)
theorem PN (ps:Sl bq) (i:Int) (es:Sl Event) (j:Int) (e:Event) (ws:List (List V)) (more:Bool) (y:Nat) (hj:decide (j<len es)=true) (hx:idx es j=some e) (hb:(!(more || !ws.isEmpty))=true) :
 rn S.bare j_ some (.rc Be) [] (I2 ps i es j ([enc (⟨i,IntKind.wrap .i64 (j+1)⟩:aa),enc e]::ws) more y)=some (.ret,⟨[(0,.yl y),Iv 3 i,Cv 8 ps,Iv 9 (len ps),Iv 10 i,Cv 16 es,Iv 17 (len es),Iv 18 j,Bv 19 true,Bv 30 true],[Xb 6 e],[],ws,more,y⟩):=by
 refine Le.get ?_;refine Kt (n:=7) (fo':=.rc (.cond (.s 19) .skip (.exit 2))) (fs':=[.seq (.seq (.block 3 (.seq (.ops ya) (.seq (.ops vt) (.cond (.s 30) .ret .skip)))) (.ops sZ)),.gst (.keep [0,3,8,9,10,16,17,18] [])]) (fun b=>S2 ps i es j b ([enc (⟨i,IntKind.wrap .i64 (j+1)⟩:aa),enc e]::ws) more y) hj (by kernel_rfl) ?_
 refine J7 hx ?_;refine Ka 8 false [] (ya.drop 1) [.seq (.seq (.ops vt) (.cond (.s 30) .ret .skip)),.blk 3,.seq (.ops sZ),.gst (.keep [0,3,8,9,10,16,17,18] [])] ⟨[(0,.yl y),Iv 3 i,Cv 8 ps,Iv 9 (len ps),Iv 10 i,Cv 16 es,Iv 17 (len es),Iv 18 j,Bv 19 true,Iv 20 j],[],[],([enc (⟨i,IntKind.wrap .i64 (j+1)⟩:aa),enc e]::ws),more,y⟩ .i64 rfl (by kernel_rfl) fun x h1=>?_
 obtain rfl:x=e:=by rw[hx]at h1;cases h1;rfl
 refine QN 1 false [] (ya.drop 3) [.seq (.seq (.ops vt) (.cond (.s 30) .ret .skip)),.blk 3,.seq (.ops sZ),.gst (.keep [0,3,8,9,10,16,17,18] [])] ⟨[(0,.yl y),Iv 3 i,Cv 8 ps,Iv 9 (len ps),Iv 10 i,Cv 16 es,Iv 17 (len es),Iv 18 j,Bv 19 true,Iv 20 j,Cv 22 x],[],[],([enc (⟨i,IntKind.wrap .i64 (j+1)⟩:aa),enc x]::ws),more,y⟩ [iv 0,iv 0,iv 0,iv 0,.v .aF] rfl (by simp only[aS,uw,mL,oB,mz,nW,pO,ot,pU,mE,ox,uu,pY,pX,pN,qe,rQ,rR,nU,pS,SV.bV];rfl) (by kernel_rfl) ?_
 refine Ast 1 false [] (ya.drop 5) [.seq (.seq (.ops vt) (.cond (.s 30) .ret .skip)),.blk 3,.seq (.ops sZ),.gst (.keep [0,3,8,9,10,16,17,18] [])] ⟨[(0,.yl y),Iv 3 i,Cv 8 ps,Iv 9 (len ps),Iv 10 i,Cv 16 es,Iv 17 (len es),Iv 18 j,Bv 19 true,Cv 22 x,Pv 6,Iv 5 j],[Xb 6 (⟨0,0,0,0,.nil⟩:Event)],[],([enc (⟨i,IntKind.wrap .i64 (j+1)⟩:aa),enc x]::ws),more,y⟩ 6 0 x [iv 0,iv 0,iv 0,iv 0,.v .aF] ((cells x).map .v) rfl (by kernel_rfl) ?_
 refine Xz (n:=10) (q:=vt.drop 6) (fs':=[.seq (.cond (.s 30) .ret .skip),.blk 3,.seq (.ops sZ),.gst (.keep [0,3,8,9,10,16,17,18] [])]) (st:=⟨[(0,.yl y),Iv 3 i,Cv 8 ps,Iv 9 (len ps),Iv 10 i,Cv 16 es,Iv 17 (len es),Iv 18 j,Bv 19 true,(23,.yl y),Cv 27 (⟨i,IntKind.wrap .i64 (j+1)⟩:aa),Cv 28 x],[Xb 6 x],[],([enc (⟨i,IntKind.wrap .i64 (j+1)⟩:aa),enc x]::ws),more,y⟩) (vs:=[cv (⟨i,IntKind.wrap .i64 (j+1)⟩:aa),cv x]) (by kernel_rfl) rfl (by kernel_rfl) (by kernel_rfl) rfl rfl ?_
 refine Kt (n:=3) (fo':=.rc (.cond (.s 30) .ret .skip)) (fs':=[.blk 3,.seq (.ops sZ),.gst (.keep [0,3,8,9,10,16,17,18] [])]) (fun b=>⟨[(0,.yl y),Iv 3 i,Cv 8 ps,Iv 9 (len ps),Iv 10 i,Cv 16 es,Iv 17 (len es),Iv 18 j,Bv 19 true,Bv 30 b],[Xb 6 x],[],ws,more,y⟩) hb (by kernel_rfl) ?_
 exact Le.of_eq (by kernel_rfl)
abbrev S1 (ps:Sl bq) (i:Int) (b:Bool) (ws:List (List V)) (more:Bool) (y:Nat):St:=⟨[(0,.yl y),Cv 8 ps,Iv 9 (len ps),Iv 10 i,Bv 11 b],[],[],ws,more,y⟩
theorem RJ (ps:Sl bq) (i:Int) (ws:List (List V)) (more:Bool) (y:Nat) (hj:decide (i<len ps)=false) :
 rn S.bare j_ some (.rc HN) [] (I1 ps i ws more y)=some (.exit 0,S1 ps i false ws more y):=by
 refine Le.get ?_;refine Kf (n:=7) (fo':=.rc (.cond (.s 11) .skip (.exit 0))) (fs':=[.seq (.seq (.block 1 (.seq (.ops Fi) (.seq (.ops CJ) U2))) (.ops BC)),.gst (.keep [0,8,9,10] [])]) (fun b=>S1 ps i b ws more y) hj (by kernel_rfl) ?_
 exact Le.of_eq (by kernel_rfl)
def L9:List Fm:=[.blk 2,.blk 1,.seq (.ops BC),.gst (.keep [0,8,9,10] [])]
theorem LY (ps:Sl bq) (i:Int) (p:bq) (ws:List (List V)) (more:Bool) (y:Nat) (r:Out×St) (hj:decide (i<len ps)=true) (hx:idx ps i=some p)
 (h:rn S.bare j_ some (.rc (.loop Be)) L9 (I2 ps i p.events 0 ws more y)=some r):rn S.bare j_ some (.rc HN) [] (I1 ps i ws more y)=some r:=by
 refine Le.get ?_;refine Kt (n:=7) (fo':=.rc (.cond (.s 11) .skip (.exit 0))) (fs':=[.seq (.seq (.block 1 (.seq (.ops Fi) (.seq (.ops CJ) U2))) (.ops BC)),.gst (.keep [0,8,9,10] [])]) (fun b=>S1 ps i b ws more y) hj (by kernel_rfl) ?_
 refine J7 hx ?_;refine Ka 8 false [] (Fi.drop 1) [.seq (.seq (.ops CJ) U2),.blk 1,.seq (.ops BC),.gst (.keep [0,8,9,10] [])] ⟨[(0,.yl y),Cv 8 ps,Iv 9 (len ps),Iv 10 i,Bv 11 true,Iv 12 i],[],[],ws,more,y⟩ .i64 rfl (by kernel_rfl) fun x h1=>?_
 obtain rfl:x=p:=by rw[hx]at h1;cases h1;rfl
 refine QN 1 false [] (Fi.drop 3) [.seq (.seq (.ops CJ) U2),.blk 1,.seq (.ops BC),.gst (.keep [0,8,9,10] [])] ⟨[(0,.yl y),Cv 8 ps,Iv 9 (len ps),Iv 10 i,Bv 11 true,Iv 12 i,Cv 14 x],[],[],ws,more,y⟩ [.v (.str ByteArray.empty),.v .aF,.v .aF] rfl (by simp only[aS,uw,mL,oB,mz,nW,pO,ot,pU,mE,ox,uu,pY,pX,pN,qe,rQ,rR,nU,pS,SV.bV];rfl) (by kernel_rfl) ?_
 refine Ast 1 false [] (Fi.drop 5) [.seq (.seq (.ops CJ) U2),.blk 1,.seq (.ops BC),.gst (.keep [0,8,9,10] [])] ⟨[(0,.yl y),Cv 8 ps,Iv 9 (len ps),Iv 10 i,Bv 11 true,Cv 14 x,Pv 4,Iv 3 i],[Xb 4 (⟨ByteArray.empty,.nil,.nil⟩:bq)],[],ws,more,y⟩ 4 0 x [.v (.str ByteArray.empty),.v .aF,.v .aF] ((cells x).map .v) rfl (by kernel_rfl) ?_
 refine Tq 6 false [] (CJ.drop 2) [.seq U2,.blk 1,.seq (.ops BC),.gst (.keep [0,8,9,10] [])] ⟨[(0,.yl y),Cv 8 ps,Iv 9 (len ps),Iv 10 i,Bv 11 true,Pv 4,Iv 3 i,Cv 16 x.events],[Xb 4 x],[],ws,more,y⟩ x.events rfl (by kernel_rfl) ?_
 refine AG (n:=5) (fo':=.rc (.loop Be)) (fs':=L9) (st':=I2 ps i x.events 0 ws more y) (by kernel_rfl) (Le.of_eq h)
theorem MW (ps:Sl bq) (i:Int) (es:Sl Event) (j:Int) (ws:List (List V)) (more:Bool) (y:Nat) :
 rn S.bare j_ some (.ex 2) L9 (S2 ps i es j false ws more y)=some (.norm,I1 ps (IntKind.wrap .i64 (i+1)) ws more y):=by kernel_rfl
theorem wrap_small (n:Nat) (h:n<9223372036854775807):IntKind.wrap .i64 ((n:Int)+1)=((n+1:Nat):Int):=by
 simp[IntKind.wrap,IntKind.bits,IntKind.signed];omega
abbrev eI (x:aa×Event):List V:=[enc x.1,enc x.2]
theorem zQ.step {x:List V} {ws rest:List (List V)} {more:Bool} (h:zQ ws (x::rest) more):∃ws',ws=x::ws'∧((!(more || !ws'.isEmpty))=false∧zQ ws' rest more∨(!(more || !ws'.isEmpty))=true∧ws'=[]):=by
 rcases h with⟨rfl,rfl⟩|⟨rfl,hn,r,hr⟩
 ·exact⟨rest,rfl,.inl ⟨rfl,.inl ⟨rfl,rfl⟩⟩⟩
 ·cases ws with
  | nil=>exact absurd rfl hn
  | cons w ws=>
   simp only[List.cons_append,List.cons.injEq]at hr;obtain⟨rfl,rfl⟩:=hr;refine⟨ws,rfl,?_⟩
   cases ws with
   | nil=>exact .inr ⟨rfl,rfl⟩
   | cons z zs=>exact .inl ⟨rfl,.inr ⟨rfl,by simp,r,rfl⟩⟩
theorem CF {α:Type} {s:Sl α} {j:Nat} {x:α} {r:List α} (h:s.l.drop j=x::r):idx s (j:Int)=some x∧decide ((j:Int)<len s)=true∧s.l.drop (j+1)=r:=by
 have h1:j<s.l.length:=by
  apply Classical.byContradiction;intro hn;rw[List.drop_eq_nil_of_le (by omega)]at h;cases h
 have h2:=List.drop_eq_getElem_cons h1;rw[h2]at h;simp only[List.cons.injEq]at h;refine⟨?_,by simp[len,h1],h.2⟩
 unfold idx;rw[if_pos (by omega)]
 simp[ζd h1,h.1]
variable {Q:Out×St→Option (Out×St)} {fs:List Fm}
theorem inner (ps:Sl bq) (i:Int) (es:Sl Event) (hl:es.l.length<9223372036854775807) (more:Bool) (y:Nat) (R:List (List V)):∀(rem:List Event) (j:Nat),es.l.drop j=rem→∀ws,zQ ws ((fJ i j rem).map eI++R) more →
 (∃(ws':List (List V)) (j':Int),zQ ws' R more∧rn S.bare j_ Q (.rc (.loop Be)) fs (I2 ps i es j ws more y)=rn S.bare j_ Q (.ex 2) fs (S2 ps i es j' false ws' more y)) ∨
 (∃st':St,st'.want=[]∧rn S.bare j_ Q (.rc (.loop Be)) fs (I2 ps i es j ws more y)=Q (.ret,st'))
 | [],j,hd,ws,hw=>by
  have h1:decide ((j:Int)<len es)=false:=by
   have:es.l.length≤j:=by simpa using hd
   simp[len];omega
  exact .inl ⟨ws,j,by simpa [fJ]using hw,By (SE ps i es j ws more y h1)⟩
 | e::rem,j,hd,ws,hw=>by
  obtain⟨h1,h2,h3⟩:=CF hd;have hj:j<es.l.length:=by simpa [len]using h2
  simp only[fJ,List.map_cons,List.cons_append]at hw;obtain⟨ws',rfl,hb⟩:=zQ.step hw;have hwr:=wrap_small j (by omega)
  have hji:((j:Int)+1)=IntKind.wrap .i64 ((j:Int)+1):=by rw[hwr];simp
  rcases hb with⟨hb,hd'⟩|⟨hb,rfl⟩
  ·have k:=Wm (S:=S) ps i es j e ws' more y h2 h1 hb;rw[←hji]at k;have k2:=Bk (Q:=Q) (fs:=fs) k;have ih:=inner ps i es hl more y R rem (j+1) h3 ws' (by push_cast;exact hd')
   rw[show ((j+1:Nat):Int)=(j:Int)+1 from rfl]at ih;rcases ih with⟨ws2,j2,g1,g2⟩|⟨st',g1,g2⟩
   ·exact .inl ⟨ws2,j2,g1,k2.trans g2⟩
   ·exact .inr ⟨st',g1,k2.trans g2⟩
  ·have k:=PN (S:=S) ps i es j e [] more y h2 h1 hb;rw[←hji]at k;exact .inr ⟨_,by rfl,Bj k⟩
theorem outer (ps:Sl bq) (hl:ps.l.length<9223372036854775807) (hes:∀p∈ps.l,p.events.l.length<9223372036854775807) (more:Bool) (y:Nat):∀(rem:List bq) (i:Nat),ps.l.drop i=rem→∀ws,zQ ws ((dK i rem).map eI) more →
 rn S.bare j_ Qi (.rc (.loop HN)) [.blk 0] (I1 ps i ws more y)=some ()
 | [],i,hd,ws,hw=>by
  have h1:decide ((i:Int)<len ps)=false:=by
   have:ps.l.length≤i:=by simpa using hd
   simp[len];omega
  rw[By (RJ ps i ws more y h1)];have:ws=[]:=by
   rcases hw with⟨_,rfl⟩|⟨_,hn,r,hr⟩
   ·rfl
   ·have:ws=[]:=by cases ws with
     | nil=>rfl
     | cons=>simp[dK]at hr
    exact absurd this hn
  subst this;rfl
 | p::rem,i,hd,ws,hw=>by
  obtain⟨h1,h2,h3⟩:=CF hd;have hi:i<ps.l.length:=by simpa [len]using h2
  have hp:p∈ps.l:=List.mem_of_mem_drop (i:=i) (by rw[hd];exact List.mem_cons_self ..)
  simp only[dK,List.map_append]at hw;have hwr:=wrap_small i (by omega)
  rcases inner (S:=S) (Q:=some) (fs:=L9) ps i p.events (hes p hp) more y _ p.events.l 0 rfl ws hw with⟨ws',j',g1,g2⟩|⟨st',g1,g2⟩
  ·rw[MW,hwr]at g2;rw[Bk (LY ps i p ws more y _ h2 h1 g2)];exact outer ps hl hes more y rem (i+1) h3 ws' g1
  ·rw[Bj (LY ps i p ws more y _ h2 h1 g2)];simp[Qi,g1]
theorem all (t:Trace) (its:List (aa×Event)) (h:fV t=some its) (ws:List (List V)) (more:Bool) (hw:zQ ws (its.map eI) more) (y:Nat) :
 rn S.bare j_ Qi (.rc text.body) [] ⟨tG 0 (([]:List V).map .v++.yl y::[V.fptr (cells t)].map .v),[],[],ws,more,y⟩=some ():=by
 unfold fV at h;split at h
 ·rename_i hk;cases h;simp only[ζh,List.all_eq_true,Ci,decide_eq_true_eq]at hk;refine Le.get ?_;refine Tq 4 false [] (Qa.drop 2) [.seq U1] ⟨[(0,.yl y),Cv 8 t.procs],[],[],ws,more,y⟩ t.procs rfl (by kernel_rfl) ?_
  refine AG (n:=5) (fo':=.rc (.loop HN)) (fs':=[.blk 0]) (st':=I1 t.procs 0 ws more y) (by kernel_rfl) (Le.of_eq ?_)
  exact outer t.procs hk.1 hk.2 more y t.procs.l 0 rfl ws hw
 ·cases h
end
theorem EL {α:Type} [aI α] {a b:Sl α} (h:bu a=bu b):rows a.l=rows b.l:=by
 cases a <;> cases b <;> first|rfl|(simp only[bu,Sl.k,lC,V.fsl.injEq,true_and,reduceCtorEq]at h;done)|(simp only[bu,Sl.k,lC,V.fsl.injEq,true_and,reduceCtorEq]at h;exact h)
theorem CY (p:Int):∀(es es':List Event) (j:Int),rows es=rows es'→(fJ p j es).map eI=(fJ p j es').map eI
 | [],[],_,_=>rfl
 | [],_::_,_,h=>by simp[rows]at h
 | _::_,[],_,h=>by simp[rows]at h
 | e::es,e'::es',j,h=>by
  simp only[rows,List.map_cons,List.cons.injEq]at h;have h1:enc e=enc e':=by show V.agg (cells e)=V.agg (cells e');rw[h.1]
  simp only[fJ,List.map_cons,eI,h1,CY p es es' (j+1) h.2]
theorem zB:∀(ps ps':List bq) (i:Int),rows ps=rows ps'→(dK i ps).map eI=(dK i ps').map eI
 | [],[],_,_=>rfl
 | [],_::_,_,h=>by simp[rows]at h
 | _::_,[],_,h=>by simp[rows]at h
 | p::ps,p'::ps',i,h=>by
  simp only[rows,List.map_cons,List.cons.injEq]at h;have h1:bu p.events=bu p'.events:=by
   have:=h.1;change [V.str p.name,bu p.vars,bu p.events]=[V.str p'.name,bu p'.vars,bu p'.events]at this;simp only[List.cons.injEq]at this;exact this.2.2.1
  simp only[dK,List.map_append,CY i _ _ 0 (EL h1),zB ps ps' (i+1) h.2]
def B_ (f:FuncId) (g:FuncId) (a b:List V) (xs:List (List V)):Prop:=∃(t:Trace) (its:List (aa×Event)),g=f∧a=[]∧b=[.fptr (cells t)]∧fV t=some its∧xs=its.map eI
theorem B_.uniq {f g:FuncId} {a b:List V} {xs ys:List (List V)} (h:B_ f g a b xs) (k:B_ f g a b ys):xs=ys:=by
 obtain⟨t,its,rfl,rfl,rfl,h1,rfl⟩:=h;obtain⟨t',its',_,_,h2,h3,rfl⟩:=k;simp only[List.cons.injEq,V.fptr.injEq,and_true]at h2;have h4:bu t.procs=bu t'.procs:=by
  change [bu t.procs]=[bu t'.procs]at h2;simpa using h2
 unfold fV at h1 h3;split at h1 <;> split at h3 <;> simp only[ζa,reduceCtorEq]at h1 h3;subst h1 h3;exact zB _ _ 0 (EL h4)
end trace_events_c1
end Go.VE
namespace Go.VE
open Go.Proofs.YtjbnbbbiijdbpaaGreatDoor
noncomputable section
noncomputable def FW (f:FuncId):Option EU:=none
noncomputable def Sy:Sys:=⟨E,fun n=>n,uz (trace_events_c1.B_ 156),wQ E,FW⟩
theorem Sh:∀f q,FW f=some q→nP E f q:=by
 intro f q h;unfold FW at h;cases h
def Tx:pq:=JA E some (lk Gl)
abbrev cL:bD:=dP Sy Tx
theorem Uz:∃fi,E.ft 156=some fi∧uM E some fi trace_events_c1.text:=Vm (by kernel_rfl)
theorem Mj:ta Sy Tx where
 fn f rf h:=let ⟨fi,h1,h2⟩:=Jy h;⟨fi,some,h1,AK,h2⟩
 vz f bs y h:=Jd h
 prm:=Sh
theorem EX:∀f a b xs,Sy.items f a b=some xs→fq Sy f a b xs:=by
 intro f a b xs h;obtain⟨t,its,rfl,rfl,rfl,h1,rfl⟩:=GC h;obtain⟨fi,h2,h3⟩:=Uz;exact La Sy h2 AK h3 (Nat.le_of_ble_eq_true rfl) rfl fun ws more hw y=>trace_events_c1.all t its h1 ws more hw y
theorem vm (t:Trace) (its:List (aa×Event)) (h:fV t=some its):Sy.items 156 [] [.fptr (cells t)]=some (its.map fun x:aa×Event=>[enc x.1,enc x.2]):=
 GR ⟨t,its,rfl,rfl,rfl,h,rfl⟩ fun ys hy=>hy.uniq ⟨t,its,rfl,rfl,rfl,h,rfl⟩
theorem I7:Sy.vz 9 []=some (.bool true):=Bt (Em rfl ⟨1,[],by kernel_rfl⟩)
end
end Go.VE
namespace Go.VE
noncomputable section
def qW (t0:Trace) (x1:aa):Option Event:=
 (idx t0.procs x1.proc).bind fun x_1=>
 (idx x_1.events (IntKind.wrap .i64 (x1.index-1))).bind fun x_2=>
 some x_2
instance VN (t0:Trace) (x1:aa):Fc Sy cL (qW t0 x1):=Fc.N 130 [enc t0,enc x1] (bY 2 2 t0 (br 10 fun x_1 _=>br 5 fun x_2 _=>ou 1 4 0 x_2 aj))
namespace cw
def bl (kind1 m2 p7:Int) (tb3:Trace) (vb6:aa) (i8:Int):Option (Fw Int Unit aa):=
 (idx tb3.procs p7).bind fun x_1=>
 au (decide (i8<(len x_1.events)))
 ((idx tb3.procs p7).bind fun x_2=>
 (idx x_2.events i8).bind fun x_3=>
 (au (x_3.kind==kind1)
 (some (x_3.message==m2))
 (some false):Option Bool).bind fun x_4=>
 au x_4
 (some (.r (⟨p7,IntKind.wrap .i64 (i8+1)⟩:aa)))
 (some (.n (IntKind.wrap .i64 (i8+1)))))
 (some (.x ()))
def W2 (kind1 m2 p7 i8:Int) (tb3:Trace) (vb6:aa):Option (Fw Int Unit aa):=
 (aX (fun q:Int=>bl kind1 m2 p7 tb3 vb6 q) i8).bind (Fw.elim
 (fun e=>some (.n (IntKind.wrap .i64 (p7+1))))
 (fun e=>some (.r e)))
def aG (kind1 m2:Int) (tb3:Trace) (vb6:aa) (p7:Int):Option (Fw Int Unit aa):=
 au (decide (p7<(len tb3.procs)))
 (W2 kind1 m2 p7 0 tb3 vb6)
 (some (.x ()))
def W1 (kind1 m2 p7:Int) (tb3:Trace) (vb6:aa):Option aa:=
 (aX (fun q:Int=>aG kind1 m2 tb3 vb6 q) p7).bind (Fw.elim
 (fun e=>some ⟨0,0⟩)
 (fun e=>some e))
end cw
def cw (t0:Trace) (kind1 m2:Int):Option aa:=
 cw.W1 kind1 m2 0 t0 (⟨0,0⟩:aa)
open cw in
instance P_ (t0:Trace) (kind1 m2:Int):Fc Sy cL (cw t0 kind1 m2):=Fc.M 78 [enc t0,.int .i64 kind1,.int .i64 m2] (bY 2 3 t0 (ck 11 (fun qW1=>(aS [Iv 1 kind1,Iv 2 m2,Pv 3,Pv 6,Iv 7 qW1] [Xb 3 t0,Xb 6 (⟨0,0⟩:aa)])) (fun eW1=>(0,(aS [Pv 6] [Xb 6 (⟨0,0⟩:aa)]))) (fun eW1=>(aS [Pv 6] [Xb 6 eW1])) (fun qW1=>aZ 7 t0.procs (aJ 3 14 (ck 12 (fun qW2=>(aS [Iv 1 kind1,Iv 2 m2,Pv 3,Pv 6,Iv 7 qW1,Iv 8 qW2] [Xb 3 t0,Xb 6 (⟨0,0⟩:aa)])) (fun eW2=>(2,(aS [Iv 1 kind1,Iv 2 m2,Pv 3,Pv 6,Iv 7 qW1] [Xb 3 t0,Xb 6 (⟨0,0⟩:aa)]))) (fun eW2=>(aS [Pv 6] [Xb 6 eW2])) (fun qW2=>br 8 fun x_1 _=>aZ 2 x_1.events (aJ 3 25 (br 10 fun x_2 _=>br 3 fun x_3 _=>ou 2 9 0 x_3 (aU 9 5 [9,41] 46 (aJ 9 41 (aC 5) (aC 5)) fun x_4=>aJ 2 46 aj aj)) aj)) (fun eW2=>aj) (fun eW2=>aj)) aj)) (fun eW1=>aj) (fun eW1=>aj)))
namespace cu
def J1 (out5:Sl aa) (tb2:Trace) (xb3:aa):Option (Sl aa):=
 (qW tb2 xb3).bind fun x_1=>
 au (x_1.kind==3)
 ((cw tb2 2 x_1.message).bind fun x_2=>
 (kH out5 (x_2:aa)).bind fun x_3=>
 some x_3)
 (some out5)
end cu
def cu (t0:Trace) (x1:aa):Option (Sl aa):=
 au (decide (x1.index>1))
 (cu.J1 (Sl.row [⟨x1.proc,IntKind.wrap .i64 (x1.index-1)⟩]:Sl aa) t0 x1)
 (cu.J1 (Sl.nil:Sl aa) t0 x1)
open cu in
theorem vA (t0:Trace) (x1:aa):Le ((cu t0 x1).bind fun r=>some (cN r)) (bL Sy cL (GL (tr Tx 131)) (.rc (tb Tx 131),[],start ([enc t0,enc x1].map .v) [])):=
 bY 2 2 t0 (aJ 17 9 (LW 10 17 18 .aF (⟨x1.proc,IntKind.wrap .i64 (x1.index-1)⟩:aa) (Az 5 (aK 4 fun x_1 _=>ou 1 6 0 x_1 (aJ 10 24 (aK 6 fun x_2 _=>DO 1 2005 30 31 fun x_3 _=>aj) aj)))) (Az 5 (aK 4 fun x_1 _=>ou 1 6 0 x_1 (aJ 10 24 (aK 6 fun x_2 _=>DO 1 2005 30 31 fun x_3 _=>aj) aj))))
def kJ (dir:aa→Option (Sl aa)):List (List Bool)×List aa→Option (Fw (List (List Bool)×List aa) (List (List Bool)) Empty)
 | (out,[])=>some (.x out)
 | (out,y::rest)=>if 0≤y.proc∧0≤y.index then(out[y.proc.toNat]?).bind fun row=>(row[y.index.toNat]?).bind fun b=>
  au b (some (.n (out,rest))) ((dir y).bind fun more=>if rest.length+more.l.length≤2147483648 then some (.n (out.set y.proc.toNat (row.set y.index.toNat true),rest++more.l))else none)else none
def eu (t:Trace):List (List Bool):=t.procs.l.map fun P=>List.replicate (P.events.l.length+1) false
def wk (t:Trace):Bool:=decide (t.procs.l.length≤2147483648)&&t.procs.l.all fun P=>decide (P.events.l.length+1≤2147483648)
def nested (out:List (List Bool)):Sl (Sl Bool):=if out=[]then .nil else .row (out.map .row)
def jT (t:Trace) (x:aa):Option (Sl (Sl Bool)):=
 if wk t then(cu t x).bind fun s=>(aX (kJ (cu t)) (eu t,s.l)).bind (Fw.elim (fun out=>some (nested out)) (fun e=>Empty.elim e))else none
end
end Go.VE
namespace Go.VE
namespace pastX
abbrev tu:Nat→FuncId:=fun n=>n
def r1:List RO:=[o2 2 (.a .box) [0] [],o2 3 (.a .box) [1] [],o1 4 (.k (.aF)) []]
def r2:List RO:=[o1 5 (.k (.aF)) []]
def r3:List RO:=[o1 6 (.k (.int .i64 0)) []]
def r4:List RO:=[o1 11 6 [],o2 12 (fa 0) [2] [],o2 13 (ld 1) [12] [],o2 14 ln [13] [],o2 15 (bI .lss) [11,14] []]
def r5:List RO:=[o1 18 5 [],o2 19 (fa 0) [2] [],o2 20 (ld 1) [19] [],o1 21 6 [],o2 22 (ix 3) [20,21] [],o2 23 (fa 2) [22] [],o2 24 (ld 1) [23] [],o2 25 ln [24] [],o2 26 (bI .add) [25,.k (.int .i64 1)] [],o2 27 (.a (.makeSl 1 [.bool false])) [26,26] [],o2 28 (.a (.buildSl 1 1 [.aF] [0])) [27] [],o2 29 (.l (.append 1)) [18,28] [],o1 5 29 []]
def r6:List RO:=[o1 16 6 [],o2 17 (bI .add) [16,.k (.int .i64 1)] [],o1 6 17 []]
def L1:RC:=.seq (.seq (.ops r4) (.cond (.s 15) (.skip) (.exit 0))) (.seq (.block 1 (.ops r5)) (.ops r6))
def r7:List RO:=[o2 30 (lD 1) [2] [],o2 31 (lD 2) [3] [],o2 32 .c [.f 131,30,31] [],o1 7 32 []]
def r8:List RO:=[o1 33 7 [],o2 34 ln [33] [],o2 35 (bI .gtr) [34,.k (.int .i64 0)] []]
def r9:List RO:=[o1 36 7 [],o2 37 (ix 2) [36,.k (.int .i64 0)] [],o2 38 (lD 2) [37] [],o2 8 (.a (.alloc 2 [.int .i64 0,.int .i64 0])) [] [],oz (su 2) [8,38] []]
def CH:List RO:=[o1 39 7 [],o2 40 (.p (.slice 2 true false)) [39,.k (.int .i64 1)] [],o1 7 40 []]
def DX:List RO:=[o1 41 5 [],o2 42 (fa 0) [8] [],o2 43 (ld 1) [42] [],o2 44 (ix 1) [41,43] [],o2 45 (ld 1) [44] [],o2 46 (fa 1) [8] [],o2 47 (ld 1) [46] [],on 48 (ix 1) [45,47] [],on 49 (ld 1) [48] []]
def CA:List RO:=[o1 50 5 [],o2 51 (fa 0) [8] [],o2 52 (ld 1) [51] [],o2 53 (ix 1) [50,52] [],o2 54 (ld 1) [53] [],o2 55 (fa 1) [8] [],o2 56 (ld 1) [55] [],on 57 (ix 1) [54,56] [],oy (su 1) [57,.k (.bool true)] []]
def DP:List RO:=[o2 58 (lD 1) [2] [],o2 59 (lD 2) [8] [],o2 60 .c [.f 131,58,59] [],o1 9 60 []]
def Cs:List RO:=[o1 10 (.k (.int .i64 0)) []]
def Fb:List RO:=[o1 61 10 [],o1 62 9 [],o2 63 ln [62] [],o2 64 (bI .lss) [61,63] []]
def r16:List RO:=[o1 67 7 [],o1 68 9 [],o1 69 10 [],o2 70 (ix 2) [68,69] [],o2 71 (lD 2) [70] [],o2 72 (.a (.buildSl 2 1 [.int .i64 0,.int .i64 0] [0])) [71] [],o2 73 (.l (.append 2)) [67,72] [],o1 7 73 []]
def Jn:List RO:=[o1 65 10 [],o2 66 (bI .add) [65,.k (.int .i64 1)] [],o1 10 66 []]
def L3:RC:=.seq (.seq (.ops Fb) (.cond (.s 64) (.skip) (.exit 4))) (.seq (.block 5 (.ops r16)) (.ops Jn))
def L2:RC:=.seq (.seq (.ops r8) (.cond (.s 35) (.skip) (.exit 2))) (.block 3 (.seq (.ops r9) (.seq (.ops CH) (.seq (.seq (.lM DX) (.cond (.s 49) (.exit 3) (.skip))) (.seq (.lM CA) (.seq (.ops DP) (.seq (.ops Cs) (.block 4 (.loop L3)))))))))
def W0:List RO:=[o1 74 5 [],o1 4 74 []]
def code:RC:=.seq (.ops r1) (.seq (.ops r2) (.seq (.seq (.ops r3) (.block 0 (.loop L1))) (.seq (.ops r7) (.seq (.block 2 (.loop L2)) (.seq (.ops W0) (.ret))))))
noncomputable abbrev sD:=Go.Proofs.YtjbnbbbiijdbpaaGreatDoor.E
def gO (out:List (List Bool)):List (List V):=out.map fun r=>r.map V.bool
theorem shape:∃fi,sD.ft (tu 110)=some fi∧aM ⟨sD,some,fi.ntmps⟩ false fi.body=some code∧2≤fi.ntmps∧fi.results=[.tmp 4]:=by
 have h:((sD.ft (tu 110)).map fun fi=>(aM ⟨sD,some,fi.ntmps⟩ false fi.body,Nat.ble 2 fi.ntmps,fi.results))=some (some code,true,[.tmp 4]):=by kernel_rfl
 obtain⟨fi,h1,h2⟩:=ζf.1 h;simp only[ζc]at h2;exact⟨fi,h1,h2.1,Nat.le_of_ble_eq_true h2.2.1,h2.2.2⟩
section
variable {E:Env} {N:Nat→FuncId} {t:Trace} {x:aa} {k:Nat} {F:Frame} {H H1:aq} {call:b9} {b:Option Nat}
theorem iA {o:RO} {l:List RO} {v:V} {r:Frame×aq} (hg:o.gd=none) (hv:aR E N call b o.now o.k (o.az.map (aD N F)) H=some (v,H1)) (h:bP E N call b l (aB F o.dst v) H1=some r):bP E N call b (o::l) F H=some r:=by
 simp only[bP,hg,hv];exact h
theorem vp {o:RO} {l:List RO} {v:V} {r:Frame×aq} (hg:o.gd=none) (hv:aR E N call b o.now o.k (o.az.map (aD N F)) H=some (v,H)) (h:bP E N call b l (aB F o.dst v) H=some r):bP E N call b (o::l) F H=some r:=iA hg hv h
theorem dL:bP E N call b [] F H=some (F,H):=rfl
theorem ld1 (h:H[0]? = some (.row 1 [cells t])):dx H (.load 1 false) [.hptr 0 0 0]=some (bu t.procs):=by
 simp[dx,cG,h,Ob.rows];rfl
theorem YV {s:Sl bq} {p:bq} {i:Nat} (h:s.l[i]? = some p):iV 3 (bu s) (i:Int)=some (.fptr (cells p)):=by
 have:=A0 (N:=fun n=>n) s .i64 (i:Int) 3 rfl
 simp only[ay]at this;rw[this,show idx s (i:Int)=some p from by unfold idx;rw[if_pos (by omega)];exact h];rfl
theorem x4 (f2:get F 2=.hptr 0 0 0) (f6:get F 6=.int .i64 k) (h0:H[0]? = some (.row 1 [cells t])) :
 ∃F',bP E N call none r4 F H=some (F',H)∧get F' 15=.bool (decide (k<t.procs.l.length))∧(∀s,s<11→get F' s=get F s):=by
 refine⟨_,vp (v:=.int .i64 k) rfl ?_ <| vp (v:=.hptr 0 0 0) rfl ?_ <| vp (v:=bu t.procs) rfl ?_ <| vp (v:=.int .i64 t.procs.l.length) rfl ?_ <| vp (v:=.bool (decide (k<t.procs.l.length))) rfl ?_ dL,?_,?_⟩
 ·simp[aR,aD,ay,f6]
 ·simp[aR,aD,ay,aB,f2,eZ]
 ·simp only[aR,List.map_cons,List.map_nil,aD,aB,aA,Nat.reduceEqDiff,if_true,if_false];rw[ld1 h0];rfl
 ·simp only[aR,List.map_cons,List.map_nil,aD,aB,aA,Nat.reduceEqDiff,if_true,if_false];rw[vc];rfl
 ·simp[aR,aD,ay,aB,gL,mS]
 ·simp[aB]
 ·intro s hs;simp only[aB,aA]
  repeat (rw[if_neg (by omega)])
theorem wH {n:Nat} (h:n≤2147483648):IntKind.wrap .i64 ((n:Int)+1)=((n+1:Nat):Int):=by
 simp[IntKind.wrap,IntKind.bits,IntKind.signed];omega
theorem x5 {P:bq} {o:Nat} {ids:List Nat} {rows:List (List V)} (f2:get F 2=.hptr 0 0 0) (f6:get F 6=.int .i64 k) (h0:H[0]? = some (.row 1 [cells t])) (hP:t.procs.l[k]? = some P) (hl:P.events.l.length+1≤2147483648)
 (hn:jr H (get F 5) o ids rows) (hr:rows.length+1≤2147483648) :
 ∃F' H',bP E N call none r5 F H=some (F',H')∧jr H' (get F' 5) (H.length+2) (ids++[H.length]) (rows++[List.replicate (P.events.l.length+1) (.bool false)])∧H.length≤H'.length∧(∀id,id<H.length→id≠o∨rows=[]→H'[id]? = H[id]?)∧(∀s,s<11→s≠5→get F' s=get F s):=by
 obtain⟨H',p1,p2,p3,p4⟩:=hn.push (List.replicate (P.events.l.length+1) (.bool false)) hr;have hrep:f_ (List.replicate (P.events.l.length+1) (V.bool false))=List.replicate (P.events.l.length+1) [.bool false]:=by simp[f_]
 rw[hrep,List.length_replicate]at p1;have hb:=wH (n:=P.events.l.length) (by omega)
 refine⟨_,H',vp (v:=get F 5) rfl ?_ <| vp (v:=.hptr 0 0 0) rfl ?_ <| vp (v:=bu t.procs) rfl ?_ <| vp (v:=.int .i64 k) rfl ?_ <| vp (v:=.fptr (cells P)) rfl ?_ <| vp (v:=.fptr [bu P.events]) rfl ?_ <| vp (v:=bu P.events) rfl ?_ <|
  vp (v:=.int .i64 P.events.l.length) rfl ?_ <| vp (v:=.int .i64 ((P.events.l.length+1:Nat):Int)) rfl ?_ <| iA (v:=.hsl H.length 1 0 (P.events.l.length+1)) (H1:=H++[.row 1 (List.replicate (P.events.l.length+1) [.bool false])]) rfl ?_ <|
  iA (v:=.hsl (H.length+1) 1 0 1) (H1:=H++[.row 1 (List.replicate (P.events.l.length+1) [.bool false])]++[.row 1 [[.hsl H.length 1 0 (P.events.l.length+1)]]]) rfl ?_ <|
  iA (v:=.hsl (H.length+2) 1 0 (rows.length+1)) (H1:=H') rfl ?_ <| vp (v:=.hsl (H.length+2) 1 0 (rows.length+1)) rfl ?_ dL,?_,p3,p4,?_⟩
 ·simp[aR,aD,ay]
 ·simp[aR,aD,ay,aB,f2,eZ]
 ·simp only[aR,List.map_cons,List.map_nil,aD,aB,aA,Nat.reduceEqDiff,if_true,if_false];rw[ld1 h0];rfl
 ·simp[aR,aD,ay,aB,f6]
 ·simp only[aR,List.map_cons,List.map_nil,aD,aB,aA,Nat.reduceEqDiff,if_true,if_false,ay];rw[YV hP];rfl
 ·simp only[aR,List.map_cons,List.map_nil,aD,aB,aA,Nat.reduceEqDiff,if_true,if_false,ay];rfl
 ·simp only[aR,List.map_cons,List.map_nil,aD,aB,aA,Nat.reduceEqDiff,if_true,if_false];rfl
 ·simp only[aR,List.map_cons,List.map_nil,aD,aB,aA,Nat.reduceEqDiff,if_true,if_false];rw[vc];rfl
 ·simp only[aR,List.map_cons,List.map_nil,aD,aB,aA,Nat.reduceEqDiff,if_true,if_false,ay,gL];rw[hb];rfl
 ·simp only[aR,List.map_cons,List.map_nil,aD,aB,aA,Nat.reduceEqDiff,if_true,if_false,iy];rw[if_pos ⟨trivial,trivial,by omega,by omega,by omega⟩]
  simp only[Option.map_some,Mk.val,Int.toNat_natCast]
 ·simp only[aR,List.map_cons,List.map_nil,aD,aB,aA,Nat.reduceEqDiff,if_true,if_false,iy];simp[eU,V.cells,V.one,Mk.val]
 ·simp only[aR,List.map_cons,List.map_nil,aD,aB,aA,Nat.reduceEqDiff,if_true,if_false];exact p1
 ·simp[aR,aD,ay,aB]
 ·simp only[aB,aA,if_true];exact p2
 ·intro s hs h5;simp only[aB,aA];rw[if_neg (Ne.symm h5)]
  repeat (rw[if_neg (by omega)])
theorem x6 (f6:get F 6=.int .i64 k) (hk:k≤2147483648):∃F',bP E N call none r6 F H=some (F',H)∧get F' 6=.int .i64 ((k+1:Nat):Int)∧(∀s,s<11→s≠6→get F' s=get F s):=by
 have hb:=wH hk;refine⟨_,vp (v:=.int .i64 k) rfl ?_ <| vp (v:=.int .i64 ((k+1:Nat):Int)) rfl ?_ <| vp (v:=.int .i64 ((k+1:Nat):Int)) rfl ?_ dL,?_,?_⟩
 ·simp[aR,aD,ay,f6]
 ·simp only[aR,List.map_cons,List.map_nil,aD,aB,aA,Nat.reduceEqDiff,if_true,if_false,ay,gL];rw[hb];rfl
 ·simp[aR,aD,ay,aB]
 ·simp[aB]
 ·intro s hs h6;simp only[aB,aA];rw[if_neg (Ne.symm h6)]
  repeat (rw[if_neg (by omega)])
end
structure P1 (t:Trace) (x:aa) (k:Nat) (F:Frame) (H:aq):Prop where
 f2:get F 2=.hptr 0 0 0
 f3:get F 3=.hptr 1 0 0
 f6:get F 6=.int .i64 k
 h0:H[0]? = some (.row 1 [cells t])
 h1:H[1]? = some (.row 2 [cells x])
 ns:∃o ids,jr H (get F 5) o ids (gO ((eu t).take k))∧(k≠0→2≤o)∧∀id∈ids,2≤id
theorem sy (out:List (List Bool)):(gO out).length=out.length:=by simp[gO]
theorem G0 {E:Env} {N:Nat→FuncId} {t:Trace} {x:aa} (hok:wk t=true):∀(m k:Nat) (F:Frame) (H:aq),k+m=t.procs.l.length→P1 t x k F H→∃F' H',kr E N L1 F H (.exit 0) F' H'∧P1 t x t.procs.l.length F' H':=by
 have hok':t.procs.l.length≤2147483648∧∀P∈t.procs.l,P.events.l.length+1≤2147483648:=by
  simpa [wk]using hok
 intro m
 induction m with
 | zero=>
  intro k F H hk p;have hk':k=t.procs.l.length:=by omega
  obtain⟨F1,e1,e2,e3⟩:=x4 (E:=E) (N:=N) (call:=fun _ _ _=>none) p.f2 p.f6 p.h0
  refine⟨F1,H,kr.stop (Ex.tS (Ex.seq (Ex.c8 fun c=>?_) (Ex.rH ?_ Ex.exit)) (by simp)) (by simp),?_⟩
  ·obtain⟨F2,g1,_,_⟩:=x4 (E:=E) (N:=N) (call:=c) p.f2 p.f6 p.h0;have:bP E N c none r4 F H=bP E N (fun _ _ _=>none) none r4 F H:=rfl
   rw[this];exact e1
  ·show get F1 15=_;rw[e2];simp[hk']
  ·subst hk';exact⟨by rw[e3 2 (by omega)];exact p.f2,by rw[e3 3 (by omega)];exact p.f3,by rw[e3 6 (by omega)];exact p.f6,p.h0,p.h1,by rw[e3 5 (by omega)];exact p.ns⟩
 | succ m ih=>
  intro k F H hk p;have hkl:k<t.procs.l.length:=by omega
  obtain⟨o,ids,n1,n2,n3⟩:=p.ns;obtain⟨F1,e1,e2,e3⟩:=x4 (E:=E) (N:=N) (call:=fun _ _ _=>none) p.f2 p.f6 p.h0
  have hP:=ζd hkl;have hlen:((eu t).take k).length=k:=by simp[eu];omega
  have n1':jr H (get F1 5) o ids (gO ((eu t).take k)):=by rw[e3 5 (by omega)];exact n1
  obtain⟨F2,H2,g1,g2,g3,g4,g5⟩:=x5 (E:=E) (N:=N) (call:=fun _ _ _=>none) (by rw[e3 2 (by omega)];exact p.f2) (by rw[e3 6 (by omega)];exact p.f6) p.h0 hP (hok'.2 _ (List.getElem_mem hkl)) n1' (by rw[sy,hlen];omega)
  obtain⟨F3,q1,q2,q3⟩:=x6 (E:=E) (N:=N) (call:=fun _ _ _=>none) (H:=H2) (k:=k) (F:=F2) (by rw[g5 6 (by omega) (by omega),e3 6 (by omega)];exact p.f6) (by omega)
  have hl:=n1.lt;have h0l:=(ζe.1 p.h0).1;have h1l:=(ζe.1 p.h1).1;have hkeep:∀i,i<2→i<H.length→H2[i]? = H[i]? := fun i hi hl=>g4 i hl (by
   by_cases hk0:k=0
   ·subst hk0;right;simp[gO]
   ·left;have:=n2 hk0;omega)
  have hp3:P1 t x (k+1) F3 H2:=by
   refine⟨by rw[q3 2 (by omega) (by omega),g5 2 (by omega) (by omega),e3 2 (by omega)];exact p.f2,by rw[q3 3 (by omega) (by omega),g5 3 (by omega) (by omega),e3 3 (by omega)];exact p.f3,q2,
    by rw[hkeep 0 (by omega) h0l];exact p.h0,by rw[hkeep 1 (by omega) h1l];exact p.h1,H.length+2,ids++[H.length],?_,fun _=>by omega,fun id hid=>?_⟩
   ·rw[q3 5 (by omega) (by omega)]
    have hrows:gO ((eu t).take (k+1))=gO ((eu t).take k)++[List.replicate (t.procs.l[k].events.l.length+1) (.bool false)]:=by
     rw[List.take_add_one];have:(eu t)[k]? = some (List.replicate (t.procs.l[k].events.l.length+1) false):=by simp[eu,hP]
     rw[this];simp[gO]
    rw[hrows];exact g2
   ·rcases List.mem_append.1 hid with h|h
    ·exact n3 id h
    ·simp at h;omega
  obtain⟨F',H',r1,r2⟩:=ih (k+1) F3 H2 (by omega) hp3
  refine⟨F',H',kr.step (Ex.seq (Ex.seq (Ex.c8 fun c=>e1) (Ex.mq ?_ Ex.skip)) (Ex.seq (Ex.block (Ex.c8 fun c=>g1)) (Ex.c8 fun c=>q1))) r1,r2⟩
  show get F1 15=_;rw[e2];simp[hkl]
section
variable {E:Env} {N:Nat→FuncId} {t:Trace} {x y:aa} {F:Frame} {H:aq} {call:b9}
theorem x8 {l:List (List V)} {id:Nat} (h:g_ H (get F 7) l id):∃F',bP E N call none r8 F H=some (F',H)∧get F' 35=.bool (decide (0<l.length))∧(∀s,s<11→get F' s=get F s):=by
 refine⟨_,vp (v:=get F 7) rfl ?_ <| vp (v:=.int .i64 l.length) rfl ?_ <| vp (v:=.bool (decide (0<l.length))) rfl ?_ dL,?_,?_⟩
 ·simp[aR,aD,ay]
 ·simp only[aR,List.map_cons,List.map_nil,aD,aB,aA,Nat.reduceEqDiff,if_true,if_false,ay,h.len,Option.map_some]
 ·simp[aR,aD,ay,aB,gL,mS]
 ·simp[aB]
 ·intro s hs;simp only[aB,aA]
  repeat (rw[if_neg (by omega)])
theorem x9 {l:List (List V)} {id:Nat} (h:g_ H (get F 7) (cells y::l) id):∃F',bP E N call none r9 F H=some (F',H++[.row 2 [cells y]])∧get F' 8=.hptr H.length 0 0∧(∀s,s<11→s≠8→get F' s=get F s):=by
 obtain⟨p,p1,p2⟩:=h.get (i:=0) (c:=cells y) rfl;refine⟨_,vp (v:=get F 7) rfl ?_ <| vp (v:=p) rfl ?_ <| vp (v:=.agg (cells y)) rfl ?_ <| iA (v:=.hptr H.length 0 0) (H1:=H++[.row 2 [[.int .i64 0,.int .i64 0]]]) rfl ?_ <| iA (v:=.undef) (H1:=H++[.row 2 [cells y]]) rfl ?_ dL,?_,?_⟩
 ·simp[aR,aD,ay]
 ·simp only[aR,List.map_cons,List.map_nil,aD,aB,aA,Nat.reduceEqDiff,if_true,if_false,ay];rw[show (0:Int)=((0:Nat):Int)from rfl,p1];rfl
 ·simp only[aR,List.map_cons,List.map_nil,aD,aB,aA,Nat.reduceEqDiff,if_true,if_false];rw[p2];rfl
 ·simp only[aR,List.map_cons,List.map_nil,aD,aB,aA,Nat.reduceEqDiff,if_true,if_false,iy,Option.map_some,Mk.val]
 ·simp only[aR,List.map_cons,List.map_nil,aD,aB,aA,Nat.reduceEqDiff,if_true,if_false];simp[dS,V.cells,V.one]
 ·simp[aB]
 ·intro s hs h8;simp only[aB,aA];rw[if_neg (Ne.symm h8)]
  repeat (rw[if_neg (by omega)])
theorem Zf {c:List V} {l:List (List V)} {id:Nat} (h:g_ H (get F 7) (c::l) id):∃F',bP E N call none CH F H=some (F',H)∧g_ H (get F' 7) l id∧(∃off m off',get F 7=.hsl id 2 off m∧get F' 7=.hsl id 2 off' l.length)∧(∀s,s<11→s≠7→get F' s=get F s):=by
 obtain⟨w',p1,p2,off,m,off',p3,p4⟩:=h.tail;refine⟨_,vp (v:=get F 7) rfl ?_ <| vp (v:=w') rfl ?_ <| vp (v:=w') rfl ?_ dL,?_,⟨off,m,off',p3,?_⟩,?_⟩
 ·simp[aR,aD,ay]
 ·simp only[aR,List.map_cons,List.map_nil,aD,aB,aA,Nat.reduceEqDiff,if_true,if_false,ay,jo,ζb,p1,Option.map_some]
 ·simp[aR,aD,ay,aB]
 ·simp only[aB,aA,if_true];exact p2
 ·simp only[aB,aA,if_true];exact p4
 ·intro s hs h8;simp only[aB,aA];rw[if_neg (Ne.symm h8)]
  repeat (rw[if_neg (by omega)])
theorem gH (H:aq):H.take H.length=H:=List.take_length ..
theorem Qt {c:Nat} (hc:H[c]? = some (.row 2 [cells y])):dx H (.load 1 false) [.hptr c 0 0]=some (.int .i64 y.proc)∧dx H (.load 1 false) [.hptr c 0 1]=some (.int .i64 y.index)∧dx H (.load 2 true) [.hptr c 0 0]=some (enc y):=by
 refine⟨?_,?_,?_⟩ <;> simp[dx,cG,hc,Ob.rows,cut] <;> rfl
theorem QW {c o:Nat} {ids:List Nat} {rows:List (List V)} {p j:Nat} {r:List V} {u:V} (f8:get F 8=.hptr c 0 0) (hc:H[c]? = some (.row 2 [cells y])) (hn:jr H (get F 5) o ids rows) (hp:y.proc=p) (hj:y.index=j) (hr:rows[p]? = some r) (hu:r[j]? = some u) :
 ∃F',bP E N call (some H.length) DX F H=some (F',H)∧get F' 49=u∧(∀s,s<11→get F' s=get F s):=by
 obtain⟨id,q0,q1,q2,q3,q4⟩:=hn.cell hr hu;obtain⟨c1,c2,_⟩:=Qt hc;rw[hp]at c1;rw[hj]at c2;refine⟨_,vp (v:=get F 5) rfl ?_ <| vp (v:=.hptr c 0 0) rfl ?_ <| vp (v:=.int .i64 p) rfl ?_ <| vp (v:=.hptr o p 0) rfl ?_ <| vp (v:=.hsl id 1 0 r.length) rfl ?_ <| vp (v:=.hptr c 0 1) rfl ?_ <| vp (v:=.int .i64 j) rfl ?_ <| vp (v:=.hptr id j 0) rfl ?_ <| vp (v:=u) rfl ?_ dL,?_,?_⟩
 ·simp[aR,aD,ay]
 ·simp[aR,aD,ay,aB,f8,eZ]
 ·simp only[aR,List.map_cons,List.map_nil,aD,aB,aA,Nat.reduceEqDiff,if_true,if_false,gH];rw[c1];rfl
 ·simp only[aR,List.map_cons,List.map_nil,aD,aB,aA,Nat.reduceEqDiff,if_true,if_false,ay];rw[q1];rfl
 ·simp only[aR,List.map_cons,List.map_nil,aD,aB,aA,Nat.reduceEqDiff,if_true,if_false,gH];rw[q2];rfl
 ·simp[aR,aD,ay,aB,f8,eZ]
 ·simp only[aR,List.map_cons,List.map_nil,aD,aB,aA,Nat.reduceEqDiff,if_true,if_false,gH];rw[c2];rfl
 ·simp only[aR,List.map_cons,List.map_nil,aD,aB,aA,Nat.reduceEqDiff,if_true,if_false,ay];rw[q3];rfl
 ·simp only[aR,List.map_cons,List.map_nil,aD,aB,aA,Nat.reduceEqDiff,if_true,if_false,gH];rw[q4];rfl
 ·simp[aB]
 ·intro s hs;simp only[aB,aA]
  repeat (rw[if_neg (by omega)])
theorem Ze {c o:Nat} {ids:List Nat} {rows:List (List V)} {p j:Nat} {r:List V} {u:V} (f8:get F 8=.hptr c 0 0) (hc:H[c]? = some (.row 2 [cells y])) (hn:jr H (get F 5) o ids rows) (hp:y.proc=p) (hj:y.index=j) (hr:rows[p]? = some r) (hu:r[j]? = some u) :
 ∃F' H',bP E N call (some H.length) CA F H=some (F',H')∧jr H' (get F' 5) o ids (rows.set p (r.set j (.bool true)))∧H'.length=H.length∧(∀i,i∉ids→H'[i]? = H[i]?)∧(∀s,s<11→get F' s=get F s):=by
 obtain⟨id,q0,q1,q2,q3,q4⟩:=hn.cell hr hu;obtain⟨c1,c2,_⟩:=Qt hc;rw[hp]at c1;rw[hj]at c2;obtain⟨H',s1,s2,s3,s4⟩:=hn.set hr (ζe.1 hu).1 q0 (u:=.bool true) rfl rfl;refine⟨_,H',vp (v:=get F 5) rfl ?_ <| vp (v:=.hptr c 0 0) rfl ?_ <| vp (v:=.int .i64 p) rfl ?_ <| vp (v:=.hptr o p 0) rfl ?_ <| vp (v:=.hsl id 1 0 r.length) rfl ?_ <| vp (v:=.hptr c 0 1) rfl ?_ <| vp (v:=.int .i64 j) rfl ?_ <| vp (v:=.hptr id j 0) rfl ?_ <| iA (v:=.undef) (H1:=H') rfl ?_ dL,?_,s3,fun i hi=>s4 i fun e=>hi (e▸List.mem_of_getElem? q0),?_⟩
 ·simp[aR,aD,ay]
 ·simp[aR,aD,ay,aB,f8,eZ]
 ·simp only[aR,List.map_cons,List.map_nil,aD,aB,aA,Nat.reduceEqDiff,if_true,if_false,gH];rw[c1];rfl
 ·simp only[aR,List.map_cons,List.map_nil,aD,aB,aA,Nat.reduceEqDiff,if_true,if_false,ay];rw[q1];rfl
 ·simp only[aR,List.map_cons,List.map_nil,aD,aB,aA,Nat.reduceEqDiff,if_true,if_false,gH];rw[q2];rfl
 ·simp[aR,aD,ay,aB,f8,eZ]
 ·simp only[aR,List.map_cons,List.map_nil,aD,aB,aA,Nat.reduceEqDiff,if_true,if_false,gH];rw[c2];rfl
 ·simp only[aR,List.map_cons,List.map_nil,aD,aB,aA,Nat.reduceEqDiff,if_true,if_false,ay];rw[q3];rfl
 ·simp only[aR,List.map_cons,List.map_nil,aD,aB,aA,Nat.reduceEqDiff,if_true,if_false,s1]
 ·simp only[aB,aA,Nat.reduceEqDiff,if_false];exact s2
 ·intro s hs;simp only[aB,aA]
  repeat (rw[if_neg (by omega)])
def Cj (E:Env) (N:Nat→FuncId) (t:Trace) (dir:aa→Option (Sl aa)):Prop:=∀(y:aa) (s:Sl aa) (H:aq),dir y=some s →
 ∃w X id,(∃n,∀k,n≤k→dX E (run E k) (N 131) [enc t,enc y] H=some (w,H++X))∧g_ (H++X) w (s.l.map cells) id∧(∀off m,w=.hsl id 2 off m→id=H.length)
theorem WX {a d:Nat} (hd:E.keep (N 131)=true) {dir:aa→Option (Sl aa)} (hD:Cj E N t dir) {s:Sl aa} (hs:dir y=some s) (f2:get F 2=.hptr 0 0 0) (h0:H[0]? = some (.row 1 [cells t])) {c:Nat} (hc:H[c]? = some (.row 2 [cells y])) :
 ∃w X id,g_ (H++X) w (s.l.map cells) id∧(∀off m,w=.hsl id 2 off m→id=H.length) ∧
  (get F 8=.hptr c 0 0→∃F',(∃n,∀k,n≤k→bP E N (run E k) none DP F H=some (F',H++X))∧get F' 9=w∧(∀s,s<11→s≠9→get F' s=get F s)) ∧
  (get F 3=.hptr c 0 0→∃F',(∃n,∀k,n≤k→bP E N (run E k) none r7 F H=some (F',H++X))∧get F' 7=w∧(∀s,s<11→s≠7→get F' s=get F s)):=by
 obtain⟨w,X,id,⟨n,e1⟩,e2,e3⟩:=hD y s H hs;have ht:dx H (.load 1 true) [.hptr 0 0 0]=some (enc t):=by
  simp[dx,cG,h0,Ob.rows,cut];rfl
 obtain⟨_,_,hy⟩:=Qt hc;refine⟨w,X,id,e2,e3,fun f8=>⟨_,⟨n,fun k hk=>vp (v:=enc t) rfl ?_ <| vp (v:=enc y) rfl ?_ <| iA (v:=w) (H1:=H++X) rfl ?_ <| vp (v:=w) rfl ?_ dL⟩,?_,?_⟩,fun f3=>⟨_,⟨n,fun k hk=>vp (v:=enc t) rfl ?_ <| vp (v:=enc y) rfl ?_ <| iA (v:=w) (H1:=H++X) rfl ?_ <| vp (v:=w) rfl ?_ dL⟩,?_,?_⟩⟩
 ·simp only[aR,List.map_cons,List.map_nil,aD,f2];rw[ht];rfl
 ·simp only[aR,List.map_cons,List.map_nil,aD,aB,aA,Nat.reduceEqDiff,if_true,if_false,f8];rw[hy];rfl
 ·simp only[aR,List.map_cons,List.map_nil,aD,aB,aA,Nat.reduceEqDiff,if_true,if_false,hd,List.nil_append,List.append_nil];exact e1 k hk
 ·simp[aR,aD,ay,aB]
 ·simp[aB]
 ·intro s hs h9;simp only[aB,aA];rw[if_neg (Ne.symm h9)]
  repeat (rw[if_neg (by omega)])
 ·simp only[aR,List.map_cons,List.map_nil,aD,f2];rw[ht];rfl
 ·simp only[aR,List.map_cons,List.map_nil,aD,aB,aA,Nat.reduceEqDiff,if_true,if_false,f3];rw[hy];rfl
 ·simp only[aR,List.map_cons,List.map_nil,aD,aB,aA,Nat.reduceEqDiff,if_true,if_false,hd,List.nil_append,List.append_nil];exact e1 k hk
 ·simp[aR,aD,ay,aB]
 ·simp[aB]
 ·intro s hs h9;simp only[aB,aA];rw[if_neg (Ne.symm h9)]
  repeat (rw[if_neg (by omega)])
end
section
variable {E:Env} {N:Nat→FuncId} {F:Frame} {H:aq} {call:b9} {i:Nat}
theorem Mm {l:List (List V)} {id:Nat} (f10:get F 10=.int .i64 i) (h:g_ H (get F 9) l id):∃F',bP E N call none Fb F H=some (F',H)∧get F' 64=.bool (decide (i<l.length))∧(∀s,s<11→get F' s=get F s):=by
 refine⟨_,vp (v:=.int .i64 i) rfl ?_ <| vp (v:=get F 9) rfl ?_ <| vp (v:=.int .i64 l.length) rfl ?_ <| vp (v:=.bool (decide (i<l.length))) rfl ?_ dL,?_,?_⟩
 ·simp[aR,aD,ay,f10]
 ·simp[aR,aD,ay,aB]
 ·simp only[aR,List.map_cons,List.map_nil,aD,aB,aA,Nat.reduceEqDiff,if_true,if_false,ay,h.len,Option.map_some]
 ·simp[aR,aD,ay,aB,gL,mS]
 ·simp[aB]
 ·intro s hs;simp only[aB,aA]
  repeat (rw[if_neg (by omega)])
theorem Zt {l l9:List (List V)} {id id9:Nat} {c:List V} (f10:get F 10=.int .i64 i) (h:g_ H (get F 7) l id) (h9:g_ H (get F 9) l9 id9) (hc:l9[i]? = some c) (hl:l.length+1≤2147483648) :
 ∃F' H',bP E N call none r16 F H=some (F',H')∧g_ H' (get F' 7) (l++[c]) (H.length+1)∧H'.length=H.length+2∧(∀i,i<H.length→(∀off m,get F 7=.hsl id 2 off m→i≠id)→H'[i]? = H[i]?)∧(∀s,s<11→s≠7→get F' s=get F s):=by
 have hcc:=h9.c c (List.mem_of_getElem? hc);obtain⟨p,p1,p2⟩:=h9.get hc;obtain⟨H',q1,q2,q3,q4⟩:=h.push hcc hl;refine⟨_,H',vp (v:=get F 7) rfl ?_ <| vp (v:=get F 9) rfl ?_ <| vp (v:=.int .i64 i) rfl ?_ <| vp (v:=p) rfl ?_ <| vp (v:=.agg c) rfl ?_ <| iA (v:=.hsl H.length 2 0 1) (H1:=H++[.row 2 [c]]) rfl ?_ <| iA (v:=.hsl (H.length+1) 2 0 (l.length+1)) (H1:=H') rfl ?_ <| vp (v:=.hsl (H.length+1) 2 0 (l.length+1)) rfl ?_ dL,?_,q3,q4,?_⟩
 ·simp[aR,aD,ay]
 ·simp[aR,aD,ay,aB]
 ·simp[aR,aD,ay,aB,f10]
 ·simp only[aR,List.map_cons,List.map_nil,aD,aB,aA,Nat.reduceEqDiff,if_true,if_false,ay];rw[p1];rfl
 ·simp only[aR,List.map_cons,List.map_nil,aD,aB,aA,Nat.reduceEqDiff,if_true,if_false];rw[p2];rfl
 ·simp only[aR,List.map_cons,List.map_nil,aD,aB,aA,Nat.reduceEqDiff,if_true,if_false,iy];have h2:c.all V.one=true:=hcc.2;simp[eU,V.cells,hcc.1,Mk.val];exact fun a ha=>List.all_eq_true.1 h2 a ha
 ·simp only[aR,List.map_cons,List.map_nil,aD,aB,aA,Nat.reduceEqDiff,if_true,if_false];exact q1
 ·simp[aR,aD,ay,aB]
 ·simp only[aB,aA,if_true];exact q2
 ·intro s hs h8;simp only[aB,aA];rw[if_neg (Ne.symm h8)]
  repeat (rw[if_neg (by omega)])
theorem Zq (f10:get F 10=.int .i64 i) (hk:i≤2147483648):∃F',bP E N call none Jn F H=some (F',H)∧get F' 10=.int .i64 ((i+1:Nat):Int)∧(∀s,s<11→s≠10→get F' s=get F s):=by
 have hb:=wH hk;refine⟨_,vp (v:=.int .i64 i) rfl ?_ <| vp (v:=.int .i64 ((i+1:Nat):Int)) rfl ?_ <| vp (v:=.int .i64 ((i+1:Nat):Int)) rfl ?_ dL,?_,?_⟩
 ·simp[aR,aD,ay,f10]
 ·simp only[aR,List.map_cons,List.map_nil,aD,aB,aA,Nat.reduceEqDiff,if_true,if_false,ay,gL];rw[hb];rfl
 ·simp[aR,aD,ay,aB]
 ·simp[aB]
 ·intro s hs h6;simp only[aB,aA];rw[if_neg (Ne.symm h6)]
  repeat (rw[if_neg (by omega)])
structure P3 (l l9:List (List V)) (B i:Nat) (F:Frame) (H:aq):Prop where
 f10:get F 10=.int .i64 i
 t9:∃id9,g_ H (get F 9) l9 id9∧∃id,g_ H (get F 7) l id∧(∀off m,get F 7=.hsl id 2 off m→B≤id∧∀off' m',get F 9=.hsl id9 2 off' m'→id≠id9)
 len:B≤H.length
theorem V0 (l9:List (List V)) (B:Nat) (hl9:l9.length≤2147483648):∀(m i:Nat) (l:List (List V)) (F:Frame) (H:aq),i+m=l9.length→l.length+m≤2147483648→P3 l l9 B i F H →
 ∃F' H',kr E N L3 F H (.exit 4) F' H'∧(∃id,g_ H' (get F' 7) (l++l9.drop i) id∧∀off m,get F' 7=.hsl id 2 off m→B≤id)∧(∀s,s<7→get F' s=get F s)∧(∀j,j<B→H'[j]? = H[j]?)∧H.length≤H'.length:=by
 intro m
 induction m with
 | zero=>
  intro i l F H hi hl p;obtain⟨id9,t9,id,t7,ap⟩:=p.t9;obtain⟨F1,e1,e2,e3⟩:=Mm (E:=E) (N:=N) (call:=fun _ _ _=>none) p.f10 t9
  refine⟨F1,H,kr.stop (Ex.tS (Ex.seq (Ex.c8 fun c=>e1) (Ex.rH ?_ Ex.exit)) (by simp)) (by simp),⟨id,?_,fun off m h=>?_⟩,fun s hs=>e3 s (by omega),fun _ _=>rfl,Nat.le_refl _⟩
  ·show get F1 64=_;rw[e2];simp;omega
  ·rw[e3 7 (by omega),List.drop_of_length_le (by omega),List.append_nil];exact t7
  ·rw[e3 7 (by omega)]at h;exact(ap off m h).1
 | succ m ih=>
  intro i l F H hi hl p;have hil:i<l9.length:=by omega
  obtain⟨id9,t9,id,t7,ap⟩:=p.t9;obtain⟨F1,e1,e2,e3⟩:=Mm (E:=E) (N:=N) (call:=fun _ _ _=>none) p.f10 t9
  have hc:=ζd hil;have t7':g_ H (get F1 7) l id:=by rw[e3 7 (by omega)];exact t7
  have t9':g_ H (get F1 9) l9 id9:=by rw[e3 9 (by omega)];exact t9
  obtain⟨F2,H2,g1,g2,g3,g4,g5⟩:=Zt (E:=E) (N:=N) (call:=fun _ _ _=>none) (by rw[e3 10 (by omega)];exact p.f10) t7' t9' hc (by omega)
  obtain⟨F3,q1,q2,q3⟩:=Zq (E:=E) (N:=N) (call:=fun _ _ _=>none) (H:=H2) (i:=i) (F:=F2) (by rw[g5 10 (by omega) (by omega),e3 10 (by omega)];exact p.f10) (by omega)
  have keep:∀j,j<H.length→(∀off m,get F 7=.hsl id 2 off m→j≠id)→H2[j]? = H[j]? := fun j hj h=>g4 j hj (by rw[e3 7 (by omega)];exact h)
  have hp3:P3 (l++[l9[i]]) l9 B (i+1) F3 H2:=by
   refine⟨q2,⟨id9,?_,H.length+1,by rw[q3 7 (by omega) (by omega)];exact g2,fun off m h=>⟨by have:=p.len;omega,fun off' m' h'=>?_⟩⟩,by have:=p.len;omega⟩
   ·rw[q3 9 (by omega) (by omega),g5 9 (by omega) (by omega),e3 9 (by omega)]
    exact t9.heap fun off n hw=>keep id9 (t9.lt hw) fun off' m' hw'=>Ne.symm ((ap off' m' hw').2 off n hw)
   ·rw[q3 9 (by omega) (by omega),g5 9 (by omega) (by omega),e3 9 (by omega)]at h'
    have:=t9.lt h';omega
  obtain⟨F',H',r1,⟨id',r2,r3⟩,r4,r5,r6⟩:=ih (i+1) (l++[l9[i]]) F3 H2 (by omega) (by simp;omega) hp3
  refine⟨F',H',kr.step (Ex.seq (Ex.seq (Ex.c8 fun c=>e1) (Ex.mq ?_ Ex.skip)) (Ex.seq (Ex.block (Ex.c8 fun c=>g1)) (Ex.c8 fun c=>q1))) r1,⟨id',?_,r3⟩,fun s hs=>?_,fun j hj=>?_,by omega⟩
  ·show get F1 64=_;rw[e2];simp[hil]
  ·rw[List.append_assoc]at r2;rw[List.drop_eq_getElem_cons hil];exact r2
  ·rw[r4 s hs,q3 s (by omega) (by omega),g5 s (by omega) (by omega),e3 s (by omega)]
  ·have:=p.len;rw[r5 j hj,keep j (by omega) fun off m h=>by have:=(ap off m h).1;omega]
end
structure P2 (t:Trace) (out:List (List Bool)) (l:List aa) (F:Frame) (H:aq):Prop where
 f2:get F 2=.hptr 0 0 0
 h0:H[0]? = some (.row 1 [cells t])
 ns:∃B o ids id,jr H (get F 5) o ids (gO out)∧(out≠[]→1≤o∧o<B)∧(∀id∈ids,1≤id∧id<B)∧1≤B∧B≤H.length∧g_ H (get F 7) (l.map cells) id∧∀off m,get F 7=.hsl id 2 off m→B≤id
theorem KA (out:List (List Bool)) (p j:Nat) (row:List Bool):gO (out.set p (row.set j true))=(gO out).set p ((row.map V.bool).set j (.bool true)):=by
 simp[gO,List.map_set]
theorem CN {out:List (List Bool)}:gO out=[]↔out=[]:=by simp[gO]
theorem Lc {dir:aa→Option (Sl aa)} {out:List (List Bool)} {y:aa} {rest:List aa} {w:Fw (List (List Bool)×List aa) (List (List Bool)) Empty} (h:kJ dir (out,y::rest)=some w) :
 ∃(p j:Nat) (row:List Bool) (b:Bool),y.proc=p∧y.index=j∧out[p]? = some row∧row[j]? = some b∧((b=true∧w=.n (out,rest))∨(b=false∧∃more,dir y=some more∧rest.length+more.l.length≤2147483648∧w=.n (out.set p (row.set j true),rest++more.l))):=by
 simp only[kJ]at h;split at h
 ·rename_i hy;obtain⟨row,h1,h⟩:=ζg.1 h;obtain⟨b,h2,h⟩:=ζg.1 h;refine⟨y.proc.toNat,y.index.toNat,row,b,by omega,by omega,h1,h2,?_⟩
  cases b with
  | true=>left;simp only[au]at h;exact⟨rfl,by simpa using h.symm⟩
  | false=>
   right;simp only[au,Bool.false_eq_true,if_false]at h;obtain⟨more,h3,h⟩:=ζg.1 h;split at h
   ·rename_i hl;exact⟨rfl,more,h3,hl,by simpa using h.symm⟩
   ·cases h
 ·cases h
theorem GK {E:Env} {N:Nat→FuncId} {t:Trace} {dir:aa→Option (Sl aa)} (hd:E.keep (N 131)=true) (hD:Cj E N t dir):∀(k:Nat) (out:List (List Bool)) (l:List aa) (out':List (List Bool)) (F:Frame) (H:aq),
 gq (kJ dir) k (out,l)=some (.x out')→P2 t out l F H→∃F' H',kr E N L2 F H (.exit 2) F' H'∧P2 t out' [] F' H':=by
 intro k
 induction k with
 | zero=>intro out l out' F H h;simp[gq]at h
 | succ k ih=>
  intro out l out' F H h p;obtain⟨B,o,ids,id,n1,n2,n3,n4,n5,t7,t8⟩:=p.ns;obtain⟨F1,e1,e2,e3⟩:=x8 (E:=E) (N:=N) (call:=fun _ _ _=>none) t7
  rw[List.length_map]at e2
  cases l with
  | nil=>
   simp only[gq,kJ]at h;cases h;refine⟨F1,H,kr.stop (Ex.tS (Ex.seq (Ex.c8 fun c=>e1) (Ex.rH ?_ Ex.exit)) (by simp)) (by simp),?_⟩
   ·show get F1 35=_;rw[e2];simp
   ·exact⟨by rw[e3 2 (by omega)];exact p.f2,p.h0,B,o,ids,id,by rw[e3 5 (by omega)];exact n1,n2,n3,n4,n5,by rw[e3 7 (by omega)];exact t7,by rw[e3 7 (by omega)];exact t8⟩
  | cons y rest=>
   simp only[gq]at h
   cases hst:kJ dir (out,y::rest)with
   | none=>rw[hst]at h;cases h
   | some w=>
   rw[hst]at h;obtain⟨q,j,row,b,hq,hj,hrow,hb,hcase⟩:=Lc hst;have t7':g_ H (get F1 7) (cells y::rest.map cells) id:=by rw[e3 7 (by omega)];exact t7
   obtain⟨F2,g1,g2,g3⟩:=x9 (E:=E) (N:=N) (call:=fun _ _ _=>none) t7'
   have t7'':g_ (H++[.row 2 [cells y]]) (get F2 7) (cells y::rest.map cells) id:=by rw[g3 7 (by omega) (by omega)];exact t7'.more _
   obtain⟨F3,i1,i2,⟨off1,m1,off2,i3,i4⟩,i5⟩:=Zf (E:=E) (N:=N) (call:=fun _ _ _=>none) t7''
   have hcl:(H++[Ob.row 2 [cells y]])[H.length]? = some (.row 2 [cells y]):=by simp
   have f8:get F3 8=.hptr H.length 0 0:=by rw[i5 8 (by omega) (by omega)];exact g2
   have f5:get F3 5=get F 5:=by rw[i5 5 (by omega) (by omega),g3 5 (by omega) (by omega),e3 5 (by omega)]
   have f2:get F3 2=.hptr 0 0 0:=by rw[i5 2 (by omega) (by omega),g3 2 (by omega) (by omega),e3 2 (by omega)];exact p.f2
   have n5':jr (H++[.row 2 [cells y]]) (get F3 5) o ids (gO out):=by rw[f5];exact n1.more _
   have hr:(gO out)[q]? = some (row.map V.bool):=by simp[gO,hrow]
   have hu:(row.map V.bool)[j]? = some (.bool b):=by simp[hb]
   have hB8:B≤id:=by
    have:get F 7=.hsl id 2 off1 m1:=by rw[←i3,g3 7 (by omega) (by omega),e3 7 (by omega)]
    exact t8 _ _ this
   obtain⟨F4,j1,j2,j3⟩:=QW (E:=E) (N:=N) (call:=fun _ _ _=>none) f8 hcl n5' hq hj hr hu
   have h35:aD N F1 (.s 35)=.bool true:=by show get F1 35=_;rw[e2];simp
   rcases hcase with⟨rfl,rfl⟩|⟨rfl,more,hm,hlen,rfl⟩
   ·simp only at h;have hp2:P2 t out rest F4 (H++[.row 2 [cells y]]):=by
     refine⟨by rw[j3 2 (by omega)];exact f2,by rw[List.getElem?_append_left (ζe.1 p.h0).1];exact p.h0,B,o,ids,id,by rw[j3 5 (by omega)];exact n5',n2,n3,n4,by simp;omega,by rw[j3 7 (by omega)];exact i2,fun off m _=>hB8⟩
    obtain⟨F',H',r1,r2⟩:=ih out rest out' F4 _ h hp2;exact⟨F',H',kr.step (Ex.seq (Ex.seq (Ex.c8 fun c=>e1) (Ex.mq h35 Ex.skip)) (Ex.t_ (Ex.seq (Ex.c8 fun c=>g1) (Ex.seq (Ex.c8 fun c=>i1) (Ex.tS (Ex.seq (Ex.lM rfl fun c=>j1) (Ex.mq j2 Ex.exit)) (by simp)))))) r1,r2⟩
   ·simp only at h;have n6:jr (H++[.row 2 [cells y]]) (get F4 5) o ids (gO out):=by rw[j3 5 (by omega)];exact n5'
    obtain⟨F5,H5,k1,k2,k3,k4,k5⟩:=Ze (E:=E) (N:=N) (call:=fun _ _ _=>none) (by rw[j3 8 (by omega)];exact f8) hcl n6 hq hj hr hu
    have hnid:∀i,B≤i→i∉ids:=fun i hi hm=>by have:=(n3 i hm).2;omega
    have hc5:H5[H.length]? = some (.row 2 [cells y]):=by rw[k4 _ (hnid _ n5)];exact hcl
    have h05:H5[0]? = some (.row 1 [cells t]):=by
     rw[k4 0 (fun hm=>by have:=(n3 0 hm).1;omega),List.getElem?_append_left (ζe.1 p.h0).1];exact p.h0
    obtain⟨w9,X,id9,m1',m2,m3,_⟩:=WX (a:=0) (d:=0) (F:=F5) hd hD hm (by rw[k5 2 (by omega),j3 2 (by omega)];exact f2) h05 hc5
    obtain⟨F6,⟨nn,o1'⟩,o2',o3⟩:=m3 (by rw[k5 8 (by omega),j3 8 (by omega)];exact f8)
    have hl5:H5.length=H.length+1:=by rw[k3];simp
    have i7:get F6 7=.hsl id 2 off2 (rest.map cells).length:=by rw[o3 7 (by omega) (by omega),k5 7 (by omega),j3 7 (by omega)];exact i4
    have hidl:id<H.length:=by
     have:=t7'.lt (off:=off1) (m:=m1) (by rw[←i3,g3 7 (by omega) (by omega)])
     exact this
    have t6:g_ (H5++X) (get F6 7) (rest.map cells) id:=by
     have:get F6 7=get F3 7:=by rw[o3 7 (by omega) (by omega),k5 7 (by omega),j3 7 (by omega)]
     rw[this];refine(i2.heap (H':=H5) fun off n _=>k4 id (hnid id hB8)).more X
    have s10:∃F7,(∀c,bP E N c none Cs F6 (H5++X)=some (F7,H5++X))∧get F7 10=.int .i64 ((0:Nat):Int)∧∀s,s<10→get F7 s=get F6 s:=
     ⟨set F6 10 (.int .i64 0),fun c=>by simp[Cs,bP,aR,aD,ay,aB],by simp,fun s hs=>by rw[aA,if_neg (by omega)]⟩
    obtain⟨F7,u1,u2,u3⟩:=s10;have hp3:P3 (rest.map cells) (more.l.map cells) B 0 F7 (H5++X):=by
     refine⟨u2,⟨id9,by rw[u3 9 (by omega),o2'];exact m1',id,by rw[u3 7 (by omega)];exact t6,fun off m hh=>⟨hB8,fun off' m' h'=>?_⟩⟩,by simp;omega⟩
     rw[u3 9 (by omega),o2']at h'
     have:=m2 off' m' h';omega
    obtain⟨F8,H8,v1,⟨id8,v2,v3⟩,v4,v5,v6⟩:=V0 (E:=E) (N:=N) (more.l.map cells) B (by simp;omega) (more.l.map cells).length 0 (rest.map cells) F7 (H5++X) (by omega) (by simp;omega) hp3
    have hn8:jr H8 (get F8 5) o ids (gO (out.set q (row.set j true))):=by
     have h5:get F8 5=get F5 5:=by rw[v4 5 (by omega),u3 5 (by omega),o3 5 (by omega) (by omega)]
     rw[h5,KA];refine(k2.more X).heap (fun hne=>v5 o ?_) fun i hi=>v5 i (n3 i hi).2
     have:out≠[]:=by intro e;subst e;simp at hrow
     exact(n2 this).2
    have hp2:P2 t (out.set q (row.set j true)) (rest++more.l) F8 H8:=by
     refine⟨by rw[v4 2 (by omega),u3 2 (by omega),o3 2 (by omega) (by omega),k5 2 (by omega),j3 2 (by omega)];exact f2,?_,B,o,ids,id8,hn8,fun hne=>n2 (by intro e;subst e;simp at hrow),n3,n4,by simp at v6;omega,?_,v3⟩
     ·rw[v5 0 (by omega),List.getElem?_append_left (ζe.1 h05).1];exact h05
     ·rw[List.drop_zero]at v2;rw[List.map_append];exact v2
    obtain⟨F',H',w1,w2⟩:=ih _ _ out' F8 H8 h hp2;exact⟨F',H',kr.step (Ex.seq (Ex.seq (Ex.c8 fun c=>e1) (Ex.mq h35 Ex.skip)) (Ex.block (Ex.seq (Ex.c8 fun c=>g1) (Ex.seq (Ex.c8 fun c=>i1) (Ex.seq (Ex.seq (Ex.lM rfl fun c=>j1) (Ex.rH j2 Ex.skip)) (Ex.seq (Ex.lM rfl fun c=>k1)
     (Ex.seq (Ex.ops ⟨nn,o1'⟩) (Ex.seq (Ex.c8 u1) (Ex.t_ (Ex.loop v1))))))))) ) w1,w2⟩
theorem Mp {H:aq} {Z:Nat→Prop} {id:Nat} {r:List Bool} (hz:Z id) (h:H[id]? = some (.row 1 (f_ (r.map V.bool)))):FR H Z (enc (Sl.row r)) (.hsl id 1 0 r.length):=by
 have hr:ax H id=some (1,f_ (r.map V.bool)):=by simp[ax,h,Ob.rows]
 have he:enc (Sl.row r)=.fsl 1 (rows r):=rfl;have hl:(rows r).length=r.length:=by simp[rows]
 have hc:f_ (r.map V.bool)=rows r:=by simp[f_,rows,List.map_map,Function.comp_def]
 rw[hc]at hr;rw[he,←hl];refine .fsl 1 (rows r) id 0 (rows r) hz hr (by omega) (fun i a b h1 h2=>?_) (fun i j a b u v h1 h2 h3 h4=>?_)
 ·rw[Nat.zero_add,h1]at h2;cases h2;rfl
 ·rw[Nat.zero_add,h1]at h2;cases h2;rw[h3]at h4;cases h4;refine .same u ?_;obtain⟨c,hc1,rfl⟩:∃c∈r,a=[V.bool c]:=by
   have:=List.mem_of_getElem? h1;simp only[rows,List.mem_map]at this;obtain⟨c,hc,rfl⟩:=this;exact⟨c,hc,rfl⟩
  have:=List.mem_of_getElem? h3;simp at this;subst this;rfl
theorem JW {H:aq} {w:V} {o:Nat} {ids:List Nat} {out:List (List Bool)} (n:jr H w o ids (gO out)):∃Z,FR H Z (enc (nested out)) w∧(∀id,Z id→(ax H id).isSome=true)∧Deep H Z:=by
 have hv:=n.v
 by_cases ho:out=[]
 ·subst ho;rw[if_pos (show gO []=[]from rfl)]at hv;subst hv;exact⟨fun _=>False,.same _ rfl,fun _ h=>h.elim,⟨fun _ _ _ h=>h.elim⟩⟩
 ·have hne:gO out≠[]:=fun h=>ho (CN.1 h)
  rw[if_neg hne,sy]at hv;subst hv;have hob:=n.ob hne;have hlen:=n.len;rw[sy]at hlen;have hrow:∀(i id:Nat) (r:List Bool),ids[i]? = some id→out[i]? = some r→H[id]? = some (.row 1 (f_ (r.map V.bool))):=fun i id r h1 h2=>n.r i id _ h1 (by simp[gO,h2])
  have href:∀(i:Nat) (c:List V),(refs ids (gO out))[i]? = some c→∃id r,ids[i]? = some id∧out[i]? = some r∧c=[.hsl id 1 0 r.length]:=fun i c h=>by
   have hi:=(ζe.1 h).1;rw[pM n.len,sy]at hi;have h1:=ζd (show i<ids.length from by omega)
   have h2:=ζd hi;have h3:=yF (rows:=gO out) (r:=out[i].map V.bool) h1 (by simp[gO,h2])
   rw[h]at h3;exact⟨_,_,h1,h2,by simpa using h3⟩
  have hzo:ax H o=some (1,refs ids (gO out)):=by simp[ax,hob,Ob.rows]
  have hzi:∀id∈ids,∃(r:List Bool),H[id]? = some (.row 1 (f_ (r.map V.bool))):=fun id hid=>by
   obtain⟨i,hi⟩:=List.getElem?_of_mem hid;have hl:=(ζe.1 hi).1;exact⟨_,hrow i id _ hi (ζd (show i<out.length from by omega))⟩
  refine⟨fun id=>id=o∨id∈ids,?_,fun id h=>?_,⟨fun id es ys h hr c hc u hu=>?_⟩⟩
  ·have he:enc (nested out)=.fsl 1 (rows (out.map Sl.row)):=by rw[nested,if_neg ho];rfl
   have hl:(rows (out.map Sl.row)).length=out.length:=by simp[rows]
   rw[he,←hl];refine .fsl 1 _ o 0 (refs ids (gO out)) (.inl rfl) hzo (by rw[hl,pM n.len,sy];omega) (fun i a b h1 h2=>?_) (fun i j a b u v h1 h2 h3 h4=>?_)
   ·rw[Nat.zero_add]at h2;obtain⟨id,r,_,hr,rfl⟩:=href i b h2;simp[rows,hr]at h1;subst h1;rfl
   ·rw[Nat.zero_add]at h2;obtain⟨id,r,hid,hr,rfl⟩:=href i b h2;have ha:a=[enc (Sl.row r)]:=by simp[rows,hr]at h1;exact h1.symm
    subst ha
    cases j with
    | zero=>
     simp at h3 h4;subst h3 h4;exact Mp (.inr (List.mem_of_getElem? hid)) (hrow i id r hid hr)
    | succ j=>simp at h3
  ·rcases h with rfl|h
   ·simp[hzo]
   ·obtain⟨r,hr⟩:=hzi id h;simp[ax,hr,Ob.rows]
  ·rcases h with rfl|h
   ·rw[hzo]at hr;cases hr;obtain⟨i,hi⟩:=List.getElem?_of_mem hc;obtain⟨id,r,hid,hro,rfl⟩:=href i c hi;simp at hu;subst hu;exact⟨_,Mp (.inr (List.mem_of_getElem? hid)) (hrow i id r hid hro)⟩
   ·obtain⟨r,hr'⟩:=hzi id h;have:ax H id=some (1,f_ (r.map V.bool)):=by simp[ax,hr',Ob.rows]
    rw[this]at hr;cases hr;simp only[f_,List.mem_map]at hc;obtain⟨_,⟨c',_,rfl⟩,rfl⟩:=hc;simp at hu;subst hu;exact⟨_,.same _ rfl⟩
theorem Px {t:Trace} {x:aa} {out:List (List Bool)} {s:Sl aa} {dir:aa→Option (Sl aa)} (hd:sD.keep (tu 131)=true) (hD:Cj sD tu t dir) (hok:wk t=true) (hs:dir x=some s) (hw:aX (kJ dir) (eu t,s.l)=some (.x out)) :
 yE sD (tu 110) [enc t,enc x] (enc (nested out)):=by
 obtain⟨fi,g1,g2,g3,g4⟩:=shape;obtain⟨k,hk⟩:=kB.1 hw;have b1:∃F1,(∀c,bP sD tu c none r1 [enc t,enc x] []=some (F1,[.row 1 [cells t],.row 2 [cells x]]))∧get F1 2=.hptr 0 0 0∧get F1 3=.hptr 1 0 0:=by
  refine⟨_,fun c=>iA (v:=.hptr 0 0 0) (H1:=[.row 1 [cells t]]) rfl ?_ <| iA (v:=.hptr 1 0 0) (H1:=[.row 1 [cells t],.row 2 [cells x]]) rfl ?_ <| vp (v:=.aF) rfl ?_ dL,?_,?_⟩
  ·show (iy .box [enc t]).map _=_;simp only[iy,ow,nX,if_true,Option.map_some,eR];rfl
  ·simp only[aR,List.map_cons,List.map_nil,aD,aB,aA,Nat.reduceEqDiff,if_false];show (iy .box [enc x]).map _=_;simp only[iy,ow,nX,if_true,Option.map_some,eR];rfl
  ·simp[aR,aD,ay]
  ·simp[aB]
  ·simp[aB]
 obtain⟨F1,c1,c2,c3⟩:=b1;have b3:∃F3,(∀c,bP sD tu c none r2 F1 [.row 1 [cells t],.row 2 [cells x]]=some (set F1 5 .aF,[.row 1 [cells t],.row 2 [cells x]]))∧(∀c,bP sD tu c none r3 (set F1 5 .aF) [.row 1 [cells t],.row 2 [cells x]]=some (F3,[.row 1 [cells t],.row 2 [cells x]]))∧P1 t x 0 F3 [.row 1 [cells t],.row 2 [cells x]]:=by
  refine⟨set (set F1 5 .aF) 6 (.int .i64 0),fun c=>by simp[r2,bP,aR,aD,ay,aB],fun c=>by simp[r3,bP,aR,aD,ay,aB],by simp[c2],by simp[c3],by simp,rfl,rfl,0,[],?_,fun h=>absurd rfl h,fun id h=>by simp at h⟩
  have:get (set (set F1 5 .aF) 6 (.int .i64 0)) 5=.aF:=by simp
  rw[this,List.take_zero];exact jr.nil _ 0
 obtain⟨F3,d1,d2,d3⟩:=b3;obtain⟨F4,H4,e1,e2⟩:=G0 (E:=sD) (N:=tu) hok t.procs.l.length 0 F3 _ (by omega) d3
 obtain⟨o,ids,n1,n2,n3⟩:=e2.ns;have hlen:(eu t).length=t.procs.l.length:=by simp[eu]
 rw[List.take_of_length_le (by omega)]at n1
 obtain⟨w,X,id,m1,m2,_,m4⟩:=WX (a:=0) (d:=0) (F:=F4) (E:=sD) (N:=tu) hd hD hs e2.f2 e2.h0 (c:=1) e2.h1;obtain⟨F5,o1,o2,o3⟩:=m4 e2.f3;have hp2:P2 t (eu t) s.l F5 (H4++X):=by
  refine⟨by rw[o3 2 (by omega) (by omega)];exact e2.f2,by rw[List.getElem?_append_left (ζe.1 e2.h0).1];exact e2.h0,H4.length,o,ids,id,by rw[o3 5 (by omega) (by omega)];exact n1.more X,fun hne=>?_,fun i hi=>⟨by have:=n3 i hi;omega,n1.lt.2 i hi⟩,?_,by simp,by rw[o2];exact m1,fun off m h=>?_⟩
  ·have hne':gO (eu t)≠[]:=fun h=>hne (CN.1 h)
   have:t.procs.l.length≠0:=by intro h;apply hne;exact List.eq_nil_of_length_eq_zero (by omega)
   have:=n2 this;exact⟨by omega,n1.lt.1 hne'⟩
  ·have:=(ζe.1 e2.h0).1;omega
  ·rw[o2]at h;have:=m2 off m h;omega
 obtain⟨F6,H6,p1,p2⟩:=GK hd hD k _ _ out F5 _ hk hp2;obtain⟨B,o',ids',id',q1,_⟩:=p2.ns;have l1:∃F7,(∀c,bP sD tu c none W0 F6 H6=some (F7,H6))∧get F7 4=get F6 5:=by
  refine⟨_,fun c=>vp (v:=get F6 5) rfl ?_ <| vp (v:=get F6 5) rfl ?_ dL,?_⟩
  ·simp[aR,aD,ay]
  ·simp[aR,aD,ay,aB]
  ·simp[aB]
 obtain⟨F7,y1,y2⟩:=l1;have hex:Ex sD tu code [enc t,enc x] [] .ret F7 H6:=
  Ex.seq (Ex.c8 c1) (Ex.seq (Ex.c8 d1) (Ex.seq (Ex.seq (Ex.c8 d2) (Ex.t_ (Ex.loop e1))) (Ex.seq (Ex.ops o1) (Ex.seq (Ex.t_ (Ex.loop p1)) (Ex.seq (Ex.c8 y1) Ex.ret)))))
 obtain⟨n,hrun⟩:=hex.run (nm:=some) AK g1 g2 (show [enc t,enc x].length≤fi.ntmps from g3) (vs:=[get F7 4]) (by rw[g4];rfl)
 obtain⟨Z,z1,z2,z3⟩:=JW q1;exact⟨n,get F6 5,H6,Z,by rw[hrun,y2];rfl,z1,z2,z3⟩
theorem T4 (l:List aa):∀c∈l.map (cells (α:=aa)),c.length=2∧c.all V.one=true∧c.all V.scalar=true:=fun c hc=>by
 obtain⟨e,_,rfl⟩:=List.mem_map.1 hc;exact⟨rfl,rfl,rfl⟩
theorem Wu (t:Trace):Cj sD tu t (cu t):=by
 intro y s H hs;have h1:=vA t y;have h2:=h1 (cN s) (by rw[hs];rfl)
 have hg:V.bF [enc t,enc y]=true:=by simp only[V.bF,kC,Bool.and_self]
 have hkind:s.k=.row∨s.k=.nil∧rows s.l=[]:=by
  have hj:∀o z,(∃l,o=.row l)∨o=.nil→cu.J1 o t y=some z→(∃l,z=.row l)∨z=.nil:=fun o z ho hz=>by
   unfold cu.J1 at hz;obtain⟨e,_,hz⟩:=ζg.1 hz
   cases he:e.kind==3 with
   | true=>
    rw[he]at hz;obtain⟨f,_,hz⟩:=ζg.1 hz;obtain⟨q,hq,hz⟩:=ζg.1 hz;cases hz;unfold kH at hq;split at hq
    ·cases hq;exact .inl ⟨_,rfl⟩
    ·cases hq
   | false=>rw[he]at hz;cases hz;exact ho
  have:(∃l,s=.row l)∨s=.nil:=by
   unfold cu at hs
   cases hc:decide (y.index>1)with
   | true=>rw[hc]at hs;exact hj _ s (.inl ⟨_,rfl⟩) hs
   | false=>rw[hc]at hs;exact hj _ s (.inr rfl) hs
  rcases this with⟨l,rfl⟩|rfl
  ·exact .inl rfl
  ·exact .inr ⟨rfl,rfl⟩
 obtain⟨n,z,H',r1,r2⟩:=SF Mj EX (T:=Tx) (f:=tu 131) (rf:=BA (Tx 131)) (by kernel_rfl) hg (Nat.le_of_ble_eq_true (by kernel_rfl)) (k:=s.k) (es:=2) (xs:=rows s.l) (fun c hc=>(T4 s.l c hc).2.2) hkind h2
 refine C0 (l:=s.l.map cells) (y:=z) (H1:=H') (by kernel_rfl) hg (T4 s.l) ⟨n,fun k hk=>qC _ hk _ _ _ _ r1⟩ ?_ H
 rcases r2 with⟨h3,rfl⟩|⟨id,rfl,h4⟩
 ·left;cases s <;> simp[Sl.k]at h3;exact⟨rfl,rfl⟩
 ·right;exact⟨id,by simp[rows],h4⟩
end pastX
theorem Kz (t:Trace) (x:aa) (r:Sl (Sl Bool)) (h:jT t x=some r):Sy.vz 110 [enc t,enc x]=some (enc r):=by
 unfold jT at h;split at h
 ·rename_i hok;obtain⟨s,hs,h⟩:=ζg.1 h;obtain⟨w,hw,h⟩:=ζg.1 h
  cases w with
  | n a=>exact Empty.elim a
  | r e=>exact Empty.elim e
  | x out=>
   cases h;exact Bt (pastX.Px (by kernel_rfl) (pastX.Wu t) hok hs hw)
 ·cases h
end Go.VE
namespace Go.VE
noncomputable section
def jv:Option Bool:=some true
instance P4:Fc Sy cL jv:=⟨9,[],fun r:Bool=>[.bool r],true,lG.vz (by kernel_rfl) (by kernel_rfl) I7⟩
namespace dO
def aG (s0:Sl Event) (v7:Int) (v8:Int) (p1:Event→Option Bool):Option (Fw Int Unit Int):=
 au (decide (v8<v7))
 ((idx s0 v8).bind fun x_1=>
 (p1 x_1).bind fun x_2=>
 au x_2
 (some (.r v8))
 (some (.n (IntKind.wrap .i64 (v8+1)))))
 (some (.x ()))
def W1 (s0:Sl Event) (v7 v8:Int) (p1:Event→Option Bool):Option Int:=
 (aX (fun q:Int=>aG s0 v7 q p1) v8).bind (Fw.elim
 (fun e=>some (-1))
 (fun e=>some e))
end dO
def dO (s0:Sl Event) (p1:Event→Option Bool):Option Int:=
 dO.W1 s0 (len s0) 0 p1
open dO in
abbrev sC (g1:FuncId) (e1:List V) (p1:Event→Option Bool) (h1:ji Sy cL g1 e1 (fun z:Event=>[enc z]) (fun r:Bool=>[.bool r]) p1) (s0:Sl Event):Fc Sy cL (dO s0 p1):=Fc.M 86 [enc s0,.clo g1 [] e1] (aZ 9 s0 (ck 5 (fun qW1=>(aS [Cv 0 s0,(1,.v (.clo g1 [] e1)),Iv 7 (len s0),Iv 8 qW1] [])) (fun eW1=>(0,(aS [] []))) (fun eW1=>(aS [Iv 4 eW1] [])) (fun qW1=>aJ 7 9 (br 16 fun x_1 _=>tq 1 h1.f x_1 fun x_2 _=>aJ 2 16 aj aj) aj) (fun eW1=>aj) (fun eW1=>aj))) (l:=by simp[h1.d])
def eX (s0:Sl Event) (p1:Event→Option Bool):Option Bool:=
 (dO s0 p1).bind fun x_1=>
 some (decide (x_1≥0))
abbrev kz (g1:FuncId) (e1:List V) (p1:Event→Option Bool) (h1:ji Sy cL g1 e1 (fun z:Event=>[enc z]) (fun r:Bool=>[.bool r]) p1) (s0:Sl Event):Fc Sy cL (eX s0 p1):=Fc.M 40 [enc s0,.clo g1 [] e1] (aK (F:=sC g1 e1 p1 h1 s0) 9 fun x_1 _=>aj) (l:=by simp[h1.d])
def nC (x0:Event):Option Bool:=
 some (decide ((len x0.assign)>12))
instance Md (x0:Event):Fc Sy cL (nC x0):=Fc.M 41 [enc x0] (bY 2 1 x0 (aZ 7 x0.assign aj))
namespace ez
def aG (s0:Sl Var) (v7:Int) (v8:Int) (p1:Var→Option Bool):Option (Fw Int Unit Int):=
 au (decide (v8<v7))
 ((idx s0 v8).bind fun x_1=>
 (p1 x_1).bind fun x_2=>
 au x_2
 (some (.r v8))
 (some (.n (IntKind.wrap .i64 (v8+1)))))
 (some (.x ()))
def W1 (s0:Sl Var) (v7 v8:Int) (p1:Var→Option Bool):Option Int:=
 (aX (fun q:Int=>aG s0 v7 q p1) v8).bind (Fw.elim
 (fun e=>some (-1))
 (fun e=>some e))
end ez
def ez (s0:Sl Var) (p1:Var→Option Bool):Option Int:=
 ez.W1 s0 (len s0) 0 p1
open ez in
abbrev tV (g1:FuncId) (e1:List V) (p1:Var→Option Bool) (h1:ji Sy cL g1 e1 (fun z:Var=>[enc z]) (fun r:Bool=>[.bool r]) p1) (s0:Sl Var):Fc Sy cL (ez s0 p1):=Fc.M 87 [enc s0,.clo g1 [] e1] (aZ 9 s0 (ck 5 (fun qW1=>(aS [Cv 0 s0,(1,.v (.clo g1 [] e1)),Iv 7 (len s0),Iv 8 qW1] [])) (fun eW1=>(0,(aS [] []))) (fun eW1=>(aS [Iv 4 eW1] [])) (fun qW1=>aJ 7 9 (br 16 fun x_1 _=>tq 1 h1.f x_1 fun x_2 _=>aJ 2 16 aj aj) aj) (fun eW1=>aj) (fun eW1=>aj))) (l:=by simp[h1.d])
def eo (s0:Sl Var) (p1:Var→Option Bool):Option Bool:=
 (ez s0 p1).bind fun x_1=>
 some (decide (x_1≥0))
abbrev lJ (g1:FuncId) (e1:List V) (p1:Var→Option Bool) (h1:ji Sy cL g1 e1 (fun z:Var=>[enc z]) (fun r:Bool=>[.bool r]) p1) (s0:Sl Var):Fc Sy cL (eo s0 p1):=Fc.M 42 [enc s0,.clo g1 [] e1] (aK (F:=tV g1 e1 p1 h1 s0) 9 fun x_1 _=>aj) (l:=by simp[h1.d])
def ny (v0:Var):Option Bool:=
 some (decide (((ByteArray.size v0.name:Nat):Int)>40))
instance Mi (v0:Var):Fc Sy cL (ny v0):=Fc.M 43 [enc v0] (aj)
namespace gb
def aG (most1:Int) (v9:Sl bq) (v10:Int) (tb2:Trace) (n5 v11:Int):Option (Fw (Int×Int) Unit Unit):=
 au (decide (v11<v10))
 ((idx v9 v11).bind fun x_1=>
 (au (decide ((IntKind.wrap .i64 (n5+(len x_1.events)))>most1))
 (some true)
 (some (decide ((len x_1.vars)>12))):Option Bool).bind fun x_2=>
 (au x_2
 (some true)
 (some (decide (((ByteArray.size x_1.name:Nat):Int)>40))):Option Bool).bind fun x_3=>
 (au x_3
 (some true)
 ((eX x_1.events (fun z=>nC z)).bind fun x_4=>
 some x_4):Option Bool).bind fun x_5=>
 (au x_5
 (some true)
 ((eo x_1.vars (fun z=>ny z)).bind fun x_6=>
 some x_6):Option Bool).bind fun x_7=>
 au x_7
 (some (.r ()))
 (some (.n (IntKind.wrap .i64 (n5+(len x_1.events)),IntKind.wrap .i64 (v11+1)))))
 (some (.x ()))
def W1 (most1 n5:Int) (v9:Sl bq) (v10 v11:Int) (tb2:Trace):Option Bool:=
 (aX (fun q:Int×Int=>aG most1 v9 v10 tb2 q.1 q.2) (n5,v11)).bind (Fw.elim
 (fun e=>some (decide ((len tb2.procs)≤10)))
 (fun e=>some false))
end gb
def gb (t0:Trace) (most1:Int):Option Bool:=
 gb.W1 most1 0 t0.procs (len t0.procs) 0 t0
open gb in
instance Rt (t0:Trace) (most1:Int):Fc Sy cL (gb t0 most1):=Fc.M 10 [enc t0,.int .i64 most1] (bY 2 2 t0 (aZ 13 t0.procs (ck 5 (fun qW1=>(aS [Iv 1 most1,Pv 2,Iv 5 qW1.1,Cv 9 t0.procs,Iv 10 (len t0.procs),Iv 11 qW1.2] [Xb 2 t0])) (fun eW1=>(0,(aS [Pv 2] [Xb 2 t0]))) (fun eW1=>(aS [Bv 4 false] [])) (fun qW1=>aJ 7 12 (br 7 fun x_1 _=>ou 2 7 0 x_1 (aZ 7 x_1.events (aU 10 5 [23] 28 (aJ 10 23 (aC 5) (aZ 2 x_1.vars (aC 2))) fun x_2=>aU 1 5 [29] 34 (aJ 1 29 (aC 5) (aC 5)) fun x_3=>aU 1 4 [35] 39 (aJ 1 35 (aC 4) (aK (F:=kz 41 [] (fun z=>nC z) ji.rm x_1.events) 2 fun x_4 _=>aC 1)) fun x_5=>aU 1 4 [7,40] 44 (aJ 1 40 (aC 4) (aK (F:=lJ 43 [] (fun z=>ny z) ji.rm x_1.vars) 2 fun x_6 _=>aC 1)) fun x_7=>aJ 2 44 aj aj))) aj) (fun eW1=>aZ 6 t0.procs aj) (fun eW1=>aj))))
namespace dN
def aG (s0:Sl (Sl (Sl Int))) (v7:Int) (v8:Int) (p1:(Sl (Sl Int))→Option Bool):Option (Fw Int Unit Int):=
 au (decide (v8<v7))
 ((idx s0 v8).bind fun x_1=>
 (p1 x_1).bind fun x_2=>
 au x_2
 (some (.r v8))
 (some (.n (IntKind.wrap .i64 (v8+1)))))
 (some (.x ()))
def W1 (s0:Sl (Sl (Sl Int))) (v7 v8:Int) (p1:(Sl (Sl Int))→Option Bool):Option Int:=
 (aX (fun q:Int=>aG s0 v7 q p1) v8).bind (Fw.elim
 (fun e=>some (-1))
 (fun e=>some e))
end dN
def dN (s0:Sl (Sl (Sl Int))) (p1:(Sl (Sl Int))→Option Bool):Option Int:=
 dN.W1 s0 (len s0) 0 p1
open dN in
abbrev sM (g1:FuncId) (e1:List V) (p1:(Sl (Sl Int))→Option Bool) (h1:ji Sy cL g1 e1 (fun z:Sl (Sl Int)=>[enc z]) (fun r:Bool=>[.bool r]) p1) (s0:Sl (Sl (Sl Int))):Fc Sy cL (dN s0 p1):=Fc.M 88 [enc s0,.clo g1 [] e1] (aZ 9 s0 (ck 5 (fun qW1=>(aS [Cv 0 s0,(1,.v (.clo g1 [] e1)),Iv 7 (len s0),Iv 8 qW1] [])) (fun eW1=>(0,(aS [] []))) (fun eW1=>(aS [Iv 4 eW1] [])) (fun qW1=>aJ 7 9 (br 16 fun x_1 _=>tq 1 h1.f x_1 fun x_2 _=>aJ 2 16 aj aj) aj) (fun eW1=>aj) (fun eW1=>aj))) (l:=by simp[h1.d])
def gA (s0:Sl (Sl (Sl Int))) (p1:(Sl (Sl Int))→Option Bool):Option Bool:=
 (dN s0 p1).bind fun x_1=>
 some (decide (x_1≥0))
abbrev qS (g1:FuncId) (e1:List V) (p1:(Sl (Sl Int))→Option Bool) (h1:ji Sy cL g1 e1 (fun z:Sl (Sl Int)=>[enc z]) (fun r:Bool=>[.bool r]) p1) (s0:Sl (Sl (Sl Int))):Fc Sy cL (gA s0 p1):=Fc.M 44 [enc s0,.clo g1 [] e1] (aK (F:=sM g1 e1 p1 h1 s0) 9 fun x_1 _=>aj) (l:=by simp[h1.d])
namespace dY
def aG (s0:Sl (Sl Int)) (v7:Int) (v8:Int) (p1:(Sl Int)→Option Bool):Option (Fw Int Unit Int):=
 au (decide (v8<v7))
 ((idx s0 v8).bind fun x_1=>
 (p1 x_1).bind fun x_2=>
 au x_2
 (some (.r v8))
 (some (.n (IntKind.wrap .i64 (v8+1)))))
 (some (.x ()))
def W1 (s0:Sl (Sl Int)) (v7 v8:Int) (p1:(Sl Int)→Option Bool):Option Int:=
 (aX (fun q:Int=>aG s0 v7 q p1) v8).bind (Fw.elim
 (fun e=>some (-1))
 (fun e=>some e))
end dY
def dY (s0:Sl (Sl Int)) (p1:(Sl Int)→Option Bool):Option Int:=
 dY.W1 s0 (len s0) 0 p1
open dY in
abbrev sQ (g1:FuncId) (e1:List V) (p1:(Sl Int)→Option Bool) (h1:ji Sy cL g1 e1 (fun z:Sl Int=>[enc z]) (fun r:Bool=>[.bool r]) p1) (s0:Sl (Sl Int)):Fc Sy cL (dY s0 p1):=Fc.M 80 [enc s0,.clo g1 [] e1] (aZ 9 s0 (ck 5 (fun qW1=>(aS [Cv 0 s0,(1,.v (.clo g1 [] e1)),Iv 7 (len s0),Iv 8 qW1] [])) (fun eW1=>(0,(aS [] []))) (fun eW1=>(aS [Iv 4 eW1] [])) (fun qW1=>aJ 7 9 (br 16 fun x_1 _=>tq 1 h1.f x_1 fun x_2 _=>aJ 2 16 aj aj) aj) (fun eW1=>aj) (fun eW1=>aj))) (l:=by simp[h1.d])
def fA (s0:Sl (Sl Int)) (p1:(Sl Int)→Option Bool):Option Bool:=
 (dY s0 p1).bind fun x_1=>
 some (decide (x_1≥0))
abbrev kU (g1:FuncId) (e1:List V) (p1:(Sl Int)→Option Bool) (h1:ji Sy cL g1 e1 (fun z:Sl Int=>[enc z]) (fun r:Bool=>[.bool r]) p1) (s0:Sl (Sl Int)):Fc Sy cL (fA s0 p1):=Fc.M 35 [enc s0,.clo g1 [] e1] (aK (F:=sQ g1 e1 p1 h1 s0) 9 fun x_1 _=>aj) (l:=by simp[h1.d])
def lH (c0:Sl Int):Option Bool:=
 some (decide ((len c0)>12))
instance Jr (c0:Sl Int):Fc Sy cL (lH c0):=Fc.M 69 [enc c0] (aZ 8 c0 aj)
def oG (l0:Sl (Sl Int)):Option Bool:=
 (au (decide ((len l0)≤60))
 ((fA l0 (fun z=>lH z)).bind fun x_1=>
 some (!x_1))
 (some false):Option Bool).bind fun x_2=>
 some x_2
instance OU (l0:Sl (Sl Int)):Fc Sy cL (oG l0):=Fc.M 25 [enc l0] (aZ 8 l0 (aU 2 4 [0,6] 10 (aJ 2 6 (aK (F:=kU 69 [] (fun z=>lH z) ji.rm l0) 1 fun x_1 _=>aC 2) (aC 4)) fun x_2=>aj))
def gI (l0:Sl (Sl Int)):Option Bool:=
 (oG l0).bind fun x_1=>
 some (!x_1)
instance Js (l0:Sl (Sl Int)):Fc Sy cL (gI l0):=Fc.M 45 [enc l0] (aK 8 fun x_1 _=>aj)
def kf (s0:Slice):Option Bool:=
 (au (decide ((len s0.first)≤12))
 (some (decide ((len s0.last)≤12)))
 (some false):Option Bool).bind fun x_1=>
 (au x_1
 (some (decide ((len s0.j)≤12)))
 (some false):Option Bool).bind fun x_2=>
 (au x_2
 ((gA s0.j (fun z=>gI z)).bind fun x_3=>
 some (!x_3))
 (some false):Option Bool).bind fun x_4=>
 some x_4
instance OT (s0:Slice):Fc Sy cL (kf s0):=Fc.M 11 [enc s0] (bY 2 1 s0 (aZ 7 s0.first (aU 2 5 [7] 12 (aJ 2 7 (aZ 2 s0.last (aC 2)) (aC 5)) fun x_1=>aU 1 5 [13] 18 (aJ 1 13 (aZ 2 s0.j (aC 2)) (aC 5)) fun x_2=>aU 1 5 [1,19] 24 (aJ 1 19 (aK (F:=qS 45 [] (fun z=>gI z) ji.rm s0.j) 2 fun x_3 _=>aC 2) (aC 5)) fun x_4=>aj)))
def kT (c0:Int):Option Bool:=
 (au (decide (c0≥65))
 (some (decide (c0≤90)))
 (some false):Option Bool).bind fun x_1=>
 (au x_1
 (some true)
 ((au (decide (c0≥97))
 (some (decide (c0≤122)))
 (some false):Option Bool).bind fun x_2=>
 some x_2):Option Bool).bind fun x_3=>
 some x_3
instance LI (c0:Int):Fc Sy cL (kT c0):=Fc.M 164 [.int .u8 c0] (aU 10 3 [5] 8 (aJ 10 5 (aC 3) (aC 3)) fun x_1=>aU 1 7 [0,9] 16 (aJ 1 9 (aC 7) (aU 3 3 [0,12] 15 (aJ 3 12 (aC 3) (aC 3)) fun x_2=>aC 1)) fun x_3=>aj)
def oL (c0:Int):Option Bool:=
 (au (decide (c0≥48))
 (some (decide (c0≤57)))
 (some false):Option Bool).bind fun x_1=>
 some x_1
instance NI (c0:Int):Fc Sy cL (oL c0):=Fc.M 165 [.int .u8 c0] (aU 10 3 [0,5] 8 (aJ 10 5 (aC 3) (aC 3)) fun x_1=>aj)
namespace eN
def aG (s0:ByteArray) (i3:Int):Option (Fw Int Unit Unit):=
 au (decide (i3<((ByteArray.size s0:Nat):Int)))
 ((gM s0 i3).bind fun x_5=>
 (kT x_5).bind fun x_6=>
 (au x_6
 (some false)
 ((gM s0 i3).bind fun x_7=>
 (oL x_7).bind fun x_8=>
 some (!x_8)):Option Bool).bind fun x_9=>
 (au x_9
 ((gM s0 i3).bind fun x_10=>
 some (!(x_10==95)))
 (some false):Option Bool).bind fun x_11=>
 au x_11
 (some (.r ()))
 (some (.n (IntKind.wrap .i64 (i3+1)))))
 (some (.x ()))
def W1 (s0:ByteArray) (i3:Int):Option Bool:=
 (aX (fun q:Int=>aG s0 q) i3).bind (Fw.elim
 (fun e=>some true)
 (fun e=>some false))
end eN
def eN (s0:ByteArray):Option Bool:=
 (au (decide (((ByteArray.size s0:Nat):Int)<1))
 (some true)
 (some (decide (((ByteArray.size s0:Nat):Int)>16))):Option Bool).bind fun x_1=>
 (au x_1
 (some true)
 ((gM s0 0).bind fun x_2=>
 (kT x_2).bind fun x_3=>
 some (!x_3)):Option Bool).bind fun x_4=>
 au x_4
 (some false)
 (eN.W1 s0 1)
open eN in
instance P9 (s0:ByteArray):Fc Sy cL (eN s0):=Fc.M 128 [.str s0] (aU 12 4 [7] 11 (aJ 12 7 (aC 4) (aC 4)) fun x_1=>aU 1 5 [12] 17 (aJ 1 12 (aC 5) (vY 1 .i64 fun x_2 _=>aK 0 fun x_3 _=>aC 2)) fun x_4=>aJ 2 17 aj (ck 11 (fun qW1=>(aS [(0,.v (.str s0)),Iv 3 qW1] [])) (fun eW1=>(0,(aS [] []))) (fun eW1=>(aS [Bv 2 false] [])) (fun qW1=>aJ 10 21 (vY 9 .i64 fun x_5 _=>aK 0 fun x_6 _=>aU 2 6 [29] 35 (cB 2 29 (aC 6) (vY 2 .i64 fun x_7 _=>aK 0 fun x_8 _=>aC 2)) fun x_9=>aU 1 5 [36] 41 (aJ 1 36 (vY 2 .i64 fun x_10 _=>aC 2) (aC 5)) fun x_11=>aJ 2 41 aj aj) aj) (fun eW1=>aj) (fun eW1=>aj)))
def lX (n0:Int):Option Bool:=
 (au (decide (n0≥(-1073741824)))
 (some (decide (n0≤1073741824)))
 (some false):Option Bool).bind fun x_1=>
 some x_1
instance Nv (n0:Int):Fc Sy cL (lX n0):=Fc.M 129 [.int .i64 n0] (aU 10 3 [0,5] 8 (aJ 10 5 (aC 3) (aC 3)) fun x_1=>aj)
namespace cH
def dI (i7:Int) (xb5:bq) (j8:Int):Option (Fw Int Unit Unit):=
 au (decide (j8<i7))
 ((idx xb5.vars j8).bind fun x_6=>
 (idx xb5.vars i7).bind fun x_7=>
 au (ByteArray.toList x_6.name==ByteArray.toList x_7.name)
 (some (.r ()))
 (some (.n (IntKind.wrap .i64 (j8+1)))))
 (some (.x ()))
def W3 (i7 j8:Int) (xb5:bq):Option (Fw Int Unit Int):=
 (aX (fun q:Int=>dI i7 xb5 q) j8).bind (Fw.elim
 (fun e=>(idx xb5.vars i7).bind fun x_8=>
 (lX x_8.init_).bind fun x_9=>
 au x_9
 (some (.n (IntKind.wrap .i64 (i7+1))))
 (some (.r 2)))
 (fun e=>some (.r 13)))
def bl (xb5:bq) (i7:Int):Option (Fw Int Unit Int):=
 au (decide (i7<(len xb5.vars)))
 ((idx xb5.vars i7).bind fun x_4=>
 (eN x_4.name).bind fun x_5=>
 au x_5
 (W3 i7 0 xb5)
 (some (.r 13)))
 (some (.x ()))
def W2 (i7:Int) (xb5:bq):Option Int:=
 (aX (fun q:Int=>bl xb5 q) i7).bind (Fw.elim
 (fun e=>au (decide ((len xb5.events)>64))
 (some 5)
 (some 0))
 (fun e=>some e))
def aG (p1:Int) (tb2:Trace) (xb5:bq) (i6:Int):Option (Fw Int Unit Unit):=
 au (decide (i6<p1))
 ((idx tb2.procs i6).bind fun x_3=>
 au (ByteArray.toList x_3.name==ByteArray.toList xb5.name)
 (some (.r ()))
 (some (.n (IntKind.wrap .i64 (i6+1)))))
 (some (.x ()))
def W1 (p1 i6:Int) (tb2:Trace) (xb5:bq):Option Int:=
 (aX (fun q:Int=>aG p1 tb2 xb5 q) i6).bind (Fw.elim
 (fun e=>au (decide ((len xb5.vars)>8))
 (some 5)
 (cH.W2 0 xb5))
 (fun e=>some 13))
end cH
def cH (t0:Trace) (p1:Int):Option Int:=
 (idx t0.procs p1).bind fun x_1=>
 (eN x_1.name).bind fun x_2=>
 au x_2
 (cH.W1 p1 0 t0 x_1)
 (some 13)
open cH in
instance Qk (t0:Trace) (p1:Int):Fc Sy cL (cH t0 p1):=Fc.M 106 [enc t0,.int .i64 p1] (bY 2 2 t0 (br 8 fun x_1 _=>ou 2 5 0 x_1 (aK 7 fun x_2 _=>cB 3 17 (ck 11 (fun qW1=>(aS [Iv 1 p1,Pv 2,Pv 5,Iv 6 qW1] [Xb 2 t0,Xb 5 x_1])) (fun eW1=>(0,(aS [Pv 5] [Xb 5 x_1]))) (fun eW1=>(aS [Iv 4 13] [])) (fun qW1=>aJ 9 20 (br 10 fun x_3 _=>aJ 7 31 aj aj) aj) (fun eW1=>aZ 7 x_1.vars (aJ 3 35 aj (ck 11 (fun qW2=>(aS [Pv 5,Iv 7 qW2] [Xb 5 x_1])) (fun eW2=>(2,(aS [Pv 5] [Xb 5 x_1]))) (fun eW2=>(aS [Iv 4 eW2] [])) (fun qW2=>aZ 7 x_1.vars (aJ 3 40 (br 11 fun x_4 _=>aK 2 fun x_5 _=>cB 3 50 (ck 11 (fun qW3=>(aS [Pv 5,Iv 7 qW2,Iv 8 qW3] [Xb 5 x_1])) (fun eW3=>(4,(aS [Pv 5,Iv 7 qW2] [Xb 5 x_1]))) (fun eW3=>(aS [Iv 4 13] [])) (fun qW3=>aJ 9 53 (br 10 fun x_6 _=>br 5 fun x_7 _=>aJ 5 68 aj aj) aj) (fun eW3=>br 7 fun x_8 _=>aK 2 fun x_9 _=>cB 3 76 aj aj) (fun eW3=>aj)) aj) aj)) (fun eW2=>aZ 7 x_1.events (aJ 3 80 aj aj)) (fun eW2=>aj)))) (fun eW1=>aj)) aj)))
namespace cI
def dI (p1 k8:Int) (tb3:Trace) (xb7:Event) (ab9:Assign) (j10:Int):Option (Fw Int Unit Unit):=
 au (decide (j10<k8))
 ((idx xb7.assign j10).bind fun x_20=>
 au (x_20.var==ab9.var)
 (some (.r ()))
 (some (.n (IntKind.wrap .i64 (j10+1)))))
 (some (.x ()))
def W3 (p1 k8 j10:Int) (tb3:Trace) (xb7:Event) (ab9:Assign):Option (Fw Int Unit Int):=
 (aX (fun q:Int=>dI p1 k8 tb3 xb7 ab9 q) j10).bind (Fw.elim
 (fun e=>some (.n (IntKind.wrap .i64 (k8+1))))
 (fun e=>some (.r 8)))
def bl (p1:Int) (tb3:Trace) (xb7:Event) (k8:Int):Option (Fw Int Unit Int):=
 au (decide (k8<(len xb7.assign)))
 ((idx xb7.assign k8).bind fun x_15=>
 (au (decide (x_15.var<0))
 (some true)
 ((idx tb3.procs p1).bind fun x_16=>
 some (decide (x_15.var≥(len x_16.vars)))):Option Bool).bind fun x_17=>
 (au x_17
 (some true)
 ((lX x_15.value).bind fun x_18=>
 some (!x_18)):Option Bool).bind fun x_19=>
 au x_19
 (some (.r 2))
 (W3 p1 k8 0 tb3 xb7 x_15))
 (some (.x ()))
def W2 (p1 k8:Int) (tb3:Trace) (xb7:Event):Option Int:=
 (aX (fun q:Int=>bl p1 tb3 xb7 q) k8).bind (Fw.elim
 (fun e=>some 0)
 (fun e=>some e))
def J1 (p1 i2:Int) (tb3:Trace) (xb7:Event):Option Int:=
 (au (decide (xb7.time<0))
 (some true)
 (some (decide (xb7.time>1099511627776))):Option Bool).bind fun x_10=>
 (au x_10
 (some true)
 ((au (decide (i2>0))
 ((idx tb3.procs p1).bind fun x_11=>
 (idx x_11.events (IntKind.wrap .i64 (i2-1))).bind fun x_12=>
 some (decide (xb7.time<x_12.time)))
 (some false):Option Bool).bind fun x_13=>
 some x_13):Option Bool).bind fun x_14=>
 au x_14
 (some 11)
 (au (decide ((len xb7.assign)>8))
 (some 5)
 (cI.W2 p1 0 tb3 xb7))
theorem sX (p1 i2:Int) (tb3:Trace) (xb7:Event):Le ((J1 p1 i2 tb3 xb7).bind (fun r=>some [.int .i64 r])) (bL Sy cL (nJ (tr Tx 107)) (qY (tb Tx 107) [1,1,1,0] [] (aS [Iv 1 p1,Iv 2 i2,Pv 3,Pv 7] [Xb 3 tb3,Xb 7 xb7]))):=
 aU 7 4 [71] 75 (aJ 7 71 (aC 4) (aC 4)) fun x_10=>aU 1 19 [2,76] 95 (aJ 1 76 (aC 19) (aU 3 15 [2,79] 94 (aJ 3 79 (br 5 fun x_11 _=>br 4 fun x_12 _=>aC 4) (aC 15)) fun x_13=>aC 1)) fun x_14=>aJ 2 95 aj (aZ 8 xb7.assign (aJ 3 99 aj (ck 11 (fun qW2=>(aS [Iv 1 p1,Pv 3,Pv 7,Iv 8 qW2] [Xb 3 tb3,Xb 7 xb7])) (fun eW2=>(0,(aS [] []))) (fun eW2=>(aS [Iv 6 eW2] [])) (fun qW2=>aZ 7 xb7.assign (aJ 3 104 (br 10 fun x_15 _=>aU 12 11 [115] 126 (aJ 12 115 (aC 11) (br 5 fun x_16 _=>aZ 2 x_16.vars (aC 2))) fun x_17=>V4 1 5 [130] (fun x_19=>(aS [Iv 1 p1,Pv 3,Pv 7,Iv 8 qW2,Bv 104 true,Pv 9,Bv 132 x_19] [Xb 3 tb3,Xb 7 xb7,Xb 9 x_15])) (aJ 1 127 (aC 5) (h_ 2 fun x_18 _=>aC 2)) fun x_19=>aJ 2 132 aj (ck 10 (fun qW3=>(aS [Iv 1 p1,Pv 3,Pv 7,Iv 8 qW2,Pv 9,Iv 10 qW3] [Xb 3 tb3,Xb 7 xb7,Xb 9 x_15])) (fun eW3=>(2,(aS [Iv 1 p1,Pv 3,Pv 7,Iv 8 qW2] [Xb 3 tb3,Xb 7 xb7]))) (fun eW3=>(aS [Iv 6 8] [])) (fun qW3=>aJ 9 135 (br 10 fun x_20 _=>aJ 7 146 aj aj) aj) (fun eW3=>aj) (fun eW3=>aj))) aj)) (fun eW2=>aj) (fun eW2=>aj))))
end cI
def cI (t0:Trace) (p1 i2:Int):Option Int:=
 (idx t0.procs p1).bind fun x_1=>
 (idx x_1.events i2).bind fun x_2=>
 au (x_2.kind==1)
 ((au (x_2.peer==0)
 (some (!(x_2.message==0)))
 (some true):Option Bool).bind fun x_3=>
 au x_3
 (some 3)
 (cI.J1 p1 i2 t0 x_2))
 ((au (x_2.kind==2)
 (some false)
 (some (!(x_2.kind==3))):Option Bool).bind fun x_4=>
 (au x_4
 (some true)
 (some (decide (x_2.peer<0))):Option Bool).bind fun x_5=>
 (au x_5
 (some true)
 (some (decide (x_2.peer≥(len t0.procs)))):Option Bool).bind fun x_6=>
 (au x_6
 (some true)
 (some (x_2.peer==p1)):Option Bool).bind fun x_7=>
 (au x_7
 (some true)
 (some (decide (x_2.message<0))):Option Bool).bind fun x_8=>
 (au x_8
 (some true)
 (some (decide (x_2.message>199))):Option Bool).bind fun x_9=>
 au x_9
 (some 3)
 (cI.J1 p1 i2 t0 x_2))
open cI in
instance Qg (t0:Trace) (p1 i2:Int):Fc Sy cL (cI t0 p1 i2):=Fc.M 107 [enc t0,.int .i64 p1,.int .i64 i2] (bY 2 3 t0 (br 8 fun x_1 _=>br 3 fun x_2 _=>ou 2 7 0 x_2 (aJ 10 22 (aU 7 4 [26] 30 (cB 7 26 (aC 4) (aC 4)) fun x_3=>aJ 2 30 aj (AN 4 (sX p1 i2 t0 x_2))) (aU 7 4 [34] 38 (cB 7 34 (aC 4) (aC 4)) fun x_4=>aU 1 4 [39] 43 (aJ 1 39 (aC 4) (aC 4)) fun x_5=>aU 1 7 [44] 51 (aJ 1 44 (aC 7) (aZ 4 t0.procs (aC 2))) fun x_6=>aU 1 5 [52] 57 (aJ 1 52 (aC 5) (aC 5)) fun x_7=>aU 1 4 [58] 62 (aJ 1 58 (aC 4) (aC 4)) fun x_8=>aU 1 4 [63] 67 (aJ 1 63 (aC 4) (aC 4)) fun x_9=>aJ 2 67 aj (AN 4 (sX p1 i2 t0 x_2))))))
namespace fE
def aG (tb2:Trace) (xb3:aa) (eb5:Event) (sent6:Bool) (i7:Int):Option (Fw (Bool×Int) Bool Empty):=
 (idx tb2.procs eb5.peer).bind fun x_3=>
 au (decide (i7<(len x_3.events)))
 ((idx tb2.procs eb5.peer).bind fun x_4=>
 (idx x_4.events i7).bind fun x_5=>
 (au sent6
 (some true)
 ((au (x_5.kind==2)
 (some (x_5.message==eb5.message))
 (some false):Option Bool).bind fun x_6=>
 (au x_6
 (some (x_5.peer==xb3.proc))
 (some false):Option Bool).bind fun x_7=>
 some x_7):Option Bool).bind fun x_8=>
 some (.n (x_8,IntKind.wrap .i64 (i7+1))))
 (some (.x sent6))
def W1 (sent6:Bool) (i7:Int) (tb2:Trace) (xb3:aa) (eb5:Event):Option Int:=
 (aX (fun q:Bool×Int=>aG tb2 xb3 eb5 q.1 q.2) (sent6,i7)).bind (Fw.elim
 (fun e=>au e
 (some 0)
 (some 7))
 (fun e=>Empty.elim e))
end fE
def fE (t0:Trace) (x1:aa):Option Int:=
 (qW t0 x1).bind fun x_1=>
 au (x_1.kind==1)
 (some 0)
 ((cw t0 x_1.kind x_1.message).bind fun x_2=>
 au (FB x_2 x1)
 (au (x_1.kind==3)
 (fE.W1 false 0 t0 x1 x_1)
 (some 0))
 (some 8))
open fE in
instance LJ (t0:Trace) (x1:aa):Fc Sy cL (fE t0 x1):=Fc.M 108 [enc t0,enc x1] (bY 2 2 t0 (aK 8 fun x_1 _=>ou 1 5 0 x_1 (aJ 10 14 aj (h_ 11 fun x_2 _=>cB 4 22 (aJ 11 25 (vN 14 (fun qW1=>(aS [Pv 2,Pv 3,Pv 5,Bv 6 qW1.1,Iv 7 qW1.2] [Xb 2 t0,Xb 3 x1,Xb 5 x_1])) (fun eW1=>(0,(aS [Bv 6 eW1] []))) (fun qW1=>br 9 fun x_3 _=>aZ 2 x_3.events (aJ 3 35 (br 11 fun x_4 _=>br 3 fun x_5 _=>ou 2 8 0 x_5 (aU 5 18 [8,49] 67 (aJ 5 49 (aC 18) (aU 4 6 [53] 59 (aJ 4 53 (aC 6) (aC 6)) fun x_6=>aU 1 6 [8,60] 66 (aJ 1 60 (aC 6) (aC 6)) fun x_7=>aC 1)) fun x_8=>aj)) aj)) (fun eW1=>cB 8 69 aj aj)) aj) aj))))
namespace bO
def J4 (done3:Sl Int) (p5:Int) (tb1:Trace):Option (Fw ((Sl Int)×Bool) ((Sl Int)×Bool) Empty):=
 (Sl.pz done3 p5).bind fun x_12=>
 (Sl.get done3 x_12).bind fun x_13=>
 (Sl.pz done3 p5).bind fun x_14=>
 (Sl.put done3 x_14 (IntKind.wrap .i64 (x_13+1):Int)).bind fun x_15=>
 some (.n (x_15,true))
def dI (p5:Int) (tb1:Trace) (done3:Sl Int) (moved4:Bool):Option (Fw ((Sl Int)×Bool) ((Sl Int)×Bool) Empty):=
 (Sl.pz done3 p5).bind fun x_2=>
 (Sl.get done3 x_2).bind fun x_3=>
 (idx tb1.procs p5).bind fun x_4=>
 au (decide (x_3<(len x_4.events)))
 ((idx tb1.procs p5).bind fun x_5=>
 (Sl.pz done3 p5).bind fun x_6=>
 (Sl.get done3 x_6).bind fun x_7=>
 (idx x_5.events x_7).bind fun x_8=>
 au (x_8.kind==3)
 ((cw tb1 2 x_8.message).bind fun x_9=>
 (Sl.pz done3 x_9.proc).bind fun x_10=>
 (Sl.get done3 x_10).bind fun x_11=>
 au (decide (x_11<x_9.index))
 (some (.x (done3,moved4)))
 (J4 done3 p5 tb1))
 (J4 done3 p5 tb1))
 (some (.x (done3,moved4)))
def W3 (done3:Sl Int) (moved4:Bool) (p5:Int) (tb1:Trace):Option (Fw ((Sl Int)×Bool×Int) ((Sl Int)×Bool) Empty):=
 (aX (fun q:(Sl Int)×Bool=>dI p5 tb1 q.1 q.2) (done3,moved4)).bind (Fw.elim
 (fun e=>some (.n (e.1,e.2,IntKind.wrap .i64 (p5+1))))
 (fun e=>Empty.elim e))
def bl (tb1:Trace) (done3:Sl Int) (moved4:Bool) (p5:Int):Option (Fw ((Sl Int)×Bool×Int) ((Sl Int)×Bool) Empty):=
 au (decide (p5<(len tb1.procs)))
 (W3 done3 moved4 p5 tb1)
 (some (.x (done3,moved4)))
def W2 (done3:Sl Int) (moved4:Bool) (p5:Int) (tb1:Trace):Option (Fw (Sl Int) (Sl Int) Empty):=
 (aX (fun q:(Sl Int)×Bool×Int=>bl tb1 q.1 q.2.1 q.2.2) (done3,moved4,p5)).bind (Fw.elim
 (fun e=>au e.2
 (some (.n e.1))
 (some (.x e.1)))
 (fun e=>Empty.elim e))
def uf (done3:Sl Int) (tb1:Trace) (p8:Int):Option (Fw Int Unit Unit):=
 au (decide (p8<(len tb1.procs)))
 ((Sl.pz done3 p8).bind fun x_16=>
 (Sl.get done3 x_16).bind fun x_17=>
 (idx tb1.procs p8).bind fun x_18=>
 au (decide (x_17<(len x_18.events)))
 (some (.r ()))
 (some (.n (IntKind.wrap .i64 (p8+1)))))
 (some (.x ()))
def W5 (done3:Sl Int) (p8:Int) (tb1:Trace):Option Bool:=
 (aX (fun q:Int=>uf done3 tb1 q) p8).bind (Fw.elim
 (fun e=>some true)
 (fun e=>some false))
def aG (tb1:Trace) (done3:Sl Int):Option (Fw (Sl Int) (Sl Int) Empty):=
 W2 done3 false 0 tb1
def W1 (done3:Sl Int) (tb1:Trace):Option Bool:=
 (aX (fun q:Sl Int=>aG tb1 q) done3).bind (Fw.elim
 (fun e=>bO.W5 e 0 tb1)
 (fun e=>Empty.elim e))
end bO
def bO (t0:Trace):Option Bool:=
 (vQ (len t0.procs) (0:Int)).bind fun x_1=>
 bO.W1 x_1 t0
open bO in
instance Kp (t0:Trace):Fc Sy cL (bO t0):=Fc.M 109 [enc t0] (bY 2 1 t0 (aZ 7 t0.procs (Zi 0 12 fun x_1 _=>vN 7 (fun qW1=>(aS [Pv 1,Ov 3] [Xb 1 t0,Lb 2003 qW1])) (fun eW1=>(0,(aS [Pv 1,Ov 3] [Xb 1 t0,Lb 2003 eW1]))) (fun qW1=>vN 17 (fun qW2=>(aS [Pv 1,Ov 3,Bv 4 qW2.2.1,Iv 5 qW2.2.2] [Xb 1 t0,Lb 2003 qW2.1])) (fun eW2=>(2,(aS [Pv 1,Ov 3,Bv 4 eW2.2] [Xb 1 t0,Lb 2003 eW2.1]))) (fun qW2=>aZ 8 t0.procs (aJ 3 17 (vN 8 (fun qW3=>(aS [Pv 1,Ov 3,Bv 4 qW3.2,Iv 5 qW2.2.2] [Xb 1 t0,Lb 2003 qW3.1])) (fun eW3=>(4,(aS [Pv 1,Ov 3,Bv 4 eW3.2,Iv 5 qW2.2.2] [Xb 1 t0,Lb 2003 eW3.1]))) (fun qW3=>u6 .i64 7 2003 fun x_2 _=>yD 0 2003 0 1 false (fun x_3=>.int .i64 x_3) fun x_3 _=>br 3 fun x_4 _=>aZ 2 x_4.events (aJ 3 31 (br 9 fun x_5 _=>u6 .i64 4 2003 fun x_6 _=>yD 0 2003 0 1 false (fun x_7=>.int .i64 x_7) fun x_7 _=>br 0 fun x_8 _=>ou 2 6 0 x_8 (aJ 10 46 (aK 6 fun x_9 _=>u6 .i64 9 2003 fun x_10 _=>yD 0 2003 0 1 false (fun x_11=>.int .i64 x_11) fun x_11 _=>aJ 5 58 aj (Az 5 (u6 .i64 4 2003 fun x_12 _=>yD 0 2003 0 1 false (fun x_13=>.int .i64 x_13) fun x_13 _=>u6 .i64 1 2003 fun x_14 _=>Rg 0 2003 (.int .i64 (IntKind.wrap .i64 (x_13+1))) fun x_15 _=>aj))) (Az 5 (u6 .i64 4 2003 fun x_12 _=>yD 0 2003 0 1 false (fun x_13=>.int .i64 x_13) fun x_13 _=>u6 .i64 1 2003 fun x_14 _=>Rg 0 2003 (.int .i64 (IntKind.wrap .i64 (x_13+1))) fun x_15 _=>aj)))) aj)) (fun eW3=>aj)) aj)) (fun eW2=>cB 8 66 aj aj)) (fun eW1=>ck 11 (fun qW5=>(aS [Pv 1,Ov 3,Iv 8 qW5] [Xb 1 t0,Lb 2003 eW1])) (fun eW5=>(6,(aS [] []))) (fun eW5=>(aS [Bv 2 false] [])) (fun qW5=>aZ 8 t0.procs (aJ 3 71 (u6 .i64 9 2003 fun x_16 _=>yD 0 2003 0 1 false (fun x_17=>.int .i64 x_17) fun x_17 _=>br 3 fun x_18 _=>aZ 2 x_18.events (aJ 3 85 aj aj)) aj)) (fun eW5=>aj) (fun eW5=>aj)))))
instance Qr (t:Trace) (x:aa):Fc Sy cL (jT t x):=Fc.of (A:=fun z:Trace×aa=>[enc z.1,enc z.2]) (E:=fun r:Sl (Sl Bool)=>[enc r]) (p:=fun z=>jT z.1 z.2) (n:=110) (z:=(t,x)) (lG.YH (by kernel_rfl) (by kernel_rfl) (fun z r hr=>Kz z.1 z.2 r hr))
namespace bK
def dI (p6:Int) (tb1:Trace) (vb2:aa) (i7:Int):Option (Fw Int Unit (Int×aa)):=
 (idx tb1.procs p6).bind fun x_3=>
 au (decide (i7<(len x_3.events)))
 ((cI tb1 p6 i7).bind fun x_4=>
 au (x_4==0)
 (some (.n (IntKind.wrap .i64 (i7+1))))
 (some (.r (x_4,(⟨p6,IntKind.wrap .i64 (i7+1)⟩:aa)))))
 (some (.x ()))
def W3 (p6 i7:Int) (tb1:Trace) (vb2:aa):Option (Fw Int Unit (Int×aa)):=
 (aX (fun q:Int=>dI p6 tb1 vb2 q) i7).bind (Fw.elim
 (fun e=>some (.n (IntKind.wrap .i64 (p6+1))))
 (fun e=>some (.r (e.1,e.2))))
def uf (p9:Int) (tb1:Trace) (vb2:aa) (i10:Int):Option (Fw Int Unit (Int×aa)):=
 (idx tb1.procs p9).bind fun x_5=>
 au (decide (i10<(len x_5.events)))
 ((fE tb1 (⟨p9,IntKind.wrap .i64 (i10+1)⟩:aa)).bind fun x_6=>
 au (x_6==0)
 (some (.n (IntKind.wrap .i64 (i10+1))))
 (some (.r (x_6,(⟨p9,IntKind.wrap .i64 (i10+1)⟩:aa)))))
 (some (.x ()))
def W5 (p9 i10:Int) (tb1:Trace) (vb2:aa):Option (Fw Int Unit (Int×aa)):=
 (aX (fun q:Int=>uf p9 tb1 vb2 q) i10).bind (Fw.elim
 (fun e=>some (.n (IntKind.wrap .i64 (p9+1))))
 (fun e=>some (.r (e.1,e.2))))
def E3 (p13:Int) (tb1:Trace) (vb2:aa) (i14:Int):Option (Fw Int Unit aa):=
 (idx tb1.procs p13).bind fun x_7=>
 au (decide (i14<(len x_7.events)))
 ((jT tb1 (⟨p13,IntKind.wrap .i64 (i14+1)⟩:aa)).bind fun x_8=>
 (idx x_8 p13).bind fun x_9=>
 (idx x_9 (IntKind.wrap .i64 (i14+1))).bind fun x_10=>
 au x_10
 (some (.r (⟨p13,IntKind.wrap .i64 (i14+1)⟩:aa)))
 (some (.n (IntKind.wrap .i64 (i14+1)))))
 (some (.x ()))
def W7 (p13 i14:Int) (tb1:Trace) (vb2:aa):Option (Fw Int Unit aa):=
 (aX (fun q:Int=>E3 p13 tb1 vb2 q) i14).bind (Fw.elim
 (fun e=>some (.n (IntKind.wrap .i64 (p13+1))))
 (fun e=>some (.r e)))
def E0 (tb1:Trace) (vb2:aa) (p13:Int):Option (Fw Int Unit aa):=
 au (decide (p13<(len tb1.procs)))
 (W7 p13 0 tb1 vb2)
 (some (.x ()))
def W6 (p13:Int) (tb1:Trace) (vb2:aa):Option (aa×Int):=
 (aX (fun q:Int=>E0 tb1 vb2 q) p13).bind (Fw.elim
 (fun e=>some (⟨0,0⟩,0))
 (fun e=>some (e,10)))
def rP (tb1:Trace) (vb2:aa) (p9:Int):Option (Fw Int Unit (Int×aa)):=
 au (decide (p9<(len tb1.procs)))
 (W5 p9 0 tb1 vb2)
 (some (.x ()))
def W4 (p9:Int) (tb1:Trace) (vb2:aa):Option (aa×Int):=
 (aX (fun q:Int=>rP tb1 vb2 q) p9).bind (Fw.elim
 (fun e=>(bO tb1).bind fun x_11=>
 au x_11
 (some (⟨0,0⟩,0))
 (bK.W6 0 tb1 vb2))
 (fun e=>some (e.2,e.1)))
def bl (tb1:Trace) (vb2:aa) (p6:Int):Option (Fw Int Unit (Int×aa)):=
 au (decide (p6<(len tb1.procs)))
 (W3 p6 0 tb1 vb2)
 (some (.x ()))
def W2 (p6:Int) (tb1:Trace) (vb2:aa):Option (aa×Int):=
 (aX (fun q:Int=>bl tb1 vb2 q) p6).bind (Fw.elim
 (fun e=>bK.W4 0 tb1 vb2)
 (fun e=>some (e.2,e.1)))
def aG (tb1:Trace) (vb2:aa) (p4:Int):Option (Fw Int Unit (Int×aa)):=
 au (decide (p4<(len tb1.procs)))
 ((cH tb1 p4).bind fun x_2=>
 au (x_2==0)
 (some (.n (IntKind.wrap .i64 (p4+1))))
 (some (.r (x_2,(⟨p4,0⟩:aa)))))
 (some (.x ()))
def W1 (p4:Int) (tb1:Trace) (vb2:aa):Option (aa×Int):=
 (aX (fun q:Int=>aG tb1 vb2 q) p4).bind (Fw.elim
 (fun e=>bK.W2 0 tb1 vb2)
 (fun e=>some (e.2,e.1)))
end bK
def bK (t0:Trace):Option (aa×Int):=
 (au (decide ((len t0.procs)<1))
 (some true)
 (some (decide ((len t0.procs)>8))):Option Bool).bind fun x_1=>
 au x_1
 (some (⟨0,0⟩,1))
 (bK.W1 0 t0 (⟨0,0⟩:aa))
open bK in
instance PJ (t0:Trace):Fc Sy cL (bK t0):=Fc.M 76 [enc t0] (bY 2 1 t0 (aZ 9 t0.procs (aU 2 5 [20] 25 (aJ 2 20 (aC 5) (aZ 2 t0.procs (aC 2))) fun x_1=>aJ 2 25 aj (ck 11 (fun qW1=>(aS [Pv 1,Pv 2,Iv 4 qW1] [Xb 1 t0,Xb 2 (⟨0,0⟩:aa)])) (fun eW1=>(0,(aS [Pv 1,Pv 2] [Xb 1 t0,Xb 2 (⟨0,0⟩:aa)]))) (fun eW1=>(aS [Pv 2,Iv 3 eW1.1] [Xb 2 eW1.2])) (fun qW1=>aZ 7 t0.procs (aJ 3 31 (aK 9 fun x_2 _=>cB 9 38 aj aj) aj)) (fun eW1=>ck 10 (fun qW2=>(aS [Pv 1,Pv 2,Iv 6 qW2] [Xb 1 t0,Xb 2 (⟨0,0⟩:aa)])) (fun eW2=>(2,(aS [Pv 1,Pv 2] [Xb 1 t0,Xb 2 (⟨0,0⟩:aa)]))) (fun eW2=>(aS [Pv 2,Iv 3 eW2.1] [Xb 2 eW2.2])) (fun qW2=>aZ 7 t0.procs (aJ 3 46 (ck 12 (fun qW3=>(aS [Pv 1,Pv 2,Iv 6 qW2,Iv 7 qW3] [Xb 1 t0,Xb 2 (⟨0,0⟩:aa)])) (fun eW3=>(4,(aS [Pv 1,Pv 2,Iv 6 qW2] [Xb 1 t0,Xb 2 (⟨0,0⟩:aa)]))) (fun eW3=>(aS [Pv 2,Iv 3 eW3.1] [Xb 2 eW3.2])) (fun qW3=>br 8 fun x_3 _=>aZ 2 x_3.events (aJ 3 57 (aK 10 fun x_4 _=>cB 9 65 aj aj) aj)) (fun eW3=>aj) (fun eW3=>aj)) aj)) (fun eW2=>ck 10 (fun qW4=>(aS [Pv 1,Pv 2,Iv 9 qW4] [Xb 1 t0,Xb 2 (⟨0,0⟩:aa)])) (fun eW4=>(6,(aS [Pv 1,Pv 2] [Xb 1 t0,Xb 2 (⟨0,0⟩:aa)]))) (fun eW4=>(aS [Pv 2,Iv 3 eW4.1] [Xb 2 eW4.2])) (fun qW4=>aZ 7 t0.procs (aJ 3 75 (ck 12 (fun qW5=>(aS [Pv 1,Pv 2,Iv 9 qW4,Iv 10 qW5] [Xb 1 t0,Xb 2 (⟨0,0⟩:aa)])) (fun eW5=>(8,(aS [Pv 1,Pv 2,Iv 9 qW4] [Xb 1 t0,Xb 2 (⟨0,0⟩:aa)]))) (fun eW5=>(aS [Pv 2,Iv 3 eW5.1] [Xb 2 eW5.2])) (fun qW5=>br 8 fun x_5 _=>aZ 2 x_5.events (aJ 3 86 (aK 19 fun x_6 _=>cB 9 97 aj aj) aj)) (fun eW5=>aj) (fun eW5=>aj)) aj)) (fun eW4=>aK 6 fun x_11 _=>aJ 2 101 aj (ck 11 (fun qW6=>(aS [Pv 1,Pv 2,Iv 13 qW6] [Xb 1 t0,Xb 2 (⟨0,0⟩:aa)])) (fun eW6=>(10,(aS [Pv 2] [Xb 2 (⟨0,0⟩:aa)]))) (fun eW6=>(aS [Pv 2,Iv 3 10] [Xb 2 eW6])) (fun qW6=>aZ 7 t0.procs (aJ 3 107 (ck 12 (fun qW7=>(aS [Pv 1,Pv 2,Iv 13 qW6,Iv 14 qW7] [Xb 1 t0,Xb 2 (⟨0,0⟩:aa)])) (fun eW7=>(12,(aS [Pv 1,Pv 2,Iv 13 qW6] [Xb 1 t0,Xb 2 (⟨0,0⟩:aa)]))) (fun eW7=>(aS [Pv 2,Iv 3 10] [Xb 2 eW7])) (fun qW7=>br 8 fun x_7 _=>aZ 2 x_7.events (aJ 3 118 (aK 19 fun x_8 _=>br 1 fun x_9 _=>br 3 fun x_10 _=>aJ 3 134 aj aj) aj)) (fun eW7=>aj) (fun eW7=>aj)) aj)) (fun eW6=>aj) (fun eW6=>aj))) (fun eW4=>aj)) (fun eW2=>aj)) (fun eW1=>aj)))))
def fD (t0:Trace):Option Bool:=
 (bK t0).bind fun x_1=>
 some (x_1.2==0)
instance PT (t0:Trace):Fc Sy cL (fD t0):=Fc.M 29 [enc t0] (bY 2 1 t0 (aK 6 fun x_1 _=>aj))
def qz (t0:Trace) (c1:Sl Int):Option Bool:=
 some ((len c1)==(len t0.procs))
instance Qn (t0:Trace) (c1:Sl Int):Fc Sy cL (qz t0 c1):=Fc.M 81 [enc t0,enc c1] (bY 2 2 t0 (aZ 6 c1 (aZ 2 t0.procs aj)))
namespace iE
def aG (c1:Sl Int) (tb2:Trace) (p5:Int):Option (Fw Int Unit Unit):=
 au (decide (p5<(len c1)))
 ((idx c1 p5).bind fun x_1=>
 (au (decide (x_1<0))
 (some true)
 ((idx c1 p5).bind fun x_2=>
 (idx tb2.procs p5).bind fun x_3=>
 some (decide (x_2>(len x_3.events)))):Option Bool).bind fun x_4=>
 au x_4
 (some (.r ()))
 (some (.n (IntKind.wrap .i64 (p5+1)))))
 (some (.x ()))
def W1 (c1:Sl Int) (p5:Int) (tb2:Trace):Option Bool:=
 (aX (fun q:Int=>aG c1 tb2 q) p5).bind (Fw.elim
 (fun e=>some true)
 (fun e=>some false))
end iE
def iE (t0:Trace) (c1:Sl Int):Option Bool:=
 iE.W1 c1 0 t0
open iE in
instance MY (t0:Trace) (c1:Sl Int):Fc Sy cL (iE t0 c1):=Fc.M 82 [enc t0,enc c1] (bY 2 2 t0 (ck 11 (fun qW1=>(aS [Cv 1 c1,Pv 2,Iv 5 qW1] [Xb 2 t0])) (fun eW1=>(0,(aS [] []))) (fun eW1=>(aS [Bv 4 false] [])) (fun qW1=>aZ 6 c1 (aJ 3 9 (br 9 fun x_1 _=>aU 3 13 [17] 30 (aJ 3 17 (aC 13) (br 2 fun x_2 _=>br 4 fun x_3 _=>aZ 2 x_3.events (aC 2))) fun x_4=>aJ 2 30 aj aj) aj)) (fun eW1=>aj) (fun eW1=>aj)))
def tE (t0:Trace) (c1:Sl Int) (p2 i3:Int):Option Bool:=
 (idx t0.procs p2).bind fun x_1=>
 (idx x_1.events i3).bind fun x_2=>
 au (x_2.kind==3)
 ((cw t0 2 x_2.message).bind fun x_3=>
 (idx c1 x_3.proc).bind fun x_4=>
 some (decide (x_3.index≤x_4)))
 (some true)
instance Qe (t0:Trace) (c1:Sl Int) (p2 i3:Int):Fc Sy cL (tE t0 c1 p2 i3):=Fc.M 77 [enc t0,enc c1,.int .i64 p2,.int .i64 i3] (bY 2 4 t0 (br 8 fun x_1 _=>br 3 fun x_2 _=>ou 2 9 0 x_2 (cB 10 22 (aK 8 fun x_3 _=>br 11 fun x_4 _=>aj) aj)))
namespace dn
def bl (c1:Sl Int) (p5:Int) (tb2:Trace) (i6:Int):Option (Fw Int Unit Unit):=
 (idx c1 p5).bind fun x_1=>
 au (decide (i6<x_1))
 ((tE tb2 c1 p5 i6).bind fun x_2=>
 au x_2
 (some (.n (IntKind.wrap .i64 (i6+1))))
 (some (.r ())))
 (some (.x ()))
def W2 (c1:Sl Int) (p5 i6:Int) (tb2:Trace):Option (Fw Int Unit Unit):=
 (aX (fun q:Int=>bl c1 p5 tb2 q) i6).bind (Fw.elim
 (fun e=>some (.n (IntKind.wrap .i64 (p5+1))))
 (fun e=>some (.r ())))
def aG (c1:Sl Int) (tb2:Trace) (p5:Int):Option (Fw Int Unit Unit):=
 au (decide (p5<(len c1)))
 (W2 c1 p5 0 tb2)
 (some (.x ()))
def W1 (c1:Sl Int) (p5:Int) (tb2:Trace):Option Bool:=
 (aX (fun q:Int=>aG c1 tb2 q) p5).bind (Fw.elim
 (fun e=>some true)
 (fun e=>some false))
end dn
def dn (t0:Trace) (c1:Sl Int):Option Bool:=
 dn.W1 c1 0 t0
open dn in
instance LM (t0:Trace) (c1:Sl Int):Fc Sy cL (dn t0 c1):=Fc.M 83 [enc t0,enc c1] (bY 2 2 t0 (ck 11 (fun qW1=>(aS [Cv 1 c1,Pv 2,Iv 5 qW1] [Xb 2 t0])) (fun eW1=>(0,(aS [] []))) (fun eW1=>(aS [Bv 4 false] [])) (fun qW1=>aZ 6 c1 (aJ 3 10 (ck 12 (fun qW2=>(aS [Cv 1 c1,Pv 2,Iv 5 qW1,Iv 6 qW2] [Xb 2 t0])) (fun eW2=>(2,(aS [Cv 1 c1,Pv 2,Iv 5 qW1] [Xb 2 t0]))) (fun eW2=>(aS [Bv 4 false] [])) (fun qW2=>br 7 fun x_1 _=>aJ 4 18 (aK 11 fun x_2 _=>cB 3 26 aj aj) aj) (fun eW2=>aj) (fun eW2=>aj)) aj)) (fun eW1=>aj) (fun eW1=>aj)))
def c_ (t0:Trace) (c1:Sl Int):Option Bool:=
 (fD t0).bind fun x_1=>
 (au x_1
 ((qz t0 c1).bind fun x_2=>
 some x_2)
 (some false):Option Bool).bind fun x_3=>
 (au x_3
 ((iE t0 c1).bind fun x_4=>
 some x_4)
 (some false):Option Bool).bind fun x_5=>
 (au x_5
 ((dn t0 c1).bind fun x_6=>
 some x_6)
 (some false):Option Bool).bind fun x_7=>
 some x_7
instance HA (t0:Trace) (c1:Sl Int):Fc Sy cL (c_ t0 c1):=Fc.M 37 [enc t0,enc c1] (bY 2 2 t0 (aK 6 fun x_1 _=>aU 1 4 [7] 11 (aJ 1 7 (aK 2 fun x_2 _=>aC 1) (aC 4)) fun x_3=>aU 1 4 [12] 16 (aJ 1 12 (aK 2 fun x_4 _=>aC 1) (aC 4)) fun x_5=>aU 1 4 [1,2,17] 21 (aJ 1 17 (aK 2 fun x_6 _=>aC 1) (aC 4)) fun x_7=>aj))
namespace cR
def aG (a0 b1:Sl Int) (i5:Int):Option (Fw Int Unit Unit):=
 au (decide (i5<(len a0)))
 ((idx a0 i5).bind fun x_1=>
 (idx b1 i5).bind fun x_2=>
 au (decide (x_1>x_2))
 (some (.r ()))
 (some (.n (IntKind.wrap .i64 (i5+1)))))
 (some (.x ()))
def W1 (a0 b1:Sl Int) (i5:Int):Option Bool:=
 (aX (fun q:Int=>aG a0 b1 q) i5).bind (Fw.elim
 (fun e=>some true)
 (fun e=>some false))
end cR
def cR (a0 b1:Sl Int):Option Bool:=
 au ((len a0)==(len b1))
 (cR.W1 a0 b1 0)
 (some false)
open cR in
instance Ro (a0 b1:Sl Int):Fc Sy cL (cR a0 b1):=Fc.M 46 [enc a0,enc b1] (aZ 9 a0 (aZ 1 b1 (cB 3 10 (ck 11 (fun qW1=>(aS [Cv 0 a0,Cv 1 b1,Iv 5 qW1] [])) (fun eW1=>(0,(aS [] []))) (fun eW1=>(aS [Bv 4 false] [])) (fun qW1=>aZ 6 a0 (aJ 3 14 (br 9 fun x_1 _=>br 3 fun x_2 _=>aJ 4 25 aj aj) aj)) (fun eW1=>aj) (fun eW1=>aj)) aj)))
namespace dm
def aG (a0 b1:Sl Int) (i5:Int):Option (Fw Int Unit Unit):=
 au (decide (i5<(len a0)))
 ((idx a0 i5).bind fun x_1=>
 (idx b1 i5).bind fun x_2=>
 au (x_1==x_2)
 (some (.n (IntKind.wrap .i64 (i5+1))))
 (some (.r ())))
 (some (.x ()))
def W1 (a0 b1:Sl Int) (i5:Int):Option Bool:=
 (aX (fun q:Int=>aG a0 b1 q) i5).bind (Fw.elim
 (fun e=>some true)
 (fun e=>some false))
end dm
def dm (a0 b1:Sl Int):Option Bool:=
 au ((len a0)==(len b1))
 (dm.W1 a0 b1 0)
 (some false)
open dm in
instance Jq (a0 b1:Sl Int):Fc Sy cL (dm a0 b1):=Fc.M 53 [enc a0,enc b1] (aZ 9 a0 (aZ 1 b1 (cB 3 10 (ck 11 (fun qW1=>(aS [Cv 0 a0,Cv 1 b1,Iv 5 qW1] [])) (fun eW1=>(0,(aS [] []))) (fun eW1=>(aS [Bv 4 false] [])) (fun qW1=>aZ 6 a0 (aJ 3 14 (br 9 fun x_1 _=>br 3 fun x_2 _=>cB 4 25 aj aj) aj)) (fun eW1=>aj) (fun eW1=>aj)) aj)))
def mD (t0:Trace) (s1:Slice) (p2 i3:Int):Option Bool:=
 (idx s1.j p2).bind fun x_1=>
 (idx x_1 i3).bind fun x_2=>
 (idx s1.last p2).bind fun x_3=>
 au (decide (i3≥x_3))
 (some ((len x_2)==0))
 ((idx s1.first p2).bind fun x_4=>
 au (decide (i3<x_4))
 ((dm x_2 s1.first).bind fun x_5=>
 some x_5)
 ((c_ t0 x_2).bind fun x_6=>
 (au x_6
 ((idx x_2 p2).bind fun x_7=>
 some (decide (x_7>i3)))
 (some false):Option Bool).bind fun x_8=>
 (au x_8
 ((cR s1.first x_2).bind fun x_9=>
 some x_9)
 (some false):Option Bool).bind fun x_10=>
 (au x_10
 ((cR x_2 s1.last).bind fun x_11=>
 some x_11)
 (some false):Option Bool).bind fun x_12=>
 some x_12))
instance KU (t0:Trace) (s1:Slice) (p2 i3:Int):Fc Sy cL (mD t0 s1 p2 i3):=Fc.M 47 [enc t0,enc s1,.int .i64 p2,.int .i64 i3] (bY 2 4 t0 (bY 0 5 s1 (br 8 fun x_1 _=>br 2 fun x_2 _=>br 11 fun x_3 _=>aJ 4 24 (aZ 4 x_2 aj) (br 10 fun x_4 _=>aJ 4 34 (aK 6 fun x_5 _=>aj) (aK 7 fun x_6 _=>aU 1 7 [2,3,42] 49 (aJ 1 42 (br 2 fun x_7 _=>aC 4) (aC 7)) fun x_8=>aU 1 5 [50] 55 (aJ 1 50 (aK 3 fun x_9 _=>aC 1) (aC 5)) fun x_10=>aU 1 5 [5,9,56] 61 (aJ 1 56 (aK 3 fun x_11 _=>aC 1) (aC 5)) fun x_12=>aj)))))
namespace cF
def bl (c1:Sl Int) (p5:Int) (sb2:Slice) (i6:Int):Option (Fw Int Unit Unit):=
 (idx c1 p5).bind fun x_1=>
 au (decide (i6<x_1))
 ((idx sb2.j p5).bind fun x_2=>
 (idx x_2 i6).bind fun x_3=>
 (cR x_3 c1).bind fun x_4=>
 au x_4
 (some (.n (IntKind.wrap .i64 (i6+1))))
 (some (.r ())))
 (some (.x ()))
def W2 (c1:Sl Int) (p5 i6:Int) (sb2:Slice):Option (Fw Int Unit Unit):=
 (aX (fun q:Int=>bl c1 p5 sb2 q) i6).bind (Fw.elim
 (fun e=>some (.n (IntKind.wrap .i64 (p5+1))))
 (fun e=>some (.r ())))
def aG (c1:Sl Int) (sb2:Slice) (p5:Int):Option (Fw Int Unit Unit):=
 au (decide (p5<(len c1)))
 (W2 c1 p5 0 sb2)
 (some (.x ()))
def W1 (c1:Sl Int) (p5:Int) (sb2:Slice):Option Bool:=
 (aX (fun q:Int=>aG c1 sb2 q) p5).bind (Fw.elim
 (fun e=>some true)
 (fun e=>some false))
end cF
def cF (s0:Slice) (c1:Sl Int):Option Bool:=
 cF.W1 c1 0 s0
open cF in
instance Mh (s0:Slice) (c1:Sl Int):Fc Sy cL (cF s0 c1):=Fc.M 48 [enc s0,enc c1] (bY 2 2 s0 (ck 11 (fun qW1=>(aS [Cv 1 c1,Pv 2,Iv 5 qW1] [Xb 2 s0])) (fun eW1=>(0,(aS [] []))) (fun eW1=>(aS [Bv 4 false] [])) (fun qW1=>aZ 6 c1 (aJ 3 10 (ck 12 (fun qW2=>(aS [Cv 1 c1,Pv 2,Iv 5 qW1,Iv 6 qW2] [Xb 2 s0])) (fun eW2=>(2,(aS [Cv 1 c1,Pv 2,Iv 5 qW1] [Xb 2 s0]))) (fun eW2=>(aS [Bv 4 false] [])) (fun qW2=>br 7 fun x_1 _=>aJ 4 18 (br 10 fun x_2 _=>br 2 fun x_3 _=>aK 2 fun x_4 _=>cB 3 31 aj aj) aj) (fun eW2=>aj) (fun eW2=>aj)) aj)) (fun eW1=>aj) (fun eW1=>aj)))
namespace bN
def bl (p5:Int) (tb2:Trace) (sb3:Slice) (i6:Int):Option (Fw Int Unit Unit):=
 (idx sb3.j p5).bind fun x_12=>
 au (decide (i6<(len x_12)))
 ((mD tb2 sb3 p5 i6).bind fun x_13=>
 au x_13
 (some (.n (IntKind.wrap .i64 (i6+1))))
 (some (.r ())))
 (some (.x ()))
def W2 (p5 i6:Int) (tb2:Trace) (sb3:Slice):Option (Fw Int Unit Unit):=
 (aX (fun q:Int=>bl p5 tb2 sb3 q) i6).bind (Fw.elim
 (fun e=>some (.n (IntKind.wrap .i64 (p5+1))))
 (fun e=>some (.r ())))
def rP (p7:Int) (sb3:Slice) (i8:Int):Option (Fw Int Unit Unit):=
 (idx sb3.last p7).bind fun x_14=>
 au (decide (i8<x_14))
 ((idx sb3.j p7).bind fun x_15=>
 (idx x_15 i8).bind fun x_16=>
 (cF sb3 x_16).bind fun x_17=>
 au x_17
 (some (.n (IntKind.wrap .i64 (i8+1))))
 (some (.r ())))
 (some (.x ()))
def W4 (p7 i8:Int) (sb3:Slice):Option (Fw Int Unit Unit):=
 (aX (fun q:Int=>rP p7 sb3 q) i8).bind (Fw.elim
 (fun e=>some (.n (IntKind.wrap .i64 (p7+1))))
 (fun e=>some (.r ())))
def dI (sb3:Slice) (p7:Int):Option (Fw Int Unit Unit):=
 au (decide (p7<(len sb3.j)))
 (W4 p7 0 sb3)
 (some (.x ()))
def W3 (p7:Int) (sb3:Slice):Option Bool:=
 (aX (fun q:Int=>dI sb3 q) p7).bind (Fw.elim
 (fun e=>some true)
 (fun e=>some false))
def aG (tb2:Trace) (sb3:Slice) (p5:Int):Option (Fw Int Unit Unit):=
 au (decide (p5<(len sb3.j)))
 ((idx sb3.j p5).bind fun x_10=>
 (idx tb2.procs p5).bind fun x_11=>
 au ((len x_10)==(len x_11.events))
 (W2 p5 0 tb2 sb3)
 (some (.r ())))
 (some (.x ()))
def W1 (p5:Int) (tb2:Trace) (sb3:Slice):Option Bool:=
 (aX (fun q:Int=>aG tb2 sb3 q) p5).bind (Fw.elim
 (fun e=>bN.W3 0 sb3)
 (fun e=>some false))
end bN
def bN (t0:Trace) (s1:Slice):Option Bool:=
 (fD t0).bind fun x_1=>
 au x_1
 (au s1.empty
 ((au ((len s1.first)==0)
 (some ((len s1.last)==0))
 (some false):Option Bool).bind fun x_2=>
 (au x_2
 (some ((len s1.j)==0))
 (some false):Option Bool).bind fun x_3=>
 some x_3)
 ((c_ t0 s1.first).bind fun x_4=>
 (au x_4
 ((c_ t0 s1.last).bind fun x_5=>
 some (!x_5))
 (some true):Option Bool).bind fun x_6=>
 (au x_6
 (some true)
 ((cR s1.first s1.last).bind fun x_7=>
 some (!x_7)):Option Bool).bind fun x_8=>
 (au x_8
 (some true)
 (some (!((len s1.j)==(len t0.procs)))):Option Bool).bind fun x_9=>
 au x_9
 (some false)
 (bN.W1 0 t0 s1)))
 (some false)
open bN in
instance MC (t0:Trace) (s1:Slice):Fc Sy cL (bN t0 s1):=Fc.M 12 [enc t0,enc s1] (bY 2 2 t0 (bY 0 3 s1 (aK 7 fun x_1 _=>cB 3 11 (aJ 10 13 (aZ 5 s1.first (aU 2 5 [18] 23 (aJ 2 18 (aZ 2 s1.last (aC 2)) (aC 5)) fun x_2=>aU 1 5 [3,24] 29 (aJ 1 24 (aZ 2 s1.j (aC 2)) (aC 5)) fun x_3=>aj)) (aK 9 fun x_4 _=>aU 2 6 [35] 41 (cB 2 35 (aK 3 fun x_5 _=>aC 2) (aC 6)) fun x_6=>aU 1 7 [42] 49 (aJ 1 42 (aC 7) (aK 4 fun x_7 _=>aC 2)) fun x_8=>aU 1 8 [50] 58 (aJ 1 50 (aC 8) (aZ 2 s1.j (aZ 2 t0.procs (aC 2)))) fun x_9=>aJ 2 58 aj (ck 11 (fun qW1=>(aS [Pv 2,Pv 3,Iv 5 qW1] [Xb 2 t0,Xb 3 s1])) (fun eW1=>(0,(aS [Pv 3] [Xb 3 s1]))) (fun eW1=>(aS [Bv 4 false] [])) (fun qW1=>aZ 7 s1.j (aJ 3 63 (br 11 fun x_10 _=>aZ 1 x_10 (br 3 fun x_11 _=>aZ 2 x_11.events (cB 3 79 (ck 10 (fun qW2=>(aS [Pv 2,Pv 3,Iv 5 qW1,Iv 6 qW2] [Xb 2 t0,Xb 3 s1])) (fun eW2=>(2,(aS [Pv 2,Pv 3,Iv 5 qW1] [Xb 2 t0,Xb 3 s1]))) (fun eW2=>(aS [Bv 4 false] [])) (fun qW2=>br 8 fun x_12 _=>aZ 1 x_12 (aJ 3 87 (aK 11 fun x_13 _=>cB 3 95 aj aj) aj)) (fun eW2=>aj) (fun eW2=>aj)) aj))) aj)) (fun eW1=>ck 10 (fun qW3=>(aS [Pv 3,Iv 7 qW3] [Xb 3 s1])) (fun eW3=>(4,(aS [] []))) (fun eW3=>(aS [Bv 4 false] [])) (fun qW3=>aZ 7 s1.j (aJ 3 100 (ck 12 (fun qW4=>(aS [Pv 3,Iv 7 qW3,Iv 8 qW4] [Xb 3 s1])) (fun eW4=>(6,(aS [Pv 3,Iv 7 qW3] [Xb 3 s1]))) (fun eW4=>(aS [Bv 4 false] [])) (fun qW4=>br 8 fun x_14 _=>aJ 4 109 (br 11 fun x_15 _=>br 2 fun x_16 _=>h_ 1 fun x_17 _=>cB 3 122 aj aj) aj) (fun eW4=>aj) (fun eW4=>aj)) aj)) (fun eW3=>aj) (fun eW3=>aj)) (fun eW1=>aj)))) aj)))
def jV (x0 low1 high2:Int):Option Bool:=
 (au (decide (x0≥low1))
 (some (decide (x0≤high2)))
 (some false):Option Bool).bind fun x_1=>
 some x_1
instance V2 (x0 low1 high2:Int):Fc Sy cL (jV x0 low1 high2):=Fc.M 117 [.int .i64 x0,.int .i64 low1,.int .i64 high2] (aU 11 4 [0,2,10] 14 (aJ 11 10 (aC 4) (aC 4)) fun x_1=>aj)
def iF (c0:Int):Option Bool:=
 (au (decide (c0≥97))
 (some (decide (c0≤122)))
 (some false):Option Bool).bind fun x_1=>
 (au x_1
 (some true)
 ((au (decide (c0≥65))
 (some (decide (c0≤90)))
 (some false):Option Bool).bind fun x_2=>
 some x_2):Option Bool).bind fun x_3=>
 some x_3
instance O8 (c0:Int):Fc Sy cL (iF c0):=Fc.M 186 [.int .u8 c0] (aU 10 3 [5] 8 (aJ 10 5 (aC 3) (aC 3)) fun x_1=>aU 1 7 [0,9] 16 (aJ 1 9 (aC 7) (aU 3 3 [0,12] 15 (aJ 3 12 (aC 3) (aC 3)) fun x_2=>aC 1)) fun x_3=>aj)
def kW (c0:Int):Option Bool:=
 (au (decide (c0≥48))
 (some (decide (c0≤57)))
 (some false):Option Bool).bind fun x_1=>
 some x_1
instance Qp (c0:Int):Fc Sy cL (kW c0):=Fc.M 187 [.int .u8 c0] (aU 10 3 [0,5] 8 (aJ 10 5 (aC 3) (aC 3)) fun x_1=>aj)
namespace cU
def aG (s0:ByteArray) (v18:Int) (v19:Int):Option (Fw Int Unit Unit):=
 au (decide (v19<v18))
 ((gM s0 v19).bind fun x_5=>
 (iF x_5).bind fun x_6=>
 (au x_6
 (some false)
 ((gM s0 v19).bind fun x_7=>
 (kW x_7).bind fun x_8=>
 some (!x_8)):Option Bool).bind fun x_9=>
 (au x_9
 ((gM s0 v19).bind fun x_10=>
 some (!(x_10==95)))
 (some false):Option Bool).bind fun x_11=>
 au x_11
 (some (.r ()))
 (some (.n (IntKind.wrap .i64 (v19+1)))))
 (some (.x ()))
def W1 (s0:ByteArray) (v18 v19:Int):Option Bool:=
 (aX (fun q:Int=>aG s0 v18 q) v19).bind (Fw.elim
 (fun e=>some true)
 (fun e=>some false))
end cU
def cU (s0:ByteArray):Option Bool:=
 (au (ByteArray.toList s0==ByteArray.toList ByteArray.empty)
 (some true)
 (some (decide (((ByteArray.size s0:Nat):Int)>16))):Option Bool).bind fun x_1=>
 (au x_1
 (some true)
 ((gM s0 0).bind fun x_2=>
 (iF x_2).bind fun x_3=>
 some (!x_3)):Option Bool).bind fun x_4=>
 au x_4
 (some false)
 (cU.W1 s0 ((ByteArray.size s0:Nat):Int) 0)
open cU in
instance O9 (s0:ByteArray):Fc Sy cL (cU s0):=Fc.M 152 [.str s0] (aU 11 4 [6] 10 (aJ 11 6 (aC 4) (aC 4)) fun x_1=>aU 1 5 [11] 16 (aJ 1 11 (aC 5) (vY 1 .i64 fun x_2 _=>aK 0 fun x_3 _=>aC 2)) fun x_4=>aJ 2 16 aj (ck 13 (fun qW1=>(aS [(0,.v (.str s0)),Iv 18 ((ByteArray.size s0:Nat):Int),Iv 19 qW1] [])) (fun eW1=>(0,(aS [] []))) (fun eW1=>(aS [Bv 2 false] [])) (fun qW1=>aJ 7 20 (vY 15 .i64 fun x_5 _=>aK 0 fun x_6 _=>aU 2 6 [27] 33 (cB 2 27 (aC 6) (vY 2 .i64 fun x_7 _=>aK 0 fun x_8 _=>aC 2)) fun x_9=>aU 1 5 [3,34] 39 (aJ 1 34 (vY 2 .i64 fun x_10 _=>aC 2) (aC 5)) fun x_11=>aJ 2 39 aj aj) aj) (fun eW1=>aj) (fun eW1=>aj)))
def e9 (y0 v1:bq):Option Bool:=
 some (ByteArray.toList y0.name==ByteArray.toList v1.name)
instance D2 (y0 v1:bq):Fc Sy cL (e9 y0 v1):=Fc.M 154 [enc y0,.fptr (cells v1)] (bY 2 2 y0 aj)
namespace dV
def aG (s0:Sl bq) (v7:Int) (v8:Int) (p1:bq→Option Bool):Option (Fw Int Unit Int):=
 au (decide (v8<v7))
 ((idx s0 v8).bind fun x_1=>
 (p1 x_1).bind fun x_2=>
 au x_2
 (some (.r v8))
 (some (.n (IntKind.wrap .i64 (v8+1)))))
 (some (.x ()))
def W1 (s0:Sl bq) (v7 v8:Int) (p1:bq→Option Bool):Option Int:=
 (aX (fun q:Int=>aG s0 v7 q p1) v8).bind (Fw.elim
 (fun e=>some (-1))
 (fun e=>some e))
end dV
def dV (s0:Sl bq) (p1:bq→Option Bool):Option Int:=
 dV.W1 s0 (len s0) 0 p1
open dV in
abbrev sR (g1:FuncId) (e1:List V) (p1:bq→Option Bool) (h1:ji Sy cL g1 e1 (fun z:bq=>[enc z]) (fun r:Bool=>[.bool r]) p1) (s0:Sl bq):Fc Sy cL (dV s0 p1):=Fc.M 188 [enc s0,.clo g1 [] e1] (aZ 9 s0 (ck 5 (fun qW1=>(aS [Cv 0 s0,(1,.v (.clo g1 [] e1)),Iv 7 (len s0),Iv 8 qW1] [])) (fun eW1=>(0,(aS [] []))) (fun eW1=>(aS [Iv 4 eW1] [])) (fun qW1=>aJ 7 9 (br 16 fun x_1 _=>tq 1 h1.f x_1 fun x_2 _=>aJ 2 16 aj aj) aj) (fun eW1=>aj) (fun eW1=>aj))) (l:=by simp[h1.d])
def fC (s0:Sl bq) (p1:bq→Option Bool):Option Bool:=
 (dV s0 p1).bind fun x_1=>
 some (decide (x_1≥0))
abbrev q9 (g1:FuncId) (e1:List V) (p1:bq→Option Bool) (h1:ji Sy cL g1 e1 (fun z:bq=>[enc z]) (fun r:Bool=>[.bool r]) p1) (s0:Sl bq):Fc Sy cL (fC s0 p1):=Fc.M 153 [enc s0,.clo g1 [] e1] (aK (F:=sR g1 e1 p1 h1 s0) 9 fun x_1 _=>aj) (l:=by simp[h1.d])
def e8 (w0 v1:Var):Option Bool:=
 some (ByteArray.toList w0.name==ByteArray.toList v1.name)
instance D1 (w0 v1:Var):Fc Sy cL (e8 w0 v1):=Fc.M 155 [enc w0,.fptr (cells v1)] (aj)
namespace bX
def aG (v32:Sl Var) (v33:Int) (xb5:bq) (v34:Int):Option (Fw Int Unit Int):=
 au (decide (v34<v33))
 ((idx v32 v34).bind fun x_6=>
 (cU x_6.name).bind fun x_7=>
 (au x_7
 ((gz xb5.vars none (some v34)).bind fun x_8=>
 (eo x_8 (fun z=>e8 z x_6)).bind fun x_9=>
 some x_9)
 (some true):Option Bool).bind fun x_10=>
 au x_10
 (some (.r 13))
 ((jV x_6.init_ (-1073741824) 1073741824).bind fun x_11=>
 au x_11
 (some (.n (IntKind.wrap .i64 (v34+1))))
 (some (.r 2))))
 (some (.x ()))
def W1 (v32:Sl Var) (v33 v34:Int) (xb5:bq):Option Int:=
 (aX (fun q:Int=>aG v32 v33 xb5 q) v34).bind (Fw.elim
 (fun e=>au (decide ((len xb5.events)>64))
 (some 5)
 (some 0))
 (fun e=>some e))
end bX
def bX (t0:Trace) (p1:Int):Option Int:=
 (idx t0.procs p1).bind fun x_1=>
 (cU x_1.name).bind fun x_2=>
 (au x_2
 ((gz t0.procs none (some p1)).bind fun x_3=>
 (fC x_3 (fun z=>e9 z x_1)).bind fun x_4=>
 some x_4)
 (some true):Option Bool).bind fun x_5=>
 au x_5
 (some 13)
 (au (decide ((len x_1.vars)>8))
 (some 5)
 (bX.W1 x_1.vars (len x_1.vars) 0 x_1))
open bX in
instance Gk (t0:Trace) (p1:Int):Fc Sy cL (bX t0 p1):=Fc.M 118 [enc t0,.int .i64 p1] (bY 2 2 t0 (br 8 fun x_1 _=>ou 2 5 0 x_1 (aK 8 fun x_2 _=>aU 2 7 [1,2,18] 25 (cB 2 18 (FQ 3 false true [.int .i64 p1] fun x_3 _=>h_ (F:=q9 154 [.fptr (cells x_1)] (fun z=>e9 z x_1) ji.rm x_3) 1 fun x_4 _=>aC 1) (aC 7)) fun x_5=>aJ 3 13 aj (aZ 5 x_1.vars (aJ 4 26 aj (aZ 9 x_1.vars (ck 5 (fun qW1=>(aS [Pv 5,Cv 32 x_1.vars,Iv 33 (len x_1.vars),Iv 34 qW1] [Xb 5 x_1])) (fun eW1=>(1,(aS [Pv 5] [Xb 5 x_1]))) (fun eW1=>(aS [Iv 4 eW1] [])) (fun qW1=>aJ 7 35 (br 8 fun x_6 _=>aK 11 fun x_7 _=>aU 2 7 [6,44] 51 (cB 2 44 (FQ 3 false true [.int .i64 qW1] fun x_8 _=>h_ (F:=lJ 155 [.fptr (cells x_6)] (fun z=>e8 z x_6) ji.rm x_8) 1 fun x_9 _=>aC 1) (aC 7)) fun x_10=>aJ 3 39 aj (aK 5 fun x_11 _=>cB 4 52 aj aj)) aj) (fun eW1=>aZ 7 x_1.events (aJ 3 61 aj aj)) (fun eW1=>aj))))))))
def fT (t0:Trace):Option Trace:=
 some t0
instance Nh (t0:Trace):Fc Sy cL (fT t0):=Fc.NE (fun r:Trace=>[(.clo 156 [] [.fptr (cells r)])]) 119 [enc t0] (bY 2 1 t0 aj)
namespace dw
def J1 (p1:Int) (v19:Bool) (tb3:Trace) (eb5:Event):Option Bool:=
 au v19
 ((jV eb5.peer 0 (IntKind.wrap .i64 ((len tb3.procs)-1))).bind fun x_2=>
 (au x_2
 (some (!(eb5.peer==p1)))
 (some false):Option Bool).bind fun x_3=>
 (au x_3
 ((jV eb5.message 0 199).bind fun x_4=>
 some x_4)
 (some false):Option Bool).bind fun x_5=>
 some x_5)
 (some false)
end dw
def dw (t0:Trace) (p1:Int) (e2:Event):Option Bool:=
 au (e2.kind==1)
 ((au (e2.peer==0)
 (some (e2.message==0))
 (some false):Option Bool).bind fun x_1=>
 some x_1)
 (au (e2.kind==2)
 (dw.J1 p1 true t0 e2)
 (dw.J1 p1 (e2.kind==3) t0 e2))
open dw in
instance M0 (t0:Trace) (p1:Int) (e2:Event):Fc Sy cL (dw t0 p1 e2):=Fc.M 157 [enc t0,.int .i64 p1,enc e2] (bY 2 3 t0 (bY 0 5 e2 (aJ 17 9 (aU 7 4 [5,14] 18 (aJ 7 14 (aC 4) (aC 4)) fun x_1=>aj) (aJ 8 19 (Az 4 (aJ 0 19 (aZ 7 t0.procs (aK 1 fun x_2 _=>aU 1 5 [1,29] 34 (aJ 1 29 (aC 5) (aC 5)) fun x_3=>aU 1 4 [5,35] 39 (aJ 1 35 (aK 2 fun x_4 _=>aC 1) (aC 4)) fun x_5=>aj)) aj)) (Az 7 (aJ 0 19 (aZ 7 t0.procs (aK 1 fun x_2 _=>aU 1 5 [1,29] 34 (aJ 1 29 (aC 5) (aC 5)) fun x_3=>aU 1 4 [5,35] 39 (aJ 1 35 (aK 2 fun x_4 _=>aC 1) (aC 4)) fun x_5=>aj)) aj))))))
def fQ (b0 v1:Assign):Option Bool:=
 some (b0.var==v1.var)
instance EN (b0 v1:Assign):Fc Sy cL (fQ b0 v1):=Fc.M 159 [enc b0,.fptr (cells v1)] (aj)
namespace dB
def aG (s0:Sl Assign) (v7:Int) (v8:Int) (p1:Assign→Option Bool):Option (Fw Int Unit Int):=
 au (decide (v8<v7))
 ((idx s0 v8).bind fun x_1=>
 (p1 x_1).bind fun x_2=>
 au x_2
 (some (.r v8))
 (some (.n (IntKind.wrap .i64 (v8+1)))))
 (some (.x ()))
def W1 (s0:Sl Assign) (v7 v8:Int) (p1:Assign→Option Bool):Option Int:=
 (aX (fun q:Int=>aG s0 v7 q p1) v8).bind (Fw.elim
 (fun e=>some (-1))
 (fun e=>some e))
end dB
def dB (s0:Sl Assign) (p1:Assign→Option Bool):Option Int:=
 dB.W1 s0 (len s0) 0 p1
open dB in
abbrev rN (g1:FuncId) (e1:List V) (p1:Assign→Option Bool) (h1:ji Sy cL g1 e1 (fun z:Assign=>[enc z]) (fun r:Bool=>[.bool r]) p1) (s0:Sl Assign):Fc Sy cL (dB s0 p1):=Fc.M 189 [enc s0,.clo g1 [] e1] (aZ 9 s0 (ck 5 (fun qW1=>(aS [Cv 0 s0,(1,.v (.clo g1 [] e1)),Iv 7 (len s0),Iv 8 qW1] [])) (fun eW1=>(0,(aS [] []))) (fun eW1=>(aS [Iv 4 eW1] [])) (fun qW1=>aJ 7 9 (br 16 fun x_1 _=>tq 1 h1.f x_1 fun x_2 _=>aJ 2 16 aj aj) aj) (fun eW1=>aj) (fun eW1=>aj))) (l:=by simp[h1.d])
def eG (s0:Sl Assign) (p1:Assign→Option Bool):Option Bool:=
 (dB s0 p1).bind fun x_1=>
 some (decide (x_1≥0))
abbrev pI (g1:FuncId) (e1:List V) (p1:Assign→Option Bool) (h1:ji Sy cL g1 e1 (fun z:Assign=>[enc z]) (fun r:Bool=>[.bool r]) p1) (s0:Sl Assign):Fc Sy cL (eG s0 p1):=Fc.M 158 [enc s0,.clo g1 [] e1] (aK (F:=rN g1 e1 p1 h1 s0) 9 fun x_1 _=>aj) (l:=by simp[h1.d])
namespace bz
def bl (v52:Sl Assign) (v53:Int) (eb5:Event) (xb7:bq) (v54:Int):Option (Fw Int Unit Int):=
 au (decide (v54<v53))
 ((idx v52 v54).bind fun x_6=>
 (jV x_6.var 0 (IntKind.wrap .i64 ((len xb7.vars)-1))).bind fun x_7=>
 (au x_7
 ((jV x_6.value (-1073741824) 1073741824).bind fun x_8=>
 some (!x_8))
 (some true):Option Bool).bind fun x_9=>
 au x_9
 (some (.r 2))
 ((gz eb5.assign none (some v54)).bind fun x_10=>
 (eG x_10 (fun z=>fQ z x_6)).bind fun x_11=>
 au x_11
 (some (.r 8))
 (some (.n (IntKind.wrap .i64 (v54+1))))))
 (some (.x ()))
def W2 (v52:Sl Assign) (v53 v54:Int) (eb5:Event) (xb7:bq):Option Int:=
 (aX (fun q:Int=>bl v52 v53 eb5 xb7 q) v54).bind (Fw.elim
 (fun e=>some 0)
 (fun e=>some e))
def J1 (last8:Int) (tb3:Trace) (idb4:aa) (eb5:Event) (xb7:bq):Option Int:=
 (dw tb3 idb4.proc eb5).bind fun x_3=>
 au x_3
 ((jV eb5.time 0 1099511627776).bind fun x_4=>
 (au x_4
 (some (decide (eb5.time<last8)))
 (some true):Option Bool).bind fun x_5=>
 au x_5
 (some 11)
 (au (decide ((len eb5.assign)>8))
 (some 5)
 (bz.W2 eb5.assign (len eb5.assign) 0 eb5 xb7)))
 (some 3)
theorem sX (last8:Int) (tb3:Trace) (idb4:aa) (eb5:Event) (xb7:bq):Le ((J1 last8 tb3 idb4 eb5 xb7).bind (fun r=>some [.int .i64 r])) (bL Sy cL (nJ (tr Tx 120)) (qY (tb Tx 120) [1,1,1,1,0] [] (aS [Pv 3,Pv 4,Pv 5,Pv 7,Iv 8 last8] [Xb 3 tb3,Xb 4 idb4,Xb 5 eb5,Xb 7 xb7]))):=
 aK 8 fun x_3 _=>cB 4 28 (aK 5 fun x_4 _=>aU 2 5 [8,40] 45 (cB 2 40 (aC 5) (aC 5)) fun x_5=>aJ 3 35 aj (aZ 5 eb5.assign (aJ 4 46 aj (aZ 9 eb5.assign (ck 5 (fun qW2=>(aS [Pv 5,Pv 7,Cv 52 eb5.assign,Iv 53 (len eb5.assign),Iv 54 qW2] [Xb 5 eb5,Xb 7 xb7])) (fun eW2=>(1,(aS [] []))) (fun eW2=>(aS [Iv 6 eW2] [])) (fun qW2=>aJ 7 55 (br 8 fun x_6 _=>aZ 13 xb7.vars (aK 1 fun x_7 _=>aU 2 5 [68] 73 (cB 2 68 (aK 2 fun x_8 _=>aC 2) (aC 5)) fun x_9=>aJ 3 59 aj (FQ 6 false true [.int .i64 qW2] fun x_10 _=>h_ (F:=pI 159 [.fptr (cells x_6)] (fun z=>fQ z x_6) ji.rm x_10) 1 fun x_11 _=>aJ 3 74 aj aj))) aj) (fun eW2=>aj) (fun eW2=>aj)))))) aj
end bz
def bz (t0:Trace) (id1:aa) (e2:Event):Option Int:=
 (idx t0.procs id1.proc).bind fun x_1=>
 au (decide (id1.index>1))
 ((idx x_1.events (IntKind.wrap .i64 (id1.index-2))).bind fun x_2=>
 bz.J1 x_2.time t0 id1 e2 x_1)
 (bz.J1 0 t0 id1 e2 x_1)
open bz in
instance ID (t0:Trace) (id1:aa) (e2:Event):Fc Sy cL (bz t0 id1 e2):=Fc.M 120 [enc t0,enc id1,enc e2] (bY 2 3 t0 (bY 1 5 e2 (br 9 fun x_1 _=>ou 2 7 0 x_1 (aJ 15 19 (br 7 fun x_2 _=>AN 6 (sX x_2.time t0 id1 e2 x_1)) (AN 4 (sX 0 t0 id1 e2 x_1))))))
def mG (e0:Event) (v1 v2:Int):Option Bool:=
 (au (e0.kind==2)
 (some (e0.message==v1))
 (some false):Option Bool).bind fun x_1=>
 (au x_1
 (some (e0.peer==v2))
 (some false):Option Bool).bind fun x_2=>
 some x_2
instance Kx (e0:Event) (v1 v2:Int):Fc Sy cL (mG e0 v1 v2):=Fc.M 190 [enc e0,.fptr (cells v1),.fptr (cells v2)] (bY 2 3 e0 (aU 9 5 [1,8] 13 (aJ 9 8 (aC 5) (aC 5)) fun x_1=>aU 1 5 [2,3,14] 19 (aJ 1 14 (aC 5) (aC 5)) fun x_2=>aj))
def qv (t0:Trace) (p1 m2 to_3:Int):Option Bool:=
 (idx t0.procs p1).bind fun x_1=>
 (eX x_1.events (fun z=>mG z m2 to_3)).bind fun x_2=>
 some x_2
instance Qh (t0:Trace) (p1 m2 to_3:Int):Fc Sy cL (qv t0 p1 m2 to_3):=Fc.M 160 [enc t0,.int .i64 p1,.int .i64 m2,.int .i64 to_3] (bY 2 4 t0 (br 10 fun x_1 _=>h_ (F:=kz 190 [.fptr (cells m2),.fptr (cells to_3)] (fun z=>mG z m2 to_3) ji.rm x_1.events) 3 fun x_2 _=>aj))
namespace cV
def mJ (vk0_12 tb1:Trace) (vb2:Option (bp 200 aH)) (vb3:aa) (vb4:Int) (x:aa×Event) (vb10:bp 200 aH):Option (Fw (bp 200 aH) Empty (aa×Int×(bp 200 aH))):=
 au (x.2.kind==2)
 ((bp.at vb10 x.2.message).bind fun x_2=>
 au (decide (x_2.from_.index>0))
 (some (.r (x.1,8,vb10)))
 ((bp.at vb10 x.2.message).bind fun x_3=>
 some (.n (bp.set vb10 x.2.message (⟨x.1,x_3.to_⟩:aH)))))
 (au (x.2.kind==3)
 ((bp.at vb10 x.2.message).bind fun x_4=>
 au (decide (x_4.to_.index>0))
 (some (.r (x.1,8,vb10)))
 ((qv tb1 x.2.peer x.2.message x.1.proc).bind fun x_5=>
 au x_5
 ((bp.at vb10 x.2.message).bind fun x_6=>
 some (.n (bp.set vb10 x.2.message (⟨x_6.from_,x.1⟩:aH))))
 (some (.r (x.1,7,vb10)))))
 (some (.n vb10)))
def E1 (vk0_12 tb1:Trace) (vb2:Option (bp 200 aH)) (vb3:aa) (vb4:Int) (vb10:bp 200 aH):Option ((Option (bp 200 aH))×aa×Int):=
 (fV vk0_12).bind fun its=>(kK (fun (x:aa×Event) (q:bp 200 aH)=>mJ vk0_12 tb1 vb2 vb3 vb4 x q) its vb10).bind (Fw.tg
 (fun q=>some (some q,⟨0,0⟩,0))
 (fun e=>Empty.elim e)
 (fun e=>some ((none:Option (bp 200 aH)),e.1,e.2.1)))
end cV
def cV (t0:Trace):Option ((Option (bp 200 aH))×aa×Int):=
 (fT t0).bind fun x_1=>
 cV.E1 x_1 t0 (none:Option (bp 200 aH)) (⟨0,0⟩:aa) 0 (bp.Jj 200 (⟨⟨0,0⟩,⟨0,0⟩⟩:aH))
open cV in
instance Ht (t0:Trace):Fc Sy cL (cV t0):=Fc.N 121 [enc t0] (bY 2 1 t0 (bY 8 10 (bp.Jj 200 (⟨⟨0,0⟩,⟨0,0⟩⟩:aH)) (Tf 0 5 (aS [Pv 1,Pv 2,Pv 3,Pv 4,Pv 10] [Xb 1 t0,(2,.box [cv (none:Option (bp 200 aH))]),Xb 3 (⟨0,0⟩:aa),(4,.box [iv 0]),Xb 10 (bp.Jj 200 (⟨⟨0,0⟩,⟨0,0⟩⟩:aH))]) [cv (none:Option (bp 200 aH))] (by simp only[aS,uw,mL,oB,mz,nW,pO,ot,pU,mE,ox,uu,pY,pX,pN,qe,rQ,rR,nU,pS];rfl) (aK 7 fun x_1 _=>GB fun its hits=>Cl 4 [Pv 1,Pv 2,Pv 3,Pv 4,Pv 5,(12,.v (.clo 156 [] [.fptr (cells x_1)]))] (fun qE1=>[Xb 1 t0,(2,.box [cv (none:Option (bp 200 aH))]),Xb 3 (⟨0,0⟩:aa),(4,.box [iv 0]),(5,.box [.ptr 10 0]),Xb 10 qE1]) (fun eE1=>Empty.elim eE1) (fun eE1=>[Xb 1 t0,(2,.box [cv (none:Option (bp 200 aH))]),Xb 3 eE1.1,(4,.box [iv eE1.2.1]),(5,.box [.ptr 10 0]),Xb 10 eE1.2.2]) (vm x_1 its hits) (fun xE1 qE1=>Tf 2 6 ⟨[Pv 1,Pv 2,Pv 3,Pv 4,Pv 5,(12,.v (.clo 156 [] [.fptr (cells x_1)])),Cv 13 xE1.1,Cv 14 xE1.2],[Xb 1 t0,(2,.box [cv (none:Option (bp 200 aH))]),Xb 3 (⟨0,0⟩:aa),(4,.box [iv 0]),(5,.box [.ptr 10 0]),Xb 10 qE1],[1,2,3,4,5],[],true,0⟩ [iv 0,iv 0] (by simp only[aS,uw,mL,oB,mz,nW,pO,ot,pU,mE,ox,uu,pY,pX,pN,qe,rQ,rR,nU,pS];rfl) (Tf 4 7 ⟨[Pv 1,Pv 2,Pv 3,Pv 4,Pv 5,(12,.v (.clo 156 [] [.fptr (cells x_1)])),Cv 14 xE1.2,Pv 6],[Xb 1 t0,(2,.box [cv (none:Option (bp 200 aH))]),Xb 3 (⟨0,0⟩:aa),(4,.box [iv 0]),(5,.box [.ptr 10 0]),Xb 10 qE1,Xb 6 xE1.1],[1,2,3,4,5],[],true,0⟩ [iv 0,iv 0,iv 0,iv 0,.v .aF] (by simp only[aS,uw,mL,oB,mz,nW,pO,ot,pU,mE,ox,uu,pY,pX,pN,qe,rQ,rR,nU,pS];rfl) (ou 0 7 0 xE1.2 (zD 1 (aJ 22 19 (Cb 7 .i64 10 fun x_2 h_2=>LP 2 1 false 10 qE1 xE1.2.message 1 x_2 h_2 (.int .i64 x_2.from_.index) (by rfl) (aJ 3 28 aj (Cb 8 .i64 10 fun x_3 h_3=>L8 1 2 10 qE1 xE1.2.message 0 x_3 h_3 (⟨xE1.1,x_3.to_⟩:aH) (enc xE1.1) (by rfl) aj))) (aJ 7 36 (Cb 7 .i64 10 fun x_4 h_4=>LP 2 1 false 10 qE1 xE1.2.message 3 x_4 h_4 (.int .i64 x_4.to_.index) (by rfl) (aJ 3 45 aj (aK 12 fun x_5 _=>cB 3 54 (Cb 8 .i64 10 fun x_6 h_6=>L8 1 2 10 qE1 xE1.2.message 2 x_6 h_6 (⟨x_6.from_,xE1.1⟩:aH) (enc xE1.1) (by rfl) aj) aj))) aj)))))) (fun qE1=>Wf 13 (aS [Pv 2,Pv 3,Pv 4] [(2,.box [.ptr 10 0]),Xb 3 (⟨0,0⟩:aa),(4,.box [iv 0]),Xb 10 qE1]) [.ptr 10 0,cv (⟨0,0⟩:aa),iv 0] (PF (d:=10) (x:=qE1) (vs:=[enc (⟨0,0⟩:aa),.int .i64 0]) (by kernel_rfl)) (by kernel_rfl)) (fun x=>Empty.elim x) (fun eE1=>aj)))))
namespace fZ
def J1 (lq1:bp 200 aH) (out7:Sl aa) (p8:Sl Event) (xb5:aa):Option (Sl aa):=
 (idx p8 (IntKind.wrap .i64 (xb5.index-1))).bind fun x_2=>
 (au (x_2.kind==2)
 ((bp.at lq1 x_2.message).bind fun x_3=>
 some (decide (x_3.to_.index>0)))
 (some false):Option Bool).bind fun x_4=>
 au x_4
 ((bp.at lq1 x_2.message).bind fun x_5=>
 (kH out7 (x_5.to_:aa)).bind fun x_6=>
 some x_6)
 (some out7)
theorem sX (lq1:bp 200 aH) (out7:Sl aa) (p8:Sl Event) (xb5:aa):Le ((J1 lq1 out7 p8 xb5).bind (fun r=>some [enc r])) (bL Sy cL (nJ (tr Tx 161)) (qY (tb Tx 161) [1,1,1,1,0,0] [] (aS [Kv 1 lq1,Pv 5,Ov 7,Cv 8 p8] [Xb 5 xb5,Lb 2007 out7]))):=
 br 7 fun x_2 _=>ou 2 9 0 x_2 (aU 8 10 [40] 50 (aJ 8 40 (LK 4 .i64 fun x_3 h_3=>JF 0 2 lq1 x_2.message 0 x_3 h_3 (JF 0 1 lq1 x_2.message 2 x_3 h_3 (LL 0 1 false lq1 x_2.message 3 x_3 h_3 (.int .i64 x_3.to_.index) (by rfl) (aC 2)))) (aC 10)) fun x_4=>aJ 2 50 (LK 7 .i64 fun x_5 h_5=>JF 0 2 lq1 x_2.message 0 x_5 h_5 (LL 0 2 true lq1 x_2.message 2 x_5 h_5 (enc x_5.to_) (by rfl) (DO 1 2007 59 60 fun x_6 _=>aj))) aj)
end fZ
def fZ (t0:Trace) (l1:bp 200 aH) (x2:aa):Option (Sl aa):=
 (idx t0.procs x2.proc).bind fun x_1=>
 au (decide (x2.index<(len x_1.events)))
 (fZ.J1 l1 (Sl.row [⟨x2.proc,IntKind.wrap .i64 (x2.index+1)⟩]:Sl aa) x_1.events x2)
 (fZ.J1 l1 (Sl.nil:Sl aa) x_1.events x2)
open fZ in
instance Qs (t0:Trace) (l1:bp 200 aH) (x2:aa):Fc Sy cL (fZ t0 l1 x2):=Fc.N 161 [enc t0,.fptr (cells l1),enc x2] (bY 2 3 t0 (br 15 fun x_1 _=>aZ 11 x_1.events (aJ 3 21 (LW 10 29 30 .aF (⟨x2.proc,IntKind.wrap .i64 (x2.index+1)⟩:aa) (AN 5 (sX l1 (Sl.row [⟨x2.proc,IntKind.wrap .i64 (x2.index+1)⟩]:Sl aa) x_1.events x2))) (AN 5 (sX l1 (Sl.nil:Sl aa) x_1.events x2)))))
namespace dJ
def dI (vk0_13:Trace) (v36:Sl aa) (v37:Int) (tb2:Trace) (lb3:bp 200 aH) (vb4:aa) (vb5:Bool) (idb6:aa) (rest8:Sl aa) (v38:Int) (vb16:Mo aa Bool):Option (Fw ((Sl aa)×Int×(Mo aa Bool)) ((Sl aa)×(Mo aa Bool)) Unit):=
 au (decide (v38<v37))
 ((idx v36 v38).bind fun x_6=>
 au (FB x_6 idb6)
 (some (.r ()))
 (au (Ay vb16 x_6 false)
 (some (.n (rest8,IntKind.wrap .i64 (v38+1),vb16)))
 ((kH rest8 (x_6:aa)).bind fun x_7=>
 some (.n (x_7,IntKind.wrap .i64 (v38+1),nH vb16 x_6 true)))))
 (some (.x (rest8,vb16)))
def W3 (rest8:Sl aa) (vk0_13:Trace) (v36:Sl aa) (v37 v38:Int) (tb2:Trace) (lb3:bp 200 aH) (vb4:aa) (vb5:Bool) (idb6:aa) (vb16:Mo aa Bool):Option (Fw ((Sl aa)×(Mo aa Bool)) Unit Unit):=
 (aX (fun q:(Sl aa)×Int×(Mo aa Bool)=>dI vk0_13 v36 v37 tb2 lb3 vb4 vb5 idb6 q.1 q.2.1 q.2.2) (rest8,v38,vb16)).bind (Fw.elim
 (fun e=>some (.n (e.1,e.2)))
 (fun e=>some (.r ())))
def bl (vk0_13 tb2:Trace) (lb3:bp 200 aH) (vb4:aa) (vb5:Bool) (idb6:aa) (rest8:Sl aa) (vb16:Mo aa Bool):Option (Fw ((Sl aa)×(Mo aa Bool)) Unit Unit):=
 au (decide ((len rest8)>0))
 ((Sl.pz rest8 (IntKind.wrap .i64 ((len rest8)-1))).bind fun x_2=>
 (Sl.get rest8 x_2).bind fun x_3=>
 (kV rest8 none (some (IntKind.wrap .i64 ((len rest8)-1)))).bind fun x_4=>
 (fZ tb2 lb3 x_3).bind fun x_5=>
 W3 x_4 vk0_13 x_5 (len x_5) 0 tb2 lb3 vb4 vb5 idb6 vb16)
 (some (.x ()))
def W2 (rest8:Sl aa) (vk0_13 tb2:Trace) (lb3:bp 200 aH) (vb4:aa) (vb5:Bool) (idb6:aa) (vb16:Mo aa Bool):Option (Fw Unit Empty aa):=
 (aX (fun q:(Sl aa)×(Mo aa Bool)=>bl vk0_13 tb2 lb3 vb4 vb5 idb6 q.1 q.2) (rest8,vb16)).bind (Fw.elim
 (fun e=>some (.n ()))
 (fun e=>some (.r idb6)))
def mJ (vk0_13 tb2:Trace) (lb3:bp 200 aH) (vb4:aa) (vb5:Bool) (x:aa×Event):Option (Fw Unit Empty aa):=
 W2 (Sl.row [x.1]:Sl aa) vk0_13 tb2 lb3 vb4 vb5 x.1 []
def E1 (vk0_13 tb2:Trace) (lb3:bp 200 aH) (vb4:aa) (vb5:Bool):Option (aa×Bool):=
 (fV vk0_13).bind fun its=>(kK (fun (x:aa×Event) (q:Unit)=>mJ vk0_13 tb2 lb3 vb4 vb5 x) its ()).bind (Fw.tg
 (fun q=>some (⟨0,0⟩,false))
 (fun e=>Empty.elim e)
 (fun e=>some (e,true)))
end dJ
def dJ (t0:Trace) (l1:bp 200 aH):Option (aa×Bool):=
 (fT t0).bind fun x_1=>
 dJ.E1 x_1 t0 l1 (⟨0,0⟩:aa) false
open dJ in
instance Na (t0:Trace) (l1:bp 200 aH):Fc Sy cL (dJ t0 l1):=Fc.M 122 [enc t0,.fptr (cells l1)] (bY 2 2 t0 (aK 9 fun x_1 _=>GB fun its hits=>Cl 4 [Pv 2,Pv 3,Pv 4,Pv 5,(13,.v (.clo 156 [] [.fptr (cells x_1)]))] (fun qE1=>[Xb 2 t0,(3,.box [cp l1]),Xb 4 (⟨0,0⟩:aa),(5,.box [bv false])]) (fun eE1=>Empty.elim eE1) (fun eE1=>[Xb 2 t0,(3,.box [cp l1]),Xb 4 eE1,(5,.box [bv true])]) (vm x_1 its hits) (fun xE1 qE1=>zD 4 (ck 18 (fun qW2=>⟨[Pv 2,Pv 3,Pv 4,Pv 5,Pv 6,(7,.mp 16),Ov 8,(13,.v (.clo 156 [] [.fptr (cells x_1)]))],[Xb 2 t0,(3,.box [cp l1]),Xb 4 (⟨0,0⟩:aa),(5,.box [bv false]),Xb 6 xE1.1,(16,r_ qW2.2),Lb 2008 qW2.1],[2,3,4,5],[],true,0⟩) (fun eW2=>(2,⟨[Pv 2,Pv 3,Pv 4,Pv 5,(13,.v (.clo 156 [] [.fptr (cells x_1)]))],[Xb 2 t0,(3,.box [cp l1]),Xb 4 (⟨0,0⟩:aa),(5,.box [bv false])],[2,3,4,5],[],true,0⟩)) (fun eW2=>⟨[],[Xb 2 t0,(3,.box [cp l1]),Xb 4 xE1.1,(5,.box [bv true])],[2,3,4,5],[],true,0⟩) (fun qW2=>G1 6 2008 qW2.1 (aJ 3 21 (G1 8 2008 qW2.1 (u6 .i64 1 2008 fun x_2 _=>yD 0 2008 0 2 true (fun x_3=>.agg [.int .i64 x_3.proc,.int .i64 x_3.index]) fun x_3 _=>G1 8 2008 qW2.1 (Wt 1 false true 2008 32 [.int .i64 (IntKind.wrap .i64 ((len qW2.1)-1))] fun x_4 _=>aK 8 fun x_5 _=>aZ 0 x_5 (ck 6 (fun qW3=>⟨[Pv 2,Pv 3,Pv 4,Pv 5,Pv 6,(7,.mp 16),Ov 8,(13,.v (.clo 156 [] [.fptr (cells x_1)])),Cv 36 x_5,Iv 37 (len x_5),Iv 38 qW3.2.1],[Xb 2 t0,(3,.box [cp l1]),Xb 4 (⟨0,0⟩:aa),(5,.box [bv false]),Xb 6 xE1.1,(16,r_ qW3.2.2),Lb 2008 qW3.1],[2,3,4,5],[],true,0⟩) (fun eW3=>(4,⟨[Pv 2,Pv 3,Pv 4,Pv 5,Pv 6,(7,.mp 16),Ov 8,(13,.v (.clo 156 [] [.fptr (cells x_1)]))],[Xb 2 t0,(3,.box [cp l1]),Xb 4 (⟨0,0⟩:aa),(5,.box [bv false]),Xb 6 xE1.1,(16,r_ eW3.2),Lb 2008 eW3.1],[2,3,4,5],[],true,0⟩)) (fun eW3=>⟨[],[Xb 2 t0,(3,.box [cp l1]),Xb 4 xE1.1,(5,.box [bv true])],[2,3,4,5],[],true,0⟩) (fun qW3=>aJ 8 39 (br 7 fun x_6 _=>aJ 13 44 aj (Wj 7 16 qW3.2.2 x_6 false (cB 3 49 aj (YU 5 16 qW3.2.2 x_6 true (DO 6 2008 54 55 fun x_7 _=>aj))))) aj) (fun eW3=>aj) (fun eW3=>aj))))) aj)) (fun eW2=>aj) (fun eW2=>aj))) (fun qE1=>aj) (fun x=>Empty.elim x) (fun eE1=>aj)))
namespace eO
def EV (vk0_36 tb1:Trace) (vb2:aa) (vb3:Int) (x:aa×Event):Option (Fw Unit Empty (aa×Int)):=
 (bz tb1 x.1 x.2).bind fun x_3=>
 au (x_3==0)
 (some (.n ()))
 (some (.r (x.1,x_3)))
def E2 (vk0_36 tb1:Trace) (vb2:aa) (vb3:Int):Option (aa×Int):=
 (fV vk0_36).bind fun its=>(kK (fun (x:aa×Event) (q:Unit)=>EV vk0_36 tb1 vb2 vb3 x) its ()).bind (Fw.tg
 (fun q=>(cV tb1).bind fun x_5=>
 au (x_5.2.2==0)
 ((x_5.1).bind fun x_6=>
 (dJ tb1 x_6).bind fun x_7=>
 au x_7.2
 (some (x_7.1,10))
 (some (⟨0,0⟩,0)))
 (some (x_5.2.1,x_5.2.2)))
 (fun e=>Empty.elim e)
 (fun e=>some (e.1,e.2)))
def aG (v22:Int) (tb1:Trace) (vb2:aa) (vb3:Int) (v23:Int):Option (Fw Int Unit (aa×Int)):=
 au (decide (v23<v22))
 ((bX tb1 v23).bind fun x_2=>
 au (x_2==0)
 (some (.n (IntKind.wrap .i64 (v23+1))))
 (some (.r ((⟨v23,0⟩:aa),x_2))))
 (some (.x ()))
def W1 (v22 v23:Int) (tb1:Trace) (vb2:aa) (vb3:Int):Option (aa×Int):=
 (aX (fun q:Int=>aG v22 tb1 vb2 vb3 q) v23).bind (Fw.elim
 (fun e=>(fT tb1).bind fun x_4=>
 eO.E2 x_4 tb1 vb2 vb3)
 (fun e=>some (e.1,e.2)))
end eO
def eO (t0:Trace):Option (aa×Int):=
 (jV (len t0.procs) 1 8).bind fun x_1=>
 au x_1
 (eO.W1 (len t0.procs) 0 t0 (⟨0,0⟩:aa) 0)
 (some (⟨0,0⟩,1))
open eO in
instance Qd (t0:Trace):Fc Sy cL (eO t0):=Fc.M 96 [enc t0] (bY 2 1 t0 (aZ 9 t0.procs (aK 0 fun x_1 _=>cB 3 18 (aZ 8 t0.procs (ck 5 (fun qW1=>(aS [Pv 1,Pv 2,Pv 3,Iv 22 (len t0.procs),Iv 23 qW1] [Xb 1 t0,Xb 2 (⟨0,0⟩:aa),(3,.box [iv 0])])) (fun eW1=>(0,(aS [Pv 1,Pv 2,Pv 3] [Xb 1 t0,Xb 2 (⟨0,0⟩:aa),(3,.box [iv 0])]))) (fun eW1=>(aS [Pv 2,Pv 3] [Xb 2 eW1.1,(3,.box [iv eW1.2])])) (fun qW1=>aJ 7 24 (aK 15 fun x_2 _=>cB 9 30 aj aj) aj) (fun eW1=>aK 6 fun x_4 _=>GB fun its hits=>Cl 4 [Pv 1,Pv 2,Pv 3,(36,.v (.clo 156 [] [.fptr (cells x_4)]))] (fun qE2=>[Xb 1 t0,Xb 2 (⟨0,0⟩:aa),(3,.box [iv 0])]) (fun eE2=>Empty.elim eE2) (fun eE2=>[Xb 1 t0,Xb 2 eE2.1,(3,.box [iv eE2.2])]) (vm x_4 its hits) (fun xE2 qE2=>ou 8 7 0 xE2.2 (zD 1 (aK 7 fun x_3 _=>cB 9 44 aj aj))) (fun qE2=>aK 5 fun x_5 _=>cB 17 54 (YT 8 (fun oo=>(aS [Pv 2,Pv 3,(36,.v (.clo 156 [] [.fptr (cells x_4)])),Pv 10,Iv 11 x_5.2.2,Bv 54 false,Cv 58 t0,Cv 59 oo] [Xb 1 t0,Xb 2 (⟨0,0⟩:aa),(3,.box [iv 0]),Xb 10 x_5.2.1])) fun x_6 _=>aK 0 fun x_7 _=>aJ 13 63 aj aj) aj) (fun x=>Empty.elim x) (fun eE2=>aj)) (fun eW1=>aj))) aj)))
def cT (t0:Trace):Option Bool:=
 (eO t0).bind fun x_1=>
 some (x_1.2==0)
instance Qf (t0:Trace):Fc Sy cL (cT t0):=Fc.M 54 [enc t0] (bY 2 1 t0 (aK 6 fun x_1 _=>aj))
def gG (c0:Sl Int) (v1:Trace):Option Bool:=
 some (!((len c0)==(len v1.procs)))
instance Pa (c0:Sl Int) (v1:Trace):Fc Sy cL (gG c0 v1):=Fc.M 162 [enc c0,.fptr (cells v1)] (aZ 8 c0 (aZ 2 v1.procs aj))
def tw (t0:Trace) (l1:Sl (Sl Int)):Option Bool:=
 (cT t0).bind fun x_1=>
 (au x_1
 ((fA l1 (fun z=>gG z t0)).bind fun x_2=>
 some (!x_2))
 (some false):Option Bool).bind fun x_3=>
 some x_3
instance VJ (t0:Trace) (l1:Sl (Sl Int)):Fc Sy cL (tw t0 l1):=Fc.M 123 [enc t0,enc l1] (bY 2 2 t0 (aK 6 fun x_1 _=>aU 1 5 [1,2,7] 12 (aJ 1 7 (h_ (F:=kU 162 [.fptr (cells t0)] (fun z=>gG z t0) ji.rm l1) 2 fun x_2 _=>aC 2) (aC 5)) fun x_3=>aj))
namespace gE
def aG (v7:Sl Int) (v8:Int) (tb2:Trace) (v9:Int):Option (Fw Int Unit Unit):=
 au (decide (v9<v8))
 ((idx v7 v9).bind fun x_1=>
 (au (decide (x_1<0))
 (some true)
 ((idx tb2.procs v9).bind fun x_2=>
 some (decide (x_1>(len x_2.events)))):Option Bool).bind fun x_3=>
 au x_3
 (some (.r ()))
 (some (.n (IntKind.wrap .i64 (v9+1)))))
 (some (.x ()))
def W1 (v7:Sl Int) (v8 v9:Int) (tb2:Trace):Option Bool:=
 (aX (fun q:Int=>aG v7 v8 tb2 q) v9).bind (Fw.elim
 (fun e=>some true)
 (fun e=>some false))
end gE
def gE (t0:Trace) (c1:Sl Int):Option Bool:=
 gE.W1 c1 (len c1) 0 t0
open gE in
instance Qm (t0:Trace) (c1:Sl Int):Fc Sy cL (gE t0 c1):=Fc.M 124 [enc t0,enc c1] (bY 2 2 t0 (aZ 7 c1 (ck 5 (fun qW1=>(aS [Pv 2,Cv 7 c1,Iv 8 (len c1),Iv 9 qW1] [Xb 2 t0])) (fun eW1=>(0,(aS [] []))) (fun eW1=>(aS [Bv 4 false] [])) (fun qW1=>aJ 7 10 (br 8 fun x_1 _=>aU 10 10 [5,6,16] 26 (aJ 10 16 (aC 10) (br 4 fun x_2 _=>aZ 2 x_2.events (aC 2))) fun x_3=>aJ 2 26 aj aj) aj) (fun eW1=>aj) (fun eW1=>aj))))
def qt (t0:Trace) (p1:Int):Option Bool:=
 (au (decide (p1≥0))
 (some (decide (p1<(len t0.procs))))
 (some false):Option Bool).bind fun x_1=>
 some x_1
instance Qj (t0:Trace) (p1:Int):Fc Sy cL (qt t0 p1):=Fc.M 125 [enc t0,.int .i64 p1] (bY 2 2 t0 (aU 8 6 [1,2,7] 13 (aJ 8 7 (aZ 3 t0.procs (aC 2)) (aC 6)) fun x_1=>aj))
namespace fI
def mJ (vk0_15:Trace) (kindb4 mb5:Int) (vb6:aa) (vb7:Bool) (x:aa×Event):Option (Fw Unit Empty aa):=
 (au (x.2.kind==kindb4)
 (some (x.2.message==mb5))
 (some false):Option Bool).bind fun x_3=>
 au x_3
 (some (.r x.1))
 (some (.n ()))
def E1 (vk0_15:Trace) (kindb4 mb5:Int) (vb6:aa) (vb7:Bool):Option (aa×Bool):=
 (fV vk0_15).bind fun its=>(kK (fun (x:aa×Event) (q:Unit)=>mJ vk0_15 kindb4 mb5 vb6 vb7 x) its ()).bind (Fw.tg
 (fun q=>some (⟨0,0⟩,false))
 (fun e=>Empty.elim e)
 (fun e=>some (e,true)))
end fI
def fI (t0:Trace) (kind1 m2:Int):Option (aa×Bool):=
 (cT t0).bind fun x_1=>
 au x_1
 ((fT t0).bind fun x_2=>
 fI.E1 x_2 kind1 m2 (⟨0,0⟩:aa) false)
 (some (⟨0,0⟩,false))
open fI in
instance Q1 (t0:Trace) (kind1 m2:Int):Fc Sy cL (fI t0 kind1 m2):=Fc.M 191 [enc t0,.int .i64 kind1,.int .i64 m2] (bY 2 3 t0 (aK 10 fun x_1 _=>cB 3 12 (aK 7 fun x_2 _=>GB fun its hits=>Cl 4 [Pv 4,Pv 5,Pv 6,Pv 7,(15,.v (.clo 156 [] [.fptr (cells x_2)]))] (fun qE1=>[(4,.box [iv kind1]),(5,.box [iv m2]),Xb 6 (⟨0,0⟩:aa),(7,.box [bv false])]) (fun eE1=>Empty.elim eE1) (fun eE1=>[(4,.box [iv kind1]),(5,.box [iv m2]),Xb 6 eE1,(7,.box [bv true])]) (vm x_2 its hits) (fun xE1 qE1=>ou 8 9 0 xE1.2 (zD 1 (aU 9 5 [9,22] 27 (aJ 9 22 (aC 5) (aC 5)) fun x_3=>aJ 2 27 aj aj))) (fun qE1=>aj) (fun x=>Empty.elim x) (fun eE1=>aj)) aj))
def oJ (t0:Trace) (m1:Int):Option (aa×Bool):=
 (fI t0 2 m1).bind fun x_1=>
 some (x_1.1,x_1.2)
instance OO (t0:Trace) (m1:Int):Fc Sy cL (oJ t0 m1):=Fc.M 163 [enc t0,.int .i64 m1] (bY 2 2 t0 (aK 8 fun x_1 _=>aj))
namespace eP
def bl (c1:Sl Int) (p7:Int) (v13:Sl Int) (v14 v15:Int) (v27:Sl Event) (v28:Int) (tb2:Trace) (sendb4 receiveb5:aa) (v29:Int):Option (Fw Int Unit (aa×aa)):=
 au (decide (v29<v28))
 ((idx v27 v29).bind fun x_4=>
 au (x_4.kind==3)
 ((oJ tb2 x_4.message).bind fun x_5=>
 (idx c1 x_5.1.proc).bind fun x_6=>
 au (decide (x_5.1.index>x_6))
 (some (.r (x_5.1,(⟨p7,IntKind.wrap .i64 (v29+1)⟩:aa))))
 (some (.n (IntKind.wrap .i64 (v29+1)))))
 (some (.n (IntKind.wrap .i64 (v29+1)))))
 (some (.x ()))
def W2 (c1:Sl Int) (p7:Int) (v13:Sl Int) (v14 v15:Int) (v27:Sl Event) (v28 v29:Int) (tb2:Trace) (sendb4 receiveb5:aa):Option (Fw Int Unit (aa×aa)):=
 (aX (fun q:Int=>bl c1 p7 v13 v14 v15 v27 v28 tb2 sendb4 receiveb5 q) v29).bind (Fw.elim
 (fun e=>some (.n (IntKind.wrap .i64 (v15+1))))
 (fun e=>some (.r (e.1,e.2))))
def aG (c1 v13:Sl Int) (v14:Int) (tb2:Trace) (sendb4 receiveb5:aa) (v15:Int):Option (Fw Int Unit (aa×aa)):=
 au (decide (v15<v14))
 ((idx v13 v15).bind fun x_1=>
 (idx tb2.procs v15).bind fun x_2=>
 (gz x_2.events none (some x_1)).bind fun x_3=>
 W2 c1 v15 v13 v14 v15 x_3 (len x_3) 0 tb2 sendb4 receiveb5)
 (some (.x ()))
def W1 (c1 v13:Sl Int) (v14 v15:Int) (tb2:Trace) (sendb4 receiveb5:aa):Option (aa×aa×Bool):=
 (aX (fun q:Int=>aG c1 v13 v14 tb2 sendb4 receiveb5 q) v15).bind (Fw.elim
 (fun e=>some (⟨0,0⟩,⟨0,0⟩,false))
 (fun e=>some (e.1,e.2,true)))
end eP
def eP (t0:Trace) (c1:Sl Int):Option (aa×aa×Bool):=
 eP.W1 c1 c1 (len c1) 0 t0 (⟨0,0⟩:aa) (⟨0,0⟩:aa)
open eP in
instance Ql (t0:Trace) (c1:Sl Int):Fc Sy cL (eP t0 c1):=Fc.M 127 [enc t0,enc c1] (bY 2 2 t0 (aZ 9 c1 (ck 5 (fun qW1=>(aS [Cv 1 c1,Pv 2,Pv 4,Pv 5,Cv 13 c1,Iv 14 (len c1),Iv 15 qW1] [Xb 2 t0,Xb 4 (⟨0,0⟩:aa),Xb 5 (⟨0,0⟩:aa)])) (fun eW1=>(0,(aS [Pv 4,Pv 5] [Xb 4 (⟨0,0⟩:aa),Xb 5 (⟨0,0⟩:aa)]))) (fun eW1=>(aS [Pv 4,Pv 5,Bv 6 true] [Xb 4 eW1.1,Xb 5 eW1.2])) (fun qW1=>aJ 7 16 (br 8 fun x_1 _=>br 10 fun x_2 _=>FQ 3 false true [.int .i64 x_1] fun x_3 _=>aZ 0 x_3 (ck 5 (fun qW2=>(aS [Cv 1 c1,Pv 2,Pv 4,Pv 5,Iv 7 qW1,Cv 13 c1,Iv 14 (len c1),Iv 15 qW1,Cv 27 x_3,Iv 28 (len x_3),Iv 29 qW2] [Xb 2 t0,Xb 4 (⟨0,0⟩:aa),Xb 5 (⟨0,0⟩:aa)])) (fun eW2=>(2,(aS [Cv 1 c1,Pv 2,Pv 4,Pv 5,Cv 13 c1,Iv 14 (len c1),Iv 15 qW1] [Xb 2 t0,Xb 4 (⟨0,0⟩:aa),Xb 5 (⟨0,0⟩:aa)]))) (fun eW2=>(aS [Pv 4,Pv 5,Bv 6 true] [Xb 4 eW2.1,Xb 5 eW2.2])) (fun qW2=>aJ 7 30 (br 8 fun x_4 _=>ou 3 10 0 x_4 (cB 10 36 (aK 8 fun x_5 _=>br 15 fun x_6 _=>aJ 4 51 aj aj) aj)) aj) (fun eW2=>aj) (fun eW2=>aj))) aj) (fun eW1=>aj) (fun eW1=>aj))))
def rD (t0:Trace) (c1:Sl Int):Option Bool:=
 (eP t0 c1).bind fun x_1=>
 some (!x_1.2.2)
instance Tu (t0:Trace) (c1:Sl Int):Fc Sy cL (rD t0 c1):=Fc.M 126 [enc t0,enc c1] (bY 2 2 t0 (aK 7 fun x_1 _=>aj))
namespace bT
def dI (v39:Sl (Sl Int)) (v40:Int) (tb3:Trace) (v41:Int):Option (Fw Int Unit Unit):=
 au (decide (v41<v40))
 ((idx v39 v41).bind fun x_6=>
 (rD tb3 x_6).bind fun x_7=>
 au x_7
 (some (.n (IntKind.wrap .i64 (v41+1))))
 (some (.r ())))
 (some (.x ()))
def W3 (v39:Sl (Sl Int)) (v40 v41:Int) (tb3:Trace):Option Int:=
 (aX (fun q:Int=>dI v39 v40 tb3 q) v41).bind (Fw.elim
 (fun e=>some 0)
 (fun e=>some 18))
def bl (l1:Sl (Sl Int)) (v28:Sl Int) (v29:Int) (tb3:Trace) (v30:Int):Option (Fw Int Unit Unit):=
 au (decide (v30<v29))
 ((idx v28 v30).bind fun x_4=>
 (qt tb3 x_4).bind fun x_5=>
 au x_5
 (some (.n (IntKind.wrap .i64 (v30+1))))
 (some (.r ())))
 (some (.x ()))
def W2 (l1:Sl (Sl Int)) (v28:Sl Int) (v29 v30:Int) (tb3:Trace):Option Int:=
 (aX (fun q:Int=>bl l1 v28 v29 tb3 q) v30).bind (Fw.elim
 (fun e=>bT.W3 l1 (len l1) 0 tb3)
 (fun e=>some 2))
def aG (l1:Sl (Sl Int)) (procs2:Sl Int) (v17:Sl (Sl Int)) (v18:Int) (tb3:Trace) (v19:Int):Option (Fw Int Unit Unit):=
 au (decide (v19<v18))
 ((idx v17 v19).bind fun x_2=>
 (gE tb3 x_2).bind fun x_3=>
 au x_3
 (some (.n (IntKind.wrap .i64 (v19+1))))
 (some (.r ())))
 (some (.x ()))
def W1 (l1:Sl (Sl Int)) (procs2:Sl Int) (v17:Sl (Sl Int)) (v18 v19:Int) (tb3:Trace):Option Int:=
 (aX (fun q:Int=>aG l1 procs2 v17 v18 tb3 q) v19).bind (Fw.elim
 (fun e=>bT.W2 l1 procs2 (len procs2) 0 tb3)
 (fun e=>some 2))
end bT
def bT (t0:Trace) (l1:Sl (Sl Int)) (procs2:Sl Int):Option Int:=
 (tw t0 l1).bind fun x_1=>
 au x_1
 (bT.W1 l1 procs2 l1 (len l1) 0 t0)
 (some 1)
open bT in
instance VM (t0:Trace) (l1:Sl (Sl Int)) (procs2:Sl Int):Fc Sy cL (bT t0 l1 procs2):=Fc.M 99 [enc t0,enc l1,enc procs2] (bY 2 3 t0 (aK 8 fun x_1 _=>cB 3 16 (aZ 7 l1 (ck 5 (fun qW1=>(aS [Cv 1 l1,Cv 2 procs2,Pv 3,Cv 17 l1,Iv 18 (len l1),Iv 19 qW1] [Xb 3 t0])) (fun eW1=>(0,(aS [Cv 1 l1,Cv 2 procs2,Pv 3] [Xb 3 t0]))) (fun eW1=>(aS [Iv 6 2] [])) (fun qW1=>aJ 7 20 (br 7 fun x_2 _=>aK 8 fun x_3 _=>cB 3 26 aj aj) aj) (fun eW1=>aZ 6 procs2 (ck 5 (fun qW2=>(aS [Cv 1 l1,Pv 3,Cv 28 procs2,Iv 29 (len procs2),Iv 30 qW2] [Xb 3 t0])) (fun eW2=>(2,(aS [Cv 1 l1,Pv 3] [Xb 3 t0]))) (fun eW2=>(aS [Iv 6 2] [])) (fun qW2=>aJ 7 31 (br 7 fun x_4 _=>aK 8 fun x_5 _=>cB 3 37 aj aj) aj) (fun eW2=>aZ 6 l1 (ck 5 (fun qW3=>(aS [Pv 3,Cv 39 l1,Iv 40 (len l1),Iv 41 qW3] [Xb 3 t0])) (fun eW3=>(4,(aS [] []))) (fun eW3=>(aS [Iv 6 18] [])) (fun qW3=>aJ 7 42 (br 7 fun x_6 _=>aK 8 fun x_7 _=>cB 3 48 aj aj) aj) (fun eW3=>aj) (fun eW3=>aj))) (fun eW2=>aj))) (fun eW1=>aj))) aj))
def gy (t0:Trace) (c1:Sl Int):Option Bool:=
 (bT t0 (Sl.row [c1]:Sl (Sl Int)) (Sl.nil:Sl Int)).bind fun x_1=>
 some (x_1==0)
instance K0 (t0:Trace) (c1:Sl Int):Fc Sy cL (gy t0 c1):=Fc.M 63 [enc t0,enc c1] (bY 2 2 t0 (Zo 7 7 ([c1]:List (Sl Int)) (h_ 0 fun x_1 _=>aj)))
namespace dy
def aG (a0 b1:Sl Int) (v12:Int) (v13:Int):Option (Fw Int Unit Unit):=
 au (decide (v13<v12))
 ((idx a0 v13).bind fun x_1=>
 (idx b1 v13).bind fun x_2=>
 au (decide (x_1>x_2))
 (some (.r ()))
 (some (.n (IntKind.wrap .i64 (v13+1)))))
 (some (.x ()))
def W1 (a0 b1:Sl Int) (v12 v13:Int):Option Bool:=
 (aX (fun q:Int=>aG a0 b1 v12 q) v13).bind (Fw.elim
 (fun e=>some true)
 (fun e=>some false))
end dy
def dy (a0 b1:Sl Int):Option Bool:=
 au ((len a0)==(len b1))
 (dy.W1 a0 b1 (len a0) 0)
 (some false)
open dy in
instance Xd (a0 b1:Sl Int):Fc Sy cL (dy a0 b1):=Fc.M 24 [enc a0,enc b1] (aZ 9 a0 (aZ 1 b1 (cB 3 10 (aZ 7 a0 (ck 5 (fun qW1=>(aS [Cv 0 a0,Cv 1 b1,Iv 12 (len a0),Iv 13 qW1] [])) (fun eW1=>(0,(aS [] []))) (fun eW1=>(aS [Bv 4 false] [])) (fun qW1=>aJ 7 14 (br 15 fun x_1 _=>br 3 fun x_2 _=>aJ 4 24 aj aj) aj) (fun eW1=>aj) (fun eW1=>aj))) aj)))
namespace fu
def aG (v37:Sl (Sl (Sl Int))) (v38:Int) (tb2:Trace) (v39:Int):Option (Fw Int Unit Unit):=
 au (decide (v39<v38))
 ((idx v37 v39).bind fun x_7=>
 (idx tb2.procs v39).bind fun x_8=>
 au ((len x_7)==(len x_8.events))
 (some (.n (IntKind.wrap .i64 (v39+1))))
 (some (.r ())))
 (some (.x ()))
def W1 (v37:Sl (Sl (Sl Int))) (v38 v39:Int) (tb2:Trace):Option Bool:=
 (aX (fun q:Int=>aG v37 v38 tb2 q) v39).bind (Fw.elim
 (fun e=>some true)
 (fun e=>some false))
end fu
def fu (t0:Trace) (s1:Slice):Option Bool:=
 (gy t0 s1.first).bind fun x_1=>
 (au x_1
 ((gy t0 s1.last).bind fun x_2=>
 some (!x_2))
 (some true):Option Bool).bind fun x_3=>
 (au x_3
 (some true)
 ((dy s1.first s1.last).bind fun x_4=>
 some (!x_4)):Option Bool).bind fun x_5=>
 (au x_5
 (some true)
 (some (!((len s1.j)==(len t0.procs)))):Option Bool).bind fun x_6=>
 au x_6
 (some false)
 (fu.W1 s1.j (len s1.j) 0 t0)
open fu in
instance PG (t0:Trace) (s1:Slice):Fc Sy cL (fu t0 s1):=Fc.M 55 [enc t0,enc s1] (bY 2 2 t0 (bY 0 3 s1 (aK 9 fun x_1 _=>aU 2 6 [12] 18 (cB 2 12 (aK 3 fun x_2 _=>aC 2) (aC 6)) fun x_3=>aU 1 7 [19] 26 (aJ 1 19 (aC 7) (aK 4 fun x_4 _=>aC 2)) fun x_5=>aU 1 8 [27] 35 (aJ 1 27 (aC 8) (aZ 2 s1.j (aZ 2 t0.procs (aC 2)))) fun x_6=>aJ 2 35 aj (aZ 8 s1.j (ck 5 (fun qW1=>(aS [Pv 2,Cv 37 s1.j,Iv 38 (len s1.j),Iv 39 qW1] [Xb 2 t0])) (fun eW1=>(0,(aS [] []))) (fun eW1=>(aS [Bv 4 false] [])) (fun qW1=>aJ 7 40 (br 8 fun x_7 _=>aZ 8 x_7 (br 3 fun x_8 _=>aZ 2 x_8.events (cB 3 53 aj aj))) aj) (fun eW1=>aj) (fun eW1=>aj))))))
namespace eM
def aG (v7:Sl bq) (v8:Int) (out3:Sl Int) (v9:Int):Option (Fw ((Sl Int)×Int) (Sl Int) Empty):=
 au (decide (v9<v8))
 ((idx v7 v9).bind fun x_1=>
 (kH out3 (len x_1.events:Int)).bind fun x_2=>
 some (.n (x_2,IntKind.wrap .i64 (v9+1))))
 (some (.x out3))
def W1 (out3:Sl Int) (v7:Sl bq) (v8 v9:Int):Option (Sl Int):=
 (aX (fun q:(Sl Int)×Int=>aG v7 v8 q.1 q.2) (out3,v9)).bind (Fw.elim
 (fun e=>some e)
 (fun e=>Empty.elim e))
end eM
def eM (t0:Trace):Option (Sl Int):=
 eM.W1 (Sl.nil:Sl Int) t0.procs (len t0.procs) 0
open eM in
instance Qb (t0:Trace):Fc Sy cL (eM t0):=Fc.N 57 [enc t0] (bY 2 1 t0 (aZ 13 t0.procs (vN 6 (fun qW1=>(aS [Ov 3,Cv 7 t0.procs,Iv 8 (len t0.procs),Iv 9 qW1.2] [Lb 2003 qW1.1])) (fun eW1=>(0,(aS [Ov 3] [Lb 2003 eW1]))) (fun qW1=>aJ 8 10 (br 7 fun x_1 _=>ou 2 5 0 x_1 (aZ 6 x_1.events (DO 1 2003 17 18 fun x_2 _=>aj))) aj) (fun eW1=>aj))))
def gT (s0:Slice) (x1:aa):Option (Sl Int):=
 (idx s0.j x1.proc).bind fun x_1=>
 (idx x_1 (IntKind.wrap .i64 (x1.index-1))).bind fun x_2=>
 some x_2
instance LQ (s0:Slice) (x1:aa):Fc Sy cL (gT s0 x1):=Fc.N 61 [enc s0,enc x1] (bY 2 2 s0 (br 10 fun x_1 _=>br 4 fun x_2 _=>aj))
def mj (x0:aa) (c1:Sl Int):Option Bool:=
 (idx c1 x0.proc).bind fun x_1=>
 some (decide (x0.index≤x_1))
instance Wq (x0:aa) (c1:Sl Int):Fc Sy cL (mj x0 c1):=Fc.M 97 [enc x0,enc c1] (br 13 fun x_1 _=>aj)
namespace c9
def aG (s10 s21:Sl Int) (v12:Int) (v13:Int):Option (Fw Int Unit Unit):=
 au (decide (v13<v12))
 ((idx s10 v13).bind fun x_1=>
 (idx s21 v13).bind fun x_2=>
 au (x_1==x_2)
 (some (.n (IntKind.wrap .i64 (v13+1))))
 (some (.r ())))
 (some (.x ()))
def W1 (s10 s21:Sl Int) (v12 v13:Int):Option Bool:=
 (aX (fun q:Int=>aG s10 s21 v12 q) v13).bind (Fw.elim
 (fun e=>some true)
 (fun e=>some false))
end c9
def c9 (s10 s21:Sl Int):Option Bool:=
 au ((len s10)==(len s21))
 (c9.W1 s10 s21 (len s10) 0)
 (some false)
open c9 in
instance H_ (s10 s21:Sl Int):Fc Sy cL (c9 s10 s21):=Fc.M 98 [enc s10,enc s21] (aZ 9 s10 (aZ 1 s21 (cB 3 10 (aZ 7 s10 (ck 5 (fun qW1=>(aS [Cv 0 s10,Cv 1 s21,Iv 12 (len s10),Iv 13 qW1] [])) (fun eW1=>(0,(aS [] []))) (fun eW1=>(aS [Bv 4 false] [])) (fun qW1=>aJ 7 14 (br 15 fun x_1 _=>br 3 fun x_2 _=>cB 4 24 aj aj) aj) (fun eW1=>aj) (fun eW1=>aj))) aj)))
def qq (t0:Trace) (s1:Slice) (x2:aa):Option Bool:=
 (gT s1 x2).bind fun x_1=>
 (mj x2 s1.last).bind fun x_2=>
 au x_2
 ((mj x2 s1.first).bind fun x_3=>
 au x_3
 ((c9 x_1 s1.first).bind fun x_4=>
 some x_4)
 ((gy t0 x_1).bind fun x_5=>
 (au x_5
 ((mj x2 x_1).bind fun x_6=>
 some x_6)
 (some false):Option Bool).bind fun x_7=>
 (au x_7
 ((dy s1.first x_1).bind fun x_8=>
 some x_8)
 (some false):Option Bool).bind fun x_9=>
 (au x_9
 ((dy x_1 s1.last).bind fun x_10=>
 some x_10)
 (some false):Option Bool).bind fun x_11=>
 some x_11))
 (some ((len x_1)==0))
instance Qq (t0:Trace) (s1:Slice) (x2:aa):Fc Sy cL (qq t0 s1 x2):=Fc.M 59 [enc t0,enc s1,enc x2] (bY 2 3 t0 (bY 0 4 s1 (aK 8 fun x_1 _=>aK 10 fun x_2 _=>cB 4 11 (aK 6 fun x_3 _=>aJ 3 20 (aK 6 fun x_4 _=>aj) (aK 8 fun x_5 _=>aU 1 4 [5,32] 36 (aJ 1 32 (aK 2 fun x_6 _=>aC 1) (aC 4)) fun x_7=>aU 1 5 [37] 42 (aJ 1 37 (aK 3 fun x_8 _=>aC 1) (aC 5)) fun x_9=>aU 1 5 [4,7,43] 48 (aJ 1 43 (aK 3 fun x_10 _=>aC 1) (aC 5)) fun x_11=>aj)) (aZ 4 x_1 aj))))
def ko (x0:aa) (v1:Trace) (v2:Slice):Option Bool:=
 (qq v1 v2 x0).bind fun x_1=>
 some x_1
instance J3 (x0:aa) (v1:Trace) (v2:Slice):Fc Sy cL (ko x0 v1 v2):=Fc.M 58 [enc x0,.fptr (cells v1),.fptr (cells v2)] (aK 11 fun x_1 _=>aj)
namespace cm
def bl (p5:Int) (v8:Sl Int) (v9 v10 v15:Int) (v16:Int) (p1:aa→Option Bool):Option (Fw Int Unit Unit):=
 au (decide (v16<v15))
 ((p1 (⟨p5,IntKind.wrap .i64 (v16+1)⟩:aa)).bind fun x_2=>
 au x_2
 (some (.n (IntKind.wrap .i64 (v16+1))))
 (some (.r ())))
 (some (.x ()))
def W2 (p5:Int) (v8:Sl Int) (v9 v10 v15 v16:Int) (p1:aa→Option Bool):Option (Fw Int Unit Unit):=
 (aX (fun q:Int=>bl p5 v8 v9 v10 v15 q p1) v16).bind (Fw.elim
 (fun e=>some (.n (IntKind.wrap .i64 (v10+1))))
 (fun e=>some (.r ())))
def aG (v8:Sl Int) (v9:Int) (v10:Int) (p1:aa→Option Bool):Option (Fw Int Unit Unit):=
 au (decide (v10<v9))
 ((idx v8 v10).bind fun x_1=>
 W2 v10 v8 v9 v10 x_1 0 p1)
 (some (.x ()))
def W1 (v8:Sl Int) (v9 v10:Int) (p1:aa→Option Bool):Option Bool:=
 (aX (fun q:Int=>aG v8 v9 q p1) v10).bind (Fw.elim
 (fun e=>some true)
 (fun e=>some false))
end cm
def cm (c0:Sl Int) (p1:aa→Option Bool):Option Bool:=
 cm.W1 c0 (len c0) 0 p1
open cm in
abbrev lR (g1:FuncId) (e1:List V) (p1:aa→Option Bool) (h1:ji Sy cL g1 e1 (fun z:aa=>[enc z]) (fun r:Bool=>[.bool r]) p1) (c0:Sl Int):Fc Sy cL (cm c0 p1):=Fc.M 56 [enc c0,.clo g1 [] e1] (aZ 9 c0 (ck 5 (fun qW1=>(aS [(1,.v (.clo g1 [] e1)),Cv 8 c0,Iv 9 (len c0),Iv 10 qW1] [])) (fun eW1=>(0,(aS [] []))) (fun eW1=>(aS [Bv 4 false] [])) (fun qW1=>aJ 7 11 (br 8 fun x_1 _=>ck 13 (fun qW2=>(aS [(1,.v (.clo g1 [] e1)),Iv 5 qW1,Cv 8 c0,Iv 9 (len c0),Iv 10 qW1,Iv 15 x_1,Iv 16 qW2] [])) (fun eW2=>(2,(aS [(1,.v (.clo g1 [] e1)),Cv 8 c0,Iv 9 (len c0),Iv 10 qW1] []))) (fun eW2=>(aS [Bv 4 false] [])) (fun qW2=>aJ 7 17 (tq 18 h1.f (⟨qW1,IntKind.wrap .i64 (qW2+1)⟩:aa) fun x_2 _=>cB 3 25 aj aj) aj) (fun eW2=>aj) (fun eW2=>aj)) aj) (fun eW1=>aj) (fun eW1=>aj))) (l:=by simp[h1.d])
def j7 (y0:aa) (v1:Slice) (v2:Sl Int):Option Bool:=
 (gT v1 y0).bind fun x_1=>
 (dy x_1 v2).bind fun x_2=>
 some x_2
instance Hy (y0:aa) (v1:Slice) (v2:Sl Int):Fc Sy cL (j7 y0 v1 v2):=Fc.M 62 [enc y0,.fptr (cells v1),.fptr (cells v2)] (aK 10 fun x_1 _=>h_ 1 fun x_2 _=>aj)
def mB (x0:aa) (v1:Slice):Option Bool:=
 (gT v1 x0).bind fun x_1=>
 (cm x_1 (fun z=>j7 z v1 x_1)).bind fun x_2=>
 some x_2
instance JP (x0:aa) (v1:Slice):Fc Sy cL (mB x0 v1):=Fc.M 60 [enc x0,.fptr (cells v1)] (aK 10 fun x_1 _=>ou 1 4 0 x_1 (h_ (F:=lR 62 [.fptr (cells v1),.fptr (cells x_1)] (fun z=>j7 z v1 x_1) ji.rm x_1) 6 fun x_2 _=>aj))
def iB (t0:Trace) (s1:Slice):Option Bool:=
 (cT t0).bind fun x_1=>
 au x_1
 (au s1.empty
 ((au ((len s1.first)==0)
 (some ((len s1.last)==0))
 (some false):Option Bool).bind fun x_2=>
 (au x_2
 (some ((len s1.j)==0))
 (some false):Option Bool).bind fun x_3=>
 some x_3)
 ((fu t0 s1).bind fun x_4=>
 (au x_4
 ((eM t0).bind fun x_5=>
 (cm x_5 (fun z=>ko z t0 s1)).bind fun x_6=>
 some (!x_6))
 (some true):Option Bool).bind fun x_7=>
 au x_7
 (some false)
 ((cm s1.last (fun z=>mB z s1)).bind fun x_8=>
 some x_8)))
 (some false)
instance Qo (t0:Trace) (s1:Slice):Fc Sy cL (iB t0 s1):=Fc.M 17 [enc t0,enc s1] (bY 2 2 t0 (bY 0 3 s1 (aK 7 fun x_1 _=>cB 3 7 (aJ 10 9 (aZ 5 s1.first (aU 2 5 [14] 19 (aJ 2 14 (aZ 2 s1.last (aC 2)) (aC 5)) fun x_2=>aU 1 5 [3,20] 25 (aJ 1 20 (aZ 2 s1.j (aC 2)) (aC 5)) fun x_3=>aj)) (aK 8 fun x_4 _=>aU 2 6 [2,30] 36 (cB 2 30 (aK 1 fun x_5 _=>h_ (F:=lR 58 [.fptr (cells t0),.fptr (cells s1)] (fun z=>ko z t0 s1) ji.rm x_5) 1 fun x_6 _=>aC 2) (aC 6)) fun x_7=>aJ 2 36 aj (h_ (F:=lR 60 [.fptr (cells s1)] (fun z=>mB z s1) ji.rm s1.last) 8 fun x_8 _=>aj))) aj)))
def kj (x0:aa) (v1:Slice) (v2:Sl Int):Option Bool:=
 (gT v1 x0).bind fun x_1=>
 (dy x_1 v2).bind fun x_2=>
 some x_2
instance NZ (x0:aa) (v1:Slice) (v2:Sl Int):Fc Sy cL (kj x0 v1 v2):=Fc.M 100 [enc x0,.fptr (cells v1),.fptr (cells v2)] (aK 10 fun x_1 _=>h_ 1 fun x_2 _=>aj)
def jF (s0:Slice) (c1:Sl Int):Option Bool:=
 (au s0.empty
 (some false)
 ((dy s0.first c1).bind fun x_1=>
 some x_1):Option Bool).bind fun x_2=>
 (au x_2
 ((dy c1 s0.last).bind fun x_3=>
 some x_3)
 (some false):Option Bool).bind fun x_4=>
 (au x_4
 ((cm c1 (fun z=>kj z s0 c1)).bind fun x_5=>
 some x_5)
 (some false):Option Bool).bind fun x_6=>
 some x_6
instance VF (s0:Slice) (c1:Sl Int):Fc Sy cL (jF s0 c1):=Fc.M 64 [enc s0,enc c1] (bY 2 2 s0 (bY 0 3 c1 (aU 9 5 [8] 13 (cB 9 8 (aC 5) (aK 3 fun x_1 _=>aC 1)) fun x_2=>aU 1 5 [14] 19 (aJ 1 14 (aK 3 fun x_3 _=>aC 1) (aC 5)) fun x_4=>aU 1 4 [2,3,20] 24 (aJ 1 20 (h_ (F:=lR 100 [.fptr (cells s0),.fptr (cells c1)] (fun z=>kj z s0 c1) ji.rm c1) 2 fun x_5 _=>aC 1) (aC 4)) fun x_6=>aj)))
def qI (t0:Trace) (s1:Slice) (c2:Sl Int):Option Bool:=
 (iB t0 s1).bind fun x_1=>
 (au x_1
 ((gy t0 c2).bind fun x_2=>
 some x_2)
 (some false):Option Bool).bind fun x_3=>
 (au x_3
 ((jF s1 c2).bind fun x_4=>
 some x_4)
 (some false):Option Bool).bind fun x_5=>
 some x_5
instance VH (t0:Trace) (s1:Slice) (c2:Sl Int):Fc Sy cL (qI t0 s1 c2):=Fc.M 18 [enc t0,enc s1,enc c2] (bY 2 3 t0 (bY 0 4 s1 (aK 7 fun x_1 _=>aU 1 4 [3,10] 14 (aJ 1 10 (aK 2 fun x_2 _=>aC 1) (aC 4)) fun x_3=>aU 1 4 [2,4,15] 19 (aJ 1 15 (aK 2 fun x_4 _=>aC 1) (aC 4)) fun x_5=>aj)))
def jP (t0:Trace) (s1:Slice) (c2:Sl Int):Option Bool:=
 (au s1.empty
 (some false)
 ((c_ t0 c2).bind fun x_1=>
 some x_1):Option Bool).bind fun x_2=>
 (au x_2
 ((cR s1.first c2).bind fun x_3=>
 some x_3)
 (some false):Option Bool).bind fun x_4=>
 (au x_4
 ((cR c2 s1.last).bind fun x_5=>
 some x_5)
 (some false):Option Bool).bind fun x_6=>
 (au x_6
 ((cF s1 c2).bind fun x_7=>
 some x_7)
 (some false):Option Bool).bind fun x_8=>
 some x_8
instance Qu (t0:Trace) (s1:Slice) (c2:Sl Int):Fc Sy cL (jP t0 s1 c2):=Fc.M 19 [enc t0,enc s1,enc c2] (bY 2 3 t0 (bY 0 4 s1 (aU 9 4 [3,10] 14 (cB 9 10 (aC 4) (aK 2 fun x_1 _=>aC 1)) fun x_2=>aU 1 5 [15] 20 (aJ 1 15 (aK 3 fun x_3 _=>aC 1) (aC 5)) fun x_4=>aU 1 5 [21] 26 (aJ 1 21 (aK 3 fun x_5 _=>aC 1) (aC 5)) fun x_6=>aU 1 4 [2,4,27] 31 (aJ 1 27 (aK 2 fun x_7 _=>aC 1) (aC 4)) fun x_8=>aj)))
def mQ (t0:Trace) (s1:Slice) (c2:Sl Int):Option Bool:=
 (jv).bind fun x_1=>
 (au x_1
 ((gb t0 40).bind fun x_2=>
 some (!x_2))
 (some true):Option Bool).bind fun x_3=>
 (au x_3
 (some true)
 ((kf s1).bind fun x_4=>
 some (!x_4)):Option Bool).bind fun x_5=>
 (au x_5
 (some true)
 (some (decide ((len c2)>20))):Option Bool).bind fun x_6=>
 au x_6
 ((jv).bind fun x_7=>
 some x_7)
 ((bN t0 s1).bind fun x_8=>
 (iB t0 s1).bind fun x_9=>
 (au (x_9==x_8)
 ((qI t0 s1 c2).bind fun x_10=>
 (au x_8
 ((jP t0 s1 c2).bind fun x_11=>
 some x_11)
 (some false):Option Bool).bind fun x_12=>
 some (x_10==x_12))
 (some false):Option Bool).bind fun x_13=>
 some x_13)
instance Hz (t0:Trace) (s1:Slice) (c2:Sl Int):Fc Sy cL (mQ t0 s1 c2):=Fc.M 4 [enc t0,enc s1,enc c2] (bY 2 3 t0 (bY 0 4 s1 (aK 6 fun x_1 _=>aU 2 4 [10] 14 (cB 2 10 (aK 1 fun x_2 _=>aC 2) (aC 4)) fun x_3=>aU 1 4 [15] 19 (aJ 1 15 (aC 4) (aK 1 fun x_4 _=>aC 2)) fun x_5=>aU 1 4 [20] 24 (aJ 1 20 (aC 4) (aZ 1 c2 (aC 2))) fun x_6=>aJ 2 24 (aK 3 fun x_7 _=>aj) (aK 7 fun x_8 _=>aK 7 fun x_9 _=>aU 3 13 [2,3,4,7,34] 47 (aJ 3 34 (aK 3 fun x_10 _=>aU 2 5 [2,3,4,40] 45 (aJ 2 40 (aK 3 fun x_11 _=>aC 1) (aC 5)) fun x_12=>aC 2) (aC 13)) fun x_13=>aj))))
def jt (x0:aa) (v1 v2:Slice):Option Bool:=
 (gT v2 x0).bind fun x_1=>
 (jF v1 x_1).bind fun x_2=>
 some x_2
instance Pn (x0:aa) (v1 v2:Slice):Fc Sy cL (jt x0 v1 v2):=Fc.M 65 [enc x0,.fptr (cells v1),.fptr (cells v2)] (aK 11 fun x_1 _=>h_ 0 fun x_2 _=>aj)
def wq (t0:Trace) (a1 b2:Slice):Option (Bool×Int):=
 (iB t0 a1).bind fun x_1=>
 (au x_1
 ((iB t0 b2).bind fun x_2=>
 some (!x_2))
 (some true):Option Bool).bind fun x_3=>
 au x_3
 (some (false,1))
 (au a1.empty
 (some (true,0))
 ((jF b2 a1.first).bind fun x_4=>
 (au x_4
 ((cm a1.last (fun z=>jt z b2 a1)).bind fun x_5=>
 some x_5)
 (some false):Option Bool).bind fun x_6=>
 some (x_6,0)))
instance VG (t0:Trace) (a1 b2:Slice):Fc Sy cL (wq t0 a1 b2):=Fc.M 20 [enc t0,enc a1,enc b2] (bY 2 3 t0 (bY 0 4 a1 (bY 0 5 b2 (aK 9 fun x_1 _=>aU 2 5 [3,12] 17 (cB 2 12 (aK 2 fun x_2 _=>aC 2) (aC 5)) fun x_3=>aJ 2 17 aj (aJ 10 19 aj (aK 8 fun x_4 _=>aU 1 5 [4,5,24] 29 (aJ 1 24 (h_ (F:=lR 65 [.fptr (cells b2),.fptr (cells a1)] (fun z=>jt z b2 a1) ji.rm a1.last) 3 fun x_5 _=>aC 1) (aC 5)) fun x_6=>aj))))))
namespace eB
def bl (p7:Int) (tb3:Trace) (ab4 bb5:Slice) (i8:Int):Option (Fw Int Unit Unit):=
 (idx ab4.last p7).bind fun x_2=>
 au (decide (i8<x_2))
 ((idx ab4.j p7).bind fun x_3=>
 (idx x_3 i8).bind fun x_4=>
 (jP tb3 bb5 x_4).bind fun x_5=>
 au x_5
 (some (.n (IntKind.wrap .i64 (i8+1))))
 (some (.r ())))
 (some (.x ()))
def W2 (p7 i8:Int) (tb3:Trace) (ab4 bb5:Slice):Option (Fw Int Unit Unit):=
 (aX (fun q:Int=>bl p7 tb3 ab4 bb5 q) i8).bind (Fw.elim
 (fun e=>some (.n (IntKind.wrap .i64 (p7+1))))
 (fun e=>some (.r ())))
def aG (tb3:Trace) (ab4 bb5:Slice) (p7:Int):Option (Fw Int Unit Unit):=
 au (decide (p7<(len ab4.j)))
 (W2 p7 0 tb3 ab4 bb5)
 (some (.x ()))
def W1 (p7:Int) (tb3:Trace) (ab4 bb5:Slice):Option Bool:=
 (aX (fun q:Int=>aG tb3 ab4 bb5 q) p7).bind (Fw.elim
 (fun e=>some true)
 (fun e=>some false))
end eB
def eB (t0:Trace) (a1 b2:Slice):Option Bool:=
 au a1.empty
 (some true)
 ((jP t0 b2 a1.first).bind fun x_1=>
 au x_1
 (eB.W1 0 t0 a1 b2)
 (some false))
open eB in
instance Ub (t0:Trace) (a1 b2:Slice):Fc Sy cL (eB t0 a1 b2):=Fc.M 21 [enc t0,enc a1,enc b2] (bY 2 3 t0 (bY 0 4 a1 (bY 0 5 b2 (aJ 10 10 aj (aK 10 fun x_1 _=>cB 3 16 (ck 11 (fun qW1=>(aS [Pv 3,Pv 4,Pv 5,Iv 7 qW1] [Xb 3 t0,Xb 4 a1,Xb 5 b2])) (fun eW1=>(0,(aS [] []))) (fun eW1=>(aS [Bv 6 false] [])) (fun qW1=>aZ 7 a1.j (aJ 3 21 (ck 12 (fun qW2=>(aS [Pv 3,Pv 4,Pv 5,Iv 7 qW1,Iv 8 qW2] [Xb 3 t0,Xb 4 a1,Xb 5 b2])) (fun eW2=>(2,(aS [Pv 3,Pv 4,Pv 5,Iv 7 qW1] [Xb 3 t0,Xb 4 a1,Xb 5 b2]))) (fun eW2=>(aS [Bv 6 false] [])) (fun qW2=>br 8 fun x_2 _=>aJ 4 30 (br 12 fun x_3 _=>br 2 fun x_4 _=>h_ 1 fun x_5 _=>cB 3 44 aj aj) aj) (fun eW2=>aj) (fun eW2=>aj)) aj)) (fun eW1=>aj) (fun eW1=>aj)) aj)))))
def jE (t0:Trace) (a1 b2:Slice):Option Bool:=
 (jv).bind fun x_1=>
 (au x_1
 ((gb t0 20).bind fun x_2=>
 some (!x_2))
 (some true):Option Bool).bind fun x_3=>
 (au x_3
 (some true)
 ((kf a1).bind fun x_4=>
 some (!x_4)):Option Bool).bind fun x_5=>
 (au x_5
 (some true)
 ((kf b2).bind fun x_6=>
 some (!x_6)):Option Bool).bind fun x_7=>
 au x_7
 ((jv).bind fun x_8=>
 some x_8)
 ((wq t0 a1 b2).bind fun x_9=>
 (bN t0 a1).bind fun x_10=>
 (au x_10
 ((bN t0 b2).bind fun x_11=>
 some (!x_11))
 (some true):Option Bool).bind fun x_12=>
 au x_12
 ((au x_9.1
 (some false)
 (some (x_9.2==1)):Option Bool).bind fun x_13=>
 some x_13)
 ((eB t0 a1 b2).bind fun x_14=>
 (au (x_9.1==x_14)
 (some (x_9.2==0))
 (some false):Option Bool).bind fun x_15=>
 some x_15))
instance uY (t0:Trace) (a1 b2:Slice):Fc Sy cL (jE t0 a1 b2):=Fc.M 5 [enc t0,enc a1,enc b2] (bY 2 3 t0 (bY 0 4 a1 (bY 0 5 b2 (aK 6 fun x_1 _=>aU 2 4 [11] 15 (cB 2 11 (aK 1 fun x_2 _=>aC 2) (aC 4)) fun x_3=>aU 1 4 [16] 20 (aJ 1 16 (aC 4) (aK 1 fun x_4 _=>aC 2)) fun x_5=>aU 1 4 [21] 25 (aJ 1 21 (aC 4) (aK 1 fun x_6 _=>aC 2)) fun x_7=>aJ 2 25 (aK 3 fun x_8 _=>aj) (aK 8 fun x_9 _=>aK 12 fun x_10 _=>aU 2 5 [38] 43 (cB 2 38 (aK 2 fun x_11 _=>aC 2) (aC 5)) fun x_12=>aJ 2 43 (aU 6 3 [8,46] 49 (cB 6 46 (aC 3) (aC 3)) fun x_13=>aj) (aK 9 fun x_14 _=>aU 2 3 [8,56] 59 (aJ 2 56 (aC 3) (aC 3)) fun x_15=>aj))))))
end
end Go.VE
