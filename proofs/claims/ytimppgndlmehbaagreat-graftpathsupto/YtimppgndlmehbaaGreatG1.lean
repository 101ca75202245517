/-
 Each function of the program that the law reaches: its plain form, and that it comes to that.
-/
import Derived.Test.YtimppgndlmehbaaGreatK1
import Derived.Test.YtimppgndlmehbaaGreatT1
set_option linter.all false
namespace Go.VE
structure Var where
 name:ByteArray
 init_:Int
 deriving Inhabited
instance:aD Var where
 cells x:=[.str x.name,.int .i64 x.init_]
 agg:=true
 size:=2
 len _:=rfl
 good x:=by simp only[V.bJ,V.good,lF,Bool.and_self]
 one x:=by simp only[List.all_cons,List.all_nil,rO,pY,rY,pN,Bool.and_self]
 plain h:=by cases h
instance {n:Nat}:Lv (n+0) Var:=⟨λx=>by
 show V.bZ (n+0) [.str x.name,.int .i64 x.init_]=true;simp only[iw,jO,qm,nS,qx,pX,Bool.and_self]⟩
structure Assign where
 var:Int
 value:Int
 deriving Inhabited
instance:aD Assign where
 cells x:=[.int .i64 x.var,.int .i64 x.value]
 agg:=true
 size:=2
 len _:=rfl
 good x:=by simp only[V.bJ,V.good,lF,Bool.and_self]
 one x:=by simp only[List.all_cons,List.all_nil,rO,pY,rY,pN,Bool.and_self]
 plain h:=by cases h
instance {n:Nat}:Lv (n+0) Assign:=⟨λx=>by
 show V.bZ (n+0) [.int .i64 x.var,.int .i64 x.value]=true;simp only[iw,jO,qm,nS,qx,pX,Bool.and_self]⟩
structure Event where
 kind:Int
 peer:Int
 message:Int
 time:Int
 assign:Sl Assign
 deriving Inhabited
instance:aD Event where
 cells x:=[.int .i64 x.kind,.int .i64 x.peer,.int .i64 x.message,.int .i64 x.time,enc x.assign]
 agg:=true
 size:=5
 len _:=rfl
 good x:=by simp only[V.bJ,V.good,lF,Bool.and_self]
 one x:=by simp only[List.all_cons,List.all_nil,rO,pY,rY,pN,Bool.and_self]
 plain h:=by cases h
instance {n:Nat}:Lv (n+1) Event:=⟨λx=>by
 show V.bZ (n+1) [.int .i64 x.kind,.int .i64 x.peer,.int .i64 x.message,.int .i64 x.time,enc x.assign]=true;simp only[iw,jO,qm,nS,qx,pX,Bool.and_self]⟩
structure bp where
 name:ByteArray
 vars:Sl Var
 events:Sl Event
 deriving Inhabited
instance:aD bp where
 cells x:=[.str x.name,enc x.vars,enc x.events]
 agg:=true
 size:=3
 len _:=rfl
 good x:=by simp only[V.bJ,V.good,lF,Bool.and_self]
 one x:=by simp only[List.all_cons,List.all_nil,rO,pY,rY,pN,Bool.and_self]
 plain h:=by cases h
instance {n:Nat}:Lv (n+2) bp:=⟨λx=>by
 show V.bZ (n+2) [.str x.name,enc x.vars,enc x.events]=true;simp only[iw,jO,qm,nS,qx,pX,Bool.and_self]⟩
structure Trace where
 procs:Sl bp
 deriving Inhabited
instance:aD Trace where
 cells x:=[enc x.procs]
 agg:=true
 size:=1
 len _:=rfl
 good x:=by simp only[V.bJ,V.good,lF,Bool.and_self]
 one x:=by simp only[List.all_cons,List.all_nil,rO,pY,rY,pN,Bool.and_self]
 plain h:=by cases h
instance {n:Nat}:Lv (n+3) Trace:=⟨λx=>by
 show V.bZ (n+3) [enc x.procs]=true;simp only[iw,jO,qm,nS,qx,pX,Bool.and_self]⟩
structure Slice where
 empty:Bool
 first:Sl Int
 last:Sl Int
 j:Sl (Sl (Sl Int))
 deriving Inhabited
instance:aD Slice where
 cells x:=[.bool x.empty,enc x.first,enc x.last,enc x.j]
 agg:=true
 size:=4
 len _:=rfl
 good x:=by simp only[V.bJ,V.good,lF,Bool.and_self]
 one x:=by simp only[List.all_cons,List.all_nil,rO,pY,rY,pN,Bool.and_self]
 plain h:=by cases h
instance {n:Nat}:Lv (n+3) Slice:=⟨λx=>by
 show V.bZ (n+3) [.bool x.empty,enc x.first,enc x.last,enc x.j]=true
 simp only[iw,jO,qm,nS,qx,pX,Bool.and_self]⟩
structure aB where
 from_:aa
 to_:aa
 deriving Inhabited
instance:aD aB where
 cells x:=[.int .i64 x.from_.proc,.int .i64 x.from_.index,.int .i64 x.to_.proc,.int .i64 x.to_.index]
 agg:=true
 size:=4
 len _:=rfl
 good x:=by simp only[V.bJ,V.good,lF,Bool.and_self]
 one x:=by simp only[List.all_cons,List.all_nil,rO,pY,rY,pN,Bool.and_self]
 plain h:=by cases h
instance {n:Nat}:Lv (n+0) aB:=⟨λx=>by
 show V.bZ (n+0) [.int .i64 x.from_.proc,.int .i64 x.from_.index,.int .i64 x.to_.proc,.int .i64 x.to_.index]=true;simp only[iw,jO,qm,nS,qx,pX,Bool.and_self]⟩
def gw (p:Int):Int->List Event->List (aa×Event)
 | _,[]=>[]
 | j,e::r=>(⟨p,j+1⟩,e)::gw p (j+1) r
def dX:Int->List bp->List (aa×Event)
 | _,[]=>[]
 | i,p::r=>gw i 0 p.events.l++dX (i+1) r
def DP (n:Nat):Bool:=decide (n<9223372036854775807)
def gU (t:Trace):Option (List (aa×Event)):=
 if DP t.procs.l.length&&t.procs.l.all λp=>DP p.events.l.length then some (dX 0 t.procs.l)else none
end Go.VE
namespace Go.VE
def Tu:List (Nat×GD):=[
 (75,⟨0x22226260002000201,[],[(6,[.keep [0,1,7,8] []],[.keep [0,1,7,8] []]),(12,[.keep [] []],[]),(22,[.keep [4] []],[]),(27,[.keep [4] []],[])]⟩),
 (39,⟨0x226221,[],[]⟩),
 (40,⟨0x2222212,[],[]⟩),
 (8,⟨0x26442222222064442644402222026220220200002012,[],[(6,[.keep [1,2,8,9,10] [2]],[.keep [1,2,8,9,10] [2]]),(12,[.keep [1,2] [2]],[]),(24,[.keep [4] []],[]),(29,[.keep [4] []],[])]⟩),
 (76,⟨0x22226260002000201,[],[(6,[.keep [0,1,7,8] []],[.keep [0,1,7,8] []]),(12,[.keep [] []],[]),(22,[.keep [4] []],[]),(27,[.keep [4] []],[])]⟩),
 (41,⟨0x226221,[],[]⟩),
 (63,⟨0x22226260002000201,[],[(6,[.keep [0,1,7,8] []],[.keep [0,1,7,8] []]),(12,[.keep [] []],[]),(22,[.keep [4] []],[]),(27,[.keep [4] []],[])]⟩),
 (23,⟨0x226221,[],[]⟩),
 (43,⟨0x22221,[],[]⟩),
 (42,⟨0x264422201,[],[]⟩),
 (9,⟨0x264442644402644402222012,[],[]⟩),
 (169,⟨0x26c4444026402201,[],[]⟩),
 (170,⟨0x26442201,[],[]⟩),
 (146,⟨0x222064c002644c00222600620000644402644022201,[],[(8,[.keep [2] []],[]),(14,[.keep [0,3] []],[.keep [0,3] []]),(20,[.keep [] []],[]),(28,[.keep [2] []],[]),(33,[.keep [2] []],[])]⟩),
 (147,⟨0x26442201,[],[]⟩),
 (118,⟨0x2222222022226020222062260202260206000022226020622000022202220620226020600002220202602012,[],[(10,[.keep [4] []],[]),(16,[.keep [1,2,5,6] [2,5]],[.keep [1,2,5,6] [2,5]]),(22,[.keep [5] [5]],[]),(30,[.keep [4] []],[]),(39,[.keep [4] []],[]),(45,[.keep [5,7] [5]],[.keep [5,7] [5]]),(51,[.keep [5] [5]],[]),(60,[.keep [4] []],[]),(66,[.keep [5,7,8] [5]],[.keep [5,7,8] [5]]),(72,[.keep [5,7] [5]],[]),(80,[.keep [4] []],[]),(88,[.keep [4] []],[]),(97,[.keep [4] []],[]),(101,[.keep [4] []],[])]⟩),
 (119,⟨0x2222220620226020600006444026c444c04040222020260206220000222006cc44c4444c04040440264402220064402644026c04026c44040264402644022200644022202202026022602012,[],[(13,[.keep [6] []],[]),(20,[.keep [6] []],[]),(22,[.keep [1,2,3,7] [3,7]],[]),(28,[.keep [6] []],[]),(36,[.keep [6] []],[]),(42,[.keep [1,3,7,8] [3,7]],[.keep [1,3,7,8] [3,7]]),(48,[.keep [] []],[]),(59,[.keep [6] []],[]),(64,[.keep [1,3,7,8,9,10] [3,7,9]],[.keep [1,3,7,8,9,10] [3,7,9]]),(70,[.keep [1,3,7,8] [3,7]],[]),(78,[.keep [6] []],[]),(84,[.keep [6] []],[])]⟩),
 (148,⟨0x2262222262022022,[],[]⟩),
 (98,⟨0x20222222262226c0442602020260226020622260200062200002,[],[(6,[.keep [1,2,3,6,7] [3,6]],[.keep [1,2,3,6,7] [3,6]]),(12,[.keep [6] [6]],[]),(18,[.keep [1,2,3,6,7,8] [3,6]],[.keep [1,2,3,6,7,8] [3,6]]),(24,[.keep [1,2,3,6,7] [3,6]],[]),(34,[.keep [6] [6]],[]),(40,[.keep [6] [6]],[])]⟩),
 (120,⟨0x2222226cc40444cc4040444022202602262020622262020000220060e20200022020600122,[],[(30,[.keep [2,3,5,6,7] [2,3,5]],[.keep [2,3,5,6,7] [2,3,5]]),(36,[.keep [6] []],[])]⟩),
 (121,⟨0x22206222602026006220002222203622000622262002062202202026260022602062226020260062200002222012,[],[(6,[.canon (.s 3) 2003 1,.keep [1,3] [1,2003]],[.canon (.s 3) 2003 1,.keep [1,3] [1,2003]]),(14,[.canon (.s 3) 2003 1,.keep [1,3,4,5] [1,2003]],[.canon (.s 3) 2003 1,.keep [1,3,4,5] [1,2003]]),(20,[.canon (.s 3) 2003 1,.keep [1,3,4] [1,2003]],[]),(24,[.canon (.s 3) 2003 1,.keep [1,3,4,5] [1,2003]],[.canon (.s 3) 2003 1,.keep [1,3,4,5] [1,2003]]),(30,[.canon (.s 3) 2003 1,.keep [1,3,4,5] [1,2003]],[]),(43,[.canon (.s 3) 2003 1,.keep [1,3,4,5] [1,2003]],[]),(46,[.canon (.s 3) 2003 1,.keep [1,3,5] [1,2003]],[]),(53,[.canon (.s 3) 2003 1,.keep [1,3] [1,2003]],[]),(59,[.canon (.s 3) 2003 1,.keep [1,3,8] [1,2003]],[.canon (.s 3) 2003 1,.keep [1,3,8] [1,2003]]),(65,[.keep [] []],[]),(73,[.keep [2] []],[]),(78,[.keep [2] []],[])]⟩),
 (149,⟨0x22262622222202062026262202022200122,[],[(10,[.canon (.s 5) 2005 2,.keep [2,3,5] [2,3,2005]],[])]⟩),
 (92,⟨0x202222220222620260600206200622260200062200002020222222222220260020620062226020006220002222222226222202e0006222602000622000222222222026006220000206444022220102,[],[(8,[.keep [2,3] [2]],[]),(14,[.keep [1,2,4] [1,2]],[.keep [1,2,4] [1,2]]),(20,[.keep [1,2] [1,2]],[]),(30,[.keep [2,3] [2]],[]),(37,[.keep [1,2,6] [1,2]],[.keep [1,2,6] [1,2]]),(43,[.keep [1,2] [1,2]],[]),(49,[.keep [1,2,6,7] [1,2]],[.keep [1,2,6,7] [1,2]]),(55,[.keep [1,2,6] [1,2]],[]),(65,[.keep [2,3] [2]],[]),(73,[.keep [1,2,9] [1,2]],[.keep [1,2,9] [1,2]]),(79,[.keep [1,2] [1,2]],[]),(85,[.keep [1,2,9,10] [1,2]],[.keep [1,2,9,10] [1,2]]),(91,[.keep [1,2,9] [1,2]],[]),(103,[.keep [2,3] [2]],[]),(113,[.keep [2,3] [2]],[]),(119,[.keep [1,2,13] [1,2]],[.keep [1,2,13] [1,2]]),(125,[.keep [2] [2]],[]),(131,[.keep [1,2,13,14] [1,2]],[.keep [1,2,13,14] [1,2]]),(137,[.keep [1,2,13] [1,2]],[]),(147,[.keep [2,3] [2]],[]),(153,[.keep [2,3] [2]],[])]⟩),
 (48,⟨0x2222302022212,[],[]⟩),
 (93,⟨0x262222212,[],[]⟩),
 (94,⟨0x22206c444c0404c002226006200012,[],[(6,[.keep [1,2,5] [2]],[.keep [1,2,5] [2]]),(12,[.keep [] []],[]),(20,[.keep [4] []],[]),(25,[.keep [4] []],[])]⟩),
 (123,⟨0x26262222020622202202026222622012,[],[]⟩),
 (95,⟨0x22222202001ef000062600006200012,[],[(6,[.keep [1,2,5] [2]],[.keep [1,2,5] [2]]),(12,[.keep [] []],[]),(18,[.keep [1,2,5,6] [2]],[.keep [1,2,5,6] [2]]),(24,[.keep [1,2,5] [2]],[]),(32,[.keep [4] []],[]),(38,[.keep [4] []],[])]⟩),
 (49,⟨0x26c4426c0026c0022012,[],[]⟩),
 (50,⟨0x2220626002600620000620201,[],[(8,[.keep [4] []],[]),(14,[.keep [0,1,5] []],[.keep [0,1,5] []]),(20,[.keep [] []],[]),(28,[.keep [4] []],[]),(33,[.keep [4] []],[])]⟩),
 (54,⟨0x2220626002600620000620201,[],[(8,[.keep [4] []],[]),(14,[.keep [0,1,5] []],[.keep [0,1,5] []]),(20,[.keep [] []],[]),(28,[.keep [4] []],[]),(33,[.keep [4] []],[])]⟩),
 (51,⟨0x26c44426c04026c44c40260226222626020022226260200226026020122,[],[]⟩),
 (52,⟨0x22222202602602602062600006200012,[],[(6,[.keep [1,2,5] [2]],[.keep [1,2,5] [2]]),(12,[.keep [] []],[]),(18,[.keep [1,2,5,6] [2]],[.keep [1,2,5,6] [2]]),(24,[.keep [1,2,5] [2]],[]),(32,[.keep [4] []],[]),(38,[.keep [4] []],[])]⟩),
 (13,⟨0x2222220262602602006260200062200022222202001ef000062260200006222602022602062200006c440440264c4040264c40022620026444426444022220200220122,[],[(8,[.keep [4] []],[]),(16,[.keep [4] []],[]),(24,[.keep [4] []],[]),(30,[.keep [2,3,5] [2,3]],[.keep [2,3,5] [2,3]]),(36,[.keep [3] [3]],[]),(45,[.keep [4] []],[]),(50,[.keep [2,3,5,6] [2,3]],[.keep [2,3,5,6] [2,3]]),(56,[.keep [2,3,5] [2,3]],[]),(64,[.keep [4] []],[]),(72,[.keep [3,7] [3]],[.keep [3,7] [3]]),(78,[.keep [] []],[]),(84,[.keep [3,7,8] [3]],[.keep [3,7,8] [3]]),(90,[.keep [3,7] [3]],[]),(98,[.keep [4] []],[]),(104,[.keep [4] []],[])]⟩),
 (60,⟨0x22206c444c0404c0022260062000062202012,[],[(8,[.keep [4] []],[]),(14,[.keep [1,2,5] [2]],[.keep [1,2,5] [2]]),(20,[.keep [] []],[]),(28,[.keep [4] []],[]),(33,[.keep [4] []],[])]⟩),
 (61,⟨0x2222220626220202062202202026022602062600006200012,[],[(6,[.keep [1,2,5] [2]],[.keep [1,2,5] [2]]),(12,[.keep [] []],[]),(18,[.keep [1,2,5,6] [2]],[.keep [1,2,5,6] [2]]),(24,[.keep [1,2,5] [2]],[]),(39,[.keep [4] []],[]),(46,[.keep [4] []],[])]⟩),
 (20,⟨0x26c44260012,[],[]⟩),
 (138,⟨0x26c4426201,[],[]⟩),
 (183,⟨0x26c4444026402201,[],[]⟩),
 (184,⟨0x26442201,[],[]⟩),
 (158,⟨0x22064c402644c00222600200020064440264402201,[],[(8,[.keep [2] []],[]),(14,[.keep [0,18,19] []],[.keep [0,18,19] []]),(20,[.keep [] []],[]),(30,[.keep [2] []],[]),(35,[.keep [2] []],[])]⟩),
 (160,⟨0x26222212,[],[]⟩),
 (185,⟨0x22226260002000201,[],[(6,[.keep [0,1,7,8] []],[.keep [0,1,7,8] []]),(12,[.keep [] []],[]),(22,[.keep [4] []],[]),(27,[.keep [4] []],[])]⟩),
 (159,⟨0x226221,[],[]⟩),
 (162,⟨0x26222212,[],[]⟩),
 (186,⟨0x22226260002000201,[],[(6,[.keep [0,1,7,8] []],[.keep [0,1,7,8] []]),(12,[.keep [] []],[]),(22,[.keep [4] []],[]),(27,[.keep [4] []],[])]⟩),
 (161,⟨0x226221,[],[]⟩),
 (139,⟨0x222222022222026c0c4402222022020000020022220026c0c44422220202602012,[],[(11,[.keep [4] []],[]),(17,[.keep [4] []],[]),(23,[.keep [5,32,33,34] [5]],[.keep [5,32,33,34] [5]]),(29,[.keep [5] [5]],[]),(40,[.keep [4] []],[]),(46,[.keep [4] []],[]),(55,[.keep [4] []],[]),(59,[.keep [4] []],[])]⟩),
 (140,⟨0x2212,[],[]⟩),
 (164,⟨0x2644426c4402622222022202644422202020122,[],[(18,[.keep [1,3,5,19] [3,5]],[])]⟩),
 (166,⟨0x26222212,[],[]⟩),
 (187,⟨0x22226260002000201,[],[(6,[.keep [0,1,7,8] []],[.keep [0,1,7,8] []]),(12,[.keep [] []],[]),(22,[.keep [4] []],[]),(27,[.keep [4] []],[])]⟩),
 (165,⟨0x226221,[],[]⟩),
 (141,⟨0x2202626220026444022622202022020000020022220026c44022220022e02222226220202200202620201222,[],[(12,[.keep [3,4,5,7,8] [3,4,5,7]],[]),(19,[.keep [6] []],[]),(25,[.keep [6] []],[]),(31,[.keep [6] []],[]),(37,[.keep [5,7,52,53,54] [5,7]],[.keep [5,7,52,53,54] [5,7]]),(43,[.keep [] []],[]),(54,[.keep [6] []],[]),(60,[.keep [6] []],[]),(65,[.keep [6] []],[])]⟩),
 (188,⟨0x26c44426c440222012,[],[]⟩),
 (167,⟨0x2662262221222,[],[]⟩),
 (142,⟨0x2202326222002202001ef200220022022226200223262220022022226200202022020202020200002,[],[(8,[.keep [1,2,3,4,5,12] [1,2,3,4,5,10]],[.keep [] [1,2,3,4,5,10]]),(27,[.keep [] [1,2,3,4,5,10]],[]),(39,[.keep [] [1,2,3,4,5,10]],[]),(47,[.keep [] [1,2,3,4,5,10]],[]),(53,[.keep [2,3,4] [2,3,4,10]],[])]⟩),
 (168,⟨0x222622262222264444c4400222020262222262622020262020222620220122,[],[(12,[.canon (.s 7) 2007 2,.keep [1,5,7,8] [5,2007]],[])]⟩),
 (143,⟨0x20222622230026000226002020000e200262220202622002202202020200022,[],[(6,[.keep [2,3,4,5,13] [2,3,4,5]],[.keep [] [2,3,4,5]]),(14,[.canon (.s 8) 2008 2,.keep [2,3,4,5,6,7,8,13] [2,3,4,5,6,16,2008]],[.canon (.s 8) 2008 2,.keep [2,3,4,5,6,7,8,13] [2,3,4,5,6,16,2008]]),(20,[.keep [2,3,4,5,13] [2,3,4,5]],[]),(29,[.canon (.s 8) 2008 2,.keep [2,3,4,5,6,7,8,13,36,37,38] [2,3,4,5,6,16,2008]],[.canon (.s 8) 2008 2,.keep [2,3,4,5,6,7,8,13,36,37,38] [2,3,4,5,6,16,2008]]),(35,[.canon (.s 8) 2008 2,.keep [2,3,4,5,6,7,8,13] [2,3,4,5,6,16,2008]],[]),(46,[.keep [] [2,3,4,5]],[]),(58,[.keep [4,5] [4,5]],[])]⟩),
 (113,⟨0x20022222020262222222022202002202222202e2002020202222222202600200022002022220002,[],[(8,[.keep [2,3] [2,3]],[]),(14,[.keep [1,2,3,22,23] [1,2,3]],[.keep [1,2,3,22,23] [1,2,3]]),(20,[.keep [1,2,3] [1,2,3]],[]),(32,[.keep [2,3] [2,3]],[]),(39,[.keep [1,2,3,36] [1,2,3]],[.keep [] [1,2,3]]),(51,[.keep [] [1,2,3]],[]),(61,[.keep [2,3] [2,3]],[]),(71,[.keep [2,3] [2,3]],[]),(75,[.keep [2,3] [2,3]],[])]⟩),
 (77,⟨0x2222302022212,[],[]⟩),
 (151,⟨0x26222221,[],[]⟩),
 (126,⟨0x264c4422012,[],[]⟩),
 (127,⟨0x2206c444c440422022200000212,[],[(6,[.keep [2,7,8,9] [2]],[.keep [2,7,8,9] [2]]),(12,[.keep [] []],[]),(22,[.keep [4] []],[]),(27,[.keep [4] []],[])]⟩),
 (128,⟨0x26c444422012,[],[]⟩),
 (189,⟨0x200226c0442602020202202022000222,[],[(8,[.keep [6,7] [6,7]],[]),(14,[.keep [4,5,6,7,15] [4,5,6,7]],[.keep [] [4,5,6,7]]),(24,[.keep [] [4,5,6,7]],[]),(28,[.keep [6,7] [6,7]],[])]⟩),
 (172,⟨0x2220622102,[],[]⟩),
 (152,⟨0x2200222202262222626200203202026220220220200000622260202220000001002,[],[(6,[.keep [1,2,4,5,13,14,15] [2,4,5]],[.keep [1,2,4,5,13,14,15] [2,4,5]]),(12,[.keep [4,5] [4,5]],[]),(20,[.keep [1,2,4,5,7,13,14,15,27,28,29] [2,4,5]],[.keep [1,2,4,5,7,13,14,15,27,28,29] [2,4,5]]),(26,[.keep [1,2,4,5,13,14,15] [2,4,5]],[]),(44,[.keep [4,5,6] [4,5]],[]),(50,[.keep [4,5,6] [4,5]],[])]⟩),
 (129,⟨0x22223300200262212,[],[]⟩),
 (105,⟨0x2202620220000222026202200002220262022000000260012,[],[(8,[.keep [6] []],[]),(14,[.keep [1,2,3,17,18,19] [3]],[.keep [1,2,3,17,18,19] [3]]),(20,[.keep [1,2,3] [3]],[]),(30,[.keep [6] []],[]),(37,[.keep [1,3,28,29,30] [3]],[.keep [1,3,28,29,30] [3]]),(43,[.keep [1,3] [3]],[]),(53,[.keep [6] []],[]),(60,[.keep [3,39,40,41] [3]],[.keep [3,39,40,41] [3]]),(66,[.keep [] []],[]),(76,[.keep [6] []],[]),(81,[.keep [6] []],[])]⟩),
 (65,⟨0x22622212,[],[]⟩),
 (82,⟨0x2206262026002000200620201,[],[(8,[.keep [4] []],[]),(14,[.keep [0,1,12,13] []],[.keep [0,1,12,13] []]),(20,[.keep [] []],[]),(30,[.keep [4] []],[]),(35,[.keep [4] []],[])]⟩),
 (99,⟨0x2206222622022222000002206c440440264c4040264c400226200122,[],[(8,[.keep [4] []],[]),(14,[.keep [2,37,38,39] [2]],[.keep [2,37,38,39] [2]]),(20,[.keep [] []],[]),(30,[.keep [4] []],[]),(35,[.keep [4] []],[])]⟩),
 (100,⟨0x22222622222202000022012,[],[(8,[.canon (.s 3) 2003 1,.keep [3,7,8,9] [2003]],[.canon (.s 3) 2003 1,.keep [3,7,8,9] [2003]]),(14,[.canon (.s 3) 2003 1,.keep [3] [2003]],[])]⟩),
 (73,⟨0x226222262022122,[],[]⟩),
 (125,⟨0x26262222012,[],[]⟩),
 (38,⟨0x2206262026002000200620201,[],[(8,[.keep [4] []],[]),(14,[.keep [0,1,12,13] []],[.keep [0,1,12,13] []]),(20,[.keep [] []],[]),(30,[.keep [4] []],[]),(35,[.keep [4] []],[])]⟩),
 (102,⟨0x26c44426c04026c0426022622226200222222620026001222,[],[]⟩),
 (101,⟨0x2e22212,[],[]⟩),
 (71,⟨0x222202662200200022220000021,[],[(6,[.keep [1,8,9,10] []],[.keep [1,8,9,10] []]),(12,[.keep [] []],[]),(20,[.keep [1,5,8,9,10,15,16] []],[.keep [1,5,8,9,10,15,16] []]),(26,[.keep [1,8,9,10] []],[]),(36,[.keep [4] []],[]),(42,[.keep [4] []],[])]⟩),
 (104,⟨0x26262212,[],[]⟩),
 (103,⟨0x26602062012,[],[]⟩),
 (64,⟨0x26220064c4402260026444426444022220200220122,[],[]⟩),
 (79,⟨0x2262212,[],[]⟩),
 (114,⟨0x22226260002000201,[],[(6,[.keep [0,1,7,8] []],[.keep [0,1,7,8] []]),(12,[.keep [] []],[]),(22,[.keep [4] []],[]),(27,[.keep [4] []],[])]⟩),
 (78,⟨0x226221,[],[]⟩),
 (44,⟨0x264c4422012,[],[]⟩),
 (85,⟨0x26200201,[],[(8,[.canon (.s 2) 4004 1],[]),(12,[.canon (.s 2) 4004 1],[])]⟩),
 (144,⟨0x1ff220002222222002002600222002260000226200112,[],[(9,[.canon (.s 6) 2006 1,.keep [6,7] [2006]],[]),(15,[.canon (.s 6) 2006 1,.keep [6,7] [2006]],[]),(20,[.canon (.s 8) 2008 1,.keep [2,3,8] [3,2008]],[.canon (.s 8) 2008 1,.keep [2,3,8] [3,2008]]),(30,[.canon (.s 6) 2006 1,.keep [6,7] [2006]],[])]⟩),
 (115,⟨0x2220622112,[],[]⟩),
 (83,⟨0x223220262212,[],[]⟩),
 (81,⟨0x26220064c44c0022011,[],[]⟩),
 (86,⟨0x2236622620002221,[],[]⟩),
 (88,⟨0x222236622620002220000022221,[],[(8,[.canon (.s 5) 2005 1,.keep [5,10,11,12] [2005]],[.canon (.s 5) 2005 1,.keep [5,10,11,12] [2005]]),(14,[.canon (.s 5) 2005 1,.keep [5] [2005]],[])]⟩),
 (80,⟨0x2222306222022262223060202222026e22000200022202202000002220620020222220262220002,[(7,[.closeS (.s 19)]),(20,[.closeS (.s 28)]),(71,[.closeS (.s 67)]),(77,[.closeS (.c 7 3)])],[(18,[.canon (.c 7 3) 4143 1,.keep [1,4,5,7,31,32,33] [4,7,4143]],[.canon (.c 7 3) 4143 1,.keep [1,4,5,7,31,32,33] [4,7,4143]]),(24,[.canon (.c 7 3) 4143 1,.keep [4,7] [4,7,4143]],[]),(35,[.canon (.s 10) 2010 1,.canon (.c 7 3) 4143 1,.keep [1,4,5,7,8,10,31,32,33,40,41] [4,7,2010,4143]],[.canon (.s 10) 2010 1,.canon (.c 7 3) 4143 1,.keep [1,4,5,7,8,10,31,32,33,40,41] [4,7,2010,4143]]),(41,[.canon (.s 10) 2010 1,.canon (.c 7 3) 4143 1,.keep [1,4,5,7,10,31,32,33] [4,7,2010,4143]],[]),(54,[.canon (.s 10) 2010 1,.canon (.c 7 3) 4143 1,.keep [1,4,5,7,8,10,12,31,32,33,40,41] [4,7,2010,4143]],[])]⟩),
 (45,⟨0x2660022,[(5,[.closeB 3,.closeB 2])],[]⟩),
 (10,⟨0x2622020262001022,[],[]⟩),
 (116,⟨0x22222622222202000022012,[],[(8,[.canon (.s 3) 2003 1,.keep [3,7,8,9] [2003]],[.canon (.s 3) 2003 1,.keep [3,7,8,9] [2003]]),(14,[.canon (.s 3) 2003 1,.keep [3] [2003]],[])]⟩),
 (84,⟨0x26c44442220122,[],[]⟩),
 (87,⟨0x26622211,[],[]⟩),
 (46,⟨0x2660222222366226200062600022200000226e2202200222000002222000002220220202600022,[(76,[.closeB 2,.closeS (.c 5 0),.closeB 5])],[(16,[.canon (.c 5 0) 4100 1,.keep [2,4,5,22,23,24] [2,4,5,4100]],[.canon (.c 5 0) 4100 1,.keep [2,4,5,22,23,24] [2,4,5,4100]]),(22,[.canon (.c 5 0) 4100 1,.keep [2,4,5] [2,4,5,4100]],[]),(30,[.canon (.c 5 0) 4100 1,.keep [2,4,5,6,22,23,24,29,30,31] [2,4,5,4100]],[.canon (.c 5 0) 4100 1,.keep [2,4,5,6,22,23,24,29,30,31] [2,4,5,4100]]),(36,[.canon (.c 5 0) 4100 1,.keep [2,4,5,22,23,24] [2,4,5,4100]],[]),(46,[.canon (.c 5 0) 4100 1,.keep [2,4,5,6,10,22,23,24,29,30,31,45,46,47] [2,4,5,4100]],[.canon (.c 5 0) 4100 1,.keep [2,4,5,6,10,22,23,24,29,30,31,45,46,47] [2,4,5,4100]]),(52,[.canon (.c 5 0) 4100 1,.keep [2,4,5,6,22,23,24,29,30,31] [2,4,5,4100]],[])]⟩),
 (11,⟨0x2622020262001022,[],[]⟩),
 (91,⟨0x222222220262226002200006226220222000000002620020200000020222622200202020000011,[],[(6,[.keep [0,1,15,16,17] []],[.keep [0,1,15,16,17] []]),(12,[.keep [0,1] []],[]),(23,[.keep [4,5] []],[]),(31,[.keep [0,1,8] []],[.keep [0,1,8] []]),(37,[.keep [0] []],[]),(44,[.keep [0,1,8,29,30,31] []],[.keep [0,1,8,29,30,31] []]),(50,[.keep [0,1,8] []],[]),(61,[.keep [4,5] []],[]),(66,[.keep [0,1,8,10,29,30,31,40,41,42] [10]],[.keep [0,1,8,10,29,30,31,40,41,42] [10]]),(72,[.keep [0,1,8,29,30,31] []],[]),(80,[.keep [0,1,8,10,29,30,31,40,41,42,53,54,55] [10]],[.keep [0,1,8,10,29,30,31,40,41,42,53,54,55] [10]]),(86,[.keep [0,1,8,10,29,30,31,40,41,42] [10]],[]),(103,[.keep [4,5] []],[])]⟩),
 (90,⟨0x222062262211,[],[]⟩),
 (47,⟨0x2662222226006c40226200220000620222000000222020220202600022,[(56,[.closeB 5,.closeB 3])],[(18,[.closeS (.c 5 0),.keep [2,3,4,5,6,22,23,24] [2,3,4,5]],[.closeS (.c 5 0),.keep [2,3,4,5,6,22,23,24] [2,3,4,5]]),(24,[.closeS (.c 5 0),.keep [2,3,4,5] [2,3,4,5]],[]),(32,[.closeS (.c 5 0),.keep [2,3,4,5,6,8,22,23,24,31,32,33] [2,3,4,5]],[.closeS (.c 5 0),.keep [2,3,4,5,6,8,22,23,24,31,32,33] [2,3,4,5]]),(38,[.closeS (.c 5 0),.keep [2,3,4,5,6,22,23,24] [2,3,4,5]],[])]⟩),
 (12,⟨0x2622020262001022,[],[]⟩),
 (62,⟨0x2236226200026201,[],[]⟩),
 (21,⟨0x2222226260026cc000262226020260062000012,[],[(8,[.canon (.s 5) 2005 1,.keep [1,2,5,6] [2,2005]],[.canon (.s 5) 2005 1,.keep [1,2,5,6] [2,2005]]),(14,[.canon (.s 5) 2005 1,.keep [5] [2005]],[])]⟩),
 (106,⟨0x26262212,[],[]⟩),
 (66,⟨0x26cc026c40026c0402220122,[],[]⟩),
 (25,⟨0x26c4426c042600122,[],[]⟩),
 (24,⟨0x2e2221,[],[]⟩),
 (22,⟨0x266212,[],[]⟩),
 (27,⟨0x22e2221,[],[]⟩),
 (26,⟨0x2266212,[],[]⟩),
 (4,⟨0x26ccc4444001cf40426ccc4440001cf000266cc40444420e0002e02020202060006442644222220202600220202600220202600064c00264c0026402220020122,[],[]⟩)]
end Go.VE
namespace Go.VE
namespace trace_events_c1
def zJ:List RO:=[o1 20 (.s 18) [],o2 21 (ix 5) [.s 16,.s 18] [],o2 22 (lD 5) [.s 21] [21],o2 6 (.a (.alloc 5 [.int .i64 0,.int .i64 0,.int .i64 0,.int .i64 0,.aL])) [] [],o1 5 (.s 20) [20],oz (.l (.store 5)) [.s 6,.s 22] [22]]
def xm:List RO:=[o1 23 (.s 0) [],o1 24 (.s 3) [],o1 25 (.s 5) [5],o2 26 (bI .add) [.s 25,.k (.int .i64 1)] [25],o2 27 (.p (.build [.int .i64 0,.int .i64 0] [(0,1),(1,1)])) [.s 24,.s 26] [24,26],o2 28 (lD 5) [.s 6] [6],
 o2 29 .c [.s 23,.s 27,.s 28] [23,27,28],o2 30 (.p .not) [.s 29] [29]]
def uX:List RO:=[o2 31 (bI .add) [.s 18,.k (.int .i64 1)] [],o1 18 (.s 31) [31]]
def CL:RC:=.hg (.seq (.ops [o2 19 (bI .lss) [.s 18,.s 17] []]) (.seq (.cond (.s 19) .skip (.exit 2)) (.seq (.block 3 (.seq (.ops zJ) (.seq (.ops xm) (.cond (.s 30) .ret .skip)))) (.ops uX)))) (.keep [0,3,8,9,10,16,17,18] [])
def GX:List RO:=[o1 12 (.s 10) [],o2 13 (ix 3) [.s 8,.s 10] [],o2 14 (lD 3) [.s 13] [13],o2 4 (.a (.alloc 3 [.str ByteArray.empty,.aL,.aL])) [] [],o1 3 (.s 12) [12],oz (.l (.store 3)) [.s 4,.s 14] [14]]
def Fe:List RO:=[o2 15 (fa 2) [.s 4] [],o2 16 (ld 1) [.s 15] [15],o2 17 ln [.s 16] [],o1 18 (.k (.int .i64 0)) []]
def CW:List RO:=[o2 32 (bI .add) [.s 10,.k (.int .i64 1)] [],o1 10 (.s 32) [32]]
def U2:RC:=.block 2 (.gh (.keep [0,3,8,9,10,16,17,18] []) (.loop CL))
def Kj:RC:=.hg (.seq (.ops [o2 11 (bI .lss) [.s 10,.s 9] []]) (.seq (.cond (.s 11) .skip (.exit 0)) (.seq (.block 1 (.seq (.ops GX) (.seq (.ops Fe) U2))) (.ops CW)))) (.keep [0,8,9,10] [])
def Qa:List RO:=[o2 7 (fa 0) [.s 1] [1],o2 8 (ld 1) [.s 7] [7],o2 9 ln [.s 8] [],o1 10 (.k (.int .i64 0)) []]
def U1:RC:=.block 0 (.gh (.keep [0,8,9,10] []) (.loop Kj))
def text:RF:=⟨33,[],.seq (.ops Qa) U1⟩
section
variable {S:Sys}
abbrev I1 (ps:Sl bp) (i:Int) (ws:List (List V)) (more:Bool) (y:Nat):St:=⟨[(0,.yl y),Cv 8 ps,Iv 9 (len ps),Iv 10 i],[],[],ws,more,y⟩
abbrev I2 (ps:Sl bp) (i:Int) (es:Sl Event) (j:Int) (ws:List (List V)) (more:Bool) (y:Nat):St:=⟨[(0,.yl y),Iv 3 i,Cv 8 ps,Iv 9 (len ps),Iv 10 i,Cv 16 es,Iv 17 (len es),Iv 18 j],[],[],ws,more,y⟩
abbrev S2 (ps:Sl bp) (i:Int) (es:Sl Event) (j:Int) (b:Bool) (ws:List (List V)) (more:Bool) (y:Nat):St:=⟨[(0,.yl y),Iv 3 i,Cv 8 ps,Iv 9 (len ps),Iv 10 i,Cv 16 es,Iv 17 (len es),Iv 18 j,Bv 19 b],[],[],ws,more,y⟩
theorem QV (ps:Sl bp) (i:Int) (es:Sl Event) (j:Int) (ws:List (List V)) (more:Bool) (y:Nat) (hj:decide (j<len es)=false) :
 rn S.bare lK some (.rc CL) [] (I2 ps i es j ws more y)=some (.exit 2,S2 ps i es j false ws more y):=by
 refine Le.get ?_;refine Kf (n:=7) (fo':=.rc (.cond (.s 19) .skip (.exit 2))) (fs':=[.seq (.seq (.block 3 (.seq (.ops zJ) (.seq (.ops xm) (.cond (.s 30) .ret .skip)))) (.ops uX)),.gst (.keep [0,3,8,9,10,16,17,18] [])]) (λb=>S2 ps i es j b ws more y) hj (by kernel_rfl) ?_
 exact Le.of_eq (by kernel_rfl)
theorem RW (ps:Sl bp) (i:Int) (es:Sl Event) (j:Int) (e:Event) (ws:List (List V)) (more:Bool) (y:Nat) (hj:decide (j<len es)=true) (hx:idx es j=some e) (hb:(!(more || !ws.isEmpty))=false) :
 rn S.bare lK some (.rc CL) [] (I2 ps i es j ([enc (⟨i,IntKind.wrap .i64 (j+1)⟩:aa),enc e]::ws) more y)=some (.norm,I2 ps i es (IntKind.wrap .i64 (j+1)) ws more y):=by
 refine Le.get ?_;refine Kt (n:=7) (fo':=.rc (.cond (.s 19) .skip (.exit 2))) (fs':=[.seq (.seq (.block 3 (.seq (.ops zJ) (.seq (.ops xm) (.cond (.s 30) .ret .skip)))) (.ops uX)),.gst (.keep [0,3,8,9,10,16,17,18] [])]) (λb=>S2 ps i es j b ([enc (⟨i,IntKind.wrap .i64 (j+1)⟩:aa),enc e]::ws) more y) hj (by kernel_rfl) ?_
 refine Ma hx ?_;refine Lr 8 false [] (zJ.drop 1) [.seq (.seq (.ops xm) (.cond (.s 30) .ret .skip)),.blk 3,.seq (.ops uX),.gst (.keep [0,3,8,9,10,16,17,18] [])] ⟨[(0,.yl y),Iv 3 i,Cv 8 ps,Iv 9 (len ps),Iv 10 i,Cv 16 es,Iv 17 (len es),Iv 18 j,Bv 19 true,Iv 20 j],[],[],([enc (⟨i,IntKind.wrap .i64 (j+1)⟩:aa),enc e]::ws),more,y⟩ .i64 rfl (by kernel_rfl) λx h1=>?_
 obtain rfl:x=e:=by rw[hx]at h1;cases h1;rfl
 refine Rn 1 false [] (zJ.drop 3) [.seq (.seq (.ops xm) (.cond (.s 30) .ret .skip)),.blk 3,.seq (.ops uX),.gst (.keep [0,3,8,9,10,16,17,18] [])] ⟨[(0,.yl y),Iv 3 i,Cv 8 ps,Iv 9 (len ps),Iv 10 i,Cv 16 es,Iv 17 (len es),Iv 18 j,Bv 19 true,Iv 20 j,Cv 22 x],[],[],([enc (⟨i,IntKind.wrap .i64 (j+1)⟩:aa),enc x]::ws),more,y⟩ [iv 0,iv 0,iv 0,iv 0,.v .aL] rfl (by simp only[aI,vT,oI,qb,oP,qA,rH,qu,rZ,oN,qn,vV,rE,rL,rR,rU,tX,tU,qB,rq,SV.bR];rfl) (by kernel_rfl) ?_
 refine Ast 1 false [] (zJ.drop 5) [.seq (.seq (.ops xm) (.cond (.s 30) .ret .skip)),.blk 3,.seq (.ops uX),.gst (.keep [0,3,8,9,10,16,17,18] [])] ⟨[(0,.yl y),Iv 3 i,Cv 8 ps,Iv 9 (len ps),Iv 10 i,Cv 16 es,Iv 17 (len es),Iv 18 j,Bv 19 true,Cv 22 x,Pv 6,Iv 5 j],[Xb 6 (⟨0,0,0,0,.nil⟩:Event)],[],([enc (⟨i,IntKind.wrap .i64 (j+1)⟩:aa),enc x]::ws),more,y⟩ 6 0 x [iv 0,iv 0,iv 0,iv 0,.v .aL] ((cells x).map .v) rfl (by kernel_rfl) ?_
 refine Tc (n:=10) (q:=xm.drop 6) (fs':=[.seq (.cond (.s 30) .ret .skip),.blk 3,.seq (.ops uX),.gst (.keep [0,3,8,9,10,16,17,18] [])]) (st:=⟨[(0,.yl y),Iv 3 i,Cv 8 ps,Iv 9 (len ps),Iv 10 i,Cv 16 es,Iv 17 (len es),Iv 18 j,Bv 19 true,(23,.yl y),Cv 27 (⟨i,IntKind.wrap .i64 (j+1)⟩:aa),Cv 28 x],[Xb 6 x],[],([enc (⟨i,IntKind.wrap .i64 (j+1)⟩:aa),enc x]::ws),more,y⟩) (vs:=[cv (⟨i,IntKind.wrap .i64 (j+1)⟩:aa),cv x]) (by kernel_rfl) rfl (by kernel_rfl) (by kernel_rfl) rfl rfl ?_
 refine Kf (n:=3) (fo':=.rc (.cond (.s 30) .ret .skip)) (fs':=[.blk 3,.seq (.ops uX),.gst (.keep [0,3,8,9,10,16,17,18] [])]) (λb=>⟨[(0,.yl y),Iv 3 i,Cv 8 ps,Iv 9 (len ps),Iv 10 i,Cv 16 es,Iv 17 (len es),Iv 18 j,Bv 19 true,Bv 30 b],[Xb 6 x],[],ws,more,y⟩) hb (by kernel_rfl) ?_
 exact Le.of_eq (by kernel_rfl)
theorem OV (ps:Sl bp) (i:Int) (es:Sl Event) (j:Int) (e:Event) (ws:List (List V)) (more:Bool) (y:Nat) (hj:decide (j<len es)=true) (hx:idx es j=some e) (hb:(!(more || !ws.isEmpty))=true) :
 rn S.bare lK some (.rc CL) [] (I2 ps i es j ([enc (⟨i,IntKind.wrap .i64 (j+1)⟩:aa),enc e]::ws) more y)=some (.ret,⟨[(0,.yl y),Iv 3 i,Cv 8 ps,Iv 9 (len ps),Iv 10 i,Cv 16 es,Iv 17 (len es),Iv 18 j,Bv 19 true,Bv 30 true],[Xb 6 e],[],ws,more,y⟩):=by
 refine Le.get ?_;refine Kt (n:=7) (fo':=.rc (.cond (.s 19) .skip (.exit 2))) (fs':=[.seq (.seq (.block 3 (.seq (.ops zJ) (.seq (.ops xm) (.cond (.s 30) .ret .skip)))) (.ops uX)),.gst (.keep [0,3,8,9,10,16,17,18] [])]) (λb=>S2 ps i es j b ([enc (⟨i,IntKind.wrap .i64 (j+1)⟩:aa),enc e]::ws) more y) hj (by kernel_rfl) ?_
 refine Ma hx ?_;refine Lr 8 false [] (zJ.drop 1) [.seq (.seq (.ops xm) (.cond (.s 30) .ret .skip)),.blk 3,.seq (.ops uX),.gst (.keep [0,3,8,9,10,16,17,18] [])] ⟨[(0,.yl y),Iv 3 i,Cv 8 ps,Iv 9 (len ps),Iv 10 i,Cv 16 es,Iv 17 (len es),Iv 18 j,Bv 19 true,Iv 20 j],[],[],([enc (⟨i,IntKind.wrap .i64 (j+1)⟩:aa),enc e]::ws),more,y⟩ .i64 rfl (by kernel_rfl) λx h1=>?_
 obtain rfl:x=e:=by rw[hx]at h1;cases h1;rfl
 refine Rn 1 false [] (zJ.drop 3) [.seq (.seq (.ops xm) (.cond (.s 30) .ret .skip)),.blk 3,.seq (.ops uX),.gst (.keep [0,3,8,9,10,16,17,18] [])] ⟨[(0,.yl y),Iv 3 i,Cv 8 ps,Iv 9 (len ps),Iv 10 i,Cv 16 es,Iv 17 (len es),Iv 18 j,Bv 19 true,Iv 20 j,Cv 22 x],[],[],([enc (⟨i,IntKind.wrap .i64 (j+1)⟩:aa),enc x]::ws),more,y⟩ [iv 0,iv 0,iv 0,iv 0,.v .aL] rfl (by simp only[aI,vT,oI,qb,oP,qA,rH,qu,rZ,oN,qn,vV,rE,rL,rR,rU,tX,tU,qB,rq,SV.bR];rfl) (by kernel_rfl) ?_
 refine Ast 1 false [] (zJ.drop 5) [.seq (.seq (.ops xm) (.cond (.s 30) .ret .skip)),.blk 3,.seq (.ops uX),.gst (.keep [0,3,8,9,10,16,17,18] [])] ⟨[(0,.yl y),Iv 3 i,Cv 8 ps,Iv 9 (len ps),Iv 10 i,Cv 16 es,Iv 17 (len es),Iv 18 j,Bv 19 true,Cv 22 x,Pv 6,Iv 5 j],[Xb 6 (⟨0,0,0,0,.nil⟩:Event)],[],([enc (⟨i,IntKind.wrap .i64 (j+1)⟩:aa),enc x]::ws),more,y⟩ 6 0 x [iv 0,iv 0,iv 0,iv 0,.v .aL] ((cells x).map .v) rfl (by kernel_rfl) ?_
 refine Tc (n:=10) (q:=xm.drop 6) (fs':=[.seq (.cond (.s 30) .ret .skip),.blk 3,.seq (.ops uX),.gst (.keep [0,3,8,9,10,16,17,18] [])]) (st:=⟨[(0,.yl y),Iv 3 i,Cv 8 ps,Iv 9 (len ps),Iv 10 i,Cv 16 es,Iv 17 (len es),Iv 18 j,Bv 19 true,(23,.yl y),Cv 27 (⟨i,IntKind.wrap .i64 (j+1)⟩:aa),Cv 28 x],[Xb 6 x],[],([enc (⟨i,IntKind.wrap .i64 (j+1)⟩:aa),enc x]::ws),more,y⟩) (vs:=[cv (⟨i,IntKind.wrap .i64 (j+1)⟩:aa),cv x]) (by kernel_rfl) rfl (by kernel_rfl) (by kernel_rfl) rfl rfl ?_
 refine Kt (n:=3) (fo':=.rc (.cond (.s 30) .ret .skip)) (fs':=[.blk 3,.seq (.ops uX),.gst (.keep [0,3,8,9,10,16,17,18] [])]) (λb=>⟨[(0,.yl y),Iv 3 i,Cv 8 ps,Iv 9 (len ps),Iv 10 i,Cv 16 es,Iv 17 (len es),Iv 18 j,Bv 19 true,Bv 30 b],[Xb 6 x],[],ws,more,y⟩) hb (by kernel_rfl) ?_
 exact Le.of_eq (by kernel_rfl)
abbrev S1 (ps:Sl bp) (i:Int) (b:Bool) (ws:List (List V)) (more:Bool) (y:Nat):St:=⟨[(0,.yl y),Cv 8 ps,Iv 9 (len ps),Iv 10 i,Bv 11 b],[],[],ws,more,y⟩
theorem Q0 (ps:Sl bp) (i:Int) (ws:List (List V)) (more:Bool) (y:Nat) (hj:decide (i<len ps)=false) :
 rn S.bare lK some (.rc Kj) [] (I1 ps i ws more y)=some (.exit 0,S1 ps i false ws more y):=by
 refine Le.get ?_;refine Kf (n:=7) (fo':=.rc (.cond (.s 11) .skip (.exit 0))) (fs':=[.seq (.seq (.block 1 (.seq (.ops GX) (.seq (.ops Fe) U2))) (.ops CW)),.gst (.keep [0,8,9,10] [])]) (λb=>S1 ps i b ws more y) hj (by kernel_rfl) ?_
 exact Le.of_eq (by kernel_rfl)
def NB:List Fm:=[.blk 2,.blk 1,.seq (.ops CW),.gst (.keep [0,8,9,10] [])]
theorem Ni (ps:Sl bp) (i:Int) (p:bp) (ws:List (List V)) (more:Bool) (y:Nat) (r:Out×St) (hj:decide (i<len ps)=true) (hx:idx ps i=some p)
 (h:rn S.bare lK some (.rc (.loop CL)) NB (I2 ps i p.events 0 ws more y)=some r):rn S.bare lK some (.rc Kj) [] (I1 ps i ws more y)=some r:=by
 refine Le.get ?_;refine Kt (n:=7) (fo':=.rc (.cond (.s 11) .skip (.exit 0))) (fs':=[.seq (.seq (.block 1 (.seq (.ops GX) (.seq (.ops Fe) U2))) (.ops CW)),.gst (.keep [0,8,9,10] [])]) (λb=>S1 ps i b ws more y) hj (by kernel_rfl) ?_
 refine Ma hx ?_;refine Lr 8 false [] (GX.drop 1) [.seq (.seq (.ops Fe) U2),.blk 1,.seq (.ops CW),.gst (.keep [0,8,9,10] [])] ⟨[(0,.yl y),Cv 8 ps,Iv 9 (len ps),Iv 10 i,Bv 11 true,Iv 12 i],[],[],ws,more,y⟩ .i64 rfl (by kernel_rfl) λx h1=>?_
 obtain rfl:x=p:=by rw[hx]at h1;cases h1;rfl
 refine Rn 1 false [] (GX.drop 3) [.seq (.seq (.ops Fe) U2),.blk 1,.seq (.ops CW),.gst (.keep [0,8,9,10] [])] ⟨[(0,.yl y),Cv 8 ps,Iv 9 (len ps),Iv 10 i,Bv 11 true,Iv 12 i,Cv 14 x],[],[],ws,more,y⟩ [.v (.str ByteArray.empty),.v .aL,.v .aL] rfl (by simp only[aI,vT,oI,qb,oP,qA,rH,qu,rZ,oN,qn,vV,rE,rL,rR,rU,tX,tU,qB,rq,SV.bR];rfl) (by kernel_rfl) ?_
 refine Ast 1 false [] (GX.drop 5) [.seq (.seq (.ops Fe) U2),.blk 1,.seq (.ops CW),.gst (.keep [0,8,9,10] [])] ⟨[(0,.yl y),Cv 8 ps,Iv 9 (len ps),Iv 10 i,Bv 11 true,Cv 14 x,Pv 4,Iv 3 i],[Xb 4 (⟨ByteArray.empty,.nil,.nil⟩:bp)],[],ws,more,y⟩ 4 0 x [.v (.str ByteArray.empty),.v .aL,.v .aL] ((cells x).map .v) rfl (by kernel_rfl) ?_
 refine Qf 6 false [] (Fe.drop 2) [.seq U2,.blk 1,.seq (.ops CW),.gst (.keep [0,8,9,10] [])] ⟨[(0,.yl y),Cv 8 ps,Iv 9 (len ps),Iv 10 i,Bv 11 true,Pv 4,Iv 3 i,Cv 16 x.events],[Xb 4 x],[],ws,more,y⟩ x.events rfl (by kernel_rfl) ?_
 refine BL (n:=5) (fo':=.rc (.loop CL)) (fs':=NB) (st':=I2 ps i x.events 0 ws more y) (by kernel_rfl) (Le.of_eq h)
theorem N5 (ps:Sl bp) (i:Int) (es:Sl Event) (j:Int) (ws:List (List V)) (more:Bool) (y:Nat) :
 rn S.bare lK some (.ex 2) NB (S2 ps i es j false ws more y)=some (.norm,I1 ps (IntKind.wrap .i64 (i+1)) ws more y):=by kernel_rfl
theorem wrap_small (n:Nat) (h:n<9223372036854775807):IntKind.wrap .i64 ((n:Int)+1)=((n+1:Nat):Int):=by
 simp[IntKind.wrap,IntKind.bits,IntKind.signed];omega
abbrev eI (x:aa×Event):List V:=[enc x.1,enc x.2]
theorem AU.step {x:List V} {ws rest:List (List V)} {more:Bool} (h:AU ws (x::rest) more):∃ws',ws=x::ws'/\((!(more || !ws'.isEmpty))=false/\AU ws' rest more\/(!(more || !ws'.isEmpty))=true/\ws'=[]):=by
 rcases h with⟨rfl,rfl⟩|⟨rfl,hn,r,hr⟩
 .exact⟨rest,rfl,.inl ⟨rfl,.inl ⟨rfl,rfl⟩⟩⟩
 .cases ws with
  | nil=>exact absurd rfl hn
  | cons w ws=>
   simp only[List.cons_append,List.cons.injEq]at hr;obtain⟨rfl,rfl⟩:=hr;refine⟨ws,rfl,?_⟩
   cases ws with
   | nil=>exact .inr ⟨rfl,rfl⟩
   | cons z zs=>exact .inl ⟨rfl,.inr ⟨rfl,by simp,r,rfl⟩⟩
theorem Ep {α:Type} {s:Sl α} {j:Nat} {x:α} {r:List α} (h:s.l.drop j=x::r):idx s (j:Int)=some x/\decide ((j:Int)<len s)=true/\s.l.drop (j+1)=r:=by
 have h1:j<s.l.length:=by
  apply Classical.byContradiction;intro hn;rw[List.drop_eq_nil_of_le (by omega)]at h;cases h
 have h2:=List.drop_eq_getElem_cons h1;rw[h2]at h;simp only[List.cons.injEq]at h;refine⟨?_,by simp[len,h1],h.2⟩
 unfold idx;rw[if_pos (by omega)]
 simp[ζd h1,h.1]
variable {Q:Out×St->Option (Out×St)} {fs:List Fm}
theorem inner (ps:Sl bp) (i:Int) (es:Sl Event) (hl:es.l.length<9223372036854775807) (more:Bool) (y:Nat) (R:List (List V)):∀(rem:List Event) (j:Nat),es.l.drop j=rem->∀ws,AU ws ((gw i j rem).map eI++R) more ->
 (∃(ws':List (List V)) (j':Int),AU ws' R more/\rn S.bare lK Q (.rc (.loop CL)) fs (I2 ps i es j ws more y)=rn S.bare lK Q (.ex 2) fs (S2 ps i es j' false ws' more y)) \/
 (∃st':St,st'.want=[]/\rn S.bare lK Q (.rc (.loop CL)) fs (I2 ps i es j ws more y)=Q (.ret,st'))
 | [],j,hd,ws,hw=>by
  have h1:decide ((j:Int)<len es)=false:=by
   have:es.l.length<=j:=by simpa using hd
   simp[len];omega
  exact .inl ⟨ws,j,by simpa [gw]using hw,CP (QV ps i es j ws more y h1)⟩
 | e::rem,j,hd,ws,hw=>by
  obtain⟨h1,h2,h3⟩:=Ep hd;have hj:j<es.l.length:=by simpa [len]using h2
  simp only[gw,List.map_cons,List.cons_append]at hw;obtain⟨ws',rfl,hb⟩:=AU.step hw;have hwr:=wrap_small j (by omega)
  have hji:((j:Int)+1)=IntKind.wrap .i64 ((j:Int)+1):=by rw[hwr];simp
  rcases hb with⟨hb,hd'⟩|⟨hb,rfl⟩
  .have k:=RW (S:=S) ps i es j e ws' more y h2 h1 hb;rw[<-hji]at k;have k2:=De (Q:=Q) (fs:=fs) k;have ih:=inner ps i es hl more y R rem (j+1) h3 ws' (by push_cast;exact hd')
   rw[show ((j+1:Nat):Int)=(j:Int)+1 from rfl]at ih;rcases ih with⟨ws2,j2,g1,g2⟩|⟨st',g1,g2⟩
   .exact .inl ⟨ws2,j2,g1,k2.trans g2⟩
   .exact .inr ⟨st',g1,k2.trans g2⟩
  .have k:=OV (S:=S) ps i es j e [] more y h2 h1 hb;rw[<-hji]at k;exact .inr ⟨_,by rfl,C4 k⟩
theorem outer (ps:Sl bp) (hl:ps.l.length<9223372036854775807) (hes:∀p∈ps.l,p.events.l.length<9223372036854775807) (more:Bool) (y:Nat):∀(rem:List bp) (i:Nat),ps.l.drop i=rem->∀ws,AU ws ((dX i rem).map eI) more ->
 rn S.bare lK Qi (.rc (.loop Kj)) [.blk 0] (I1 ps i ws more y)=some ()
 | [],i,hd,ws,hw=>by
  have h1:decide ((i:Int)<len ps)=false:=by
   have:ps.l.length<=i:=by simpa using hd
   simp[len];omega
  rw[CP (Q0 ps i ws more y h1)];have:ws=[]:=by
   rcases hw with⟨_,rfl⟩|⟨_,hn,r,hr⟩
   .rfl
   .have:ws=[]:=by cases ws with
     | nil=>rfl
     | cons=>simp[dX]at hr
    exact absurd this hn
  subst this;rfl
 | p::rem,i,hd,ws,hw=>by
  obtain⟨h1,h2,h3⟩:=Ep hd;have hi:i<ps.l.length:=by simpa [len]using h2
  have hp:p∈ps.l:=List.mem_of_mem_drop (i:=i) (by rw[hd];exact List.mem_cons_self ..)
  simp only[dX,List.map_append]at hw;have hwr:=wrap_small i (by omega)
  rcases inner (S:=S) (Q:=some) (fs:=NB) ps i p.events (hes p hp) more y _ p.events.l 0 rfl ws hw with⟨ws',j',g1,g2⟩|⟨st',g1,g2⟩
  .rw[N5,hwr]at g2;rw[De (Ni ps i p ws more y _ h2 h1 g2)];exact outer ps hl hes more y rem (i+1) h3 ws' g1
  .rw[C4 (Ni ps i p ws more y _ h2 h1 g2)];simp[Qi,g1]
theorem all (t:Trace) (its:List (aa×Event)) (h:gU t=some its) (ws:List (List V)) (more:Bool) (hw:AU ws (its.map eI) more) (y:Nat) :
 rn S.bare lK Qi (.rc text.body) [] ⟨vu 0 (([]:List V).map .v++.yl y::[V.fptr (cells t)].map .v),[],[],ws,more,y⟩=some ():=by
 unfold gU at h;split at h
 .rename_i hk;cases h;simp only[ζh,List.all_eq_true,DP,decide_eq_true_eq]at hk;refine Le.get ?_;refine Qf 4 false [] (Qa.drop 2) [.seq U1] ⟨[(0,.yl y),Cv 8 t.procs],[],[],ws,more,y⟩ t.procs rfl (by kernel_rfl) ?_
  refine BL (n:=5) (fo':=.rc (.loop Kj)) (fs':=[.blk 0]) (st':=I1 t.procs 0 ws more y) (by kernel_rfl) (Le.of_eq ?_)
  exact outer t.procs hk.1 hk.2 more y t.procs.l 0 rfl ws hw
 .cases h
end
theorem GK {α:Type} [aD α] {a b:Sl α} (h:aW a=aW b):rows a.l=rows b.l:=by
 cases a <;> cases b <;> first|rfl|(simp only[aW,Sl.k,mj,V.fsl.injEq,true_and,reduceCtorEq]at h;done)|(simp only[aW,Sl.k,mj,V.fsl.injEq,true_and,reduceCtorEq]at h;exact h)
theorem Ew (p:Int):∀(es es':List Event) (j:Int),rows es=rows es'->(gw p j es).map eI=(gw p j es').map eI
 | [],[],_,_=>rfl
 | [],_::_,_,h=>by simp[rows]at h
 | _::_,[],_,h=>by simp[rows]at h
 | e::es,e'::es',j,h=>by
  simp only[rows,List.map_cons,List.cons.injEq]at h;have h1:enc e=enc e':=by show V.agg (cells e)=V.agg (cells e');rw[h.1]
  simp only[gw,List.map_cons,eI,h1,Ew p es es' (j+1) h.2]
theorem Bn:∀(ps ps':List bp) (i:Int),rows ps=rows ps'->(dX i ps).map eI=(dX i ps').map eI
 | [],[],_,_=>rfl
 | [],_::_,_,h=>by simp[rows]at h
 | _::_,[],_,h=>by simp[rows]at h
 | p::ps,p'::ps',i,h=>by
  simp only[rows,List.map_cons,List.cons.injEq]at h;have h1:aW p.events=aW p'.events:=by
   have:=h.1;change [V.str p.name,aW p.vars,aW p.events]=[V.str p'.name,aW p'.vars,aW p'.events]at this;simp only[List.cons.injEq]at this;exact this.2.2.1
  simp only[dX,List.map_append,Ew i _ _ 0 (GK h1),Bn ps ps' (i+1) h.2]
def DH (f:FuncId) (g:FuncId) (a b:List V) (xs:List (List V)):Prop:=∃(t:Trace) (its:List (aa×Event)),g=f/\a=[]/\b=[.fptr (cells t)]/\gU t=some its/\xs=its.map eI
theorem DH.uniq {f g:FuncId} {a b:List V} {xs ys:List (List V)} (h:DH f g a b xs) (k:DH f g a b ys):xs=ys:=by
 obtain⟨t,its,rfl,rfl,rfl,h1,rfl⟩:=h;obtain⟨t',its',_,_,h2,h3,rfl⟩:=k;simp only[List.cons.injEq,V.fptr.injEq,and_true]at h2;have h4:aW t.procs=aW t'.procs:=by
  change [aW t.procs]=[aW t'.procs]at h2;simpa using h2
 unfold gU at h1 h3;split at h1 <;> split at h3 <;> simp only[ζa,reduceCtorEq]at h1 h3;subst h1 h3;exact Bn _ _ 0 (GK h4)
end trace_events_c1
end Go.VE
namespace Go.VE
open Go.Proofs.YtimppgndlmehbaaGreat
noncomputable section
noncomputable def HS (f:FuncId):Option D5:=bif Nat.beq f 145 then some (vC false)else none
noncomputable def Sy:Sys:=⟨E,λn=>n,vM (trace_events_c1.DH 163),xF E,HS⟩
theorem OU:Sy.prm 145=some (vC false):=by kernel_rfl
theorem Qd:∀f q,HS f=some q->nX E f q:=by
 intro f q h;unfold HS at h
 cases h1:Nat.beq f 145 with
 | true=>
  rw[h1]at h;cases h;have:=Nat.eq_of_beq_eq_true h1;subst this;exact Pd false yZ (by kernel_rfl) (by kernel_rfl) (Al (by kernel_rfl))
 | false=>
  rw[h1]at h;cases h
def Tx:qc:=MC E some (lk Tu)
abbrev cL:br:=dA Sy Tx
theorem QF:∃fi,E.ft 163=some fi/\wL E some fi trace_events_c1.text:=Q6 (by kernel_rfl)
theorem Nk:u9 Sy Tx where
 fn f rf h:=let ⟨fi,h1,h2⟩:=My h;⟨fi,some,h1,yZ,h2⟩
 xy f bs y h:=K2 h
 prm:=Qd
theorem Hp:∀f a b xs,Sy.items f a b=some xs->f_ Sy f a b xs:=by
 intro f a b xs h;obtain⟨t,its,rfl,rfl,rfl,h1,rfl⟩:=HN h;obtain⟨fi,h2,h3⟩:=QF;exact Lz Sy h2 yZ h3 (Nat.le_of_ble_eq_true rfl) rfl λws more hw y=>trace_events_c1.all t its h1 ws more hw y
theorem xk (t:Trace) (its:List (aa×Event)) (h:gU t=some its):Sy.items 163 [] [.fptr (cells t)]=some (its.map λx:aa×Event=>[enc x.1,enc x.2]):=
 Iw ⟨t,its,rfl,rfl,rfl,h,rfl⟩ λys hy=>hy.uniq ⟨t,its,rfl,rfl,rfl,h,rfl⟩
theorem KC:Sy.xy 7 []=some (.bool true):=yf (Gz rfl ⟨1,[],by kernel_rfl⟩)
end
end Go.VE
namespace Go.VE
noncomputable section
def sX (t0:Trace) (x1:aa):Option Event:=
 (idx t0.procs x1.proc).bind λx_1=>
 (idx x_1.events (IntKind.wrap .i64 (x1.index-1))).bind λx_2=>
 some x_2
instance RD (t0:Trace) (x1:aa):Fc Sy cL (sX t0 x1):=Fc.N 148 [enc t0,enc x1] (bL 2 2 t0 (aZ 10 λx_1 _=>aZ 5 λx_2 _=>gD 1 4 0 x_2 af))
namespace cz
def aX (kind1 m2 p7:Int) (tb3:Trace) (vb6:aa) (i8:Int):Option (Fw Int Unit aa):=
 (idx tb3.procs p7).bind λx_1=>
 an (decide (i8<(len x_1.events)))
 ((idx tb3.procs p7).bind λx_2=>
 (idx x_2.events i8).bind λx_3=>
 (an (x_3.kind==kind1)
 (some (x_3.message==m2))
 (some false):Option Bool).bind λx_4=>
 an x_4
 (some (.r (⟨p7,IntKind.wrap .i64 (i8+1)⟩:aa)))
 (some (.n (IntKind.wrap .i64 (i8+1)))))
 (some (.x ()))
def W2 (kind1 m2 p7 i8:Int) (tb3:Trace) (vb6:aa):Option (Fw Int Unit aa):=
 (aQ (λq:Int=>aX kind1 m2 p7 tb3 vb6 q) i8).bind (Fw.elim
 (λe=>some (.n (IntKind.wrap .i64 (p7+1))))
 (λe=>some (.r e)))
def aA (kind1 m2:Int) (tb3:Trace) (vb6:aa) (p7:Int):Option (Fw Int Unit aa):=
 an (decide (p7<(len tb3.procs)))
 (W2 kind1 m2 p7 0 tb3 vb6)
 (some (.x ()))
def W1 (kind1 m2 p7:Int) (tb3:Trace) (vb6:aa):Option aa:=
 (aQ (λq:Int=>aA kind1 m2 tb3 vb6 q) p7).bind (Fw.elim
 (λe=>some ⟨0,0⟩)
 (λe=>some e))
end cz
def cz (t0:Trace) (kind1 m2:Int):Option aa:=
 cz.W1 kind1 m2 0 t0 (⟨0,0⟩:aa)
open cz in
instance PY (t0:Trace) (kind1 m2:Int):Fc Sy cL (cz t0 kind1 m2):=Fc.M 98 [enc t0,.int .i64 kind1,.int .i64 m2] (bL 2 3 t0 (b7 11 (λqW1=>(aI [Iv 1 kind1,Iv 2 m2,Pv 3,Pv 6,Iv 7 qW1] [Xb 3 t0,Xb 6 (⟨0,0⟩:aa)])) (λeW1=>(0,(aI [Pv 6] [Xb 6 (⟨0,0⟩:aa)]))) (λeW1=>(aI [Pv 6] [Xb 6 eW1])) (λqW1=>aT 7 t0.procs (aG 3 14 (b7 12 (λqW2=>(aI [Iv 1 kind1,Iv 2 m2,Pv 3,Pv 6,Iv 7 qW1,Iv 8 qW2] [Xb 3 t0,Xb 6 (⟨0,0⟩:aa)])) (λeW2=>(2,(aI [Iv 1 kind1,Iv 2 m2,Pv 3,Pv 6,Iv 7 qW1] [Xb 3 t0,Xb 6 (⟨0,0⟩:aa)]))) (λeW2=>(aI [Pv 6] [Xb 6 eW2])) (λqW2=>aZ 8 λx_1 _=>aT 2 x_1.events (aG 3 25 (aZ 10 λx_2 _=>aZ 3 λx_3 _=>gD 2 9 0 x_3 (aV 9 5 [9,41] 46 (aG 9 41 (aC 5) (aC 5)) λx_4=>aG 2 46 af af)) af)) (λeW2=>af) (λeW2=>af)) af)) (λeW1=>af) (λeW1=>af)))
namespace cB
def J1 (out5:Sl aa) (tb2:Trace) (xb3:aa):Option (Sl aa):=
 (sX tb2 xb3).bind λx_1=>
 an (x_1.kind==3)
 ((cz tb2 2 x_1.message).bind λx_2=>
 (kf out5 (x_2:aa)).bind λx_3=>
 some x_3)
 (some out5)
end cB
def cB (t0:Trace) (x1:aa):Option (Sl aa):=
 an (decide (x1.index>1))
 (cB.J1 (Sl.row [⟨x1.proc,IntKind.wrap .i64 (x1.index-1)⟩]:Sl aa) t0 x1)
 (cB.J1 (Sl.nil:Sl aa) t0 x1)
open cB in
theorem xA (t0:Trace) (x1:aa):Le ((cB t0 x1).bind λr=>some (bV r)) (bz Sy cL (Cb (tr Tx 149)) (.rc (tb Tx 149),[],start ([enc t0,enc x1].map .v) [])):=
 bL 2 2 t0 (aG 17 9 (Nr 10 17 18 .aL (⟨x1.proc,IntKind.wrap .i64 (x1.index-1)⟩:aa) (yb 5 (aF 4 λx_1 _=>gD 1 6 0 x_1 (aG 10 24 (aF 6 λx_2 _=>vz 1 2005 30 31 λx_3 _=>af) af)))) (yb 5 (aF 4 λx_1 _=>gD 1 6 0 x_1 (aG 10 24 (aF 6 λx_2 _=>vz 1 2005 30 31 λx_3 _=>af) af))))
def mB (dir:aa->Option (Sl aa)):List (List Bool)×List aa->Option (Fw (List (List Bool)×List aa) (List (List Bool)) Empty)
 | (out,[])=>some (.x out)
 | (out,y::rest)=>if 0<=y.proc/\0<=y.index then(out[y.proc.toNat]?).bind λrow=>(row[y.index.toNat]?).bind λb=>
  an b (some (.n (out,rest))) ((dir y).bind λmore=>if rest.length+more.l.length<=2147483648 then some (.n (out.set y.proc.toNat (row.set y.index.toNat true),rest++more.l))else none)else none
def e8 (t:Trace):List (List Bool):=t.procs.l.map λP=>List.replicate (P.events.l.length+1) false
def xK (t:Trace):Bool:=decide (t.procs.l.length<=2147483648)&&t.procs.l.all λP=>decide (P.events.l.length+1<=2147483648)
def nested (out:List (List Bool)):Sl (Sl Bool):=if out=[]then .nil else .row (out.map .row)
def lB (t:Trace) (x:aa):Option (Sl (Sl Bool)):=
 if xK t then(cB t x).bind λs=>(aQ (mB (cB t)) (e8 t,s.l)).bind (Fw.elim (λout=>some (nested out)) (λe=>Empty.elim e))else none
end
end Go.VE
namespace Go.VE
namespace pastX
abbrev u7:Nat->FuncId:=λn=>n
def r1:List RO:=[o2 2 (.a .box) [0] [],o2 3 (.a .box) [1] [],o1 4 (.k (.aL)) []]
def r2:List RO:=[o1 5 (.k (.aL)) []]
def r3:List RO:=[o1 6 (.k (.int .i64 0)) []]
def r4:List RO:=[o1 11 6 [],o2 12 (fa 0) [2] [],o2 13 (ld 1) [12] [],o2 14 ln [13] [],o2 15 (bI .lss) [11,14] []]
def r5:List RO:=[o1 18 5 [],o2 19 (fa 0) [2] [],o2 20 (ld 1) [19] [],o1 21 6 [],o2 22 (ix 3) [20,21] [],o2 23 (fa 2) [22] [],o2 24 (ld 1) [23] [],o2 25 ln [24] [],o2 26 (bI .add) [25,.k (.int .i64 1)] [],o2 27 (.a (.makeSl 1 [.bool false])) [26,26] [],o2 28 (.a (.buildSl 1 1 [.aL] [0])) [27] [],o2 29 (.l (.append 1)) [18,28] [],o1 5 29 []]
def r6:List RO:=[o1 16 6 [],o2 17 (bI .add) [16,.k (.int .i64 1)] [],o1 6 17 []]
def L1:RC:=.seq (.seq (.ops r4) (.cond (.s 15) (.skip) (.exit 0))) (.seq (.block 1 (.ops r5)) (.ops r6))
def r7:List RO:=[o2 30 (lD 1) [2] [],o2 31 (lD 2) [3] [],o2 32 .c [.f 149,30,31] [],o1 7 32 []]
def r8:List RO:=[o1 33 7 [],o2 34 ln [33] [],o2 35 (bI .gtr) [34,.k (.int .i64 0)] []]
def r9:List RO:=[o1 36 7 [],o2 37 (ix 2) [36,.k (.int .i64 0)] [],o2 38 (lD 2) [37] [],o2 8 (.a (.alloc 2 [.int .i64 0,.int .i64 0])) [] [],oz (su 2) [8,38] []]
def BG:List RO:=[o1 39 7 [],o2 40 (.p (.slice 2 true false)) [39,.k (.int .i64 1)] [],o1 7 40 []]
def CK:List RO:=[o1 41 5 [],o2 42 (fa 0) [8] [],o2 43 (ld 1) [42] [],o2 44 (ix 1) [41,43] [],o2 45 (ld 1) [44] [],o2 46 (fa 1) [8] [],o2 47 (ld 1) [46] [],on 48 (ix 1) [45,47] [],on 49 (ld 1) [48] []]
def CM:List RO:=[o1 50 5 [],o2 51 (fa 0) [8] [],o2 52 (ld 1) [51] [],o2 53 (ix 1) [50,52] [],o2 54 (ld 1) [53] [],o2 55 (fa 1) [8] [],o2 56 (ld 1) [55] [],on 57 (ix 1) [54,56] [],oy (su 1) [57,.k (.bool true)] []]
def Da:List RO:=[o2 58 (lD 1) [2] [],o2 59 (lD 2) [8] [],o2 60 .c [.f 149,58,59] [],o1 9 60 []]
def Br:List RO:=[o1 10 (.k (.int .i64 0)) []]
def C1:List RO:=[o1 61 10 [],o1 62 9 [],o2 63 ln [62] [],o2 64 (bI .lss) [61,63] []]
def Cx:List RO:=[o1 67 7 [],o1 68 9 [],o1 69 10 [],o2 70 (ix 2) [68,69] [],o2 71 (lD 2) [70] [],o2 72 (.a (.buildSl 2 1 [.int .i64 0,.int .i64 0] [0])) [71] [],o2 73 (.l (.append 2)) [67,72] [],o1 7 73 []]
def KY:List RO:=[o1 65 10 [],o2 66 (bI .add) [65,.k (.int .i64 1)] [],o1 10 66 []]
def L3:RC:=.seq (.seq (.ops C1) (.cond (.s 64) (.skip) (.exit 4))) (.seq (.block 5 (.ops Cx)) (.ops KY))
def L2:RC:=.seq (.seq (.ops r8) (.cond (.s 35) (.skip) (.exit 2))) (.block 3 (.seq (.ops r9) (.seq (.ops BG) (.seq (.seq (.nK CK) (.cond (.s 49) (.exit 3) (.skip))) (.seq (.nK CM) (.seq (.ops Da) (.seq (.ops Br) (.block 4 (.loop L3)))))))))
def S6:List RO:=[o1 74 5 [],o1 4 74 []]
def code:RC:=.seq (.ops r1) (.seq (.ops r2) (.seq (.seq (.ops r3) (.block 0 (.loop L1))) (.seq (.ops r7) (.seq (.block 2 (.loop L2)) (.seq (.ops S6) (.ret))))))
noncomputable abbrev uf:=Go.Proofs.YtimppgndlmehbaaGreat.E
def iQ (out:List (List Bool)):List (List V):=out.map λr=>r.map V.bool
theorem shape:∃fi,uf.ft (u7 122)=some fi/\aM ⟨uf,some,fi.ntmps⟩ false fi.body=some code/\2<=fi.ntmps/\fi.results=[.tmp 4]:=by
 have h:((uf.ft (u7 122)).map λfi=>(aM ⟨uf,some,fi.ntmps⟩ false fi.body,Nat.ble 2 fi.ntmps,fi.results))=some (some code,true,[.tmp 4]):=by kernel_rfl
 obtain⟨fi,h1,h2⟩:=ζf.1 h;simp only[ζc]at h2;exact⟨fi,h1,h2.1,Nat.le_of_ble_eq_true h2.2.1,h2.2.2⟩
section
variable {E:Env} {N:Nat->FuncId} {t:Trace} {x:aa} {k:Nat} {F:Frame} {H H1:ak} {call:cq} {b:Option Nat}
theorem iH {o:RO} {l:List RO} {v:V} {r:Frame×ak} (hg:o.gd=none) (hv:aH E N call b o.now o.k (o.az.map (ay N F)) H=some (v,H1)) (h:bC E N call b l (au F o.dst v) H1=some r):bC E N call b (o::l) F H=some r:=by
 simp only[bC,hg,hv];exact h
theorem vp {o:RO} {l:List RO} {v:V} {r:Frame×ak} (hg:o.gd=none) (hv:aH E N call b o.now o.k (o.az.map (ay N F)) H=some (v,H)) (h:bC E N call b l (au F o.dst v) H=some r):bC E N call b (o::l) F H=some r:=iH hg hv h
theorem cO:bC E N call b [] F H=some (F,H):=rfl
theorem ld1 (h:H[0]? = some (.row 1 [cells t])):dD H (.load 1 false) [.hptr 0 0 0]=some (aW t.procs):=by
 simp[dD,cV,h,Ob.rows];rfl
theorem Tz {s:Sl bp} {p:bp} {i:Nat} (h:s.l[i]? = some p):j7 3 (aW s) (i:Int)=some (.fptr (cells p)):=by
 have:=Cq (N:=λn=>n) s .i64 (i:Int) 3 rfl
 simp only[aj]at this;rw[this,show idx s (i:Int)=some p from by unfold idx;rw[if_pos (by omega)];exact h];rfl
theorem x4 (f2:get F 2=.hptr 0 0 0) (f6:get F 6=.int .i64 k) (h0:H[0]? = some (.row 1 [cells t])) :
 ∃F',bC E N call none r4 F H=some (F',H)/\get F' 15=.bool (decide (k<t.procs.l.length))/\(∀s,s<11->get F' s=get F s):=by
 refine⟨_,vp (v:=.int .i64 k) rfl ?_ <| vp (v:=.hptr 0 0 0) rfl ?_ <| vp (v:=aW t.procs) rfl ?_ <| vp (v:=.int .i64 t.procs.l.length) rfl ?_ <| vp (v:=.bool (decide (k<t.procs.l.length))) rfl ?_ cO,?_,?_⟩
 .simp[aH,ay,aj,f6]
 .simp[aH,ay,aj,au,f2,fK]
 .simp only[aH,List.map_cons,List.map_nil,ay,au,ax,Nat.reduceEqDiff,if_true,if_false];rw[ld1 h0];rfl
 .simp only[aH,List.map_cons,List.map_nil,ay,au,ax,Nat.reduceEqDiff,if_true,if_false];rw[wB];rfl
 .simp[aH,ay,aj,au,fM,mK]
 .simp[au]
 .intro s hs;simp only[au,ax]
  repeat (rw[if_neg (by omega)])
theorem vX {n:Nat} (h:n<=2147483648):IntKind.wrap .i64 ((n:Int)+1)=((n+1:Nat):Int):=by
 simp[IntKind.wrap,IntKind.bits,IntKind.signed];omega
theorem x5 {P:bp} {o:Nat} {ids:List Nat} {rows:List (List V)} (f2:get F 2=.hptr 0 0 0) (f6:get F 6=.int .i64 k) (h0:H[0]? = some (.row 1 [cells t])) (hP:t.procs.l[k]? = some P) (hl:P.events.l.length+1<=2147483648)
 (hn:kE H (get F 5) o ids rows) (hr:rows.length+1<=2147483648) :
 ∃F' H',bC E N call none r5 F H=some (F',H')/\kE H' (get F' 5) (H.length+2) (ids++[H.length]) (rows++[List.replicate (P.events.l.length+1) (.bool false)])/\H.length<=H'.length/\(∀id,id<H.length->id≠o\/rows=[]->H'[id]? = H[id]?)/\(∀s,s<11->s≠5->get F' s=get F s):=by
 obtain⟨H',p1,p2,p3,p4⟩:=hn.push (List.replicate (P.events.l.length+1) (.bool false)) hr;have hrep:gV (List.replicate (P.events.l.length+1) (V.bool false))=List.replicate (P.events.l.length+1) [.bool false]:=by simp[gV]
 rw[hrep,List.length_replicate]at p1;have hb:=vX (n:=P.events.l.length) (by omega)
 refine⟨_,H',vp (v:=get F 5) rfl ?_ <| vp (v:=.hptr 0 0 0) rfl ?_ <| vp (v:=aW t.procs) rfl ?_ <| vp (v:=.int .i64 k) rfl ?_ <| vp (v:=.fptr (cells P)) rfl ?_ <| vp (v:=.fptr [aW P.events]) rfl ?_ <| vp (v:=aW P.events) rfl ?_ <|
  vp (v:=.int .i64 P.events.l.length) rfl ?_ <| vp (v:=.int .i64 ((P.events.l.length+1:Nat):Int)) rfl ?_ <| iH (v:=.hsl H.length 1 0 (P.events.l.length+1)) (H1:=H++[.row 1 (List.replicate (P.events.l.length+1) [.bool false])]) rfl ?_ <|
  iH (v:=.hsl (H.length+1) 1 0 1) (H1:=H++[.row 1 (List.replicate (P.events.l.length+1) [.bool false])]++[.row 1 [[.hsl H.length 1 0 (P.events.l.length+1)]]]) rfl ?_ <|
  iH (v:=.hsl (H.length+2) 1 0 (rows.length+1)) (H1:=H') rfl ?_ <| vp (v:=.hsl (H.length+2) 1 0 (rows.length+1)) rfl ?_ cO,?_,p3,p4,?_⟩
 .simp[aH,ay,aj]
 .simp[aH,ay,aj,au,f2,fK]
 .simp only[aH,List.map_cons,List.map_nil,ay,au,ax,Nat.reduceEqDiff,if_true,if_false];rw[ld1 h0];rfl
 .simp[aH,ay,aj,au,f6]
 .simp only[aH,List.map_cons,List.map_nil,ay,au,ax,Nat.reduceEqDiff,if_true,if_false,aj];rw[Tz hP];rfl
 .simp only[aH,List.map_cons,List.map_nil,ay,au,ax,Nat.reduceEqDiff,if_true,if_false,aj];rfl
 .simp only[aH,List.map_cons,List.map_nil,ay,au,ax,Nat.reduceEqDiff,if_true,if_false];rfl
 .simp only[aH,List.map_cons,List.map_nil,ay,au,ax,Nat.reduceEqDiff,if_true,if_false];rw[wB];rfl
 .simp only[aH,List.map_cons,List.map_nil,ay,au,ax,Nat.reduceEqDiff,if_true,if_false,aj,fM];rw[hb];rfl
 .simp only[aH,List.map_cons,List.map_nil,ay,au,ax,Nat.reduceEqDiff,if_true,if_false,iF];rw[if_pos ⟨trivial,trivial,by omega,by omega,by omega⟩]
  simp only[Option.map_some,Mk.val,Int.toNat_natCast]
 .simp only[aH,List.map_cons,List.map_nil,ay,au,ax,Nat.reduceEqDiff,if_true,if_false,iF];simp[fC,V.cells,V.one,Mk.val]
 .simp only[aH,List.map_cons,List.map_nil,ay,au,ax,Nat.reduceEqDiff,if_true,if_false];exact p1
 .simp[aH,ay,aj,au]
 .simp only[au,ax,if_true];exact p2
 .intro s hs h5;simp only[au,ax];rw[if_neg (Ne.symm h5)]
  repeat (rw[if_neg (by omega)])
theorem x6 (f6:get F 6=.int .i64 k) (hk:k<=2147483648):∃F',bC E N call none r6 F H=some (F',H)/\get F' 6=.int .i64 ((k+1:Nat):Int)/\(∀s,s<11->s≠6->get F' s=get F s):=by
 have hb:=vX hk;refine⟨_,vp (v:=.int .i64 k) rfl ?_ <| vp (v:=.int .i64 ((k+1:Nat):Int)) rfl ?_ <| vp (v:=.int .i64 ((k+1:Nat):Int)) rfl ?_ cO,?_,?_⟩
 .simp[aH,ay,aj,f6]
 .simp only[aH,List.map_cons,List.map_nil,ay,au,ax,Nat.reduceEqDiff,if_true,if_false,aj,fM];rw[hb];rfl
 .simp[aH,ay,aj,au]
 .simp[au]
 .intro s hs h6;simp only[au,ax];rw[if_neg (Ne.symm h6)]
  repeat (rw[if_neg (by omega)])
end
structure P1 (t:Trace) (x:aa) (k:Nat) (F:Frame) (H:ak):Prop where
 f2:get F 2=.hptr 0 0 0
 f3:get F 3=.hptr 1 0 0
 f6:get F 6=.int .i64 k
 h0:H[0]? = some (.row 1 [cells t])
 h1:H[1]? = some (.row 2 [cells x])
 ns:∃o ids,kE H (get F 5) o ids (iQ ((e8 t).take k))/\(k≠0->2<=o)/\∀id∈ids,2<=id
theorem uc (out:List (List Bool)):(iQ out).length=out.length:=by simp[iQ]
theorem IS {E:Env} {N:Nat->FuncId} {t:Trace} {x:aa} (hok:xK t=true):∀(m k:Nat) (F:Frame) (H:ak),k+m=t.procs.l.length->P1 t x k F H->∃F' H',kn E N L1 F H (.exit 0) F' H'/\P1 t x t.procs.l.length F' H':=by
 have hok':t.procs.l.length<=2147483648/\∀P∈t.procs.l,P.events.l.length+1<=2147483648:=by
  simpa [xK]using hok
 intro m
 induction m with
 | zero=>
  intro k F H hk p;have hk':k=t.procs.l.length:=by omega
  obtain⟨F1,e1,e2,e3⟩:=x4 (E:=E) (N:=N) (call:=λ_ _ _=>none) p.f2 p.f6 p.h0
  refine⟨F1,H,kn.stop (Ex.tu (Ex.seq (Ex.bS λc=>?_) (Ex.nM ?_ Ex.exit)) (by simp)) (by simp),?_⟩
  .obtain⟨F2,g1,_,_⟩:=x4 (E:=E) (N:=N) (call:=c) p.f2 p.f6 p.h0;have:bC E N c none r4 F H=bC E N (λ_ _ _=>none) none r4 F H:=rfl
   rw[this];exact e1
  .show get F1 15=_;rw[e2];simp[hk']
  .subst hk';exact⟨by rw[e3 2 (by omega)];exact p.f2,by rw[e3 3 (by omega)];exact p.f3,by rw[e3 6 (by omega)];exact p.f6,p.h0,p.h1,by rw[e3 5 (by omega)];exact p.ns⟩
 | succ m ih=>
  intro k F H hk p;have hkl:k<t.procs.l.length:=by omega
  obtain⟨o,ids,n1,n2,n3⟩:=p.ns;obtain⟨F1,e1,e2,e3⟩:=x4 (E:=E) (N:=N) (call:=λ_ _ _=>none) p.f2 p.f6 p.h0
  have hP:=ζd hkl;have hlen:((e8 t).take k).length=k:=by simp[e8];omega
  have n1':kE H (get F1 5) o ids (iQ ((e8 t).take k)):=by rw[e3 5 (by omega)];exact n1
  obtain⟨F2,H2,g1,g2,g3,g4,g5⟩:=x5 (E:=E) (N:=N) (call:=λ_ _ _=>none) (by rw[e3 2 (by omega)];exact p.f2) (by rw[e3 6 (by omega)];exact p.f6) p.h0 hP (hok'.2 _ (List.getElem_mem hkl)) n1' (by rw[uc,hlen];omega)
  obtain⟨F3,q1,q2,q3⟩:=x6 (E:=E) (N:=N) (call:=λ_ _ _=>none) (H:=H2) (k:=k) (F:=F2) (by rw[g5 6 (by omega) (by omega),e3 6 (by omega)];exact p.f6) (by omega)
  have hl:=n1.lt;have h0l:=(ζe.1 p.h0).1;have h1l:=(ζe.1 p.h1).1;have hkeep:∀i,i<2->i<H.length->H2[i]? = H[i]? := λi hi hl=>g4 i hl (by
   by_cases hk0:k=0
   .subst hk0;right;simp[iQ]
   .left;have:=n2 hk0;omega)
  have hp3:P1 t x (k+1) F3 H2:=by
   refine⟨by rw[q3 2 (by omega) (by omega),g5 2 (by omega) (by omega),e3 2 (by omega)];exact p.f2,by rw[q3 3 (by omega) (by omega),g5 3 (by omega) (by omega),e3 3 (by omega)];exact p.f3,q2,
    by rw[hkeep 0 (by omega) h0l];exact p.h0,by rw[hkeep 1 (by omega) h1l];exact p.h1,H.length+2,ids++[H.length],?_,λ_=>by omega,λid hid=>?_⟩
   .rw[q3 5 (by omega) (by omega)]
    have hrows:iQ ((e8 t).take (k+1))=iQ ((e8 t).take k)++[List.replicate (t.procs.l[k].events.l.length+1) (.bool false)]:=by
     rw[List.take_add_one];have:(e8 t)[k]? = some (List.replicate (t.procs.l[k].events.l.length+1) false):=by simp[e8,hP]
     rw[this];simp[iQ]
    rw[hrows];exact g2
   .rcases List.mem_append.1 hid with h|h
    .exact n3 id h
    .simp at h;omega
  obtain⟨F',H',r1,r2⟩:=ih (k+1) F3 H2 (by omega) hp3
  refine⟨F',H',kn.step (Ex.seq (Ex.seq (Ex.bS λc=>e1) (Ex.lM ?_ Ex.skip)) (Ex.seq (Ex.block (Ex.bS λc=>g1)) (Ex.bS λc=>q1))) r1,r2⟩
  show get F1 15=_;rw[e2];simp[hkl]
section
variable {E:Env} {N:Nat->FuncId} {t:Trace} {x y:aa} {F:Frame} {H:ak} {call:cq}
theorem x8 {l:List (List V)} {id:Nat} (h:ja H (get F 7) l id):∃F',bC E N call none r8 F H=some (F',H)/\get F' 35=.bool (decide (0<l.length))/\(∀s,s<11->get F' s=get F s):=by
 refine⟨_,vp (v:=get F 7) rfl ?_ <| vp (v:=.int .i64 l.length) rfl ?_ <| vp (v:=.bool (decide (0<l.length))) rfl ?_ cO,?_,?_⟩
 .simp[aH,ay,aj]
 .simp only[aH,List.map_cons,List.map_nil,ay,au,ax,Nat.reduceEqDiff,if_true,if_false,aj,h.len,Option.map_some]
 .simp[aH,ay,aj,au,fM,mK]
 .simp[au]
 .intro s hs;simp only[au,ax]
  repeat (rw[if_neg (by omega)])
theorem x9 {l:List (List V)} {id:Nat} (h:ja H (get F 7) (cells y::l) id):∃F',bC E N call none r9 F H=some (F',H++[.row 2 [cells y]])/\get F' 8=.hptr H.length 0 0/\(∀s,s<11->s≠8->get F' s=get F s):=by
 obtain⟨p,p1,p2⟩:=h.get (i:=0) (c:=cells y) rfl;refine⟨_,vp (v:=get F 7) rfl ?_ <| vp (v:=p) rfl ?_ <| vp (v:=.agg (cells y)) rfl ?_ <| iH (v:=.hptr H.length 0 0) (H1:=H++[.row 2 [[.int .i64 0,.int .i64 0]]]) rfl ?_ <| iH (v:=.undef) (H1:=H++[.row 2 [cells y]]) rfl ?_ cO,?_,?_⟩
 .simp[aH,ay,aj]
 .simp only[aH,List.map_cons,List.map_nil,ay,au,ax,Nat.reduceEqDiff,if_true,if_false,aj];rw[show (0:Int)=((0:Nat):Int)from rfl,p1];rfl
 .simp only[aH,List.map_cons,List.map_nil,ay,au,ax,Nat.reduceEqDiff,if_true,if_false];rw[p2];rfl
 .simp only[aH,List.map_cons,List.map_nil,ay,au,ax,Nat.reduceEqDiff,if_true,if_false,iF,Option.map_some,Mk.val]
 .simp only[aH,List.map_cons,List.map_nil,ay,au,ax,Nat.reduceEqDiff,if_true,if_false];simp[dJ,V.cells,V.one]
 .simp[au]
 .intro s hs h8;simp only[au,ax];rw[if_neg (Ne.symm h8)]
  repeat (rw[if_neg (by omega)])
theorem TX {c:List V} {l:List (List V)} {id:Nat} (h:ja H (get F 7) (c::l) id):∃F',bC E N call none BG F H=some (F',H)/\ja H (get F' 7) l id/\(∃off m off',get F 7=.hsl id 2 off m/\get F' 7=.hsl id 2 off' l.length)/\(∀s,s<11->s≠7->get F' s=get F s):=by
 obtain⟨w',p1,p2,off,m,off',p3,p4⟩:=h.tail;refine⟨_,vp (v:=get F 7) rfl ?_ <| vp (v:=w') rfl ?_ <| vp (v:=w') rfl ?_ cO,?_,⟨off,m,off',p3,?_⟩,?_⟩
 .simp[aH,ay,aj]
 .simp only[aH,List.map_cons,List.map_nil,ay,au,ax,Nat.reduceEqDiff,if_true,if_false,aj,jX,ζb,p1,Option.map_some]
 .simp[aH,ay,aj,au]
 .simp only[au,ax,if_true];exact p2
 .simp only[au,ax,if_true];exact p4
 .intro s hs h8;simp only[au,ax];rw[if_neg (Ne.symm h8)]
  repeat (rw[if_neg (by omega)])
theorem iW (H:ak):H.take H.length=H:=List.take_length ..
theorem Qr {c:Nat} (hc:H[c]? = some (.row 2 [cells y])):dD H (.load 1 false) [.hptr c 0 0]=some (.int .i64 y.proc)/\dD H (.load 1 false) [.hptr c 0 1]=some (.int .i64 y.index)/\dD H (.load 2 true) [.hptr c 0 0]=some (enc y):=by
 refine⟨?_,?_,?_⟩ <;> simp[dD,cV,hc,Ob.rows,cut] <;> rfl
theorem Q2 {c o:Nat} {ids:List Nat} {rows:List (List V)} {p j:Nat} {r:List V} {u:V} (f8:get F 8=.hptr c 0 0) (hc:H[c]? = some (.row 2 [cells y])) (hn:kE H (get F 5) o ids rows) (hp:y.proc=p) (hj:y.index=j) (hr:rows[p]? = some r) (hu:r[j]? = some u) :
 ∃F',bC E N call (some H.length) CK F H=some (F',H)/\get F' 49=u/\(∀s,s<11->get F' s=get F s):=by
 obtain⟨id,q0,q1,q2,q3,q4⟩:=hn.cell hr hu;obtain⟨c1,c2,_⟩:=Qr hc;rw[hp]at c1;rw[hj]at c2;refine⟨_,vp (v:=get F 5) rfl ?_ <| vp (v:=.hptr c 0 0) rfl ?_ <| vp (v:=.int .i64 p) rfl ?_ <| vp (v:=.hptr o p 0) rfl ?_ <| vp (v:=.hsl id 1 0 r.length) rfl ?_ <| vp (v:=.hptr c 0 1) rfl ?_ <| vp (v:=.int .i64 j) rfl ?_ <| vp (v:=.hptr id j 0) rfl ?_ <| vp (v:=u) rfl ?_ cO,?_,?_⟩
 .simp[aH,ay,aj]
 .simp[aH,ay,aj,au,f8,fK]
 .simp only[aH,List.map_cons,List.map_nil,ay,au,ax,Nat.reduceEqDiff,if_true,if_false,iW];rw[c1];rfl
 .simp only[aH,List.map_cons,List.map_nil,ay,au,ax,Nat.reduceEqDiff,if_true,if_false,aj];rw[q1];rfl
 .simp only[aH,List.map_cons,List.map_nil,ay,au,ax,Nat.reduceEqDiff,if_true,if_false,iW];rw[q2];rfl
 .simp[aH,ay,aj,au,f8,fK]
 .simp only[aH,List.map_cons,List.map_nil,ay,au,ax,Nat.reduceEqDiff,if_true,if_false,iW];rw[c2];rfl
 .simp only[aH,List.map_cons,List.map_nil,ay,au,ax,Nat.reduceEqDiff,if_true,if_false,aj];rw[q3];rfl
 .simp only[aH,List.map_cons,List.map_nil,ay,au,ax,Nat.reduceEqDiff,if_true,if_false,iW];rw[q4];rfl
 .simp[au]
 .intro s hs;simp only[au,ax]
  repeat (rw[if_neg (by omega)])
theorem TV {c o:Nat} {ids:List Nat} {rows:List (List V)} {p j:Nat} {r:List V} {u:V} (f8:get F 8=.hptr c 0 0) (hc:H[c]? = some (.row 2 [cells y])) (hn:kE H (get F 5) o ids rows) (hp:y.proc=p) (hj:y.index=j) (hr:rows[p]? = some r) (hu:r[j]? = some u) :
 ∃F' H',bC E N call (some H.length) CM F H=some (F',H')/\kE H' (get F' 5) o ids (rows.set p (r.set j (.bool true)))/\H'.length=H.length/\(∀i,i∉ids->H'[i]? = H[i]?)/\(∀s,s<11->get F' s=get F s):=by
 obtain⟨id,q0,q1,q2,q3,q4⟩:=hn.cell hr hu;obtain⟨c1,c2,_⟩:=Qr hc;rw[hp]at c1;rw[hj]at c2;obtain⟨H',s1,s2,s3,s4⟩:=hn.set hr (ζe.1 hu).1 q0 (u:=.bool true) rfl rfl;refine⟨_,H',vp (v:=get F 5) rfl ?_ <| vp (v:=.hptr c 0 0) rfl ?_ <| vp (v:=.int .i64 p) rfl ?_ <| vp (v:=.hptr o p 0) rfl ?_ <| vp (v:=.hsl id 1 0 r.length) rfl ?_ <| vp (v:=.hptr c 0 1) rfl ?_ <| vp (v:=.int .i64 j) rfl ?_ <| vp (v:=.hptr id j 0) rfl ?_ <| iH (v:=.undef) (H1:=H') rfl ?_ cO,?_,s3,λi hi=>s4 i λe=>hi (e▸List.mem_of_getElem? q0),?_⟩
 .simp[aH,ay,aj]
 .simp[aH,ay,aj,au,f8,fK]
 .simp only[aH,List.map_cons,List.map_nil,ay,au,ax,Nat.reduceEqDiff,if_true,if_false,iW];rw[c1];rfl
 .simp only[aH,List.map_cons,List.map_nil,ay,au,ax,Nat.reduceEqDiff,if_true,if_false,aj];rw[q1];rfl
 .simp only[aH,List.map_cons,List.map_nil,ay,au,ax,Nat.reduceEqDiff,if_true,if_false,iW];rw[q2];rfl
 .simp[aH,ay,aj,au,f8,fK]
 .simp only[aH,List.map_cons,List.map_nil,ay,au,ax,Nat.reduceEqDiff,if_true,if_false,iW];rw[c2];rfl
 .simp only[aH,List.map_cons,List.map_nil,ay,au,ax,Nat.reduceEqDiff,if_true,if_false,aj];rw[q3];rfl
 .simp only[aH,List.map_cons,List.map_nil,ay,au,ax,Nat.reduceEqDiff,if_true,if_false,s1]
 .simp only[au,ax,Nat.reduceEqDiff,if_false];exact s2
 .intro s hs;simp only[au,ax]
  repeat (rw[if_neg (by omega)])
def DG (E:Env) (N:Nat->FuncId) (t:Trace) (dir:aa->Option (Sl aa)):Prop:=∀(y:aa) (s:Sl aa) (H:ak),dir y=some s ->
 ∃w X id,(∃n,∀k,n<=k->dN E (run E k) (N 149) [enc t,enc y] H=some (w,H++X))/\ja (H++X) w (s.l.map cells) id/\(∀off m,w=.hsl id 2 off m->id=H.length)
theorem SP {a d:Nat} (hd:E.keep (N 149)=true) {dir:aa->Option (Sl aa)} (hD:DG E N t dir) {s:Sl aa} (hs:dir y=some s) (f2:get F 2=.hptr 0 0 0) (h0:H[0]? = some (.row 1 [cells t])) {c:Nat} (hc:H[c]? = some (.row 2 [cells y])) :
 ∃w X id,ja (H++X) w (s.l.map cells) id/\(∀off m,w=.hsl id 2 off m->id=H.length) /\
  (get F 8=.hptr c 0 0->∃F',(∃n,∀k,n<=k->bC E N (run E k) none Da F H=some (F',H++X))/\get F' 9=w/\(∀s,s<11->s≠9->get F' s=get F s)) /\
  (get F 3=.hptr c 0 0->∃F',(∃n,∀k,n<=k->bC E N (run E k) none r7 F H=some (F',H++X))/\get F' 7=w/\(∀s,s<11->s≠7->get F' s=get F s)):=by
 obtain⟨w,X,id,⟨n,e1⟩,e2,e3⟩:=hD y s H hs;have ht:dD H (.load 1 true) [.hptr 0 0 0]=some (enc t):=by
  simp[dD,cV,h0,Ob.rows,cut];rfl
 obtain⟨_,_,hy⟩:=Qr hc;refine⟨w,X,id,e2,e3,λf8=>⟨_,⟨n,λk hk=>vp (v:=enc t) rfl ?_ <| vp (v:=enc y) rfl ?_ <| iH (v:=w) (H1:=H++X) rfl ?_ <| vp (v:=w) rfl ?_ cO⟩,?_,?_⟩,λf3=>⟨_,⟨n,λk hk=>vp (v:=enc t) rfl ?_ <| vp (v:=enc y) rfl ?_ <| iH (v:=w) (H1:=H++X) rfl ?_ <| vp (v:=w) rfl ?_ cO⟩,?_,?_⟩⟩
 .simp only[aH,List.map_cons,List.map_nil,ay,f2];rw[ht];rfl
 .simp only[aH,List.map_cons,List.map_nil,ay,au,ax,Nat.reduceEqDiff,if_true,if_false,f8];rw[hy];rfl
 .simp only[aH,List.map_cons,List.map_nil,ay,au,ax,Nat.reduceEqDiff,if_true,if_false,hd,List.nil_append,List.append_nil];exact e1 k hk
 .simp[aH,ay,aj,au]
 .simp[au]
 .intro s hs h9;simp only[au,ax];rw[if_neg (Ne.symm h9)]
  repeat (rw[if_neg (by omega)])
 .simp only[aH,List.map_cons,List.map_nil,ay,f2];rw[ht];rfl
 .simp only[aH,List.map_cons,List.map_nil,ay,au,ax,Nat.reduceEqDiff,if_true,if_false,f3];rw[hy];rfl
 .simp only[aH,List.map_cons,List.map_nil,ay,au,ax,Nat.reduceEqDiff,if_true,if_false,hd,List.nil_append,List.append_nil];exact e1 k hk
 .simp[aH,ay,aj,au]
 .simp[au]
 .intro s hs h9;simp only[au,ax];rw[if_neg (Ne.symm h9)]
  repeat (rw[if_neg (by omega)])
end
section
variable {E:Env} {N:Nat->FuncId} {F:Frame} {H:ak} {call:cq} {i:Nat}
theorem Np {l:List (List V)} {id:Nat} (f10:get F 10=.int .i64 i) (h:ja H (get F 9) l id):∃F',bC E N call none C1 F H=some (F',H)/\get F' 64=.bool (decide (i<l.length))/\(∀s,s<11->get F' s=get F s):=by
 refine⟨_,vp (v:=.int .i64 i) rfl ?_ <| vp (v:=get F 9) rfl ?_ <| vp (v:=.int .i64 l.length) rfl ?_ <| vp (v:=.bool (decide (i<l.length))) rfl ?_ cO,?_,?_⟩
 .simp[aH,ay,aj,f10]
 .simp[aH,ay,aj,au]
 .simp only[aH,List.map_cons,List.map_nil,ay,au,ax,Nat.reduceEqDiff,if_true,if_false,aj,h.len,Option.map_some]
 .simp[aH,ay,aj,au,fM,mK]
 .simp[au]
 .intro s hs;simp only[au,ax]
  repeat (rw[if_neg (by omega)])
theorem TN {l l9:List (List V)} {id id9:Nat} {c:List V} (f10:get F 10=.int .i64 i) (h:ja H (get F 7) l id) (h9:ja H (get F 9) l9 id9) (hc:l9[i]? = some c) (hl:l.length+1<=2147483648) :
 ∃F' H',bC E N call none Cx F H=some (F',H')/\ja H' (get F' 7) (l++[c]) (H.length+1)/\H'.length=H.length+2/\(∀i,i<H.length->(∀off m,get F 7=.hsl id 2 off m->i≠id)->H'[i]? = H[i]?)/\(∀s,s<11->s≠7->get F' s=get F s):=by
 have hcc:=h9.c c (List.mem_of_getElem? hc);obtain⟨p,p1,p2⟩:=h9.get hc;obtain⟨H',q1,q2,q3,q4⟩:=h.push hcc hl;refine⟨_,H',vp (v:=get F 7) rfl ?_ <| vp (v:=get F 9) rfl ?_ <| vp (v:=.int .i64 i) rfl ?_ <| vp (v:=p) rfl ?_ <| vp (v:=.agg c) rfl ?_ <| iH (v:=.hsl H.length 2 0 1) (H1:=H++[.row 2 [c]]) rfl ?_ <| iH (v:=.hsl (H.length+1) 2 0 (l.length+1)) (H1:=H') rfl ?_ <| vp (v:=.hsl (H.length+1) 2 0 (l.length+1)) rfl ?_ cO,?_,q3,q4,?_⟩
 .simp[aH,ay,aj]
 .simp[aH,ay,aj,au]
 .simp[aH,ay,aj,au,f10]
 .simp only[aH,List.map_cons,List.map_nil,ay,au,ax,Nat.reduceEqDiff,if_true,if_false,aj];rw[p1];rfl
 .simp only[aH,List.map_cons,List.map_nil,ay,au,ax,Nat.reduceEqDiff,if_true,if_false];rw[p2];rfl
 .simp only[aH,List.map_cons,List.map_nil,ay,au,ax,Nat.reduceEqDiff,if_true,if_false,iF];have h2:c.all V.one=true:=hcc.2;simp[fC,V.cells,hcc.1,Mk.val];exact λa ha=>List.all_eq_true.1 h2 a ha
 .simp only[aH,List.map_cons,List.map_nil,ay,au,ax,Nat.reduceEqDiff,if_true,if_false];exact q1
 .simp[aH,ay,aj,au]
 .simp only[au,ax,if_true];exact q2
 .intro s hs h8;simp only[au,ax];rw[if_neg (Ne.symm h8)]
  repeat (rw[if_neg (by omega)])
theorem TQ (f10:get F 10=.int .i64 i) (hk:i<=2147483648):∃F',bC E N call none KY F H=some (F',H)/\get F' 10=.int .i64 ((i+1:Nat):Int)/\(∀s,s<11->s≠10->get F' s=get F s):=by
 have hb:=vX hk;refine⟨_,vp (v:=.int .i64 i) rfl ?_ <| vp (v:=.int .i64 ((i+1:Nat):Int)) rfl ?_ <| vp (v:=.int .i64 ((i+1:Nat):Int)) rfl ?_ cO,?_,?_⟩
 .simp[aH,ay,aj,f10]
 .simp only[aH,List.map_cons,List.map_nil,ay,au,ax,Nat.reduceEqDiff,if_true,if_false,aj,fM];rw[hb];rfl
 .simp[aH,ay,aj,au]
 .simp[au]
 .intro s hs h6;simp only[au,ax];rw[if_neg (Ne.symm h6)]
  repeat (rw[if_neg (by omega)])
structure P3 (l l9:List (List V)) (B i:Nat) (F:Frame) (H:ak):Prop where
 f10:get F 10=.int .i64 i
 t9:∃id9,ja H (get F 9) l9 id9/\∃id,ja H (get F 7) l id/\(∀off m,get F 7=.hsl id 2 off m->B<=id/\∀off' m',get F 9=.hsl id9 2 off' m'->id≠id9)
 len:B<=H.length
theorem SA (l9:List (List V)) (B:Nat) (hl9:l9.length<=2147483648):∀(m i:Nat) (l:List (List V)) (F:Frame) (H:ak),i+m=l9.length->l.length+m<=2147483648->P3 l l9 B i F H ->
 ∃F' H',kn E N L3 F H (.exit 4) F' H'/\(∃id,ja H' (get F' 7) (l++l9.drop i) id/\∀off m,get F' 7=.hsl id 2 off m->B<=id)/\(∀s,s<7->get F' s=get F s)/\(∀j,j<B->H'[j]? = H[j]?)/\H.length<=H'.length:=by
 intro m
 induction m with
 | zero=>
  intro i l F H hi hl p;obtain⟨id9,t9,id,t7,ap⟩:=p.t9;obtain⟨F1,e1,e2,e3⟩:=Np (E:=E) (N:=N) (call:=λ_ _ _=>none) p.f10 t9
  refine⟨F1,H,kn.stop (Ex.tu (Ex.seq (Ex.bS λc=>e1) (Ex.nM ?_ Ex.exit)) (by simp)) (by simp),⟨id,?_,λoff m h=>?_⟩,λs hs=>e3 s (by omega),λ_ _=>rfl,Nat.le_refl _⟩
  .show get F1 64=_;rw[e2];simp;omega
  .rw[e3 7 (by omega),List.drop_of_length_le (by omega),List.append_nil];exact t7
  .rw[e3 7 (by omega)]at h;exact(ap off m h).1
 | succ m ih=>
  intro i l F H hi hl p;have hil:i<l9.length:=by omega
  obtain⟨id9,t9,id,t7,ap⟩:=p.t9;obtain⟨F1,e1,e2,e3⟩:=Np (E:=E) (N:=N) (call:=λ_ _ _=>none) p.f10 t9
  have hc:=ζd hil;have t7':ja H (get F1 7) l id:=by rw[e3 7 (by omega)];exact t7
  have t9':ja H (get F1 9) l9 id9:=by rw[e3 9 (by omega)];exact t9
  obtain⟨F2,H2,g1,g2,g3,g4,g5⟩:=TN (E:=E) (N:=N) (call:=λ_ _ _=>none) (by rw[e3 10 (by omega)];exact p.f10) t7' t9' hc (by omega)
  obtain⟨F3,q1,q2,q3⟩:=TQ (E:=E) (N:=N) (call:=λ_ _ _=>none) (H:=H2) (i:=i) (F:=F2) (by rw[g5 10 (by omega) (by omega),e3 10 (by omega)];exact p.f10) (by omega)
  have keep:∀j,j<H.length->(∀off m,get F 7=.hsl id 2 off m->j≠id)->H2[j]? = H[j]? := λj hj h=>g4 j hj (by rw[e3 7 (by omega)];exact h)
  have hp3:P3 (l++[l9[i]]) l9 B (i+1) F3 H2:=by
   refine⟨q2,⟨id9,?_,H.length+1,by rw[q3 7 (by omega) (by omega)];exact g2,λoff m h=>⟨by have:=p.len;omega,λoff' m' h'=>?_⟩⟩,by have:=p.len;omega⟩
   .rw[q3 9 (by omega) (by omega),g5 9 (by omega) (by omega),e3 9 (by omega)]
    exact t9.heap λoff n hw=>keep id9 (t9.lt hw) λoff' m' hw'=>Ne.symm ((ap off' m' hw').2 off n hw)
   .rw[q3 9 (by omega) (by omega),g5 9 (by omega) (by omega),e3 9 (by omega)]at h'
    have:=t9.lt h';omega
  obtain⟨F',H',r1,⟨id',r2,r3⟩,r4,r5,r6⟩:=ih (i+1) (l++[l9[i]]) F3 H2 (by omega) (by simp;omega) hp3
  refine⟨F',H',kn.step (Ex.seq (Ex.seq (Ex.bS λc=>e1) (Ex.lM ?_ Ex.skip)) (Ex.seq (Ex.block (Ex.bS λc=>g1)) (Ex.bS λc=>q1))) r1,⟨id',?_,r3⟩,λs hs=>?_,λj hj=>?_,by omega⟩
  .show get F1 64=_;rw[e2];simp[hil]
  .rw[List.append_assoc]at r2;rw[List.drop_eq_getElem_cons hil];exact r2
  .rw[r4 s hs,q3 s (by omega) (by omega),g5 s (by omega) (by omega),e3 s (by omega)]
  .have:=p.len;rw[r5 j hj,keep j (by omega) λoff m h=>by have:=(ap off m h).1;omega]
end
structure P2 (t:Trace) (out:List (List Bool)) (l:List aa) (F:Frame) (H:ak):Prop where
 f2:get F 2=.hptr 0 0 0
 h0:H[0]? = some (.row 1 [cells t])
 ns:∃B o ids id,kE H (get F 5) o ids (iQ out)/\(out≠[]->1<=o/\o<B)/\(∀id∈ids,1<=id/\id<B)/\1<=B/\B<=H.length/\ja H (get F 7) (l.map cells) id/\∀off m,get F 7=.hsl id 2 off m->B<=id
theorem LO (out:List (List Bool)) (p j:Nat) (row:List Bool):iQ (out.set p (row.set j true))=(iQ out).set p ((row.map V.bool).set j (.bool true)):=by
 simp[iQ,List.map_set]
theorem Ee {out:List (List Bool)}:iQ out=[]↔out=[]:=by simp[iQ]
theorem LD {dir:aa->Option (Sl aa)} {out:List (List Bool)} {y:aa} {rest:List aa} {w:Fw (List (List Bool)×List aa) (List (List Bool)) Empty} (h:mB dir (out,y::rest)=some w) :
 ∃(p j:Nat) (row:List Bool) (b:Bool),y.proc=p/\y.index=j/\out[p]? = some row/\row[j]? = some b/\((b=true/\w=.n (out,rest))\/(b=false/\∃more,dir y=some more/\rest.length+more.l.length<=2147483648/\w=.n (out.set p (row.set j true),rest++more.l))):=by
 simp only[mB]at h;split at h
 .rename_i hy;obtain⟨row,h1,h⟩:=ζg.1 h;obtain⟨b,h2,h⟩:=ζg.1 h;refine⟨y.proc.toNat,y.index.toNat,row,b,by omega,by omega,h1,h2,?_⟩
  cases b with
  | true=>left;simp only[an]at h;exact⟨rfl,by simpa using h.symm⟩
  | false=>
   right;simp only[an,Bool.false_eq_true,if_false]at h;obtain⟨more,h3,h⟩:=ζg.1 h;split at h
   .rename_i hl;exact⟨rfl,more,h3,hl,by simpa using h.symm⟩
   .cases h
 .cases h
theorem Ig {E:Env} {N:Nat->FuncId} {t:Trace} {dir:aa->Option (Sl aa)} (hd:E.keep (N 149)=true) (hD:DG E N t dir):∀(k:Nat) (out:List (List Bool)) (l:List aa) (out':List (List Bool)) (F:Frame) (H:ak),
 iy (mB dir) k (out,l)=some (.x out')->P2 t out l F H->∃F' H',kn E N L2 F H (.exit 2) F' H'/\P2 t out' [] F' H':=by
 intro k
 induction k with
 | zero=>intro out l out' F H h;simp[iy]at h
 | succ k ih=>
  intro out l out' F H h p;obtain⟨B,o,ids,id,n1,n2,n3,n4,n5,t7,t8⟩:=p.ns;obtain⟨F1,e1,e2,e3⟩:=x8 (E:=E) (N:=N) (call:=λ_ _ _=>none) t7
  rw[List.length_map]at e2
  cases l with
  | nil=>
   simp only[iy,mB]at h;cases h;refine⟨F1,H,kn.stop (Ex.tu (Ex.seq (Ex.bS λc=>e1) (Ex.nM ?_ Ex.exit)) (by simp)) (by simp),?_⟩
   .show get F1 35=_;rw[e2];simp
   .exact⟨by rw[e3 2 (by omega)];exact p.f2,p.h0,B,o,ids,id,by rw[e3 5 (by omega)];exact n1,n2,n3,n4,n5,by rw[e3 7 (by omega)];exact t7,by rw[e3 7 (by omega)];exact t8⟩
  | cons y rest=>
   simp only[iy]at h
   cases hst:mB dir (out,y::rest)with
   | none=>rw[hst]at h;cases h
   | some w=>
   rw[hst]at h;obtain⟨q,j,row,b,hq,hj,hrow,hb,hcase⟩:=LD hst;have t7':ja H (get F1 7) (cells y::rest.map cells) id:=by rw[e3 7 (by omega)];exact t7
   obtain⟨F2,g1,g2,g3⟩:=x9 (E:=E) (N:=N) (call:=λ_ _ _=>none) t7'
   have t7'':ja (H++[.row 2 [cells y]]) (get F2 7) (cells y::rest.map cells) id:=by rw[g3 7 (by omega) (by omega)];exact t7'.more _
   obtain⟨F3,i1,i2,⟨off1,m1,off2,i3,i4⟩,i5⟩:=TX (E:=E) (N:=N) (call:=λ_ _ _=>none) t7''
   have hcl:(H++[Ob.row 2 [cells y]])[H.length]? = some (.row 2 [cells y]):=by simp
   have f8:get F3 8=.hptr H.length 0 0:=by rw[i5 8 (by omega) (by omega)];exact g2
   have f5:get F3 5=get F 5:=by rw[i5 5 (by omega) (by omega),g3 5 (by omega) (by omega),e3 5 (by omega)]
   have f2:get F3 2=.hptr 0 0 0:=by rw[i5 2 (by omega) (by omega),g3 2 (by omega) (by omega),e3 2 (by omega)];exact p.f2
   have n5':kE (H++[.row 2 [cells y]]) (get F3 5) o ids (iQ out):=by rw[f5];exact n1.more _
   have hr:(iQ out)[q]? = some (row.map V.bool):=by simp[iQ,hrow]
   have hu:(row.map V.bool)[j]? = some (.bool b):=by simp[hb]
   have hB8:B<=id:=by
    have:get F 7=.hsl id 2 off1 m1:=by rw[<-i3,g3 7 (by omega) (by omega),e3 7 (by omega)]
    exact t8 _ _ this
   obtain⟨F4,j1,j2,j3⟩:=Q2 (E:=E) (N:=N) (call:=λ_ _ _=>none) f8 hcl n5' hq hj hr hu
   have h35:ay N F1 (.s 35)=.bool true:=by show get F1 35=_;rw[e2];simp
   rcases hcase with⟨rfl,rfl⟩|⟨rfl,more,hm,hlen,rfl⟩
   .simp only at h;have hp2:P2 t out rest F4 (H++[.row 2 [cells y]]):=by
     refine⟨by rw[j3 2 (by omega)];exact f2,by rw[List.getElem?_append_left (ζe.1 p.h0).1];exact p.h0,B,o,ids,id,by rw[j3 5 (by omega)];exact n5',n2,n3,n4,by simp;omega,by rw[j3 7 (by omega)];exact i2,λoff m _=>hB8⟩
    obtain⟨F',H',r1,r2⟩:=ih out rest out' F4 _ h hp2;exact⟨F',H',kn.step (Ex.seq (Ex.seq (Ex.bS λc=>e1) (Ex.lM h35 Ex.skip)) (Ex.sV (Ex.seq (Ex.bS λc=>g1) (Ex.seq (Ex.bS λc=>i1) (Ex.tu (Ex.seq (Ex.nK rfl λc=>j1) (Ex.lM j2 Ex.exit)) (by simp)))))) r1,r2⟩
   .simp only at h;have n6:kE (H++[.row 2 [cells y]]) (get F4 5) o ids (iQ out):=by rw[j3 5 (by omega)];exact n5'
    obtain⟨F5,H5,k1,k2,k3,k4,k5⟩:=TV (E:=E) (N:=N) (call:=λ_ _ _=>none) (by rw[j3 8 (by omega)];exact f8) hcl n6 hq hj hr hu
    have hnid:∀i,B<=i->i∉ids:=λi hi hm=>by have:=(n3 i hm).2;omega
    have hc5:H5[H.length]? = some (.row 2 [cells y]):=by rw[k4 _ (hnid _ n5)];exact hcl
    have h05:H5[0]? = some (.row 1 [cells t]):=by
     rw[k4 0 (λhm=>by have:=(n3 0 hm).1;omega),List.getElem?_append_left (ζe.1 p.h0).1];exact p.h0
    obtain⟨w9,X,id9,m1',m2,m3,_⟩:=SP (a:=0) (d:=0) (F:=F5) hd hD hm (by rw[k5 2 (by omega),j3 2 (by omega)];exact f2) h05 hc5
    obtain⟨F6,⟨nn,o1'⟩,o2',o3⟩:=m3 (by rw[k5 8 (by omega),j3 8 (by omega)];exact f8)
    have hl5:H5.length=H.length+1:=by rw[k3];simp
    have i7:get F6 7=.hsl id 2 off2 (rest.map cells).length:=by rw[o3 7 (by omega) (by omega),k5 7 (by omega),j3 7 (by omega)];exact i4
    have hidl:id<H.length:=by
     have:=t7'.lt (off:=off1) (m:=m1) (by rw[<-i3,g3 7 (by omega) (by omega)])
     exact this
    have t6:ja (H5++X) (get F6 7) (rest.map cells) id:=by
     have:get F6 7=get F3 7:=by rw[o3 7 (by omega) (by omega),k5 7 (by omega),j3 7 (by omega)]
     rw[this];refine(i2.heap (H':=H5) λoff n _=>k4 id (hnid id hB8)).more X
    have s10:∃F7,(∀c,bC E N c none Br F6 (H5++X)=some (F7,H5++X))/\get F7 10=.int .i64 ((0:Nat):Int)/\∀s,s<10->get F7 s=get F6 s:=
     ⟨set F6 10 (.int .i64 0),λc=>by simp[Br,bC,aH,ay,aj,au],by simp,λs hs=>by rw[ax,if_neg (by omega)]⟩
    obtain⟨F7,u1,u2,u3⟩:=s10;have hp3:P3 (rest.map cells) (more.l.map cells) B 0 F7 (H5++X):=by
     refine⟨u2,⟨id9,by rw[u3 9 (by omega),o2'];exact m1',id,by rw[u3 7 (by omega)];exact t6,λoff m hh=>⟨hB8,λoff' m' h'=>?_⟩⟩,by simp;omega⟩
     rw[u3 9 (by omega),o2']at h'
     have:=m2 off' m' h';omega
    obtain⟨F8,H8,v1,⟨id8,v2,v3⟩,v4,v5,v6⟩:=SA (E:=E) (N:=N) (more.l.map cells) B (by simp;omega) (more.l.map cells).length 0 (rest.map cells) F7 (H5++X) (by omega) (by simp;omega) hp3
    have hn8:kE H8 (get F8 5) o ids (iQ (out.set q (row.set j true))):=by
     have h5:get F8 5=get F5 5:=by rw[v4 5 (by omega),u3 5 (by omega),o3 5 (by omega) (by omega)]
     rw[h5,LO];refine(k2.more X).heap (λhne=>v5 o ?_) λi hi=>v5 i (n3 i hi).2
     have:out≠[]:=by intro e;subst e;simp at hrow
     exact(n2 this).2
    have hp2:P2 t (out.set q (row.set j true)) (rest++more.l) F8 H8:=by
     refine⟨by rw[v4 2 (by omega),u3 2 (by omega),o3 2 (by omega) (by omega),k5 2 (by omega),j3 2 (by omega)];exact f2,?_,B,o,ids,id8,hn8,λhne=>n2 (by intro e;subst e;simp at hrow),n3,n4,by simp at v6;omega,?_,v3⟩
     .rw[v5 0 (by omega),List.getElem?_append_left (ζe.1 h05).1];exact h05
     .rw[List.drop_zero]at v2;rw[List.map_append];exact v2
    obtain⟨F',H',w1,w2⟩:=ih _ _ out' F8 H8 h hp2;exact⟨F',H',kn.step (Ex.seq (Ex.seq (Ex.bS λc=>e1) (Ex.lM h35 Ex.skip)) (Ex.block (Ex.seq (Ex.bS λc=>g1) (Ex.seq (Ex.bS λc=>i1) (Ex.seq (Ex.seq (Ex.nK rfl λc=>j1) (Ex.nM j2 Ex.skip)) (Ex.seq (Ex.nK rfl λc=>k1)
     (Ex.seq (Ex.ops ⟨nn,o1'⟩) (Ex.seq (Ex.bS u1) (Ex.sV (Ex.loop v1))))))))) ) w1,w2⟩
theorem Na {H:ak} {Z:Nat->Prop} {id:Nat} {r:List Bool} (hz:Z id) (h:H[id]? = some (.row 1 (gV (r.map V.bool)))):FR H Z (enc (Sl.row r)) (.hsl id 1 0 r.length):=by
 have hr:aq H id=some (1,gV (r.map V.bool)):=by simp[aq,h,Ob.rows]
 have he:enc (Sl.row r)=.fsl 1 (rows r):=rfl;have hl:(rows r).length=r.length:=by simp[rows]
 have hc:gV (r.map V.bool)=rows r:=by simp[gV,rows,List.map_map,Function.comp_def]
 rw[hc]at hr;rw[he,<-hl];refine .fsl 1 (rows r) id 0 (rows r) hz hr (by omega) (λi a b h1 h2=>?_) (λi j a b u v h1 h2 h3 h4=>?_)
 .rw[Nat.zero_add,h1]at h2;cases h2;rfl
 .rw[Nat.zero_add,h1]at h2;cases h2;rw[h3]at h4;cases h4;refine .same u ?_;obtain⟨c,hc1,rfl⟩:∃c∈r,a=[V.bool c]:=by
   have:=List.mem_of_getElem? h1;simp only[rows,List.mem_map]at this;obtain⟨c,hc,rfl⟩:=this;exact⟨c,hc,rfl⟩
  have:=List.mem_of_getElem? h3;simp at this;subst this;rfl
theorem LQ {H:ak} {w:V} {o:Nat} {ids:List Nat} {out:List (List Bool)} (n:kE H w o ids (iQ out)):∃Z,FR H Z (enc (nested out)) w/\(∀id,Z id->(aq H id).isSome=true)/\Deep H Z:=by
 have hv:=n.v
 by_cases ho:out=[]
 .subst ho;rw[if_pos (show iQ []=[]from rfl)]at hv;subst hv;exact⟨λ_=>False,.same _ rfl,λ_ h=>h.elim,⟨λ_ _ _ h=>h.elim⟩⟩
 .have hne:iQ out≠[]:=λh=>ho (Ee.1 h)
  rw[if_neg hne,uc]at hv;subst hv;have hob:=n.ob hne;have hlen:=n.len;rw[uc]at hlen;have hrow:∀(i id:Nat) (r:List Bool),ids[i]? = some id->out[i]? = some r->H[id]? = some (.row 1 (gV (r.map V.bool))):=λi id r h1 h2=>n.r i id _ h1 (by simp[iQ,h2])
  have href:∀(i:Nat) (c:List V),(refs ids (iQ out))[i]? = some c->∃id r,ids[i]? = some id/\out[i]? = some r/\c=[.hsl id 1 0 r.length]:=λi c h=>by
   have hi:=(ζe.1 h).1;rw[rD n.len,uc]at hi;have h1:=ζd (show i<ids.length from by omega)
   have h2:=ζd hi;have h3:=Ag (rows:=iQ out) (r:=out[i].map V.bool) h1 (by simp[iQ,h2])
   rw[h]at h3;exact⟨_,_,h1,h2,by simpa using h3⟩
  have hzo:aq H o=some (1,refs ids (iQ out)):=by simp[aq,hob,Ob.rows]
  have hzi:∀id∈ids,∃(r:List Bool),H[id]? = some (.row 1 (gV (r.map V.bool))):=λid hid=>by
   obtain⟨i,hi⟩:=List.getElem?_of_mem hid;have hl:=(ζe.1 hi).1;exact⟨_,hrow i id _ hi (ζd (show i<out.length from by omega))⟩
  refine⟨λid=>id=o\/id∈ids,?_,λid h=>?_,⟨λid es ys h hr c hc u hu=>?_⟩⟩
  .have he:enc (nested out)=.fsl 1 (rows (out.map Sl.row)):=by rw[nested,if_neg ho];rfl
   have hl:(rows (out.map Sl.row)).length=out.length:=by simp[rows]
   rw[he,<-hl];refine .fsl 1 _ o 0 (refs ids (iQ out)) (.inl rfl) hzo (by rw[hl,rD n.len,uc];omega) (λi a b h1 h2=>?_) (λi j a b u v h1 h2 h3 h4=>?_)
   .rw[Nat.zero_add]at h2;obtain⟨id,r,_,hr,rfl⟩:=href i b h2;simp[rows,hr]at h1;subst h1;rfl
   .rw[Nat.zero_add]at h2;obtain⟨id,r,hid,hr,rfl⟩:=href i b h2;have ha:a=[enc (Sl.row r)]:=by simp[rows,hr]at h1;exact h1.symm
    subst ha
    cases j with
    | zero=>
     simp at h3 h4;subst h3 h4;exact Na (.inr (List.mem_of_getElem? hid)) (hrow i id r hid hr)
    | succ j=>simp at h3
  .rcases h with rfl|h
   .simp[hzo]
   .obtain⟨r,hr⟩:=hzi id h;simp[aq,hr,Ob.rows]
  .rcases h with rfl|h
   .rw[hzo]at hr;cases hr;obtain⟨i,hi⟩:=List.getElem?_of_mem hc;obtain⟨id,r,hid,hro,rfl⟩:=href i c hi;simp at hu;subst hu;exact⟨_,Na (.inr (List.mem_of_getElem? hid)) (hrow i id r hid hro)⟩
   .obtain⟨r,hr'⟩:=hzi id h;have:aq H id=some (1,gV (r.map V.bool)):=by simp[aq,hr',Ob.rows]
    rw[this]at hr;cases hr;simp only[gV,List.mem_map]at hc;obtain⟨_,⟨c',_,rfl⟩,rfl⟩:=hc;simp at hu;subst hu;exact⟨_,.same _ rfl⟩
theorem OH {t:Trace} {x:aa} {out:List (List Bool)} {s:Sl aa} {dir:aa->Option (Sl aa)} (hd:uf.keep (u7 149)=true) (hD:DG uf u7 t dir) (hok:xK t=true) (hs:dir x=some s) (hw:aQ (mB dir) (e8 t,s.l)=some (.x out)) :
 xD uf (u7 122) [enc t,enc x] (enc (nested out)):=by
 obtain⟨fi,g1,g2,g3,g4⟩:=shape;obtain⟨k,hk⟩:=mg.1 hw;have b1:∃F1,(∀c,bC uf u7 c none r1 [enc t,enc x] []=some (F1,[.row 1 [cells t],.row 2 [cells x]]))/\get F1 2=.hptr 0 0 0/\get F1 3=.hptr 1 0 0:=by
  refine⟨_,λc=>iH (v:=.hptr 0 0 0) (H1:=[.row 1 [cells t]]) rfl ?_ <| iH (v:=.hptr 1 0 0) (H1:=[.row 1 [cells t],.row 2 [cells x]]) rfl ?_ <| vp (v:=.aL) rfl ?_ cO,?_,?_⟩
  .show (iF .box [enc t]).map _=_;simp only[iF,fW,oD,if_true,Option.map_some,eU];rfl
  .simp only[aH,List.map_cons,List.map_nil,ay,au,ax,Nat.reduceEqDiff,if_false];show (iF .box [enc x]).map _=_;simp only[iF,fW,oD,if_true,Option.map_some,eU];rfl
  .simp[aH,ay,aj]
  .simp[au]
  .simp[au]
 obtain⟨F1,c1,c2,c3⟩:=b1;have b3:∃F3,(∀c,bC uf u7 c none r2 F1 [.row 1 [cells t],.row 2 [cells x]]=some (set F1 5 .aL,[.row 1 [cells t],.row 2 [cells x]]))/\(∀c,bC uf u7 c none r3 (set F1 5 .aL) [.row 1 [cells t],.row 2 [cells x]]=some (F3,[.row 1 [cells t],.row 2 [cells x]]))/\P1 t x 0 F3 [.row 1 [cells t],.row 2 [cells x]]:=by
  refine⟨set (set F1 5 .aL) 6 (.int .i64 0),λc=>by simp[r2,bC,aH,ay,aj,au],λc=>by simp[r3,bC,aH,ay,aj,au],by simp[c2],by simp[c3],by simp,rfl,rfl,0,[],?_,λh=>absurd rfl h,λid h=>by simp at h⟩
  have:get (set (set F1 5 .aL) 6 (.int .i64 0)) 5=.aL:=by simp
  rw[this,List.take_zero];exact kE.nil _ 0
 obtain⟨F3,d1,d2,d3⟩:=b3;obtain⟨F4,H4,e1,e2⟩:=IS (E:=uf) (N:=u7) hok t.procs.l.length 0 F3 _ (by omega) d3
 obtain⟨o,ids,n1,n2,n3⟩:=e2.ns;have hlen:(e8 t).length=t.procs.l.length:=by simp[e8]
 rw[List.take_of_length_le (by omega)]at n1
 obtain⟨w,X,id,m1,m2,_,m4⟩:=SP (a:=0) (d:=0) (F:=F4) (E:=uf) (N:=u7) hd hD hs e2.f2 e2.h0 (c:=1) e2.h1;obtain⟨F5,o1,o2,o3⟩:=m4 e2.f3;have hp2:P2 t (e8 t) s.l F5 (H4++X):=by
  refine⟨by rw[o3 2 (by omega) (by omega)];exact e2.f2,by rw[List.getElem?_append_left (ζe.1 e2.h0).1];exact e2.h0,H4.length,o,ids,id,by rw[o3 5 (by omega) (by omega)];exact n1.more X,λhne=>?_,λi hi=>⟨by have:=n3 i hi;omega,n1.lt.2 i hi⟩,?_,by simp,by rw[o2];exact m1,λoff m h=>?_⟩
  .have hne':iQ (e8 t)≠[]:=λh=>hne (Ee.1 h)
   have:t.procs.l.length≠0:=by intro h;apply hne;exact List.eq_nil_of_length_eq_zero (by omega)
   have:=n2 this;exact⟨by omega,n1.lt.1 hne'⟩
  .have:=(ζe.1 e2.h0).1;omega
  .rw[o2]at h;have:=m2 off m h;omega
 obtain⟨F6,H6,p1,p2⟩:=Ig hd hD k _ _ out F5 _ hk hp2;obtain⟨B,o',ids',id',q1,_⟩:=p2.ns;have l1:∃F7,(∀c,bC uf u7 c none S6 F6 H6=some (F7,H6))/\get F7 4=get F6 5:=by
  refine⟨_,λc=>vp (v:=get F6 5) rfl ?_ <| vp (v:=get F6 5) rfl ?_ cO,?_⟩
  .simp[aH,ay,aj]
  .simp[aH,ay,aj,au]
  .simp[au]
 obtain⟨F7,y1,y2⟩:=l1;have hex:Ex uf u7 code [enc t,enc x] [] .ret F7 H6:=
  Ex.seq (Ex.bS c1) (Ex.seq (Ex.bS d1) (Ex.seq (Ex.seq (Ex.bS d2) (Ex.sV (Ex.loop e1))) (Ex.seq (Ex.ops o1) (Ex.seq (Ex.sV (Ex.loop p1)) (Ex.seq (Ex.bS y1) Ex.ret)))))
 obtain⟨n,hrun⟩:=hex.run (nm:=some) yZ g1 g2 (show [enc t,enc x].length<=fi.ntmps from g3) (vs:=[get F7 4]) (by rw[g4];rfl)
 obtain⟨Z,z1,z2,z3⟩:=LQ q1;exact⟨n,get F6 5,H6,Z,by rw[hrun,y2];rfl,z1,z2,z3⟩
theorem Qj (l:List aa):∀c∈l.map (cells (α:=aa)),c.length=2/\c.all V.one=true/\c.all V.scalar=true:=λc hc=>by
 obtain⟨e,_,rfl⟩:=List.mem_map.1 hc;exact⟨rfl,rfl,rfl⟩
theorem R6 (t:Trace):DG uf u7 t (cB t):=by
 intro y s H hs;have h1:=xA t y;have h2:=h1 (bV s) (by rw[hs];rfl)
 have hg:V.bJ [enc t,enc y]=true:=by simp only[V.bJ,lF,Bool.and_self]
 have hkind:s.k=.row\/s.k=.nil/\rows s.l=[]:=by
  have hj:∀o z,(∃l,o=.row l)\/o=.nil->cB.J1 o t y=some z->(∃l,z=.row l)\/z=.nil:=λo z ho hz=>by
   unfold cB.J1 at hz;obtain⟨e,_,hz⟩:=ζg.1 hz
   cases he:e.kind==3 with
   | true=>
    rw[he]at hz;obtain⟨f,_,hz⟩:=ζg.1 hz;obtain⟨q,hq,hz⟩:=ζg.1 hz;cases hz;unfold kf at hq;split at hq
    .cases hq;exact .inl ⟨_,rfl⟩
    .cases hq
   | false=>rw[he]at hz;cases hz;exact ho
  have:(∃l,s=.row l)\/s=.nil:=by
   unfold cB at hs
   cases hc:decide (y.index>1)with
   | true=>rw[hc]at hs;exact hj _ s (.inl ⟨_,rfl⟩) hs
   | false=>rw[hc]at hs;exact hj _ s (.inr rfl) hs
  rcases this with⟨l,rfl⟩|rfl
  .exact .inl rfl
  .exact .inr ⟨rfl,rfl⟩
 obtain⟨n,z,H',r1,r2⟩:=Qv Nk Hp (T:=Tx) (f:=u7 149) (rf:=xw (Tx 149)) (by kernel_rfl) hg (Nat.le_of_ble_eq_true (by kernel_rfl)) (k:=s.k) (es:=2) (xs:=rows s.l) (λc hc=>(Qj s.l c hc).2.2) hkind h2
 refine D7 (l:=s.l.map cells) (y:=z) (H1:=H') (by kernel_rfl) hg (Qj s.l) ⟨n,λk hk=>nW _ hk _ _ _ _ r1⟩ ?_ H
 rcases r2 with⟨h3,rfl⟩|⟨id,rfl,h4⟩
 .left;cases s <;> simp[Sl.k]at h3;exact⟨rfl,rfl⟩
 .right;exact⟨id,by simp[rows],h4⟩
end pastX
theorem Mj (t:Trace) (x:aa) (r:Sl (Sl Bool)) (h:lB t x=some r):Sy.xy 122 [enc t,enc x]=some (enc r):=by
 unfold lB at h;split at h
 .rename_i hok;obtain⟨s,hs,h⟩:=ζg.1 h;obtain⟨w,hw,h⟩:=ζg.1 h
  cases w with
  | n a=>exact Empty.elim a
  | r e=>exact Empty.elim e
  | x out=>
   cases h;exact yf (pastX.OH (by kernel_rfl) (pastX.R6 t) hok hs hw)
 .cases h
end Go.VE
namespace Go.VE
noncomputable section
def uv:Option Bool:=some true
instance O7:Fc Sy cL uv:=⟨7,[],λr:Bool=>[.bool r],true,lX.xy (by kernel_rfl) (by kernel_rfl) KC⟩
namespace eo
def aA (s0:Sl Event) (v7:Int) (v8:Int) (p1:Event->Option Bool):Option (Fw Int Unit Int):=
 an (decide (v8<v7))
 ((idx s0 v8).bind λx_1=>
 (p1 x_1).bind λx_2=>
 an x_2
 (some (.r v8))
 (some (.n (IntKind.wrap .i64 (v8+1)))))
 (some (.x ()))
def W1 (s0:Sl Event) (v7 v8:Int) (p1:Event->Option Bool):Option Int:=
 (aQ (λq:Int=>aA s0 v7 q p1) v8).bind (Fw.elim
 (λe=>some (-1))
 (λe=>some e))
end eo
def eo (s0:Sl Event) (p1:Event->Option Bool):Option Int:=
 eo.W1 s0 (len s0) 0 p1
open eo in
abbrev um (g1:FuncId) (e1:List V) (p1:Event->Option Bool) (h1:jm Sy cL g1 [] e1 (λz:Event=>[enc z]) (λr:Bool=>[.bool r]) p1 true) (s0:Sl Event):Fc Sy cL (eo s0 p1):=Fc.M 75 [enc s0,.clo g1 [] e1] (aT 9 s0 (b7 5 (λqW1=>(aI [Cv 0 s0,(1,.v (.clo g1 [] e1)),Iv 7 (len s0),Iv 8 qW1] [])) (λeW1=>(0,(aI [] []))) (λeW1=>(aI [Iv 4 eW1] [])) (λqW1=>aG 7 9 (aZ 16 λx_1 _=>qL 1 h1.f x_1 λx_2 _=>aG 2 16 af af) af) (λeW1=>af) (λeW1=>af))) (l:=by simp[h1.d])
def fJ (s0:Sl Event) (p1:Event->Option Bool):Option Bool:=
 (eo s0 p1).bind λx_1=>
 some (decide (x_1>=0))
abbrev me (g1:FuncId) (e1:List V) (p1:Event->Option Bool) (h1:jm Sy cL g1 [] e1 (λz:Event=>[enc z]) (λr:Bool=>[.bool r]) p1 true) (s0:Sl Event):Fc Sy cL (fJ s0 p1):=Fc.M 39 [enc s0,.clo g1 [] e1] (aF (F:=um g1 e1 p1 h1 s0) 9 λx_1 _=>af) (l:=by simp[h1.d])
def pz (x0:Event):Option Bool:=
 some (decide ((len x0.assign)>20))
instance Nc (x0:Event):Fc Sy cL (pz x0):=Fc.M 40 [enc x0] (bL 2 1 x0 (aT 7 x0.assign af))
namespace gX
def aA (v8:Sl bp) (v9:Int) (tb2:Trace) (n1 v10:Int):Option (Fw (Int×Int) Int Unit):=
 an (decide (v10<v9))
 ((idx v8 v10).bind λx_1=>
 (an (decide ((len x_1.events)>20))
 (some true)
 (some (decide ((len x_1.vars)>20))):Option Bool).bind λx_2=>
 (an x_2
 (some true)
 ((fJ x_1.events (λz=>pz z)).bind λx_3=>
 some x_3):Option Bool).bind λx_4=>
 an x_4
 (some (.r ()))
 (some (.n (IntKind.wrap .i64 (n1-(len x_1.events)),IntKind.wrap .i64 (v10+1)))))
 (some (.x n1))
def W1 (n1:Int) (v8:Sl bp) (v9 v10:Int) (tb2:Trace):Option Bool:=
 (aQ (λq:Int×Int=>aA v8 v9 tb2 q.1 q.2) (n1,v10)).bind (Fw.elim
 (λe=>(an (decide ((len tb2.procs)<=10))
 (some (decide (e>=0)))
 (some false):Option Bool).bind λx_5=>
 some x_5)
 (λe=>some false))
end gX
def gX (t0:Trace) (n1:Int):Option Bool:=
 gX.W1 n1 t0.procs (len t0.procs) 0 t0
open gX in
instance Rr (t0:Trace) (n1:Int):Fc Sy cL (gX t0 n1):=Fc.M 8 [enc t0,.int .i64 n1] (bL 2 2 t0 (aT 8 t0.procs (b7 5 (λqW1=>(aI [Iv 1 qW1.1,Pv 2,Cv 8 t0.procs,Iv 9 (len t0.procs),Iv 10 qW1.2] [Xb 2 t0])) (λeW1=>(0,(aI [Iv 1 eW1,Pv 2] [Xb 2 t0]))) (λeW1=>(aI [Bv 4 false] [])) (λqW1=>aG 7 11 (aZ 7 λx_1 _=>gD 2 6 0 x_1 (aT 7 x_1.events (aT 8 x_1.events (aV 2 5 [23] 28 (aG 2 23 (aC 5) (aT 2 x_1.vars (aC 2))) λx_2=>aV 1 4 [6,29] 33 (aG 1 29 (aC 4) (aF (F:=me 40 [] (λz=>pz z) jm.qt x_1.events) 2 λx_3 _=>aC 1)) λx_4=>aG 2 33 af af)))) af) (λeW1=>aT 6 t0.procs (aV 2 3 [1,39] 42 (aG 2 39 (aC 3) (aC 3)) λx_5=>af)) (λeW1=>af))))
namespace en
def aA (s0:Sl (Sl (Sl Int))) (v7:Int) (v8:Int) (p1:(Sl (Sl Int))->Option Bool):Option (Fw Int Unit Int):=
 an (decide (v8<v7))
 ((idx s0 v8).bind λx_1=>
 (p1 x_1).bind λx_2=>
 an x_2
 (some (.r v8))
 (some (.n (IntKind.wrap .i64 (v8+1)))))
 (some (.x ()))
def W1 (s0:Sl (Sl (Sl Int))) (v7 v8:Int) (p1:(Sl (Sl Int))->Option Bool):Option Int:=
 (aQ (λq:Int=>aA s0 v7 q p1) v8).bind (Fw.elim
 (λe=>some (-1))
 (λe=>some e))
end en
def en (s0:Sl (Sl (Sl Int))) (p1:(Sl (Sl Int))->Option Bool):Option Int:=
 en.W1 s0 (len s0) 0 p1
open en in
abbrev uD (g1:FuncId) (e1:List V) (p1:(Sl (Sl Int))->Option Bool) (h1:jm Sy cL g1 [] e1 (λz:Sl (Sl Int)=>[enc z]) (λr:Bool=>[.bool r]) p1 true) (s0:Sl (Sl (Sl Int))):Fc Sy cL (en s0 p1):=Fc.M 76 [enc s0,.clo g1 [] e1] (aT 9 s0 (b7 5 (λqW1=>(aI [Cv 0 s0,(1,.v (.clo g1 [] e1)),Iv 7 (len s0),Iv 8 qW1] [])) (λeW1=>(0,(aI [] []))) (λeW1=>(aI [Iv 4 eW1] [])) (λqW1=>aG 7 9 (aZ 16 λx_1 _=>qL 1 h1.f x_1 λx_2 _=>aG 2 16 af af) af) (λeW1=>af) (λeW1=>af))) (l:=by simp[h1.d])
def iE (s0:Sl (Sl (Sl Int))) (p1:(Sl (Sl Int))->Option Bool):Option Bool:=
 (en s0 p1).bind λx_1=>
 some (decide (x_1>=0))
abbrev sN (g1:FuncId) (e1:List V) (p1:(Sl (Sl Int))->Option Bool) (h1:jm Sy cL g1 [] e1 (λz:Sl (Sl Int)=>[enc z]) (λr:Bool=>[.bool r]) p1 true) (s0:Sl (Sl (Sl Int))):Fc Sy cL (iE s0 p1):=Fc.M 41 [enc s0,.clo g1 [] e1] (aF (F:=uD g1 e1 p1 h1 s0) 9 λx_1 _=>af) (l:=by simp[h1.d])
namespace eM
def aA (s0:Sl (Sl Int)) (v7:Int) (v8:Int) (p1:(Sl Int)->Option Bool):Option (Fw Int Unit Int):=
 an (decide (v8<v7))
 ((idx s0 v8).bind λx_1=>
 (p1 x_1).bind λx_2=>
 an x_2
 (some (.r v8))
 (some (.n (IntKind.wrap .i64 (v8+1)))))
 (some (.x ()))
def W1 (s0:Sl (Sl Int)) (v7 v8:Int) (p1:(Sl Int)->Option Bool):Option Int:=
 (aQ (λq:Int=>aA s0 v7 q p1) v8).bind (Fw.elim
 (λe=>some (-1))
 (λe=>some e))
end eM
def eM (s0:Sl (Sl Int)) (p1:(Sl Int)->Option Bool):Option Int:=
 eM.W1 s0 (len s0) 0 p1
open eM in
abbrev uO (g1:FuncId) (e1:List V) (p1:(Sl Int)->Option Bool) (h1:jm Sy cL g1 [] e1 (λz:Sl Int=>[enc z]) (λr:Bool=>[.bool r]) p1 true) (s0:Sl (Sl Int)):Fc Sy cL (eM s0 p1):=Fc.M 63 [enc s0,.clo g1 [] e1] (aT 9 s0 (b7 5 (λqW1=>(aI [Cv 0 s0,(1,.v (.clo g1 [] e1)),Iv 7 (len s0),Iv 8 qW1] [])) (λeW1=>(0,(aI [] []))) (λeW1=>(aI [Iv 4 eW1] [])) (λqW1=>aG 7 9 (aZ 16 λx_1 _=>qL 1 h1.f x_1 λx_2 _=>aG 2 16 af af) af) (λeW1=>af) (λeW1=>af))) (l:=by simp[h1.d])
def dL (s0:Sl (Sl Int)) (p1:(Sl Int)->Option Bool):Option Bool:=
 (eM s0 p1).bind λx_1=>
 some (decide (x_1>=0))
abbrev gZ (g1:FuncId) (e1:List V) (p1:(Sl Int)->Option Bool) (h1:jm Sy cL g1 [] e1 (λz:Sl Int=>[enc z]) (λr:Bool=>[.bool r]) p1 true) (s0:Sl (Sl Int)):Fc Sy cL (dL s0 p1):=Fc.M 23 [enc s0,.clo g1 [] e1] (aF (F:=uO g1 e1 p1 h1 s0) 9 λx_1 _=>af) (l:=by simp[h1.d])
def lJ (c0:Sl Int):Option Bool:=
 some (decide ((len c0)>20))
instance Jq (c0:Sl Int):Fc Sy cL (lJ c0):=Fc.M 43 [enc c0] (aT 8 c0 af)
def lU (l0:Sl (Sl Int)):Option Bool:=
 (an (decide ((len l0)>40))
 (some true)
 ((dL l0 (λz=>lJ z)).bind λx_1=>
 some x_1):Option Bool).bind λx_2=>
 some x_2
instance L5 (l0:Sl (Sl Int)):Fc Sy cL (lU l0):=Fc.M 42 [enc l0] (aT 8 l0 (aV 2 3 [0,6] 9 (aG 2 6 (aC 3) (aF (F:=gZ 43 [] (λz=>lJ z) jm.qt l0) 1 λx_1 _=>aC 1)) λx_2=>af))
def sB (s0:Slice):Option Bool:=
 (an (decide ((len s0.first)>20))
 (some true)
 (some (decide ((len s0.last)>20))):Option Bool).bind λx_1=>
 (an x_1
 (some true)
 (some (decide ((len s0.j)>20))):Option Bool).bind λx_2=>
 (an x_2
 (some true)
 ((iE s0.j (λz=>lU z)).bind λx_3=>
 some x_3):Option Bool).bind λx_4=>
 some x_4
instance PS (s0:Slice):Fc Sy cL (sB s0):=Fc.M 9 [enc s0] (bL 2 1 s0 (aT 7 s0.first (aV 2 5 [7] 12 (aG 2 7 (aC 5) (aT 2 s0.last (aC 2))) λx_1=>aV 1 5 [13] 18 (aG 1 13 (aC 5) (aT 2 s0.j (aC 2))) λx_2=>aV 1 4 [1,19] 23 (aG 1 19 (aC 4) (aF (F:=sN 42 [] (λz=>lU z) jm.qt s0.j) 2 λx_3 _=>aC 1)) λx_4=>af)))
def mS (c0:Int):Option Bool:=
 (an (decide (c0>=65))
 (some (decide (c0<=90)))
 (some false):Option Bool).bind λx_1=>
 (an x_1
 (some true)
 ((an (decide (c0>=97))
 (some (decide (c0<=122)))
 (some false):Option Bool).bind λx_2=>
 some x_2):Option Bool).bind λx_3=>
 some x_3
instance Nt (c0:Int):Fc Sy cL (mS c0):=Fc.M 169 [.int .u8 c0] (aV 10 3 [5] 8 (aG 10 5 (aC 3) (aC 3)) λx_1=>aV 1 7 [0,9] 16 (aG 1 9 (aC 7) (aV 3 3 [0,12] 15 (aG 3 12 (aC 3) (aC 3)) λx_2=>aC 1)) λx_3=>af)
def qQ (c0:Int):Option Bool:=
 (an (decide (c0>=48))
 (some (decide (c0<=57)))
 (some false):Option Bool).bind λx_1=>
 some x_1
instance Pe (c0:Int):Fc Sy cL (qQ c0):=Fc.M 170 [.int .u8 c0] (aV 10 3 [0,5] 8 (aG 10 5 (aC 3) (aC 3)) λx_1=>af)
namespace fh
def aA (s0:ByteArray) (i3:Int):Option (Fw Int Unit Unit):=
 an (decide (i3<((ByteArray.size s0:Nat):Int)))
 ((jt s0 i3).bind λx_5=>
 (mS x_5).bind λx_6=>
 (an x_6
 (some false)
 ((jt s0 i3).bind λx_7=>
 (qQ x_7).bind λx_8=>
 some (!x_8)):Option Bool).bind λx_9=>
 (an x_9
 ((jt s0 i3).bind λx_10=>
 some (!(x_10==95)))
 (some false):Option Bool).bind λx_11=>
 an x_11
 (some (.r ()))
 (some (.n (IntKind.wrap .i64 (i3+1)))))
 (some (.x ()))
def W1 (s0:ByteArray) (i3:Int):Option Bool:=
 (aQ (λq:Int=>aA s0 q) i3).bind (Fw.elim
 (λe=>some true)
 (λe=>some false))
end fh
def fh (s0:ByteArray):Option Bool:=
 (an (decide (((ByteArray.size s0:Nat):Int)<1))
 (some true)
 (some (decide (((ByteArray.size s0:Nat):Int)>16))):Option Bool).bind λx_1=>
 (an x_1
 (some true)
 ((jt s0 0).bind λx_2=>
 (mS x_2).bind λx_3=>
 some (!x_3)):Option Bool).bind λx_4=>
 an x_4
 (some false)
 (fh.W1 s0 1)
open fh in
instance PN (s0:ByteArray):Fc Sy cL (fh s0):=Fc.M 146 [.str s0] (aV 12 4 [7] 11 (aG 12 7 (aC 4) (aC 4)) λx_1=>aV 1 5 [12] 17 (aG 1 12 (aC 5) (xM 1 .i64 λx_2 _=>aF 0 λx_3 _=>aC 2)) λx_4=>aG 2 17 af (b7 11 (λqW1=>(aI [(0,.v (.str s0)),Iv 3 qW1] [])) (λeW1=>(0,(aI [] []))) (λeW1=>(aI [Bv 2 false] [])) (λqW1=>aG 10 21 (xM 9 .i64 λx_5 _=>aF 0 λx_6 _=>aV 2 6 [29] 35 (ck 2 29 (aC 6) (xM 2 .i64 λx_7 _=>aF 0 λx_8 _=>aC 2)) λx_9=>aV 1 5 [36] 41 (aG 1 36 (xM 2 .i64 λx_10 _=>aC 2) (aC 5)) λx_11=>aG 2 41 af af) af) (λeW1=>af) (λeW1=>af)))
def nQ (n0:Int):Option Bool:=
 (an (decide (n0>=(-1073741824)))
 (some (decide (n0<=1073741824)))
 (some false):Option Bool).bind λx_1=>
 some x_1
instance NT (n0:Int):Fc Sy cL (nQ n0):=Fc.M 147 [.int .i64 n0] (aV 10 3 [0,5] 8 (aG 10 5 (aC 3) (aC 3)) λx_1=>af)
namespace cU
def c_ (i7:Int) (xb5:bp) (j8:Int):Option (Fw Int Unit Unit):=
 an (decide (j8<i7))
 ((idx xb5.vars j8).bind λx_6=>
 (idx xb5.vars i7).bind λx_7=>
 an (ByteArray.toList x_6.name==ByteArray.toList x_7.name)
 (some (.r ()))
 (some (.n (IntKind.wrap .i64 (j8+1)))))
 (some (.x ()))
def W3 (i7 j8:Int) (xb5:bp):Option (Fw Int Unit Int):=
 (aQ (λq:Int=>c_ i7 xb5 q) j8).bind (Fw.elim
 (λe=>(idx xb5.vars i7).bind λx_8=>
 (nQ x_8.init_).bind λx_9=>
 an x_9
 (some (.n (IntKind.wrap .i64 (i7+1))))
 (some (.r 2)))
 (λe=>some (.r 13)))
def aX (xb5:bp) (i7:Int):Option (Fw Int Unit Int):=
 an (decide (i7<(len xb5.vars)))
 ((idx xb5.vars i7).bind λx_4=>
 (fh x_4.name).bind λx_5=>
 an x_5
 (W3 i7 0 xb5)
 (some (.r 13)))
 (some (.x ()))
def W2 (i7:Int) (xb5:bp):Option Int:=
 (aQ (λq:Int=>aX xb5 q) i7).bind (Fw.elim
 (λe=>an (decide ((len xb5.events)>64))
 (some 5)
 (some 0))
 (λe=>some e))
def aA (p1:Int) (tb2:Trace) (xb5:bp) (i6:Int):Option (Fw Int Unit Unit):=
 an (decide (i6<p1))
 ((idx tb2.procs i6).bind λx_3=>
 an (ByteArray.toList x_3.name==ByteArray.toList xb5.name)
 (some (.r ()))
 (some (.n (IntKind.wrap .i64 (i6+1)))))
 (some (.x ()))
def W1 (p1 i6:Int) (tb2:Trace) (xb5:bp):Option Int:=
 (aQ (λq:Int=>aA p1 tb2 xb5 q) i6).bind (Fw.elim
 (λe=>an (decide ((len xb5.vars)>8))
 (some 5)
 (cU.W2 0 xb5))
 (λe=>some 13))
end cU
def cU (t0:Trace) (p1:Int):Option Int:=
 (idx t0.procs p1).bind λx_1=>
 (fh x_1.name).bind λx_2=>
 an x_2
 (cU.W1 p1 0 t0 x_1)
 (some 13)
open cU in
instance PR (t0:Trace) (p1:Int):Fc Sy cL (cU t0 p1):=Fc.M 118 [enc t0,.int .i64 p1] (bL 2 2 t0 (aZ 8 λx_1 _=>gD 2 5 0 x_1 (aF 7 λx_2 _=>ck 3 17 (b7 11 (λqW1=>(aI [Iv 1 p1,Pv 2,Pv 5,Iv 6 qW1] [Xb 2 t0,Xb 5 x_1])) (λeW1=>(0,(aI [Pv 5] [Xb 5 x_1]))) (λeW1=>(aI [Iv 4 13] [])) (λqW1=>aG 9 20 (aZ 10 λx_3 _=>aG 7 31 af af) af) (λeW1=>aT 7 x_1.vars (aG 3 35 af (b7 11 (λqW2=>(aI [Pv 5,Iv 7 qW2] [Xb 5 x_1])) (λeW2=>(2,(aI [Pv 5] [Xb 5 x_1]))) (λeW2=>(aI [Iv 4 eW2] [])) (λqW2=>aT 7 x_1.vars (aG 3 40 (aZ 11 λx_4 _=>aF 2 λx_5 _=>ck 3 50 (b7 11 (λqW3=>(aI [Pv 5,Iv 7 qW2,Iv 8 qW3] [Xb 5 x_1])) (λeW3=>(4,(aI [Pv 5,Iv 7 qW2] [Xb 5 x_1]))) (λeW3=>(aI [Iv 4 13] [])) (λqW3=>aG 9 53 (aZ 10 λx_6 _=>aZ 5 λx_7 _=>aG 5 68 af af) af) (λeW3=>aZ 7 λx_8 _=>aF 2 λx_9 _=>ck 3 76 af af) (λeW3=>af)) af) af)) (λeW2=>aT 7 x_1.events (aG 3 80 af af)) (λeW2=>af)))) (λeW1=>af)) af)))
namespace cT
def c_ (p1 k8:Int) (tb3:Trace) (xb7:Event) (ab9:Assign) (j10:Int):Option (Fw Int Unit Unit):=
 an (decide (j10<k8))
 ((idx xb7.assign j10).bind λx_20=>
 an (x_20.var==ab9.var)
 (some (.r ()))
 (some (.n (IntKind.wrap .i64 (j10+1)))))
 (some (.x ()))
def W3 (p1 k8 j10:Int) (tb3:Trace) (xb7:Event) (ab9:Assign):Option (Fw Int Unit Int):=
 (aQ (λq:Int=>c_ p1 k8 tb3 xb7 ab9 q) j10).bind (Fw.elim
 (λe=>some (.n (IntKind.wrap .i64 (k8+1))))
 (λe=>some (.r 8)))
def aX (p1:Int) (tb3:Trace) (xb7:Event) (k8:Int):Option (Fw Int Unit Int):=
 an (decide (k8<(len xb7.assign)))
 ((idx xb7.assign k8).bind λx_15=>
 (an (decide (x_15.var<0))
 (some true)
 ((idx tb3.procs p1).bind λx_16=>
 some (decide (x_15.var>=(len x_16.vars)))):Option Bool).bind λx_17=>
 (an x_17
 (some true)
 ((nQ x_15.value).bind λx_18=>
 some (!x_18)):Option Bool).bind λx_19=>
 an x_19
 (some (.r 2))
 (W3 p1 k8 0 tb3 xb7 x_15))
 (some (.x ()))
def W2 (p1 k8:Int) (tb3:Trace) (xb7:Event):Option Int:=
 (aQ (λq:Int=>aX p1 tb3 xb7 q) k8).bind (Fw.elim
 (λe=>some 0)
 (λe=>some e))
def J1 (p1 i2:Int) (tb3:Trace) (xb7:Event):Option Int:=
 (an (decide (xb7.time<0))
 (some true)
 (some (decide (xb7.time>1099511627776))):Option Bool).bind λx_10=>
 (an x_10
 (some true)
 ((an (decide (i2>0))
 ((idx tb3.procs p1).bind λx_11=>
 (idx x_11.events (IntKind.wrap .i64 (i2-1))).bind λx_12=>
 some (decide (xb7.time<x_12.time)))
 (some false):Option Bool).bind λx_13=>
 some x_13):Option Bool).bind λx_14=>
 an x_14
 (some 11)
 (an (decide ((len xb7.assign)>8))
 (some 5)
 (cT.W2 p1 0 tb3 xb7))
theorem uS (p1 i2:Int) (tb3:Trace) (xb7:Event):Le ((J1 p1 i2 tb3 xb7).bind (λr=>some [.int .i64 r])) (bz Sy cL (pM (tr Tx 119)) (s_ (tb Tx 119) [1,1,1,0] [] (aI [Iv 1 p1,Iv 2 i2,Pv 3,Pv 7] [Xb 3 tb3,Xb 7 xb7]))):=
 aV 7 4 [71] 75 (aG 7 71 (aC 4) (aC 4)) λx_10=>aV 1 19 [2,76] 95 (aG 1 76 (aC 19) (aV 3 15 [2,79] 94 (aG 3 79 (aZ 5 λx_11 _=>aZ 4 λx_12 _=>aC 4) (aC 15)) λx_13=>aC 1)) λx_14=>aG 2 95 af (aT 8 xb7.assign (aG 3 99 af (b7 11 (λqW2=>(aI [Iv 1 p1,Pv 3,Pv 7,Iv 8 qW2] [Xb 3 tb3,Xb 7 xb7])) (λeW2=>(0,(aI [] []))) (λeW2=>(aI [Iv 6 eW2] [])) (λqW2=>aT 7 xb7.assign (aG 3 104 (aZ 10 λx_15 _=>aV 12 11 [115] 126 (aG 12 115 (aC 11) (aZ 5 λx_16 _=>aT 2 x_16.vars (aC 2))) λx_17=>DJ 1 5 [130] (λx_19=>(aI [Iv 1 p1,Pv 3,Pv 7,Iv 8 qW2,Bv 104 true,Pv 9,Bv 132 x_19] [Xb 3 tb3,Xb 7 xb7,Xb 9 x_15])) (aG 1 127 (aC 5) (d_ 2 λx_18 _=>aC 2)) λx_19=>aG 2 132 af (b7 10 (λqW3=>(aI [Iv 1 p1,Pv 3,Pv 7,Iv 8 qW2,Pv 9,Iv 10 qW3] [Xb 3 tb3,Xb 7 xb7,Xb 9 x_15])) (λeW3=>(2,(aI [Iv 1 p1,Pv 3,Pv 7,Iv 8 qW2] [Xb 3 tb3,Xb 7 xb7]))) (λeW3=>(aI [Iv 6 8] [])) (λqW3=>aG 9 135 (aZ 10 λx_20 _=>aG 7 146 af af) af) (λeW3=>af) (λeW3=>af))) af)) (λeW2=>af) (λeW2=>af))))
end cT
def cT (t0:Trace) (p1 i2:Int):Option Int:=
 (idx t0.procs p1).bind λx_1=>
 (idx x_1.events i2).bind λx_2=>
 an (x_2.kind==1)
 ((an (x_2.peer==0)
 (some (!(x_2.message==0)))
 (some true):Option Bool).bind λx_3=>
 an x_3
 (some 3)
 (cT.J1 p1 i2 t0 x_2))
 ((an (x_2.kind==2)
 (some false)
 (some (!(x_2.kind==3))):Option Bool).bind λx_4=>
 (an x_4
 (some true)
 (some (decide (x_2.peer<0))):Option Bool).bind λx_5=>
 (an x_5
 (some true)
 (some (decide (x_2.peer>=(len t0.procs)))):Option Bool).bind λx_6=>
 (an x_6
 (some true)
 (some (x_2.peer==p1)):Option Bool).bind λx_7=>
 (an x_7
 (some true)
 (some (decide (x_2.message<0))):Option Bool).bind λx_8=>
 (an x_8
 (some true)
 (some (decide (x_2.message>199))):Option Bool).bind λx_9=>
 an x_9
 (some 3)
 (cT.J1 p1 i2 t0 x_2))
open cT in
instance PB (t0:Trace) (p1 i2:Int):Fc Sy cL (cT t0 p1 i2):=Fc.M 119 [enc t0,.int .i64 p1,.int .i64 i2] (bL 2 3 t0 (aZ 8 λx_1 _=>aZ 3 λx_2 _=>gD 2 7 0 x_2 (aG 10 22 (aV 7 4 [26] 30 (ck 7 26 (aC 4) (aC 4)) λx_3=>aG 2 30 af (BT 4 (uS p1 i2 t0 x_2))) (aV 7 4 [34] 38 (ck 7 34 (aC 4) (aC 4)) λx_4=>aV 1 4 [39] 43 (aG 1 39 (aC 4) (aC 4)) λx_5=>aV 1 7 [44] 51 (aG 1 44 (aC 7) (aT 4 t0.procs (aC 2))) λx_6=>aV 1 5 [52] 57 (aG 1 52 (aC 5) (aC 5)) λx_7=>aV 1 4 [58] 62 (aG 1 58 (aC 4) (aC 4)) λx_8=>aV 1 4 [63] 67 (aG 1 63 (aC 4) (aC 4)) λx_9=>aG 2 67 af (BT 4 (uS p1 i2 t0 x_2))))))
namespace gu
def aA (tb2:Trace) (xb3:aa) (eb5:Event) (sent6:Bool) (i7:Int):Option (Fw (Bool×Int) Bool Empty):=
 (idx tb2.procs eb5.peer).bind λx_3=>
 an (decide (i7<(len x_3.events)))
 ((idx tb2.procs eb5.peer).bind λx_4=>
 (idx x_4.events i7).bind λx_5=>
 (an sent6
 (some true)
 ((an (x_5.kind==2)
 (some (x_5.message==eb5.message))
 (some false):Option Bool).bind λx_6=>
 (an x_6
 (some (x_5.peer==xb3.proc))
 (some false):Option Bool).bind λx_7=>
 some x_7):Option Bool).bind λx_8=>
 some (.n (x_8,IntKind.wrap .i64 (i7+1))))
 (some (.x sent6))
def W1 (sent6:Bool) (i7:Int) (tb2:Trace) (xb3:aa) (eb5:Event):Option Int:=
 (aQ (λq:Bool×Int=>aA tb2 xb3 eb5 q.1 q.2) (sent6,i7)).bind (Fw.elim
 (λe=>an e
 (some 0)
 (some 7))
 (λe=>Empty.elim e))
end gu
def gu (t0:Trace) (x1:aa):Option Int:=
 (sX t0 x1).bind λx_1=>
 an (x_1.kind==1)
 (some 0)
 ((cz t0 x_1.kind x_1.message).bind λx_2=>
 an (Ho x_2 x1)
 (an (x_1.kind==3)
 (gu.W1 false 0 t0 x1 x_1)
 (some 0))
 (some 8))
open gu in
instance Nl (t0:Trace) (x1:aa):Fc Sy cL (gu t0 x1):=Fc.M 120 [enc t0,enc x1] (bL 2 2 t0 (aF 8 λx_1 _=>gD 1 5 0 x_1 (aG 10 14 af (d_ 11 λx_2 _=>ck 4 22 (aG 11 25 (jv 14 (λqW1=>(aI [Pv 2,Pv 3,Pv 5,Bv 6 qW1.1,Iv 7 qW1.2] [Xb 2 t0,Xb 3 x1,Xb 5 x_1])) (λeW1=>(0,(aI [Bv 6 eW1] []))) (λqW1=>aZ 9 λx_3 _=>aT 2 x_3.events (aG 3 35 (aZ 11 λx_4 _=>aZ 3 λx_5 _=>gD 2 8 0 x_5 (aV 5 18 [8,49] 67 (aG 5 49 (aC 18) (aV 4 6 [53] 59 (aG 4 53 (aC 6) (aC 6)) λx_6=>aV 1 6 [8,60] 66 (aG 1 60 (aC 6) (aC 6)) λx_7=>aC 1)) λx_8=>af)) af)) (λeW1=>ck 8 69 af af)) af) af))))
namespace bT
def J4 (done3:Sl Int) (p5:Int) (tb1:Trace):Option (Fw ((Sl Int)×Bool) ((Sl Int)×Bool) Empty):=
 (Sl.mm done3 p5).bind λx_12=>
 (Sl.get done3 x_12).bind λx_13=>
 (Sl.mm done3 p5).bind λx_14=>
 (Sl.put done3 x_14 (IntKind.wrap .i64 (x_13+1):Int)).bind λx_15=>
 some (.n (x_15,true))
def c_ (p5:Int) (tb1:Trace) (done3:Sl Int) (moved4:Bool):Option (Fw ((Sl Int)×Bool) ((Sl Int)×Bool) Empty):=
 (Sl.mm done3 p5).bind λx_2=>
 (Sl.get done3 x_2).bind λx_3=>
 (idx tb1.procs p5).bind λx_4=>
 an (decide (x_3<(len x_4.events)))
 ((idx tb1.procs p5).bind λx_5=>
 (Sl.mm done3 p5).bind λx_6=>
 (Sl.get done3 x_6).bind λx_7=>
 (idx x_5.events x_7).bind λx_8=>
 an (x_8.kind==3)
 ((cz tb1 2 x_8.message).bind λx_9=>
 (Sl.mm done3 x_9.proc).bind λx_10=>
 (Sl.get done3 x_10).bind λx_11=>
 an (decide (x_11<x_9.index))
 (some (.x (done3,moved4)))
 (J4 done3 p5 tb1))
 (J4 done3 p5 tb1))
 (some (.x (done3,moved4)))
def W3 (done3:Sl Int) (moved4:Bool) (p5:Int) (tb1:Trace):Option (Fw ((Sl Int)×Bool×Int) ((Sl Int)×Bool) Empty):=
 (aQ (λq:(Sl Int)×Bool=>c_ p5 tb1 q.1 q.2) (done3,moved4)).bind (Fw.elim
 (λe=>some (.n (e.1,e.2,IntKind.wrap .i64 (p5+1))))
 (λe=>Empty.elim e))
def aX (tb1:Trace) (done3:Sl Int) (moved4:Bool) (p5:Int):Option (Fw ((Sl Int)×Bool×Int) ((Sl Int)×Bool) Empty):=
 an (decide (p5<(len tb1.procs)))
 (W3 done3 moved4 p5 tb1)
 (some (.x (done3,moved4)))
def W2 (done3:Sl Int) (moved4:Bool) (p5:Int) (tb1:Trace):Option (Fw (Sl Int) (Sl Int) Empty):=
 (aQ (λq:(Sl Int)×Bool×Int=>aX tb1 q.1 q.2.1 q.2.2) (done3,moved4,p5)).bind (Fw.elim
 (λe=>an e.2
 (some (.n e.1))
 (some (.x e.1)))
 (λe=>Empty.elim e))
def oQ (done3:Sl Int) (tb1:Trace) (p8:Int):Option (Fw Int Unit Unit):=
 an (decide (p8<(len tb1.procs)))
 ((Sl.mm done3 p8).bind λx_16=>
 (Sl.get done3 x_16).bind λx_17=>
 (idx tb1.procs p8).bind λx_18=>
 an (decide (x_17<(len x_18.events)))
 (some (.r ()))
 (some (.n (IntKind.wrap .i64 (p8+1)))))
 (some (.x ()))
def W5 (done3:Sl Int) (p8:Int) (tb1:Trace):Option Bool:=
 (aQ (λq:Int=>oQ done3 tb1 q) p8).bind (Fw.elim
 (λe=>some true)
 (λe=>some false))
def aA (tb1:Trace) (done3:Sl Int):Option (Fw (Sl Int) (Sl Int) Empty):=
 W2 done3 false 0 tb1
def W1 (done3:Sl Int) (tb1:Trace):Option Bool:=
 (aQ (λq:Sl Int=>aA tb1 q) done3).bind (Fw.elim
 (λe=>bT.W5 e 0 tb1)
 (λe=>Empty.elim e))
end bT
def bT (t0:Trace):Option Bool:=
 (nZ (len t0.procs) (0:Int)).bind λx_1=>
 bT.W1 x_1 t0
open bT in
instance Mf (t0:Trace):Fc Sy cL (bT t0):=Fc.M 121 [enc t0] (bL 2 1 t0 (aT 7 t0.procs (Te 0 12 λx_1 _=>jv 7 (λqW1=>(aI [Pv 1,Ov 3] [Xb 1 t0,Lb 2003 qW1])) (λeW1=>(0,(aI [Pv 1,Ov 3] [Xb 1 t0,Lb 2003 eW1]))) (λqW1=>jv 17 (λqW2=>(aI [Pv 1,Ov 3,Bv 4 qW2.2.1,Iv 5 qW2.2.2] [Xb 1 t0,Lb 2003 qW2.1])) (λeW2=>(2,(aI [Pv 1,Ov 3,Bv 4 eW2.2] [Xb 1 t0,Lb 2003 eW2.1]))) (λqW2=>aT 8 t0.procs (aG 3 17 (jv 8 (λqW3=>(aI [Pv 1,Ov 3,Bv 4 qW3.2,Iv 5 qW2.2.2] [Xb 1 t0,Lb 2003 qW3.1])) (λeW3=>(4,(aI [Pv 1,Ov 3,Bv 4 eW3.2,Iv 5 qW2.2.2] [Xb 1 t0,Lb 2003 eW3.1]))) (λqW3=>ox .i64 7 2003 λx_2 _=>uB 0 2003 0 1 false (λx_3=>.int .i64 x_3) λx_3 _=>aZ 3 λx_4 _=>aT 2 x_4.events (aG 3 31 (aZ 9 λx_5 _=>ox .i64 4 2003 λx_6 _=>uB 0 2003 0 1 false (λx_7=>.int .i64 x_7) λx_7 _=>aZ 0 λx_8 _=>gD 2 6 0 x_8 (aG 10 46 (aF 6 λx_9 _=>ox .i64 9 2003 λx_10 _=>uB 0 2003 0 1 false (λx_11=>.int .i64 x_11) λx_11 _=>aG 5 58 af (yb 5 (ox .i64 4 2003 λx_12 _=>uB 0 2003 0 1 false (λx_13=>.int .i64 x_13) λx_13 _=>ox .i64 1 2003 λx_14 _=>Cg 0 2003 (.int .i64 (IntKind.wrap .i64 (x_13+1))) λx_15 _=>af))) (yb 5 (ox .i64 4 2003 λx_12 _=>uB 0 2003 0 1 false (λx_13=>.int .i64 x_13) λx_13 _=>ox .i64 1 2003 λx_14 _=>Cg 0 2003 (.int .i64 (IntKind.wrap .i64 (x_13+1))) λx_15 _=>af)))) af)) (λeW3=>af)) af)) (λeW2=>ck 8 66 af af)) (λeW1=>b7 11 (λqW5=>(aI [Pv 1,Ov 3,Iv 8 qW5] [Xb 1 t0,Lb 2003 eW1])) (λeW5=>(6,(aI [] []))) (λeW5=>(aI [Bv 2 false] [])) (λqW5=>aT 8 t0.procs (aG 3 71 (ox .i64 9 2003 λx_16 _=>uB 0 2003 0 1 false (λx_17=>.int .i64 x_17) λx_17 _=>aZ 3 λx_18 _=>aT 2 x_18.events (aG 3 85 af af)) af)) (λeW5=>af) (λeW5=>af)))))
instance PI (t:Trace) (x:aa):Fc Sy cL (lB t x):=Fc.of (A:=λz:Trace×aa=>[enc z.1,enc z.2]) (E:=λr:Sl (Sl Bool)=>[enc r]) (p:=λz=>lB z.1 z.2) (n:=122) (z:=(t,x)) (lX.QH (by kernel_rfl) (by kernel_rfl) (λz r hr=>Mj z.1 z.2 r hr))
namespace bO
def c_ (p6:Int) (tb1:Trace) (vb2:aa) (i7:Int):Option (Fw Int Unit (Int×aa)):=
 (idx tb1.procs p6).bind λx_3=>
 an (decide (i7<(len x_3.events)))
 ((cT tb1 p6 i7).bind λx_4=>
 an (x_4==0)
 (some (.n (IntKind.wrap .i64 (i7+1))))
 (some (.r (x_4,(⟨p6,IntKind.wrap .i64 (i7+1)⟩:aa)))))
 (some (.x ()))
def W3 (p6 i7:Int) (tb1:Trace) (vb2:aa):Option (Fw Int Unit (Int×aa)):=
 (aQ (λq:Int=>c_ p6 tb1 vb2 q) i7).bind (Fw.elim
 (λe=>some (.n (IntKind.wrap .i64 (p6+1))))
 (λe=>some (.r (e.1,e.2))))
def oQ (p9:Int) (tb1:Trace) (vb2:aa) (i10:Int):Option (Fw Int Unit (Int×aa)):=
 (idx tb1.procs p9).bind λx_5=>
 an (decide (i10<(len x_5.events)))
 ((gu tb1 (⟨p9,IntKind.wrap .i64 (i10+1)⟩:aa)).bind λx_6=>
 an (x_6==0)
 (some (.n (IntKind.wrap .i64 (i10+1))))
 (some (.r (x_6,(⟨p9,IntKind.wrap .i64 (i10+1)⟩:aa)))))
 (some (.x ()))
def W5 (p9 i10:Int) (tb1:Trace) (vb2:aa):Option (Fw Int Unit (Int×aa)):=
 (aQ (λq:Int=>oQ p9 tb1 vb2 q) i10).bind (Fw.elim
 (λe=>some (.n (IntKind.wrap .i64 (p9+1))))
 (λe=>some (.r (e.1,e.2))))
def Hv (p13:Int) (tb1:Trace) (vb2:aa) (i14:Int):Option (Fw Int Unit aa):=
 (idx tb1.procs p13).bind λx_7=>
 an (decide (i14<(len x_7.events)))
 ((lB tb1 (⟨p13,IntKind.wrap .i64 (i14+1)⟩:aa)).bind λx_8=>
 (idx x_8 p13).bind λx_9=>
 (idx x_9 (IntKind.wrap .i64 (i14+1))).bind λx_10=>
 an x_10
 (some (.r (⟨p13,IntKind.wrap .i64 (i14+1)⟩:aa)))
 (some (.n (IntKind.wrap .i64 (i14+1)))))
 (some (.x ()))
def W7 (p13 i14:Int) (tb1:Trace) (vb2:aa):Option (Fw Int Unit aa):=
 (aQ (λq:Int=>Hv p13 tb1 vb2 q) i14).bind (Fw.elim
 (λe=>some (.n (IntKind.wrap .i64 (p13+1))))
 (λe=>some (.r e)))
def GL (tb1:Trace) (vb2:aa) (p13:Int):Option (Fw Int Unit aa):=
 an (decide (p13<(len tb1.procs)))
 (W7 p13 0 tb1 vb2)
 (some (.x ()))
def W6 (p13:Int) (tb1:Trace) (vb2:aa):Option (aa×Int):=
 (aQ (λq:Int=>GL tb1 vb2 q) p13).bind (Fw.elim
 (λe=>some (⟨0,0⟩,0))
 (λe=>some (e,10)))
def mZ (tb1:Trace) (vb2:aa) (p9:Int):Option (Fw Int Unit (Int×aa)):=
 an (decide (p9<(len tb1.procs)))
 (W5 p9 0 tb1 vb2)
 (some (.x ()))
def W4 (p9:Int) (tb1:Trace) (vb2:aa):Option (aa×Int):=
 (aQ (λq:Int=>mZ tb1 vb2 q) p9).bind (Fw.elim
 (λe=>(bT tb1).bind λx_11=>
 an x_11
 (some (⟨0,0⟩,0))
 (bO.W6 0 tb1 vb2))
 (λe=>some (e.2,e.1)))
def aX (tb1:Trace) (vb2:aa) (p6:Int):Option (Fw Int Unit (Int×aa)):=
 an (decide (p6<(len tb1.procs)))
 (W3 p6 0 tb1 vb2)
 (some (.x ()))
def W2 (p6:Int) (tb1:Trace) (vb2:aa):Option (aa×Int):=
 (aQ (λq:Int=>aX tb1 vb2 q) p6).bind (Fw.elim
 (λe=>bO.W4 0 tb1 vb2)
 (λe=>some (e.2,e.1)))
def aA (tb1:Trace) (vb2:aa) (p4:Int):Option (Fw Int Unit (Int×aa)):=
 an (decide (p4<(len tb1.procs)))
 ((cU tb1 p4).bind λx_2=>
 an (x_2==0)
 (some (.n (IntKind.wrap .i64 (p4+1))))
 (some (.r (x_2,(⟨p4,0⟩:aa)))))
 (some (.x ()))
def W1 (p4:Int) (tb1:Trace) (vb2:aa):Option (aa×Int):=
 (aQ (λq:Int=>aA tb1 vb2 q) p4).bind (Fw.elim
 (λe=>bO.W2 0 tb1 vb2)
 (λe=>some (e.2,e.1)))
end bO
def bO (t0:Trace):Option (aa×Int):=
 (an (decide ((len t0.procs)<1))
 (some true)
 (some (decide ((len t0.procs)>8))):Option Bool).bind λx_1=>
 an x_1
 (some (⟨0,0⟩,1))
 (bO.W1 0 t0 (⟨0,0⟩:aa))
open bO in
instance N4 (t0:Trace):Fc Sy cL (bO t0):=Fc.M 92 [enc t0] (bL 2 1 t0 (aT 9 t0.procs (aV 2 5 [20] 25 (aG 2 20 (aC 5) (aT 2 t0.procs (aC 2))) λx_1=>aG 2 25 af (b7 11 (λqW1=>(aI [Pv 1,Pv 2,Iv 4 qW1] [Xb 1 t0,Xb 2 (⟨0,0⟩:aa)])) (λeW1=>(0,(aI [Pv 1,Pv 2] [Xb 1 t0,Xb 2 (⟨0,0⟩:aa)]))) (λeW1=>(aI [Pv 2,Iv 3 eW1.1] [Xb 2 eW1.2])) (λqW1=>aT 7 t0.procs (aG 3 31 (aF 9 λx_2 _=>ck 9 38 af af) af)) (λeW1=>b7 10 (λqW2=>(aI [Pv 1,Pv 2,Iv 6 qW2] [Xb 1 t0,Xb 2 (⟨0,0⟩:aa)])) (λeW2=>(2,(aI [Pv 1,Pv 2] [Xb 1 t0,Xb 2 (⟨0,0⟩:aa)]))) (λeW2=>(aI [Pv 2,Iv 3 eW2.1] [Xb 2 eW2.2])) (λqW2=>aT 7 t0.procs (aG 3 46 (b7 12 (λqW3=>(aI [Pv 1,Pv 2,Iv 6 qW2,Iv 7 qW3] [Xb 1 t0,Xb 2 (⟨0,0⟩:aa)])) (λeW3=>(4,(aI [Pv 1,Pv 2,Iv 6 qW2] [Xb 1 t0,Xb 2 (⟨0,0⟩:aa)]))) (λeW3=>(aI [Pv 2,Iv 3 eW3.1] [Xb 2 eW3.2])) (λqW3=>aZ 8 λx_3 _=>aT 2 x_3.events (aG 3 57 (aF 10 λx_4 _=>ck 9 65 af af) af)) (λeW3=>af) (λeW3=>af)) af)) (λeW2=>b7 10 (λqW4=>(aI [Pv 1,Pv 2,Iv 9 qW4] [Xb 1 t0,Xb 2 (⟨0,0⟩:aa)])) (λeW4=>(6,(aI [Pv 1,Pv 2] [Xb 1 t0,Xb 2 (⟨0,0⟩:aa)]))) (λeW4=>(aI [Pv 2,Iv 3 eW4.1] [Xb 2 eW4.2])) (λqW4=>aT 7 t0.procs (aG 3 75 (b7 12 (λqW5=>(aI [Pv 1,Pv 2,Iv 9 qW4,Iv 10 qW5] [Xb 1 t0,Xb 2 (⟨0,0⟩:aa)])) (λeW5=>(8,(aI [Pv 1,Pv 2,Iv 9 qW4] [Xb 1 t0,Xb 2 (⟨0,0⟩:aa)]))) (λeW5=>(aI [Pv 2,Iv 3 eW5.1] [Xb 2 eW5.2])) (λqW5=>aZ 8 λx_5 _=>aT 2 x_5.events (aG 3 86 (aF 19 λx_6 _=>ck 9 97 af af) af)) (λeW5=>af) (λeW5=>af)) af)) (λeW4=>aF 6 λx_11 _=>aG 2 101 af (b7 11 (λqW6=>(aI [Pv 1,Pv 2,Iv 13 qW6] [Xb 1 t0,Xb 2 (⟨0,0⟩:aa)])) (λeW6=>(10,(aI [Pv 2] [Xb 2 (⟨0,0⟩:aa)]))) (λeW6=>(aI [Pv 2,Iv 3 10] [Xb 2 eW6])) (λqW6=>aT 7 t0.procs (aG 3 107 (b7 12 (λqW7=>(aI [Pv 1,Pv 2,Iv 13 qW6,Iv 14 qW7] [Xb 1 t0,Xb 2 (⟨0,0⟩:aa)])) (λeW7=>(12,(aI [Pv 1,Pv 2,Iv 13 qW6] [Xb 1 t0,Xb 2 (⟨0,0⟩:aa)]))) (λeW7=>(aI [Pv 2,Iv 3 10] [Xb 2 eW7])) (λqW7=>aZ 8 λx_7 _=>aT 2 x_7.events (aG 3 118 (aF 19 λx_8 _=>aZ 1 λx_9 _=>aZ 3 λx_10 _=>aG 3 134 af af) af)) (λeW7=>af) (λeW7=>af)) af)) (λeW6=>af) (λeW6=>af))) (λeW4=>af)) (λeW2=>af)) (λeW1=>af)))))
def iV (t0:Trace):Option Bool:=
 (bO t0).bind λx_1=>
 some (x_1.2==0)
instance Pk (t0:Trace):Fc Sy cL (iV t0):=Fc.M 48 [enc t0] (bL 2 1 t0 (aF 6 λx_1 _=>af))
def vF (t0:Trace) (c1:Sl Int):Option Bool:=
 some ((len c1)==(len t0.procs))
instance PE (t0:Trace) (c1:Sl Int):Fc Sy cL (vF t0 c1):=Fc.M 93 [enc t0,enc c1] (bL 2 2 t0 (aT 6 c1 (aT 2 t0.procs af)))
namespace kG
def aA (c1:Sl Int) (tb2:Trace) (p5:Int):Option (Fw Int Unit Unit):=
 an (decide (p5<(len c1)))
 ((idx c1 p5).bind λx_1=>
 (an (decide (x_1<0))
 (some true)
 ((idx c1 p5).bind λx_2=>
 (idx tb2.procs p5).bind λx_3=>
 some (decide (x_2>(len x_3.events)))):Option Bool).bind λx_4=>
 an x_4
 (some (.r ()))
 (some (.n (IntKind.wrap .i64 (p5+1)))))
 (some (.x ()))
def W1 (c1:Sl Int) (p5:Int) (tb2:Trace):Option Bool:=
 (aQ (λq:Int=>aA c1 tb2 q) p5).bind (Fw.elim
 (λe=>some true)
 (λe=>some false))
end kG
def kG (t0:Trace) (c1:Sl Int):Option Bool:=
 kG.W1 c1 0 t0
open kG in
instance Oc (t0:Trace) (c1:Sl Int):Fc Sy cL (kG t0 c1):=Fc.M 94 [enc t0,enc c1] (bL 2 2 t0 (b7 11 (λqW1=>(aI [Cv 1 c1,Pv 2,Iv 5 qW1] [Xb 2 t0])) (λeW1=>(0,(aI [] []))) (λeW1=>(aI [Bv 4 false] [])) (λqW1=>aT 6 c1 (aG 3 9 (aZ 9 λx_1 _=>aV 3 13 [17] 30 (aG 3 17 (aC 13) (aZ 2 λx_2 _=>aZ 4 λx_3 _=>aT 2 x_3.events (aC 2))) λx_4=>aG 2 30 af af) af)) (λeW1=>af) (λeW1=>af)))
def vm (t0:Trace) (c1:Sl Int) (p2 i3:Int):Option Bool:=
 (idx t0.procs p2).bind λx_1=>
 (idx x_1.events i3).bind λx_2=>
 an (x_2.kind==3)
 ((cz t0 2 x_2.message).bind λx_3=>
 (idx c1 x_3.proc).bind λx_4=>
 some (decide (x_3.index<=x_4)))
 (some true)
instance PU (t0:Trace) (c1:Sl Int) (p2 i3:Int):Fc Sy cL (vm t0 c1 p2 i3):=Fc.M 123 [enc t0,enc c1,.int .i64 p2,.int .i64 i3] (bL 2 4 t0 (aZ 8 λx_1 _=>aZ 3 λx_2 _=>gD 2 9 0 x_2 (ck 10 22 (aF 8 λx_3 _=>aZ 11 λx_4 _=>af) af)))
namespace dI
def aX (c1:Sl Int) (p5:Int) (tb2:Trace) (i6:Int):Option (Fw Int Unit Unit):=
 (idx c1 p5).bind λx_1=>
 an (decide (i6<x_1))
 ((vm tb2 c1 p5 i6).bind λx_2=>
 an x_2
 (some (.n (IntKind.wrap .i64 (i6+1))))
 (some (.r ())))
 (some (.x ()))
def W2 (c1:Sl Int) (p5 i6:Int) (tb2:Trace):Option (Fw Int Unit Unit):=
 (aQ (λq:Int=>aX c1 p5 tb2 q) i6).bind (Fw.elim
 (λe=>some (.n (IntKind.wrap .i64 (p5+1))))
 (λe=>some (.r ())))
def aA (c1:Sl Int) (tb2:Trace) (p5:Int):Option (Fw Int Unit Unit):=
 an (decide (p5<(len c1)))
 (W2 c1 p5 0 tb2)
 (some (.x ()))
def W1 (c1:Sl Int) (p5:Int) (tb2:Trace):Option Bool:=
 (aQ (λq:Int=>aA c1 tb2 q) p5).bind (Fw.elim
 (λe=>some true)
 (λe=>some false))
end dI
def dI (t0:Trace) (c1:Sl Int):Option Bool:=
 dI.W1 c1 0 t0
open dI in
instance NQ (t0:Trace) (c1:Sl Int):Fc Sy cL (dI t0 c1):=Fc.M 95 [enc t0,enc c1] (bL 2 2 t0 (b7 11 (λqW1=>(aI [Cv 1 c1,Pv 2,Iv 5 qW1] [Xb 2 t0])) (λeW1=>(0,(aI [] []))) (λeW1=>(aI [Bv 4 false] [])) (λqW1=>aT 6 c1 (aG 3 10 (b7 12 (λqW2=>(aI [Cv 1 c1,Pv 2,Iv 5 qW1,Iv 6 qW2] [Xb 2 t0])) (λeW2=>(2,(aI [Cv 1 c1,Pv 2,Iv 5 qW1] [Xb 2 t0]))) (λeW2=>(aI [Bv 4 false] [])) (λqW2=>aZ 7 λx_1 _=>aG 4 18 (aF 11 λx_2 _=>ck 3 26 af af) af) (λeW2=>af) (λeW2=>af)) af)) (λeW1=>af) (λeW1=>af)))
def gG (t0:Trace) (c1:Sl Int):Option Bool:=
 (iV t0).bind λx_1=>
 (an x_1
 ((vF t0 c1).bind λx_2=>
 some x_2)
 (some false):Option Bool).bind λx_3=>
 (an x_3
 ((kG t0 c1).bind λx_4=>
 some x_4)
 (some false):Option Bool).bind λx_5=>
 (an x_5
 ((dI t0 c1).bind λx_6=>
 some x_6)
 (some false):Option Bool).bind λx_7=>
 some x_7
instance Jp (t0:Trace) (c1:Sl Int):Fc Sy cL (gG t0 c1):=Fc.M 49 [enc t0,enc c1] (bL 2 2 t0 (aF 6 λx_1 _=>aV 1 4 [7] 11 (aG 1 7 (aF 2 λx_2 _=>aC 1) (aC 4)) λx_3=>aV 1 4 [12] 16 (aG 1 12 (aF 2 λx_4 _=>aC 1) (aC 4)) λx_5=>aV 1 4 [1,2,17] 21 (aG 1 17 (aF 2 λx_6 _=>aC 1) (aC 4)) λx_7=>af))
namespace eZ
def aA (a0 b1:Sl Int) (i5:Int):Option (Fw Int Unit Unit):=
 an (decide (i5<(len a0)))
 ((idx a0 i5).bind λx_1=>
 (idx b1 i5).bind λx_2=>
 an (decide (x_1>x_2))
 (some (.r ()))
 (some (.n (IntKind.wrap .i64 (i5+1)))))
 (some (.x ()))
def W1 (a0 b1:Sl Int) (i5:Int):Option Bool:=
 (aQ (λq:Int=>aA a0 b1 q) i5).bind (Fw.elim
 (λe=>some true)
 (λe=>some false))
end eZ
def eZ (a0 b1:Sl Int):Option Bool:=
 an ((len a0)==(len b1))
 (eZ.W1 a0 b1 0)
 (some false)
open eZ in
instance Ro (a0 b1:Sl Int):Fc Sy cL (eZ a0 b1):=Fc.M 50 [enc a0,enc b1] (aT 9 a0 (aT 1 b1 (ck 3 10 (b7 11 (λqW1=>(aI [Cv 0 a0,Cv 1 b1,Iv 5 qW1] [])) (λeW1=>(0,(aI [] []))) (λeW1=>(aI [Bv 4 false] [])) (λqW1=>aT 6 a0 (aG 3 14 (aZ 9 λx_1 _=>aZ 3 λx_2 _=>aG 4 25 af af) af)) (λeW1=>af) (λeW1=>af)) af)))
namespace dK
def aA (a0 b1:Sl Int) (i5:Int):Option (Fw Int Unit Unit):=
 an (decide (i5<(len a0)))
 ((idx a0 i5).bind λx_1=>
 (idx b1 i5).bind λx_2=>
 an (x_1==x_2)
 (some (.n (IntKind.wrap .i64 (i5+1))))
 (some (.r ())))
 (some (.x ()))
def W1 (a0 b1:Sl Int) (i5:Int):Option Bool:=
 (aQ (λq:Int=>aA a0 b1 q) i5).bind (Fw.elim
 (λe=>some true)
 (λe=>some false))
end dK
def dK (a0 b1:Sl Int):Option Bool:=
 an ((len a0)==(len b1))
 (dK.W1 a0 b1 0)
 (some false)
open dK in
instance K9 (a0 b1:Sl Int):Fc Sy cL (dK a0 b1):=Fc.M 54 [enc a0,enc b1] (aT 9 a0 (aT 1 b1 (ck 3 10 (b7 11 (λqW1=>(aI [Cv 0 a0,Cv 1 b1,Iv 5 qW1] [])) (λeW1=>(0,(aI [] []))) (λeW1=>(aI [Bv 4 false] [])) (λqW1=>aT 6 a0 (aG 3 14 (aZ 9 λx_1 _=>aZ 3 λx_2 _=>ck 4 25 af af) af)) (λeW1=>af) (λeW1=>af)) af)))
def oM (t0:Trace) (s1:Slice) (p2 i3:Int):Option Bool:=
 (idx s1.j p2).bind λx_1=>
 (idx x_1 i3).bind λx_2=>
 (idx s1.last p2).bind λx_3=>
 an (decide (i3>=x_3))
 (some ((len x_2)==0))
 ((idx s1.first p2).bind λx_4=>
 an (decide (i3<x_4))
 ((dK x_2 s1.first).bind λx_5=>
 some x_5)
 ((gG t0 x_2).bind λx_6=>
 (an x_6
 ((idx x_2 p2).bind λx_7=>
 some (decide (x_7>i3)))
 (some false):Option Bool).bind λx_8=>
 (an x_8
 ((eZ s1.first x_2).bind λx_9=>
 some x_9)
 (some false):Option Bool).bind λx_10=>
 (an x_10
 ((eZ x_2 s1.last).bind λx_11=>
 some x_11)
 (some false):Option Bool).bind λx_12=>
 some x_12))
instance MH (t0:Trace) (s1:Slice) (p2 i3:Int):Fc Sy cL (oM t0 s1 p2 i3):=Fc.M 51 [enc t0,enc s1,.int .i64 p2,.int .i64 i3] (bL 2 4 t0 (bL 0 5 s1 (aZ 8 λx_1 _=>aZ 2 λx_2 _=>aZ 11 λx_3 _=>aG 4 24 (aT 4 x_2 af) (aZ 10 λx_4 _=>aG 4 34 (aF 6 λx_5 _=>af) (aF 7 λx_6 _=>aV 1 7 [2,3,42] 49 (aG 1 42 (aZ 2 λx_7 _=>aC 4) (aC 7)) λx_8=>aV 1 5 [50] 55 (aG 1 50 (aF 3 λx_9 _=>aC 1) (aC 5)) λx_10=>aV 1 5 [5,9,56] 61 (aG 1 56 (aF 3 λx_11 _=>aC 1) (aC 5)) λx_12=>af)))))
namespace dH
def aX (c1:Sl Int) (p5:Int) (sb2:Slice) (i6:Int):Option (Fw Int Unit Unit):=
 (idx c1 p5).bind λx_1=>
 an (decide (i6<x_1))
 ((idx sb2.j p5).bind λx_2=>
 (idx x_2 i6).bind λx_3=>
 (eZ x_3 c1).bind λx_4=>
 an x_4
 (some (.n (IntKind.wrap .i64 (i6+1))))
 (some (.r ())))
 (some (.x ()))
def W2 (c1:Sl Int) (p5 i6:Int) (sb2:Slice):Option (Fw Int Unit Unit):=
 (aQ (λq:Int=>aX c1 p5 sb2 q) i6).bind (Fw.elim
 (λe=>some (.n (IntKind.wrap .i64 (p5+1))))
 (λe=>some (.r ())))
def aA (c1:Sl Int) (sb2:Slice) (p5:Int):Option (Fw Int Unit Unit):=
 an (decide (p5<(len c1)))
 (W2 c1 p5 0 sb2)
 (some (.x ()))
def W1 (c1:Sl Int) (p5:Int) (sb2:Slice):Option Bool:=
 (aQ (λq:Int=>aA c1 sb2 q) p5).bind (Fw.elim
 (λe=>some true)
 (λe=>some false))
end dH
def dH (s0:Slice) (c1:Sl Int):Option Bool:=
 dH.W1 c1 0 s0
open dH in
instance NG (s0:Slice) (c1:Sl Int):Fc Sy cL (dH s0 c1):=Fc.M 52 [enc s0,enc c1] (bL 2 2 s0 (b7 11 (λqW1=>(aI [Cv 1 c1,Pv 2,Iv 5 qW1] [Xb 2 s0])) (λeW1=>(0,(aI [] []))) (λeW1=>(aI [Bv 4 false] [])) (λqW1=>aT 6 c1 (aG 3 10 (b7 12 (λqW2=>(aI [Cv 1 c1,Pv 2,Iv 5 qW1,Iv 6 qW2] [Xb 2 s0])) (λeW2=>(2,(aI [Cv 1 c1,Pv 2,Iv 5 qW1] [Xb 2 s0]))) (λeW2=>(aI [Bv 4 false] [])) (λqW2=>aZ 7 λx_1 _=>aG 4 18 (aZ 10 λx_2 _=>aZ 2 λx_3 _=>aF 2 λx_4 _=>ck 3 31 af af) af) (λeW2=>af) (λeW2=>af)) af)) (λeW1=>af) (λeW1=>af)))
namespace b8
def aX (p5:Int) (tb2:Trace) (sb3:Slice) (i6:Int):Option (Fw Int Unit Unit):=
 (idx sb3.j p5).bind λx_12=>
 an (decide (i6<(len x_12)))
 ((oM tb2 sb3 p5 i6).bind λx_13=>
 an x_13
 (some (.n (IntKind.wrap .i64 (i6+1))))
 (some (.r ())))
 (some (.x ()))
def W2 (p5 i6:Int) (tb2:Trace) (sb3:Slice):Option (Fw Int Unit Unit):=
 (aQ (λq:Int=>aX p5 tb2 sb3 q) i6).bind (Fw.elim
 (λe=>some (.n (IntKind.wrap .i64 (p5+1))))
 (λe=>some (.r ())))
def mZ (p7:Int) (sb3:Slice) (i8:Int):Option (Fw Int Unit Unit):=
 (idx sb3.last p7).bind λx_14=>
 an (decide (i8<x_14))
 ((idx sb3.j p7).bind λx_15=>
 (idx x_15 i8).bind λx_16=>
 (dH sb3 x_16).bind λx_17=>
 an x_17
 (some (.n (IntKind.wrap .i64 (i8+1))))
 (some (.r ())))
 (some (.x ()))
def W4 (p7 i8:Int) (sb3:Slice):Option (Fw Int Unit Unit):=
 (aQ (λq:Int=>mZ p7 sb3 q) i8).bind (Fw.elim
 (λe=>some (.n (IntKind.wrap .i64 (p7+1))))
 (λe=>some (.r ())))
def c_ (sb3:Slice) (p7:Int):Option (Fw Int Unit Unit):=
 an (decide (p7<(len sb3.j)))
 (W4 p7 0 sb3)
 (some (.x ()))
def W3 (p7:Int) (sb3:Slice):Option Bool:=
 (aQ (λq:Int=>c_ sb3 q) p7).bind (Fw.elim
 (λe=>some true)
 (λe=>some false))
def aA (tb2:Trace) (sb3:Slice) (p5:Int):Option (Fw Int Unit Unit):=
 an (decide (p5<(len sb3.j)))
 ((idx sb3.j p5).bind λx_10=>
 (idx tb2.procs p5).bind λx_11=>
 an ((len x_10)==(len x_11.events))
 (W2 p5 0 tb2 sb3)
 (some (.r ())))
 (some (.x ()))
def W1 (p5:Int) (tb2:Trace) (sb3:Slice):Option Bool:=
 (aQ (λq:Int=>aA tb2 sb3 q) p5).bind (Fw.elim
 (λe=>b8.W3 0 sb3)
 (λe=>some false))
end b8
def b8 (t0:Trace) (s1:Slice):Option Bool:=
 (iV t0).bind λx_1=>
 an x_1
 (an s1.empty
 ((an ((len s1.first)==0)
 (some ((len s1.last)==0))
 (some false):Option Bool).bind λx_2=>
 (an x_2
 (some ((len s1.j)==0))
 (some false):Option Bool).bind λx_3=>
 some x_3)
 ((gG t0 s1.first).bind λx_4=>
 (an x_4
 ((gG t0 s1.last).bind λx_5=>
 some (!x_5))
 (some true):Option Bool).bind λx_6=>
 (an x_6
 (some true)
 ((eZ s1.first s1.last).bind λx_7=>
 some (!x_7)):Option Bool).bind λx_8=>
 (an x_8
 (some true)
 (some (!((len s1.j)==(len t0.procs)))):Option Bool).bind λx_9=>
 an x_9
 (some false)
 (b8.W1 0 t0 s1)))
 (some false)
open b8 in
instance N0 (t0:Trace) (s1:Slice):Fc Sy cL (b8 t0 s1):=Fc.M 13 [enc t0,enc s1] (bL 2 2 t0 (bL 0 3 s1 (aF 7 λx_1 _=>ck 3 11 (aG 10 13 (aT 5 s1.first (aV 2 5 [18] 23 (aG 2 18 (aT 2 s1.last (aC 2)) (aC 5)) λx_2=>aV 1 5 [3,24] 29 (aG 1 24 (aT 2 s1.j (aC 2)) (aC 5)) λx_3=>af)) (aF 9 λx_4 _=>aV 2 6 [35] 41 (ck 2 35 (aF 3 λx_5 _=>aC 2) (aC 6)) λx_6=>aV 1 7 [42] 49 (aG 1 42 (aC 7) (aF 4 λx_7 _=>aC 2)) λx_8=>aV 1 8 [50] 58 (aG 1 50 (aC 8) (aT 2 s1.j (aT 2 t0.procs (aC 2)))) λx_9=>aG 2 58 af (b7 11 (λqW1=>(aI [Pv 2,Pv 3,Iv 5 qW1] [Xb 2 t0,Xb 3 s1])) (λeW1=>(0,(aI [Pv 3] [Xb 3 s1]))) (λeW1=>(aI [Bv 4 false] [])) (λqW1=>aT 7 s1.j (aG 3 63 (aZ 11 λx_10 _=>aT 1 x_10 (aZ 3 λx_11 _=>aT 2 x_11.events (ck 3 79 (b7 10 (λqW2=>(aI [Pv 2,Pv 3,Iv 5 qW1,Iv 6 qW2] [Xb 2 t0,Xb 3 s1])) (λeW2=>(2,(aI [Pv 2,Pv 3,Iv 5 qW1] [Xb 2 t0,Xb 3 s1]))) (λeW2=>(aI [Bv 4 false] [])) (λqW2=>aZ 8 λx_12 _=>aT 1 x_12 (aG 3 87 (aF 11 λx_13 _=>ck 3 95 af af) af)) (λeW2=>af) (λeW2=>af)) af))) af)) (λeW1=>b7 10 (λqW3=>(aI [Pv 3,Iv 7 qW3] [Xb 3 s1])) (λeW3=>(4,(aI [] []))) (λeW3=>(aI [Bv 4 false] [])) (λqW3=>aT 7 s1.j (aG 3 100 (b7 12 (λqW4=>(aI [Pv 3,Iv 7 qW3,Iv 8 qW4] [Xb 3 s1])) (λeW4=>(6,(aI [Pv 3,Iv 7 qW3] [Xb 3 s1]))) (λeW4=>(aI [Bv 4 false] [])) (λqW4=>aZ 8 λx_14 _=>aG 4 109 (aZ 11 λx_15 _=>aZ 2 λx_16 _=>d_ 1 λx_17 _=>ck 3 122 af af) af) (λeW4=>af) (λeW4=>af)) af)) (λeW3=>af) (λeW3=>af)) (λeW1=>af)))) af)))
namespace jY
def aA (counts1:Sl Int) (tb2:Trace) (p5:Int):Option (Fw Int Unit Unit):=
 an (decide (p5<(len counts1)))
 ((idx counts1 p5).bind λx_1=>
 (an (decide (x_1<0))
 (some true)
 ((idx counts1 p5).bind λx_2=>
 (idx tb2.procs p5).bind λx_3=>
 some (decide (x_2>(len x_3.events)))):Option Bool).bind λx_4=>
 an x_4
 (some (.r ()))
 (some (.n (IntKind.wrap .i64 (p5+1)))))
 (some (.x ()))
def W1 (counts1:Sl Int) (p5:Int) (tb2:Trace):Option Bool:=
 (aQ (λq:Int=>aA counts1 tb2 q) p5).bind (Fw.elim
 (λe=>some true)
 (λe=>some false))
end jY
def jY (t0:Trace) (counts1:Sl Int):Option Bool:=
 an ((len counts1)==(len t0.procs))
 (jY.W1 counts1 0 t0)
 (some false)
open jY in
instance QW (t0:Trace) (counts1:Sl Int):Fc Sy cL (jY t0 counts1):=Fc.M 60 [enc t0,enc counts1] (bL 2 2 t0 (aT 7 counts1 (aT 2 t0.procs (ck 3 11 (b7 11 (λqW1=>(aI [Cv 1 counts1,Pv 2,Iv 5 qW1] [Xb 2 t0])) (λeW1=>(0,(aI [] []))) (λeW1=>(aI [Bv 4 false] [])) (λqW1=>aT 6 counts1 (aG 3 15 (aZ 9 λx_1 _=>aV 3 13 [23] 36 (aG 3 23 (aC 13) (aZ 2 λx_2 _=>aZ 4 λx_3 _=>aT 2 x_3.events (aC 2))) λx_4=>aG 2 36 af af) af)) (λeW1=>af) (λeW1=>af)) af))))
namespace cC
def aX (counts1:Sl Int) (p5:Int) (tb2:Trace) (i6:Int):Option (Fw Int Unit Unit):=
 (idx counts1 p5).bind λx_1=>
 an (decide (i6<x_1))
 ((idx tb2.procs p5).bind λx_2=>
 (idx x_2.events i6).bind λx_3=>
 an (x_3.kind==3)
 ((cz tb2 2 x_3.message).bind λx_4=>
 (idx counts1 x_4.proc).bind λx_5=>
 an (decide (x_4.index>x_5))
 (some (.r ()))
 (some (.n (IntKind.wrap .i64 (i6+1)))))
 (some (.n (IntKind.wrap .i64 (i6+1)))))
 (some (.x ()))
def W2 (counts1:Sl Int) (p5 i6:Int) (tb2:Trace):Option (Fw Int Unit Unit):=
 (aQ (λq:Int=>aX counts1 p5 tb2 q) i6).bind (Fw.elim
 (λe=>some (.n (IntKind.wrap .i64 (p5+1))))
 (λe=>some (.r ())))
def aA (counts1:Sl Int) (tb2:Trace) (p5:Int):Option (Fw Int Unit Unit):=
 an (decide (p5<(len counts1)))
 (W2 counts1 p5 0 tb2)
 (some (.x ()))
def W1 (counts1:Sl Int) (p5:Int) (tb2:Trace):Option Bool:=
 (aQ (λq:Int=>aA counts1 tb2 q) p5).bind (Fw.elim
 (λe=>some true)
 (λe=>some false))
end cC
def cC (t0:Trace) (counts1:Sl Int):Option Bool:=
 cC.W1 counts1 0 t0
open cC in
instance Jn (t0:Trace) (counts1:Sl Int):Fc Sy cL (cC t0 counts1):=Fc.M 61 [enc t0,enc counts1] (bL 2 2 t0 (b7 11 (λqW1=>(aI [Cv 1 counts1,Pv 2,Iv 5 qW1] [Xb 2 t0])) (λeW1=>(0,(aI [] []))) (λeW1=>(aI [Bv 4 false] [])) (λqW1=>aT 6 counts1 (aG 3 12 (b7 12 (λqW2=>(aI [Cv 1 counts1,Pv 2,Iv 5 qW1,Iv 6 qW2] [Xb 2 t0])) (λeW2=>(2,(aI [Cv 1 counts1,Pv 2,Iv 5 qW1] [Xb 2 t0]))) (λeW2=>(aI [Bv 4 false] [])) (λqW2=>aZ 7 λx_1 _=>aG 4 20 (aZ 10 λx_2 _=>aZ 3 λx_3 _=>gD 2 7 0 x_3 (aG 9 34 (aF 6 λx_4 _=>aZ 11 λx_5 _=>aG 4 46 af af) af)) af) (λeW2=>af) (λeW2=>af)) af)) (λeW1=>af) (λeW1=>af)))
def nR (t0:Trace) (c1:Sl Int):Option Bool:=
 (jY t0 c1).bind λx_1=>
 (an x_1
 ((cC t0 c1).bind λx_2=>
 some x_2)
 (some false):Option Bool).bind λx_3=>
 some x_3
instance RI (t0:Trace) (c1:Sl Int):Fc Sy cL (nR t0 c1):=Fc.M 20 [enc t0,enc c1] (bL 2 2 t0 (aF 7 λx_1 _=>aV 1 4 [1,2,8] 12 (aG 1 8 (aF 2 λx_2 _=>aC 1) (aC 4)) λx_3=>af))
def lG (x0 low1 high2:Int):Option Bool:=
 (an (decide (x0>=low1))
 (some (decide (x0<=high2)))
 (some false):Option Bool).bind λx_1=>
 some x_1
instance Sc (x0 low1 high2:Int):Fc Sy cL (lG x0 low1 high2):=Fc.M 138 [.int .i64 x0,.int .i64 low1,.int .i64 high2] (aV 11 4 [0,2,10] 14 (aG 11 10 (aC 4) (aC 4)) λx_1=>af)
def oe (c0:Int):Option Bool:=
 (an (decide (c0>=97))
 (some (decide (c0<=122)))
 (some false):Option Bool).bind λx_1=>
 (an x_1
 (some true)
 ((an (decide (c0>=65))
 (some (decide (c0<=90)))
 (some false):Option Bool).bind λx_2=>
 some x_2):Option Bool).bind λx_3=>
 some x_3
instance OA (c0:Int):Fc Sy cL (oe c0):=Fc.M 183 [.int .u8 c0] (aV 10 3 [5] 8 (aG 10 5 (aC 3) (aC 3)) λx_1=>aV 1 7 [0,9] 16 (aG 1 9 (aC 7) (aV 3 3 [0,12] 15 (aG 3 12 (aC 3) (aC 3)) λx_2=>aC 1)) λx_3=>af)
def sH (c0:Int):Option Bool:=
 (an (decide (c0>=48))
 (some (decide (c0<=57)))
 (some false):Option Bool).bind λx_1=>
 some x_1
instance PX (c0:Int):Fc Sy cL (sH c0):=Fc.M 184 [.int .u8 c0] (aV 10 3 [0,5] 8 (aG 10 5 (aC 3) (aC 3)) λx_1=>af)
namespace eD
def aA (s0:ByteArray) (v18:Int) (v19:Int):Option (Fw Int Unit Unit):=
 an (decide (v19<v18))
 ((jt s0 v19).bind λx_5=>
 (oe x_5).bind λx_6=>
 (an x_6
 (some false)
 ((jt s0 v19).bind λx_7=>
 (sH x_7).bind λx_8=>
 some (!x_8)):Option Bool).bind λx_9=>
 (an x_9
 ((jt s0 v19).bind λx_10=>
 some (!(x_10==95)))
 (some false):Option Bool).bind λx_11=>
 an x_11
 (some (.r ()))
 (some (.n (IntKind.wrap .i64 (v19+1)))))
 (some (.x ()))
def W1 (s0:ByteArray) (v18 v19:Int):Option Bool:=
 (aQ (λq:Int=>aA s0 v18 q) v19).bind (Fw.elim
 (λe=>some true)
 (λe=>some false))
end eD
def eD (s0:ByteArray):Option Bool:=
 (an (ByteArray.toList s0==ByteArray.toList ByteArray.empty)
 (some true)
 (some (decide (((ByteArray.size s0:Nat):Int)>16))):Option Bool).bind λx_1=>
 (an x_1
 (some true)
 ((jt s0 0).bind λx_2=>
 (oe x_2).bind λx_3=>
 some (!x_3)):Option Bool).bind λx_4=>
 an x_4
 (some false)
 (eD.W1 s0 ((ByteArray.size s0:Nat):Int) 0)
open eD in
instance OT (s0:ByteArray):Fc Sy cL (eD s0):=Fc.M 158 [.str s0] (aV 11 4 [6] 10 (aG 11 6 (aC 4) (aC 4)) λx_1=>aV 1 5 [11] 16 (aG 1 11 (aC 5) (xM 1 .i64 λx_2 _=>aF 0 λx_3 _=>aC 2)) λx_4=>aG 2 16 af (b7 13 (λqW1=>(aI [(0,.v (.str s0)),Iv 18 ((ByteArray.size s0:Nat):Int),Iv 19 qW1] [])) (λeW1=>(0,(aI [] []))) (λeW1=>(aI [Bv 2 false] [])) (λqW1=>aG 7 20 (xM 15 .i64 λx_5 _=>aF 0 λx_6 _=>aV 2 6 [27] 33 (ck 2 27 (aC 6) (xM 2 .i64 λx_7 _=>aF 0 λx_8 _=>aC 2)) λx_9=>aV 1 5 [3,34] 39 (aG 1 34 (xM 2 .i64 λx_10 _=>aC 2) (aC 5)) λx_11=>aG 2 39 af af) af) (λeW1=>af) (λeW1=>af)))
def iz (y0 v1:bp):Option Bool:=
 some (ByteArray.toList y0.name==ByteArray.toList v1.name)
instance FZ (y0 v1:bp):Fc Sy cL (iz y0 v1):=Fc.M 160 [enc y0,.fptr (cells v1)] (bL 2 2 y0 af)
namespace eH
def aA (s0:Sl bp) (v7:Int) (v8:Int) (p1:bp->Option Bool):Option (Fw Int Unit Int):=
 an (decide (v8<v7))
 ((idx s0 v8).bind λx_1=>
 (p1 x_1).bind λx_2=>
 an x_2
 (some (.r v8))
 (some (.n (IntKind.wrap .i64 (v8+1)))))
 (some (.x ()))
def W1 (s0:Sl bp) (v7 v8:Int) (p1:bp->Option Bool):Option Int:=
 (aQ (λq:Int=>aA s0 v7 q p1) v8).bind (Fw.elim
 (λe=>some (-1))
 (λe=>some e))
end eH
def eH (s0:Sl bp) (p1:bp->Option Bool):Option Int:=
 eH.W1 s0 (len s0) 0 p1
open eH in
abbrev uN (g1:FuncId) (e1:List V) (p1:bp->Option Bool) (h1:jm Sy cL g1 [] e1 (λz:bp=>[enc z]) (λr:Bool=>[.bool r]) p1 true) (s0:Sl bp):Fc Sy cL (eH s0 p1):=Fc.M 185 [enc s0,.clo g1 [] e1] (aT 9 s0 (b7 5 (λqW1=>(aI [Cv 0 s0,(1,.v (.clo g1 [] e1)),Iv 7 (len s0),Iv 8 qW1] [])) (λeW1=>(0,(aI [] []))) (λeW1=>(aI [Iv 4 eW1] [])) (λqW1=>aG 7 9 (aZ 16 λx_1 _=>qL 1 h1.f x_1 λx_2 _=>aG 2 16 af af) af) (λeW1=>af) (λeW1=>af))) (l:=by simp[h1.d])
def gp (s0:Sl bp) (p1:bp->Option Bool):Option Bool:=
 (eH s0 p1).bind λx_1=>
 some (decide (x_1>=0))
abbrev tn (g1:FuncId) (e1:List V) (p1:bp->Option Bool) (h1:jm Sy cL g1 [] e1 (λz:bp=>[enc z]) (λr:Bool=>[.bool r]) p1 true) (s0:Sl bp):Fc Sy cL (gp s0 p1):=Fc.M 159 [enc s0,.clo g1 [] e1] (aF (F:=uN g1 e1 p1 h1 s0) 9 λx_1 _=>af) (l:=by simp[h1.d])
def iB (w0 v1:Var):Option Bool:=
 some (ByteArray.toList w0.name==ByteArray.toList v1.name)
instance F9 (w0 v1:Var):Fc Sy cL (iB w0 v1):=Fc.M 162 [enc w0,.fptr (cells v1)] (af)
namespace eX
def aA (s0:Sl Var) (v7:Int) (v8:Int) (p1:Var->Option Bool):Option (Fw Int Unit Int):=
 an (decide (v8<v7))
 ((idx s0 v8).bind λx_1=>
 (p1 x_1).bind λx_2=>
 an x_2
 (some (.r v8))
 (some (.n (IntKind.wrap .i64 (v8+1)))))
 (some (.x ()))
def W1 (s0:Sl Var) (v7 v8:Int) (p1:Var->Option Bool):Option Int:=
 (aQ (λq:Int=>aA s0 v7 q p1) v8).bind (Fw.elim
 (λe=>some (-1))
 (λe=>some e))
end eX
def eX (s0:Sl Var) (p1:Var->Option Bool):Option Int:=
 eX.W1 s0 (len s0) 0 p1
open eX in
abbrev vk (g1:FuncId) (e1:List V) (p1:Var->Option Bool) (h1:jm Sy cL g1 [] e1 (λz:Var=>[enc z]) (λr:Bool=>[.bool r]) p1 true) (s0:Sl Var):Fc Sy cL (eX s0 p1):=Fc.M 186 [enc s0,.clo g1 [] e1] (aT 9 s0 (b7 5 (λqW1=>(aI [Cv 0 s0,(1,.v (.clo g1 [] e1)),Iv 7 (len s0),Iv 8 qW1] [])) (λeW1=>(0,(aI [] []))) (λeW1=>(aI [Iv 4 eW1] [])) (λqW1=>aG 7 9 (aZ 16 λx_1 _=>qL 1 h1.f x_1 λx_2 _=>aG 2 16 af af) af) (λeW1=>af) (λeW1=>af))) (l:=by simp[h1.d])
def gE (s0:Sl Var) (p1:Var->Option Bool):Option Bool:=
 (eX s0 p1).bind λx_1=>
 some (decide (x_1>=0))
abbrev tC (g1:FuncId) (e1:List V) (p1:Var->Option Bool) (h1:jm Sy cL g1 [] e1 (λz:Var=>[enc z]) (λr:Bool=>[.bool r]) p1 true) (s0:Sl Var):Fc Sy cL (gE s0 p1):=Fc.M 161 [enc s0,.clo g1 [] e1] (aF (F:=vk g1 e1 p1 h1 s0) 9 λx_1 _=>af) (l:=by simp[h1.d])
namespace dx
def aA (v32:Sl Var) (v33:Int) (xb5:bp) (v34:Int):Option (Fw Int Unit Int):=
 an (decide (v34<v33))
 ((idx v32 v34).bind λx_6=>
 (eD x_6.name).bind λx_7=>
 (an x_7
 ((iu xb5.vars none (some v34)).bind λx_8=>
 (gE x_8 (λz=>iB z x_6)).bind λx_9=>
 some x_9)
 (some true):Option Bool).bind λx_10=>
 an x_10
 (some (.r 13))
 ((lG x_6.init_ (-1073741824) 1073741824).bind λx_11=>
 an x_11
 (some (.n (IntKind.wrap .i64 (v34+1))))
 (some (.r 2))))
 (some (.x ()))
def W1 (v32:Sl Var) (v33 v34:Int) (xb5:bp):Option Int:=
 (aQ (λq:Int=>aA v32 v33 xb5 q) v34).bind (Fw.elim
 (λe=>an (decide ((len xb5.events)>64))
 (some 5)
 (some 0))
 (λe=>some e))
end dx
def dx (t0:Trace) (p1:Int):Option Int:=
 (idx t0.procs p1).bind λx_1=>
 (eD x_1.name).bind λx_2=>
 (an x_2
 ((iu t0.procs none (some p1)).bind λx_3=>
 (gp x_3 (λz=>iz z x_1)).bind λx_4=>
 some x_4)
 (some true):Option Bool).bind λx_5=>
 an x_5
 (some 13)
 (an (decide ((len x_1.vars)>8))
 (some 5)
 (dx.W1 x_1.vars (len x_1.vars) 0 x_1))
open dx in
instance HU (t0:Trace) (p1:Int):Fc Sy cL (dx t0 p1):=Fc.M 139 [enc t0,.int .i64 p1] (bL 2 2 t0 (aZ 8 λx_1 _=>gD 2 5 0 x_1 (aF 8 λx_2 _=>aV 2 7 [1,2,18] 25 (ck 2 18 (BR 3 false true [.int .i64 p1] λx_3 _=>d_ (F:=tn 160 [.fptr (cells x_1)] (λz=>iz z x_1) jm.qt x_3) 1 λx_4 _=>aC 1) (aC 7)) λx_5=>aG 3 13 af (aT 5 x_1.vars (aG 4 26 af (aT 9 x_1.vars (b7 5 (λqW1=>(aI [Pv 5,Cv 32 x_1.vars,Iv 33 (len x_1.vars),Iv 34 qW1] [Xb 5 x_1])) (λeW1=>(1,(aI [Pv 5] [Xb 5 x_1]))) (λeW1=>(aI [Iv 4 eW1] [])) (λqW1=>aG 7 35 (aZ 8 λx_6 _=>aF 11 λx_7 _=>aV 2 7 [6,44] 51 (ck 2 44 (BR 3 false true [.int .i64 qW1] λx_8 _=>d_ (F:=tC 162 [.fptr (cells x_6)] (λz=>iB z x_6) jm.qt x_8) 1 λx_9 _=>aC 1) (aC 7)) λx_10=>aG 3 39 af (aF 5 λx_11 _=>ck 4 52 af af)) af) (λeW1=>aT 7 x_1.events (aG 3 61 af af)) (λeW1=>af))))))))
def iK (t0:Trace):Option Trace:=
 some t0
instance OR (t0:Trace):Fc Sy cL (iK t0):=Fc.NE (λr:Trace=>[(.clo 163 [] [.fptr (cells r)])]) 140 [enc t0] (bL 2 1 t0 af)
namespace gm
def J1 (p1:Int) (v19:Bool) (tb3:Trace) (eb5:Event):Option Bool:=
 an v19
 ((lG eb5.peer 0 (IntKind.wrap .i64 ((len tb3.procs)-1))).bind λx_2=>
 (an x_2
 (some (!(eb5.peer==p1)))
 (some false):Option Bool).bind λx_3=>
 (an x_3
 ((lG eb5.message 0 199).bind λx_4=>
 some x_4)
 (some false):Option Bool).bind λx_5=>
 some x_5)
 (some false)
end gm
def gm (t0:Trace) (p1:Int) (e2:Event):Option Bool:=
 an (e2.kind==1)
 ((an (e2.peer==0)
 (some (e2.message==0))
 (some false):Option Bool).bind λx_1=>
 some x_1)
 (an (e2.kind==2)
 (gm.J1 p1 true t0 e2)
 (gm.J1 p1 (e2.kind==3) t0 e2))
open gm in
instance OF (t0:Trace) (p1:Int) (e2:Event):Fc Sy cL (gm t0 p1 e2):=Fc.M 164 [enc t0,.int .i64 p1,enc e2] (bL 2 3 t0 (bL 0 5 e2 (aG 17 9 (aV 7 4 [5,14] 18 (aG 7 14 (aC 4) (aC 4)) λx_1=>af) (aG 8 19 (yb 4 (aG 0 19 (aT 7 t0.procs (aF 1 λx_2 _=>aV 1 5 [1,29] 34 (aG 1 29 (aC 5) (aC 5)) λx_3=>aV 1 4 [5,35] 39 (aG 1 35 (aF 2 λx_4 _=>aC 1) (aC 4)) λx_5=>af)) af)) (yb 7 (aG 0 19 (aT 7 t0.procs (aF 1 λx_2 _=>aV 1 5 [1,29] 34 (aG 1 29 (aC 5) (aC 5)) λx_3=>aV 1 4 [5,35] 39 (aG 1 35 (aF 2 λx_4 _=>aC 1) (aC 4)) λx_5=>af)) af))))))
def jf (b0 v1:Assign):Option Bool:=
 some (b0.var==v1.var)
instance GY (b0 v1:Assign):Fc Sy cL (jf b0 v1):=Fc.M 166 [enc b0,.fptr (cells v1)] (af)
namespace dP
def aA (s0:Sl Assign) (v7:Int) (v8:Int) (p1:Assign->Option Bool):Option (Fw Int Unit Int):=
 an (decide (v8<v7))
 ((idx s0 v8).bind λx_1=>
 (p1 x_1).bind λx_2=>
 an x_2
 (some (.r v8))
 (some (.n (IntKind.wrap .i64 (v8+1)))))
 (some (.x ()))
def W1 (s0:Sl Assign) (v7 v8:Int) (p1:Assign->Option Bool):Option Int:=
 (aQ (λq:Int=>aA s0 v7 q p1) v8).bind (Fw.elim
 (λe=>some (-1))
 (λe=>some e))
end dP
def dP (s0:Sl Assign) (p1:Assign->Option Bool):Option Int:=
 dP.W1 s0 (len s0) 0 p1
open dP in
abbrev tO (g1:FuncId) (e1:List V) (p1:Assign->Option Bool) (h1:jm Sy cL g1 [] e1 (λz:Assign=>[enc z]) (λr:Bool=>[.bool r]) p1 true) (s0:Sl Assign):Fc Sy cL (dP s0 p1):=Fc.M 187 [enc s0,.clo g1 [] e1] (aT 9 s0 (b7 5 (λqW1=>(aI [Cv 0 s0,(1,.v (.clo g1 [] e1)),Iv 7 (len s0),Iv 8 qW1] [])) (λeW1=>(0,(aI [] []))) (λeW1=>(aI [Iv 4 eW1] [])) (λqW1=>aG 7 9 (aZ 16 λx_1 _=>qL 1 h1.f x_1 λx_2 _=>aG 2 16 af af) af) (λeW1=>af) (λeW1=>af))) (l:=by simp[h1.d])
def e_ (s0:Sl Assign) (p1:Assign->Option Bool):Option Bool:=
 (dP s0 p1).bind λx_1=>
 some (decide (x_1>=0))
abbrev rB (g1:FuncId) (e1:List V) (p1:Assign->Option Bool) (h1:jm Sy cL g1 [] e1 (λz:Assign=>[enc z]) (λr:Bool=>[.bool r]) p1 true) (s0:Sl Assign):Fc Sy cL (e_ s0 p1):=Fc.M 165 [enc s0,.clo g1 [] e1] (aF (F:=tO g1 e1 p1 h1 s0) 9 λx_1 _=>af) (l:=by simp[h1.d])
namespace ct
def aX (v52:Sl Assign) (v53:Int) (eb5:Event) (xb7:bp) (v54:Int):Option (Fw Int Unit Int):=
 an (decide (v54<v53))
 ((idx v52 v54).bind λx_6=>
 (lG x_6.var 0 (IntKind.wrap .i64 ((len xb7.vars)-1))).bind λx_7=>
 (an x_7
 ((lG x_6.value (-1073741824) 1073741824).bind λx_8=>
 some (!x_8))
 (some true):Option Bool).bind λx_9=>
 an x_9
 (some (.r 2))
 ((iu eb5.assign none (some v54)).bind λx_10=>
 (e_ x_10 (λz=>jf z x_6)).bind λx_11=>
 an x_11
 (some (.r 8))
 (some (.n (IntKind.wrap .i64 (v54+1))))))
 (some (.x ()))
def W2 (v52:Sl Assign) (v53 v54:Int) (eb5:Event) (xb7:bp):Option Int:=
 (aQ (λq:Int=>aX v52 v53 eb5 xb7 q) v54).bind (Fw.elim
 (λe=>some 0)
 (λe=>some e))
def J1 (last8:Int) (tb3:Trace) (idb4:aa) (eb5:Event) (xb7:bp):Option Int:=
 (gm tb3 idb4.proc eb5).bind λx_3=>
 an x_3
 ((lG eb5.time 0 1099511627776).bind λx_4=>
 (an x_4
 (some (decide (eb5.time<last8)))
 (some true):Option Bool).bind λx_5=>
 an x_5
 (some 11)
 (an (decide ((len eb5.assign)>8))
 (some 5)
 (ct.W2 eb5.assign (len eb5.assign) 0 eb5 xb7)))
 (some 3)
theorem uS (last8:Int) (tb3:Trace) (idb4:aa) (eb5:Event) (xb7:bp):Le ((J1 last8 tb3 idb4 eb5 xb7).bind (λr=>some [.int .i64 r])) (bz Sy cL (pM (tr Tx 141)) (s_ (tb Tx 141) [1,1,1,1,0] [] (aI [Pv 3,Pv 4,Pv 5,Pv 7,Iv 8 last8] [Xb 3 tb3,Xb 4 idb4,Xb 5 eb5,Xb 7 xb7]))):=
 aF 8 λx_3 _=>ck 4 28 (aF 5 λx_4 _=>aV 2 5 [8,40] 45 (ck 2 40 (aC 5) (aC 5)) λx_5=>aG 3 35 af (aT 5 eb5.assign (aG 4 46 af (aT 9 eb5.assign (b7 5 (λqW2=>(aI [Pv 5,Pv 7,Cv 52 eb5.assign,Iv 53 (len eb5.assign),Iv 54 qW2] [Xb 5 eb5,Xb 7 xb7])) (λeW2=>(1,(aI [] []))) (λeW2=>(aI [Iv 6 eW2] [])) (λqW2=>aG 7 55 (aZ 8 λx_6 _=>aT 13 xb7.vars (aF 1 λx_7 _=>aV 2 5 [68] 73 (ck 2 68 (aF 2 λx_8 _=>aC 2) (aC 5)) λx_9=>aG 3 59 af (BR 6 false true [.int .i64 qW2] λx_10 _=>d_ (F:=rB 166 [.fptr (cells x_6)] (λz=>jf z x_6) jm.qt x_10) 1 λx_11 _=>aG 3 74 af af))) af) (λeW2=>af) (λeW2=>af)))))) af
end ct
def ct (t0:Trace) (id1:aa) (e2:Event):Option Int:=
 (idx t0.procs id1.proc).bind λx_1=>
 an (decide (id1.index>1))
 ((idx x_1.events (IntKind.wrap .i64 (id1.index-2))).bind λx_2=>
 ct.J1 x_2.time t0 id1 e2 x_1)
 (ct.J1 0 t0 id1 e2 x_1)
open ct in
instance KH (t0:Trace) (id1:aa) (e2:Event):Fc Sy cL (ct t0 id1 e2):=Fc.M 141 [enc t0,enc id1,enc e2] (bL 2 3 t0 (bL 1 5 e2 (aZ 9 λx_1 _=>gD 2 7 0 x_1 (aG 15 19 (aZ 7 λx_2 _=>BT 6 (uS x_2.time t0 id1 e2 x_1)) (BT 4 (uS 0 t0 id1 e2 x_1))))))
def oB (e0:Event) (v1 v2:Int):Option Bool:=
 (an (e0.kind==2)
 (some (e0.message==v1))
 (some false):Option Bool).bind λx_1=>
 (an x_1
 (some (e0.peer==v2))
 (some false):Option Bool).bind λx_2=>
 some x_2
instance LF (e0:Event) (v1 v2:Int):Fc Sy cL (oB e0 v1 v2):=Fc.M 188 [enc e0,.fptr (cells v1),.fptr (cells v2)] (bL 2 3 e0 (aV 9 5 [1,8] 13 (aG 9 8 (aC 5) (aC 5)) λx_1=>aV 1 5 [2,3,14] 19 (aG 1 14 (aC 5) (aC 5)) λx_2=>af))
def sw (t0:Trace) (p1 m2 to_3:Int):Option Bool:=
 (idx t0.procs p1).bind λx_1=>
 (fJ x_1.events (λz=>oB z m2 to_3)).bind λx_2=>
 some x_2
instance PF (t0:Trace) (p1 m2 to_3:Int):Fc Sy cL (sw t0 p1 m2 to_3):=Fc.M 167 [enc t0,.int .i64 p1,.int .i64 m2,.int .i64 to_3] (bL 2 4 t0 (aZ 10 λx_1 _=>d_ (F:=me 188 [.fptr (cells m2),.fptr (cells to_3)] (λz=>oB z m2 to_3) jm.qt x_1.events) 3 λx_2 _=>af))
namespace dn
def qC (vk0_12 tb1:Trace) (vb2:Option (bh 200 aB)) (vb3:aa) (vb4:Int) (x:aa×Event) (vb10:bh 200 aB):Option (Fw (bh 200 aB) Empty (aa×Int×(bh 200 aB))):=
 an (x.2.kind==2)
 ((bh.at vb10 x.2.message).bind λx_2=>
 an (decide (x_2.from_.index>0))
 (some (.r (x.1,8,vb10)))
 ((bh.at vb10 x.2.message).bind λx_3=>
 some (.n (bh.set vb10 x.2.message (⟨x.1,x_3.to_⟩:aB)))))
 (an (x.2.kind==3)
 ((bh.at vb10 x.2.message).bind λx_4=>
 an (decide (x_4.to_.index>0))
 (some (.r (x.1,8,vb10)))
 ((sw tb1 x.2.peer x.2.message x.1.proc).bind λx_5=>
 an x_5
 ((bh.at vb10 x.2.message).bind λx_6=>
 some (.n (bh.set vb10 x.2.message (⟨x_6.from_,x.1⟩:aB))))
 (some (.r (x.1,7,vb10)))))
 (some (.n vb10)))
def E1 (vk0_12 tb1:Trace) (vb2:Option (bh 200 aB)) (vb3:aa) (vb4:Int) (vb10:bh 200 aB):Option ((Option (bh 200 aB))×aa×Int):=
 (gU vk0_12).bind λits=>(mz (λ(x:aa×Event) (q:bh 200 aB)=>qC vk0_12 tb1 vb2 vb3 vb4 x q) its vb10).bind (Fw.u6
 (λq=>some (some q,⟨0,0⟩,0))
 (λe=>Empty.elim e)
 (λe=>some ((none:Option (bh 200 aB)),e.1,e.2.1)))
end dn
def dn (t0:Trace):Option ((Option (bh 200 aB))×aa×Int):=
 (iK t0).bind λx_1=>
 dn.E1 x_1 t0 (none:Option (bh 200 aB)) (⟨0,0⟩:aa) 0 (bh.K6 200 (⟨⟨0,0⟩,⟨0,0⟩⟩:aB))
open dn in
instance Iz (t0:Trace):Fc Sy cL (dn t0):=Fc.N 142 [enc t0] (bL 2 1 t0 (bL 8 10 (bh.K6 200 (⟨⟨0,0⟩,⟨0,0⟩⟩:aB)) (Q_ 0 5 (aI [Pv 1,Pv 2,Pv 3,Pv 4,Pv 10] [Xb 1 t0,(2,.box [cv (none:Option (bh 200 aB))]),Xb 3 (⟨0,0⟩:aa),(4,.box [iv 0]),Xb 10 (bh.K6 200 (⟨⟨0,0⟩,⟨0,0⟩⟩:aB))]) [cv (none:Option (bh 200 aB))] (by simp only[aI,vT,oI,qb,oP,qA,rH,qu,rZ,oN,qn,vV,rE,rL,rR,rU,tX,tU,qB,rq];rfl) (aF 7 λx_1 _=>H_ λits hits=>DV 4 [Pv 1,Pv 2,Pv 3,Pv 4,Pv 5,(12,.v (.clo 163 [] [.fptr (cells x_1)]))] (λqE1=>[Xb 1 t0,(2,.box [cv (none:Option (bh 200 aB))]),Xb 3 (⟨0,0⟩:aa),(4,.box [iv 0]),(5,.box [.ptr 10 0]),Xb 10 qE1]) (λeE1=>Empty.elim eE1) (λeE1=>[Xb 1 t0,(2,.box [cv (none:Option (bh 200 aB))]),Xb 3 eE1.1,(4,.box [iv eE1.2.1]),(5,.box [.ptr 10 0]),Xb 10 eE1.2.2]) (xk x_1 its hits) (λxE1 qE1=>Q_ 2 6 ⟨[Pv 1,Pv 2,Pv 3,Pv 4,Pv 5,(12,.v (.clo 163 [] [.fptr (cells x_1)])),Cv 13 xE1.1,Cv 14 xE1.2],[Xb 1 t0,(2,.box [cv (none:Option (bh 200 aB))]),Xb 3 (⟨0,0⟩:aa),(4,.box [iv 0]),(5,.box [.ptr 10 0]),Xb 10 qE1],[1,2,3,4,5],[],true,0⟩ [iv 0,iv 0] (by simp only[aI,vT,oI,qb,oP,qA,rH,qu,rZ,oN,qn,vV,rE,rL,rR,rU,tX,tU,qB,rq];rfl) (Q_ 4 7 ⟨[Pv 1,Pv 2,Pv 3,Pv 4,Pv 5,(12,.v (.clo 163 [] [.fptr (cells x_1)])),Cv 14 xE1.2,Pv 6],[Xb 1 t0,(2,.box [cv (none:Option (bh 200 aB))]),Xb 3 (⟨0,0⟩:aa),(4,.box [iv 0]),(5,.box [.ptr 10 0]),Xb 10 qE1,Xb 6 xE1.1],[1,2,3,4,5],[],true,0⟩ [iv 0,iv 0,iv 0,iv 0,.v .aL] (by simp only[aI,vT,oI,qb,oP,qA,rH,qu,rZ,oN,qn,vV,rE,rL,rR,rU,tX,tU,qB,rq];rfl) (gD 0 7 0 xE1.2 (A5 1 (aG 22 19 (DR 7 .i64 10 λx_2 h_2=>No 2 1 false 10 qE1 xE1.2.message 1 x_2 h_2 (.int .i64 x_2.from_.index) (by rfl) (aG 3 28 af (DR 8 .i64 10 λx_3 h_3=>NL 1 10 qE1 xE1.2.message 0 x_3 h_3 (⟨xE1.1,x_3.to_⟩:aB) xE1.1 rfl af))) (aG 7 36 (DR 7 .i64 10 λx_4 h_4=>No 2 1 false 10 qE1 xE1.2.message 3 x_4 h_4 (.int .i64 x_4.to_.index) (by rfl) (aG 3 45 af (aF 12 λx_5 _=>ck 3 54 (DR 8 .i64 10 λx_6 h_6=>NL 1 10 qE1 xE1.2.message 2 x_6 h_6 (⟨x_6.from_,xE1.1⟩:aB) xE1.1 rfl af) af))) af)))))) (λqE1=>R9 13 (aI [Pv 2,Pv 3,Pv 4] [(2,.box [.ptr 10 0]),Xb 3 (⟨0,0⟩:aa),(4,.box [iv 0]),Xb 10 qE1]) [.ptr 10 0,cv (⟨0,0⟩:aa),iv 0] (O4 (d:=10) (x:=qE1) (vs:=[enc (⟨0,0⟩:aa),.int .i64 0]) (by kernel_rfl)) (by kernel_rfl)) (λx=>Empty.elim x) (λeE1=>af)))))
namespace gW
def J1 (lq1:bh 200 aB) (out7:Sl aa) (p8:Sl Event) (xb5:aa):Option (Sl aa):=
 (idx p8 (IntKind.wrap .i64 (xb5.index-1))).bind λx_2=>
 (an (x_2.kind==2)
 ((bh.at lq1 x_2.message).bind λx_3=>
 some (decide (x_3.to_.index>0)))
 (some false):Option Bool).bind λx_4=>
 an x_4
 ((bh.at lq1 x_2.message).bind λx_5=>
 (kf out7 (x_5.to_:aa)).bind λx_6=>
 some x_6)
 (some out7)
theorem uS (lq1:bh 200 aB) (out7:Sl aa) (p8:Sl Event) (xb5:aa):Le ((J1 lq1 out7 p8 xb5).bind (λr=>some [enc r])) (bz Sy cL (pM (tr Tx 168)) (s_ (tb Tx 168) [1,1,1,1,0,0] [] (aI [Kv 1 lq1,Pv 5,Ov 7,Cv 8 p8] [Xb 5 xb5,Lb 2007 out7]))):=
 aZ 7 λx_2 _=>gD 2 9 0 x_2 (aV 8 10 [40] 50 (aG 8 40 (Ny 4 .i64 λx_3 h_3=>Mb 0 2 lq1 x_2.message 0 x_3 h_3 (Mb 0 1 lq1 x_2.message 2 x_3 h_3 (Nf 0 1 false lq1 x_2.message 3 x_3 h_3 (.int .i64 x_3.to_.index) (by rfl) (aC 2)))) (aC 10)) λx_4=>aG 2 50 (Ny 7 .i64 λx_5 h_5=>Mb 0 2 lq1 x_2.message 0 x_5 h_5 (Nf 0 2 true lq1 x_2.message 2 x_5 h_5 (enc x_5.to_) (by rfl) (vz 1 2007 59 60 λx_6 _=>af))) af)
end gW
def gW (t0:Trace) (l1:bh 200 aB) (x2:aa):Option (Sl aa):=
 (idx t0.procs x2.proc).bind λx_1=>
 an (decide (x2.index<(len x_1.events)))
 (gW.J1 l1 (Sl.row [⟨x2.proc,IntKind.wrap .i64 (x2.index+1)⟩]:Sl aa) x_1.events x2)
 (gW.J1 l1 (Sl.nil:Sl aa) x_1.events x2)
open gW in
instance P0 (t0:Trace) (l1:bh 200 aB) (x2:aa):Fc Sy cL (gW t0 l1 x2):=Fc.N 168 [enc t0,.fptr (cells l1),enc x2] (bL 2 3 t0 (aZ 15 λx_1 _=>aT 11 x_1.events (aG 3 21 (Nr 10 29 30 .aL (⟨x2.proc,IntKind.wrap .i64 (x2.index+1)⟩:aa) (BT 5 (uS l1 (Sl.row [⟨x2.proc,IntKind.wrap .i64 (x2.index+1)⟩]:Sl aa) x_1.events x2))) (BT 5 (uS l1 (Sl.nil:Sl aa) x_1.events x2)))))
namespace ec
def c_ (vk0_13:Trace) (v36:Sl aa) (v37:Int) (tb2:Trace) (lb3:bh 200 aB) (vb4:aa) (vb5:Bool) (idb6:aa) (rest8:Sl aa) (v38:Int) (vb16:Mo aa Bool):Option (Fw ((Sl aa)×Int×(Mo aa Bool)) ((Sl aa)×(Mo aa Bool)) Unit):=
 an (decide (v38<v37))
 ((idx v36 v38).bind λx_6=>
 an (Ho x_6 idb6)
 (some (.r ()))
 (an (Ck vb16 x_6 false)
 (some (.n (rest8,IntKind.wrap .i64 (v38+1),vb16)))
 ((kf rest8 (x_6:aa)).bind λx_7=>
 some (.n (x_7,IntKind.wrap .i64 (v38+1),pT vb16 x_6 true)))))
 (some (.x (rest8,vb16)))
def W3 (rest8:Sl aa) (vk0_13:Trace) (v36:Sl aa) (v37 v38:Int) (tb2:Trace) (lb3:bh 200 aB) (vb4:aa) (vb5:Bool) (idb6:aa) (vb16:Mo aa Bool):Option (Fw ((Sl aa)×(Mo aa Bool)) Unit Unit):=
 (aQ (λq:(Sl aa)×Int×(Mo aa Bool)=>c_ vk0_13 v36 v37 tb2 lb3 vb4 vb5 idb6 q.1 q.2.1 q.2.2) (rest8,v38,vb16)).bind (Fw.elim
 (λe=>some (.n (e.1,e.2)))
 (λe=>some (.r ())))
def aX (vk0_13 tb2:Trace) (lb3:bh 200 aB) (vb4:aa) (vb5:Bool) (idb6:aa) (rest8:Sl aa) (vb16:Mo aa Bool):Option (Fw ((Sl aa)×(Mo aa Bool)) Unit Unit):=
 an (decide ((len rest8)>0))
 ((Sl.mm rest8 (IntKind.wrap .i64 ((len rest8)-1))).bind λx_2=>
 (Sl.get rest8 x_2).bind λx_3=>
 (mR rest8 none (some (IntKind.wrap .i64 ((len rest8)-1)))).bind λx_4=>
 (gW tb2 lb3 x_3).bind λx_5=>
 W3 x_4 vk0_13 x_5 (len x_5) 0 tb2 lb3 vb4 vb5 idb6 vb16)
 (some (.x ()))
def W2 (rest8:Sl aa) (vk0_13 tb2:Trace) (lb3:bh 200 aB) (vb4:aa) (vb5:Bool) (idb6:aa) (vb16:Mo aa Bool):Option (Fw Unit Empty aa):=
 (aQ (λq:(Sl aa)×(Mo aa Bool)=>aX vk0_13 tb2 lb3 vb4 vb5 idb6 q.1 q.2) (rest8,vb16)).bind (Fw.elim
 (λe=>some (.n ()))
 (λe=>some (.r idb6)))
def qC (vk0_13 tb2:Trace) (lb3:bh 200 aB) (vb4:aa) (vb5:Bool) (x:aa×Event):Option (Fw Unit Empty aa):=
 W2 (Sl.row [x.1]:Sl aa) vk0_13 tb2 lb3 vb4 vb5 x.1 []
def E1 (vk0_13 tb2:Trace) (lb3:bh 200 aB) (vb4:aa) (vb5:Bool):Option (aa×Bool):=
 (gU vk0_13).bind λits=>(mz (λ(x:aa×Event) (q:Unit)=>qC vk0_13 tb2 lb3 vb4 vb5 x) its ()).bind (Fw.u6
 (λq=>some (⟨0,0⟩,false))
 (λe=>Empty.elim e)
 (λe=>some (e,true)))
end ec
def ec (t0:Trace) (l1:bh 200 aB):Option (aa×Bool):=
 (iK t0).bind λx_1=>
 ec.E1 x_1 t0 l1 (⟨0,0⟩:aa) false
open ec in
instance Po (t0:Trace) (l1:bh 200 aB):Fc Sy cL (ec t0 l1):=Fc.M 143 [enc t0,.fptr (cells l1)] (bL 2 2 t0 (aF 9 λx_1 _=>H_ λits hits=>DV 4 [Pv 2,Pv 3,Pv 4,Pv 5,(13,.v (.clo 163 [] [.fptr (cells x_1)]))] (λqE1=>[Xb 2 t0,(3,.box [cp l1]),Xb 4 (⟨0,0⟩:aa),(5,.box [bv false])]) (λeE1=>Empty.elim eE1) (λeE1=>[Xb 2 t0,(3,.box [cp l1]),Xb 4 eE1,(5,.box [bv true])]) (xk x_1 its hits) (λxE1 qE1=>A5 4 (b7 18 (λqW2=>⟨[Pv 2,Pv 3,Pv 4,Pv 5,Pv 6,(7,.mp 16),Ov 8,(13,.v (.clo 163 [] [.fptr (cells x_1)]))],[Xb 2 t0,(3,.box [cp l1]),Xb 4 (⟨0,0⟩:aa),(5,.box [bv false]),Xb 6 xE1.1,(16,uJ qW2.2),Lb 2008 qW2.1],[2,3,4,5],[],true,0⟩) (λeW2=>(2,⟨[Pv 2,Pv 3,Pv 4,Pv 5,(13,.v (.clo 163 [] [.fptr (cells x_1)]))],[Xb 2 t0,(3,.box [cp l1]),Xb 4 (⟨0,0⟩:aa),(5,.box [bv false])],[2,3,4,5],[],true,0⟩)) (λeW2=>⟨[],[Xb 2 t0,(3,.box [cp l1]),Xb 4 xE1.1,(5,.box [bv true])],[2,3,4,5],[],true,0⟩) (λqW2=>DN 6 2008 qW2.1 (aG 3 21 (DN 8 2008 qW2.1 (ox .i64 1 2008 λx_2 _=>uB 0 2008 0 2 true (λx_3=>.agg [.int .i64 x_3.proc,.int .i64 x_3.index]) λx_3 _=>DN 8 2008 qW2.1 (SN 1 false true 2008 32 [.int .i64 (IntKind.wrap .i64 ((len qW2.1)-1))] λx_4 _=>aF 8 λx_5 _=>aT 0 x_5 (b7 6 (λqW3=>⟨[Pv 2,Pv 3,Pv 4,Pv 5,Pv 6,(7,.mp 16),Ov 8,(13,.v (.clo 163 [] [.fptr (cells x_1)])),Cv 36 x_5,Iv 37 (len x_5),Iv 38 qW3.2.1],[Xb 2 t0,(3,.box [cp l1]),Xb 4 (⟨0,0⟩:aa),(5,.box [bv false]),Xb 6 xE1.1,(16,uJ qW3.2.2),Lb 2008 qW3.1],[2,3,4,5],[],true,0⟩) (λeW3=>(4,⟨[Pv 2,Pv 3,Pv 4,Pv 5,Pv 6,(7,.mp 16),Ov 8,(13,.v (.clo 163 [] [.fptr (cells x_1)]))],[Xb 2 t0,(3,.box [cp l1]),Xb 4 (⟨0,0⟩:aa),(5,.box [bv false]),Xb 6 xE1.1,(16,uJ eW3.2),Lb 2008 eW3.1],[2,3,4,5],[],true,0⟩)) (λeW3=>⟨[],[Xb 2 t0,(3,.box [cp l1]),Xb 4 xE1.1,(5,.box [bv true])],[2,3,4,5],[],true,0⟩) (λqW3=>aG 8 39 (aZ 7 λx_6 _=>aG 13 44 af (RM 7 16 qW3.2.2 x_6 false (ck 3 49 af (Tv 5 16 qW3.2.2 x_6 true (vz 6 2008 54 55 λx_7 _=>af))))) af) (λeW3=>af) (λeW3=>af))))) af)) (λeW2=>af) (λeW2=>af))) (λqE1=>af) (λx=>Empty.elim x) (λeE1=>af)))
namespace fu
def G9 (vk0_36 tb1:Trace) (vb2:aa) (vb3:Int) (x:aa×Event):Option (Fw Unit Empty (aa×Int)):=
 (ct tb1 x.1 x.2).bind λx_3=>
 an (x_3==0)
 (some (.n ()))
 (some (.r (x.1,x_3)))
def E2 (vk0_36 tb1:Trace) (vb2:aa) (vb3:Int):Option (aa×Int):=
 (gU vk0_36).bind λits=>(mz (λ(x:aa×Event) (q:Unit)=>G9 vk0_36 tb1 vb2 vb3 x) its ()).bind (Fw.u6
 (λq=>(dn tb1).bind λx_5=>
 an (x_5.2.2==0)
 ((x_5.1).bind λx_6=>
 (ec tb1 x_6).bind λx_7=>
 an x_7.2
 (some (x_7.1,10))
 (some (⟨0,0⟩,0)))
 (some (x_5.2.1,x_5.2.2)))
 (λe=>Empty.elim e)
 (λe=>some (e.1,e.2)))
def aA (v22:Int) (tb1:Trace) (vb2:aa) (vb3:Int) (v23:Int):Option (Fw Int Unit (aa×Int)):=
 an (decide (v23<v22))
 ((dx tb1 v23).bind λx_2=>
 an (x_2==0)
 (some (.n (IntKind.wrap .i64 (v23+1))))
 (some (.r ((⟨v23,0⟩:aa),x_2))))
 (some (.x ()))
def W1 (v22 v23:Int) (tb1:Trace) (vb2:aa) (vb3:Int):Option (aa×Int):=
 (aQ (λq:Int=>aA v22 tb1 vb2 vb3 q) v23).bind (Fw.elim
 (λe=>(iK tb1).bind λx_4=>
 fu.E2 x_4 tb1 vb2 vb3)
 (λe=>some (e.1,e.2)))
end fu
def fu (t0:Trace):Option (aa×Int):=
 (lG (len t0.procs) 1 8).bind λx_1=>
 an x_1
 (fu.W1 (len t0.procs) 0 t0 (⟨0,0⟩:aa) 0)
 (some (⟨0,0⟩,1))
open fu in
instance PL (t0:Trace):Fc Sy cL (fu t0):=Fc.M 113 [enc t0] (bL 2 1 t0 (aT 9 t0.procs (aF 0 λx_1 _=>ck 3 18 (aT 8 t0.procs (b7 5 (λqW1=>(aI [Pv 1,Pv 2,Pv 3,Iv 22 (len t0.procs),Iv 23 qW1] [Xb 1 t0,Xb 2 (⟨0,0⟩:aa),(3,.box [iv 0])])) (λeW1=>(0,(aI [Pv 1,Pv 2,Pv 3] [Xb 1 t0,Xb 2 (⟨0,0⟩:aa),(3,.box [iv 0])]))) (λeW1=>(aI [Pv 2,Pv 3] [Xb 2 eW1.1,(3,.box [iv eW1.2])])) (λqW1=>aG 7 24 (aF 15 λx_2 _=>ck 9 30 af af) af) (λeW1=>aF 6 λx_4 _=>H_ λits hits=>DV 4 [Pv 1,Pv 2,Pv 3,(36,.v (.clo 163 [] [.fptr (cells x_4)]))] (λqE2=>[Xb 1 t0,Xb 2 (⟨0,0⟩:aa),(3,.box [iv 0])]) (λeE2=>Empty.elim eE2) (λeE2=>[Xb 1 t0,Xb 2 eE2.1,(3,.box [iv eE2.2])]) (xk x_4 its hits) (λxE2 qE2=>gD 8 7 0 xE2.2 (A5 1 (aF 7 λx_3 _=>ck 9 44 af af))) (λqE2=>aF 5 λx_5 _=>ck 17 54 (Ty 8 (λoo=>(aI [Pv 2,Pv 3,(36,.v (.clo 163 [] [.fptr (cells x_4)])),Pv 10,Iv 11 x_5.2.2,Bv 54 false,Cv 58 t0,Cv 59 oo] [Xb 1 t0,Xb 2 (⟨0,0⟩:aa),(3,.box [iv 0]),Xb 10 x_5.2.1])) λx_6 _=>aF 0 λx_7 _=>aG 13 63 af af) af) (λx=>Empty.elim x) (λeE2=>af)) (λeW1=>af))) af)))
def bX (t0:Trace):Option Bool:=
 (fu t0).bind λx_1=>
 some (x_1.2==0)
instance PC (t0:Trace):Fc Sy cL (bX t0):=Fc.M 77 [enc t0] (bL 2 1 t0 (aF 6 λx_1 _=>af))
def iL (c0:Sl Int) (v1:Trace):Option Bool:=
 some (!((len c0)==(len v1.procs)))
instance Px (c0:Sl Int) (v1:Trace):Fc Sy cL (iL c0 v1):=Fc.M 151 [enc c0,.fptr (cells v1)] (aT 8 c0 (aT 2 v1.procs af))
def sW (t0:Trace) (l1:Sl (Sl Int)):Option Bool:=
 (bX t0).bind λx_1=>
 (an x_1
 ((dL l1 (λz=>iL z t0)).bind λx_2=>
 some (!x_2))
 (some false):Option Bool).bind λx_3=>
 some x_3
instance RH (t0:Trace) (l1:Sl (Sl Int)):Fc Sy cL (sW t0 l1):=Fc.M 126 [enc t0,enc l1] (bL 2 2 t0 (aF 6 λx_1 _=>aV 1 5 [1,2,7] 12 (aG 1 7 (d_ (F:=gZ 151 [.fptr (cells t0)] (λz=>iL z t0) jm.qt l1) 2 λx_2 _=>aC 2) (aC 5)) λx_3=>af))
namespace gQ
def aA (v7:Sl Int) (v8:Int) (tb2:Trace) (v9:Int):Option (Fw Int Unit Unit):=
 an (decide (v9<v8))
 ((idx v7 v9).bind λx_1=>
 (an (decide (x_1<0))
 (some true)
 ((idx tb2.procs v9).bind λx_2=>
 some (decide (x_1>(len x_2.events)))):Option Bool).bind λx_3=>
 an x_3
 (some (.r ()))
 (some (.n (IntKind.wrap .i64 (v9+1)))))
 (some (.x ()))
def W1 (v7:Sl Int) (v8 v9:Int) (tb2:Trace):Option Bool:=
 (aQ (λq:Int=>aA v7 v8 tb2 q) v9).bind (Fw.elim
 (λe=>some true)
 (λe=>some false))
end gQ
def gQ (t0:Trace) (c1:Sl Int):Option Bool:=
 gQ.W1 c1 (len c1) 0 t0
open gQ in
instance PA (t0:Trace) (c1:Sl Int):Fc Sy cL (gQ t0 c1):=Fc.M 127 [enc t0,enc c1] (bL 2 2 t0 (aT 7 c1 (b7 5 (λqW1=>(aI [Pv 2,Cv 7 c1,Iv 8 (len c1),Iv 9 qW1] [Xb 2 t0])) (λeW1=>(0,(aI [] []))) (λeW1=>(aI [Bv 4 false] [])) (λqW1=>aG 7 10 (aZ 8 λx_1 _=>aV 10 10 [5,6,16] 26 (aG 10 16 (aC 10) (aZ 4 λx_2 _=>aT 2 x_2.events (aC 2))) λx_3=>aG 2 26 af af) af) (λeW1=>af) (λeW1=>af))))
def zT (t0:Trace) (p1:Int):Option Bool:=
 (an (decide (p1>=0))
 (some (decide (p1<(len t0.procs))))
 (some false):Option Bool).bind λx_1=>
 some x_1
instance PZ (t0:Trace) (p1:Int):Fc Sy cL (zT t0 p1):=Fc.M 128 [enc t0,.int .i64 p1] (bL 2 2 t0 (aV 8 6 [1,2,7] 13 (aG 8 7 (aT 3 t0.procs (aC 2)) (aC 6)) λx_1=>af))
namespace jV
def qC (vk0_15:Trace) (kindb4 mb5:Int) (vb6:aa) (vb7:Bool) (x:aa×Event):Option (Fw Unit Empty aa):=
 (an (x.2.kind==kindb4)
 (some (x.2.message==mb5))
 (some false):Option Bool).bind λx_3=>
 an x_3
 (some (.r x.1))
 (some (.n ()))
def E1 (vk0_15:Trace) (kindb4 mb5:Int) (vb6:aa) (vb7:Bool):Option (aa×Bool):=
 (gU vk0_15).bind λits=>(mz (λ(x:aa×Event) (q:Unit)=>qC vk0_15 kindb4 mb5 vb6 vb7 x) its ()).bind (Fw.u6
 (λq=>some (⟨0,0⟩,false))
 (λe=>Empty.elim e)
 (λe=>some (e,true)))
end jV
def jV (t0:Trace) (kind1 m2:Int):Option (aa×Bool):=
 (bX t0).bind λx_1=>
 an x_1
 ((iK t0).bind λx_2=>
 jV.E1 x_2 kind1 m2 (⟨0,0⟩:aa) false)
 (some (⟨0,0⟩,false))
open jV in
instance QJ (t0:Trace) (kind1 m2:Int):Fc Sy cL (jV t0 kind1 m2):=Fc.M 189 [enc t0,.int .i64 kind1,.int .i64 m2] (bL 2 3 t0 (aF 10 λx_1 _=>ck 3 12 (aF 7 λx_2 _=>H_ λits hits=>DV 4 [Pv 4,Pv 5,Pv 6,Pv 7,(15,.v (.clo 163 [] [.fptr (cells x_2)]))] (λqE1=>[(4,.box [iv kind1]),(5,.box [iv m2]),Xb 6 (⟨0,0⟩:aa),(7,.box [bv false])]) (λeE1=>Empty.elim eE1) (λeE1=>[(4,.box [iv kind1]),(5,.box [iv m2]),Xb 6 eE1,(7,.box [bv true])]) (xk x_2 its hits) (λxE1 qE1=>gD 8 9 0 xE1.2 (A5 1 (aV 9 5 [9,22] 27 (aG 9 22 (aC 5) (aC 5)) λx_3=>aG 2 27 af af))) (λqE1=>af) (λx=>Empty.elim x) (λeE1=>af)) af))
def qY (t0:Trace) (m1:Int):Option (aa×Bool):=
 (jV t0 2 m1).bind λx_1=>
 some (x_1.1,x_1.2)
instance NV (t0:Trace) (m1:Int):Fc Sy cL (qY t0 m1):=Fc.M 172 [enc t0,.int .i64 m1] (bL 2 2 t0 (aF 8 λx_1 _=>af))
namespace eO
def aX (c1:Sl Int) (p7:Int) (v13:Sl Int) (v14 v15:Int) (v27:Sl Event) (v28:Int) (tb2:Trace) (sendb4 receiveb5:aa) (v29:Int):Option (Fw Int Unit (aa×aa)):=
 an (decide (v29<v28))
 ((idx v27 v29).bind λx_4=>
 an (x_4.kind==3)
 ((qY tb2 x_4.message).bind λx_5=>
 (idx c1 x_5.1.proc).bind λx_6=>
 an (decide (x_5.1.index>x_6))
 (some (.r (x_5.1,(⟨p7,IntKind.wrap .i64 (v29+1)⟩:aa))))
 (some (.n (IntKind.wrap .i64 (v29+1)))))
 (some (.n (IntKind.wrap .i64 (v29+1)))))
 (some (.x ()))
def W2 (c1:Sl Int) (p7:Int) (v13:Sl Int) (v14 v15:Int) (v27:Sl Event) (v28 v29:Int) (tb2:Trace) (sendb4 receiveb5:aa):Option (Fw Int Unit (aa×aa)):=
 (aQ (λq:Int=>aX c1 p7 v13 v14 v15 v27 v28 tb2 sendb4 receiveb5 q) v29).bind (Fw.elim
 (λe=>some (.n (IntKind.wrap .i64 (v15+1))))
 (λe=>some (.r (e.1,e.2))))
def aA (c1 v13:Sl Int) (v14:Int) (tb2:Trace) (sendb4 receiveb5:aa) (v15:Int):Option (Fw Int Unit (aa×aa)):=
 an (decide (v15<v14))
 ((idx v13 v15).bind λx_1=>
 (idx tb2.procs v15).bind λx_2=>
 (iu x_2.events none (some x_1)).bind λx_3=>
 W2 c1 v15 v13 v14 v15 x_3 (len x_3) 0 tb2 sendb4 receiveb5)
 (some (.x ()))
def W1 (c1 v13:Sl Int) (v14 v15:Int) (tb2:Trace) (sendb4 receiveb5:aa):Option (aa×aa×Bool):=
 (aQ (λq:Int=>aA c1 v13 v14 tb2 sendb4 receiveb5 q) v15).bind (Fw.elim
 (λe=>some (⟨0,0⟩,⟨0,0⟩,false))
 (λe=>some (e.1,e.2,true)))
end eO
def eO (t0:Trace) (c1:Sl Int):Option (aa×aa×Bool):=
 eO.W1 c1 c1 (len c1) 0 t0 (⟨0,0⟩:aa) (⟨0,0⟩:aa)
open eO in
instance PT (t0:Trace) (c1:Sl Int):Fc Sy cL (eO t0 c1):=Fc.M 152 [enc t0,enc c1] (bL 2 2 t0 (aT 9 c1 (b7 5 (λqW1=>(aI [Cv 1 c1,Pv 2,Pv 4,Pv 5,Cv 13 c1,Iv 14 (len c1),Iv 15 qW1] [Xb 2 t0,Xb 4 (⟨0,0⟩:aa),Xb 5 (⟨0,0⟩:aa)])) (λeW1=>(0,(aI [Pv 4,Pv 5] [Xb 4 (⟨0,0⟩:aa),Xb 5 (⟨0,0⟩:aa)]))) (λeW1=>(aI [Pv 4,Pv 5,Bv 6 true] [Xb 4 eW1.1,Xb 5 eW1.2])) (λqW1=>aG 7 16 (aZ 8 λx_1 _=>aZ 10 λx_2 _=>BR 3 false true [.int .i64 x_1] λx_3 _=>aT 0 x_3 (b7 5 (λqW2=>(aI [Cv 1 c1,Pv 2,Pv 4,Pv 5,Iv 7 qW1,Cv 13 c1,Iv 14 (len c1),Iv 15 qW1,Cv 27 x_3,Iv 28 (len x_3),Iv 29 qW2] [Xb 2 t0,Xb 4 (⟨0,0⟩:aa),Xb 5 (⟨0,0⟩:aa)])) (λeW2=>(2,(aI [Cv 1 c1,Pv 2,Pv 4,Pv 5,Cv 13 c1,Iv 14 (len c1),Iv 15 qW1] [Xb 2 t0,Xb 4 (⟨0,0⟩:aa),Xb 5 (⟨0,0⟩:aa)]))) (λeW2=>(aI [Pv 4,Pv 5,Bv 6 true] [Xb 4 eW2.1,Xb 5 eW2.2])) (λqW2=>aG 7 30 (aZ 8 λx_4 _=>gD 3 10 0 x_4 (ck 10 36 (aF 8 λx_5 _=>aZ 15 λx_6 _=>aG 4 51 af af) af)) af) (λeW2=>af) (λeW2=>af))) af) (λeW1=>af) (λeW1=>af))))
def wE (t0:Trace) (c1:Sl Int):Option Bool:=
 (eO t0 c1).bind λx_1=>
 some (!x_1.2.2)
instance Qw (t0:Trace) (c1:Sl Int):Fc Sy cL (wE t0 c1):=Fc.M 129 [enc t0,enc c1] (bL 2 2 t0 (aF 7 λx_1 _=>af))
namespace dY
def c_ (v39:Sl (Sl Int)) (v40:Int) (tb3:Trace) (v41:Int):Option (Fw Int Unit Unit):=
 an (decide (v41<v40))
 ((idx v39 v41).bind λx_6=>
 (wE tb3 x_6).bind λx_7=>
 an x_7
 (some (.n (IntKind.wrap .i64 (v41+1))))
 (some (.r ())))
 (some (.x ()))
def W3 (v39:Sl (Sl Int)) (v40 v41:Int) (tb3:Trace):Option Int:=
 (aQ (λq:Int=>c_ v39 v40 tb3 q) v41).bind (Fw.elim
 (λe=>some 0)
 (λe=>some 18))
def aX (l1:Sl (Sl Int)) (v28:Sl Int) (v29:Int) (tb3:Trace) (v30:Int):Option (Fw Int Unit Unit):=
 an (decide (v30<v29))
 ((idx v28 v30).bind λx_4=>
 (zT tb3 x_4).bind λx_5=>
 an x_5
 (some (.n (IntKind.wrap .i64 (v30+1))))
 (some (.r ())))
 (some (.x ()))
def W2 (l1:Sl (Sl Int)) (v28:Sl Int) (v29 v30:Int) (tb3:Trace):Option Int:=
 (aQ (λq:Int=>aX l1 v28 v29 tb3 q) v30).bind (Fw.elim
 (λe=>dY.W3 l1 (len l1) 0 tb3)
 (λe=>some 2))
def aA (l1:Sl (Sl Int)) (procs2:Sl Int) (v17:Sl (Sl Int)) (v18:Int) (tb3:Trace) (v19:Int):Option (Fw Int Unit Unit):=
 an (decide (v19<v18))
 ((idx v17 v19).bind λx_2=>
 (gQ tb3 x_2).bind λx_3=>
 an x_3
 (some (.n (IntKind.wrap .i64 (v19+1))))
 (some (.r ())))
 (some (.x ()))
def W1 (l1:Sl (Sl Int)) (procs2:Sl Int) (v17:Sl (Sl Int)) (v18 v19:Int) (tb3:Trace):Option Int:=
 (aQ (λq:Int=>aA l1 procs2 v17 v18 tb3 q) v19).bind (Fw.elim
 (λe=>dY.W2 l1 procs2 (len procs2) 0 tb3)
 (λe=>some 2))
end dY
def dY (t0:Trace) (l1:Sl (Sl Int)) (procs2:Sl Int):Option Int:=
 (sW t0 l1).bind λx_1=>
 an x_1
 (dY.W1 l1 procs2 l1 (len l1) 0 t0)
 (some 1)
open dY in
instance RG (t0:Trace) (l1:Sl (Sl Int)) (procs2:Sl Int):Fc Sy cL (dY t0 l1 procs2):=Fc.M 105 [enc t0,enc l1,enc procs2] (bL 2 3 t0 (aF 8 λx_1 _=>ck 3 16 (aT 7 l1 (b7 5 (λqW1=>(aI [Cv 1 l1,Cv 2 procs2,Pv 3,Cv 17 l1,Iv 18 (len l1),Iv 19 qW1] [Xb 3 t0])) (λeW1=>(0,(aI [Cv 1 l1,Cv 2 procs2,Pv 3] [Xb 3 t0]))) (λeW1=>(aI [Iv 6 2] [])) (λqW1=>aG 7 20 (aZ 7 λx_2 _=>aF 8 λx_3 _=>ck 3 26 af af) af) (λeW1=>aT 6 procs2 (b7 5 (λqW2=>(aI [Cv 1 l1,Pv 3,Cv 28 procs2,Iv 29 (len procs2),Iv 30 qW2] [Xb 3 t0])) (λeW2=>(2,(aI [Cv 1 l1,Pv 3] [Xb 3 t0]))) (λeW2=>(aI [Iv 6 2] [])) (λqW2=>aG 7 31 (aZ 7 λx_4 _=>aF 8 λx_5 _=>ck 3 37 af af) af) (λeW2=>aT 6 l1 (b7 5 (λqW3=>(aI [Pv 3,Cv 39 l1,Iv 40 (len l1),Iv 41 qW3] [Xb 3 t0])) (λeW3=>(4,(aI [] []))) (λeW3=>(aI [Iv 6 18] [])) (λqW3=>aG 7 42 (aZ 7 λx_6 _=>aF 8 λx_7 _=>ck 3 48 af af) af) (λeW3=>af) (λeW3=>af))) (λeW2=>af))) (λeW1=>af))) af))
def iq (t0:Trace) (c1:Sl Int):Option Bool:=
 (dY t0 (Sl.row [c1]:Sl (Sl Int)) (Sl.nil:Sl Int)).bind λx_1=>
 some (x_1==0)
instance Mq (t0:Trace) (c1:Sl Int):Fc Sy cL (iq t0 c1):=Fc.M 65 [enc t0,enc c1] (bL 2 2 t0 (zC 7 7 ([c1]:List (Sl Int)) (d_ 0 λx_1 _=>af)))
namespace dW
def aA (a0 b1:Sl Int) (v12:Int) (v13:Int):Option (Fw Int Unit Unit):=
 an (decide (v13<v12))
 ((idx a0 v13).bind λx_1=>
 (idx b1 v13).bind λx_2=>
 an (decide (x_1>x_2))
 (some (.r ()))
 (some (.n (IntKind.wrap .i64 (v13+1)))))
 (some (.x ()))
def W1 (a0 b1:Sl Int) (v12 v13:Int):Option Bool:=
 (aQ (λq:Int=>aA a0 b1 v12 q) v13).bind (Fw.elim
 (λe=>some true)
 (λe=>some false))
end dW
def dW (a0 b1:Sl Int):Option Bool:=
 an ((len a0)==(len b1))
 (dW.W1 a0 b1 (len a0) 0)
 (some false)
open dW in
instance S_ (a0 b1:Sl Int):Fc Sy cL (dW a0 b1):=Fc.M 82 [enc a0,enc b1] (aT 9 a0 (aT 1 b1 (ck 3 10 (aT 7 a0 (b7 5 (λqW1=>(aI [Cv 0 a0,Cv 1 b1,Iv 12 (len a0),Iv 13 qW1] [])) (λeW1=>(0,(aI [] []))) (λeW1=>(aI [Bv 4 false] [])) (λqW1=>aG 7 14 (aZ 15 λx_1 _=>aZ 3 λx_2 _=>aG 4 24 af af) af) (λeW1=>af) (λeW1=>af))) af)))
namespace gq
def aA (v37:Sl (Sl (Sl Int))) (v38:Int) (tb2:Trace) (v39:Int):Option (Fw Int Unit Unit):=
 an (decide (v39<v38))
 ((idx v37 v39).bind λx_7=>
 (idx tb2.procs v39).bind λx_8=>
 an ((len x_7)==(len x_8.events))
 (some (.n (IntKind.wrap .i64 (v39+1))))
 (some (.r ())))
 (some (.x ()))
def W1 (v37:Sl (Sl (Sl Int))) (v38 v39:Int) (tb2:Trace):Option Bool:=
 (aQ (λq:Int=>aA v37 v38 tb2 q) v39).bind (Fw.elim
 (λe=>some true)
 (λe=>some false))
end gq
def gq (t0:Trace) (s1:Slice):Option Bool:=
 (iq t0 s1.first).bind λx_1=>
 (an x_1
 ((iq t0 s1.last).bind λx_2=>
 some (!x_2))
 (some true):Option Bool).bind λx_3=>
 (an x_3
 (some true)
 ((dW s1.first s1.last).bind λx_4=>
 some (!x_4)):Option Bool).bind λx_5=>
 (an x_5
 (some true)
 (some (!((len s1.j)==(len t0.procs)))):Option Bool).bind λx_6=>
 an x_6
 (some false)
 (gq.W1 s1.j (len s1.j) 0 t0)
open gq in
instance Od (t0:Trace) (s1:Slice):Fc Sy cL (gq t0 s1):=Fc.M 99 [enc t0,enc s1] (bL 2 2 t0 (bL 0 3 s1 (aF 9 λx_1 _=>aV 2 6 [12] 18 (ck 2 12 (aF 3 λx_2 _=>aC 2) (aC 6)) λx_3=>aV 1 7 [19] 26 (aG 1 19 (aC 7) (aF 4 λx_4 _=>aC 2)) λx_5=>aV 1 8 [27] 35 (aG 1 27 (aC 8) (aT 2 s1.j (aT 2 t0.procs (aC 2)))) λx_6=>aG 2 35 af (aT 8 s1.j (b7 5 (λqW1=>(aI [Pv 2,Cv 37 s1.j,Iv 38 (len s1.j),Iv 39 qW1] [Xb 2 t0])) (λeW1=>(0,(aI [] []))) (λeW1=>(aI [Bv 4 false] [])) (λqW1=>aG 7 40 (aZ 8 λx_7 _=>aT 8 x_7 (aZ 3 λx_8 _=>aT 2 x_8.events (ck 3 53 af af))) af) (λeW1=>af) (λeW1=>af))))))
namespace fA
def aA (v7:Sl bp) (v8:Int) (out3:Sl Int) (v9:Int):Option (Fw ((Sl Int)×Int) (Sl Int) Empty):=
 an (decide (v9<v8))
 ((idx v7 v9).bind λx_1=>
 (kf out3 (len x_1.events:Int)).bind λx_2=>
 some (.n (x_2,IntKind.wrap .i64 (v9+1))))
 (some (.x out3))
def W1 (out3:Sl Int) (v7:Sl bp) (v8 v9:Int):Option (Sl Int):=
 (aQ (λq:(Sl Int)×Int=>aA v7 v8 q.1 q.2) (out3,v9)).bind (Fw.elim
 (λe=>some e)
 (λe=>Empty.elim e))
end fA
def fA (t0:Trace):Option (Sl Int):=
 fA.W1 (Sl.nil:Sl Int) t0.procs (len t0.procs) 0
open fA in
instance PG (t0:Trace):Fc Sy cL (fA t0):=Fc.N 100 [enc t0] (bL 2 1 t0 (aT 13 t0.procs (jv 6 (λqW1=>(aI [Ov 3,Cv 7 t0.procs,Iv 8 (len t0.procs),Iv 9 qW1.2] [Lb 2003 qW1.1])) (λeW1=>(0,(aI [Ov 3] [Lb 2003 eW1]))) (λqW1=>aG 8 10 (aZ 7 λx_1 _=>gD 2 5 0 x_1 (aT 6 x_1.events (vz 1 2003 17 18 λx_2 _=>af))) af) (λeW1=>af))))
def jP (s0:Slice) (x1:aa):Option (Sl Int):=
 (idx s0.j x1.proc).bind λx_1=>
 (idx x_1 (IntKind.wrap .i64 (x1.index-1))).bind λx_2=>
 some x_2
instance NR (s0:Slice) (x1:aa):Fc Sy cL (jP s0 x1):=Fc.N 73 [enc s0,enc x1] (bL 2 2 s0 (aZ 10 λx_1 _=>aZ 4 λx_2 _=>af))
def ow (x0:aa) (c1:Sl Int):Option Bool:=
 (idx c1 x0.proc).bind λx_1=>
 some (decide (x0.index<=x_1))
instance RQ (x0:aa) (c1:Sl Int):Fc Sy cL (ow x0 c1):=Fc.M 125 [enc x0,enc c1] (aZ 13 λx_1 _=>af)
namespace cN
def aA (s10 s21:Sl Int) (v12:Int) (v13:Int):Option (Fw Int Unit Unit):=
 an (decide (v13<v12))
 ((idx s10 v13).bind λx_1=>
 (idx s21 v13).bind λx_2=>
 an (x_1==x_2)
 (some (.n (IntKind.wrap .i64 (v13+1))))
 (some (.r ())))
 (some (.x ()))
def W1 (s10 s21:Sl Int) (v12 v13:Int):Option Bool:=
 (aQ (λq:Int=>aA s10 s21 v12 q) v13).bind (Fw.elim
 (λe=>some true)
 (λe=>some false))
end cN
def cN (s10 s21:Sl Int):Option Bool:=
 an ((len s10)==(len s21))
 (cN.W1 s10 s21 (len s10) 0)
 (some false)
open cN in
instance JX (s10 s21:Sl Int):Fc Sy cL (cN s10 s21):=Fc.M 38 [enc s10,enc s21] (aT 9 s10 (aT 1 s21 (ck 3 10 (aT 7 s10 (b7 5 (λqW1=>(aI [Cv 0 s10,Cv 1 s21,Iv 12 (len s10),Iv 13 qW1] [])) (λeW1=>(0,(aI [] []))) (λeW1=>(aI [Bv 4 false] [])) (λqW1=>aG 7 14 (aZ 15 λx_1 _=>aZ 3 λx_2 _=>ck 4 24 af af) af) (λeW1=>af) (λeW1=>af))) af)))
def sJ (t0:Trace) (s1:Slice) (x2:aa):Option Bool:=
 (jP s1 x2).bind λx_1=>
 (ow x2 s1.last).bind λx_2=>
 an x_2
 ((ow x2 s1.first).bind λx_3=>
 an x_3
 ((cN x_1 s1.first).bind λx_4=>
 some x_4)
 ((iq t0 x_1).bind λx_5=>
 (an x_5
 ((ow x2 x_1).bind λx_6=>
 some x_6)
 (some false):Option Bool).bind λx_7=>
 (an x_7
 ((dW s1.first x_1).bind λx_8=>
 some x_8)
 (some false):Option Bool).bind λx_9=>
 (an x_9
 ((dW x_1 s1.last).bind λx_10=>
 some x_10)
 (some false):Option Bool).bind λx_11=>
 some x_11))
 (some ((len x_1)==0))
instance PV (t0:Trace) (s1:Slice) (x2:aa):Fc Sy cL (sJ t0 s1 x2):=Fc.M 102 [enc t0,enc s1,enc x2] (bL 2 3 t0 (bL 0 4 s1 (aF 8 λx_1 _=>aF 10 λx_2 _=>ck 4 11 (aF 6 λx_3 _=>aG 3 20 (aF 6 λx_4 _=>af) (aF 8 λx_5 _=>aV 1 4 [5,32] 36 (aG 1 32 (aF 2 λx_6 _=>aC 1) (aC 4)) λx_7=>aV 1 5 [37] 42 (aG 1 37 (aF 3 λx_8 _=>aC 1) (aC 5)) λx_9=>aV 1 5 [4,7,43] 48 (aG 1 43 (aF 3 λx_10 _=>aC 1) (aC 5)) λx_11=>af)) (aT 4 x_1 af))))
def lS (x0:aa) (v1:Trace) (v2:Slice):Option Bool:=
 (sJ v1 v2 x0).bind λx_1=>
 some x_1
instance LY (x0:aa) (v1:Trace) (v2:Slice):Fc Sy cL (lS x0 v1 v2):=Fc.M 101 [enc x0,.fptr (cells v1),.fptr (cells v2)] (aF 11 λx_1 _=>af)
namespace cZ
def aX (p5:Int) (v8:Sl Int) (v9 v10 v15:Int) (v16:Int) (p1:aa->Option Bool):Option (Fw Int Unit Unit):=
 an (decide (v16<v15))
 ((p1 (⟨p5,IntKind.wrap .i64 (v16+1)⟩:aa)).bind λx_2=>
 an x_2
 (some (.n (IntKind.wrap .i64 (v16+1))))
 (some (.r ())))
 (some (.x ()))
def W2 (p5:Int) (v8:Sl Int) (v9 v10 v15 v16:Int) (p1:aa->Option Bool):Option (Fw Int Unit Unit):=
 (aQ (λq:Int=>aX p5 v8 v9 v10 v15 q p1) v16).bind (Fw.elim
 (λe=>some (.n (IntKind.wrap .i64 (v10+1))))
 (λe=>some (.r ())))
def aA (v8:Sl Int) (v9:Int) (v10:Int) (p1:aa->Option Bool):Option (Fw Int Unit Unit):=
 an (decide (v10<v9))
 ((idx v8 v10).bind λx_1=>
 W2 v10 v8 v9 v10 x_1 0 p1)
 (some (.x ()))
def W1 (v8:Sl Int) (v9 v10:Int) (p1:aa->Option Bool):Option Bool:=
 (aQ (λq:Int=>aA v8 v9 q p1) v10).bind (Fw.elim
 (λe=>some true)
 (λe=>some false))
end cZ
def cZ (c0:Sl Int) (p1:aa->Option Bool):Option Bool:=
 cZ.W1 c0 (len c0) 0 p1
open cZ in
abbrev qF (g1:FuncId) (e1:List V) (p1:aa->Option Bool) (h1:jm Sy cL g1 [] e1 (λz:aa=>[enc z]) (λr:Bool=>[.bool r]) p1 true) (c0:Sl Int):Fc Sy cL (cZ c0 p1):=Fc.M 71 [enc c0,.clo g1 [] e1] (aT 9 c0 (b7 5 (λqW1=>(aI [(1,.v (.clo g1 [] e1)),Cv 8 c0,Iv 9 (len c0),Iv 10 qW1] [])) (λeW1=>(0,(aI [] []))) (λeW1=>(aI [Bv 4 false] [])) (λqW1=>aG 7 11 (aZ 8 λx_1 _=>b7 13 (λqW2=>(aI [(1,.v (.clo g1 [] e1)),Iv 5 qW1,Cv 8 c0,Iv 9 (len c0),Iv 10 qW1,Iv 15 x_1,Iv 16 qW2] [])) (λeW2=>(2,(aI [(1,.v (.clo g1 [] e1)),Cv 8 c0,Iv 9 (len c0),Iv 10 qW1] []))) (λeW2=>(aI [Bv 4 false] [])) (λqW2=>aG 7 17 (qL 18 h1.f (⟨qW1,IntKind.wrap .i64 (qW2+1)⟩:aa) λx_2 _=>ck 3 25 af af) af) (λeW2=>af) (λeW2=>af)) af) (λeW1=>af) (λeW1=>af))) (l:=by simp[h1.d])
def lP (y0:aa) (v1:Slice) (v2:Sl Int):Option Bool:=
 (jP v1 y0).bind λx_1=>
 (dW x_1 v2).bind λx_2=>
 some x_2
instance Jo (y0:aa) (v1:Slice) (v2:Sl Int):Fc Sy cL (lP y0 v1 v2):=Fc.M 104 [enc y0,.fptr (cells v1),.fptr (cells v2)] (aF 10 λx_1 _=>d_ 1 λx_2 _=>af)
def oK (x0:aa) (v1:Slice):Option Bool:=
 (jP v1 x0).bind λx_1=>
 (cZ x_1 (λz=>lP z v1 x_1)).bind λx_2=>
 some x_2
instance Lo (x0:aa) (v1:Slice):Fc Sy cL (oK x0 v1):=Fc.M 103 [enc x0,.fptr (cells v1)] (aF 10 λx_1 _=>gD 1 4 0 x_1 (d_ (F:=qF 104 [.fptr (cells v1),.fptr (cells x_1)] (λz=>lP z v1 x_1) jm.qt x_1) 6 λx_2 _=>af))
def mX (t0:Trace) (s1:Slice):Option Bool:=
 (bX t0).bind λx_1=>
 an x_1
 (an s1.empty
 ((an ((len s1.first)==0)
 (some ((len s1.last)==0))
 (some false):Option Bool).bind λx_2=>
 (an x_2
 (some ((len s1.j)==0))
 (some false):Option Bool).bind λx_3=>
 some x_3)
 ((gq t0 s1).bind λx_4=>
 (an x_4
 ((fA t0).bind λx_5=>
 (cZ x_5 (λz=>lS z t0 s1)).bind λx_6=>
 some (!x_6))
 (some true):Option Bool).bind λx_7=>
 an x_7
 (some false)
 ((cZ s1.last (λz=>oK z s1)).bind λx_8=>
 some x_8)))
 (some false)
instance PK (t0:Trace) (s1:Slice):Fc Sy cL (mX t0 s1):=Fc.M 64 [enc t0,enc s1] (bL 2 2 t0 (bL 0 3 s1 (aF 7 λx_1 _=>ck 3 7 (aG 10 9 (aT 5 s1.first (aV 2 5 [14] 19 (aG 2 14 (aT 2 s1.last (aC 2)) (aC 5)) λx_2=>aV 1 5 [3,20] 25 (aG 1 20 (aT 2 s1.j (aC 2)) (aC 5)) λx_3=>af)) (aF 8 λx_4 _=>aV 2 6 [2,30] 36 (ck 2 30 (aF 1 λx_5 _=>d_ (F:=qF 101 [.fptr (cells t0),.fptr (cells s1)] (λz=>lS z t0 s1) jm.qt x_5) 1 λx_6 _=>aC 2) (aC 6)) λx_7=>aG 2 36 af (d_ (F:=qF 103 [.fptr (cells s1)] (λz=>oK z s1) jm.qt s1.last) 8 λx_8 _=>af))) af)))
def oJ (s0:Slice) (v1:Trace):Option Bool:=
 (mX v1 s0).bind λx_1=>
 some (!x_1)
instance M0 (s0:Slice) (v1:Trace):Fc Sy cL (oJ s0 v1):=Fc.M 79 [enc s0,.fptr (cells v1)] (bL 2 2 s0 (aF 7 λx_1 _=>af))
namespace ei
def aA (s0:Sl Slice) (v7:Int) (v8:Int) (p1:Slice->Option Bool):Option (Fw Int Unit Int):=
 an (decide (v8<v7))
 ((idx s0 v8).bind λx_1=>
 (p1 x_1).bind λx_2=>
 an x_2
 (some (.r v8))
 (some (.n (IntKind.wrap .i64 (v8+1)))))
 (some (.x ()))
def W1 (s0:Sl Slice) (v7 v8:Int) (p1:Slice->Option Bool):Option Int:=
 (aQ (λq:Int=>aA s0 v7 q p1) v8).bind (Fw.elim
 (λe=>some (-1))
 (λe=>some e))
end ei
def ei (s0:Sl Slice) (p1:Slice->Option Bool):Option Int:=
 ei.W1 s0 (len s0) 0 p1
open ei in
abbrev ua (g1:FuncId) (e1:List V) (p1:Slice->Option Bool) (h1:jm Sy cL g1 [] e1 (λz:Slice=>[enc z]) (λr:Bool=>[.bool r]) p1 true) (s0:Sl Slice):Fc Sy cL (ei s0 p1):=Fc.M 114 [enc s0,.clo g1 [] e1] (aT 9 s0 (b7 5 (λqW1=>(aI [Cv 0 s0,(1,.v (.clo g1 [] e1)),Iv 7 (len s0),Iv 8 qW1] [])) (λeW1=>(0,(aI [] []))) (λeW1=>(aI [Iv 4 eW1] [])) (λqW1=>aG 7 9 (aZ 16 λx_1 _=>qL 1 h1.f x_1 λx_2 _=>aG 2 16 af af) af) (λeW1=>af) (λeW1=>af))) (l:=by simp[h1.d])
def iG (s0:Sl Slice) (p1:Slice->Option Bool):Option Bool:=
 (ei s0 p1).bind λx_1=>
 some (decide (x_1>=0))
abbrev sP (g1:FuncId) (e1:List V) (p1:Slice->Option Bool) (h1:jm Sy cL g1 [] e1 (λz:Slice=>[enc z]) (λr:Bool=>[.bool r]) p1 true) (s0:Sl Slice):Fc Sy cL (iG s0 p1):=Fc.M 78 [enc s0,.clo g1 [] e1] (aF (F:=ua g1 e1 p1 h1 s0) 9 λx_1 _=>af) (l:=by simp[h1.d])
def nv (t0:Trace) (l1:Sl Slice):Option Bool:=
 (bX t0).bind λx_1=>
 (an x_1
 ((iG l1 (λz=>oJ z t0)).bind λx_2=>
 some (!x_2))
 (some false):Option Bool).bind λx_3=>
 some x_3
instance PW (t0:Trace) (l1:Sl Slice):Fc Sy cL (nv t0 l1):=Fc.M 44 [enc t0,enc l1] (bL 2 2 t0 (aF 6 λx_1 _=>aV 1 5 [1,2,7] 12 (aG 1 7 (d_ (F:=sP 79 [.fptr (cells t0)] (λz=>oJ z t0) jm.qt l1) 2 λx_2 _=>aC 2) (aC 5)) λx_3=>af))
def eW (s0:Sl Int):Option (Sl Int):=
 (Sl.isNil s0).bind λx_1=>
 an x_1
 (some Sl.nil)
 ((s9 (Sl.row []:Sl Int) s0).bind λx_2=>
 some x_2)
theorem fN:FC Sy cL 85 (λs0:Sl Int=>[enc s0]) (λz=>eW z):=FC.mk' (xw (Tx 85)) (λs0=>Tg 9 λx_1 _=>aG 2 4 af (KZ 7 5 7 λx_2 _=>af))
namespace iM
def aA (tb3:Trace) (out8:Sl Int) (p2:Sl Int->(aa×aa)->Option (Sl Int)):Option (Fw (Sl Int) Empty (Sl Int)):=
 (eO tb3 out8).bind λx_4=>
 an x_4.2.2
 ((p2 out8 (x_4.1,x_4.2.1)).bind λx_5=>
 some (.n x_5))
 (some (.r out8))
def W1 (out8:Sl Int) (tb3:Trace) (p2:Sl Int->(aa×aa)->Option (Sl Int)):Option ((Sl Int)×Int):=
 (aQ (λq:Sl Int=>aA tb3 q p2) out8).bind (Fw.elim
 (λe=>Empty.elim e)
 (λe=>some (e,0)))
end iM
def iM (t0:Trace) (counts1:Sl Int) (p2:Sl Int->(aa×aa)->Option (Sl Int)):Option ((Sl Int)×Int):=
 (sW t0 (Sl.row [counts1]:Sl (Sl Int))).bind λx_1=>
 an x_1
 ((gQ t0 counts1).bind λx_2=>
 an x_2
 (((eW counts1).bind Sl.whole).bind λx_3=>
 iM.W1 x_3 t0 p2)
 (some ((Sl.nil:Sl Int),2)))
 (some ((Sl.nil:Sl Int),1))
open iM in
abbrev BN (g2:FuncId) (e2:List V) (p2:Sl Int->(aa×aa)->Option (Sl Int)) (h2:J2 Sy g2 e2 (λz:aa×aa=>[enc z.1,enc z.2]) p2) (t0:Trace) (counts1:Sl Int):Fc Sy cL (iM t0 counts1 p2):=Fc.N 144 [enc t0,enc counts1,.clo g2 [] e2] (bL 2 3 t0 (zC 10 15 ([counts1]:List (Sl Int)) (d_ 0 λx_1 _=>ck 4 12 (aF 5 λx_2 _=>ck 4 18 (BK 7 24 fN counts1 λx_3 _=>Q4 6 (λqW1=>(aI [(2,.v (.clo g2 [] e2)),Pv 3,Ov 8] [Xb 3 t0,Lb 2008 qW1])) (λeW1=>(aI [Ov 6,Iv 7 0] [Lb 2006 eW1])) (λqW1=>d_ 7 λx_4 _=>ck 18 33 (Rl 8 2008 h2 (x_4.1,x_4.2.1) λx_5 _=>af) af) (λeW1=>af)) af) af))) (l:=by simp[h2.d])
def uW (t0:Trace) (counts1:Sl Int):Option ((Sl Int)×Int):=
 (iM t0 counts1 (λs (z:aa×aa)=>s.setAt z.1.proc z.1.index)).bind λx_1=>
 some (x_1.1,x_1.2)
instance RB (t0:Trace) (counts1:Sl Int):Fc Sy cL (uW t0 counts1):=Fc.N 115 [enc t0,enc counts1] (bL 2 2 t0 (aF (F:=BN 145 [] (λs (z:aa×aa)=>s.setAt z.1.proc z.1.index) (J2.vC (op:=false) OU (by kernel_rfl) (by kernel_rfl)) t0 counts1) 8 λx_1 _=>af))
def mC (t0:Trace) (c1:Sl Int):Option (Sl Int):=
 (uW t0 c1).bind λx_1=>
 some x_1.1
instance QY (t0:Trace) (c1:Sl Int):Fc Sy cL (mC t0 c1):=Fc.N 83 [enc t0,enc c1] (bL 2 2 t0 (aF 7 λx_1 _=>af))
def lu (c0:Sl Int) (v1:Slice) (v2:Trace):Option ((Sl Int)×Bool):=
 (an v1.empty
 (some true)
 ((mC v2 c0).bind λx_1=>
 (dW x_1 v1.last).bind λx_2=>
 some (!x_2)):Option Bool).bind λx_3=>
 an x_3
 (some (Sl.nil,false))
 ((mC v2 c0).bind λx_4=>
 some (x_4,true))
instance PO (c0:Sl Int) (v1:Slice) (v2:Trace):Fc Sy cL (lu c0 v1 v2):=Fc.N 81 [enc c0,.fptr (cells v1),.fptr (cells v2)] (DJ 12 8 [14,11] (λx_3=>(aI [Cv 0 c0,Kv 2 v2,Bv 16 x_3] [])) (aG 12 8 (aC 8) (aF 2 λx_1 _=>d_ 2 λx_2 _=>aC 2)) λx_3=>aG 2 16 af (aF 7 λx_4 _=>af))
def qI (c0:Sl Int) (p1 index2:Int):Option (Sl Int):=
 ((eW c0).bind Sl.whole).bind λx_1=>
 (Sl.mm x_1 p1).bind λx_2=>
 (Sl.get x_1 x_2).bind λx_3=>
 (Sl.mm x_1 p1).bind λx_4=>
 (Sl.put x_1 x_4 ((if index2>x_3 then index2 else x_3):Int)).bind λx_5=>
 some x_5
instance Qp (c0:Sl Int) (p1 index2:Int):Fc Sy cL (qI c0 p1 index2):=Fc.N 86 [enc c0,.int .i64 p1,.int .i64 index2] (BK 8 9 fN c0 λx_1 _=>ox .i64 9 9 λx_2 _=>uB 0 9 0 1 false (λx_3=>.int .i64 x_3) λx_3 _=>ox .i64 2 9 λx_4 _=>Cg 0 9 (.int .i64 (if index2>x_3 then index2 else x_3)) λx_5 _=>af)
namespace eB
def aA (v10:Sl Int) (v11:Int) (out5:Sl Int) (v12:Int):Option (Fw ((Sl Int)×Int) (Sl Int) Empty):=
 an (decide (v12<v11))
 ((idx v10 v12).bind λx_2=>
 (Sl.mm out5 v12).bind λx_3=>
 (Sl.get out5 x_3).bind λx_4=>
 (Sl.mm out5 v12).bind λx_5=>
 (Sl.put out5 x_5 ((if x_2>x_4 then x_2 else x_4):Int)).bind λx_6=>
 some (.n (x_6,IntKind.wrap .i64 (v12+1))))
 (some (.x out5))
def W1 (out5 v10:Sl Int) (v11 v12:Int):Option (Sl Int):=
 (aQ (λq:(Sl Int)×Int=>aA v10 v11 q.1 q.2) (out5,v12)).bind (Fw.elim
 (λe=>some e)
 (λe=>Empty.elim e))
end eB
def eB (a0 b1:Sl Int):Option (Sl Int):=
 ((eW a0).bind Sl.whole).bind λx_1=>
 eB.W1 x_1 b1 (len b1) 0
open eB in
instance Rb (a0 b1:Sl Int):Fc Sy cL (eB a0 b1):=Fc.N 88 [enc a0,enc b1] (BK 8 9 fN a0 λx_1 _=>aT 7 b1 (jv 6 (λqW1=>(aI [Ov 5,Cv 10 b1,Iv 11 (len b1),Iv 12 qW1.2] [Lb 2005 qW1.1])) (λeW1=>(0,(aI [Ov 5] [Lb 2005 eW1]))) (λqW1=>aG 8 13 (aZ 8 λx_2 _=>ox .i64 10 2005 λx_3 _=>uB 0 2005 0 1 false (λx_4=>.int .i64 x_4) λx_4 _=>ox .i64 2 2005 λx_5 _=>Cg 0 2005 (.int .i64 (if x_2>x_4 then x_2 else x_4)) λx_6 _=>af) af) (λeW1=>af)))
namespace cW
def J3 (first5:Sl Int) (p8:Int) (l10:Sl (Sl Int)) (c12:Sl Int) (v31:Sl bp) (v32 v33 v40 v41:Int) (vb4 outb7:Slice) (p1:(Sl Int)->Option ((Sl Int)×Bool)):Option (Fw ((Sl (Sl Int))×Int×Slice×Slice) ((Sl (Sl Int))×Int×Slice×Slice) Empty):=
 (kf l10 (c12:Sl Int)).bind λx_8=>
 some (.n (x_8,IntKind.wrap .i64 (v41+1),(⟨vb4.empty,Sl.nil,Sl.nil,Sl.nil⟩:Slice),outb7))
def aX (first5:Sl Int) (p8:Int) (v31:Sl bp) (v32 v33 v40:Int) (l10:Sl (Sl Int)) (v41:Int) (vb4 outb7:Slice) (p1:(Sl Int)->Option ((Sl Int)×Bool)):Option (Fw ((Sl (Sl Int))×Int×Slice×Slice) ((Sl (Sl Int))×Int×Slice×Slice) Empty):=
 an (decide (v41<v40))
 ((qI first5 p8 (IntKind.wrap .i64 (v41+1))).bind λx_5=>
 (p1 x_5).bind λx_6=>
 an x_6.2
 ((eB outb7.last x_6.1).bind λx_7=>
 J3 first5 p8 l10 x_6.1 v31 v32 v33 v40 v41 (⟨vb4.empty,Sl.nil,Sl.nil,Sl.nil⟩:Slice) (⟨outb7.empty,outb7.first,x_7,outb7.j⟩:Slice) p1)
 (J3 first5 p8 l10 x_6.1 v31 v32 v33 v40 v41 (⟨vb4.empty,Sl.nil,Sl.nil,Sl.nil⟩:Slice) outb7 p1))
 (some (.x (l10,v33,(⟨vb4.empty,Sl.nil,Sl.nil,Sl.nil⟩:Slice),outb7)))
def W2 (first5:Sl Int) (p8:Int) (l10:Sl (Sl Int)) (v31:Sl bp) (v32 v33 v40 v41:Int) (vb4 outb7:Slice) (p1:(Sl Int)->Option ((Sl Int)×Bool)):Option (Fw (Int×Slice×Slice) (Slice×Slice) Empty):=
 (aQ (λq:(Sl (Sl Int))×Int×Slice×Slice=>aX first5 p8 v31 v32 v33 v40 q.1 q.2.1 q.2.2.1 q.2.2.2 p1) (l10,v41,vb4,outb7)).bind (Fw.elim
 (λe=>(kf e.2.2.2.j (e.1:Sl (Sl Int))).bind λx_9=>
 some (.n (IntKind.wrap .i64 (e.2.1+1),(⟨e.2.2.1.empty,Sl.nil,Sl.nil,Sl.nil⟩:Slice),(⟨e.2.2.2.empty,e.2.2.2.first,e.2.2.2.last,x_9⟩:Slice))))
 (λe=>Empty.elim e))
def aA (first5:Sl Int) (v31:Sl bp) (v32:Int) (v33:Int) (vb4 outb7:Slice) (p1:(Sl Int)->Option ((Sl Int)×Bool)):Option (Fw (Int×Slice×Slice) (Slice×Slice) Empty):=
 an (decide (v33<v32))
 ((idx v31 v33).bind λx_4=>
 W2 first5 v33 (Sl.nil:Sl (Sl Int)) v31 v32 v33 (len x_4.events) 0 (⟨vb4.empty,Sl.nil,Sl.nil,Sl.nil⟩:Slice) outb7 p1)
 (some (.x ((⟨vb4.empty,Sl.nil,Sl.nil,Sl.nil⟩:Slice),outb7)))
def W1 (first5:Sl Int) (v31:Sl bp) (v32 v33:Int) (vb4 outb7:Slice) (p1:(Sl Int)->Option ((Sl Int)×Bool)):Option Slice:=
 (aQ (λq:Int×Slice×Slice=>aA first5 v31 v32 q.1 q.2.1 q.2.2 p1) (v33,vb4,outb7)).bind (Fw.elim
 (λe=>some e.2)
 (λe=>Empty.elim e))
end cW
def cW (t0:Trace) (p1:(Sl Int)->Option ((Sl Int)×Bool)):Option Slice:=
 (nZ (len t0.procs) (0:Int)).bind λx_1=>
 (p1 x_1).bind λx_2=>
 an x_2.2
 (((eW x_2.1).bind Sl.whole).bind λx_3=>
 cW.W1 x_2.1 t0.procs (len t0.procs) 0 (⟨false,Sl.nil,Sl.nil,Sl.nil⟩:Slice) (⟨false,x_2.1,x_3,Sl.nil⟩:Slice) p1)
 (some ⟨true,Sl.nil,Sl.nil,Sl.nil⟩)
open cW in
abbrev tf (g1:FuncId) (e1:List V) (p1:(Sl Int)->Option ((Sl Int)×Bool)) (h1:jm Sy cL g1 [] e1 (λz:Sl Int=>[enc z]) (λr:(Sl Int)×Bool=>[enc r.1,.bool r.2]) p1 false) (t0:Trace):Fc Sy cL (cW t0 p1):=Fc.N 80 [enc t0,.clo g1 [] e1] (bL 2 2 t0 (aT 8 t0.procs (Te 0 19 λx_1 _=>qL 1 h1.f x_1 λx_2 _=>ck 14 24 (BK 7 28 fN x_2.1 λx_3 _=>zX 1 (⟨false,x_2.1,x_3,Sl.nil⟩:Slice) [enc x_2.1,enc x_3] [.bool false,.aL,.aL,.aL] [(1,1),(2,1)] (by simp only[mM,n9,fW,uE,rW,uz,uM];rfl) rfl (gD 1 7 0 (⟨false,x_2.1,x_3,Sl.nil⟩:Slice) (aT 7 t0.procs (jv 6 (λqW1=>(aI [(1,.v (.clo g1 [] e1)),Pv 4,Cv 5 x_2.1,Pv 7,Cv 31 t0.procs,Iv 32 (len t0.procs),Iv 33 qW1.1] [Xb 4 (⟨qW1.2.1.empty,Sl.nil,Sl.nil,Sl.nil⟩:Slice),(7,.box [bv qW1.2.2.empty,cv qW1.2.2.first,cv qW1.2.2.last,.own 4143]),Lb 4143 qW1.2.2.j])) (λeW1=>(0,(aI [Pv 4,Pv 7] [Xb 4 (⟨eW1.1.empty,Sl.nil,Sl.nil,Sl.nil⟩:Slice),(7,.box [bv eW1.2.empty,cv eW1.2.first,cv eW1.2.last,.own 4143]),Lb 4143 eW1.2.j]))) (λqW1=>aG 8 34 (aZ 8 λx_4 _=>gD 3 9 0 x_4 (aT 12 x_4.events (jv 7 (λqW2=>(aI [(1,.v (.clo g1 [] e1)),Pv 4,Cv 5 x_2.1,Pv 7,Iv 8 qW1.1,Ov 10,Cv 31 t0.procs,Iv 32 (len t0.procs),Iv 33 qW1.1,Iv 40 (len x_4.events),Iv 41 qW2.2.1] [Xb 4 (⟨qW2.2.2.1.empty,Sl.nil,Sl.nil,Sl.nil⟩:Slice),(7,.box [bv qW2.2.2.2.empty,cv qW2.2.2.2.first,cv qW2.2.2.2.last,.own 4143]),Lb 2010 qW2.1,Lb 4143 qW2.2.2.2.j])) (λeW2=>(2,(aI [(1,.v (.clo g1 [] e1)),Pv 4,Cv 5 x_2.1,Pv 7,Ov 10,Cv 31 t0.procs,Iv 32 (len t0.procs),Iv 33 eW2.2.1] [Xb 4 (⟨eW2.2.2.1.empty,Sl.nil,Sl.nil,Sl.nil⟩:Slice),(7,.box [bv eW2.2.2.2.empty,cv eW2.2.2.2.first,cv eW2.2.2.2.last,.own 4143]),Lb 2010 eW2.1,Lb 4143 eW2.2.2.2.j]))) (λqW2=>aG 9 42 (aF 18 λx_5 _=>qL 0 h1.f x_5 λx_6 _=>aG 13 54 (aF 5 λx_7 _=>gD 1 7 2 x_7 (yb 5 (zC 3 62 ([x_6.1]:List (Sl Int)) (vz 0 2010 62 63 λx_8 _=>af)))) (yb 6 (zC 3 62 ([x_6.1]:List (Sl Int)) (vz 0 2010 62 63 λx_8 _=>af)))) af) (λeW2=>zC 7 68 ([eW2.1]:List (Sl (Sl Int))) (vz 0 4143 68 69 λx_9 _=>af))))) af) (λeW1=>gD 6 4 0 eW1.2 af))))) (zX 3 (⟨true,Sl.nil,Sl.nil,Sl.nil⟩:Slice) [.bool true] [.bool false,.aL,.aL,.aL] [(0,1)] (by simp only[mM,n9,fW,uE,rW,uz,uM];rfl) rfl (gD 0 4 0 (⟨true,Sl.nil,Sl.nil,Sl.nil⟩:Slice) af))))) (l:=by simp[h1.d])
def wF (t0:Trace) (s1:Slice):Option Slice:=
 (cW t0 (λz=>lu z s1 t0)).bind λx_1=>
 some x_1
instance RP (t0:Trace) (s1:Slice):Fc Sy cL (wF t0 s1):=Fc.N 45 [enc t0,enc s1] (bL 2 2 t0 (bL 0 3 s1 (aF (F:=tf 81 [.fptr (cells s1),.fptr (cells t0)] (λz=>lu z s1 t0) jm.qt t0) 9 λx_1 _=>gD 0 4 0 x_1 af)))
def wu (t0:Trace) (s1:Slice):Option (Slice×Int):=
 (nv t0 (Sl.row [s1]:Sl Slice)).bind λx_1=>
 an x_1
 ((wF t0 s1).bind λx_2=>
 some (x_2,0))
 (some (⟨false,Sl.nil,Sl.nil,Sl.nil⟩,1))
instance R7 (t0:Trace) (s1:Slice):Fc Sy cL (wu t0 s1):=Fc.N 10 [enc t0,enc s1] (bL 2 2 t0 (bL 0 3 s1 (zC 9 8 ([s1]:List Slice) (d_ 0 λx_1 _=>ck 3 10 (aF 7 λx_2 _=>gD 0 4 0 x_2 af) (zX 3 (⟨false,Sl.nil,Sl.nil,Sl.nil⟩:Slice) [] [.bool false,.aL,.aL,.aL] [] (by simp only[mM,n9,fW,uE,rW,uz,uM];rfl) rfl (gD 0 4 0 (⟨false,Sl.nil,Sl.nil,Sl.nil⟩:Slice) af))))))
namespace fc
def aA (v7:Sl bp) (v8:Int) (out3:Sl Int) (v9:Int):Option (Fw ((Sl Int)×Int) (Sl Int) Empty):=
 an (decide (v9<v8))
 ((idx v7 v9).bind λx_1=>
 (kf out3 (len x_1.events:Int)).bind λx_2=>
 some (.n (x_2,IntKind.wrap .i64 (v9+1))))
 (some (.x out3))
def W1 (out3:Sl Int) (v7:Sl bp) (v8 v9:Int):Option (Sl Int):=
 (aQ (λq:(Sl Int)×Int=>aA v7 v8 q.1 q.2) (out3,v9)).bind (Fw.elim
 (λe=>some e)
 (λe=>Empty.elim e))
end fc
def fc (t0:Trace):Option (Sl Int):=
 fc.W1 (Sl.nil:Sl Int) t0.procs (len t0.procs) 0
open fc in
instance Nx (t0:Trace):Fc Sy cL (fc t0):=Fc.N 116 [enc t0] (bL 2 1 t0 (aT 13 t0.procs (jv 6 (λqW1=>(aI [Ov 3,Cv 7 t0.procs,Iv 8 (len t0.procs),Iv 9 qW1.2] [Lb 2003 qW1.1])) (λeW1=>(0,(aI [Ov 3] [Lb 2003 eW1]))) (λqW1=>aG 8 10 (aZ 7 λx_1 _=>gD 2 5 0 x_1 (aT 6 x_1.events (vz 1 2003 17 18 λx_2 _=>af))) af) (λeW1=>af))))
def pn (t0:Trace) (s1:Slice):Option Bool:=
 (an s1.empty
 (some false)
 ((fc t0).bind λx_1=>
 (cN s1.last x_1).bind λx_2=>
 some x_2):Option Bool).bind λx_3=>
 some x_3
instance Pz (t0:Trace) (s1:Slice):Fc Sy cL (pn t0 s1):=Fc.M 84 [enc t0,enc s1] (bL 2 2 t0 (bL 0 3 s1 (DJ 9 6 [13,12] (λx_3=>(aI [Bv 14 x_3] [Xb 2 t0,Xb 3 s1])) (ck 9 8 (aC 6) (aF 3 λx_1 _=>d_ 0 λx_2 _=>aC 1)) λx_3=>af)))
def nC (c0:Sl Int) (v1:Trace) (v2:Sl Int):Option ((Sl Int)×Bool):=
 (eB c0 v2).bind λx_1=>
 (mC v1 x_1).bind λx_2=>
 some (x_2,true)
instance PM (c0:Sl Int) (v1:Trace) (v2:Sl Int):Fc Sy cL (nC c0 v1 v2):=Fc.N 87 [enc c0,.fptr (cells v1),.fptr (cells v2)] (aF 11 λx_1 _=>aF 0 λx_2 _=>af)
namespace gn
def c_ (p6:Int) (own10:Sl Int) (v22:Sl (Sl (Sl Int))) (v23 v24:Int) (v29:Sl (Sl Int)) (v30 v31:Int) (v45:Sl Int) (v46:Int) (tb2:Trace) (v47:Int) (vb4:Slice) (baseb5:Sl Int):Option (Fw (Int×Slice×(Sl Int)) (Slice×(Sl Int)) Empty):=
 an (decide (v47<v46))
 ((idx v45 v47).bind λx_8=>
 (idx own10 v47).bind λx_9=>
 an (decide (x_8>x_9))
 ((Sl.mm baseb5 v47).bind λx_10=>
 (Sl.get baseb5 x_10).bind λx_11=>
 (Sl.mm baseb5 v47).bind λx_12=>
 (Sl.put baseb5 x_12 ((if x_8>x_11 then x_8 else x_11):Int)).bind λx_13=>
 some (.n (IntKind.wrap .i64 (v47+1),(⟨vb4.empty,Sl.nil,Sl.nil,Sl.nil⟩:Slice),x_13)))
 (some (.n (IntKind.wrap .i64 (v47+1),(⟨vb4.empty,Sl.nil,Sl.nil,Sl.nil⟩:Slice),baseb5))))
 (some (.x ((⟨vb4.empty,Sl.nil,Sl.nil,Sl.nil⟩:Slice),baseb5)))
def W3 (p6:Int) (own10:Sl Int) (v22:Sl (Sl (Sl Int))) (v23 v24:Int) (v29:Sl (Sl Int)) (v30 v31:Int) (v45:Sl Int) (v46 v47:Int) (tb2:Trace) (vb4:Slice) (baseb5:Sl Int):Option (Fw (Int×Slice×(Sl Int)) (Slice×(Sl Int)) Empty):=
 (aQ (λq:Int×Slice×(Sl Int)=>c_ p6 own10 v22 v23 v24 v29 v30 v31 v45 v46 tb2 q.1 q.2.1 q.2.2) (v47,vb4,baseb5)).bind (Fw.elim
 (λe=>some (.n (IntKind.wrap .i64 (v31+1),(⟨e.1.empty,Sl.nil,Sl.nil,Sl.nil⟩:Slice),e.2)))
 (λe=>Empty.elim e))
def aX (p6:Int) (v22:Sl (Sl (Sl Int))) (v23 v24:Int) (v29:Sl (Sl Int)) (v30:Int) (tb2:Trace) (v31:Int) (vb4:Slice) (baseb5:Sl Int):Option (Fw (Int×Slice×(Sl Int)) (Slice×(Sl Int)) Empty):=
 an (decide (v31<v30))
 ((idx v29 v31).bind λx_4=>
 (nZ (len baseb5) (0:Int)).bind λx_5=>
 (qI x_5 p6 (IntKind.wrap .i64 (v31+1))).bind λx_6=>
 (mC tb2 x_6).bind λx_7=>
 W3 p6 x_7 v22 v23 v24 v29 v30 v31 x_4 (len x_4) 0 tb2 (⟨vb4.empty,Sl.nil,Sl.nil,Sl.nil⟩:Slice) baseb5)
 (some (.x ((⟨vb4.empty,Sl.nil,Sl.nil,Sl.nil⟩:Slice),baseb5)))
def W2 (p6:Int) (v22:Sl (Sl (Sl Int))) (v23 v24:Int) (v29:Sl (Sl Int)) (v30 v31:Int) (tb2:Trace) (vb4:Slice) (baseb5:Sl Int):Option (Fw (Int×Slice×(Sl Int)) (Slice×(Sl Int)) Empty):=
 (aQ (λq:Int×Slice×(Sl Int)=>aX p6 v22 v23 v24 v29 v30 tb2 q.1 q.2.1 q.2.2) (v31,vb4,baseb5)).bind (Fw.elim
 (λe=>some (.n (IntKind.wrap .i64 (v24+1),(⟨e.1.empty,Sl.nil,Sl.nil,Sl.nil⟩:Slice),e.2)))
 (λe=>Empty.elim e))
def aA (v22:Sl (Sl (Sl Int))) (v23:Int) (tb2:Trace) (v24:Int) (vb4:Slice) (baseb5:Sl Int):Option (Fw (Int×Slice×(Sl Int)) (Slice×(Sl Int)) Empty):=
 an (decide (v24<v23))
 ((idx v22 v24).bind λx_3=>
 W2 v24 v22 v23 v24 x_3 (len x_3) 0 tb2 (⟨vb4.empty,Sl.nil,Sl.nil,Sl.nil⟩:Slice) baseb5)
 (some (.x ((⟨vb4.empty,Sl.nil,Sl.nil,Sl.nil⟩:Slice),baseb5)))
def W1 (v22:Sl (Sl (Sl Int))) (v23 v24:Int) (tb2:Trace) (vb4:Slice) (baseb5:Sl Int):Option Slice:=
 (aQ (λq:Int×Slice×(Sl Int)=>aA v22 v23 tb2 q.1 q.2.1 q.2.2) (v24,vb4,baseb5)).bind (Fw.elim
 (λe=>(cW tb2 (λz=>nC z tb2 e.2)).bind λx_14=>
 some x_14)
 (λe=>Empty.elim e))
end gn
def gn (t0:Trace) (s1:Slice):Option Slice:=
 (pn t0 s1).bind λx_1=>
 an x_1
 (((eW s1.first).bind Sl.whole).bind λx_2=>
 gn.W1 s1.j (len s1.j) 0 t0 (⟨false,Sl.nil,Sl.nil,Sl.nil⟩:Slice) x_2)
 (some ⟨true,Sl.nil,Sl.nil,Sl.nil⟩)
open gn in
instance SK (t0:Trace) (s1:Slice):Fc Sy cL (gn t0 s1):=Fc.N 46 [enc t0,enc s1] (bL 2 2 t0 (bL 0 3 s1 (aF 8 λx_1 _=>ck 3 16 (BK 7 20 fN s1.first λx_2 _=>aT 9 s1.j (jv 6 (λqW1=>(aI [Pv 2,Pv 4,Pv 5,Cv 22 s1.j,Iv 23 (len s1.j),Iv 24 qW1.1] [Xb 2 t0,Xb 4 (⟨qW1.2.1.empty,Sl.nil,Sl.nil,Sl.nil⟩:Slice),(5,.box [.own 4100]),Lb 4100 qW1.2.2])) (λeW1=>(0,(aI [Pv 2,Pv 4,Pv 5] [Xb 2 t0,Xb 4 (⟨eW1.1.empty,Sl.nil,Sl.nil,Sl.nil⟩:Slice),(5,.box [.own 4100]),Lb 4100 eW1.2]))) (λqW1=>aG 8 25 (aZ 8 λx_3 _=>aT 8 x_3 (jv 6 (λqW2=>(aI [Pv 2,Pv 4,Pv 5,Iv 6 qW1.1,Cv 22 s1.j,Iv 23 (len s1.j),Iv 24 qW1.1,Cv 29 x_3,Iv 30 (len x_3),Iv 31 qW2.1] [Xb 2 t0,Xb 4 (⟨qW2.2.1.empty,Sl.nil,Sl.nil,Sl.nil⟩:Slice),(5,.box [.own 4100]),Lb 4100 qW2.2.2])) (λeW2=>(2,(aI [Pv 2,Pv 4,Pv 5,Cv 22 s1.j,Iv 23 (len s1.j),Iv 24 qW1.1] [Xb 2 t0,Xb 4 (⟨eW2.1.empty,Sl.nil,Sl.nil,Sl.nil⟩:Slice),(5,.box [.own 4100]),Lb 4100 eW2.2]))) (λqW2=>aG 8 32 (aZ 8 λx_4 _=>DN 9 4100 qW2.2.2 (Tr 0 λx_5 _=>aF 3 λx_6 _=>aF 0 λx_7 _=>aT 6 x_4 (jv 6 (λqW3=>(aI [Pv 2,Pv 4,Pv 5,Iv 6 qW1.1,Cv 10 x_7,Cv 22 s1.j,Iv 23 (len s1.j),Iv 24 qW1.1,Cv 29 x_3,Iv 30 (len x_3),Iv 31 qW2.1,Cv 45 x_4,Iv 46 (len x_4),Iv 47 qW3.1] [Xb 2 t0,Xb 4 (⟨qW3.2.1.empty,Sl.nil,Sl.nil,Sl.nil⟩:Slice),(5,.box [.own 4100]),Lb 4100 qW3.2.2])) (λeW3=>(4,(aI [Pv 2,Pv 4,Pv 5,Iv 6 qW1.1,Cv 22 s1.j,Iv 23 (len s1.j),Iv 24 qW1.1,Cv 29 x_3,Iv 30 (len x_3),Iv 31 qW2.1] [Xb 2 t0,Xb 4 (⟨eW3.1.empty,Sl.nil,Sl.nil,Sl.nil⟩:Slice),(5,.box [.own 4100]),Lb 4100 eW3.2]))) (λqW3=>aG 8 48 (aZ 8 λx_8 _=>aZ 10 λx_9 _=>aG 4 57 (ox .i64 6 4100 λx_10 _=>uB 0 4100 0 1 false (λx_11=>.int .i64 x_11) λx_11 _=>ox .i64 2 4100 λx_12 _=>Cg 0 4100 (.int .i64 (if x_8>x_11 then x_8 else x_11)) λx_13 _=>af) af) af) (λeW3=>af)))) af) (λeW2=>af))) af) (λeW1=>aF (F:=tf 87 [.fptr (cells t0),.fptr (cells eW1.2)] (λz=>nC z t0 eW1.2) jm.qt t0) 9 λx_14 _=>gD 0 4 0 x_14 af))) (zX 3 (⟨true,Sl.nil,Sl.nil,Sl.nil⟩:Slice) [.bool true] [.bool false,.aL,.aL,.aL] [(0,1)] (by simp only[mM,n9,fW,uE,rW,uz,uM];rfl) rfl (gD 0 4 0 (⟨true,Sl.nil,Sl.nil,Sl.nil⟩:Slice) af)))))
def wV (t0:Trace) (s1:Slice):Option (Slice×Int):=
 (nv t0 (Sl.row [s1]:Sl Slice)).bind λx_1=>
 an x_1
 ((gn t0 s1).bind λx_2=>
 some (x_2,0))
 (some (⟨false,Sl.nil,Sl.nil,Sl.nil⟩,1))
instance R2 (t0:Trace) (s1:Slice):Fc Sy cL (wV t0 s1):=Fc.N 11 [enc t0,enc s1] (bL 2 2 t0 (bL 0 3 s1 (zC 9 8 ([s1]:List Slice) (d_ 0 λx_1 _=>ck 3 10 (aF 7 λx_2 _=>gD 0 4 0 x_2 af) (zX 3 (⟨false,Sl.nil,Sl.nil,Sl.nil⟩:Slice) [] [.bool false,.aL,.aL,.aL] [] (by simp only[mM,n9,fW,uE,rW,uz,uM];rfl) rfl (gD 0 4 0 (⟨false,Sl.nil,Sl.nil,Sl.nil⟩:Slice) af))))))
def ir (s:Sl (Sl (Sl Int))):Option (Sl (Sl Int)):=if s.l.length<=2147483648/\(s.l.flatMap Sl.l).length<=2147483648 then some (Ae s)else none
instance Jh (s:Sl (Sl (Sl Int))):Fc Sy cL (ir s):=Fc.of (A:=λz:Sl (Sl (Sl Int))=>[enc z]) (E:=λr:Sl (Sl Int)=>[enc r]) (p:=ir) (n:=89) (z:=s) (lX.QH (by kernel_rfl) (by kernel_rfl) (λz r h=>by
 unfold ir at h;split at h
 .rename_i hc;cases h;exact yf (Oo (E:=Sy.E) (N:=λn=>n) (gid:=117) (nm:=some) (λ_ _ h=>(Option.some.inj h).symm) rfl (by kernel_rfl) (by kernel_rfl) (Al (by kernel_rfl)) (Al (by kernel_rfl)) rfl z hc.1 hc.2)
 .cases h))
namespace bP
def oQ (l1 v29:Sl Slice) (v30 v31:Int) (v40:Sl Int) (v41 v42:Int) (v53:Sl (Sl Int)) (v54:Int) (sb10:Slice) (c0:Sl Int) (changed8:Bool) (v55:Int):Option (Fw ((Sl Int)×Bool×Int) ((Sl Int)×Bool) Empty):=
 an (decide (v55<v54))
 ((idx v53 v55).bind λx_8=>
 (dW x_8 c0).bind λx_9=>
 an x_9
 (some (.n (c0,changed8,IntKind.wrap .i64 (v55+1))))
 ((eB c0 x_8).bind λx_10=>
 some (.n (x_10,true,IntKind.wrap .i64 (v55+1)))))
 (some (.x (c0,changed8)))
def W5 (c0:Sl Int) (l1:Sl Slice) (changed8:Bool) (v29:Sl Slice) (v30 v31:Int) (v40:Sl Int) (v41 v42:Int) (v53:Sl (Sl Int)) (v54 v55:Int) (sb10:Slice):Option (Fw ((Sl Int)×Bool×Int) ((Sl Int)×Bool) Empty):=
 (aQ (λq:(Sl Int)×Bool×Int=>oQ l1 v29 v30 v31 v40 v41 v42 v53 v54 sb10 q.1 q.2.1 q.2.2) (c0,changed8,v55)).bind (Fw.elim
 (λe=>some (.n (e.1,e.2,IntKind.wrap .i64 (v42+1))))
 (λe=>Empty.elim e))
def mZ (l1 v29:Sl Slice) (v30 v31:Int) (v40:Sl Int) (v41:Int) (sb10:Slice) (c0:Sl Int) (changed8:Bool) (v42:Int):Option (Fw ((Sl Int)×Bool×Int) ((Sl Int)×Bool) Empty):=
 an (decide (v42<v41))
 ((idx v40 v42).bind λx_5=>
 (idx sb10.j v42).bind λx_6=>
 (iu x_6 none (some x_5)).bind λx_7=>
 W5 c0 l1 changed8 v29 v30 v31 v40 v41 v42 x_7 (len x_7) 0 sb10)
 (some (.x (c0,changed8)))
def W4 (c0:Sl Int) (l1:Sl Slice) (changed8:Bool) (v29:Sl Slice) (v30 v31:Int) (v40:Sl Int) (v41 v42:Int) (sb10:Slice):Option (Fw ((Sl Int)×Bool×Int) ((Sl Int)×Bool) Unit):=
 (aQ (λq:(Sl Int)×Bool×Int=>mZ l1 v29 v30 v31 v40 v41 sb10 q.1 q.2.1 q.2.2) (c0,changed8,v42)).bind (Fw.elim
 (λe=>some (.n (e.1,e.2,IntKind.wrap .i64 (v31+1))))
 (λe=>Empty.elim e))
def c_ (l1 v29:Sl Slice) (v30:Int) (c0:Sl Int) (changed8:Bool) (v31:Int):Option (Fw ((Sl Int)×Bool×Int) ((Sl Int)×Bool) Unit):=
 an (decide (v31<v30))
 ((idx v29 v31).bind λx_3=>
 (dW c0 x_3.last).bind λx_4=>
 an x_4
 (W4 c0 l1 changed8 v29 v30 v31 c0 (len c0) 0 x_3)
 (some (.r ())))
 (some (.x (c0,changed8)))
def W3 (c0:Sl Int) (l1:Sl Slice) (changed8:Bool) (v29:Sl Slice) (v30 v31:Int):Option (Fw ((Sl Int)×Bool) (Sl Int) Unit):=
 (aQ (λq:(Sl Int)×Bool×Int=>c_ l1 v29 v30 q.1 q.2.1 q.2.2) (c0,changed8,v31)).bind (Fw.elim
 (λe=>some (.n (e.1,e.2)))
 (λe=>some (.r ())))
def aX (l1:Sl Slice) (c0:Sl Int) (changed8:Bool):Option (Fw ((Sl Int)×Bool) (Sl Int) Unit):=
 an changed8
 (W3 c0 l1 false l1 (len l1) 0)
 (some (.x c0))
def W2 (c0:Sl Int) (l1:Sl Slice) (changed8:Bool):Option ((Sl Int)×Bool):=
 (aQ (λq:(Sl Int)×Bool=>aX l1 q.1 q.2) (c0,changed8)).bind (Fw.elim
 (λe=>some (e,true))
 (λe=>some (Sl.nil,false)))
def aA (l1 v15:Sl Slice) (v16:Int) (c0:Sl Int) (v17:Int):Option (Fw ((Sl Int)×Int) (Sl Int) Unit):=
 an (decide (v17<v16))
 ((idx v15 v17).bind λx_1=>
 an x_1.empty
 (some (.r ()))
 ((eB c0 x_1.first).bind λx_2=>
 some (.n (x_2,IntKind.wrap .i64 (v17+1)))))
 (some (.x c0))
def W1 (c0:Sl Int) (l1 v15:Sl Slice) (v16 v17:Int):Option ((Sl Int)×Bool):=
 (aQ (λq:(Sl Int)×Int=>aA l1 v15 v16 q.1 q.2) (c0,v17)).bind (Fw.elim
 (λe=>bP.W2 e l1 true)
 (λe=>some (Sl.nil,false)))
end bP
def bP (c0:Sl Int) (l1:Sl Slice):Option ((Sl Int)×Bool):=
 bP.W1 c0 l1 l1 (len l1) 0
open bP in
instance O1 (c0:Sl Int) (l1:Sl Slice):Fc Sy cL (bP c0 l1):=Fc.N 91 [enc c0,enc l1] (aT 10 l1 (b7 5 (λqW1=>(aI [Cv 0 qW1.1,Cv 1 l1,Cv 15 l1,Iv 16 (len l1),Iv 17 qW1.2] [])) (λeW1=>(0,(aI [Cv 0 eW1,Cv 1 l1] []))) (λeW1=>(aI [(4,.v .aL),Bv 5 false] [])) (λqW1=>aG 7 18 (aZ 7 λx_1 _=>gD 2 7 0 x_1 (aG 9 22 af (aF 7 λx_2 _=>af))) af) (λeW1=>b7 10 (λqW2=>(aI [Cv 0 qW2.1,Cv 1 l1,Bv 8 qW2.2] [])) (λeW2=>(2,(aI [Cv 0 eW2] []))) (λeW2=>(aI [(4,.v .aL),Bv 5 false] [])) (λqW2=>aG 7 28 (aT 12 l1 (b7 5 (λqW3=>(aI [Cv 0 qW3.1,Cv 1 l1,Bv 8 qW3.2.1,Cv 29 l1,Iv 30 (len l1),Iv 31 qW3.2.2] [])) (λeW3=>(4,(aI [Cv 0 eW3.1,Cv 1 l1,Bv 8 eW3.2] []))) (λeW3=>(aI [(4,.v .aL),Bv 5 false] [])) (λqW3=>aG 7 32 (aZ 7 λx_3 _=>gD 2 10 0 x_3 (aF 8 λx_4 _=>ck 3 39 (aT 6 qW3.1 (jv 5 (λqW4=>(aI [Cv 0 qW4.1,Cv 1 l1,Bv 8 qW4.2.1,Pv 10,Cv 29 l1,Iv 30 (len l1),Iv 31 qW3.2.2,Cv 40 qW3.1,Iv 41 (len qW3.1),Iv 42 qW4.2.2] [Xb 10 x_3])) (λeW4=>(6,(aI [Cv 0 eW4.1,Cv 1 l1,Bv 8 eW4.2,Cv 29 l1,Iv 30 (len l1),Iv 31 qW3.2.2] []))) (λqW4=>aG 7 43 (aZ 8 λx_5 _=>aZ 10 λx_6 _=>BR 2 false true [.int .i64 x_5] λx_7 _=>aT 0 x_7 (jv 5 (λqW5=>(aI [Cv 0 qW5.1,Cv 1 l1,Bv 8 qW5.2.1,Pv 10,Cv 29 l1,Iv 30 (len l1),Iv 31 qW3.2.2,Cv 40 qW3.1,Iv 41 (len qW3.1),Iv 42 qW4.2.2,Cv 53 x_7,Iv 54 (len x_7),Iv 55 qW5.2.2] [Xb 10 x_3])) (λeW5=>(8,(aI [Cv 0 eW5.1,Cv 1 l1,Bv 8 eW5.2,Pv 10,Cv 29 l1,Iv 30 (len l1),Iv 31 qW3.2.2,Cv 40 qW3.1,Iv 41 (len qW3.1),Iv 42 qW4.2.2] [Xb 10 x_3]))) (λqW5=>aG 7 56 (aZ 7 λx_8 _=>aF 8 λx_9 _=>ck 3 62 af (aF 5 λx_10 _=>af)) af) (λeW5=>af))) af) (λeW4=>af))) af)) af) (λeW3=>af) (λeW3=>af))) af) (λeW2=>af) (λeW2=>af)) (λeW1=>af)))
def kj (c0 v1:Sl Int) (v2:Slice):Option ((Sl Int)×Bool):=
 (eB c0 v1).bind λx_1=>
 (bP x_1 (Sl.row [v2]:Sl Slice)).bind λx_2=>
 some (x_2.1,x_2.2)
instance Py (c0 v1:Sl Int) (v2:Slice):Fc Sy cL (kj c0 v1 v2):=Fc.N 90 [enc c0,.fptr (cells v1),.fptr (cells v2)] (aF 10 λx_1 _=>zC 1 10 ([v2]:List Slice) (Qo 0 [10] λx_2 _=>af))
namespace iT
def aX (all6:Sl (Sl Int)) (a8:Sl Int) (v22:Sl (Sl Int)) (v23 v24:Int) (v31:Sl (Sl Int)) (v32:Int) (tb2:Trace) (sb3:Slice) (v33:Int) (vb4:Slice) (baseb5:Sl Int):Option (Fw (Int×Slice×(Sl Int)) (Slice×(Sl Int)) Empty):=
 an (decide (v33<v32))
 ((idx v31 v33).bind λx_6=>
 (dW a8 sb3.first).bind λx_7=>
 (an x_7
 (some false)
 ((cN a8 x_6).bind λx_8=>
 some x_8):Option Bool).bind λx_9=>
 an x_9
 ((eB baseb5 a8).bind λx_10=>
 some (.n (IntKind.wrap .i64 (v33+1),(⟨vb4.empty,Sl.nil,Sl.nil,Sl.nil⟩:Slice),x_10)))
 (some (.n (IntKind.wrap .i64 (v33+1),(⟨vb4.empty,Sl.nil,Sl.nil,Sl.nil⟩:Slice),baseb5))))
 (some (.x ((⟨vb4.empty,Sl.nil,Sl.nil,Sl.nil⟩:Slice),baseb5)))
def W2 (all6:Sl (Sl Int)) (a8:Sl Int) (v22:Sl (Sl Int)) (v23 v24:Int) (v31:Sl (Sl Int)) (v32 v33:Int) (tb2:Trace) (sb3 vb4:Slice) (baseb5:Sl Int):Option (Fw (Int×Slice×(Sl Int)) (Slice×(Sl Int)) Empty):=
 (aQ (λq:Int×Slice×(Sl Int)=>aX all6 a8 v22 v23 v24 v31 v32 tb2 sb3 q.1 q.2.1 q.2.2) (v33,vb4,baseb5)).bind (Fw.elim
 (λe=>some (.n (IntKind.wrap .i64 (v24+1),(⟨e.1.empty,Sl.nil,Sl.nil,Sl.nil⟩:Slice),e.2)))
 (λe=>Empty.elim e))
def aA (all6 v22:Sl (Sl Int)) (v23:Int) (tb2:Trace) (sb3:Slice) (v24:Int) (vb4:Slice) (baseb5:Sl Int):Option (Fw (Int×Slice×(Sl Int)) (Slice×(Sl Int)) Empty):=
 an (decide (v24<v23))
 ((idx v22 v24).bind λx_4=>
 (iu all6 none (some v24)).bind λx_5=>
 W2 all6 x_4 v22 v23 v24 x_5 (len x_5) 0 tb2 sb3 (⟨vb4.empty,Sl.nil,Sl.nil,Sl.nil⟩:Slice) baseb5)
 (some (.x ((⟨vb4.empty,Sl.nil,Sl.nil,Sl.nil⟩:Slice),baseb5)))
def W1 (all6 v22:Sl (Sl Int)) (v23 v24:Int) (tb2:Trace) (sb3 vb4:Slice) (baseb5:Sl Int):Option Slice:=
 (aQ (λq:Int×Slice×(Sl Int)=>aA all6 v22 v23 tb2 sb3 q.1 q.2.1 q.2.2) (v24,vb4,baseb5)).bind (Fw.elim
 (λe=>(cW tb2 (λz=>kj z e.2 sb3)).bind λx_11=>
 some x_11)
 (λe=>Empty.elim e))
end iT
def iT (t0:Trace) (s1:Slice):Option Slice:=
 (pn t0 s1).bind λx_1=>
 an x_1
 (((eW s1.first).bind Sl.whole).bind λx_2=>
 (ir s1.j).bind λx_3=>
 iT.W1 x_3 x_3 (len x_3) 0 t0 s1 (⟨false,Sl.nil,Sl.nil,Sl.nil⟩:Slice) x_2)
 (some ⟨true,Sl.nil,Sl.nil,Sl.nil⟩)
open iT in
instance R8 (t0:Trace) (s1:Slice):Fc Sy cL (iT t0 s1):=Fc.N 47 [enc t0,enc s1] (bL 2 2 t0 (bL 0 3 s1 (aF 8 λx_1 _=>ck 3 14 (BK 7 18 fN s1.first λx_2 _=>aF 8 λx_3 _=>aT 7 x_3 (jv 6 (λqW1=>(aI [Pv 2,Pv 3,Pv 4,Pv 5,Cv 6 x_3,Cv 22 x_3,Iv 23 (len x_3),Iv 24 qW1.1] [Xb 2 t0,Xb 3 s1,Xb 4 (⟨qW1.2.1.empty,Sl.nil,Sl.nil,Sl.nil⟩:Slice),(5,.box [cv qW1.2.2])])) (λeW1=>(0,(aI [Pv 2,Pv 3,Pv 4,Pv 5] [Xb 2 t0,Xb 3 s1,Xb 4 (⟨eW1.1.empty,Sl.nil,Sl.nil,Sl.nil⟩:Slice),(5,.box [cv eW1.2])]))) (λqW1=>aG 8 25 (aZ 8 λx_4 _=>BR 9 false true [.int .i64 qW1.1] λx_5 _=>aT 0 x_5 (jv 6 (λqW2=>(aI [Pv 2,Pv 3,Pv 4,Pv 5,Cv 6 x_3,Cv 8 x_4,Cv 22 x_3,Iv 23 (len x_3),Iv 24 qW1.1,Cv 31 x_5,Iv 32 (len x_5),Iv 33 qW2.1] [Xb 2 t0,Xb 3 s1,Xb 4 (⟨qW2.2.1.empty,Sl.nil,Sl.nil,Sl.nil⟩:Slice),(5,.box [cv qW2.2.2])])) (λeW2=>(2,(aI [Pv 2,Pv 3,Pv 4,Pv 5,Cv 6 x_3,Cv 22 x_3,Iv 23 (len x_3),Iv 24 qW1.1] [Xb 2 t0,Xb 3 s1,Xb 4 (⟨eW2.1.empty,Sl.nil,Sl.nil,Sl.nil⟩:Slice),(5,.box [cv eW2.2])]))) (λqW2=>aG 8 34 (aZ 7 λx_6 _=>aF 9 λx_7 _=>aV 2 4 [10,42] 46 (ck 2 42 (aC 4) (aF 2 λx_8 _=>aC 1)) λx_9=>aG 2 46 (aF 4 λx_10 _=>gD 0 5 0 x_10 af) af) af) (λeW2=>af))) af) (λeW1=>aF (F:=tf 90 [.fptr (cells eW1.2),.fptr (cells s1)] (λz=>kj z eW1.2 s1) jm.qt t0) 8 λx_11 _=>gD 0 4 0 x_11 af))) (zX 3 (⟨true,Sl.nil,Sl.nil,Sl.nil⟩:Slice) [.bool true] [.bool false,.aL,.aL,.aL] [(0,1)] (by simp only[mM,n9,fW,uE,rW,uz,uM];rfl) rfl (gD 0 4 0 (⟨true,Sl.nil,Sl.nil,Sl.nil⟩:Slice) af)))))
def xh (t0:Trace) (s1:Slice):Option (Slice×Int):=
 (nv t0 (Sl.row [s1]:Sl Slice)).bind λx_1=>
 an x_1
 ((iT t0 s1).bind λx_2=>
 some (x_2,0))
 (some (⟨false,Sl.nil,Sl.nil,Sl.nil⟩,1))
instance Sf (t0:Trace) (s1:Slice):Fc Sy cL (xh t0 s1):=Fc.N 12 [enc t0,enc s1] (bL 2 2 t0 (bL 0 3 s1 (zC 9 8 ([s1]:List Slice) (d_ 0 λx_1 _=>ck 3 10 (aF 7 λx_2 _=>gD 0 4 0 x_2 af) (zX 3 (⟨false,Sl.nil,Sl.nil,Sl.nil⟩:Slice) [] [.bool false,.aL,.aL,.aL] [] (by simp only[mM,n9,fW,uE,rW,uz,uM];rfl) rfl (gD 0 4 0 (⟨false,Sl.nil,Sl.nil,Sl.nil⟩:Slice) af))))))
def o5 (c0:Sl Int) (p1:Int):Option (Sl Int):=
 (s9 (Sl.row []:Sl Int) c0).bind λx_1=>
 (Sl.mm x_1 p1).bind λx_2=>
 (Sl.get x_1 x_2).bind λx_3=>
 (Sl.mm x_1 p1).bind λx_4=>
 (Sl.put x_1 x_4 (IntKind.wrap .i64 (x_3+1):Int)).bind λx_5=>
 some x_5
instance PJ (c0:Sl Int) (p1:Int):Fc Sy cL (o5 c0 p1):=Fc.N 62 [enc c0,.int .i64 p1] (KZ 9 6 8 λx_1 _=>ox .i64 9 8 λx_2 _=>uB 0 8 0 1 false (λx_3=>.int .i64 x_3) λx_3 _=>ox .i64 1 8 λx_4 _=>Cg 0 8 (.int .i64 (IntKind.wrap .i64 (x_3+1))) λx_5 _=>af)
namespace gR
def aA (c1:Sl Int) (tb2:Trace) (out5:Sl (Sl Int)) (p6:Int):Option (Fw ((Sl (Sl Int))×Int) (Sl (Sl Int)) Empty):=
 an (decide (p6<(len c1)))
 ((idx c1 p6).bind λx_1=>
 (idx tb2.procs p6).bind λx_2=>
 (an (decide (x_1<(len x_2.events)))
 ((o5 c1 p6).bind λx_3=>
 (nR tb2 x_3).bind λx_4=>
 some x_4)
 (some false):Option Bool).bind λx_5=>
 an x_5
 ((o5 c1 p6).bind λx_6=>
 (kf out5 (x_6:Sl Int)).bind λx_7=>
 some (.n (x_7,IntKind.wrap .i64 (p6+1))))
 (some (.n (out5,IntKind.wrap .i64 (p6+1)))))
 (some (.x out5))
def W1 (c1:Sl Int) (out5:Sl (Sl Int)) (p6:Int) (tb2:Trace):Option (Sl (Sl Int)):=
 (aQ (λq:(Sl (Sl Int))×Int=>aA c1 tb2 q.1 q.2) (out5,p6)).bind (Fw.elim
 (λe=>some e)
 (λe=>Empty.elim e))
end gR
def gR (t0:Trace) (c1:Sl Int):Option (Sl (Sl Int)):=
 gR.W1 c1 (Sl.nil:Sl (Sl Int)) 0 t0
open gR in
instance PD (t0:Trace) (c1:Sl Int):Fc Sy cL (gR t0 c1):=Fc.N 21 [enc t0,enc c1] (bL 2 2 t0 (jv 17 (λqW1=>(aI [Cv 1 c1,Pv 2,Ov 5,Iv 6 qW1.2] [Xb 2 t0,Lb 2005 qW1.1])) (λeW1=>(0,(aI [Ov 5] [Lb 2005 eW1]))) (λqW1=>aT 7 c1 (aG 3 10 (aZ 9 λx_1 _=>aZ 4 λx_2 _=>aT 2 x_2.events (DJ 2 6 [30,29] (λx_5=>(aI [Cv 1 c1,Pv 2,Ov 5,Iv 6 qW1.2,Bv 10 true,Bv 31 x_5] [Xb 2 t0,Lb 2005 qW1.1])) (aG 2 25 (aF 3 λx_3 _=>d_ 0 λx_4 _=>aC 1) (aC 6)) λx_5=>aG 2 31 (aF 5 λx_6 _=>zC 0 36 ([x_6]:List (Sl Int)) (vz 0 2005 36 37 λx_7 _=>af)) af)) af)) (λeW1=>af)))
def lV (x0:aa) (v1:Slice) (v2:Sl Int):Option Bool:=
 (jP v1 x0).bind λx_1=>
 (dW x_1 v2).bind λx_2=>
 some x_2
instance NS (x0:aa) (v1:Slice) (v2:Sl Int):Fc Sy cL (lV x0 v1 v2):=Fc.M 106 [enc x0,.fptr (cells v1),.fptr (cells v2)] (aF 10 λx_1 _=>d_ 1 λx_2 _=>af)
def uY (s0:Slice) (c1:Sl Int):Option Bool:=
 (an s0.empty
 (some false)
 ((dW s0.first c1).bind λx_1=>
 some x_1):Option Bool).bind λx_2=>
 (an x_2
 ((dW c1 s0.last).bind λx_3=>
 some x_3)
 (some false):Option Bool).bind λx_4=>
 (an x_4
 ((cZ c1 (λz=>lV z s0 c1)).bind λx_5=>
 some x_5)
 (some false):Option Bool).bind λx_6=>
 some x_6
instance RJ (s0:Slice) (c1:Sl Int):Fc Sy cL (uY s0 c1):=Fc.M 66 [enc s0,enc c1] (bL 2 2 s0 (bL 0 3 c1 (aV 9 5 [8] 13 (ck 9 8 (aC 5) (aF 3 λx_1 _=>aC 1)) λx_2=>aV 1 5 [14] 19 (aG 1 14 (aF 3 λx_3 _=>aC 1) (aC 5)) λx_4=>aV 1 4 [2,3,20] 24 (aG 1 20 (d_ (F:=qF 106 [.fptr (cells s0),.fptr (cells c1)] (λz=>lV z s0 c1) jm.qt c1) 2 λx_5 _=>aC 1) (aC 4)) λx_6=>af)))
def fV (t0:Trace) (s1:Slice) (c2:Sl Int):Option Bool:=
 (mX t0 s1).bind λx_1=>
 (an x_1
 ((iq t0 c2).bind λx_2=>
 some x_2)
 (some false):Option Bool).bind λx_3=>
 (an x_3
 ((uY s1 c2).bind λx_4=>
 some x_4)
 (some false):Option Bool).bind λx_5=>
 some x_5
instance RE (t0:Trace) (s1:Slice) (c2:Sl Int):Fc Sy cL (fV t0 s1 c2):=Fc.M 25 [enc t0,enc s1,enc c2] (bL 2 3 t0 (bL 0 4 s1 (aF 7 λx_1 _=>aV 1 4 [3,10] 14 (aG 1 10 (aF 2 λx_2 _=>aC 1) (aC 4)) λx_3=>aV 1 4 [2,4,15] 19 (aG 1 15 (aF 2 λx_4 _=>aC 1) (aC 4)) λx_5=>af)))
def jc (d0:Sl Int) (v1:Trace) (v2:Slice):Option Bool:=
 (fV v1 v2 d0).bind λx_1=>
 some x_1
instance DS (d0:Sl Int) (v1:Trace) (v2:Slice):Fc Sy cL (jc d0 v1 v2):=Fc.M 24 [enc d0,.fptr (cells v1),.fptr (cells v2)] (aF 10 λx_1 _=>af)
def iX (x0:Slice) (v1:Sl (Sl Int)) (v2:Trace):Option Bool:=
 (dL v1 (λz=>jc z v2 x0)).bind λx_1=>
 some x_1
instance Gp (x0:Slice) (v1:Sl (Sl Int)) (v2:Trace):Fc Sy cL (iX x0 v1 v2):=Fc.M 22 [enc x0,.fptr (cells v1),.fptr (cells v2)] (bL 2 3 x0 (d_ (F:=gZ 24 [.fptr (cells v2),.fptr (cells x0)] (λz=>jc z v2 x0) jm.qt v1) 7 λx_1 _=>af))
def je (d0:Sl Int) (v1:Trace) (v2:Slice):Option Bool:=
 (fV v1 v2 d0).bind λx_1=>
 some (!x_1)
instance DQ (d0:Sl Int) (v1:Trace) (v2:Slice):Fc Sy cL (je d0 v1 v2):=Fc.M 27 [enc d0,.fptr (cells v1),.fptr (cells v2)] (aF 10 λx_1 _=>af)
def jW (x0:Slice) (v1:Sl (Sl Int)) (v2:Trace):Option Bool:=
 (dL v1 (λz=>je z v2 x0)).bind λx_1=>
 some (!x_1)
instance Gm (x0:Slice) (v1:Sl (Sl Int)) (v2:Trace):Fc Sy cL (jW x0 v1 v2):=Fc.M 26 [enc x0,.fptr (cells v1),.fptr (cells v2)] (bL 2 3 x0 (d_ (F:=gZ 27 [.fptr (cells v2),.fptr (cells x0)] (λz=>je z v2 x0) jm.qt v1) 7 λx_1 _=>af))
def lI (t0:Trace) (s1:Slice) (c2:Sl Int):Option Bool:=
 (uv).bind λx_1=>
 an x_1
 ((gX t0 60).bind λx_2=>
 (an x_2
 ((sB s1).bind λx_3=>
 some x_3)
 (some true):Option Bool).bind λx_4=>
 (an x_4
 (some true)
 ((b8 t0 s1).bind λx_5=>
 some (!x_5)):Option Bool).bind λx_6=>
 (an x_6
 (some true)
 ((nR t0 c2).bind λx_7=>
 some (!x_7)):Option Bool).bind λx_8=>
 an x_8
 (some true)
 ((wu t0 s1).bind λx_9=>
 (wV t0 s1).bind λx_10=>
 (xh t0 s1).bind λx_11=>
 (an (x_9.2==0)
 (some (!(x_10.2==0)))
 (some true):Option Bool).bind λx_12=>
 (an x_12
 (some true)
 (some (!(x_11.2==0))):Option Bool).bind λx_13=>
 an x_13
 (some false)
 ((gR t0 c2).bind λx_14=>
 (fV t0 s1 c2).bind λx_15=>
 (fV t0 x_11.1 c2).bind λx_16=>
 (an x_15
 ((an ((len x_14)==0)
 (some true)
 ((iX x_11.1 x_14 t0).bind λx_17=>
 some x_17):Option Bool).bind λx_18=>
 some x_18)
 (some false):Option Bool).bind λx_19=>
 (an (x_16==x_19)
 ((fV t0 x_10.1 c2).bind λx_20=>
 (an x_15
 ((jW x_10.1 x_14 t0).bind λx_21=>
 some x_21)
 (some false):Option Bool).bind λx_22=>
 some (x_20==x_22))
 (some false):Option Bool).bind λx_23=>
 (an x_23
 ((fV t0 x_9.1 c2).bind λx_24=>
 (an x_15
 (some true)
 ((iX x_9.1 x_14 t0).bind λx_25=>
 some x_25):Option Bool).bind λx_26=>
 some (x_24==x_26))
 (some false):Option Bool).bind λx_27=>
 some x_27)))
 (some false)
instance xz (t0:Trace) (s1:Slice) (c2:Sl Int):Fc Sy cL (lI t0 s1 c2):=Fc.M 4 [enc t0,enc s1,enc c2] (bL 2 3 t0 (bL 0 4 s1 (aF 6 λx_1 _=>ck 3 18 (aF 7 λx_2 _=>aV 2 3 [22] 25 (ck 2 22 (aF 1 λx_3 _=>aC 1) (aC 3)) λx_4=>aV 1 5 [26] 31 (aG 1 26 (aC 5) (aF 2 λx_5 _=>aC 2)) λx_6=>aV 1 5 [32] 37 (aG 1 32 (aC 5) (aF 2 λx_7 _=>aC 2)) λx_8=>aG 2 37 af (aF 7 λx_9 _=>gD 4 7 0 x_9.1 (aF 7 λx_10 _=>gD 4 9 0 x_10.1 (aF 7 λx_11 _=>gD 4 11 0 x_11.1 (aV 9 3 [10,58] 61 (ck 9 58 (aC 3) (aC 3)) λx_12=>aV 1 3 [12,62] 65 (aG 1 62 (aC 3) (aC 3)) λx_13=>aG 2 65 af (aF 7 λx_14 _=>gD 1 13 0 x_14 (aF 19 λx_15 _=>aF 8 λx_16 _=>aV 2 9 [11,13,80] 89 (aG 2 80 (aT 1 x_14 (aV 2 4 [11,84] 88 (aG 2 84 (aC 4) (d_ 2 λx_17 _=>aC 1)) λx_18=>aC 1)) (aC 9)) λx_19=>aV 2 12 [9,15,91] 103 (aG 2 91 (aF 3 λx_20 _=>aV 2 4 [9,15,97] 101 (aG 2 97 (d_ 2 λx_21 _=>aC 1) (aC 4)) λx_22=>aC 2) (aC 12)) λx_23=>aV 1 12 [2,3,7,14,16,104] 116 (aG 1 104 (aF 3 λx_24 _=>aV 2 4 [7,14,110] 114 (aG 2 110 (aC 4) (d_ 2 λx_25 _=>aC 1)) λx_26=>aC 2) (aC 12)) λx_27=>af))))))) af)))
end
end Go.VE
