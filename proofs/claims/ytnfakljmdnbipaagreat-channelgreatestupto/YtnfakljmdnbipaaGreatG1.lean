/-
 Each function of the program that the law reaches: its plain form, and that it comes to that.
-/
import Derived.Test.YtnfakljmdnbipaaGreatK1
import Derived.Test.YtnfakljmdnbipaaGreatT1
set_option linter.all false
namespace Go.VE
structure Assign where
 var:Int
 value:Int
 deriving Inhabited
instance:aC Assign where
 cells x:=[.int .i64 x.var,.int .i64 x.value]
 agg:=true
 size:=2
 len _:=rfl
 good x:=by simp only[V.bD,V.good,iG,Bool.and_self]
 one x:=by simp only[List.all_cons,List.all_nil,nE,lu,mT,kS,Bool.and_self]
 plain h:=by cases h
instance {n:Nat}:Lv (n+0) Assign:=⟨fun x=>by
 show V.bT (n+0) [.int .i64 x.var,.int .i64 x.value]=true;simp only[gb,iI,lP,kz,lS,lz,Bool.and_self]⟩
structure Event where
 kind:Int
 peer:Int
 message:Int
 time:Int
 assign:Sl Assign
 deriving Inhabited
instance:aC Event where
 cells x:=[.int .i64 x.kind,.int .i64 x.peer,.int .i64 x.message,.int .i64 x.time,enc x.assign]
 agg:=true
 size:=5
 len _:=rfl
 good x:=by simp only[V.bD,V.good,iG,Bool.and_self]
 one x:=by simp only[List.all_cons,List.all_nil,nE,lu,mT,kS,Bool.and_self]
 plain h:=by cases h
instance {n:Nat}:Lv (n+1) Event:=⟨fun x=>by
 show V.bT (n+1) [.int .i64 x.kind,.int .i64 x.peer,.int .i64 x.message,.int .i64 x.time,enc x.assign]=true;simp only[gb,iI,lP,kz,lS,lz,Bool.and_self]⟩
structure Var where
 name:ByteArray
 init_:Int
 deriving Inhabited
instance:aC Var where
 cells x:=[.str x.name,.int .i64 x.init_]
 agg:=true
 size:=2
 len _:=rfl
 good x:=by simp only[V.bD,V.good,iG,Bool.and_self]
 one x:=by simp only[List.all_cons,List.all_nil,nE,lu,mT,kS,Bool.and_self]
 plain h:=by cases h
instance {n:Nat}:Lv (n+0) Var:=⟨fun x=>by
 show V.bT (n+0) [.str x.name,.int .i64 x.init_]=true;simp only[gb,iI,lP,kz,lS,lz,Bool.and_self]⟩
structure bl where
 name:ByteArray
 vars:Sl Var
 events:Sl Event
 deriving Inhabited
instance:aC bl where
 cells x:=[.str x.name,enc x.vars,enc x.events]
 agg:=true
 size:=3
 len _:=rfl
 good x:=by simp only[V.bD,V.good,iG,Bool.and_self]
 one x:=by simp only[List.all_cons,List.all_nil,nE,lu,mT,kS,Bool.and_self]
 plain h:=by cases h
instance {n:Nat}:Lv (n+2) bl:=⟨fun x=>by
 show V.bT (n+2) [.str x.name,enc x.vars,enc x.events]=true;simp only[gb,iI,lP,kz,lS,lz,Bool.and_self]⟩
structure Trace where
 procs:Sl bl
 deriving Inhabited
instance:aC Trace where
 cells x:=[enc x.procs]
 agg:=true
 size:=1
 len _:=rfl
 good x:=by simp only[V.bD,V.good,iG,Bool.and_self]
 one x:=by simp only[List.all_cons,List.all_nil,nE,lu,mT,kS,Bool.and_self]
 plain h:=by cases h
instance {n:Nat}:Lv (n+3) Trace:=⟨fun x=>by
 show V.bT (n+3) [enc x.procs]=true;simp only[gb,iI,lP,kz,lS,lz,Bool.and_self]⟩
structure Slice where
 empty:Bool
 first:Sl Int
 last:Sl Int
 j:Sl (Sl (Sl Int))
 deriving Inhabited
instance:aC Slice where
 cells x:=[.bool x.empty,enc x.first,enc x.last,enc x.j]
 agg:=true
 size:=4
 len _:=rfl
 good x:=by simp only[V.bD,V.good,iG,Bool.and_self]
 one x:=by simp only[List.all_cons,List.all_nil,nE,lu,mT,kS,Bool.and_self]
 plain h:=by cases h
instance {n:Nat}:Lv (n+3) Slice:=⟨fun x=>by
 show V.bT (n+3) [.bool x.empty,enc x.first,enc x.last,enc x.j]=true
 simp only[gb,iI,lP,kz,lS,lz,Bool.and_self]⟩
structure aK where
 from_:aa
 to_:aa
 deriving Inhabited
instance:aC aK where
 cells x:=[.int .i64 x.from_.proc,.int .i64 x.from_.index,.int .i64 x.to_.proc,.int .i64 x.to_.index]
 agg:=true
 size:=4
 len _:=rfl
 good x:=by simp only[V.bD,V.good,iG,Bool.and_self]
 one x:=by simp only[List.all_cons,List.all_nil,nE,lu,mT,kS,Bool.and_self]
 plain h:=by cases h
instance {n:Nat}:Lv (n+0) aK:=⟨fun x=>by
 show V.bT (n+0) [.int .i64 x.from_.proc,.int .i64 x.from_.index,.int .i64 x.to_.proc,.int .i64 x.to_.index]=true;simp only[gb,iI,lP,kz,lS,lz,Bool.and_self]⟩
structure aV where
 p:Int
 q:Int
 sent:Sl Int
 received:Sl Int
 deriving Inhabited
instance:aC aV where
 cells x:=[.int .i64 x.p,.int .i64 x.q,enc x.sent,enc x.received]
 agg:=true
 size:=4
 len _:=rfl
 good x:=by simp only[V.bD,V.good,iG,Bool.and_self]
 one x:=by simp only[List.all_cons,List.all_nil,nE,lu,mT,kS,Bool.and_self]
 plain h:=by cases h
instance {n:Nat}:Lv (n+1) aV:=⟨fun x=>by
 show V.bT (n+1) [.int .i64 x.p,.int .i64 x.q,enc x.sent,enc x.received]=true;simp only[gb,iI,lP,kz,lS,lz,Bool.and_self]⟩
structure aZ where
 lengths:Sl Int
 need:Sl (Sl aa)
 deriving Inhabited
instance:aC aZ where
 cells x:=[enc x.lengths,enc x.need]
 agg:=true
 size:=2
 len _:=rfl
 good x:=by simp only[V.bD,V.good,iG,Bool.and_self]
 one x:=by simp only[List.all_cons,List.all_nil,nE,lu,mT,kS,Bool.and_self]
 plain h:=by cases h
instance {n:Nat}:Lv (n+2) aZ:=⟨fun x=>by
 show V.bT (n+2) [enc x.lengths,enc x.need]=true;simp only[gb,iI,lP,kz,lS,lz,Bool.and_self]⟩
def fS (p:Int):Int→List Event→List (aa×Event)
 | _,[]=>[]
 | j,e::r=>(⟨p,j+1⟩,e)::fS p (j+1) r
def dQ:Int→List bl→List (aa×Event)
 | _,[]=>[]
 | i,p::r=>fS i 0 p.events.l++dQ (i+1) r
def Cr (n:Nat):Bool:=decide (n<9223372036854775807)
def gB (t:Trace):Option (List (aa×Event)):=
 if Cr t.procs.l.length&&t.procs.l.all fun p=>Cr p.events.l.length then some (dQ 0 t.procs.l)else none
end Go.VE
namespace Go.VE
def Uk:List (Nat×GD):=[
 (75,⟨0x22226260002000201,[],[(6,[.keep [0,1,7,8] []],[.keep [0,1,7,8] []]),(12,[.keep [] []],[]),(22,[.keep [4] []],[]),(27,[.keep [4] []],[])]⟩),
 (36,⟨0x226221,[],[]⟩),
 (37,⟨0x2222212,[],[]⟩),
 (14,⟨0x2222064442222026220220200002200222012,[],[(8,[.keep [2] []],[]),(16,[.keep [3,11,12,13] []],[.keep [3,11,12,13] []]),(22,[.keep [3] []],[]),(34,[.keep [2] []],[]),(39,[.keep [2] []],[])]⟩),
 (125,⟨0x26c4444026402201,[],[]⟩),
 (126,⟨0x26442201,[],[]⟩),
 (102,⟨0x222064c002644c00222600620000644402644022201,[],[(8,[.keep [2] []],[]),(14,[.keep [0,3] []],[.keep [0,3] []]),(20,[.keep [] []],[]),(28,[.keep [2] []],[]),(33,[.keep [2] []],[])]⟩),
 (103,⟨0x26442201,[],[]⟩),
 (79,⟨0x2222222022226020222062260202260206000022226020622000022202220620226020600002220202602012,[],[(10,[.keep [4] []],[]),(16,[.keep [1,2,5,6] [2,5]],[.keep [1,2,5,6] [2,5]]),(22,[.keep [5] [5]],[]),(30,[.keep [4] []],[]),(39,[.keep [4] []],[]),(45,[.keep [5,7] [5]],[.keep [5,7] [5]]),(51,[.keep [5] [5]],[]),(60,[.keep [4] []],[]),(66,[.keep [5,7,8] [5]],[.keep [5,7,8] [5]]),(72,[.keep [5,7] [5]],[]),(80,[.keep [4] []],[]),(88,[.keep [4] []],[]),(97,[.keep [4] []],[]),(101,[.keep [4] []],[])]⟩),
 (80,⟨0x2222220620226020600006444026c444c04040222020260206220000222006cc44c4444c04040440264402220064402644026c04026c44040264402644022200644022202202026022602012,[],[(13,[.keep [6] []],[]),(20,[.keep [6] []],[]),(22,[.keep [1,2,3,7] [3,7]],[]),(28,[.keep [6] []],[]),(36,[.keep [6] []],[]),(42,[.keep [1,3,7,8] [3,7]],[.keep [1,3,7,8] [3,7]]),(48,[.keep [] []],[]),(59,[.keep [6] []],[]),(64,[.keep [1,3,7,8,9,10] [3,7,9]],[.keep [1,3,7,8,9,10] [3,7,9]]),(70,[.keep [1,3,7,8] [3,7]],[]),(78,[.keep [6] []],[]),(84,[.keep [6] []],[])]⟩),
 (104,⟨0x2262222262022022,[],[]⟩),
 (87,⟨0x20222222262226c0442602020260226020622260200062200002,[],[(6,[.keep [1,2,3,6,7] [3,6]],[.keep [1,2,3,6,7] [3,6]]),(12,[.keep [6] [6]],[]),(18,[.keep [1,2,3,6,7,8] [3,6]],[.keep [1,2,3,6,7,8] [3,6]]),(24,[.keep [1,2,3,6,7] [3,6]],[]),(34,[.keep [6] [6]],[]),(40,[.keep [6] [6]],[])]⟩),
 (81,⟨0x2222226cc40444cc4040444022202602262020622262020000220060e20200022020600122,[],[(30,[.keep [2,3,5,6,7] [2,3,5]],[.keep [2,3,5,6,7] [2,3,5]]),(36,[.keep [6] []],[])]⟩),
 (82,⟨0x22206222602026006220002222203622000622262002062202202026260022602062226020260062200002222012,[],[(6,[.canon (.s 3) 2003 1,.keep [1,3] [1,2003]],[.canon (.s 3) 2003 1,.keep [1,3] [1,2003]]),(14,[.canon (.s 3) 2003 1,.keep [1,3,4,5] [1,2003]],[.canon (.s 3) 2003 1,.keep [1,3,4,5] [1,2003]]),(20,[.canon (.s 3) 2003 1,.keep [1,3,4] [1,2003]],[]),(24,[.canon (.s 3) 2003 1,.keep [1,3,4,5] [1,2003]],[.canon (.s 3) 2003 1,.keep [1,3,4,5] [1,2003]]),(30,[.canon (.s 3) 2003 1,.keep [1,3,4,5] [1,2003]],[]),(43,[.canon (.s 3) 2003 1,.keep [1,3,4,5] [1,2003]],[]),(46,[.canon (.s 3) 2003 1,.keep [1,3,5] [1,2003]],[]),(53,[.canon (.s 3) 2003 1,.keep [1,3] [1,2003]],[]),(59,[.canon (.s 3) 2003 1,.keep [1,3,8] [1,2003]],[.canon (.s 3) 2003 1,.keep [1,3,8] [1,2003]]),(65,[.keep [] []],[]),(73,[.keep [2] []],[]),(78,[.keep [2] []],[])]⟩),
 (105,⟨0x22262622222202062026262202022200122,[],[(10,[.canon (.s 5) 2005 2,.keep [2,3,5] [2,3,2005]],[])]⟩),
 (44,⟨0x202222220222620260600206200622260200062200002020222222222220260020620062226020006220002222222226222202e0006222602000622000222222222026006220000206444022220102,[],[(8,[.keep [2,3] [2]],[]),(14,[.keep [1,2,4] [1,2]],[.keep [1,2,4] [1,2]]),(20,[.keep [1,2] [1,2]],[]),(30,[.keep [2,3] [2]],[]),(37,[.keep [1,2,6] [1,2]],[.keep [1,2,6] [1,2]]),(43,[.keep [1,2] [1,2]],[]),(49,[.keep [1,2,6,7] [1,2]],[.keep [1,2,6,7] [1,2]]),(55,[.keep [1,2,6] [1,2]],[]),(65,[.keep [2,3] [2]],[]),(73,[.keep [1,2,9] [1,2]],[.keep [1,2,9] [1,2]]),(79,[.keep [1,2] [1,2]],[]),(85,[.keep [1,2,9,10] [1,2]],[.keep [1,2,9,10] [1,2]]),(91,[.keep [1,2,9] [1,2]],[]),(103,[.keep [2,3] [2]],[]),(113,[.keep [2,3] [2]],[]),(119,[.keep [1,2,13] [1,2]],[.keep [1,2,13] [1,2]]),(125,[.keep [2] [2]],[]),(131,[.keep [1,2,13,14] [1,2]],[.keep [1,2,13,14] [1,2]]),(137,[.keep [1,2,13] [1,2]],[]),(147,[.keep [2,3] [2]],[]),(153,[.keep [2,3] [2]],[])]⟩),
 (17,⟨0x2222302022212,[],[]⟩),
 (107,⟨0x2236226200026201,[],[]⟩),
 (127,⟨0x22206c444c0404c0022260062000062202012,[],[(8,[.keep [4] []],[]),(14,[.keep [1,2,5] [2]],[.keep [1,2,5] [2]]),(20,[.keep [] []],[]),(28,[.keep [4] []],[]),(33,[.keep [4] []],[])]⟩),
 (128,⟨0x2222220626220202062202202026022602062600006200012,[],[(6,[.keep [1,2,5] [2]],[.keep [1,2,5] [2]]),(12,[.keep [] []],[]),(18,[.keep [1,2,5,6] [2]],[.keep [1,2,5,6] [2]]),(24,[.keep [1,2,5] [2]],[]),(39,[.keep [4] []],[]),(46,[.keep [4] []],[])]⟩),
 (106,⟨0x26c44260012,[],[]⟩),
 (84,⟨0x2222226260026cc000262226020260062000012,[],[(8,[.canon (.s 5) 2005 1,.keep [1,2,5,6] [2,2005]],[.canon (.s 5) 2005 1,.keep [1,2,5,6] [2,2005]]),(14,[.canon (.s 5) 2005 1,.keep [5] [2005]],[])]⟩),
 (129,⟨0x2222226260026200001,[],[(8,[.keep [0,3,4] []],[.keep [0,3,4] []]),(14,[.keep [3] []],[])]⟩),
 (108,⟨0x222262622260262600260062000262222620201,[],[(8,[.keep [4] []],[]),(14,[.keep [0,1,5] []],[.keep [0,1,5] []]),(20,[.keep [] []],[]),(28,[.keep [4] []],[]),(33,[.keep [4] []],[])]⟩),
 (109,⟨0x2220626002600620000620201,[],[(8,[.keep [4] []],[]),(14,[.keep [0,1,5] []],[.keep [0,1,5] []]),(20,[.keep [] []],[]),(28,[.keep [4] []],[]),(33,[.keep [4] []],[])]⟩),
 (85,⟨0x26622226222266000226c04c00262002226c04c002620001,[],[(6,[.keep [0,1,5] []],[.keep [0,1,5] []]),(12,[.keep [0,1,5] []],[])]⟩),
 (47,⟨0x222222222226260026200026260006200000022026022200222220112,[(7,[.closeS (.s 13)])],[(8,[.closeS (.s 4),.canon (.s 5) 2005 1,.keep [1,4,5] [1,2005]],[.closeS (.s 4),.canon (.s 5) 2005 1,.keep [1,4,5] [1,2005]]),(14,[.canon (.s 5) 2005 1,.keep [5] [2005]],[]),(24,[.canon (.s 2) 2002 1,.keep [2,3] [2002]],[]),(32,[.closeS (.s 4),.canon (.s 5) 2005 1,.keep [1,4,5,6,7] [1,2005]],[.closeS (.s 4),.canon (.s 5) 2005 1,.keep [1,4,5,6,7] [1,2005]]),(38,[.canon (.s 5) 2005 1,.keep [1,5,6] [1,2005]],[]),(46,[.closeS (.s 4),.canon (.s 5) 2005 1,.keep [1,4,5,6,7,8,9] [1,2005]],[.closeS (.s 4),.canon (.s 5) 2005 1,.keep [1,4,5,6,7,8,9] [1,2005]]),(52,[.closeS (.s 4),.canon (.s 5) 2005 1,.keep [1,4,5,6,7] [1,2005]],[]),(61,[.canon (.s 2) 2002 1,.keep [2,3] [2002]],[])]⟩),
 (19,⟨0x222022112,[],[]⟩),
 (7,⟨0x22644422022202220064402220112,[],[]⟩),
 (110,⟨0x26c4426201,[],[]⟩),
 (144,⟨0x26c4444026402201,[],[]⟩),
 (145,⟨0x26442201,[],[]⟩),
 (130,⟨0x22064c402644c00222600200020064440264402201,[],[(8,[.keep [2] []],[]),(14,[.keep [0,18,19] []],[.keep [0,18,19] []]),(20,[.keep [] []],[]),(30,[.keep [2] []],[]),(35,[.keep [2] []],[])]⟩),
 (132,⟨0x26222212,[],[]⟩),
 (146,⟨0x22226260002000201,[],[(6,[.keep [0,1,7,8] []],[.keep [0,1,7,8] []]),(12,[.keep [] []],[]),(22,[.keep [4] []],[]),(27,[.keep [4] []],[])]⟩),
 (131,⟨0x226221,[],[]⟩),
 (134,⟨0x26222212,[],[]⟩),
 (147,⟨0x22226260002000201,[],[(6,[.keep [0,1,7,8] []],[.keep [0,1,7,8] []]),(12,[.keep [] []],[]),(22,[.keep [4] []],[]),(27,[.keep [4] []],[])]⟩),
 (133,⟨0x226221,[],[]⟩),
 (111,⟨0x222222022222026c0c4402222022020000020022220026c0c44422220202602012,[],[(11,[.keep [4] []],[]),(17,[.keep [4] []],[]),(23,[.keep [5,32,33,34] [5]],[.keep [5,32,33,34] [5]]),(29,[.keep [5] [5]],[]),(40,[.keep [4] []],[]),(46,[.keep [4] []],[]),(55,[.keep [4] []],[]),(59,[.keep [4] []],[])]⟩),
 (100,⟨0x2212,[],[]⟩),
 (135,⟨0x2644426c4402622222022202644422202020122,[],[(18,[.keep [1,3,5,19] [3,5]],[])]⟩),
 (137,⟨0x26222212,[],[]⟩),
 (148,⟨0x22226260002000201,[],[(6,[.keep [0,1,7,8] []],[.keep [0,1,7,8] []]),(12,[.keep [] []],[]),(22,[.keep [4] []],[]),(27,[.keep [4] []],[])]⟩),
 (136,⟨0x226221,[],[]⟩),
 (112,⟨0x2202626220026444022622202022020000020022220026c44022220022e02222226220202200202620201222,[],[(12,[.keep [3,4,5,7,8] [3,4,5,7]],[]),(19,[.keep [6] []],[]),(25,[.keep [6] []],[]),(31,[.keep [6] []],[]),(37,[.keep [5,7,52,53,54] [5,7]],[.keep [5,7,52,53,54] [5,7]]),(43,[.keep [] []],[]),(54,[.keep [6] []],[]),(60,[.keep [6] []],[]),(65,[.keep [6] []],[])]⟩),
 (149,⟨0x26c44426c440222012,[],[]⟩),
 (138,⟨0x2662262221222,[],[]⟩),
 (113,⟨0x2202326222002202001ef200220022022226200223262220022022226200202022020202020200002,[],[(8,[.keep [1,2,3,4,5,12] [1,2,3,4,5,10]],[.keep [] [1,2,3,4,5,10]]),(27,[.keep [] [1,2,3,4,5,10]],[]),(39,[.keep [] [1,2,3,4,5,10]],[]),(47,[.keep [] [1,2,3,4,5,10]],[]),(53,[.keep [2,3,4] [2,3,4,10]],[])]⟩),
 (139,⟨0x222622262222264444c4400222020262222262622020262020222620220122,[],[(12,[.canon (.s 7) 2007 2,.keep [1,5,7,8] [5,2007]],[])]⟩),
 (114,⟨0x20222622230026000226002020000e200262220202622002202202020200022,[],[(6,[.keep [2,3,4,5,13] [2,3,4,5]],[.keep [] [2,3,4,5]]),(14,[.canon (.s 8) 2008 2,.keep [2,3,4,5,6,7,8,13] [2,3,4,5,6,16,2008]],[.canon (.s 8) 2008 2,.keep [2,3,4,5,6,7,8,13] [2,3,4,5,6,16,2008]]),(20,[.keep [2,3,4,5,13] [2,3,4,5]],[]),(29,[.canon (.s 8) 2008 2,.keep [2,3,4,5,6,7,8,13,36,37,38] [2,3,4,5,6,16,2008]],[.canon (.s 8) 2008 2,.keep [2,3,4,5,6,7,8,13,36,37,38] [2,3,4,5,6,16,2008]]),(35,[.canon (.s 8) 2008 2,.keep [2,3,4,5,6,7,8,13] [2,3,4,5,6,16,2008]],[]),(46,[.keep [] [2,3,4,5]],[]),(58,[.keep [4,5] [4,5]],[])]⟩),
 (89,⟨0x20022222020262222222022202002202222202e2002020202222222202600200022002022220002,[],[(8,[.keep [2,3] [2,3]],[]),(14,[.keep [1,2,3,22,23] [1,2,3]],[.keep [1,2,3,22,23] [1,2,3]]),(20,[.keep [1,2,3] [1,2,3]],[]),(32,[.keep [2,3] [2,3]],[]),(39,[.keep [1,2,3,36] [1,2,3]],[.keep [] [1,2,3]]),(51,[.keep [] [1,2,3]],[]),(61,[.keep [2,3] [2,3]],[]),(71,[.keep [2,3] [2,3]],[]),(75,[.keep [2,3] [2,3]],[])]⟩),
 (53,⟨0x2222302022212,[],[]⟩),
 (29,⟨0x26c4426c40264026c0022002222222012,[],[]⟩),
 (30,⟨0x2222306222206c044222022020000022622222306222206c04422202202000002260202060002,[(75,[.closeS (.c 7 2),.closeS (.c 7 3)])],[(8,[.canon (.c 7 2) 4142 1,.keep [1,2,3,6,7,20,21,22] [3,6,7,4142]],[.canon (.c 7 2) 4142 1,.keep [1,2,3,6,7,20,21,22] [3,6,7,4142]]),(14,[.canon (.c 7 2) 4142 1,.keep [1,2,3,6,7] [3,6,7,4142]],[]),(29,[.canon (.c 7 2) 4142 1,.canon (.c 7 3) 4143 1,.keep [1,6,7,49,50,51] [6,7,4142,4143]],[.canon (.c 7 2) 4142 1,.canon (.c 7 3) 4143 1,.keep [1,6,7,49,50,51] [6,7,4142,4143]]),(35,[.canon (.c 7 2) 4142 1,.canon (.c 7 3) 4143 1,.keep [6,7] [6,7,4142,4143]],[])]⟩),
 (99,⟨0x26222221,[],[]⟩),
 (76,⟨0x22226260002000201,[],[(6,[.keep [0,1,7,8] []],[.keep [0,1,7,8] []]),(12,[.keep [] []],[]),(22,[.keep [4] []],[]),(27,[.keep [4] []],[])]⟩),
 (98,⟨0x226221,[],[]⟩),
 (70,⟨0x264c4422012,[],[]⟩),
 (71,⟨0x2206c444c440422022200000212,[],[(6,[.keep [2,7,8,9] [2]],[.keep [2,7,8,9] [2]]),(12,[.keep [] []],[]),(22,[.keep [4] []],[]),(27,[.keep [4] []],[])]⟩),
 (92,⟨0x26200201,[],[(8,[.canon (.s 2) 4004 1],[]),(12,[.canon (.s 2) 4004 1],[])]⟩),
 (74,⟨0x200226c0442602020202202022000222,[],[(8,[.keep [6,7] [6,7]],[]),(14,[.keep [4,5,6,7,15] [4,5,6,7]],[.keep [] [4,5,6,7]]),(24,[.keep [] [4,5,6,7]],[]),(28,[.keep [6,7] [6,7]],[])]⟩),
 (115,⟨0x2220622102,[],[]⟩),
 (93,⟨0x2200222202262222626200203202026220220220200000622260202220000001002,[],[(6,[.keep [1,2,4,5,13,14,15] [2,4,5]],[.keep [1,2,4,5,13,14,15] [2,4,5]]),(12,[.keep [4,5] [4,5]],[]),(20,[.keep [1,2,4,5,7,13,14,15,27,28,29] [2,4,5]],[.keep [1,2,4,5,7,13,14,15,27,28,29] [2,4,5]]),(26,[.keep [1,2,4,5,13,14,15] [2,4,5]],[]),(44,[.keep [4,5,6] [4,5]],[]),(50,[.keep [4,5,6] [4,5]],[])]⟩),
 (65,⟨0x1ff220002222222002002600222002260000226200112,[],[(9,[.canon (.s 6) 2006 1,.keep [6,7] [2006]],[]),(15,[.canon (.s 6) 2006 1,.keep [6,7] [2006]],[]),(20,[.canon (.s 8) 2008 1,.keep [2,3,8] [3,2008]],[.canon (.s 8) 2008 1,.keep [2,3,8] [3,2008]]),(30,[.canon (.s 6) 2006 1,.keep [6,7] [2006]],[])]⟩),
 (31,⟨0x2220622112,[],[]⟩),
 (140,⟨0x26201,[],[]⟩),
 (116,⟨0x26c44264402201,[],[]⟩),
 (117,⟨0x26201,[],[]⟩),
 (94,⟨0x226cc44444c444c04c002620022222602600222260060020022011,[],[(8,[.keep [0,1,6,7,8] []],[.keep [0,1,6,7,8] []]),(14,[.keep [0,1,6,7] []],[])]⟩),
 (67,⟨0x222222222026221,[],[]⟩),
 (32,⟨0x26626222206262002012,[],[]⟩),
 (8,⟨0x222222222260026002002202220262036200222202200002020222020e2002002202e0001112,[(47,[.closeS (.s 50)])],[(10,[.closeS (.s 7),.keep [6,7,8] []],[]),(20,[.closeS (.s 12),.keep [1,3,10,11,12,34,35,36] [3,10]],[.closeS (.s 12),.keep [1,3,10,11,12,34,35,36] [3,10]]),(26,[.closeS (.s 12),.keep [11,12] []],[]),(43,[.closeS (.s 7),.keep [6,7,8] []],[]),(55,[.closeS (.s 7),.keep [6,7,8] []],[])]⟩),
 (95,⟨0x2222306222030622222022262222302622022002020000200202000020002,[(53,[.closeS (.s 49)]),(59,[.closeS (.c 3 0),.closeS (.c 3 1)])],[(8,[.canon (.c 3 0) 4060 1,.canon (.c 3 1) 4061 1,.keep [1,2,3,11,12,13] [1,2,3,4060,4061]],[.canon (.c 3 0) 4060 1,.canon (.c 3 1) 4061 1,.keep [1,2,3,11,12,13] [1,2,3,4060,4061]]),(14,[.canon (.c 3 0) 4060 1,.canon (.c 3 1) 4061 1,.keep [2,3] [2,3,4060,4061]],[]),(25,[.canon (.s 6) 2006 2,.canon (.c 3 0) 4060 1,.canon (.c 3 1) 4061 1,.keep [1,2,3,5,6,11,12,13,18,19,20] [1,2,3,5,2006,4060,4061]],[.canon (.s 6) 2006 2,.canon (.c 3 0) 4060 1,.canon (.c 3 1) 4061 1,.keep [1,2,3,5,6,11,12,13,18,19,20] [1,2,3,5,2006,4060,4061]]),(31,[.canon (.s 6) 2006 2,.canon (.c 3 0) 4060 1,.canon (.c 3 1) 4061 1,.keep [1,2,3,5,6,11,12,13] [1,2,3,5,2006,4060,4061]],[]),(44,[.canon (.s 6) 2006 2,.canon (.c 3 0) 4060 1,.canon (.c 3 1) 4061 1,.keep [1,2,3,5,6,9,11,12,13,18,19,20] [1,2,3,5,9,2006,4060,4061]],[])]⟩),
 (118,⟨0x26262222020262620260220626020260012,[],[]⟩),
 (143,⟨0x62206000200222202201,[],[]⟩),
 (121,⟨0x62222222220262222620062002220000001,[],[(6,[.keep [0,1,9,10,11] []],[.keep [0,1,9,10,11] []]),(12,[.keep [0,1] []],[]),(23,[.keep [4] []],[]),(34,[.keep [4] []],[]),(43,[.keep [4] []],[]),(47,[.keep [4] []],[])]⟩),
 (120,⟨0x26221,[],[]⟩),
 (13,⟨0x2206262026002000200620201,[],[(8,[.keep [4] []],[]),(14,[.keep [0,1,12,13] []],[.keep [0,1,12,13] []]),(20,[.keep [] []],[]),(30,[.keep [4] []],[]),(35,[.keep [4] []],[])]⟩),
 (123,⟨0x26221,[],[]⟩),
 (96,⟨0x222302222262223622020220e0002000202200002012,[(32,[.closeS (.s 34)])],[(8,[.canon (.s 5) 2005 1,.keep [2,5,10,11,12] [2,2005]],[.canon (.s 5) 2005 1,.keep [2,5,10,11,12] [2,2005]]),(14,[.canon (.s 5) 2005 1,.keep [5] [2005]],[]),(22,[.canon (.s 5) 2005 1,.keep [2,5,7,10,11,12,17,18] [2,2005]],[.canon (.s 5) 2005 1,.keep [2,5,7,10,11,12,17,18] [2,2005]]),(28,[.canon (.s 5) 2005 1,.keep [2,5,10,11,12] [2,2005]],[])]⟩),
 (68,⟨0x2226202620200202620222000222222202000220112,[(16,[.closeS (.s 16)])],[(8,[.canon (.s 2) 2002 1,.keep [2,3] [2002]],[]),(20,[.closeS (.s 5),.canon (.s 6) 2006 1,.keep [4,5,6,7] [4,2006]],[.closeS (.s 5),.canon (.s 6) 2006 1,.keep [4,5,6,7] [4,2006]]),(26,[.canon (.s 6) 2006 1,.keep [6] [2006]],[]),(37,[.canon (.s 2) 2002 1,.keep [2,3] [2002]],[]),(43,[.canon (.s 2) 2002 1,.keep [2,3] [2002]],[])]⟩),
 (33,⟨0x222222220222112,[],[]⟩),
 (9,⟨0x222022112,[],[]⟩),
 (72,⟨0x26c444422012,[],[]⟩),
 (73,⟨0x22223300200262212,[],[]⟩),
 (34,⟨0x2202620220000222026202200002220262022000000260012,[],[(8,[.keep [6] []],[]),(14,[.keep [1,2,3,17,18,19] [3]],[.keep [1,2,3,17,18,19] [3]]),(20,[.keep [1,2,3] [3]],[]),(30,[.keep [6] []],[]),(37,[.keep [1,3,28,29,30] [3]],[.keep [1,3,28,29,30] [3]]),(43,[.keep [1,3] [3]],[]),(53,[.keep [6] []],[]),(60,[.keep [3,39,40,41] [3]],[.keep [3,39,40,41] [3]]),(66,[.keep [] []],[]),(76,[.keep [6] []],[]),(81,[.keep [6] []],[])]⟩),
 (10,⟨0x22622212,[],[]⟩),
 (35,⟨0x2220622102,[],[]⟩),
 (11,⟨0x22222622226c4c4404022222020262006c04022202020000626202260200202202e600200112,[],[(18,[.canon (.s 11) 2011 1,.keep [1,3,4,11,36,37,38] [4,2011]],[.canon (.s 11) 2011 1,.keep [1,3,4,11,36,37,38] [4,2011]]),(24,[.canon (.s 11) 2011 1,.keep [11] [2011]],[])]⟩),
 (12,⟨0x2206262026002000200620201,[],[(8,[.keep [4] []],[]),(14,[.keep [0,1,12,13] []],[.keep [0,1,12,13] []]),(20,[.keep [] []],[]),(30,[.keep [4] []],[]),(35,[.keep [4] []],[])]⟩),
 (3,⟨0x222226cc404c0442206c4c004c04026c04022222202001ef000022000020064c00264422222202202222002e0002622066222022202622022064440222232022002012,[],[(8,[.keep [6] []],[]),(18,[.keep [6] []],[]),(34,[.keep [6] []],[]),(42,[.keep [3,9,10,11,12,16,81,82,83] [3]],[.keep [3,9,10,11,12,16,81,82,83] [3]]),(48,[.keep [16] []],[]),(61,[.keep [6] []],[]),(67,[.keep [6] []],[])]⟩)]
end Go.VE
namespace Go.VE
namespace trace_events_c1
def yz:List RO:=[o1 20 (.s 18) [],o2 21 (ix 5) [.s 16,.s 18] [],o2 22 (lD 5) [.s 21] [21],o2 6 (.a (.alloc 5 [.int .i64 0,.int .i64 0,.int .i64 0,.int .i64 0,.aF])) [] [],o1 5 (.s 20) [20],oz (.l (.store 5)) [.s 6,.s 22] [22]]
def vB:List RO:=[o1 23 (.s 0) [],o1 24 (.s 3) [],o1 25 (.s 5) [5],o2 26 (bI .add) [.s 25,.k (.int .i64 1)] [25],o2 27 (.p (.build [.int .i64 0,.int .i64 0] [(0,1),(1,1)])) [.s 24,.s 26] [24,26],o2 28 (lD 5) [.s 6] [6],
 o2 29 .c [.s 23,.s 27,.s 28] [23,27,28],o2 30 (.p .not) [.s 29] [29]]
def tv:List RO:=[o2 31 (bI .add) [.s 18,.k (.int .i64 1)] [],o1 18 (.s 31) [31]]
def BM:RC:=.hg (.seq (.ops [o2 19 (bI .lss) [.s 18,.s 17] []]) (.seq (.cond (.s 19) .skip (.exit 2)) (.seq (.block 3 (.seq (.ops yz) (.seq (.ops vB) (.cond (.s 30) .ret .skip)))) (.ops tv)))) (.keep [0,3,8,9,10,16,17,18] [])
def E6:List RO:=[o1 12 (.s 10) [],o2 13 (ix 3) [.s 8,.s 10] [],o2 14 (lD 3) [.s 13] [13],o2 4 (.a (.alloc 3 [.str ByteArray.empty,.aF,.aF])) [] [],o1 3 (.s 12) [12],oz (.l (.store 3)) [.s 4,.s 14] [14]]
def C6:List RO:=[o2 15 (fa 2) [.s 4] [],o2 16 (ld 1) [.s 15] [15],o2 17 ln [.s 16] [],o1 18 (.k (.int .i64 0)) []]
def BJ:List RO:=[o2 32 (bI .add) [.s 10,.k (.int .i64 1)] [],o1 10 (.s 32) [32]]
def U2:RC:=.block 2 (.gh (.keep [0,3,8,9,10,16,17,18] []) (.loop BM))
def Im:RC:=.hg (.seq (.ops [o2 11 (bI .lss) [.s 10,.s 9] []]) (.seq (.cond (.s 11) .skip (.exit 0)) (.seq (.block 1 (.seq (.ops E6) (.seq (.ops C6) U2))) (.ops BJ)))) (.keep [0,8,9,10] [])
def Qa:List RO:=[o2 7 (fa 0) [.s 1] [1],o2 8 (ld 1) [.s 7] [7],o2 9 ln [.s 8] [],o1 10 (.k (.int .i64 0)) []]
def U1:RC:=.block 0 (.gh (.keep [0,8,9,10] []) (.loop Im))
def text:RF:=⟨33,[],.seq (.ops Qa) U1⟩
section
variable {S:Sys}
abbrev I1 (ps:Sl bl) (i:Int) (ws:List (List V)) (more:Bool) (y:Nat):St:=⟨[(0,.yl y),Cv 8 ps,Iv 9 (len ps),Iv 10 i],[],[],ws,more,y⟩
abbrev I2 (ps:Sl bl) (i:Int) (es:Sl Event) (j:Int) (ws:List (List V)) (more:Bool) (y:Nat):St:=⟨[(0,.yl y),Iv 3 i,Cv 8 ps,Iv 9 (len ps),Iv 10 i,Cv 16 es,Iv 17 (len es),Iv 18 j],[],[],ws,more,y⟩
abbrev S2 (ps:Sl bl) (i:Int) (es:Sl Event) (j:Int) (b:Bool) (ws:List (List V)) (more:Bool) (y:Nat):St:=⟨[(0,.yl y),Iv 3 i,Cv 8 ps,Iv 9 (len ps),Iv 10 i,Cv 16 es,Iv 17 (len es),Iv 18 j,Bv 19 b],[],[],ws,more,y⟩
theorem Q7 (ps:Sl bl) (i:Int) (es:Sl Event) (j:Int) (ws:List (List V)) (more:Bool) (y:Nat) (hj:decide (j<len es)=false) :
 rn S.bare kC some (.rc BM) [] (I2 ps i es j ws more y)=some (.exit 2,S2 ps i es j false ws more y):=by
 refine Le.get ?_;refine Kf (n:=7) (fo':=.rc (.cond (.s 19) .skip (.exit 2))) (fs':=[.seq (.seq (.block 3 (.seq (.ops yz) (.seq (.ops vB) (.cond (.s 30) .ret .skip)))) (.ops tv)),.gst (.keep [0,3,8,9,10,16,17,18] [])]) (fun b=>S2 ps i es j b ws more y) hj (by kernel_rfl) ?_
 exact Le.of_eq (by kernel_rfl)
theorem RQ (ps:Sl bl) (i:Int) (es:Sl Event) (j:Int) (e:Event) (ws:List (List V)) (more:Bool) (y:Nat) (hj:decide (j<len es)=true) (hx:idx es j=some e) (hb:(!(more || !ws.isEmpty))=false) :
 rn S.bare kC some (.rc BM) [] (I2 ps i es j ([enc (⟨i,IntKind.wrap .i64 (j+1)⟩:aa),enc e]::ws) more y)=some (.norm,I2 ps i es (IntKind.wrap .i64 (j+1)) ws more y):=by
 refine Le.get ?_;refine Kt (n:=7) (fo':=.rc (.cond (.s 19) .skip (.exit 2))) (fs':=[.seq (.seq (.block 3 (.seq (.ops yz) (.seq (.ops vB) (.cond (.s 30) .ret .skip)))) (.ops tv)),.gst (.keep [0,3,8,9,10,16,17,18] [])]) (fun b=>S2 ps i es j b ([enc (⟨i,IntKind.wrap .i64 (j+1)⟩:aa),enc e]::ws) more y) hj (by kernel_rfl) ?_
 refine Ky hx ?_;refine KD 8 false [] (yz.drop 1) [.seq (.seq (.ops vB) (.cond (.s 30) .ret .skip)),.blk 3,.seq (.ops tv),.gst (.keep [0,3,8,9,10,16,17,18] [])] ⟨[(0,.yl y),Iv 3 i,Cv 8 ps,Iv 9 (len ps),Iv 10 i,Cv 16 es,Iv 17 (len es),Iv 18 j,Bv 19 true,Iv 20 j],[],[],([enc (⟨i,IntKind.wrap .i64 (j+1)⟩:aa),enc e]::ws),more,y⟩ .i64 rfl (by kernel_rfl) fun x h1=>?_
 obtain rfl:x=e:=by rw[hx]at h1;cases h1;rfl
 refine PI 1 false [] (yz.drop 3) [.seq (.seq (.ops vB) (.cond (.s 30) .ret .skip)),.blk 3,.seq (.ops tv),.gst (.keep [0,3,8,9,10,16,17,18] [])] ⟨[(0,.yl y),Iv 3 i,Cv 8 ps,Iv 9 (len ps),Iv 10 i,Cv 16 es,Iv 17 (len es),Iv 18 j,Bv 19 true,Iv 20 j,Cv 22 x],[],[],([enc (⟨i,IntKind.wrap .i64 (j+1)⟩:aa),enc x]::ws),more,y⟩ [iv 0,iv 0,iv 0,iv 0,.v .aF] rfl (by simp only[aS,uf,nu,oK,nD,oL,qp,oT,qb,mS,oO,uE,pT,pS,pW,qd,si,rV,oM,qv,SV.b7];rfl) (by kernel_rfl) ?_
 refine Ast 1 false [] (yz.drop 5) [.seq (.seq (.ops vB) (.cond (.s 30) .ret .skip)),.blk 3,.seq (.ops tv),.gst (.keep [0,3,8,9,10,16,17,18] [])] ⟨[(0,.yl y),Iv 3 i,Cv 8 ps,Iv 9 (len ps),Iv 10 i,Cv 16 es,Iv 17 (len es),Iv 18 j,Bv 19 true,Cv 22 x,Pv 6,Iv 5 j],[Xb 6 (⟨0,0,0,0,.nil⟩:Event)],[],([enc (⟨i,IntKind.wrap .i64 (j+1)⟩:aa),enc x]::ws),more,y⟩ 6 0 x [iv 0,iv 0,iv 0,iv 0,.v .aF] ((cells x).map .v) rfl (by kernel_rfl) ?_
 refine SH (n:=10) (q:=vB.drop 6) (fs':=[.seq (.cond (.s 30) .ret .skip),.blk 3,.seq (.ops tv),.gst (.keep [0,3,8,9,10,16,17,18] [])]) (st:=⟨[(0,.yl y),Iv 3 i,Cv 8 ps,Iv 9 (len ps),Iv 10 i,Cv 16 es,Iv 17 (len es),Iv 18 j,Bv 19 true,(23,.yl y),Cv 27 (⟨i,IntKind.wrap .i64 (j+1)⟩:aa),Cv 28 x],[Xb 6 x],[],([enc (⟨i,IntKind.wrap .i64 (j+1)⟩:aa),enc x]::ws),more,y⟩) (vs:=[cv (⟨i,IntKind.wrap .i64 (j+1)⟩:aa),cv x]) (by kernel_rfl) rfl (by kernel_rfl) (by kernel_rfl) rfl rfl ?_
 refine Kf (n:=3) (fo':=.rc (.cond (.s 30) .ret .skip)) (fs':=[.blk 3,.seq (.ops tv),.gst (.keep [0,3,8,9,10,16,17,18] [])]) (fun b=>⟨[(0,.yl y),Iv 3 i,Cv 8 ps,Iv 9 (len ps),Iv 10 i,Cv 16 es,Iv 17 (len es),Iv 18 j,Bv 19 true,Bv 30 b],[Xb 6 x],[],ws,more,y⟩) hb (by kernel_rfl) ?_
 exact Le.of_eq (by kernel_rfl)
theorem MB (ps:Sl bl) (i:Int) (es:Sl Event) (j:Int) (e:Event) (ws:List (List V)) (more:Bool) (y:Nat) (hj:decide (j<len es)=true) (hx:idx es j=some e) (hb:(!(more || !ws.isEmpty))=true) :
 rn S.bare kC some (.rc BM) [] (I2 ps i es j ([enc (⟨i,IntKind.wrap .i64 (j+1)⟩:aa),enc e]::ws) more y)=some (.ret,⟨[(0,.yl y),Iv 3 i,Cv 8 ps,Iv 9 (len ps),Iv 10 i,Cv 16 es,Iv 17 (len es),Iv 18 j,Bv 19 true,Bv 30 true],[Xb 6 e],[],ws,more,y⟩):=by
 refine Le.get ?_;refine Kt (n:=7) (fo':=.rc (.cond (.s 19) .skip (.exit 2))) (fs':=[.seq (.seq (.block 3 (.seq (.ops yz) (.seq (.ops vB) (.cond (.s 30) .ret .skip)))) (.ops tv)),.gst (.keep [0,3,8,9,10,16,17,18] [])]) (fun b=>S2 ps i es j b ([enc (⟨i,IntKind.wrap .i64 (j+1)⟩:aa),enc e]::ws) more y) hj (by kernel_rfl) ?_
 refine Ky hx ?_;refine KD 8 false [] (yz.drop 1) [.seq (.seq (.ops vB) (.cond (.s 30) .ret .skip)),.blk 3,.seq (.ops tv),.gst (.keep [0,3,8,9,10,16,17,18] [])] ⟨[(0,.yl y),Iv 3 i,Cv 8 ps,Iv 9 (len ps),Iv 10 i,Cv 16 es,Iv 17 (len es),Iv 18 j,Bv 19 true,Iv 20 j],[],[],([enc (⟨i,IntKind.wrap .i64 (j+1)⟩:aa),enc e]::ws),more,y⟩ .i64 rfl (by kernel_rfl) fun x h1=>?_
 obtain rfl:x=e:=by rw[hx]at h1;cases h1;rfl
 refine PI 1 false [] (yz.drop 3) [.seq (.seq (.ops vB) (.cond (.s 30) .ret .skip)),.blk 3,.seq (.ops tv),.gst (.keep [0,3,8,9,10,16,17,18] [])] ⟨[(0,.yl y),Iv 3 i,Cv 8 ps,Iv 9 (len ps),Iv 10 i,Cv 16 es,Iv 17 (len es),Iv 18 j,Bv 19 true,Iv 20 j,Cv 22 x],[],[],([enc (⟨i,IntKind.wrap .i64 (j+1)⟩:aa),enc x]::ws),more,y⟩ [iv 0,iv 0,iv 0,iv 0,.v .aF] rfl (by simp only[aS,uf,nu,oK,nD,oL,qp,oT,qb,mS,oO,uE,pT,pS,pW,qd,si,rV,oM,qv,SV.b7];rfl) (by kernel_rfl) ?_
 refine Ast 1 false [] (yz.drop 5) [.seq (.seq (.ops vB) (.cond (.s 30) .ret .skip)),.blk 3,.seq (.ops tv),.gst (.keep [0,3,8,9,10,16,17,18] [])] ⟨[(0,.yl y),Iv 3 i,Cv 8 ps,Iv 9 (len ps),Iv 10 i,Cv 16 es,Iv 17 (len es),Iv 18 j,Bv 19 true,Cv 22 x,Pv 6,Iv 5 j],[Xb 6 (⟨0,0,0,0,.nil⟩:Event)],[],([enc (⟨i,IntKind.wrap .i64 (j+1)⟩:aa),enc x]::ws),more,y⟩ 6 0 x [iv 0,iv 0,iv 0,iv 0,.v .aF] ((cells x).map .v) rfl (by kernel_rfl) ?_
 refine SH (n:=10) (q:=vB.drop 6) (fs':=[.seq (.cond (.s 30) .ret .skip),.blk 3,.seq (.ops tv),.gst (.keep [0,3,8,9,10,16,17,18] [])]) (st:=⟨[(0,.yl y),Iv 3 i,Cv 8 ps,Iv 9 (len ps),Iv 10 i,Cv 16 es,Iv 17 (len es),Iv 18 j,Bv 19 true,(23,.yl y),Cv 27 (⟨i,IntKind.wrap .i64 (j+1)⟩:aa),Cv 28 x],[Xb 6 x],[],([enc (⟨i,IntKind.wrap .i64 (j+1)⟩:aa),enc x]::ws),more,y⟩) (vs:=[cv (⟨i,IntKind.wrap .i64 (j+1)⟩:aa),cv x]) (by kernel_rfl) rfl (by kernel_rfl) (by kernel_rfl) rfl rfl ?_
 refine Kt (n:=3) (fo':=.rc (.cond (.s 30) .ret .skip)) (fs':=[.blk 3,.seq (.ops tv),.gst (.keep [0,3,8,9,10,16,17,18] [])]) (fun b=>⟨[(0,.yl y),Iv 3 i,Cv 8 ps,Iv 9 (len ps),Iv 10 i,Cv 16 es,Iv 17 (len es),Iv 18 j,Bv 19 true,Bv 30 b],[Xb 6 x],[],ws,more,y⟩) hb (by kernel_rfl) ?_
 exact Le.of_eq (by kernel_rfl)
abbrev S1 (ps:Sl bl) (i:Int) (b:Bool) (ws:List (List V)) (more:Bool) (y:Nat):St:=⟨[(0,.yl y),Cv 8 ps,Iv 9 (len ps),Iv 10 i,Bv 11 b],[],[],ws,more,y⟩
theorem Qw (ps:Sl bl) (i:Int) (ws:List (List V)) (more:Bool) (y:Nat) (hj:decide (i<len ps)=false) :
 rn S.bare kC some (.rc Im) [] (I1 ps i ws more y)=some (.exit 0,S1 ps i false ws more y):=by
 refine Le.get ?_;refine Kf (n:=7) (fo':=.rc (.cond (.s 11) .skip (.exit 0))) (fs':=[.seq (.seq (.block 1 (.seq (.ops E6) (.seq (.ops C6) U2))) (.ops BJ)),.gst (.keep [0,8,9,10] [])]) (fun b=>S1 ps i b ws more y) hj (by kernel_rfl) ?_
 exact Le.of_eq (by kernel_rfl)
def Lz:List Fm:=[.blk 2,.blk 1,.seq (.ops BJ),.gst (.keep [0,8,9,10] [])]
theorem LY (ps:Sl bl) (i:Int) (p:bl) (ws:List (List V)) (more:Bool) (y:Nat) (r:Out×St) (hj:decide (i<len ps)=true) (hx:idx ps i=some p)
 (h:rn S.bare kC some (.rc (.loop BM)) Lz (I2 ps i p.events 0 ws more y)=some r):rn S.bare kC some (.rc Im) [] (I1 ps i ws more y)=some r:=by
 refine Le.get ?_;refine Kt (n:=7) (fo':=.rc (.cond (.s 11) .skip (.exit 0))) (fs':=[.seq (.seq (.block 1 (.seq (.ops E6) (.seq (.ops C6) U2))) (.ops BJ)),.gst (.keep [0,8,9,10] [])]) (fun b=>S1 ps i b ws more y) hj (by kernel_rfl) ?_
 refine Ky hx ?_;refine KD 8 false [] (E6.drop 1) [.seq (.seq (.ops C6) U2),.blk 1,.seq (.ops BJ),.gst (.keep [0,8,9,10] [])] ⟨[(0,.yl y),Cv 8 ps,Iv 9 (len ps),Iv 10 i,Bv 11 true,Iv 12 i],[],[],ws,more,y⟩ .i64 rfl (by kernel_rfl) fun x h1=>?_
 obtain rfl:x=p:=by rw[hx]at h1;cases h1;rfl
 refine PI 1 false [] (E6.drop 3) [.seq (.seq (.ops C6) U2),.blk 1,.seq (.ops BJ),.gst (.keep [0,8,9,10] [])] ⟨[(0,.yl y),Cv 8 ps,Iv 9 (len ps),Iv 10 i,Bv 11 true,Iv 12 i,Cv 14 x],[],[],ws,more,y⟩ [.v (.str ByteArray.empty),.v .aF,.v .aF] rfl (by simp only[aS,uf,nu,oK,nD,oL,qp,oT,qb,mS,oO,uE,pT,pS,pW,qd,si,rV,oM,qv,SV.b7];rfl) (by kernel_rfl) ?_
 refine Ast 1 false [] (E6.drop 5) [.seq (.seq (.ops C6) U2),.blk 1,.seq (.ops BJ),.gst (.keep [0,8,9,10] [])] ⟨[(0,.yl y),Cv 8 ps,Iv 9 (len ps),Iv 10 i,Bv 11 true,Cv 14 x,Pv 4,Iv 3 i],[Xb 4 (⟨ByteArray.empty,.nil,.nil⟩:bl)],[],ws,more,y⟩ 4 0 x [.v (.str ByteArray.empty),.v .aF,.v .aF] ((cells x).map .v) rfl (by kernel_rfl) ?_
 refine PO 6 false [] (C6.drop 2) [.seq U2,.blk 1,.seq (.ops BJ),.gst (.keep [0,8,9,10] [])] ⟨[(0,.yl y),Cv 8 ps,Iv 9 (len ps),Iv 10 i,Bv 11 true,Pv 4,Iv 3 i,Cv 16 x.events],[Xb 4 x],[],ws,more,y⟩ x.events rfl (by kernel_rfl) ?_
 refine AH (n:=5) (fo':=.rc (.loop BM)) (fs':=Lz) (st':=I2 ps i x.events 0 ws more y) (by kernel_rfl) (Le.of_eq h)
theorem NU (ps:Sl bl) (i:Int) (es:Sl Event) (j:Int) (ws:List (List V)) (more:Bool) (y:Nat) :
 rn S.bare kC some (.ex 2) Lz (S2 ps i es j false ws more y)=some (.norm,I1 ps (IntKind.wrap .i64 (i+1)) ws more y):=by kernel_rfl
theorem wrap_small (n:Nat) (h:n<9223372036854775807):IntKind.wrap .i64 ((n:Int)+1)=((n+1:Nat):Int):=by
 simp[IntKind.wrap,IntKind.bits,IntKind.signed];omega
abbrev eI (x:aa×Event):List V:=[enc x.1,enc x.2]
theorem z8.step {x:List V} {ws rest:List (List V)} {more:Bool} (h:z8 ws (x::rest) more):∃ws',ws=x::ws'∧((!(more || !ws'.isEmpty))=false∧z8 ws' rest more∨(!(more || !ws'.isEmpty))=true∧ws'=[]):=by
 rcases h with⟨rfl,rfl⟩|⟨rfl,hn,r,hr⟩
 ·exact⟨rest,rfl,.inl ⟨rfl,.inl ⟨rfl,rfl⟩⟩⟩
 ·cases ws with
  | nil=>exact absurd rfl hn
  | cons w ws=>
   simp only[List.cons_append,List.cons.injEq]at hr;obtain⟨rfl,rfl⟩:=hr;refine⟨ws,rfl,?_⟩
   cases ws with
   | nil=>exact .inr ⟨rfl,rfl⟩
   | cons z zs=>exact .inl ⟨rfl,.inr ⟨rfl,by simp,r,rfl⟩⟩
theorem Db {α:Type} {s:Sl α} {j:Nat} {x:α} {r:List α} (h:s.l.drop j=x::r):idx s (j:Int)=some x∧decide ((j:Int)<len s)=true∧s.l.drop (j+1)=r:=by
 have h1:j<s.l.length:=by
  apply Classical.byContradiction;intro hn;rw[List.drop_eq_nil_of_le (by omega)]at h;cases h
 have h2:=List.drop_eq_getElem_cons h1;rw[h2]at h;simp only[List.cons.injEq]at h;refine⟨?_,by simp[len,h1],h.2⟩
 unfold idx;rw[if_pos (by omega)]
 simp[ζd h1,h.1]
variable {Q:Out×St→Option (Out×St)} {fs:List Fm}
theorem inner (ps:Sl bl) (i:Int) (es:Sl Event) (hl:es.l.length<9223372036854775807) (more:Bool) (y:Nat) (R:List (List V)):∀(rem:List Event) (j:Nat),es.l.drop j=rem→∀ws,z8 ws ((fS i j rem).map eI++R) more →
 (∃(ws':List (List V)) (j':Int),z8 ws' R more∧rn S.bare kC Q (.rc (.loop BM)) fs (I2 ps i es j ws more y)=rn S.bare kC Q (.ex 2) fs (S2 ps i es j' false ws' more y)) ∨
 (∃st':St,st'.want=[]∧rn S.bare kC Q (.rc (.loop BM)) fs (I2 ps i es j ws more y)=Q (.ret,st'))
 | [],j,hd,ws,hw=>by
  have h1:decide ((j:Int)<len es)=false:=by
   have:es.l.length≤j:=by simpa using hd
   simp[len];omega
  exact .inl ⟨ws,j,by simpa [fS]using hw,Bk (Q7 ps i es j ws more y h1)⟩
 | e::rem,j,hd,ws,hw=>by
  obtain⟨h1,h2,h3⟩:=Db hd;have hj:j<es.l.length:=by simpa [len]using h2
  simp only[fS,List.map_cons,List.cons_append]at hw;obtain⟨ws',rfl,hb⟩:=z8.step hw;have hwr:=wrap_small j (by omega)
  have hji:((j:Int)+1)=IntKind.wrap .i64 ((j:Int)+1):=by rw[hwr];simp
  rcases hb with⟨hb,hd'⟩|⟨hb,rfl⟩
  ·have k:=RQ (S:=S) ps i es j e ws' more y h2 h1 hb;rw[←hji]at k;have k2:=BV (Q:=Q) (fs:=fs) k;have ih:=inner ps i es hl more y R rem (j+1) h3 ws' (by push_cast;exact hd')
   rw[show ((j+1:Nat):Int)=(j:Int)+1 from rfl]at ih;rcases ih with⟨ws2,j2,g1,g2⟩|⟨st',g1,g2⟩
   ·exact .inl ⟨ws2,j2,g1,k2.trans g2⟩
   ·exact .inr ⟨st',g1,k2.trans g2⟩
  ·have k:=MB (S:=S) ps i es j e [] more y h2 h1 hb;rw[←hji]at k;exact .inr ⟨_,by rfl,BS k⟩
theorem outer (ps:Sl bl) (hl:ps.l.length<9223372036854775807) (hes:∀p∈ps.l,p.events.l.length<9223372036854775807) (more:Bool) (y:Nat):∀(rem:List bl) (i:Nat),ps.l.drop i=rem→∀ws,z8 ws ((dQ i rem).map eI) more →
 rn S.bare kC Qi (.rc (.loop Im)) [.blk 0] (I1 ps i ws more y)=some ()
 | [],i,hd,ws,hw=>by
  have h1:decide ((i:Int)<len ps)=false:=by
   have:ps.l.length≤i:=by simpa using hd
   simp[len];omega
  rw[Bk (Qw ps i ws more y h1)];have:ws=[]:=by
   rcases hw with⟨_,rfl⟩|⟨_,hn,r,hr⟩
   ·rfl
   ·have:ws=[]:=by cases ws with
     | nil=>rfl
     | cons=>simp[dQ]at hr
    exact absurd this hn
  subst this;rfl
 | p::rem,i,hd,ws,hw=>by
  obtain⟨h1,h2,h3⟩:=Db hd;have hi:i<ps.l.length:=by simpa [len]using h2
  have hp:p∈ps.l:=List.mem_of_mem_drop (i:=i) (by rw[hd];exact List.mem_cons_self ..)
  simp only[dQ,List.map_append]at hw;have hwr:=wrap_small i (by omega)
  rcases inner (S:=S) (Q:=some) (fs:=Lz) ps i p.events (hes p hp) more y _ p.events.l 0 rfl ws hw with⟨ws',j',g1,g2⟩|⟨st',g1,g2⟩
  ·rw[NU,hwr]at g2;rw[BV (LY ps i p ws more y _ h2 h1 g2)];exact outer ps hl hes more y rem (i+1) h3 ws' g1
  ·rw[BS (LY ps i p ws more y _ h2 h1 g2)];simp[Qi,g1]
theorem all (t:Trace) (its:List (aa×Event)) (h:gB t=some its) (ws:List (List V)) (more:Bool) (hw:z8 ws (its.map eI) more) (y:Nat) :
 rn S.bare kC Qi (.rc text.body) [] ⟨tT 0 (([]:List V).map .v++.yl y::[V.fptr (cells t)].map .v),[],[],ws,more,y⟩=some ():=by
 unfold gB at h;split at h
 ·rename_i hk;cases h;simp only[ζh,List.all_eq_true,Cr,decide_eq_true_eq]at hk;refine Le.get ?_;refine PO 4 false [] (Qa.drop 2) [.seq U1] ⟨[(0,.yl y),Cv 8 t.procs],[],[],ws,more,y⟩ t.procs rfl (by kernel_rfl) ?_
  refine AH (n:=5) (fo':=.rc (.loop Im)) (fs':=[.blk 0]) (st':=I1 t.procs 0 ws more y) (by kernel_rfl) (Le.of_eq ?_)
  exact outer t.procs hk.1 hk.2 more y t.procs.l 0 rfl ws hw
 ·cases h
end
theorem Fb {α:Type} [aC α] {a b:Sl α} (h:aW a=aW b):rows a.l=rows b.l:=by
 cases a <;> cases b <;> first|rfl|(simp only[aW,Sl.k,kM,V.fsl.injEq,true_and,reduceCtorEq]at h;done)|(simp only[aW,Sl.k,kM,V.fsl.injEq,true_and,reduceCtorEq]at h;exact h)
theorem CA (p:Int):∀(es es':List Event) (j:Int),rows es=rows es'→(fS p j es).map eI=(fS p j es').map eI
 | [],[],_,_=>rfl
 | [],_::_,_,h=>by simp[rows]at h
 | _::_,[],_,h=>by simp[rows]at h
 | e::es,e'::es',j,h=>by
  simp only[rows,List.map_cons,List.cons.injEq]at h;have h1:enc e=enc e':=by show V.agg (cells e)=V.agg (cells e');rw[h.1]
  simp only[fS,List.map_cons,eI,h1,CA p es es' (j+1) h.2]
theorem Ab:∀(ps ps':List bl) (i:Int),rows ps=rows ps'→(dQ i ps).map eI=(dQ i ps').map eI
 | [],[],_,_=>rfl
 | [],_::_,_,h=>by simp[rows]at h
 | _::_,[],_,h=>by simp[rows]at h
 | p::ps,p'::ps',i,h=>by
  simp only[rows,List.map_cons,List.cons.injEq]at h;have h1:aW p.events=aW p'.events:=by
   have:=h.1;change [V.str p.name,aW p.vars,aW p.events]=[V.str p'.name,aW p'.vars,aW p'.events]at this;simp only[List.cons.injEq]at this;exact this.2.2.1
  simp only[dQ,List.map_append,CA i _ _ 0 (Fb h1),Ab ps ps' (i+1) h.2]
def Cn (f:FuncId) (g:FuncId) (a b:List V) (xs:List (List V)):Prop:=∃(t:Trace) (its:List (aa×Event)),g=f∧a=[]∧b=[.fptr (cells t)]∧gB t=some its∧xs=its.map eI
theorem Cn.uniq {f g:FuncId} {a b:List V} {xs ys:List (List V)} (h:Cn f g a b xs) (k:Cn f g a b ys):xs=ys:=by
 obtain⟨t,its,rfl,rfl,rfl,h1,rfl⟩:=h;obtain⟨t',its',_,_,h2,h3,rfl⟩:=k;simp only[List.cons.injEq,V.fptr.injEq,and_true]at h2;have h4:aW t.procs=aW t'.procs:=by
  change [aW t.procs]=[aW t'.procs]at h2;simpa using h2
 unfold gB at h1 h3;split at h1 <;> split at h3 <;> simp only[ζa,reduceCtorEq]at h1 h3;subst h1 h3;exact Ab _ _ 0 (Fb h4)
end trace_events_c1
end Go.VE
namespace Go.VE
open Go.Proofs.YtnfakljmdnbipaaGreat
noncomputable section
noncomputable def Gb (f:FuncId):Option zB:=bif Nat.beq f 66 then some (tY false)else bif Nat.beq f 122 then some (pP E)else bif Nat.beq f 119 then some (nZ E)else none
noncomputable def Sy:Sys:=⟨E,fun n=>n,uv (trace_events_c1.Cn 124),wF E,Gb⟩
theorem Oo:Sy.prm 66=some (tY false):=by kernel_rfl
theorem MG:Sy.prm 122=some (pP Sy.E):=by kernel_rfl
theorem NA:Sy.prm 119=some (nZ Sy.E):=by kernel_rfl
theorem QA:∀f q,Gb f=some q→kA E f q:=by
 intro f q h;unfold Gb at h
 cases h1:Nat.beq f 66 with
 | true=>
  rw[h1]at h;cases h;have:=Nat.eq_of_beq_eq_true h1;subst this;exact N0 false uq (by kernel_rfl) (by kernel_rfl) (u5 (by kernel_rfl))
 | false=>
  rw[h1]at h
  cases h1:Nat.beq f 122 with
  | true=>
   rw[h1]at h;cases h;have:=Nat.eq_of_beq_eq_true h1;subst this;exact Ke uq (by kernel_rfl) (by kernel_rfl) (u5 (by kernel_rfl))
  | false=>
   rw[h1]at h
   cases h1:Nat.beq f 119 with
   | true=>
    rw[h1]at h;cases h;have:=Nat.eq_of_beq_eq_true h1;subst this;exact Lp (by kernel_rfl) (by kernel_rfl) (by kernel_rfl) (by kernel_rfl)
   | false=>
    rw[h1]at h;cases h
def Tx:pn:=Kp E some (lk Uk)
abbrev cL:bJ:=cw Sy Tx
theorem OH:∃fi,E.ft 124=some fi∧uS E some fi trace_events_c1.text:=Pf (by kernel_rfl)
theorem Cl:om Sy Tx where
 fn f rf h:=let ⟨fi,h1,h2⟩:=Jw h;⟨fi,some,h1,uq,h2⟩
 vH f bs y h:=Hw h
 prm:=QA
theorem xO:∀f a b xs,Sy.items f a b=some xs→dP Sy f a b xs:=by
 intro f a b xs h;obtain⟨t,its,rfl,rfl,rfl,h1,rfl⟩:=Fz h;obtain⟨fi,h2,h3⟩:=OH;exact Ks Sy h2 uq h3 (Nat.le_of_ble_eq_true rfl) rfl fun ws more hw y=>trace_events_c1.all t its h1 ws more hw y
theorem uY (t:Trace) (its:List (aa×Event)) (h:gB t=some its):Sy.items 124 [] [.fptr (cells t)]=some (its.map fun x:aa×Event=>[enc x.1,enc x.2]):=
 Gg ⟨t,its,rfl,rfl,rfl,h,rfl⟩ fun ys hy=>hy.uniq ⟨t,its,rfl,rfl,rfl,h,rfl⟩
theorem Ji:Sy.vH 6 []=some (.bool true):=we (D6 rfl ⟨1,[],by kernel_rfl⟩)
end
end Go.VE
namespace Go.VE
noncomputable section
def qY (t0:Trace) (x1:aa):Option Event:=
 (idx t0.procs x1.proc).bind fun x_1=>
 (idx x_1.events (IntKind.wrap .i64 (x1.index-1))).bind fun x_2=>
 some x_2
instance Rs (t0:Trace) (x1:aa):Fc Sy cL (qY t0 x1):=Fc.N 104 [enc t0,enc x1] (cN 2 2 t0 (bg 10 fun x_1 _=>bg 5 fun x_2 _=>kB 1 4 0 x_2 ah))
namespace cC
def bu (kind1 m2 p7:Int) (tb3:Trace) (vb6:aa) (i8:Int):Option (Fw Int Unit aa):=
 (idx tb3.procs p7).bind fun x_1=>
 au (decide (i8<(len x_1.events)))
 ((idx tb3.procs p7).bind fun x_2=>
 (idx x_2.events i8).bind fun x_3=>
 (au (x_3.kind==kind1)
 (some (x_3.message==m2))
 (some false):Option Bool).bind fun x_4=>
 au x_4
 (some (.r (⟨p7,IntKind.wrap .i64 (i8+1)⟩:aa)))
 (some (.n (IntKind.wrap .i64 (i8+1)))))
 (some (.x ()))
def W2 (kind1 m2 p7 i8:Int) (tb3:Trace) (vb6:aa):Option (Fw Int Unit aa):=
 (aX (fun q:Int=>bu kind1 m2 p7 tb3 vb6 q) i8).bind (Fw.elim
 (fun e=>some (.n (IntKind.wrap .i64 (p7+1))))
 (fun e=>some (.r e)))
def aA (kind1 m2:Int) (tb3:Trace) (vb6:aa) (p7:Int):Option (Fw Int Unit aa):=
 au (decide (p7<(len tb3.procs)))
 (W2 kind1 m2 p7 0 tb3 vb6)
 (some (.x ()))
def W1 (kind1 m2 p7:Int) (tb3:Trace) (vb6:aa):Option aa:=
 (aX (fun q:Int=>aA kind1 m2 tb3 vb6 q) p7).bind (Fw.elim
 (fun e=>some ⟨0,0⟩)
 (fun e=>some e))
end cC
def cC (t0:Trace) (kind1 m2:Int):Option aa:=
 cC.W1 kind1 m2 0 t0 (⟨0,0⟩:aa)
open cC in
instance Of (t0:Trace) (kind1 m2:Int):Fc Sy cL (cC t0 kind1 m2):=Fc.M 87 [enc t0,.int .i64 kind1,.int .i64 m2] (cN 2 3 t0 (cM 11 (fun qW1=>(aS [Iv 1 kind1,Iv 2 m2,Pv 3,Pv 6,Iv 7 qW1] [Xb 3 t0,Xb 6 (⟨0,0⟩:aa)])) (fun eW1=>(0,(aS [Pv 6] [Xb 6 (⟨0,0⟩:aa)]))) (fun eW1=>(aS [Pv 6] [Xb 6 eW1])) (fun qW1=>bf 7 t0.procs (aI 3 14 (cM 12 (fun qW2=>(aS [Iv 1 kind1,Iv 2 m2,Pv 3,Pv 6,Iv 7 qW1,Iv 8 qW2] [Xb 3 t0,Xb 6 (⟨0,0⟩:aa)])) (fun eW2=>(2,(aS [Iv 1 kind1,Iv 2 m2,Pv 3,Pv 6,Iv 7 qW1] [Xb 3 t0,Xb 6 (⟨0,0⟩:aa)]))) (fun eW2=>(aS [Pv 6] [Xb 6 eW2])) (fun qW2=>bg 8 fun x_1 _=>bf 2 x_1.events (aI 3 25 (bg 10 fun x_2 _=>bg 3 fun x_3 _=>kB 2 9 0 x_3 (bq 9 5 [9,41] 46 (aI 9 41 (aJ 5) (aJ 5)) fun x_4=>aI 2 46 ah ah)) ah)) (fun eW2=>ah) (fun eW2=>ah)) ah)) (fun eW1=>ah) (fun eW1=>ah)))
namespace cA
def J1 (out5:Sl aa) (tb2:Trace) (xb3:aa):Option (Sl aa):=
 (qY tb2 xb3).bind fun x_1=>
 au (x_1.kind==3)
 ((cC tb2 2 x_1.message).bind fun x_2=>
 (gy out5 (x_2:aa)).bind fun x_3=>
 some x_3)
 (some out5)
end cA
def cA (t0:Trace) (x1:aa):Option (Sl aa):=
 au (decide (x1.index>1))
 (cA.J1 (Sl.row [⟨x1.proc,IntKind.wrap .i64 (x1.index-1)⟩]:Sl aa) t0 x1)
 (cA.J1 (Sl.nil:Sl aa) t0 x1)
open cA in
theorem vI (t0:Trace) (x1:aa):Le ((cA t0 x1).bind fun r=>some (bP r)) (bz Sy cL (AD (tr Tx 105)) (.rc (tb Tx 105),[],start ([enc t0,enc x1].map .v) [])):=
 cN 2 2 t0 (aI 17 9 (Mi 10 17 18 .aF (⟨x1.proc,IntKind.wrap .i64 (x1.index-1)⟩:aa) (vJ 5 (aU 4 fun x_1 _=>kB 1 6 0 x_1 (aI 10 24 (aU 6 fun x_2 _=>ot 1 2005 30 31 fun x_3 _=>ah) ah)))) (vJ 5 (aU 4 fun x_1 _=>kB 1 6 0 x_1 (aI 10 24 (aU 6 fun x_2 _=>ot 1 2005 30 31 fun x_3 _=>ah) ah))))
def kR (dir:aa→Option (Sl aa)):List (List Bool)×List aa→Option (Fw (List (List Bool)×List aa) (List (List Bool)) Empty)
 | (out,[])=>some (.x out)
 | (out,y::rest)=>if 0≤y.proc∧0≤y.index then(out[y.proc.toNat]?).bind fun row=>(row[y.index.toNat]?).bind fun b=>
  au b (some (.n (out,rest))) ((dir y).bind fun more=>if rest.length+more.l.length≤2147483648 then some (.n (out.set y.proc.toNat (row.set y.index.toNat true),rest++more.l))else none)else none
def eS (t:Trace):List (List Bool):=t.procs.l.map fun P=>List.replicate (P.events.l.length+1) false
def wT (t:Trace):Bool:=decide (t.procs.l.length≤2147483648)&&t.procs.l.all fun P=>decide (P.events.l.length+1≤2147483648)
def nested (out:List (List Bool)):Sl (Sl Bool):=if out=[]then .nil else .row (out.map .row)
def kn (t:Trace) (x:aa):Option (Sl (Sl Bool)):=
 if wT t then(cA t x).bind fun s=>(aX (kR (cA t)) (eS t,s.l)).bind (Fw.elim (fun out=>some (nested out)) (fun e=>Empty.elim e))else none
end
end Go.VE
namespace Go.VE
namespace pastX
abbrev tu:Nat→FuncId:=fun n=>n
def r1:List RO:=[o2 2 (.a .box) [0] [],o2 3 (.a .box) [1] [],o1 4 (.k (.aF)) []]
def r2:List RO:=[o1 5 (.k (.aF)) []]
def r3:List RO:=[o1 6 (.k (.int .i64 0)) []]
def r4:List RO:=[o1 11 6 [],o2 12 (fa 0) [2] [],o2 13 (ld 1) [12] [],o2 14 ln [13] [],o2 15 (bI .lss) [11,14] []]
def r5:List RO:=[o1 18 5 [],o2 19 (fa 0) [2] [],o2 20 (ld 1) [19] [],o1 21 6 [],o2 22 (ix 3) [20,21] [],o2 23 (fa 2) [22] [],o2 24 (ld 1) [23] [],o2 25 ln [24] [],o2 26 (bI .add) [25,.k (.int .i64 1)] [],o2 27 (.a (.makeSl 1 [.bool false])) [26,26] [],o2 28 (.a (.buildSl 1 1 [.aF] [0])) [27] [],o2 29 (.l (.append 1)) [18,28] [],o1 5 29 []]
def r6:List RO:=[o1 16 6 [],o2 17 (bI .add) [16,.k (.int .i64 1)] [],o1 6 17 []]
def L1:RC:=.seq (.seq (.ops r4) (.cond (.s 15) (.skip) (.exit 0))) (.seq (.block 1 (.ops r5)) (.ops r6))
def r7:List RO:=[o2 30 (lD 1) [2] [],o2 31 (lD 2) [3] [],o2 32 .c [.f 105,30,31] [],o1 7 32 []]
def r8:List RO:=[o1 33 7 [],o2 34 ln [33] [],o2 35 (bI .gtr) [34,.k (.int .i64 0)] []]
def r9:List RO:=[o1 36 7 [],o2 37 (ix 2) [36,.k (.int .i64 0)] [],o2 38 (lD 2) [37] [],o2 8 (.a (.alloc 2 [.int .i64 0,.int .i64 0])) [] [],oz (su 2) [8,38] []]
def zJ:List RO:=[o1 39 7 [],o2 40 (.p (.slice 2 true false)) [39,.k (.int .i64 1)] [],o1 7 40 []]
def BF:List RO:=[o1 41 5 [],o2 42 (fa 0) [8] [],o2 43 (ld 1) [42] [],o2 44 (ix 1) [41,43] [],o2 45 (ld 1) [44] [],o2 46 (fa 1) [8] [],o2 47 (ld 1) [46] [],on 48 (ix 1) [45,47] [],on 49 (ld 1) [48] []]
def Bs:List RO:=[o1 50 5 [],o2 51 (fa 0) [8] [],o2 52 (ld 1) [51] [],o2 53 (ix 1) [50,52] [],o2 54 (ld 1) [53] [],o2 55 (fa 1) [8] [],o2 56 (ld 1) [55] [],on 57 (ix 1) [54,56] [],oy (su 1) [57,.k (.bool true)] []]
def Bo:List RO:=[o2 58 (lD 1) [2] [],o2 59 (lD 2) [8] [],o2 60 .c [.f 105,58,59] [],o1 9 60 []]
def AA:List RO:=[o1 10 (.k (.int .i64 0)) []]
def Bq:List RO:=[o1 61 10 [],o1 62 9 [],o2 63 ln [62] [],o2 64 (bI .lss) [61,63] []]
def BX:List RO:=[o1 67 7 [],o1 68 9 [],o1 69 10 [],o2 70 (ix 2) [68,69] [],o2 71 (lD 2) [70] [],o2 72 (.a (.buildSl 2 1 [.int .i64 0,.int .i64 0] [0])) [71] [],o2 73 (.l (.append 2)) [67,72] [],o1 7 73 []]
def IM:List RO:=[o1 65 10 [],o2 66 (bI .add) [65,.k (.int .i64 1)] [],o1 10 66 []]
def L3:RC:=.seq (.seq (.ops Bq) (.cond (.s 64) (.skip) (.exit 4))) (.seq (.block 5 (.ops BX)) (.ops IM))
def L2:RC:=.seq (.seq (.ops r8) (.cond (.s 35) (.skip) (.exit 2))) (.block 3 (.seq (.ops r9) (.seq (.ops zJ) (.seq (.seq (.mm BF) (.cond (.s 49) (.exit 3) (.skip))) (.seq (.mm Bs) (.seq (.ops Bo) (.seq (.ops AA) (.block 4 (.loop L3)))))))))
def S7:List RO:=[o1 74 5 [],o1 4 74 []]
def code:RC:=.seq (.ops r1) (.seq (.ops r2) (.seq (.seq (.ops r3) (.block 0 (.loop L1))) (.seq (.ops r7) (.seq (.block 2 (.loop L2)) (.seq (.ops S7) (.ret))))))
noncomputable abbrev sC:=Go.Proofs.YtnfakljmdnbipaaGreat.E
def h_ (out:List (List Bool)):List (List V):=out.map fun r=>r.map V.bool
theorem shape:∃fi,sC.ft (tu 83)=some fi∧aM ⟨sC,some,fi.ntmps⟩ false fi.body=some code∧2≤fi.ntmps∧fi.results=[.tmp 4]:=by
 have h:((sC.ft (tu 83)).map fun fi=>(aM ⟨sC,some,fi.ntmps⟩ false fi.body,Nat.ble 2 fi.ntmps,fi.results))=some (some code,true,[.tmp 4]):=by kernel_rfl
 obtain⟨fi,h1,h2⟩:=ζf.1 h;simp only[ζc]at h2;exact⟨fi,h1,h2.1,Nat.le_of_ble_eq_true h2.2.1,h2.2.2⟩
section
variable {E:Env} {N:Nat→FuncId} {t:Trace} {x:aa} {k:Nat} {F:Frame} {H H1:ak} {call:ck} {b:Option Nat}
theorem gO {o:RO} {l:List RO} {v:V} {r:Frame×ak} (hg:o.gd=none) (hv:aG E N call b o.now o.k (o.az.map (ax N F)) H=some (v,H1)) (h:bB E N call b l (aq F o.dst v) H1=some r):bB E N call b (o::l) F H=some r:=by
 simp only[bB,hg,hv];exact h
theorem vp {o:RO} {l:List RO} {v:V} {r:Frame×ak} (hg:o.gd=none) (hv:aG E N call b o.now o.k (o.az.map (ax N F)) H=some (v,H)) (h:bB E N call b l (aq F o.dst v) H=some r):bB E N call b (o::l) F H=some r:=gO hg hv h
theorem cF:bB E N call b [] F H=some (F,H):=rfl
theorem ld1 (h:H[0]? = some (.row 1 [cells t])):dF H (.load 1 false) [.hptr 0 0 0]=some (aW t.procs):=by
 simp[dF,cS,h,Ob.rows];rfl
theorem Ut {s:Sl bl} {p:bl} {i:Nat} (h:s.l[i]? = some p):jm 3 (aW s) (i:Int)=some (.fptr (cells p)):=by
 have:=AE (N:=fun n=>n) s .i64 (i:Int) 3 rfl
 simp only[ai]at this;rw[this,show idx s (i:Int)=some p from by unfold idx;rw[if_pos (by omega)];exact h];rfl
theorem x4 (f2:get F 2=.hptr 0 0 0) (f6:get F 6=.int .i64 k) (h0:H[0]? = some (.row 1 [cells t])) :
 ∃F',bB E N call none r4 F H=some (F',H)∧get F' 15=.bool (decide (k<t.procs.l.length))∧(∀s,s<11→get F' s=get F s):=by
 refine⟨_,vp (v:=.int .i64 k) rfl ?_ <| vp (v:=.hptr 0 0 0) rfl ?_ <| vp (v:=aW t.procs) rfl ?_ <| vp (v:=.int .i64 t.procs.l.length) rfl ?_ <| vp (v:=.bool (decide (k<t.procs.l.length))) rfl ?_ cF,?_,?_⟩
 ·simp[aG,ax,ai,f6]
 ·simp[aG,ax,ai,aq,f2,fC]
 ·simp only[aG,List.map_cons,List.map_nil,ax,aq,ay,Nat.reduceEqDiff,if_true,if_false];rw[ld1 h0];rfl
 ·simp only[aG,List.map_cons,List.map_nil,ax,aq,ay,Nat.reduceEqDiff,if_true,if_false];rw[vf];rfl
 ·simp[aG,ax,ai,aq,eG,kJ]
 ·simp[aq]
 ·intro s hs;simp only[aq,ay]
  repeat (rw[if_neg (by omega)])
theorem uo {n:Nat} (h:n≤2147483648):IntKind.wrap .i64 ((n:Int)+1)=((n+1:Nat):Int):=by
 simp[IntKind.wrap,IntKind.bits,IntKind.signed];omega
theorem x5 {P:bl} {o:Nat} {ids:List Nat} {rows:List (List V)} (f2:get F 2=.hptr 0 0 0) (f6:get F 6=.int .i64 k) (h0:H[0]? = some (.row 1 [cells t])) (hP:t.procs.l[k]? = some P) (hl:P.events.l.length+1≤2147483648)
 (hn:jD H (get F 5) o ids rows) (hr:rows.length+1≤2147483648) :
 ∃F' H',bB E N call none r5 F H=some (F',H')∧jD H' (get F' 5) (H.length+2) (ids++[H.length]) (rows++[List.replicate (P.events.l.length+1) (.bool false)])∧H.length≤H'.length∧(∀id,id<H.length→id≠o∨rows=[]→H'[id]? = H[id]?)∧(∀s,s<11→s≠5→get F' s=get F s):=by
 obtain⟨H',p1,p2,p3,p4⟩:=hn.push (List.replicate (P.events.l.length+1) (.bool false)) hr;have hrep:gz (List.replicate (P.events.l.length+1) (V.bool false))=List.replicate (P.events.l.length+1) [.bool false]:=by simp[gz]
 rw[hrep,List.length_replicate]at p1;have hb:=uo (n:=P.events.l.length) (by omega)
 refine⟨_,H',vp (v:=get F 5) rfl ?_ <| vp (v:=.hptr 0 0 0) rfl ?_ <| vp (v:=aW t.procs) rfl ?_ <| vp (v:=.int .i64 k) rfl ?_ <| vp (v:=.fptr (cells P)) rfl ?_ <| vp (v:=.fptr [aW P.events]) rfl ?_ <| vp (v:=aW P.events) rfl ?_ <|
  vp (v:=.int .i64 P.events.l.length) rfl ?_ <| vp (v:=.int .i64 ((P.events.l.length+1:Nat):Int)) rfl ?_ <| gO (v:=.hsl H.length 1 0 (P.events.l.length+1)) (H1:=H++[.row 1 (List.replicate (P.events.l.length+1) [.bool false])]) rfl ?_ <|
  gO (v:=.hsl (H.length+1) 1 0 1) (H1:=H++[.row 1 (List.replicate (P.events.l.length+1) [.bool false])]++[.row 1 [[.hsl H.length 1 0 (P.events.l.length+1)]]]) rfl ?_ <|
  gO (v:=.hsl (H.length+2) 1 0 (rows.length+1)) (H1:=H') rfl ?_ <| vp (v:=.hsl (H.length+2) 1 0 (rows.length+1)) rfl ?_ cF,?_,p3,p4,?_⟩
 ·simp[aG,ax,ai]
 ·simp[aG,ax,ai,aq,f2,fC]
 ·simp only[aG,List.map_cons,List.map_nil,ax,aq,ay,Nat.reduceEqDiff,if_true,if_false];rw[ld1 h0];rfl
 ·simp[aG,ax,ai,aq,f6]
 ·simp only[aG,List.map_cons,List.map_nil,ax,aq,ay,Nat.reduceEqDiff,if_true,if_false,ai];rw[Ut hP];rfl
 ·simp only[aG,List.map_cons,List.map_nil,ax,aq,ay,Nat.reduceEqDiff,if_true,if_false,ai];rfl
 ·simp only[aG,List.map_cons,List.map_nil,ax,aq,ay,Nat.reduceEqDiff,if_true,if_false];rfl
 ·simp only[aG,List.map_cons,List.map_nil,ax,aq,ay,Nat.reduceEqDiff,if_true,if_false];rw[vf];rfl
 ·simp only[aG,List.map_cons,List.map_nil,ax,aq,ay,Nat.reduceEqDiff,if_true,if_false,ai,eG];rw[hb];rfl
 ·simp only[aG,List.map_cons,List.map_nil,ax,aq,ay,Nat.reduceEqDiff,if_true,if_false,iK];rw[if_pos ⟨trivial,trivial,by omega,by omega,by omega⟩]
  simp only[Option.map_some,Mk.val,Int.toNat_natCast]
 ·simp only[aG,List.map_cons,List.map_nil,ax,aq,ay,Nat.reduceEqDiff,if_true,if_false,iK];simp[fm,V.cells,V.one,Mk.val]
 ·simp only[aG,List.map_cons,List.map_nil,ax,aq,ay,Nat.reduceEqDiff,if_true,if_false];exact p1
 ·simp[aG,ax,ai,aq]
 ·simp only[aq,ay,if_true];exact p2
 ·intro s hs h5;simp only[aq,ay];rw[if_neg (Ne.symm h5)]
  repeat (rw[if_neg (by omega)])
theorem x6 (f6:get F 6=.int .i64 k) (hk:k≤2147483648):∃F',bB E N call none r6 F H=some (F',H)∧get F' 6=.int .i64 ((k+1:Nat):Int)∧(∀s,s<11→s≠6→get F' s=get F s):=by
 have hb:=uo hk;refine⟨_,vp (v:=.int .i64 k) rfl ?_ <| vp (v:=.int .i64 ((k+1:Nat):Int)) rfl ?_ <| vp (v:=.int .i64 ((k+1:Nat):Int)) rfl ?_ cF,?_,?_⟩
 ·simp[aG,ax,ai,f6]
 ·simp only[aG,List.map_cons,List.map_nil,ax,aq,ay,Nat.reduceEqDiff,if_true,if_false,ai,eG];rw[hb];rfl
 ·simp[aG,ax,ai,aq]
 ·simp[aq]
 ·intro s hs h6;simp only[aq,ay];rw[if_neg (Ne.symm h6)]
  repeat (rw[if_neg (by omega)])
end
structure P1 (t:Trace) (x:aa) (k:Nat) (F:Frame) (H:ak):Prop where
 f2:get F 2=.hptr 0 0 0
 f3:get F 3=.hptr 1 0 0
 f6:get F 6=.int .i64 k
 h0:H[0]? = some (.row 1 [cells t])
 h1:H[1]? = some (.row 2 [cells x])
 ns:∃o ids,jD H (get F 5) o ids (h_ ((eS t).take k))∧(k≠0→2≤o)∧∀id∈ids,2≤id
theorem sN (out:List (List Bool)):(h_ out).length=out.length:=by simp[h_]
theorem Fp {E:Env} {N:Nat→FuncId} {t:Trace} {x:aa} (hok:wT t=true):∀(m k:Nat) (F:Frame) (H:ak),k+m=t.procs.l.length→P1 t x k F H→∃F' H',jt E N L1 F H (.exit 0) F' H'∧P1 t x t.procs.l.length F' H':=by
 have hok':t.procs.l.length≤2147483648∧∀P∈t.procs.l,P.events.l.length+1≤2147483648:=by
  simpa [wT]using hok
 intro m
 induction m with
 | zero=>
  intro k F H hk p;have hk':k=t.procs.l.length:=by omega
  obtain⟨F1,e1,e2,e3⟩:=x4 (E:=E) (N:=N) (call:=fun _ _ _=>none) p.f2 p.f6 p.h0
  refine⟨F1,H,jt.stop (Ex.qu (Ex.seq (Ex.bN fun c=>?_) (Ex.lZ ?_ Ex.exit)) (by simp)) (by simp),?_⟩
  ·obtain⟨F2,g1,_,_⟩:=x4 (E:=E) (N:=N) (call:=c) p.f2 p.f6 p.h0;have:bB E N c none r4 F H=bB E N (fun _ _ _=>none) none r4 F H:=rfl
   rw[this];exact e1
  ·show get F1 15=_;rw[e2];simp[hk']
  ·subst hk';exact⟨by rw[e3 2 (by omega)];exact p.f2,by rw[e3 3 (by omega)];exact p.f3,by rw[e3 6 (by omega)];exact p.f6,p.h0,p.h1,by rw[e3 5 (by omega)];exact p.ns⟩
 | succ m ih=>
  intro k F H hk p;have hkl:k<t.procs.l.length:=by omega
  obtain⟨o,ids,n1,n2,n3⟩:=p.ns;obtain⟨F1,e1,e2,e3⟩:=x4 (E:=E) (N:=N) (call:=fun _ _ _=>none) p.f2 p.f6 p.h0
  have hP:=ζd hkl;have hlen:((eS t).take k).length=k:=by simp[eS];omega
  have n1':jD H (get F1 5) o ids (h_ ((eS t).take k)):=by rw[e3 5 (by omega)];exact n1
  obtain⟨F2,H2,g1,g2,g3,g4,g5⟩:=x5 (E:=E) (N:=N) (call:=fun _ _ _=>none) (by rw[e3 2 (by omega)];exact p.f2) (by rw[e3 6 (by omega)];exact p.f6) p.h0 hP (hok'.2 _ (List.getElem_mem hkl)) n1' (by rw[sN,hlen];omega)
  obtain⟨F3,q1,q2,q3⟩:=x6 (E:=E) (N:=N) (call:=fun _ _ _=>none) (H:=H2) (k:=k) (F:=F2) (by rw[g5 6 (by omega) (by omega),e3 6 (by omega)];exact p.f6) (by omega)
  have hl:=n1.lt;have h0l:=(ζe.1 p.h0).1;have h1l:=(ζe.1 p.h1).1;have hkeep:∀i,i<2→i<H.length→H2[i]? = H[i]? := fun i hi hl=>g4 i hl (by
   by_cases hk0:k=0
   ·subst hk0;right;simp[h_]
   ·left;have:=n2 hk0;omega)
  have hp3:P1 t x (k+1) F3 H2:=by
   refine⟨by rw[q3 2 (by omega) (by omega),g5 2 (by omega) (by omega),e3 2 (by omega)];exact p.f2,by rw[q3 3 (by omega) (by omega),g5 3 (by omega) (by omega),e3 3 (by omega)];exact p.f3,q2,
    by rw[hkeep 0 (by omega) h0l];exact p.h0,by rw[hkeep 1 (by omega) h1l];exact p.h1,H.length+2,ids++[H.length],?_,fun _=>by omega,fun id hid=>?_⟩
   ·rw[q3 5 (by omega) (by omega)]
    have hrows:h_ ((eS t).take (k+1))=h_ ((eS t).take k)++[List.replicate (t.procs.l[k].events.l.length+1) (.bool false)]:=by
     rw[List.take_add_one];have:(eS t)[k]? = some (List.replicate (t.procs.l[k].events.l.length+1) false):=by simp[eS,hP]
     rw[this];simp[h_]
    rw[hrows];exact g2
   ·rcases List.mem_append.1 hid with h|h
    ·exact n3 id h
    ·simp at h;omega
  obtain⟨F',H',r1,r2⟩:=ih (k+1) F3 H2 (by omega) hp3
  refine⟨F',H',jt.step (Ex.seq (Ex.seq (Ex.bN fun c=>e1) (Ex.kf ?_ Ex.skip)) (Ex.seq (Ex.block (Ex.bN fun c=>g1)) (Ex.bN fun c=>q1))) r1,r2⟩
  show get F1 15=_;rw[e2];simp[hkl]
section
variable {E:Env} {N:Nat→FuncId} {t:Trace} {x y:aa} {F:Frame} {H:ak} {call:ck}
theorem x8 {l:List (List V)} {id:Nat} (h:iC H (get F 7) l id):∃F',bB E N call none r8 F H=some (F',H)∧get F' 35=.bool (decide (0<l.length))∧(∀s,s<11→get F' s=get F s):=by
 refine⟨_,vp (v:=get F 7) rfl ?_ <| vp (v:=.int .i64 l.length) rfl ?_ <| vp (v:=.bool (decide (0<l.length))) rfl ?_ cF,?_,?_⟩
 ·simp[aG,ax,ai]
 ·simp only[aG,List.map_cons,List.map_nil,ax,aq,ay,Nat.reduceEqDiff,if_true,if_false,ai,h.len,Option.map_some]
 ·simp[aG,ax,ai,aq,eG,kJ]
 ·simp[aq]
 ·intro s hs;simp only[aq,ay]
  repeat (rw[if_neg (by omega)])
theorem x9 {l:List (List V)} {id:Nat} (h:iC H (get F 7) (cells y::l) id):∃F',bB E N call none r9 F H=some (F',H++[.row 2 [cells y]])∧get F' 8=.hptr H.length 0 0∧(∀s,s<11→s≠8→get F' s=get F s):=by
 obtain⟨p,p1,p2⟩:=h.get (i:=0) (c:=cells y) rfl;refine⟨_,vp (v:=get F 7) rfl ?_ <| vp (v:=p) rfl ?_ <| vp (v:=.agg (cells y)) rfl ?_ <| gO (v:=.hptr H.length 0 0) (H1:=H++[.row 2 [[.int .i64 0,.int .i64 0]]]) rfl ?_ <| gO (v:=.undef) (H1:=H++[.row 2 [cells y]]) rfl ?_ cF,?_,?_⟩
 ·simp[aG,ax,ai]
 ·simp only[aG,List.map_cons,List.map_nil,ax,aq,ay,Nat.reduceEqDiff,if_true,if_false,ai];rw[show (0:Int)=((0:Nat):Int)from rfl,p1];rfl
 ·simp only[aG,List.map_cons,List.map_nil,ax,aq,ay,Nat.reduceEqDiff,if_true,if_false];rw[p2];rfl
 ·simp only[aG,List.map_cons,List.map_nil,ax,aq,ay,Nat.reduceEqDiff,if_true,if_false,iK,Option.map_some,Mk.val]
 ·simp only[aG,List.map_cons,List.map_nil,ax,aq,ay,Nat.reduceEqDiff,if_true,if_false];simp[dD,V.cells,V.one]
 ·simp[aq]
 ·intro s hs h8;simp only[aq,ay];rw[if_neg (Ne.symm h8)]
  repeat (rw[if_neg (by omega)])
theorem UL {c:List V} {l:List (List V)} {id:Nat} (h:iC H (get F 7) (c::l) id):∃F',bB E N call none zJ F H=some (F',H)∧iC H (get F' 7) l id∧(∃off m off',get F 7=.hsl id 2 off m∧get F' 7=.hsl id 2 off' l.length)∧(∀s,s<11→s≠7→get F' s=get F s):=by
 obtain⟨w',p1,p2,off,m,off',p3,p4⟩:=h.tail;refine⟨_,vp (v:=get F 7) rfl ?_ <| vp (v:=w') rfl ?_ <| vp (v:=w') rfl ?_ cF,?_,⟨off,m,off',p3,?_⟩,?_⟩
 ·simp[aG,ax,ai]
 ·simp only[aG,List.map_cons,List.map_nil,ax,aq,ay,Nat.reduceEqDiff,if_true,if_false,ai,jc,ζb,p1,Option.map_some]
 ·simp[aG,ax,ai,aq]
 ·simp only[aq,ay,if_true];exact p2
 ·simp only[aq,ay,if_true];exact p4
 ·intro s hs h8;simp only[aq,ay];rw[if_neg (Ne.symm h8)]
  repeat (rw[if_neg (by omega)])
theorem hU (H:ak):H.take H.length=H:=List.take_length ..
theorem QV {c:Nat} (hc:H[c]? = some (.row 2 [cells y])):dF H (.load 1 false) [.hptr c 0 0]=some (.int .i64 y.proc)∧dF H (.load 1 false) [.hptr c 0 1]=some (.int .i64 y.index)∧dF H (.load 2 true) [.hptr c 0 0]=some (enc y):=by
 refine⟨?_,?_,?_⟩ <;> simp[dF,cS,hc,Ob.rows,cut] <;> rfl
theorem Qd {c o:Nat} {ids:List Nat} {rows:List (List V)} {p j:Nat} {r:List V} {u:V} (f8:get F 8=.hptr c 0 0) (hc:H[c]? = some (.row 2 [cells y])) (hn:jD H (get F 5) o ids rows) (hp:y.proc=p) (hj:y.index=j) (hr:rows[p]? = some r) (hu:r[j]? = some u) :
 ∃F',bB E N call (some H.length) BF F H=some (F',H)∧get F' 49=u∧(∀s,s<11→get F' s=get F s):=by
 obtain⟨id,q0,q1,q2,q3,q4⟩:=hn.cell hr hu;obtain⟨c1,c2,_⟩:=QV hc;rw[hp]at c1;rw[hj]at c2;refine⟨_,vp (v:=get F 5) rfl ?_ <| vp (v:=.hptr c 0 0) rfl ?_ <| vp (v:=.int .i64 p) rfl ?_ <| vp (v:=.hptr o p 0) rfl ?_ <| vp (v:=.hsl id 1 0 r.length) rfl ?_ <| vp (v:=.hptr c 0 1) rfl ?_ <| vp (v:=.int .i64 j) rfl ?_ <| vp (v:=.hptr id j 0) rfl ?_ <| vp (v:=u) rfl ?_ cF,?_,?_⟩
 ·simp[aG,ax,ai]
 ·simp[aG,ax,ai,aq,f8,fC]
 ·simp only[aG,List.map_cons,List.map_nil,ax,aq,ay,Nat.reduceEqDiff,if_true,if_false,hU];rw[c1];rfl
 ·simp only[aG,List.map_cons,List.map_nil,ax,aq,ay,Nat.reduceEqDiff,if_true,if_false,ai];rw[q1];rfl
 ·simp only[aG,List.map_cons,List.map_nil,ax,aq,ay,Nat.reduceEqDiff,if_true,if_false,hU];rw[q2];rfl
 ·simp[aG,ax,ai,aq,f8,fC]
 ·simp only[aG,List.map_cons,List.map_nil,ax,aq,ay,Nat.reduceEqDiff,if_true,if_false,hU];rw[c2];rfl
 ·simp only[aG,List.map_cons,List.map_nil,ax,aq,ay,Nat.reduceEqDiff,if_true,if_false,ai];rw[q3];rfl
 ·simp only[aG,List.map_cons,List.map_nil,ax,aq,ay,Nat.reduceEqDiff,if_true,if_false,hU];rw[q4];rfl
 ·simp[aq]
 ·intro s hs;simp only[aq,ay]
  repeat (rw[if_neg (by omega)])
theorem UI {c o:Nat} {ids:List Nat} {rows:List (List V)} {p j:Nat} {r:List V} {u:V} (f8:get F 8=.hptr c 0 0) (hc:H[c]? = some (.row 2 [cells y])) (hn:jD H (get F 5) o ids rows) (hp:y.proc=p) (hj:y.index=j) (hr:rows[p]? = some r) (hu:r[j]? = some u) :
 ∃F' H',bB E N call (some H.length) Bs F H=some (F',H')∧jD H' (get F' 5) o ids (rows.set p (r.set j (.bool true)))∧H'.length=H.length∧(∀i,i∉ids→H'[i]? = H[i]?)∧(∀s,s<11→get F' s=get F s):=by
 obtain⟨id,q0,q1,q2,q3,q4⟩:=hn.cell hr hu;obtain⟨c1,c2,_⟩:=QV hc;rw[hp]at c1;rw[hj]at c2;obtain⟨H',s1,s2,s3,s4⟩:=hn.set hr (ζe.1 hu).1 q0 (u:=.bool true) rfl rfl;refine⟨_,H',vp (v:=get F 5) rfl ?_ <| vp (v:=.hptr c 0 0) rfl ?_ <| vp (v:=.int .i64 p) rfl ?_ <| vp (v:=.hptr o p 0) rfl ?_ <| vp (v:=.hsl id 1 0 r.length) rfl ?_ <| vp (v:=.hptr c 0 1) rfl ?_ <| vp (v:=.int .i64 j) rfl ?_ <| vp (v:=.hptr id j 0) rfl ?_ <| gO (v:=.undef) (H1:=H') rfl ?_ cF,?_,s3,fun i hi=>s4 i fun e=>hi (e▸List.mem_of_getElem? q0),?_⟩
 ·simp[aG,ax,ai]
 ·simp[aG,ax,ai,aq,f8,fC]
 ·simp only[aG,List.map_cons,List.map_nil,ax,aq,ay,Nat.reduceEqDiff,if_true,if_false,hU];rw[c1];rfl
 ·simp only[aG,List.map_cons,List.map_nil,ax,aq,ay,Nat.reduceEqDiff,if_true,if_false,ai];rw[q1];rfl
 ·simp only[aG,List.map_cons,List.map_nil,ax,aq,ay,Nat.reduceEqDiff,if_true,if_false,hU];rw[q2];rfl
 ·simp[aG,ax,ai,aq,f8,fC]
 ·simp only[aG,List.map_cons,List.map_nil,ax,aq,ay,Nat.reduceEqDiff,if_true,if_false,hU];rw[c2];rfl
 ·simp only[aG,List.map_cons,List.map_nil,ax,aq,ay,Nat.reduceEqDiff,if_true,if_false,ai];rw[q3];rfl
 ·simp only[aG,List.map_cons,List.map_nil,ax,aq,ay,Nat.reduceEqDiff,if_true,if_false,s1]
 ·simp only[aq,ay,Nat.reduceEqDiff,if_false];exact s2
 ·intro s hs;simp only[aq,ay]
  repeat (rw[if_neg (by omega)])
def Ck (E:Env) (N:Nat→FuncId) (t:Trace) (dir:aa→Option (Sl aa)):Prop:=∀(y:aa) (s:Sl aa) (H:ak),dir y=some s →
 ∃w X id,(∃n,∀k,n≤k→dG E (run E k) (N 105) [enc t,enc y] H=some (w,H++X))∧iC (H++X) w (s.l.map cells) id∧(∀off m,w=.hsl id 2 off m→id=H.length)
theorem TV {a d:Nat} (hd:E.keep (N 105)=true) {dir:aa→Option (Sl aa)} (hD:Ck E N t dir) {s:Sl aa} (hs:dir y=some s) (f2:get F 2=.hptr 0 0 0) (h0:H[0]? = some (.row 1 [cells t])) {c:Nat} (hc:H[c]? = some (.row 2 [cells y])) :
 ∃w X id,iC (H++X) w (s.l.map cells) id∧(∀off m,w=.hsl id 2 off m→id=H.length) ∧
  (get F 8=.hptr c 0 0→∃F',(∃n,∀k,n≤k→bB E N (run E k) none Bo F H=some (F',H++X))∧get F' 9=w∧(∀s,s<11→s≠9→get F' s=get F s)) ∧
  (get F 3=.hptr c 0 0→∃F',(∃n,∀k,n≤k→bB E N (run E k) none r7 F H=some (F',H++X))∧get F' 7=w∧(∀s,s<11→s≠7→get F' s=get F s)):=by
 obtain⟨w,X,id,⟨n,e1⟩,e2,e3⟩:=hD y s H hs;have ht:dF H (.load 1 true) [.hptr 0 0 0]=some (enc t):=by
  simp[dF,cS,h0,Ob.rows,cut];rfl
 obtain⟨_,_,hy⟩:=QV hc;refine⟨w,X,id,e2,e3,fun f8=>⟨_,⟨n,fun k hk=>vp (v:=enc t) rfl ?_ <| vp (v:=enc y) rfl ?_ <| gO (v:=w) (H1:=H++X) rfl ?_ <| vp (v:=w) rfl ?_ cF⟩,?_,?_⟩,fun f3=>⟨_,⟨n,fun k hk=>vp (v:=enc t) rfl ?_ <| vp (v:=enc y) rfl ?_ <| gO (v:=w) (H1:=H++X) rfl ?_ <| vp (v:=w) rfl ?_ cF⟩,?_,?_⟩⟩
 ·simp only[aG,List.map_cons,List.map_nil,ax,f2];rw[ht];rfl
 ·simp only[aG,List.map_cons,List.map_nil,ax,aq,ay,Nat.reduceEqDiff,if_true,if_false,f8];rw[hy];rfl
 ·simp only[aG,List.map_cons,List.map_nil,ax,aq,ay,Nat.reduceEqDiff,if_true,if_false,hd,List.nil_append,List.append_nil];exact e1 k hk
 ·simp[aG,ax,ai,aq]
 ·simp[aq]
 ·intro s hs h9;simp only[aq,ay];rw[if_neg (Ne.symm h9)]
  repeat (rw[if_neg (by omega)])
 ·simp only[aG,List.map_cons,List.map_nil,ax,f2];rw[ht];rfl
 ·simp only[aG,List.map_cons,List.map_nil,ax,aq,ay,Nat.reduceEqDiff,if_true,if_false,f3];rw[hy];rfl
 ·simp only[aG,List.map_cons,List.map_nil,ax,aq,ay,Nat.reduceEqDiff,if_true,if_false,hd,List.nil_append,List.append_nil];exact e1 k hk
 ·simp[aG,ax,ai,aq]
 ·simp[aq]
 ·intro s hs h9;simp only[aq,ay];rw[if_neg (Ne.symm h9)]
  repeat (rw[if_neg (by omega)])
end
section
variable {E:Env} {N:Nat→FuncId} {F:Frame} {H:ak} {call:ck} {i:Nat}
theorem Lx {l:List (List V)} {id:Nat} (f10:get F 10=.int .i64 i) (h:iC H (get F 9) l id):∃F',bB E N call none Bq F H=some (F',H)∧get F' 64=.bool (decide (i<l.length))∧(∀s,s<11→get F' s=get F s):=by
 refine⟨_,vp (v:=.int .i64 i) rfl ?_ <| vp (v:=get F 9) rfl ?_ <| vp (v:=.int .i64 l.length) rfl ?_ <| vp (v:=.bool (decide (i<l.length))) rfl ?_ cF,?_,?_⟩
 ·simp[aG,ax,ai,f10]
 ·simp[aG,ax,ai,aq]
 ·simp only[aG,List.map_cons,List.map_nil,ax,aq,ay,Nat.reduceEqDiff,if_true,if_false,ai,h.len,Option.map_some]
 ·simp[aG,ax,ai,aq,eG,kJ]
 ·simp[aq]
 ·intro s hs;simp only[aq,ay]
  repeat (rw[if_neg (by omega)])
theorem UF {l l9:List (List V)} {id id9:Nat} {c:List V} (f10:get F 10=.int .i64 i) (h:iC H (get F 7) l id) (h9:iC H (get F 9) l9 id9) (hc:l9[i]? = some c) (hl:l.length+1≤2147483648) :
 ∃F' H',bB E N call none BX F H=some (F',H')∧iC H' (get F' 7) (l++[c]) (H.length+1)∧H'.length=H.length+2∧(∀i,i<H.length→(∀off m,get F 7=.hsl id 2 off m→i≠id)→H'[i]? = H[i]?)∧(∀s,s<11→s≠7→get F' s=get F s):=by
 have hcc:=h9.c c (List.mem_of_getElem? hc);obtain⟨p,p1,p2⟩:=h9.get hc;obtain⟨H',q1,q2,q3,q4⟩:=h.push hcc hl;refine⟨_,H',vp (v:=get F 7) rfl ?_ <| vp (v:=get F 9) rfl ?_ <| vp (v:=.int .i64 i) rfl ?_ <| vp (v:=p) rfl ?_ <| vp (v:=.agg c) rfl ?_ <| gO (v:=.hsl H.length 2 0 1) (H1:=H++[.row 2 [c]]) rfl ?_ <| gO (v:=.hsl (H.length+1) 2 0 (l.length+1)) (H1:=H') rfl ?_ <| vp (v:=.hsl (H.length+1) 2 0 (l.length+1)) rfl ?_ cF,?_,q3,q4,?_⟩
 ·simp[aG,ax,ai]
 ·simp[aG,ax,ai,aq]
 ·simp[aG,ax,ai,aq,f10]
 ·simp only[aG,List.map_cons,List.map_nil,ax,aq,ay,Nat.reduceEqDiff,if_true,if_false,ai];rw[p1];rfl
 ·simp only[aG,List.map_cons,List.map_nil,ax,aq,ay,Nat.reduceEqDiff,if_true,if_false];rw[p2];rfl
 ·simp only[aG,List.map_cons,List.map_nil,ax,aq,ay,Nat.reduceEqDiff,if_true,if_false,iK];have h2:c.all V.one=true:=hcc.2;simp[fm,V.cells,hcc.1,Mk.val];exact fun a ha=>List.all_eq_true.1 h2 a ha
 ·simp only[aG,List.map_cons,List.map_nil,ax,aq,ay,Nat.reduceEqDiff,if_true,if_false];exact q1
 ·simp[aG,ax,ai,aq]
 ·simp only[aq,ay,if_true];exact q2
 ·intro s hs h8;simp only[aq,ay];rw[if_neg (Ne.symm h8)]
  repeat (rw[if_neg (by omega)])
theorem UK (f10:get F 10=.int .i64 i) (hk:i≤2147483648):∃F',bB E N call none IM F H=some (F',H)∧get F' 10=.int .i64 ((i+1:Nat):Int)∧(∀s,s<11→s≠10→get F' s=get F s):=by
 have hb:=uo hk;refine⟨_,vp (v:=.int .i64 i) rfl ?_ <| vp (v:=.int .i64 ((i+1:Nat):Int)) rfl ?_ <| vp (v:=.int .i64 ((i+1:Nat):Int)) rfl ?_ cF,?_,?_⟩
 ·simp[aG,ax,ai,f10]
 ·simp only[aG,List.map_cons,List.map_nil,ax,aq,ay,Nat.reduceEqDiff,if_true,if_false,ai,eG];rw[hb];rfl
 ·simp[aG,ax,ai,aq]
 ·simp[aq]
 ·intro s hs h6;simp only[aq,ay];rw[if_neg (Ne.symm h6)]
  repeat (rw[if_neg (by omega)])
structure P3 (l l9:List (List V)) (B i:Nat) (F:Frame) (H:ak):Prop where
 f10:get F 10=.int .i64 i
 t9:∃id9,iC H (get F 9) l9 id9∧∃id,iC H (get F 7) l id∧(∀off m,get F 7=.hsl id 2 off m→B≤id∧∀off' m',get F 9=.hsl id9 2 off' m'→id≠id9)
 len:B≤H.length
theorem Sf (l9:List (List V)) (B:Nat) (hl9:l9.length≤2147483648):∀(m i:Nat) (l:List (List V)) (F:Frame) (H:ak),i+m=l9.length→l.length+m≤2147483648→P3 l l9 B i F H →
 ∃F' H',jt E N L3 F H (.exit 4) F' H'∧(∃id,iC H' (get F' 7) (l++l9.drop i) id∧∀off m,get F' 7=.hsl id 2 off m→B≤id)∧(∀s,s<7→get F' s=get F s)∧(∀j,j<B→H'[j]? = H[j]?)∧H.length≤H'.length:=by
 intro m
 induction m with
 | zero=>
  intro i l F H hi hl p;obtain⟨id9,t9,id,t7,ap⟩:=p.t9;obtain⟨F1,e1,e2,e3⟩:=Lx (E:=E) (N:=N) (call:=fun _ _ _=>none) p.f10 t9
  refine⟨F1,H,jt.stop (Ex.qu (Ex.seq (Ex.bN fun c=>e1) (Ex.lZ ?_ Ex.exit)) (by simp)) (by simp),⟨id,?_,fun off m h=>?_⟩,fun s hs=>e3 s (by omega),fun _ _=>rfl,Nat.le_refl _⟩
  ·show get F1 64=_;rw[e2];simp;omega
  ·rw[e3 7 (by omega),List.drop_of_length_le (by omega),List.append_nil];exact t7
  ·rw[e3 7 (by omega)]at h;exact(ap off m h).1
 | succ m ih=>
  intro i l F H hi hl p;have hil:i<l9.length:=by omega
  obtain⟨id9,t9,id,t7,ap⟩:=p.t9;obtain⟨F1,e1,e2,e3⟩:=Lx (E:=E) (N:=N) (call:=fun _ _ _=>none) p.f10 t9
  have hc:=ζd hil;have t7':iC H (get F1 7) l id:=by rw[e3 7 (by omega)];exact t7
  have t9':iC H (get F1 9) l9 id9:=by rw[e3 9 (by omega)];exact t9
  obtain⟨F2,H2,g1,g2,g3,g4,g5⟩:=UF (E:=E) (N:=N) (call:=fun _ _ _=>none) (by rw[e3 10 (by omega)];exact p.f10) t7' t9' hc (by omega)
  obtain⟨F3,q1,q2,q3⟩:=UK (E:=E) (N:=N) (call:=fun _ _ _=>none) (H:=H2) (i:=i) (F:=F2) (by rw[g5 10 (by omega) (by omega),e3 10 (by omega)];exact p.f10) (by omega)
  have keep:∀j,j<H.length→(∀off m,get F 7=.hsl id 2 off m→j≠id)→H2[j]? = H[j]? := fun j hj h=>g4 j hj (by rw[e3 7 (by omega)];exact h)
  have hp3:P3 (l++[l9[i]]) l9 B (i+1) F3 H2:=by
   refine⟨q2,⟨id9,?_,H.length+1,by rw[q3 7 (by omega) (by omega)];exact g2,fun off m h=>⟨by have:=p.len;omega,fun off' m' h'=>?_⟩⟩,by have:=p.len;omega⟩
   ·rw[q3 9 (by omega) (by omega),g5 9 (by omega) (by omega),e3 9 (by omega)]
    exact t9.heap fun off n hw=>keep id9 (t9.lt hw) fun off' m' hw'=>Ne.symm ((ap off' m' hw').2 off n hw)
   ·rw[q3 9 (by omega) (by omega),g5 9 (by omega) (by omega),e3 9 (by omega)]at h'
    have:=t9.lt h';omega
  obtain⟨F',H',r1,⟨id',r2,r3⟩,r4,r5,r6⟩:=ih (i+1) (l++[l9[i]]) F3 H2 (by omega) (by simp;omega) hp3
  refine⟨F',H',jt.step (Ex.seq (Ex.seq (Ex.bN fun c=>e1) (Ex.kf ?_ Ex.skip)) (Ex.seq (Ex.block (Ex.bN fun c=>g1)) (Ex.bN fun c=>q1))) r1,⟨id',?_,r3⟩,fun s hs=>?_,fun j hj=>?_,by omega⟩
  ·show get F1 64=_;rw[e2];simp[hil]
  ·rw[List.append_assoc]at r2;rw[List.drop_eq_getElem_cons hil];exact r2
  ·rw[r4 s hs,q3 s (by omega) (by omega),g5 s (by omega) (by omega),e3 s (by omega)]
  ·have:=p.len;rw[r5 j hj,keep j (by omega) fun off m h=>by have:=(ap off m h).1;omega]
end
structure P2 (t:Trace) (out:List (List Bool)) (l:List aa) (F:Frame) (H:ak):Prop where
 f2:get F 2=.hptr 0 0 0
 h0:H[0]? = some (.row 1 [cells t])
 ns:∃B o ids id,jD H (get F 5) o ids (h_ out)∧(out≠[]→1≤o∧o<B)∧(∀id∈ids,1≤id∧id<B)∧1≤B∧B≤H.length∧iC H (get F 7) (l.map cells) id∧∀off m,get F 7=.hsl id 2 off m→B≤id
theorem Ju (out:List (List Bool)) (p j:Nat) (row:List Bool):h_ (out.set p (row.set j true))=(h_ out).set p ((row.map V.bool).set j (.bool true)):=by
 simp[h_,List.map_set]
theorem Dm {out:List (List Bool)}:h_ out=[]↔out=[]:=by simp[h_]
theorem KB {dir:aa→Option (Sl aa)} {out:List (List Bool)} {y:aa} {rest:List aa} {w:Fw (List (List Bool)×List aa) (List (List Bool)) Empty} (h:kR dir (out,y::rest)=some w) :
 ∃(p j:Nat) (row:List Bool) (b:Bool),y.proc=p∧y.index=j∧out[p]? = some row∧row[j]? = some b∧((b=true∧w=.n (out,rest))∨(b=false∧∃more,dir y=some more∧rest.length+more.l.length≤2147483648∧w=.n (out.set p (row.set j true),rest++more.l))):=by
 simp only[kR]at h;split at h
 ·rename_i hy;obtain⟨row,h1,h⟩:=ζg.1 h;obtain⟨b,h2,h⟩:=ζg.1 h;refine⟨y.proc.toNat,y.index.toNat,row,b,by omega,by omega,h1,h2,?_⟩
  cases b with
  | true=>left;simp only[au]at h;exact⟨rfl,by simpa using h.symm⟩
  | false=>
   right;simp only[au,Bool.false_eq_true,if_false]at h;obtain⟨more,h3,h⟩:=ζg.1 h;split at h
   ·rename_i hl;exact⟨rfl,more,h3,hl,by simpa using h.symm⟩
   ·cases h
 ·cases h
theorem Gk {E:Env} {N:Nat→FuncId} {t:Trace} {dir:aa→Option (Sl aa)} (hd:E.keep (N 105)=true) (hD:Ck E N t dir):∀(k:Nat) (out:List (List Bool)) (l:List aa) (out':List (List Bool)) (F:Frame) (H:ak),
 gK (kR dir) k (out,l)=some (.x out')→P2 t out l F H→∃F' H',jt E N L2 F H (.exit 2) F' H'∧P2 t out' [] F' H':=by
 intro k
 induction k with
 | zero=>intro out l out' F H h;simp[gK]at h
 | succ k ih=>
  intro out l out' F H h p;obtain⟨B,o,ids,id,n1,n2,n3,n4,n5,t7,t8⟩:=p.ns;obtain⟨F1,e1,e2,e3⟩:=x8 (E:=E) (N:=N) (call:=fun _ _ _=>none) t7
  rw[List.length_map]at e2
  cases l with
  | nil=>
   simp only[gK,kR]at h;cases h;refine⟨F1,H,jt.stop (Ex.qu (Ex.seq (Ex.bN fun c=>e1) (Ex.lZ ?_ Ex.exit)) (by simp)) (by simp),?_⟩
   ·show get F1 35=_;rw[e2];simp
   ·exact⟨by rw[e3 2 (by omega)];exact p.f2,p.h0,B,o,ids,id,by rw[e3 5 (by omega)];exact n1,n2,n3,n4,n5,by rw[e3 7 (by omega)];exact t7,by rw[e3 7 (by omega)];exact t8⟩
  | cons y rest=>
   simp only[gK]at h
   cases hst:kR dir (out,y::rest)with
   | none=>rw[hst]at h;cases h
   | some w=>
   rw[hst]at h;obtain⟨q,j,row,b,hq,hj,hrow,hb,hcase⟩:=KB hst;have t7':iC H (get F1 7) (cells y::rest.map cells) id:=by rw[e3 7 (by omega)];exact t7
   obtain⟨F2,g1,g2,g3⟩:=x9 (E:=E) (N:=N) (call:=fun _ _ _=>none) t7'
   have t7'':iC (H++[.row 2 [cells y]]) (get F2 7) (cells y::rest.map cells) id:=by rw[g3 7 (by omega) (by omega)];exact t7'.more _
   obtain⟨F3,i1,i2,⟨off1,m1,off2,i3,i4⟩,i5⟩:=UL (E:=E) (N:=N) (call:=fun _ _ _=>none) t7''
   have hcl:(H++[Ob.row 2 [cells y]])[H.length]? = some (.row 2 [cells y]):=by simp
   have f8:get F3 8=.hptr H.length 0 0:=by rw[i5 8 (by omega) (by omega)];exact g2
   have f5:get F3 5=get F 5:=by rw[i5 5 (by omega) (by omega),g3 5 (by omega) (by omega),e3 5 (by omega)]
   have f2:get F3 2=.hptr 0 0 0:=by rw[i5 2 (by omega) (by omega),g3 2 (by omega) (by omega),e3 2 (by omega)];exact p.f2
   have n5':jD (H++[.row 2 [cells y]]) (get F3 5) o ids (h_ out):=by rw[f5];exact n1.more _
   have hr:(h_ out)[q]? = some (row.map V.bool):=by simp[h_,hrow]
   have hu:(row.map V.bool)[j]? = some (.bool b):=by simp[hb]
   have hB8:B≤id:=by
    have:get F 7=.hsl id 2 off1 m1:=by rw[←i3,g3 7 (by omega) (by omega),e3 7 (by omega)]
    exact t8 _ _ this
   obtain⟨F4,j1,j2,j3⟩:=Qd (E:=E) (N:=N) (call:=fun _ _ _=>none) f8 hcl n5' hq hj hr hu
   have h35:ax N F1 (.s 35)=.bool true:=by show get F1 35=_;rw[e2];simp
   rcases hcase with⟨rfl,rfl⟩|⟨rfl,more,hm,hlen,rfl⟩
   ·simp only at h;have hp2:P2 t out rest F4 (H++[.row 2 [cells y]]):=by
     refine⟨by rw[j3 2 (by omega)];exact f2,by rw[List.getElem?_append_left (ζe.1 p.h0).1];exact p.h0,B,o,ids,id,by rw[j3 5 (by omega)];exact n5',n2,n3,n4,by simp;omega,by rw[j3 7 (by omega)];exact i2,fun off m _=>hB8⟩
    obtain⟨F',H',r1,r2⟩:=ih out rest out' F4 _ h hp2;exact⟨F',H',jt.step (Ex.seq (Ex.seq (Ex.bN fun c=>e1) (Ex.kf h35 Ex.skip)) (Ex.q9 (Ex.seq (Ex.bN fun c=>g1) (Ex.seq (Ex.bN fun c=>i1) (Ex.qu (Ex.seq (Ex.mm rfl fun c=>j1) (Ex.kf j2 Ex.exit)) (by simp)))))) r1,r2⟩
   ·simp only at h;have n6:jD (H++[.row 2 [cells y]]) (get F4 5) o ids (h_ out):=by rw[j3 5 (by omega)];exact n5'
    obtain⟨F5,H5,k1,k2,k3,k4,k5⟩:=UI (E:=E) (N:=N) (call:=fun _ _ _=>none) (by rw[j3 8 (by omega)];exact f8) hcl n6 hq hj hr hu
    have hnid:∀i,B≤i→i∉ids:=fun i hi hm=>by have:=(n3 i hm).2;omega
    have hc5:H5[H.length]? = some (.row 2 [cells y]):=by rw[k4 _ (hnid _ n5)];exact hcl
    have h05:H5[0]? = some (.row 1 [cells t]):=by
     rw[k4 0 (fun hm=>by have:=(n3 0 hm).1;omega),List.getElem?_append_left (ζe.1 p.h0).1];exact p.h0
    obtain⟨w9,X,id9,m1',m2,m3,_⟩:=TV (a:=0) (d:=0) (F:=F5) hd hD hm (by rw[k5 2 (by omega),j3 2 (by omega)];exact f2) h05 hc5
    obtain⟨F6,⟨nn,o1'⟩,o2',o3⟩:=m3 (by rw[k5 8 (by omega),j3 8 (by omega)];exact f8)
    have hl5:H5.length=H.length+1:=by rw[k3];simp
    have i7:get F6 7=.hsl id 2 off2 (rest.map cells).length:=by rw[o3 7 (by omega) (by omega),k5 7 (by omega),j3 7 (by omega)];exact i4
    have hidl:id<H.length:=by
     have:=t7'.lt (off:=off1) (m:=m1) (by rw[←i3,g3 7 (by omega) (by omega)])
     exact this
    have t6:iC (H5++X) (get F6 7) (rest.map cells) id:=by
     have:get F6 7=get F3 7:=by rw[o3 7 (by omega) (by omega),k5 7 (by omega),j3 7 (by omega)]
     rw[this];refine(i2.heap (H':=H5) fun off n _=>k4 id (hnid id hB8)).more X
    have s10:∃F7,(∀c,bB E N c none AA F6 (H5++X)=some (F7,H5++X))∧get F7 10=.int .i64 ((0:Nat):Int)∧∀s,s<10→get F7 s=get F6 s:=
     ⟨set F6 10 (.int .i64 0),fun c=>by simp[AA,bB,aG,ax,ai,aq],by simp,fun s hs=>by rw[ay,if_neg (by omega)]⟩
    obtain⟨F7,u1,u2,u3⟩:=s10;have hp3:P3 (rest.map cells) (more.l.map cells) B 0 F7 (H5++X):=by
     refine⟨u2,⟨id9,by rw[u3 9 (by omega),o2'];exact m1',id,by rw[u3 7 (by omega)];exact t6,fun off m hh=>⟨hB8,fun off' m' h'=>?_⟩⟩,by simp;omega⟩
     rw[u3 9 (by omega),o2']at h'
     have:=m2 off' m' h';omega
    obtain⟨F8,H8,v1,⟨id8,v2,v3⟩,v4,v5,v6⟩:=Sf (E:=E) (N:=N) (more.l.map cells) B (by simp;omega) (more.l.map cells).length 0 (rest.map cells) F7 (H5++X) (by omega) (by simp;omega) hp3
    have hn8:jD H8 (get F8 5) o ids (h_ (out.set q (row.set j true))):=by
     have h5:get F8 5=get F5 5:=by rw[v4 5 (by omega),u3 5 (by omega),o3 5 (by omega) (by omega)]
     rw[h5,Ju];refine(k2.more X).heap (fun hne=>v5 o ?_) fun i hi=>v5 i (n3 i hi).2
     have:out≠[]:=by intro e;subst e;simp at hrow
     exact(n2 this).2
    have hp2:P2 t (out.set q (row.set j true)) (rest++more.l) F8 H8:=by
     refine⟨by rw[v4 2 (by omega),u3 2 (by omega),o3 2 (by omega) (by omega),k5 2 (by omega),j3 2 (by omega)];exact f2,?_,B,o,ids,id8,hn8,fun hne=>n2 (by intro e;subst e;simp at hrow),n3,n4,by simp at v6;omega,?_,v3⟩
     ·rw[v5 0 (by omega),List.getElem?_append_left (ζe.1 h05).1];exact h05
     ·rw[List.drop_zero]at v2;rw[List.map_append];exact v2
    obtain⟨F',H',w1,w2⟩:=ih _ _ out' F8 H8 h hp2;exact⟨F',H',jt.step (Ex.seq (Ex.seq (Ex.bN fun c=>e1) (Ex.kf h35 Ex.skip)) (Ex.block (Ex.seq (Ex.bN fun c=>g1) (Ex.seq (Ex.bN fun c=>i1) (Ex.seq (Ex.seq (Ex.mm rfl fun c=>j1) (Ex.lZ j2 Ex.skip)) (Ex.seq (Ex.mm rfl fun c=>k1)
     (Ex.seq (Ex.ops ⟨nn,o1'⟩) (Ex.seq (Ex.bN u1) (Ex.q9 (Ex.loop v1))))))))) ) w1,w2⟩
theorem Mj {H:ak} {Z:Nat→Prop} {id:Nat} {r:List Bool} (hz:Z id) (h:H[id]? = some (.row 1 (gz (r.map V.bool)))):FR H Z (enc (Sl.row r)) (.hsl id 1 0 r.length):=by
 have hr:an H id=some (1,gz (r.map V.bool)):=by simp[an,h,Ob.rows]
 have he:enc (Sl.row r)=.fsl 1 (rows r):=rfl;have hl:(rows r).length=r.length:=by simp[rows]
 have hc:gz (r.map V.bool)=rows r:=by simp[gz,rows,List.map_map,Function.comp_def]
 rw[hc]at hr;rw[he,←hl];refine .fsl 1 (rows r) id 0 (rows r) hz hr (by omega) (fun i a b h1 h2=>?_) (fun i j a b u v h1 h2 h3 h4=>?_)
 ·rw[Nat.zero_add,h1]at h2;cases h2;rfl
 ·rw[Nat.zero_add,h1]at h2;cases h2;rw[h3]at h4;cases h4;refine .same u ?_;obtain⟨c,hc1,rfl⟩:∃c∈r,a=[V.bool c]:=by
   have:=List.mem_of_getElem? h1;simp only[rows,List.mem_map]at this;obtain⟨c,hc,rfl⟩:=this;exact⟨c,hc,rfl⟩
  have:=List.mem_of_getElem? h3;simp at this;subst this;rfl
theorem JZ {H:ak} {w:V} {o:Nat} {ids:List Nat} {out:List (List Bool)} (n:jD H w o ids (h_ out)):∃Z,FR H Z (enc (nested out)) w∧(∀id,Z id→(an H id).isSome=true)∧Deep H Z:=by
 have hv:=n.v
 by_cases ho:out=[]
 ·subst ho;rw[if_pos (show h_ []=[]from rfl)]at hv;subst hv;exact⟨fun _=>False,.same _ rfl,fun _ h=>h.elim,⟨fun _ _ _ h=>h.elim⟩⟩
 ·have hne:h_ out≠[]:=fun h=>ho (Dm.1 h)
  rw[if_neg hne,sN]at hv;subst hv;have hob:=n.ob hne;have hlen:=n.len;rw[sN]at hlen;have hrow:∀(i id:Nat) (r:List Bool),ids[i]? = some id→out[i]? = some r→H[id]? = some (.row 1 (gz (r.map V.bool))):=fun i id r h1 h2=>n.r i id _ h1 (by simp[h_,h2])
  have href:∀(i:Nat) (c:List V),(refs ids (h_ out))[i]? = some c→∃id r,ids[i]? = some id∧out[i]? = some r∧c=[.hsl id 1 0 r.length]:=fun i c h=>by
   have hi:=(ζe.1 h).1;rw[ql n.len,sN]at hi;have h1:=ζd (show i<ids.length from by omega)
   have h2:=ζd hi;have h3:=yJ (rows:=h_ out) (r:=out[i].map V.bool) h1 (by simp[h_,h2])
   rw[h]at h3;exact⟨_,_,h1,h2,by simpa using h3⟩
  have hzo:an H o=some (1,refs ids (h_ out)):=by simp[an,hob,Ob.rows]
  have hzi:∀id∈ids,∃(r:List Bool),H[id]? = some (.row 1 (gz (r.map V.bool))):=fun id hid=>by
   obtain⟨i,hi⟩:=List.getElem?_of_mem hid;have hl:=(ζe.1 hi).1;exact⟨_,hrow i id _ hi (ζd (show i<out.length from by omega))⟩
  refine⟨fun id=>id=o∨id∈ids,?_,fun id h=>?_,⟨fun id es ys h hr c hc u hu=>?_⟩⟩
  ·have he:enc (nested out)=.fsl 1 (rows (out.map Sl.row)):=by rw[nested,if_neg ho];rfl
   have hl:(rows (out.map Sl.row)).length=out.length:=by simp[rows]
   rw[he,←hl];refine .fsl 1 _ o 0 (refs ids (h_ out)) (.inl rfl) hzo (by rw[hl,ql n.len,sN];omega) (fun i a b h1 h2=>?_) (fun i j a b u v h1 h2 h3 h4=>?_)
   ·rw[Nat.zero_add]at h2;obtain⟨id,r,_,hr,rfl⟩:=href i b h2;simp[rows,hr]at h1;subst h1;rfl
   ·rw[Nat.zero_add]at h2;obtain⟨id,r,hid,hr,rfl⟩:=href i b h2;have ha:a=[enc (Sl.row r)]:=by simp[rows,hr]at h1;exact h1.symm
    subst ha
    cases j with
    | zero=>
     simp at h3 h4;subst h3 h4;exact Mj (.inr (List.mem_of_getElem? hid)) (hrow i id r hid hr)
    | succ j=>simp at h3
  ·rcases h with rfl|h
   ·simp[hzo]
   ·obtain⟨r,hr⟩:=hzi id h;simp[an,hr,Ob.rows]
  ·rcases h with rfl|h
   ·rw[hzo]at hr;cases hr;obtain⟨i,hi⟩:=List.getElem?_of_mem hc;obtain⟨id,r,hid,hro,rfl⟩:=href i c hi;simp at hu;subst hu;exact⟨_,Mj (.inr (List.mem_of_getElem? hid)) (hrow i id r hid hro)⟩
   ·obtain⟨r,hr'⟩:=hzi id h;have:an H id=some (1,gz (r.map V.bool)):=by simp[an,hr',Ob.rows]
    rw[this]at hr;cases hr;simp only[gz,List.mem_map]at hc;obtain⟨_,⟨c',_,rfl⟩,rfl⟩:=hc;simp at hu;subst hu;exact⟨_,.same _ rfl⟩
theorem MM {t:Trace} {x:aa} {out:List (List Bool)} {s:Sl aa} {dir:aa→Option (Sl aa)} (hd:sC.keep (tu 105)=true) (hD:Ck sC tu t dir) (hok:wT t=true) (hs:dir x=some s) (hw:aX (kR dir) (eS t,s.l)=some (.x out)) :
 wB sC (tu 83) [enc t,enc x] (enc (nested out)):=by
 obtain⟨fi,g1,g2,g3,g4⟩:=shape;obtain⟨k,hk⟩:=kN.1 hw;have b1:∃F1,(∀c,bB sC tu c none r1 [enc t,enc x] []=some (F1,[.row 1 [cells t],.row 2 [cells x]]))∧get F1 2=.hptr 0 0 0∧get F1 3=.hptr 1 0 0:=by
  refine⟨_,fun c=>gO (v:=.hptr 0 0 0) (H1:=[.row 1 [cells t]]) rfl ?_ <| gO (v:=.hptr 1 0 0) (H1:=[.row 1 [cells t],.row 2 [cells x]]) rfl ?_ <| vp (v:=.aF) rfl ?_ cF,?_,?_⟩
  ·show (iK .box [enc t]).map _=_;simp only[iK,mI,oW,if_true,Option.map_some,eB];rfl
  ·simp only[aG,List.map_cons,List.map_nil,ax,aq,ay,Nat.reduceEqDiff,if_false];show (iK .box [enc x]).map _=_;simp only[iK,mI,oW,if_true,Option.map_some,eB];rfl
  ·simp[aG,ax,ai]
  ·simp[aq]
  ·simp[aq]
 obtain⟨F1,c1,c2,c3⟩:=b1;have b3:∃F3,(∀c,bB sC tu c none r2 F1 [.row 1 [cells t],.row 2 [cells x]]=some (set F1 5 .aF,[.row 1 [cells t],.row 2 [cells x]]))∧(∀c,bB sC tu c none r3 (set F1 5 .aF) [.row 1 [cells t],.row 2 [cells x]]=some (F3,[.row 1 [cells t],.row 2 [cells x]]))∧P1 t x 0 F3 [.row 1 [cells t],.row 2 [cells x]]:=by
  refine⟨set (set F1 5 .aF) 6 (.int .i64 0),fun c=>by simp[r2,bB,aG,ax,ai,aq],fun c=>by simp[r3,bB,aG,ax,ai,aq],by simp[c2],by simp[c3],by simp,rfl,rfl,0,[],?_,fun h=>absurd rfl h,fun id h=>by simp at h⟩
  have:get (set (set F1 5 .aF) 6 (.int .i64 0)) 5=.aF:=by simp
  rw[this,List.take_zero];exact jD.nil _ 0
 obtain⟨F3,d1,d2,d3⟩:=b3;obtain⟨F4,H4,e1,e2⟩:=Fp (E:=sC) (N:=tu) hok t.procs.l.length 0 F3 _ (by omega) d3
 obtain⟨o,ids,n1,n2,n3⟩:=e2.ns;have hlen:(eS t).length=t.procs.l.length:=by simp[eS]
 rw[List.take_of_length_le (by omega)]at n1
 obtain⟨w,X,id,m1,m2,_,m4⟩:=TV (a:=0) (d:=0) (F:=F4) (E:=sC) (N:=tu) hd hD hs e2.f2 e2.h0 (c:=1) e2.h1;obtain⟨F5,o1,o2,o3⟩:=m4 e2.f3;have hp2:P2 t (eS t) s.l F5 (H4++X):=by
  refine⟨by rw[o3 2 (by omega) (by omega)];exact e2.f2,by rw[List.getElem?_append_left (ζe.1 e2.h0).1];exact e2.h0,H4.length,o,ids,id,by rw[o3 5 (by omega) (by omega)];exact n1.more X,fun hne=>?_,fun i hi=>⟨by have:=n3 i hi;omega,n1.lt.2 i hi⟩,?_,by simp,by rw[o2];exact m1,fun off m h=>?_⟩
  ·have hne':h_ (eS t)≠[]:=fun h=>hne (Dm.1 h)
   have:t.procs.l.length≠0:=by intro h;apply hne;exact List.eq_nil_of_length_eq_zero (by omega)
   have:=n2 this;exact⟨by omega,n1.lt.1 hne'⟩
  ·have:=(ζe.1 e2.h0).1;omega
  ·rw[o2]at h;have:=m2 off m h;omega
 obtain⟨F6,H6,p1,p2⟩:=Gk hd hD k _ _ out F5 _ hk hp2;obtain⟨B,o',ids',id',q1,_⟩:=p2.ns;have l1:∃F7,(∀c,bB sC tu c none S7 F6 H6=some (F7,H6))∧get F7 4=get F6 5:=by
  refine⟨_,fun c=>vp (v:=get F6 5) rfl ?_ <| vp (v:=get F6 5) rfl ?_ cF,?_⟩
  ·simp[aG,ax,ai]
  ·simp[aG,ax,ai,aq]
  ·simp[aq]
 obtain⟨F7,y1,y2⟩:=l1;have hex:Ex sC tu code [enc t,enc x] [] .ret F7 H6:=
  Ex.seq (Ex.bN c1) (Ex.seq (Ex.bN d1) (Ex.seq (Ex.seq (Ex.bN d2) (Ex.q9 (Ex.loop e1))) (Ex.seq (Ex.ops o1) (Ex.seq (Ex.q9 (Ex.loop p1)) (Ex.seq (Ex.bN y1) Ex.ret)))))
 obtain⟨n,hrun⟩:=hex.run (nm:=some) uq g1 g2 (show [enc t,enc x].length≤fi.ntmps from g3) (vs:=[get F7 4]) (by rw[g4];rfl)
 obtain⟨Z,z1,z2,z3⟩:=JZ q1;exact⟨n,get F6 5,H6,Z,by rw[hrun,y2];rfl,z1,z2,z3⟩
theorem Qo (l:List aa):∀c∈l.map (cells (α:=aa)),c.length=2∧c.all V.one=true∧c.all V.scalar=true:=fun c hc=>by
 obtain⟨e,_,rfl⟩:=List.mem_map.1 hc;exact⟨rfl,rfl,rfl⟩
theorem Sq (t:Trace):Ck sC tu t (cA t):=by
 intro y s H hs;have h1:=vI t y;have h2:=h1 (bP s) (by rw[hs];rfl)
 have hg:V.bD [enc t,enc y]=true:=by simp only[V.bD,iG,Bool.and_self]
 have hkind:s.k=.row∨s.k=.nil∧rows s.l=[]:=by
  have hj:∀o z,(∃l,o=.row l)∨o=.nil→cA.J1 o t y=some z→(∃l,z=.row l)∨z=.nil:=fun o z ho hz=>by
   unfold cA.J1 at hz;obtain⟨e,_,hz⟩:=ζg.1 hz
   cases he:e.kind==3 with
   | true=>
    rw[he]at hz;obtain⟨f,_,hz⟩:=ζg.1 hz;obtain⟨q,hq,hz⟩:=ζg.1 hz;cases hz;unfold gy at hq;split at hq
    ·cases hq;exact .inl ⟨_,rfl⟩
    ·cases hq
   | false=>rw[he]at hz;cases hz;exact ho
  have:(∃l,s=.row l)∨s=.nil:=by
   unfold cA at hs
   cases hc:decide (y.index>1)with
   | true=>rw[hc]at hs;exact hj _ s (.inl ⟨_,rfl⟩) hs
   | false=>rw[hc]at hs;exact hj _ s (.inr rfl) hs
  rcases this with⟨l,rfl⟩|rfl
  ·exact .inl rfl
  ·exact .inr ⟨rfl,rfl⟩
 obtain⟨n,z,H',r1,r2⟩:=Pn Cl xO (T:=Tx) (f:=tu 105) (rf:=zq (Tx 105)) (by kernel_rfl) hg (Nat.le_of_ble_eq_true (by kernel_rfl)) (k:=s.k) (es:=2) (xs:=rows s.l) (fun c hc=>(Qo s.l c hc).2.2) hkind h2
 refine DJ (l:=s.l.map cells) (y:=z) (H1:=H') (by kernel_rfl) hg (Qo s.l) ⟨n,fun k hk=>jV _ hk _ _ _ _ r1⟩ ?_ H
 rcases r2 with⟨h3,rfl⟩|⟨id,rfl,h4⟩
 ·left;cases s <;> simp[Sl.k]at h3;exact⟨rfl,rfl⟩
 ·right;exact⟨id,by simp[rows],h4⟩
end pastX
theorem Ll (t:Trace) (x:aa) (r:Sl (Sl Bool)) (h:kn t x=some r):Sy.vH 83 [enc t,enc x]=some (enc r):=by
 unfold kn at h;split at h
 ·rename_i hok;obtain⟨s,hs,h⟩:=ζg.1 h;obtain⟨w,hw,h⟩:=ζg.1 h
  cases w with
  | n a=>exact Empty.elim a
  | r e=>exact Empty.elim e
  | x out=>
   cases h;exact we (pastX.MM (by kernel_rfl) (pastX.Sq t) hok hs hw)
 ·cases h
end Go.VE
namespace Go.VE
noncomputable section
def sS:Option Bool:=some true
instance Mq:Fc Sy cL sS:=⟨6,[],fun r:Bool=>[.bool r],true,jH.vH (by kernel_rfl) (by kernel_rfl) Ji⟩
namespace dV
def aA (s0:Sl Event) (v7:Int) (v8:Int) (p1:Event→Option Bool):Option (Fw Int Unit Int):=
 au (decide (v8<v7))
 ((idx s0 v8).bind fun x_1=>
 (p1 x_1).bind fun x_2=>
 au x_2
 (some (.r v8))
 (some (.n (IntKind.wrap .i64 (v8+1)))))
 (some (.x ()))
def W1 (s0:Sl Event) (v7 v8:Int) (p1:Event→Option Bool):Option Int:=
 (aX (fun q:Int=>aA s0 v7 q p1) v8).bind (Fw.elim
 (fun e=>some (-1))
 (fun e=>some e))
end dV
def dV (s0:Sl Event) (p1:Event→Option Bool):Option Int:=
 dV.W1 s0 (len s0) 0 p1
open dV in
abbrev sZ (g1:FuncId) (e1:List V) (p1:Event→Option Bool) (h1:oP Sy cL g1 e1 (fun z:Event=>[enc z]) (fun r:Bool=>[.bool r]) p1) (s0:Sl Event):Fc Sy cL (dV s0 p1):=Fc.M 75 [enc s0,.clo g1 [] e1] (bf 9 s0 (cM 5 (fun qW1=>(aS [Cv 0 s0,(1,.v (.clo g1 [] e1)),Iv 7 (len s0),Iv 8 qW1] [])) (fun eW1=>(0,(aS [] []))) (fun eW1=>(aS [Iv 4 eW1] [])) (fun qW1=>aI 7 9 (bg 16 fun x_1 _=>xk 1 h1.f x_1 fun x_2 _=>aI 2 16 ah ah) ah) (fun eW1=>ah) (fun eW1=>ah))) (l:=by simp[h1.d])
def fB (s0:Sl Event) (p1:Event→Option Bool):Option Bool:=
 (dV s0 p1).bind fun x_1=>
 some (decide (x_1≥0))
abbrev kP (g1:FuncId) (e1:List V) (p1:Event→Option Bool) (h1:oP Sy cL g1 e1 (fun z:Event=>[enc z]) (fun r:Bool=>[.bool r]) p1) (s0:Sl Event):Fc Sy cL (fB s0 p1):=Fc.M 36 [enc s0,.clo g1 [] e1] (aU (F:=sZ g1 e1 p1 h1 s0) 9 fun x_1 _=>ah) (l:=by simp[h1.d])
def mV (x0:Event):Option Bool:=
 some (decide ((len x0.assign)>12))
instance Jr (x0:Event):Fc Sy cL (mV x0):=Fc.M 37 [enc x0] (cN 2 1 x0 (bf 7 x0.assign ah))
namespace gU
def aA (v11:Sl bl) (v12:Int) (n3 v13:Int):Option (Fw (Int×Int) Int Unit):=
 au (decide (v13<v12))
 ((idx v11 v13).bind fun x_1=>
 (au (decide ((len x_1.vars)>12))
 (some true)
 ((fB x_1.events (fun z=>mV z)).bind fun x_2=>
 some x_2):Option Bool).bind fun x_3=>
 au x_3
 (some (.r ()))
 (some (.n (IntKind.wrap .i64 (n3+(len x_1.events)),IntKind.wrap .i64 (v13+1)))))
 (some (.x n3))
def W1 (n3:Int) (v11:Sl bl) (v12 v13:Int):Option Int:=
 (aX (fun q:Int×Int=>aA v11 v12 q.1 q.2) (n3,v13)).bind (Fw.elim
 (fun e=>some e)
 (fun e=>some 1000))
end gU
def gU (t0:Trace):Option Int:=
 au (decide ((len t0.procs)>10))
 (some 1000)
 (gU.W1 0 t0.procs (len t0.procs) 0)
open gU in
instance Og (t0:Trace):Fc Sy cL (gU t0):=Fc.M 14 [enc t0] (cN 2 1 t0 (bf 8 t0.procs (aI 3 9 ah (bf 13 t0.procs (cM 5 (fun qW1=>(aS [Iv 3 qW1.1,Cv 11 t0.procs,Iv 12 (len t0.procs),Iv 13 qW1.2] [])) (fun eW1=>(0,(aS [Iv 3 eW1] []))) (fun eW1=>(aS [Iv 2 1000] [])) (fun qW1=>aI 7 14 (bg 7 fun x_1 _=>kB 2 5 0 x_1 (bf 7 x_1.events (bf 8 x_1.vars (bq 2 4 [5,26] 30 (aI 2 26 (aJ 4) (aU (F:=kP 37 [] (fun z=>mV z) oP.yh x_1.events) 2 fun x_2 _=>aJ 1)) fun x_3=>aI 2 30 ah ah)))) ah) (fun eW1=>ah) (fun eW1=>ah))))))
def lH (c0:Int):Option Bool:=
 (au (decide (c0≥65))
 (some (decide (c0≤90)))
 (some false):Option Bool).bind fun x_1=>
 (au x_1
 (some true)
 ((au (decide (c0≥97))
 (some (decide (c0≤122)))
 (some false):Option Bool).bind fun x_2=>
 some x_2):Option Bool).bind fun x_3=>
 some x_3
instance LJ (c0:Int):Fc Sy cL (lH c0):=Fc.M 125 [.int .u8 c0] (bq 10 3 [5] 8 (aI 10 5 (aJ 3) (aJ 3)) fun x_1=>bq 1 7 [0,9] 16 (aI 1 9 (aJ 7) (bq 3 3 [0,12] 15 (aI 3 12 (aJ 3) (aJ 3)) fun x_2=>aJ 1)) fun x_3=>ah)
def o7 (c0:Int):Option Bool:=
 (au (decide (c0≥48))
 (some (decide (c0≤57)))
 (some false):Option Bool).bind fun x_1=>
 some x_1
instance NF (c0:Int):Fc Sy cL (o7 c0):=Fc.M 126 [.int .u8 c0] (bq 10 3 [0,5] 8 (aI 10 5 (aJ 3) (aJ 3)) fun x_1=>ah)
namespace fh
def aA (s0:ByteArray) (i3:Int):Option (Fw Int Unit Unit):=
 au (decide (i3<((ByteArray.size s0:Nat):Int)))
 ((iq s0 i3).bind fun x_5=>
 (lH x_5).bind fun x_6=>
 (au x_6
 (some false)
 ((iq s0 i3).bind fun x_7=>
 (o7 x_7).bind fun x_8=>
 some (!x_8)):Option Bool).bind fun x_9=>
 (au x_9
 ((iq s0 i3).bind fun x_10=>
 some (!(x_10==95)))
 (some false):Option Bool).bind fun x_11=>
 au x_11
 (some (.r ()))
 (some (.n (IntKind.wrap .i64 (i3+1)))))
 (some (.x ()))
def W1 (s0:ByteArray) (i3:Int):Option Bool:=
 (aX (fun q:Int=>aA s0 q) i3).bind (Fw.elim
 (fun e=>some true)
 (fun e=>some false))
end fh
def fh (s0:ByteArray):Option Bool:=
 (au (decide (((ByteArray.size s0:Nat):Int)<1))
 (some true)
 (some (decide (((ByteArray.size s0:Nat):Int)>16))):Option Bool).bind fun x_1=>
 (au x_1
 (some true)
 ((iq s0 0).bind fun x_2=>
 (lH x_2).bind fun x_3=>
 some (!x_3)):Option Bool).bind fun x_4=>
 au x_4
 (some false)
 (fh.W1 s0 1)
open fh in
instance N9 (s0:ByteArray):Fc Sy cL (fh s0):=Fc.M 102 [.str s0] (bq 12 4 [7] 11 (aI 12 7 (aJ 4) (aJ 4)) fun x_1=>bq 1 5 [12] 17 (aI 1 12 (aJ 5) (wS 1 .i64 fun x_2 _=>aU 0 fun x_3 _=>aJ 2)) fun x_4=>aI 2 17 ah (cM 11 (fun qW1=>(aS [(0,.v (.str s0)),Iv 3 qW1] [])) (fun eW1=>(0,(aS [] []))) (fun eW1=>(aS [Bv 2 false] [])) (fun qW1=>aI 10 21 (wS 9 .i64 fun x_5 _=>aU 0 fun x_6 _=>bq 2 6 [29] 35 (c8 2 29 (aJ 6) (wS 2 .i64 fun x_7 _=>aU 0 fun x_8 _=>aJ 2)) fun x_9=>bq 1 5 [36] 41 (aI 1 36 (wS 2 .i64 fun x_10 _=>aJ 2) (aJ 5)) fun x_11=>aI 2 41 ah ah) ah) (fun eW1=>ah) (fun eW1=>ah)))
def mR (n0:Int):Option Bool:=
 (au (decide (n0≥(-1073741824)))
 (some (decide (n0≤1073741824)))
 (some false):Option Bool).bind fun x_1=>
 some x_1
instance Nk (n0:Int):Fc Sy cL (mR n0):=Fc.M 103 [.int .i64 n0] (bq 10 3 [0,5] 8 (aI 10 5 (aJ 3) (aJ 3)) fun x_1=>ah)
namespace cR
def dK (i7:Int) (xb5:bl) (j8:Int):Option (Fw Int Unit Unit):=
 au (decide (j8<i7))
 ((idx xb5.vars j8).bind fun x_6=>
 (idx xb5.vars i7).bind fun x_7=>
 au (ByteArray.toList x_6.name==ByteArray.toList x_7.name)
 (some (.r ()))
 (some (.n (IntKind.wrap .i64 (j8+1)))))
 (some (.x ()))
def W3 (i7 j8:Int) (xb5:bl):Option (Fw Int Unit Int):=
 (aX (fun q:Int=>dK i7 xb5 q) j8).bind (Fw.elim
 (fun e=>(idx xb5.vars i7).bind fun x_8=>
 (mR x_8.init_).bind fun x_9=>
 au x_9
 (some (.n (IntKind.wrap .i64 (i7+1))))
 (some (.r 2)))
 (fun e=>some (.r 13)))
def bu (xb5:bl) (i7:Int):Option (Fw Int Unit Int):=
 au (decide (i7<(len xb5.vars)))
 ((idx xb5.vars i7).bind fun x_4=>
 (fh x_4.name).bind fun x_5=>
 au x_5
 (W3 i7 0 xb5)
 (some (.r 13)))
 (some (.x ()))
def W2 (i7:Int) (xb5:bl):Option Int:=
 (aX (fun q:Int=>bu xb5 q) i7).bind (Fw.elim
 (fun e=>au (decide ((len xb5.events)>64))
 (some 5)
 (some 0))
 (fun e=>some e))
def aA (p1:Int) (tb2:Trace) (xb5:bl) (i6:Int):Option (Fw Int Unit Unit):=
 au (decide (i6<p1))
 ((idx tb2.procs i6).bind fun x_3=>
 au (ByteArray.toList x_3.name==ByteArray.toList xb5.name)
 (some (.r ()))
 (some (.n (IntKind.wrap .i64 (i6+1)))))
 (some (.x ()))
def W1 (p1 i6:Int) (tb2:Trace) (xb5:bl):Option Int:=
 (aX (fun q:Int=>aA p1 tb2 xb5 q) i6).bind (Fw.elim
 (fun e=>au (decide ((len xb5.vars)>8))
 (some 5)
 (cR.W2 0 xb5))
 (fun e=>some 13))
end cR
def cR (t0:Trace) (p1:Int):Option Int:=
 (idx t0.procs p1).bind fun x_1=>
 (fh x_1.name).bind fun x_2=>
 au x_2
 (cR.W1 p1 0 t0 x_1)
 (some 13)
open cR in
instance N7 (t0:Trace) (p1:Int):Fc Sy cL (cR t0 p1):=Fc.M 79 [enc t0,.int .i64 p1] (cN 2 2 t0 (bg 8 fun x_1 _=>kB 2 5 0 x_1 (aU 7 fun x_2 _=>c8 3 17 (cM 11 (fun qW1=>(aS [Iv 1 p1,Pv 2,Pv 5,Iv 6 qW1] [Xb 2 t0,Xb 5 x_1])) (fun eW1=>(0,(aS [Pv 5] [Xb 5 x_1]))) (fun eW1=>(aS [Iv 4 13] [])) (fun qW1=>aI 9 20 (bg 10 fun x_3 _=>aI 7 31 ah ah) ah) (fun eW1=>bf 7 x_1.vars (aI 3 35 ah (cM 11 (fun qW2=>(aS [Pv 5,Iv 7 qW2] [Xb 5 x_1])) (fun eW2=>(2,(aS [Pv 5] [Xb 5 x_1]))) (fun eW2=>(aS [Iv 4 eW2] [])) (fun qW2=>bf 7 x_1.vars (aI 3 40 (bg 11 fun x_4 _=>aU 2 fun x_5 _=>c8 3 50 (cM 11 (fun qW3=>(aS [Pv 5,Iv 7 qW2,Iv 8 qW3] [Xb 5 x_1])) (fun eW3=>(4,(aS [Pv 5,Iv 7 qW2] [Xb 5 x_1]))) (fun eW3=>(aS [Iv 4 13] [])) (fun qW3=>aI 9 53 (bg 10 fun x_6 _=>bg 5 fun x_7 _=>aI 5 68 ah ah) ah) (fun eW3=>bg 7 fun x_8 _=>aU 2 fun x_9 _=>c8 3 76 ah ah) (fun eW3=>ah)) ah) ah)) (fun eW2=>bf 7 x_1.events (aI 3 80 ah ah)) (fun eW2=>ah)))) (fun eW1=>ah)) ah)))
namespace cQ
def dK (p1 k8:Int) (tb3:Trace) (xb7:Event) (ab9:Assign) (j10:Int):Option (Fw Int Unit Unit):=
 au (decide (j10<k8))
 ((idx xb7.assign j10).bind fun x_20=>
 au (x_20.var==ab9.var)
 (some (.r ()))
 (some (.n (IntKind.wrap .i64 (j10+1)))))
 (some (.x ()))
def W3 (p1 k8 j10:Int) (tb3:Trace) (xb7:Event) (ab9:Assign):Option (Fw Int Unit Int):=
 (aX (fun q:Int=>dK p1 k8 tb3 xb7 ab9 q) j10).bind (Fw.elim
 (fun e=>some (.n (IntKind.wrap .i64 (k8+1))))
 (fun e=>some (.r 8)))
def bu (p1:Int) (tb3:Trace) (xb7:Event) (k8:Int):Option (Fw Int Unit Int):=
 au (decide (k8<(len xb7.assign)))
 ((idx xb7.assign k8).bind fun x_15=>
 (au (decide (x_15.var<0))
 (some true)
 ((idx tb3.procs p1).bind fun x_16=>
 some (decide (x_15.var≥(len x_16.vars)))):Option Bool).bind fun x_17=>
 (au x_17
 (some true)
 ((mR x_15.value).bind fun x_18=>
 some (!x_18)):Option Bool).bind fun x_19=>
 au x_19
 (some (.r 2))
 (W3 p1 k8 0 tb3 xb7 x_15))
 (some (.x ()))
def W2 (p1 k8:Int) (tb3:Trace) (xb7:Event):Option Int:=
 (aX (fun q:Int=>bu p1 tb3 xb7 q) k8).bind (Fw.elim
 (fun e=>some 0)
 (fun e=>some e))
def J1 (p1 i2:Int) (tb3:Trace) (xb7:Event):Option Int:=
 (au (decide (xb7.time<0))
 (some true)
 (some (decide (xb7.time>1099511627776))):Option Bool).bind fun x_10=>
 (au x_10
 (some true)
 ((au (decide (i2>0))
 ((idx tb3.procs p1).bind fun x_11=>
 (idx x_11.events (IntKind.wrap .i64 (i2-1))).bind fun x_12=>
 some (decide (xb7.time<x_12.time)))
 (some false):Option Bool).bind fun x_13=>
 some x_13):Option Bool).bind fun x_14=>
 au x_14
 (some 11)
 (au (decide ((len xb7.assign)>8))
 (some 5)
 (cQ.W2 p1 0 tb3 xb7))
theorem tC (p1 i2:Int) (tb3:Trace) (xb7:Event):Le ((J1 p1 i2 tb3 xb7).bind (fun r=>some [.int .i64 r])) (bz Sy cL (oE (tr Tx 80)) (rE (tb Tx 80) [1,1,1,0] [] (aS [Iv 1 p1,Iv 2 i2,Pv 3,Pv 7] [Xb 3 tb3,Xb 7 xb7]))):=
 bq 7 4 [71] 75 (aI 7 71 (aJ 4) (aJ 4)) fun x_10=>bq 1 19 [2,76] 95 (aI 1 76 (aJ 19) (bq 3 15 [2,79] 94 (aI 3 79 (bg 5 fun x_11 _=>bg 4 fun x_12 _=>aJ 4) (aJ 15)) fun x_13=>aJ 1)) fun x_14=>aI 2 95 ah (bf 8 xb7.assign (aI 3 99 ah (cM 11 (fun qW2=>(aS [Iv 1 p1,Pv 3,Pv 7,Iv 8 qW2] [Xb 3 tb3,Xb 7 xb7])) (fun eW2=>(0,(aS [] []))) (fun eW2=>(aS [Iv 6 eW2] [])) (fun qW2=>bf 7 xb7.assign (aI 3 104 (bg 10 fun x_15 _=>bq 12 11 [115] 126 (aI 12 115 (aJ 11) (bg 5 fun x_16 _=>bf 2 x_16.vars (aJ 2))) fun x_17=>LB 1 5 [130] (fun x_19=>(aS [Iv 1 p1,Pv 3,Pv 7,Iv 8 qW2,Bv 104 true,Pv 9,Bv 132 x_19] [Xb 3 tb3,Xb 7 xb7,Xb 9 x_15])) (aI 1 127 (aJ 5) (jW 2 fun x_18 _=>aJ 2)) fun x_19=>aI 2 132 ah (cM 10 (fun qW3=>(aS [Iv 1 p1,Pv 3,Pv 7,Iv 8 qW2,Pv 9,Iv 10 qW3] [Xb 3 tb3,Xb 7 xb7,Xb 9 x_15])) (fun eW3=>(2,(aS [Iv 1 p1,Pv 3,Pv 7,Iv 8 qW2] [Xb 3 tb3,Xb 7 xb7]))) (fun eW3=>(aS [Iv 6 8] [])) (fun qW3=>aI 9 135 (bg 10 fun x_20 _=>aI 7 146 ah ah) ah) (fun eW3=>ah) (fun eW3=>ah))) ah)) (fun eW2=>ah) (fun eW2=>ah))))
end cQ
def cQ (t0:Trace) (p1 i2:Int):Option Int:=
 (idx t0.procs p1).bind fun x_1=>
 (idx x_1.events i2).bind fun x_2=>
 au (x_2.kind==1)
 ((au (x_2.peer==0)
 (some (!(x_2.message==0)))
 (some true):Option Bool).bind fun x_3=>
 au x_3
 (some 3)
 (cQ.J1 p1 i2 t0 x_2))
 ((au (x_2.kind==2)
 (some false)
 (some (!(x_2.kind==3))):Option Bool).bind fun x_4=>
 (au x_4
 (some true)
 (some (decide (x_2.peer<0))):Option Bool).bind fun x_5=>
 (au x_5
 (some true)
 (some (decide (x_2.peer≥(len t0.procs)))):Option Bool).bind fun x_6=>
 (au x_6
 (some true)
 (some (x_2.peer==p1)):Option Bool).bind fun x_7=>
 (au x_7
 (some true)
 (some (decide (x_2.message<0))):Option Bool).bind fun x_8=>
 (au x_8
 (some true)
 (some (decide (x_2.message>199))):Option Bool).bind fun x_9=>
 au x_9
 (some 3)
 (cQ.J1 p1 i2 t0 x_2))
open cQ in
instance Oa (t0:Trace) (p1 i2:Int):Fc Sy cL (cQ t0 p1 i2):=Fc.M 80 [enc t0,.int .i64 p1,.int .i64 i2] (cN 2 3 t0 (bg 8 fun x_1 _=>bg 3 fun x_2 _=>kB 2 7 0 x_2 (aI 10 22 (bq 7 4 [26] 30 (c8 7 26 (aJ 4) (aJ 4)) fun x_3=>aI 2 30 ah (A9 4 (tC p1 i2 t0 x_2))) (bq 7 4 [34] 38 (c8 7 34 (aJ 4) (aJ 4)) fun x_4=>bq 1 4 [39] 43 (aI 1 39 (aJ 4) (aJ 4)) fun x_5=>bq 1 7 [44] 51 (aI 1 44 (aJ 7) (bf 4 t0.procs (aJ 2))) fun x_6=>bq 1 5 [52] 57 (aI 1 52 (aJ 5) (aJ 5)) fun x_7=>bq 1 4 [58] 62 (aI 1 58 (aJ 4) (aJ 4)) fun x_8=>bq 1 4 [63] 67 (aI 1 63 (aJ 4) (aJ 4)) fun x_9=>aI 2 67 ah (A9 4 (tC p1 i2 t0 x_2))))))
namespace fP
def aA (tb2:Trace) (xb3:aa) (eb5:Event) (sent6:Bool) (i7:Int):Option (Fw (Bool×Int) Bool Empty):=
 (idx tb2.procs eb5.peer).bind fun x_3=>
 au (decide (i7<(len x_3.events)))
 ((idx tb2.procs eb5.peer).bind fun x_4=>
 (idx x_4.events i7).bind fun x_5=>
 (au sent6
 (some true)
 ((au (x_5.kind==2)
 (some (x_5.message==eb5.message))
 (some false):Option Bool).bind fun x_6=>
 (au x_6
 (some (x_5.peer==xb3.proc))
 (some false):Option Bool).bind fun x_7=>
 some x_7):Option Bool).bind fun x_8=>
 some (.n (x_8,IntKind.wrap .i64 (i7+1))))
 (some (.x sent6))
def W1 (sent6:Bool) (i7:Int) (tb2:Trace) (xb3:aa) (eb5:Event):Option Int:=
 (aX (fun q:Bool×Int=>aA tb2 xb3 eb5 q.1 q.2) (sent6,i7)).bind (Fw.elim
 (fun e=>au e
 (some 0)
 (some 7))
 (fun e=>Empty.elim e))
end fP
def fP (t0:Trace) (x1:aa):Option Int:=
 (qY t0 x1).bind fun x_1=>
 au (x_1.kind==1)
 (some 0)
 ((cC t0 x_1.kind x_1.message).bind fun x_2=>
 au (E3 x_2 x1)
 (au (x_1.kind==3)
 (fP.W1 false 0 t0 x1 x_1)
 (some 0))
 (some 8))
open fP in
instance Ly (t0:Trace) (x1:aa):Fc Sy cL (fP t0 x1):=Fc.M 81 [enc t0,enc x1] (cN 2 2 t0 (aU 8 fun x_1 _=>kB 1 5 0 x_1 (aI 10 14 ah (jW 11 fun x_2 _=>c8 4 22 (aI 11 25 (iW 14 (fun qW1=>(aS [Pv 2,Pv 3,Pv 5,Bv 6 qW1.1,Iv 7 qW1.2] [Xb 2 t0,Xb 3 x1,Xb 5 x_1])) (fun eW1=>(0,(aS [Bv 6 eW1] []))) (fun qW1=>bg 9 fun x_3 _=>bf 2 x_3.events (aI 3 35 (bg 11 fun x_4 _=>bg 3 fun x_5 _=>kB 2 8 0 x_5 (bq 5 18 [8,49] 67 (aI 5 49 (aJ 18) (bq 4 6 [53] 59 (aI 4 53 (aJ 6) (aJ 6)) fun x_6=>bq 1 6 [8,60] 66 (aI 1 60 (aJ 6) (aJ 6)) fun x_7=>aJ 1)) fun x_8=>ah)) ah)) (fun eW1=>c8 8 69 ah ah)) ah) ah))))
namespace bV
def J4 (done3:Sl Int) (p5:Int) (tb1:Trace):Option (Fw ((Sl Int)×Bool) ((Sl Int)×Bool) Empty):=
 (Sl.mN done3 p5).bind fun x_12=>
 (Sl.get done3 x_12).bind fun x_13=>
 (Sl.mN done3 p5).bind fun x_14=>
 (Sl.put done3 x_14 (IntKind.wrap .i64 (x_13+1):Int)).bind fun x_15=>
 some (.n (x_15,true))
def dK (p5:Int) (tb1:Trace) (done3:Sl Int) (moved4:Bool):Option (Fw ((Sl Int)×Bool) ((Sl Int)×Bool) Empty):=
 (Sl.mN done3 p5).bind fun x_2=>
 (Sl.get done3 x_2).bind fun x_3=>
 (idx tb1.procs p5).bind fun x_4=>
 au (decide (x_3<(len x_4.events)))
 ((idx tb1.procs p5).bind fun x_5=>
 (Sl.mN done3 p5).bind fun x_6=>
 (Sl.get done3 x_6).bind fun x_7=>
 (idx x_5.events x_7).bind fun x_8=>
 au (x_8.kind==3)
 ((cC tb1 2 x_8.message).bind fun x_9=>
 (Sl.mN done3 x_9.proc).bind fun x_10=>
 (Sl.get done3 x_10).bind fun x_11=>
 au (decide (x_11<x_9.index))
 (some (.x (done3,moved4)))
 (J4 done3 p5 tb1))
 (J4 done3 p5 tb1))
 (some (.x (done3,moved4)))
def W3 (done3:Sl Int) (moved4:Bool) (p5:Int) (tb1:Trace):Option (Fw ((Sl Int)×Bool×Int) ((Sl Int)×Bool) Empty):=
 (aX (fun q:(Sl Int)×Bool=>dK p5 tb1 q.1 q.2) (done3,moved4)).bind (Fw.elim
 (fun e=>some (.n (e.1,e.2,IntKind.wrap .i64 (p5+1))))
 (fun e=>Empty.elim e))
def bu (tb1:Trace) (done3:Sl Int) (moved4:Bool) (p5:Int):Option (Fw ((Sl Int)×Bool×Int) ((Sl Int)×Bool) Empty):=
 au (decide (p5<(len tb1.procs)))
 (W3 done3 moved4 p5 tb1)
 (some (.x (done3,moved4)))
def W2 (done3:Sl Int) (moved4:Bool) (p5:Int) (tb1:Trace):Option (Fw (Sl Int) (Sl Int) Empty):=
 (aX (fun q:(Sl Int)×Bool×Int=>bu tb1 q.1 q.2.1 q.2.2) (done3,moved4,p5)).bind (Fw.elim
 (fun e=>au e.2
 (some (.n e.1))
 (some (.x e.1)))
 (fun e=>Empty.elim e))
def uk (done3:Sl Int) (tb1:Trace) (p8:Int):Option (Fw Int Unit Unit):=
 au (decide (p8<(len tb1.procs)))
 ((Sl.mN done3 p8).bind fun x_16=>
 (Sl.get done3 x_16).bind fun x_17=>
 (idx tb1.procs p8).bind fun x_18=>
 au (decide (x_17<(len x_18.events)))
 (some (.r ()))
 (some (.n (IntKind.wrap .i64 (p8+1)))))
 (some (.x ()))
def W5 (done3:Sl Int) (p8:Int) (tb1:Trace):Option Bool:=
 (aX (fun q:Int=>uk done3 tb1 q) p8).bind (Fw.elim
 (fun e=>some true)
 (fun e=>some false))
def aA (tb1:Trace) (done3:Sl Int):Option (Fw (Sl Int) (Sl Int) Empty):=
 W2 done3 false 0 tb1
def W1 (done3:Sl Int) (tb1:Trace):Option Bool:=
 (aX (fun q:Sl Int=>aA tb1 q) done3).bind (Fw.elim
 (fun e=>bV.W5 e 0 tb1)
 (fun e=>Empty.elim e))
end bV
def bV (t0:Trace):Option Bool:=
 (nJ (len t0.procs) (0:Int)).bind fun x_1=>
 bV.W1 x_1 t0
open bV in
instance JU (t0:Trace):Fc Sy cL (bV t0):=Fc.M 82 [enc t0] (cN 2 1 t0 (bf 7 t0.procs (Ib 0 12 fun x_1 _=>iW 7 (fun qW1=>(aS [Pv 1,Ov 3] [Xb 1 t0,Lb 2003 qW1])) (fun eW1=>(0,(aS [Pv 1,Ov 3] [Xb 1 t0,Lb 2003 eW1]))) (fun qW1=>iW 17 (fun qW2=>(aS [Pv 1,Ov 3,Bv 4 qW2.2.1,Iv 5 qW2.2.2] [Xb 1 t0,Lb 2003 qW2.1])) (fun eW2=>(2,(aS [Pv 1,Ov 3,Bv 4 eW2.2] [Xb 1 t0,Lb 2003 eW2.1]))) (fun qW2=>bf 8 t0.procs (aI 3 17 (iW 8 (fun qW3=>(aS [Pv 1,Ov 3,Bv 4 qW3.2,Iv 5 qW2.2.2] [Xb 1 t0,Lb 2003 qW3.1])) (fun eW3=>(4,(aS [Pv 1,Ov 3,Bv 4 eW3.2,Iv 5 qW2.2.2] [Xb 1 t0,Lb 2003 eW3.1]))) (fun qW3=>pG .i64 7 2003 fun x_2 _=>uT 0 2003 0 1 false (fun x_3=>.int .i64 x_3) fun x_3 _=>bg 3 fun x_4 _=>bf 2 x_4.events (aI 3 31 (bg 9 fun x_5 _=>pG .i64 4 2003 fun x_6 _=>uT 0 2003 0 1 false (fun x_7=>.int .i64 x_7) fun x_7 _=>bg 0 fun x_8 _=>kB 2 6 0 x_8 (aI 10 46 (aU 6 fun x_9 _=>pG .i64 9 2003 fun x_10 _=>uT 0 2003 0 1 false (fun x_11=>.int .i64 x_11) fun x_11 _=>aI 5 58 ah (vJ 5 (pG .i64 4 2003 fun x_12 _=>uT 0 2003 0 1 false (fun x_13=>.int .i64 x_13) fun x_13 _=>pG .i64 1 2003 fun x_14 _=>D0 0 2003 (.int .i64 (IntKind.wrap .i64 (x_13+1))) fun x_15 _=>ah))) (vJ 5 (pG .i64 4 2003 fun x_12 _=>uT 0 2003 0 1 false (fun x_13=>.int .i64 x_13) fun x_13 _=>pG .i64 1 2003 fun x_14 _=>D0 0 2003 (.int .i64 (IntKind.wrap .i64 (x_13+1))) fun x_15 _=>ah)))) ah)) (fun eW3=>ah)) ah)) (fun eW2=>c8 8 66 ah ah)) (fun eW1=>cM 11 (fun qW5=>(aS [Pv 1,Ov 3,Iv 8 qW5] [Xb 1 t0,Lb 2003 eW1])) (fun eW5=>(6,(aS [] []))) (fun eW5=>(aS [Bv 2 false] [])) (fun qW5=>bf 8 t0.procs (aI 3 71 (pG .i64 9 2003 fun x_16 _=>uT 0 2003 0 1 false (fun x_17=>.int .i64 x_17) fun x_17 _=>bg 3 fun x_18 _=>bf 2 x_18.events (aI 3 85 ah ah)) ah)) (fun eW5=>ah) (fun eW5=>ah)))))
instance Ol (t:Trace) (x:aa):Fc Sy cL (kn t x):=Fc.of (A:=fun z:Trace×aa=>[enc z.1,enc z.2]) (E:=fun r:Sl (Sl Bool)=>[enc r]) (p:=fun z=>kn z.1 z.2) (n:=83) (z:=(t,x)) (jH.PJ (by kernel_rfl) (by kernel_rfl) (fun z r hr=>Ll z.1 z.2 r hr))
namespace bO
def dK (p6:Int) (tb1:Trace) (vb2:aa) (i7:Int):Option (Fw Int Unit (Int×aa)):=
 (idx tb1.procs p6).bind fun x_3=>
 au (decide (i7<(len x_3.events)))
 ((cQ tb1 p6 i7).bind fun x_4=>
 au (x_4==0)
 (some (.n (IntKind.wrap .i64 (i7+1))))
 (some (.r (x_4,(⟨p6,IntKind.wrap .i64 (i7+1)⟩:aa)))))
 (some (.x ()))
def W3 (p6 i7:Int) (tb1:Trace) (vb2:aa):Option (Fw Int Unit (Int×aa)):=
 (aX (fun q:Int=>dK p6 tb1 vb2 q) i7).bind (Fw.elim
 (fun e=>some (.n (IntKind.wrap .i64 (p6+1))))
 (fun e=>some (.r (e.1,e.2))))
def uk (p9:Int) (tb1:Trace) (vb2:aa) (i10:Int):Option (Fw Int Unit (Int×aa)):=
 (idx tb1.procs p9).bind fun x_5=>
 au (decide (i10<(len x_5.events)))
 ((fP tb1 (⟨p9,IntKind.wrap .i64 (i10+1)⟩:aa)).bind fun x_6=>
 au (x_6==0)
 (some (.n (IntKind.wrap .i64 (i10+1))))
 (some (.r (x_6,(⟨p9,IntKind.wrap .i64 (i10+1)⟩:aa)))))
 (some (.x ()))
def W5 (p9 i10:Int) (tb1:Trace) (vb2:aa):Option (Fw Int Unit (Int×aa)):=
 (aX (fun q:Int=>uk p9 tb1 vb2 q) i10).bind (Fw.elim
 (fun e=>some (.n (IntKind.wrap .i64 (p9+1))))
 (fun e=>some (.r (e.1,e.2))))
def E0 (p13:Int) (tb1:Trace) (vb2:aa) (i14:Int):Option (Fw Int Unit aa):=
 (idx tb1.procs p13).bind fun x_7=>
 au (decide (i14<(len x_7.events)))
 ((kn tb1 (⟨p13,IntKind.wrap .i64 (i14+1)⟩:aa)).bind fun x_8=>
 (idx x_8 p13).bind fun x_9=>
 (idx x_9 (IntKind.wrap .i64 (i14+1))).bind fun x_10=>
 au x_10
 (some (.r (⟨p13,IntKind.wrap .i64 (i14+1)⟩:aa)))
 (some (.n (IntKind.wrap .i64 (i14+1)))))
 (some (.x ()))
def W7 (p13 i14:Int) (tb1:Trace) (vb2:aa):Option (Fw Int Unit aa):=
 (aX (fun q:Int=>E0 p13 tb1 vb2 q) i14).bind (Fw.elim
 (fun e=>some (.n (IntKind.wrap .i64 (p13+1))))
 (fun e=>some (.r e)))
def Fj (tb1:Trace) (vb2:aa) (p13:Int):Option (Fw Int Unit aa):=
 au (decide (p13<(len tb1.procs)))
 (W7 p13 0 tb1 vb2)
 (some (.x ()))
def W6 (p13:Int) (tb1:Trace) (vb2:aa):Option (aa×Int):=
 (aX (fun q:Int=>Fj tb1 vb2 q) p13).bind (Fw.elim
 (fun e=>some (⟨0,0⟩,0))
 (fun e=>some (e,10)))
def ED (tb1:Trace) (vb2:aa) (p9:Int):Option (Fw Int Unit (Int×aa)):=
 au (decide (p9<(len tb1.procs)))
 (W5 p9 0 tb1 vb2)
 (some (.x ()))
def W4 (p9:Int) (tb1:Trace) (vb2:aa):Option (aa×Int):=
 (aX (fun q:Int=>ED tb1 vb2 q) p9).bind (Fw.elim
 (fun e=>(bV tb1).bind fun x_11=>
 au x_11
 (some (⟨0,0⟩,0))
 (bO.W6 0 tb1 vb2))
 (fun e=>some (e.2,e.1)))
def bu (tb1:Trace) (vb2:aa) (p6:Int):Option (Fw Int Unit (Int×aa)):=
 au (decide (p6<(len tb1.procs)))
 (W3 p6 0 tb1 vb2)
 (some (.x ()))
def W2 (p6:Int) (tb1:Trace) (vb2:aa):Option (aa×Int):=
 (aX (fun q:Int=>bu tb1 vb2 q) p6).bind (Fw.elim
 (fun e=>bO.W4 0 tb1 vb2)
 (fun e=>some (e.2,e.1)))
def aA (tb1:Trace) (vb2:aa) (p4:Int):Option (Fw Int Unit (Int×aa)):=
 au (decide (p4<(len tb1.procs)))
 ((cR tb1 p4).bind fun x_2=>
 au (x_2==0)
 (some (.n (IntKind.wrap .i64 (p4+1))))
 (some (.r (x_2,(⟨p4,0⟩:aa)))))
 (some (.x ()))
def W1 (p4:Int) (tb1:Trace) (vb2:aa):Option (aa×Int):=
 (aX (fun q:Int=>aA tb1 vb2 q) p4).bind (Fw.elim
 (fun e=>bO.W2 0 tb1 vb2)
 (fun e=>some (e.2,e.1)))
end bO
def bO (t0:Trace):Option (aa×Int):=
 (au (decide ((len t0.procs)<1))
 (some true)
 (some (decide ((len t0.procs)>8))):Option Bool).bind fun x_1=>
 au x_1
 (some (⟨0,0⟩,1))
 (bO.W1 0 t0 (⟨0,0⟩:aa))
open bO in
instance Na (t0:Trace):Fc Sy cL (bO t0):=Fc.M 44 [enc t0] (cN 2 1 t0 (bf 9 t0.procs (bq 2 5 [20] 25 (aI 2 20 (aJ 5) (bf 2 t0.procs (aJ 2))) fun x_1=>aI 2 25 ah (cM 11 (fun qW1=>(aS [Pv 1,Pv 2,Iv 4 qW1] [Xb 1 t0,Xb 2 (⟨0,0⟩:aa)])) (fun eW1=>(0,(aS [Pv 1,Pv 2] [Xb 1 t0,Xb 2 (⟨0,0⟩:aa)]))) (fun eW1=>(aS [Pv 2,Iv 3 eW1.1] [Xb 2 eW1.2])) (fun qW1=>bf 7 t0.procs (aI 3 31 (aU 9 fun x_2 _=>c8 9 38 ah ah) ah)) (fun eW1=>cM 10 (fun qW2=>(aS [Pv 1,Pv 2,Iv 6 qW2] [Xb 1 t0,Xb 2 (⟨0,0⟩:aa)])) (fun eW2=>(2,(aS [Pv 1,Pv 2] [Xb 1 t0,Xb 2 (⟨0,0⟩:aa)]))) (fun eW2=>(aS [Pv 2,Iv 3 eW2.1] [Xb 2 eW2.2])) (fun qW2=>bf 7 t0.procs (aI 3 46 (cM 12 (fun qW3=>(aS [Pv 1,Pv 2,Iv 6 qW2,Iv 7 qW3] [Xb 1 t0,Xb 2 (⟨0,0⟩:aa)])) (fun eW3=>(4,(aS [Pv 1,Pv 2,Iv 6 qW2] [Xb 1 t0,Xb 2 (⟨0,0⟩:aa)]))) (fun eW3=>(aS [Pv 2,Iv 3 eW3.1] [Xb 2 eW3.2])) (fun qW3=>bg 8 fun x_3 _=>bf 2 x_3.events (aI 3 57 (aU 10 fun x_4 _=>c8 9 65 ah ah) ah)) (fun eW3=>ah) (fun eW3=>ah)) ah)) (fun eW2=>cM 10 (fun qW4=>(aS [Pv 1,Pv 2,Iv 9 qW4] [Xb 1 t0,Xb 2 (⟨0,0⟩:aa)])) (fun eW4=>(6,(aS [Pv 1,Pv 2] [Xb 1 t0,Xb 2 (⟨0,0⟩:aa)]))) (fun eW4=>(aS [Pv 2,Iv 3 eW4.1] [Xb 2 eW4.2])) (fun qW4=>bf 7 t0.procs (aI 3 75 (cM 12 (fun qW5=>(aS [Pv 1,Pv 2,Iv 9 qW4,Iv 10 qW5] [Xb 1 t0,Xb 2 (⟨0,0⟩:aa)])) (fun eW5=>(8,(aS [Pv 1,Pv 2,Iv 9 qW4] [Xb 1 t0,Xb 2 (⟨0,0⟩:aa)]))) (fun eW5=>(aS [Pv 2,Iv 3 eW5.1] [Xb 2 eW5.2])) (fun qW5=>bg 8 fun x_5 _=>bf 2 x_5.events (aI 3 86 (aU 19 fun x_6 _=>c8 9 97 ah ah) ah)) (fun eW5=>ah) (fun eW5=>ah)) ah)) (fun eW4=>aU 6 fun x_11 _=>aI 2 101 ah (cM 11 (fun qW6=>(aS [Pv 1,Pv 2,Iv 13 qW6] [Xb 1 t0,Xb 2 (⟨0,0⟩:aa)])) (fun eW6=>(10,(aS [Pv 2] [Xb 2 (⟨0,0⟩:aa)]))) (fun eW6=>(aS [Pv 2,Iv 3 10] [Xb 2 eW6])) (fun qW6=>bf 7 t0.procs (aI 3 107 (cM 12 (fun qW7=>(aS [Pv 1,Pv 2,Iv 13 qW6,Iv 14 qW7] [Xb 1 t0,Xb 2 (⟨0,0⟩:aa)])) (fun eW7=>(12,(aS [Pv 1,Pv 2,Iv 13 qW6] [Xb 1 t0,Xb 2 (⟨0,0⟩:aa)]))) (fun eW7=>(aS [Pv 2,Iv 3 10] [Xb 2 eW7])) (fun qW7=>bg 8 fun x_7 _=>bf 2 x_7.events (aI 3 118 (aU 19 fun x_8 _=>bg 1 fun x_9 _=>bg 3 fun x_10 _=>aI 3 134 ah ah) ah)) (fun eW7=>ah) (fun eW7=>ah)) ah)) (fun eW6=>ah) (fun eW6=>ah))) (fun eW4=>ah)) (fun eW2=>ah)) (fun eW1=>ah)))))
def mD (t0:Trace):Option Bool:=
 (bO t0).bind fun x_1=>
 some (x_1.2==0)
instance M6 (t0:Trace):Fc Sy cL (mD t0):=Fc.M 17 [enc t0] (cN 2 1 t0 (aU 6 fun x_1 _=>ah))
def nQ (c0:Sl Int) (p1:Int):Option (Sl Int):=
 (lg (Sl.row []:Sl Int) c0).bind fun x_1=>
 (Sl.mN x_1 p1).bind fun x_2=>
 (Sl.get x_1 x_2).bind fun x_3=>
 (Sl.mN x_1 p1).bind fun x_4=>
 (Sl.put x_1 x_4 (IntKind.wrap .i64 (x_3+1):Int)).bind fun x_5=>
 some x_5
instance N8 (c0:Sl Int) (p1:Int):Fc Sy cL (nQ c0 p1):=Fc.N 107 [enc c0,.int .i64 p1] (vL 9 6 8 fun x_1 _=>pG .i64 9 8 fun x_2 _=>uT 0 8 0 1 false (fun x_3=>.int .i64 x_3) fun x_3 _=>pG .i64 1 8 fun x_4 _=>D0 0 8 (.int .i64 (IntKind.wrap .i64 (x_3+1))) fun x_5 _=>ah)
namespace j7
def aA (counts1:Sl Int) (tb2:Trace) (p5:Int):Option (Fw Int Unit Unit):=
 au (decide (p5<(len counts1)))
 ((idx counts1 p5).bind fun x_1=>
 (au (decide (x_1<0))
 (some true)
 ((idx counts1 p5).bind fun x_2=>
 (idx tb2.procs p5).bind fun x_3=>
 some (decide (x_2>(len x_3.events)))):Option Bool).bind fun x_4=>
 au x_4
 (some (.r ()))
 (some (.n (IntKind.wrap .i64 (p5+1)))))
 (some (.x ()))
def W1 (counts1:Sl Int) (p5:Int) (tb2:Trace):Option Bool:=
 (aX (fun q:Int=>aA counts1 tb2 q) p5).bind (Fw.elim
 (fun e=>some true)
 (fun e=>some false))
end j7
def j7 (t0:Trace) (counts1:Sl Int):Option Bool:=
 au ((len counts1)==(len t0.procs))
 (j7.W1 counts1 0 t0)
 (some false)
open j7 in
instance Qx (t0:Trace) (counts1:Sl Int):Fc Sy cL (j7 t0 counts1):=Fc.M 127 [enc t0,enc counts1] (cN 2 2 t0 (bf 7 counts1 (bf 2 t0.procs (c8 3 11 (cM 11 (fun qW1=>(aS [Cv 1 counts1,Pv 2,Iv 5 qW1] [Xb 2 t0])) (fun eW1=>(0,(aS [] []))) (fun eW1=>(aS [Bv 4 false] [])) (fun qW1=>bf 6 counts1 (aI 3 15 (bg 9 fun x_1 _=>bq 3 13 [23] 36 (aI 3 23 (aJ 13) (bg 2 fun x_2 _=>bg 4 fun x_3 _=>bf 2 x_3.events (aJ 2))) fun x_4=>aI 2 36 ah ah) ah)) (fun eW1=>ah) (fun eW1=>ah)) ah))))
namespace cz
def bu (counts1:Sl Int) (p5:Int) (tb2:Trace) (i6:Int):Option (Fw Int Unit Unit):=
 (idx counts1 p5).bind fun x_1=>
 au (decide (i6<x_1))
 ((idx tb2.procs p5).bind fun x_2=>
 (idx x_2.events i6).bind fun x_3=>
 au (x_3.kind==3)
 ((cC tb2 2 x_3.message).bind fun x_4=>
 (idx counts1 x_4.proc).bind fun x_5=>
 au (decide (x_4.index>x_5))
 (some (.r ()))
 (some (.n (IntKind.wrap .i64 (i6+1)))))
 (some (.n (IntKind.wrap .i64 (i6+1)))))
 (some (.x ()))
def W2 (counts1:Sl Int) (p5 i6:Int) (tb2:Trace):Option (Fw Int Unit Unit):=
 (aX (fun q:Int=>bu counts1 p5 tb2 q) i6).bind (Fw.elim
 (fun e=>some (.n (IntKind.wrap .i64 (p5+1))))
 (fun e=>some (.r ())))
def aA (counts1:Sl Int) (tb2:Trace) (p5:Int):Option (Fw Int Unit Unit):=
 au (decide (p5<(len counts1)))
 (W2 counts1 p5 0 tb2)
 (some (.x ()))
def W1 (counts1:Sl Int) (p5:Int) (tb2:Trace):Option Bool:=
 (aX (fun q:Int=>aA counts1 tb2 q) p5).bind (Fw.elim
 (fun e=>some true)
 (fun e=>some false))
end cz
def cz (t0:Trace) (counts1:Sl Int):Option Bool:=
 cz.W1 counts1 0 t0
open cz in
instance Hf (t0:Trace) (counts1:Sl Int):Fc Sy cL (cz t0 counts1):=Fc.M 128 [enc t0,enc counts1] (cN 2 2 t0 (cM 11 (fun qW1=>(aS [Cv 1 counts1,Pv 2,Iv 5 qW1] [Xb 2 t0])) (fun eW1=>(0,(aS [] []))) (fun eW1=>(aS [Bv 4 false] [])) (fun qW1=>bf 6 counts1 (aI 3 12 (cM 12 (fun qW2=>(aS [Cv 1 counts1,Pv 2,Iv 5 qW1,Iv 6 qW2] [Xb 2 t0])) (fun eW2=>(2,(aS [Cv 1 counts1,Pv 2,Iv 5 qW1] [Xb 2 t0]))) (fun eW2=>(aS [Bv 4 false] [])) (fun qW2=>bg 7 fun x_1 _=>aI 4 20 (bg 10 fun x_2 _=>bg 3 fun x_3 _=>kB 2 7 0 x_3 (aI 9 34 (aU 6 fun x_4 _=>bg 11 fun x_5 _=>aI 4 46 ah ah) ah)) ah) (fun eW2=>ah) (fun eW2=>ah)) ah)) (fun eW1=>ah) (fun eW1=>ah)))
def tc (t0:Trace) (c1:Sl Int):Option Bool:=
 (j7 t0 c1).bind fun x_1=>
 (au x_1
 ((cz t0 c1).bind fun x_2=>
 some x_2)
 (some false):Option Bool).bind fun x_3=>
 some x_3
instance Rq (t0:Trace) (c1:Sl Int):Fc Sy cL (tc t0 c1):=Fc.M 106 [enc t0,enc c1] (cN 2 2 t0 (aU 7 fun x_1 _=>bq 1 4 [1,2,8] 12 (aI 1 8 (aU 2 fun x_2 _=>aJ 1) (aJ 4)) fun x_3=>ah))
namespace gq
def aA (c1:Sl Int) (tb2:Trace) (out5:Sl (Sl Int)) (p6:Int):Option (Fw ((Sl (Sl Int))×Int) (Sl (Sl Int)) Empty):=
 au (decide (p6<(len c1)))
 ((idx c1 p6).bind fun x_1=>
 (idx tb2.procs p6).bind fun x_2=>
 (au (decide (x_1<(len x_2.events)))
 ((nQ c1 p6).bind fun x_3=>
 (tc tb2 x_3).bind fun x_4=>
 some x_4)
 (some false):Option Bool).bind fun x_5=>
 au x_5
 ((nQ c1 p6).bind fun x_6=>
 (gy out5 (x_6:Sl Int)).bind fun x_7=>
 some (.n (x_7,IntKind.wrap .i64 (p6+1))))
 (some (.n (out5,IntKind.wrap .i64 (p6+1)))))
 (some (.x out5))
def W1 (c1:Sl Int) (out5:Sl (Sl Int)) (p6:Int) (tb2:Trace):Option (Sl (Sl Int)):=
 (aX (fun q:(Sl (Sl Int))×Int=>aA c1 tb2 q.1 q.2) (out5,p6)).bind (Fw.elim
 (fun e=>some e)
 (fun e=>Empty.elim e))
end gq
def gq (t0:Trace) (c1:Sl Int):Option (Sl (Sl Int)):=
 gq.W1 c1 (Sl.nil:Sl (Sl Int)) 0 t0
open gq in
instance N4 (t0:Trace) (c1:Sl Int):Fc Sy cL (gq t0 c1):=Fc.N 84 [enc t0,enc c1] (cN 2 2 t0 (iW 17 (fun qW1=>(aS [Cv 1 c1,Pv 2,Ov 5,Iv 6 qW1.2] [Xb 2 t0,Lb 2005 qW1.1])) (fun eW1=>(0,(aS [Ov 5] [Lb 2005 eW1]))) (fun qW1=>bf 7 c1 (aI 3 10 (bg 9 fun x_1 _=>bg 4 fun x_2 _=>bf 2 x_2.events (LB 2 6 [30,29] (fun x_5=>(aS [Cv 1 c1,Pv 2,Ov 5,Iv 6 qW1.2,Bv 10 true,Bv 31 x_5] [Xb 2 t0,Lb 2005 qW1.1])) (aI 2 25 (aU 3 fun x_3 _=>jW 0 fun x_4 _=>aJ 1) (aJ 6)) fun x_5=>aI 2 31 (aU 5 fun x_6 _=>vV 0 36 ([x_6]:List (Sl Int)) (ot 0 2005 36 37 fun x_7 _=>ah)) ah)) ah)) (fun eW1=>ah)))
namespace eu
def aA (c0:Sl Int) (n3 i4:Int):Option (Fw (Int×Int) Int Empty):=
 au (decide (i4<(len c0)))
 ((idx c0 i4).bind fun x_1=>
 some (.n (IntKind.wrap .i64 (n3+x_1),IntKind.wrap .i64 (i4+1))))
 (some (.x n3))
def W1 (c0:Sl Int) (n3 i4:Int):Option Int:=
 (aX (fun q:Int×Int=>aA c0 q.1 q.2) (n3,i4)).bind (Fw.elim
 (fun e=>some e)
 (fun e=>Empty.elim e))
end eu
def eu (c0:Sl Int):Option Int:=
 eu.W1 c0 0 0
open eu in
instance Od (c0:Sl Int):Fc Sy cL (eu c0):=Fc.M 129 [enc c0] (iW 18 (fun qW1=>(aS [Cv 0 c0,Iv 3 qW1.1,Iv 4 qW1.2] [])) (fun eW1=>(0,(aS [Iv 3 eW1] []))) (fun qW1=>bf 6 c0 (aI 3 8 (bg 9 fun x_1 _=>ah) ah)) (fun eW1=>ah))
namespace eW
def aA (a0 b1:Sl Int) (i5:Int):Option (Fw Int Unit Bool):=
 au (decide (i5<(len a0)))
 ((idx a0 i5).bind fun x_5=>
 (idx b1 i5).bind fun x_6=>
 au (x_5==x_6)
 (some (.n (IntKind.wrap .i64 (i5+1))))
 ((idx a0 i5).bind fun x_7=>
 (idx b1 i5).bind fun x_8=>
 some (.r (decide (x_7<x_8)))))
 (some (.x ()))
def W1 (a0 b1:Sl Int) (i5:Int):Option Bool:=
 (aX (fun q:Int=>aA a0 b1 q) i5).bind (Fw.elim
 (fun e=>some false)
 (fun e=>some e))
end eW
def eW (a0 b1:Sl Int):Option Bool:=
 (eu a0).bind fun x_1=>
 (eu b1).bind fun x_2=>
 au (x_1==x_2)
 (eW.W1 a0 b1 0)
 ((eu a0).bind fun x_3=>
 (eu b1).bind fun x_4=>
 some (decide (x_3<x_4)))
open eW in
instance LV (a0 b1:Sl Int):Fc Sy cL (eW a0 b1):=Fc.M 108 [enc a0,enc b1] (aU 9 fun x_1 _=>aU 1 fun x_2 _=>c8 3 10 (cM 11 (fun qW1=>(aS [Cv 0 a0,Cv 1 b1,Iv 5 qW1] [])) (fun eW1=>(0,(aS [] []))) (fun eW1=>(aS [Bv 4 eW1] [])) (fun qW1=>bf 6 a0 (aI 3 19 (bg 9 fun x_5 _=>bg 3 fun x_6 _=>c8 4 30 ah (bg 5 fun x_7 _=>bg 3 fun x_8 _=>ah)) ah)) (fun eW1=>ah) (fun eW1=>ah)) (aU 4 fun x_3 _=>aU 1 fun x_4 _=>ah))
namespace dA
def aA (a0 b1:Sl Int) (i5:Int):Option (Fw Int Unit Unit):=
 au (decide (i5<(len a0)))
 ((idx a0 i5).bind fun x_1=>
 (idx b1 i5).bind fun x_2=>
 au (x_1==x_2)
 (some (.n (IntKind.wrap .i64 (i5+1))))
 (some (.r ())))
 (some (.x ()))
def W1 (a0 b1:Sl Int) (i5:Int):Option Bool:=
 (aX (fun q:Int=>aA a0 b1 q) i5).bind (Fw.elim
 (fun e=>some true)
 (fun e=>some false))
end dA
def dA (a0 b1:Sl Int):Option Bool:=
 au ((len a0)==(len b1))
 (dA.W1 a0 b1 0)
 (some false)
open dA in
instance Jm (a0 b1:Sl Int):Fc Sy cL (dA a0 b1):=Fc.M 109 [enc a0,enc b1] (bf 9 a0 (bf 1 b1 (c8 3 10 (cM 11 (fun qW1=>(aS [Cv 0 a0,Cv 1 b1,Iv 5 qW1] [])) (fun eW1=>(0,(aS [] []))) (fun eW1=>(aS [Bv 4 false] [])) (fun qW1=>bf 6 a0 (aI 3 14 (bg 9 fun x_1 _=>bg 3 fun x_2 _=>c8 4 25 ah ah) ah)) (fun eW1=>ah) (fun eW1=>ah)) ah)))
namespace eZ
def aA (l0:Sl (Sl Int)) (c1:Sl Int) (at_5:Int):Option (Fw Int Int Empty):=
 (au (decide (at_5<(len l0)))
 ((idx l0 at_5).bind fun x_1=>
 (eW x_1 c1).bind fun x_2=>
 some x_2)
 (some false):Option Bool).bind fun x_3=>
 au x_3
 (some (.n (IntKind.wrap .i64 (at_5+1))))
 (some (.x at_5))
def W1 (l0:Sl (Sl Int)) (c1:Sl Int) (at_5:Int):Option (Sl (Sl Int)):=
 (aX (fun q:Int=>aA l0 c1 q) at_5).bind (Fw.elim
 (fun e=>(au (decide (e<(len l0)))
 ((idx l0 e).bind fun x_4=>
 (dA x_4 c1).bind fun x_5=>
 some x_5)
 (some false):Option Bool).bind fun x_6=>
 au x_6
 (some l0)
 ((dZ l0 none (some e)).bind fun x_7=>
 (lg (Sl.row []:Sl (Sl Int)) x_7).bind fun x_8=>
 (gy x_8 (c1:Sl Int)).bind fun x_9=>
 (dZ l0 (some e) none).bind fun x_10=>
 (lg x_9 x_10).bind fun x_11=>
 some x_11))
 (fun e=>Empty.elim e))
end eZ
def eZ (l0:Sl (Sl Int)) (c1:Sl Int):Option (Sl (Sl Int)):=
 eZ.W1 l0 c1 0
open eZ in
instance LQ (l0:Sl (Sl Int)) (c1:Sl Int):Fc Sy cL (eZ l0 c1):=Fc.N 85 [enc l0,enc c1] (iW 13 (fun qW1=>(aS [Cv 0 l0,Cv 1 c1,Iv 5 qW1] [])) (fun eW1=>(0,(aS [Cv 0 l0,Cv 1 c1,Iv 5 eW1] []))) (fun qW1=>bf 6 l0 (bq 2 7 [11] 18 (aI 2 11 (bg 2 fun x_1 _=>aU 2 fun x_2 _=>aJ 1) (aJ 7)) fun x_3=>aI 2 18 ah ah)) (fun eW1=>bf 7 l0 (bq 2 7 [25] 32 (aI 2 25 (bg 2 fun x_4 _=>aU 2 fun x_5 _=>aJ 1) (aJ 7)) fun x_6=>aI 2 32 ah (vV 5 34 ([]:List (Sl Int)) (yQ 2 false true [.int .i64 eW1] fun x_7 _=>vL 0 34 38 fun x_8 _=>vV 7 41 ([c1]:List (Sl Int)) (ot 0 38 41 42 fun x_9 _=>yQ 8 true false [.int .i64 eW1] fun x_10 _=>vL 0 42 47 fun x_11 _=>ah))))))
namespace dz
def dK (level4 out5:Sl (Sl Int)) (i7:Int) (l8:Sl (Sl Int)) (tb1:Trace) (more6:Sl (Sl Int)) (k9:Int):Option (Fw ((Sl (Sl Int))×Int) (Sl (Sl Int)) Empty):=
 au (decide (k9<(len l8)))
 ((idx l8 k9).bind fun x_5=>
 (eZ more6 x_5).bind fun x_6=>
 some (.n (x_6,IntKind.wrap .i64 (k9+1))))
 (some (.x more6))
def W3 (level4 out5 more6:Sl (Sl Int)) (i7:Int) (l8:Sl (Sl Int)) (k9:Int) (tb1:Trace):Option (Fw ((Sl (Sl Int))×Int) (Sl (Sl Int)) Empty):=
 (aX (fun q:(Sl (Sl Int))×Int=>dK level4 out5 i7 l8 tb1 q.1 q.2) (more6,k9)).bind (Fw.elim
 (fun e=>some (.n (e,IntKind.wrap .i64 (i7+1))))
 (fun e=>Empty.elim e))
def bu (level4 out5:Sl (Sl Int)) (tb1:Trace) (more6:Sl (Sl Int)) (i7:Int):Option (Fw ((Sl (Sl Int))×Int) (Sl (Sl Int)) Empty):=
 au (decide (i7<(len level4)))
 ((idx level4 i7).bind fun x_3=>
 (gq tb1 x_3).bind fun x_4=>
 W3 level4 out5 more6 i7 x_4 0 tb1)
 (some (.x more6))
def W2 (level4 out5 more6:Sl (Sl Int)) (i7:Int) (tb1:Trace):Option (Fw ((Sl (Sl Int))×(Sl (Sl Int))) (Sl (Sl Int)) Unit):=
 (aX (fun q:(Sl (Sl Int))×Int=>bu level4 out5 tb1 q.1 q.2) (more6,i7)).bind (Fw.elim
 (fun e=>some (.n (e,out5)))
 (fun e=>Empty.elim e))
def aA (tb1:Trace) (level4 out5:Sl (Sl Int)):Option (Fw ((Sl (Sl Int))×(Sl (Sl Int))) (Sl (Sl Int)) Unit):=
 au (decide ((len level4)>0))
 ((lg out5 level4).bind fun x_2=>
 au (decide ((len x_2)>5000))
 (some (.r ()))
 (W2 level4 x_2 (Sl.nil:Sl (Sl Int)) 0 tb1))
 (some (.x out5))
def W1 (level4 out5:Sl (Sl Int)) (tb1:Trace):Option ((Sl (Sl Int))×Bool):=
 (aX (fun q:(Sl (Sl Int))×(Sl (Sl Int))=>aA tb1 q.1 q.2) (level4,out5)).bind (Fw.elim
 (fun e=>some (e,true))
 (fun e=>some ((Sl.nil:Sl (Sl Int)),false)))
end dz
def dz (t0:Trace):Option ((Sl (Sl Int))×Bool):=
 (nJ (len t0.procs) (0:Int)).bind fun x_1=>
 dz.W1 (Sl.row [x_1]:Sl (Sl Int)) (Sl.nil:Sl (Sl Int)) t0
open dz in
instance N2 (t0:Trace):Fc Sy cL (dz t0):=Fc.N 47 [enc t0] (cN 2 1 t0 (bf 8 t0.procs (Ib 0 13 fun x_1 _=>vV 1 14 ([x_1]:List (Sl Int)) (cM 13 (fun qW1=>(aS [Pv 1,Cv 4 qW1.1,Ov 5] [Xb 1 t0,Lb 2005 qW1.2])) (fun eW1=>(0,(aS [Ov 5] [Lb 2005 eW1]))) (fun eW1=>(aS [Ov 2,Bv 3 false] [Lb 2002 (Sl.nil:Sl (Sl Int))])) (fun qW1=>bf 7 qW1.1 (aI 3 17 (vL 8 2005 20 fun x_2 _=>Cq 7 20 x_2 (aI 3 23 ah (iW 18 (fun qW2=>(aS [Pv 1,Cv 4 qW1.1,Ov 5,Cv 6 qW2.1,Iv 7 qW2.2] [Xb 1 t0,Lb 2005 x_2])) (fun eW2=>(2,(aS [Pv 1,Ov 5,Cv 6 eW2] [Xb 1 t0,Lb 2005 x_2]))) (fun qW2=>bf 8 qW1.1 (aI 3 27 (bg 10 fun x_3 _=>aU 1 fun x_4 _=>iW 12 (fun qW3=>(aS [Pv 1,Cv 4 qW1.1,Ov 5,Cv 6 qW3.1,Iv 7 qW2.2,Cv 8 x_4,Iv 9 qW3.2] [Xb 1 t0,Lb 2005 x_2])) (fun eW3=>(4,(aS [Pv 1,Cv 4 qW1.1,Ov 5,Cv 6 eW3,Iv 7 qW2.2] [Xb 1 t0,Lb 2005 x_2]))) (fun qW3=>bf 8 x_4 (aI 3 39 (bg 9 fun x_5 _=>aU 1 fun x_6 _=>ah) ah)) (fun eW3=>ah)) ah)) (fun eW2=>ah)))) ah)) (fun eW1=>ah) (fun eW1=>ah)))))
def qf (t0:Trace):Option ((Sl (Sl Int))×Bool):=
 (dz t0).bind fun x_1=>
 some (x_1.1,x_1.2)
instance La (t0:Trace):Fc Sy cL (qf t0):=Fc.N 19 [enc t0] (cN 2 1 t0 (aU 7 fun x_1 _=>ah))
def nq (t0:Trace):Option ((Sl (Sl Int))×Bool):=
 (gU t0).bind fun x_1=>
 (au (decide (x_1>24))
 (some true)
 ((mD t0).bind fun x_2=>
 some (!x_2)):Option Bool).bind fun x_3=>
 au x_3
 (some (Sl.nil,false))
 ((qf t0).bind fun x_4=>
 (au x_4.2
 (some (decide ((len x_4.1)≤250)))
 (some false):Option Bool).bind fun x_5=>
 some (x_4.1,x_5))
instance Lh (t0:Trace):Fc Sy cL (nq t0):=Fc.N 7 [enc t0] (cN 2 1 t0 (aU 8 fun x_1 _=>bq 2 4 [9] 13 (aI 2 9 (aJ 4) (aU 1 fun x_2 _=>aJ 2)) fun x_3=>aI 2 13 ah (aU 6 fun x_4 _=>bq 12 4 [4,21] 25 (aI 12 21 (bf 1 x_4.1 (aJ 2)) (aJ 4)) fun x_5=>ah)))
def ku (x0 low1 high2:Int):Option Bool:=
 (au (decide (x0≥low1))
 (some (decide (x0≤high2)))
 (some false):Option Bool).bind fun x_1=>
 some x_1
instance Sg (x0 low1 high2:Int):Fc Sy cL (ku x0 low1 high2):=Fc.M 110 [.int .i64 x0,.int .i64 low1,.int .i64 high2] (bq 11 4 [0,2,10] 14 (aI 11 10 (aJ 4) (aJ 4)) fun x_1=>ah)
def iO (c0:Int):Option Bool:=
 (au (decide (c0≥97))
 (some (decide (c0≤122)))
 (some false):Option Bool).bind fun x_1=>
 (au x_1
 (some true)
 ((au (decide (c0≥65))
 (some (decide (c0≤90)))
 (some false):Option Bool).bind fun x_2=>
 some x_2):Option Bool).bind fun x_3=>
 some x_3
instance NQ (c0:Int):Fc Sy cL (iO c0):=Fc.M 144 [.int .u8 c0] (bq 10 3 [5] 8 (aI 10 5 (aJ 3) (aJ 3)) fun x_1=>bq 1 7 [0,9] 16 (aI 1 9 (aJ 7) (bq 3 3 [0,12] 15 (aI 3 12 (aJ 3) (aJ 3)) fun x_2=>aJ 1)) fun x_3=>ah)
def lQ (c0:Int):Option Bool:=
 (au (decide (c0≥48))
 (some (decide (c0≤57)))
 (some false):Option Bool).bind fun x_1=>
 some x_1
instance N5 (c0:Int):Fc Sy cL (lQ c0):=Fc.M 145 [.int .u8 c0] (bq 10 3 [0,5] 8 (aI 10 5 (aJ 3) (aJ 3)) fun x_1=>ah)
namespace dh
def aA (s0:ByteArray) (v18:Int) (v19:Int):Option (Fw Int Unit Unit):=
 au (decide (v19<v18))
 ((iq s0 v19).bind fun x_5=>
 (iO x_5).bind fun x_6=>
 (au x_6
 (some false)
 ((iq s0 v19).bind fun x_7=>
 (lQ x_7).bind fun x_8=>
 some (!x_8)):Option Bool).bind fun x_9=>
 (au x_9
 ((iq s0 v19).bind fun x_10=>
 some (!(x_10==95)))
 (some false):Option Bool).bind fun x_11=>
 au x_11
 (some (.r ()))
 (some (.n (IntKind.wrap .i64 (v19+1)))))
 (some (.x ()))
def W1 (s0:ByteArray) (v18 v19:Int):Option Bool:=
 (aX (fun q:Int=>aA s0 v18 q) v19).bind (Fw.elim
 (fun e=>some true)
 (fun e=>some false))
end dh
def dh (s0:ByteArray):Option Bool:=
 (au (ByteArray.toList s0==ByteArray.toList ByteArray.empty)
 (some true)
 (some (decide (((ByteArray.size s0:Nat):Int)>16))):Option Bool).bind fun x_1=>
 (au x_1
 (some true)
 ((iq s0 0).bind fun x_2=>
 (iO x_2).bind fun x_3=>
 some (!x_3)):Option Bool).bind fun x_4=>
 au x_4
 (some false)
 (dh.W1 s0 ((ByteArray.size s0:Nat):Int) 0)
open dh in
instance MC (s0:ByteArray):Fc Sy cL (dh s0):=Fc.M 130 [.str s0] (bq 11 4 [6] 10 (aI 11 6 (aJ 4) (aJ 4)) fun x_1=>bq 1 5 [11] 16 (aI 1 11 (aJ 5) (wS 1 .i64 fun x_2 _=>aU 0 fun x_3 _=>aJ 2)) fun x_4=>aI 2 16 ah (cM 13 (fun qW1=>(aS [(0,.v (.str s0)),Iv 18 ((ByteArray.size s0:Nat):Int),Iv 19 qW1] [])) (fun eW1=>(0,(aS [] []))) (fun eW1=>(aS [Bv 2 false] [])) (fun qW1=>aI 7 20 (wS 15 .i64 fun x_5 _=>aU 0 fun x_6 _=>bq 2 6 [27] 33 (c8 2 27 (aJ 6) (wS 2 .i64 fun x_7 _=>aU 0 fun x_8 _=>aJ 2)) fun x_9=>bq 1 5 [3,34] 39 (aI 1 34 (wS 2 .i64 fun x_10 _=>aJ 2) (aJ 5)) fun x_11=>aI 2 39 ah ah) ah) (fun eW1=>ah) (fun eW1=>ah)))
def fF (y0 v1:bl):Option Bool:=
 some (ByteArray.toList y0.name==ByteArray.toList v1.name)
instance D4 (y0 v1:bl):Fc Sy cL (fF y0 v1):=Fc.M 132 [enc y0,.fptr (cells v1)] (cN 2 2 y0 ah)
namespace dY
def aA (s0:Sl bl) (v7:Int) (v8:Int) (p1:bl→Option Bool):Option (Fw Int Unit Int):=
 au (decide (v8<v7))
 ((idx s0 v8).bind fun x_1=>
 (p1 x_1).bind fun x_2=>
 au x_2
 (some (.r v8))
 (some (.n (IntKind.wrap .i64 (v8+1)))))
 (some (.x ()))
def W1 (s0:Sl bl) (v7 v8:Int) (p1:bl→Option Bool):Option Int:=
 (aX (fun q:Int=>aA s0 v7 q p1) v8).bind (Fw.elim
 (fun e=>some (-1))
 (fun e=>some e))
end dY
def dY (s0:Sl bl) (p1:bl→Option Bool):Option Int:=
 dY.W1 s0 (len s0) 0 p1
open dY in
abbrev s6 (g1:FuncId) (e1:List V) (p1:bl→Option Bool) (h1:oP Sy cL g1 e1 (fun z:bl=>[enc z]) (fun r:Bool=>[.bool r]) p1) (s0:Sl bl):Fc Sy cL (dY s0 p1):=Fc.M 146 [enc s0,.clo g1 [] e1] (bf 9 s0 (cM 5 (fun qW1=>(aS [Cv 0 s0,(1,.v (.clo g1 [] e1)),Iv 7 (len s0),Iv 8 qW1] [])) (fun eW1=>(0,(aS [] []))) (fun eW1=>(aS [Iv 4 eW1] [])) (fun qW1=>aI 7 9 (bg 16 fun x_1 _=>xk 1 h1.f x_1 fun x_2 _=>aI 2 16 ah ah) ah) (fun eW1=>ah) (fun eW1=>ah))) (l:=by simp[h1.d])
def fM (s0:Sl bl) (p1:bl→Option Bool):Option Bool:=
 (dY s0 p1).bind fun x_1=>
 some (decide (x_1≥0))
abbrev rB (g1:FuncId) (e1:List V) (p1:bl→Option Bool) (h1:oP Sy cL g1 e1 (fun z:bl=>[enc z]) (fun r:Bool=>[.bool r]) p1) (s0:Sl bl):Fc Sy cL (fM s0 p1):=Fc.M 131 [enc s0,.clo g1 [] e1] (aU (F:=s6 g1 e1 p1 h1 s0) 9 fun x_1 _=>ah) (l:=by simp[h1.d])
def fI (w0 v1:Var):Option Bool:=
 some (ByteArray.toList w0.name==ByteArray.toList v1.name)
instance D5 (w0 v1:Var):Fc Sy cL (fI w0 v1):=Fc.M 134 [enc w0,.fptr (cells v1)] (ah)
namespace eP
def aA (s0:Sl Var) (v7:Int) (v8:Int) (p1:Var→Option Bool):Option (Fw Int Unit Int):=
 au (decide (v8<v7))
 ((idx s0 v8).bind fun x_1=>
 (p1 x_1).bind fun x_2=>
 au x_2
 (some (.r v8))
 (some (.n (IntKind.wrap .i64 (v8+1)))))
 (some (.x ()))
def W1 (s0:Sl Var) (v7 v8:Int) (p1:Var→Option Bool):Option Int:=
 (aX (fun q:Int=>aA s0 v7 q p1) v8).bind (Fw.elim
 (fun e=>some (-1))
 (fun e=>some e))
end eP
def eP (s0:Sl Var) (p1:Var→Option Bool):Option Int:=
 eP.W1 s0 (len s0) 0 p1
open eP in
abbrev tM (g1:FuncId) (e1:List V) (p1:Var→Option Bool) (h1:oP Sy cL g1 e1 (fun z:Var=>[enc z]) (fun r:Bool=>[.bool r]) p1) (s0:Sl Var):Fc Sy cL (eP s0 p1):=Fc.M 147 [enc s0,.clo g1 [] e1] (bf 9 s0 (cM 5 (fun qW1=>(aS [Cv 0 s0,(1,.v (.clo g1 [] e1)),Iv 7 (len s0),Iv 8 qW1] [])) (fun eW1=>(0,(aS [] []))) (fun eW1=>(aS [Iv 4 eW1] [])) (fun qW1=>aI 7 9 (bg 16 fun x_1 _=>xk 1 h1.f x_1 fun x_2 _=>aI 2 16 ah ah) ah) (fun eW1=>ah) (fun eW1=>ah))) (l:=by simp[h1.d])
def fW (s0:Sl Var) (p1:Var→Option Bool):Option Bool:=
 (eP s0 p1).bind fun x_1=>
 some (decide (x_1≥0))
abbrev rP (g1:FuncId) (e1:List V) (p1:Var→Option Bool) (h1:oP Sy cL g1 e1 (fun z:Var=>[enc z]) (fun r:Bool=>[.bool r]) p1) (s0:Sl Var):Fc Sy cL (fW s0 p1):=Fc.M 133 [enc s0,.clo g1 [] e1] (aU (F:=tM g1 e1 p1 h1 s0) 9 fun x_1 _=>ah) (l:=by simp[h1.d])
namespace b9
def aA (v32:Sl Var) (v33:Int) (xb5:bl) (v34:Int):Option (Fw Int Unit Int):=
 au (decide (v34<v33))
 ((idx v32 v34).bind fun x_6=>
 (dh x_6.name).bind fun x_7=>
 (au x_7
 ((dZ xb5.vars none (some v34)).bind fun x_8=>
 (fW x_8 (fun z=>fI z x_6)).bind fun x_9=>
 some x_9)
 (some true):Option Bool).bind fun x_10=>
 au x_10
 (some (.r 13))
 ((ku x_6.init_ (-1073741824) 1073741824).bind fun x_11=>
 au x_11
 (some (.n (IntKind.wrap .i64 (v34+1))))
 (some (.r 2))))
 (some (.x ()))
def W1 (v32:Sl Var) (v33 v34:Int) (xb5:bl):Option Int:=
 (aX (fun q:Int=>aA v32 v33 xb5 q) v34).bind (Fw.elim
 (fun e=>au (decide ((len xb5.events)>64))
 (some 5)
 (some 0))
 (fun e=>some e))
end b9
def b9 (t0:Trace) (p1:Int):Option Int:=
 (idx t0.procs p1).bind fun x_1=>
 (dh x_1.name).bind fun x_2=>
 (au x_2
 ((dZ t0.procs none (some p1)).bind fun x_3=>
 (fM x_3 (fun z=>fF z x_1)).bind fun x_4=>
 some x_4)
 (some true):Option Bool).bind fun x_5=>
 au x_5
 (some 13)
 (au (decide ((len x_1.vars)>8))
 (some 5)
 (b9.W1 x_1.vars (len x_1.vars) 0 x_1))
open b9 in
instance Ge (t0:Trace) (p1:Int):Fc Sy cL (b9 t0 p1):=Fc.M 111 [enc t0,.int .i64 p1] (cN 2 2 t0 (bg 8 fun x_1 _=>kB 2 5 0 x_1 (aU 8 fun x_2 _=>bq 2 7 [1,2,18] 25 (c8 2 18 (yQ 3 false true [.int .i64 p1] fun x_3 _=>jW (F:=rB 132 [.fptr (cells x_1)] (fun z=>fF z x_1) oP.yh x_3) 1 fun x_4 _=>aJ 1) (aJ 7)) fun x_5=>aI 3 13 ah (bf 5 x_1.vars (aI 4 26 ah (bf 9 x_1.vars (cM 5 (fun qW1=>(aS [Pv 5,Cv 32 x_1.vars,Iv 33 (len x_1.vars),Iv 34 qW1] [Xb 5 x_1])) (fun eW1=>(1,(aS [Pv 5] [Xb 5 x_1]))) (fun eW1=>(aS [Iv 4 eW1] [])) (fun qW1=>aI 7 35 (bg 8 fun x_6 _=>aU 11 fun x_7 _=>bq 2 7 [6,44] 51 (c8 2 44 (yQ 3 false true [.int .i64 qW1] fun x_8 _=>jW (F:=rP 134 [.fptr (cells x_6)] (fun z=>fI z x_6) oP.yh x_8) 1 fun x_9 _=>aJ 1) (aJ 7)) fun x_10=>aI 3 39 ah (aU 5 fun x_11 _=>c8 4 52 ah ah)) ah) (fun eW1=>bf 7 x_1.events (aI 3 61 ah ah)) (fun eW1=>ah))))))))
def gu (t0:Trace):Option Trace:=
 some t0
instance ME (t0:Trace):Fc Sy cL (gu t0):=Fc.NE (fun r:Trace=>[(.clo 124 [] [.fptr (cells r)])]) 100 [enc t0] (cN 2 1 t0 ah)
namespace dB
def J1 (p1:Int) (v19:Bool) (tb3:Trace) (eb5:Event):Option Bool:=
 au v19
 ((ku eb5.peer 0 (IntKind.wrap .i64 ((len tb3.procs)-1))).bind fun x_2=>
 (au x_2
 (some (!(eb5.peer==p1)))
 (some false):Option Bool).bind fun x_3=>
 (au x_3
 ((ku eb5.message 0 199).bind fun x_4=>
 some x_4)
 (some false):Option Bool).bind fun x_5=>
 some x_5)
 (some false)
end dB
def dB (t0:Trace) (p1:Int) (e2:Event):Option Bool:=
 au (e2.kind==1)
 ((au (e2.peer==0)
 (some (e2.message==0))
 (some false):Option Bool).bind fun x_1=>
 some x_1)
 (au (e2.kind==2)
 (dB.J1 p1 true t0 e2)
 (dB.J1 p1 (e2.kind==3) t0 e2))
open dB in
instance MV (t0:Trace) (p1:Int) (e2:Event):Fc Sy cL (dB t0 p1 e2):=Fc.M 135 [enc t0,.int .i64 p1,enc e2] (cN 2 3 t0 (cN 0 5 e2 (aI 17 9 (bq 7 4 [5,14] 18 (aI 7 14 (aJ 4) (aJ 4)) fun x_1=>ah) (aI 8 19 (vJ 4 (aI 0 19 (bf 7 t0.procs (aU 1 fun x_2 _=>bq 1 5 [1,29] 34 (aI 1 29 (aJ 5) (aJ 5)) fun x_3=>bq 1 4 [5,35] 39 (aI 1 35 (aU 2 fun x_4 _=>aJ 1) (aJ 4)) fun x_5=>ah)) ah)) (vJ 7 (aI 0 19 (bf 7 t0.procs (aU 1 fun x_2 _=>bq 1 5 [1,29] 34 (aI 1 29 (aJ 5) (aJ 5)) fun x_3=>bq 1 4 [5,35] 39 (aI 1 35 (aU 2 fun x_4 _=>aJ 1) (aJ 4)) fun x_5=>ah)) ah))))))
def gl (b0 v1:Assign):Option Bool:=
 some (b0.var==v1.var)
instance ER (b0 v1:Assign):Fc Sy cL (gl b0 v1):=Fc.M 137 [enc b0,.fptr (cells v1)] (ah)
namespace dI
def aA (s0:Sl Assign) (v7:Int) (v8:Int) (p1:Assign→Option Bool):Option (Fw Int Unit Int):=
 au (decide (v8<v7))
 ((idx s0 v8).bind fun x_1=>
 (p1 x_1).bind fun x_2=>
 au x_2
 (some (.r v8))
 (some (.n (IntKind.wrap .i64 (v8+1)))))
 (some (.x ()))
def W1 (s0:Sl Assign) (v7 v8:Int) (p1:Assign→Option Bool):Option Int:=
 (aX (fun q:Int=>aA s0 v7 q p1) v8).bind (Fw.elim
 (fun e=>some (-1))
 (fun e=>some e))
end dI
def dI (s0:Sl Assign) (p1:Assign→Option Bool):Option Int:=
 dI.W1 s0 (len s0) 0 p1
open dI in
abbrev rU (g1:FuncId) (e1:List V) (p1:Assign→Option Bool) (h1:oP Sy cL g1 e1 (fun z:Assign=>[enc z]) (fun r:Bool=>[.bool r]) p1) (s0:Sl Assign):Fc Sy cL (dI s0 p1):=Fc.M 148 [enc s0,.clo g1 [] e1] (bf 9 s0 (cM 5 (fun qW1=>(aS [Cv 0 s0,(1,.v (.clo g1 [] e1)),Iv 7 (len s0),Iv 8 qW1] [])) (fun eW1=>(0,(aS [] []))) (fun eW1=>(aS [Iv 4 eW1] [])) (fun qW1=>aI 7 9 (bg 16 fun x_1 _=>xk 1 h1.f x_1 fun x_2 _=>aI 2 16 ah ah) ah) (fun eW1=>ah) (fun eW1=>ah))) (l:=by simp[h1.d])
def eV (s0:Sl Assign) (p1:Assign→Option Bool):Option Bool:=
 (dI s0 p1).bind fun x_1=>
 some (decide (x_1≥0))
abbrev qq (g1:FuncId) (e1:List V) (p1:Assign→Option Bool) (h1:oP Sy cL g1 e1 (fun z:Assign=>[enc z]) (fun r:Bool=>[.bool r]) p1) (s0:Sl Assign):Fc Sy cL (eV s0 p1):=Fc.M 136 [enc s0,.clo g1 [] e1] (aU (F:=rU g1 e1 p1 h1 s0) 9 fun x_1 _=>ah) (l:=by simp[h1.d])
namespace bE
def bu (v52:Sl Assign) (v53:Int) (eb5:Event) (xb7:bl) (v54:Int):Option (Fw Int Unit Int):=
 au (decide (v54<v53))
 ((idx v52 v54).bind fun x_6=>
 (ku x_6.var 0 (IntKind.wrap .i64 ((len xb7.vars)-1))).bind fun x_7=>
 (au x_7
 ((ku x_6.value (-1073741824) 1073741824).bind fun x_8=>
 some (!x_8))
 (some true):Option Bool).bind fun x_9=>
 au x_9
 (some (.r 2))
 ((dZ eb5.assign none (some v54)).bind fun x_10=>
 (eV x_10 (fun z=>gl z x_6)).bind fun x_11=>
 au x_11
 (some (.r 8))
 (some (.n (IntKind.wrap .i64 (v54+1))))))
 (some (.x ()))
def W2 (v52:Sl Assign) (v53 v54:Int) (eb5:Event) (xb7:bl):Option Int:=
 (aX (fun q:Int=>bu v52 v53 eb5 xb7 q) v54).bind (Fw.elim
 (fun e=>some 0)
 (fun e=>some e))
def J1 (last8:Int) (tb3:Trace) (idb4:aa) (eb5:Event) (xb7:bl):Option Int:=
 (dB tb3 idb4.proc eb5).bind fun x_3=>
 au x_3
 ((ku eb5.time 0 1099511627776).bind fun x_4=>
 (au x_4
 (some (decide (eb5.time<last8)))
 (some true):Option Bool).bind fun x_5=>
 au x_5
 (some 11)
 (au (decide ((len eb5.assign)>8))
 (some 5)
 (bE.W2 eb5.assign (len eb5.assign) 0 eb5 xb7)))
 (some 3)
theorem tC (last8:Int) (tb3:Trace) (idb4:aa) (eb5:Event) (xb7:bl):Le ((J1 last8 tb3 idb4 eb5 xb7).bind (fun r=>some [.int .i64 r])) (bz Sy cL (oE (tr Tx 112)) (rE (tb Tx 112) [1,1,1,1,0] [] (aS [Pv 3,Pv 4,Pv 5,Pv 7,Iv 8 last8] [Xb 3 tb3,Xb 4 idb4,Xb 5 eb5,Xb 7 xb7]))):=
 aU 8 fun x_3 _=>c8 4 28 (aU 5 fun x_4 _=>bq 2 5 [8,40] 45 (c8 2 40 (aJ 5) (aJ 5)) fun x_5=>aI 3 35 ah (bf 5 eb5.assign (aI 4 46 ah (bf 9 eb5.assign (cM 5 (fun qW2=>(aS [Pv 5,Pv 7,Cv 52 eb5.assign,Iv 53 (len eb5.assign),Iv 54 qW2] [Xb 5 eb5,Xb 7 xb7])) (fun eW2=>(1,(aS [] []))) (fun eW2=>(aS [Iv 6 eW2] [])) (fun qW2=>aI 7 55 (bg 8 fun x_6 _=>bf 13 xb7.vars (aU 1 fun x_7 _=>bq 2 5 [68] 73 (c8 2 68 (aU 2 fun x_8 _=>aJ 2) (aJ 5)) fun x_9=>aI 3 59 ah (yQ 6 false true [.int .i64 qW2] fun x_10 _=>jW (F:=qq 137 [.fptr (cells x_6)] (fun z=>gl z x_6) oP.yh x_10) 1 fun x_11 _=>aI 3 74 ah ah))) ah) (fun eW2=>ah) (fun eW2=>ah)))))) ah
end bE
def bE (t0:Trace) (id1:aa) (e2:Event):Option Int:=
 (idx t0.procs id1.proc).bind fun x_1=>
 au (decide (id1.index>1))
 ((idx x_1.events (IntKind.wrap .i64 (id1.index-2))).bind fun x_2=>
 bE.J1 x_2.time t0 id1 e2 x_1)
 (bE.J1 0 t0 id1 e2 x_1)
open bE in
instance IY (t0:Trace) (id1:aa) (e2:Event):Fc Sy cL (bE t0 id1 e2):=Fc.M 112 [enc t0,enc id1,enc e2] (cN 2 3 t0 (cN 1 5 e2 (bg 9 fun x_1 _=>kB 2 7 0 x_1 (aI 15 19 (bg 7 fun x_2 _=>A9 6 (tC x_2.time t0 id1 e2 x_1)) (A9 4 (tC 0 t0 id1 e2 x_1))))))
def nj (e0:Event) (v1 v2:Int):Option Bool:=
 (au (e0.kind==2)
 (some (e0.message==v1))
 (some false):Option Bool).bind fun x_1=>
 (au x_1
 (some (e0.peer==v2))
 (some false):Option Bool).bind fun x_2=>
 some x_2
instance Lo (e0:Event) (v1 v2:Int):Fc Sy cL (nj e0 v1 v2):=Fc.M 149 [enc e0,.fptr (cells v1),.fptr (cells v2)] (cN 2 3 e0 (bq 9 5 [1,8] 13 (aI 9 8 (aJ 5) (aJ 5)) fun x_1=>bq 1 5 [2,3,14] 19 (aI 1 14 (aJ 5) (aJ 5)) fun x_2=>ah))
def qI (t0:Trace) (p1 m2 to_3:Int):Option Bool:=
 (idx t0.procs p1).bind fun x_1=>
 (fB x_1.events (fun z=>nj z m2 to_3)).bind fun x_2=>
 some x_2
instance N1 (t0:Trace) (p1 m2 to_3:Int):Fc Sy cL (qI t0 p1 m2 to_3):=Fc.M 138 [enc t0,.int .i64 p1,.int .i64 m2,.int .i64 to_3] (cN 2 4 t0 (bg 10 fun x_1 _=>jW (F:=kP 149 [.fptr (cells m2),.fptr (cells to_3)] (fun z=>nj z m2 to_3) oP.yh x_1.events) 3 fun x_2 _=>ah))
namespace di
def ny (vk0_12 tb1:Trace) (vb2:Option (bK 200 aK)) (vb3:aa) (vb4:Int) (x:aa×Event) (vb10:bK 200 aK):Option (Fw (bK 200 aK) Empty (aa×Int×(bK 200 aK))):=
 au (x.2.kind==2)
 ((bK.at vb10 x.2.message).bind fun x_2=>
 au (decide (x_2.from_.index>0))
 (some (.r (x.1,8,vb10)))
 ((bK.at vb10 x.2.message).bind fun x_3=>
 some (.n (bK.set vb10 x.2.message (⟨x.1,x_3.to_⟩:aK)))))
 (au (x.2.kind==3)
 ((bK.at vb10 x.2.message).bind fun x_4=>
 au (decide (x_4.to_.index>0))
 (some (.r (x.1,8,vb10)))
 ((qI tb1 x.2.peer x.2.message x.1.proc).bind fun x_5=>
 au x_5
 ((bK.at vb10 x.2.message).bind fun x_6=>
 some (.n (bK.set vb10 x.2.message (⟨x_6.from_,x.1⟩:aK))))
 (some (.r (x.1,7,vb10)))))
 (some (.n vb10)))
def E1 (vk0_12 tb1:Trace) (vb2:Option (bK 200 aK)) (vb3:aa) (vb4:Int) (vb10:bK 200 aK):Option ((Option (bK 200 aK))×aa×Int):=
 (gB vk0_12).bind fun its=>(kY (fun (x:aa×Event) (q:bK 200 aK)=>ny vk0_12 tb1 vb2 vb3 vb4 x q) its vb10).bind (Fw.tI
 (fun q=>some (some q,⟨0,0⟩,0))
 (fun e=>Empty.elim e)
 (fun e=>some ((none:Option (bK 200 aK)),e.1,e.2.1)))
end di
def di (t0:Trace):Option ((Option (bK 200 aK))×aa×Int):=
 (gu t0).bind fun x_1=>
 di.E1 x_1 t0 (none:Option (bK 200 aK)) (⟨0,0⟩:aa) 0 (bK.Hu 200 (⟨⟨0,0⟩,⟨0,0⟩⟩:aK))
open di in
instance Gl (t0:Trace):Fc Sy cL (di t0):=Fc.N 113 [enc t0] (cN 2 1 t0 (cN 8 10 (bK.Hu 200 (⟨⟨0,0⟩,⟨0,0⟩⟩:aK)) (Qu 0 5 (aS [Pv 1,Pv 2,Pv 3,Pv 4,Pv 10] [Xb 1 t0,(2,.box [cv (none:Option (bK 200 aK))]),Xb 3 (⟨0,0⟩:aa),(4,.box [iv 0]),Xb 10 (bK.Hu 200 (⟨⟨0,0⟩,⟨0,0⟩⟩:aK))]) [cv (none:Option (bK 200 aK))] (by simp only[aS,uf,nu,oK,nD,oL,qp,oT,qb,mS,oO,uE,pT,pS,pW,qd,si,rV,oM,qv];rfl) (aU 7 fun x_1 _=>Ga fun its hits=>Ch 4 [Pv 1,Pv 2,Pv 3,Pv 4,Pv 5,(12,.v (.clo 124 [] [.fptr (cells x_1)]))] (fun qE1=>[Xb 1 t0,(2,.box [cv (none:Option (bK 200 aK))]),Xb 3 (⟨0,0⟩:aa),(4,.box [iv 0]),(5,.box [.ptr 10 0]),Xb 10 qE1]) (fun eE1=>Empty.elim eE1) (fun eE1=>[Xb 1 t0,(2,.box [cv (none:Option (bK 200 aK))]),Xb 3 eE1.1,(4,.box [iv eE1.2.1]),(5,.box [.ptr 10 0]),Xb 10 eE1.2.2]) (uY x_1 its hits) (fun xE1 qE1=>Qu 2 6 ⟨[Pv 1,Pv 2,Pv 3,Pv 4,Pv 5,(12,.v (.clo 124 [] [.fptr (cells x_1)])),Cv 13 xE1.1,Cv 14 xE1.2],[Xb 1 t0,(2,.box [cv (none:Option (bK 200 aK))]),Xb 3 (⟨0,0⟩:aa),(4,.box [iv 0]),(5,.box [.ptr 10 0]),Xb 10 qE1],[1,2,3,4,5],[],true,0⟩ [iv 0,iv 0] (by simp only[aS,uf,nu,oK,nD,oL,qp,oT,qb,mS,oO,uE,pT,pS,pW,qd,si,rV,oM,qv];rfl) (Qu 4 7 ⟨[Pv 1,Pv 2,Pv 3,Pv 4,Pv 5,(12,.v (.clo 124 [] [.fptr (cells x_1)])),Cv 14 xE1.2,Pv 6],[Xb 1 t0,(2,.box [cv (none:Option (bK 200 aK))]),Xb 3 (⟨0,0⟩:aa),(4,.box [iv 0]),(5,.box [.ptr 10 0]),Xb 10 qE1,Xb 6 xE1.1],[1,2,3,4,5],[],true,0⟩ [iv 0,iv 0,iv 0,iv 0,.v .aF] (by simp only[aS,uf,nu,oK,nD,oL,qp,oT,qb,mS,oO,uE,pT,pS,pW,qd,si,rV,oM,qv];rfl) (kB 0 7 0 xE1.2 (Au 1 (aI 22 19 (Co 7 .i64 10 fun x_2 h_2=>Me 2 1 false 10 qE1 xE1.2.message 1 x_2 h_2 (.int .i64 x_2.from_.index) (by rfl) (aI 3 28 ah (Co 8 .i64 10 fun x_3 h_3=>Ma 1 2 10 qE1 xE1.2.message 0 x_3 h_3 (⟨xE1.1,x_3.to_⟩:aK) (enc xE1.1) (by rfl) ah))) (aI 7 36 (Co 7 .i64 10 fun x_4 h_4=>Me 2 1 false 10 qE1 xE1.2.message 3 x_4 h_4 (.int .i64 x_4.to_.index) (by rfl) (aI 3 45 ah (aU 12 fun x_5 _=>c8 3 54 (Co 8 .i64 10 fun x_6 h_6=>Ma 1 2 10 qE1 xE1.2.message 2 x_6 h_6 (⟨x_6.from_,xE1.1⟩:aK) (enc xE1.1) (by rfl) ah) ah))) ah)))))) (fun qE1=>R1 13 (aS [Pv 2,Pv 3,Pv 4] [(2,.box [.ptr 10 0]),Xb 3 (⟨0,0⟩:aa),(4,.box [iv 0]),Xb 10 qE1]) [.ptr 10 0,cv (⟨0,0⟩:aa),iv 0] (MZ (d:=10) (x:=qE1) (vs:=[enc (⟨0,0⟩:aa),.int .i64 0]) (by kernel_rfl)) (by kernel_rfl)) (fun x=>Empty.elim x) (fun eE1=>ah)))))
namespace gC
def J1 (lq1:bK 200 aK) (out7:Sl aa) (p8:Sl Event) (xb5:aa):Option (Sl aa):=
 (idx p8 (IntKind.wrap .i64 (xb5.index-1))).bind fun x_2=>
 (au (x_2.kind==2)
 ((bK.at lq1 x_2.message).bind fun x_3=>
 some (decide (x_3.to_.index>0)))
 (some false):Option Bool).bind fun x_4=>
 au x_4
 ((bK.at lq1 x_2.message).bind fun x_5=>
 (gy out7 (x_5.to_:aa)).bind fun x_6=>
 some x_6)
 (some out7)
theorem tC (lq1:bK 200 aK) (out7:Sl aa) (p8:Sl Event) (xb5:aa):Le ((J1 lq1 out7 p8 xb5).bind (fun r=>some [enc r])) (bz Sy cL (oE (tr Tx 139)) (rE (tb Tx 139) [1,1,1,1,0,0] [] (aS [Kv 1 lq1,Pv 5,Ov 7,Cv 8 p8] [Xb 5 xb5,Lb 2007 out7]))):=
 bg 7 fun x_2 _=>kB 2 9 0 x_2 (bq 8 10 [40] 50 (aI 8 40 (L7 4 .i64 fun x_3 h_3=>KM 0 2 lq1 x_2.message 0 x_3 h_3 (KM 0 1 lq1 x_2.message 2 x_3 h_3 (L8 0 1 false lq1 x_2.message 3 x_3 h_3 (.int .i64 x_3.to_.index) (by rfl) (aJ 2)))) (aJ 10)) fun x_4=>aI 2 50 (L7 7 .i64 fun x_5 h_5=>KM 0 2 lq1 x_2.message 0 x_5 h_5 (L8 0 2 true lq1 x_2.message 2 x_5 h_5 (enc x_5.to_) (by rfl) (ot 1 2007 59 60 fun x_6 _=>ah))) ah)
end gC
def gC (t0:Trace) (l1:bK 200 aK) (x2:aa):Option (Sl aa):=
 (idx t0.procs x2.proc).bind fun x_1=>
 au (decide (x2.index<(len x_1.events)))
 (gC.J1 l1 (Sl.row [⟨x2.proc,IntKind.wrap .i64 (x2.index+1)⟩]:Sl aa) x_1.events x2)
 (gC.J1 l1 (Sl.nil:Sl aa) x_1.events x2)
open gC in
instance Oe (t0:Trace) (l1:bK 200 aK) (x2:aa):Fc Sy cL (gC t0 l1 x2):=Fc.N 139 [enc t0,.fptr (cells l1),enc x2] (cN 2 3 t0 (bg 15 fun x_1 _=>bf 11 x_1.events (aI 3 21 (Mi 10 29 30 .aF (⟨x2.proc,IntKind.wrap .i64 (x2.index+1)⟩:aa) (A9 5 (tC l1 (Sl.row [⟨x2.proc,IntKind.wrap .i64 (x2.index+1)⟩]:Sl aa) x_1.events x2))) (A9 5 (tC l1 (Sl.nil:Sl aa) x_1.events x2)))))
namespace dN
def dK (vk0_13:Trace) (v36:Sl aa) (v37:Int) (tb2:Trace) (lb3:bK 200 aK) (vb4:aa) (vb5:Bool) (idb6:aa) (rest8:Sl aa) (v38:Int) (vb16:Mo aa Bool):Option (Fw ((Sl aa)×Int×(Mo aa Bool)) ((Sl aa)×(Mo aa Bool)) Unit):=
 au (decide (v38<v37))
 ((idx v36 v38).bind fun x_6=>
 au (E3 x_6 idb6)
 (some (.r ()))
 (au (A1 vb16 x_6 false)
 (some (.n (rest8,IntKind.wrap .i64 (v38+1),vb16)))
 ((gy rest8 (x_6:aa)).bind fun x_7=>
 some (.n (x_7,IntKind.wrap .i64 (v38+1),oF vb16 x_6 true)))))
 (some (.x (rest8,vb16)))
def W3 (rest8:Sl aa) (vk0_13:Trace) (v36:Sl aa) (v37 v38:Int) (tb2:Trace) (lb3:bK 200 aK) (vb4:aa) (vb5:Bool) (idb6:aa) (vb16:Mo aa Bool):Option (Fw ((Sl aa)×(Mo aa Bool)) Unit Unit):=
 (aX (fun q:(Sl aa)×Int×(Mo aa Bool)=>dK vk0_13 v36 v37 tb2 lb3 vb4 vb5 idb6 q.1 q.2.1 q.2.2) (rest8,v38,vb16)).bind (Fw.elim
 (fun e=>some (.n (e.1,e.2)))
 (fun e=>some (.r ())))
def bu (vk0_13 tb2:Trace) (lb3:bK 200 aK) (vb4:aa) (vb5:Bool) (idb6:aa) (rest8:Sl aa) (vb16:Mo aa Bool):Option (Fw ((Sl aa)×(Mo aa Bool)) Unit Unit):=
 au (decide ((len rest8)>0))
 ((Sl.mN rest8 (IntKind.wrap .i64 ((len rest8)-1))).bind fun x_2=>
 (Sl.get rest8 x_2).bind fun x_3=>
 (lJ rest8 none (some (IntKind.wrap .i64 ((len rest8)-1)))).bind fun x_4=>
 (gC tb2 lb3 x_3).bind fun x_5=>
 W3 x_4 vk0_13 x_5 (len x_5) 0 tb2 lb3 vb4 vb5 idb6 vb16)
 (some (.x ()))
def W2 (rest8:Sl aa) (vk0_13 tb2:Trace) (lb3:bK 200 aK) (vb4:aa) (vb5:Bool) (idb6:aa) (vb16:Mo aa Bool):Option (Fw Unit Empty aa):=
 (aX (fun q:(Sl aa)×(Mo aa Bool)=>bu vk0_13 tb2 lb3 vb4 vb5 idb6 q.1 q.2) (rest8,vb16)).bind (Fw.elim
 (fun e=>some (.n ()))
 (fun e=>some (.r idb6)))
def ny (vk0_13 tb2:Trace) (lb3:bK 200 aK) (vb4:aa) (vb5:Bool) (x:aa×Event):Option (Fw Unit Empty aa):=
 W2 (Sl.row [x.1]:Sl aa) vk0_13 tb2 lb3 vb4 vb5 x.1 []
def E1 (vk0_13 tb2:Trace) (lb3:bK 200 aK) (vb4:aa) (vb5:Bool):Option (aa×Bool):=
 (gB vk0_13).bind fun its=>(kY (fun (x:aa×Event) (q:Unit)=>ny vk0_13 tb2 lb3 vb4 vb5 x) its ()).bind (Fw.tI
 (fun q=>some (⟨0,0⟩,false))
 (fun e=>Empty.elim e)
 (fun e=>some (e,true)))
end dN
def dN (t0:Trace) (l1:bK 200 aK):Option (aa×Bool):=
 (gu t0).bind fun x_1=>
 dN.E1 x_1 t0 l1 (⟨0,0⟩:aa) false
open dN in
instance NY (t0:Trace) (l1:bK 200 aK):Fc Sy cL (dN t0 l1):=Fc.M 114 [enc t0,.fptr (cells l1)] (cN 2 2 t0 (aU 9 fun x_1 _=>Ga fun its hits=>Ch 4 [Pv 2,Pv 3,Pv 4,Pv 5,(13,.v (.clo 124 [] [.fptr (cells x_1)]))] (fun qE1=>[Xb 2 t0,(3,.box [cp l1]),Xb 4 (⟨0,0⟩:aa),(5,.box [bv false])]) (fun eE1=>Empty.elim eE1) (fun eE1=>[Xb 2 t0,(3,.box [cp l1]),Xb 4 eE1,(5,.box [bv true])]) (uY x_1 its hits) (fun xE1 qE1=>Au 4 (cM 18 (fun qW2=>⟨[Pv 2,Pv 3,Pv 4,Pv 5,Pv 6,(7,.mp 16),Ov 8,(13,.v (.clo 124 [] [.fptr (cells x_1)]))],[Xb 2 t0,(3,.box [cp l1]),Xb 4 (⟨0,0⟩:aa),(5,.box [bv false]),Xb 6 xE1.1,(16,sM qW2.2),Lb 2008 qW2.1],[2,3,4,5],[],true,0⟩) (fun eW2=>(2,⟨[Pv 2,Pv 3,Pv 4,Pv 5,(13,.v (.clo 124 [] [.fptr (cells x_1)]))],[Xb 2 t0,(3,.box [cp l1]),Xb 4 (⟨0,0⟩:aa),(5,.box [bv false])],[2,3,4,5],[],true,0⟩)) (fun eW2=>⟨[],[Xb 2 t0,(3,.box [cp l1]),Xb 4 xE1.1,(5,.box [bv true])],[2,3,4,5],[],true,0⟩) (fun qW2=>Cq 6 2008 qW2.1 (aI 3 21 (Cq 8 2008 qW2.1 (pG .i64 1 2008 fun x_2 _=>uT 0 2008 0 2 true (fun x_3=>.agg [.int .i64 x_3.proc,.int .i64 x_3.index]) fun x_3 _=>Cq 8 2008 qW2.1 (R7 1 false true 2008 32 [.int .i64 (IntKind.wrap .i64 ((len qW2.1)-1))] fun x_4 _=>aU 8 fun x_5 _=>bf 0 x_5 (cM 6 (fun qW3=>⟨[Pv 2,Pv 3,Pv 4,Pv 5,Pv 6,(7,.mp 16),Ov 8,(13,.v (.clo 124 [] [.fptr (cells x_1)])),Cv 36 x_5,Iv 37 (len x_5),Iv 38 qW3.2.1],[Xb 2 t0,(3,.box [cp l1]),Xb 4 (⟨0,0⟩:aa),(5,.box [bv false]),Xb 6 xE1.1,(16,sM qW3.2.2),Lb 2008 qW3.1],[2,3,4,5],[],true,0⟩) (fun eW3=>(4,⟨[Pv 2,Pv 3,Pv 4,Pv 5,Pv 6,(7,.mp 16),Ov 8,(13,.v (.clo 124 [] [.fptr (cells x_1)]))],[Xb 2 t0,(3,.box [cp l1]),Xb 4 (⟨0,0⟩:aa),(5,.box [bv false]),Xb 6 xE1.1,(16,sM eW3.2),Lb 2008 eW3.1],[2,3,4,5],[],true,0⟩)) (fun eW3=>⟨[],[Xb 2 t0,(3,.box [cp l1]),Xb 4 xE1.1,(5,.box [bv true])],[2,3,4,5],[],true,0⟩) (fun qW3=>aI 8 39 (bg 7 fun x_6 _=>aI 13 44 ah (Rx 7 16 qW3.2.2 x_6 false (c8 3 49 ah (Us 5 16 qW3.2.2 x_6 true (ot 6 2008 54 55 fun x_7 _=>ah))))) ah) (fun eW3=>ah) (fun eW3=>ah))))) ah)) (fun eW2=>ah) (fun eW2=>ah))) (fun qE1=>ah) (fun x=>Empty.elim x) (fun eE1=>ah)))
namespace fc
def EB (vk0_36 tb1:Trace) (vb2:aa) (vb3:Int) (x:aa×Event):Option (Fw Unit Empty (aa×Int)):=
 (bE tb1 x.1 x.2).bind fun x_3=>
 au (x_3==0)
 (some (.n ()))
 (some (.r (x.1,x_3)))
def E2 (vk0_36 tb1:Trace) (vb2:aa) (vb3:Int):Option (aa×Int):=
 (gB vk0_36).bind fun its=>(kY (fun (x:aa×Event) (q:Unit)=>EB vk0_36 tb1 vb2 vb3 x) its ()).bind (Fw.tI
 (fun q=>(di tb1).bind fun x_5=>
 au (x_5.2.2==0)
 ((x_5.1).bind fun x_6=>
 (dN tb1 x_6).bind fun x_7=>
 au x_7.2
 (some (x_7.1,10))
 (some (⟨0,0⟩,0)))
 (some (x_5.2.1,x_5.2.2)))
 (fun e=>Empty.elim e)
 (fun e=>some (e.1,e.2)))
def aA (v22:Int) (tb1:Trace) (vb2:aa) (vb3:Int) (v23:Int):Option (Fw Int Unit (aa×Int)):=
 au (decide (v23<v22))
 ((b9 tb1 v23).bind fun x_2=>
 au (x_2==0)
 (some (.n (IntKind.wrap .i64 (v23+1))))
 (some (.r ((⟨v23,0⟩:aa),x_2))))
 (some (.x ()))
def W1 (v22 v23:Int) (tb1:Trace) (vb2:aa) (vb3:Int):Option (aa×Int):=
 (aX (fun q:Int=>aA v22 tb1 vb2 vb3 q) v23).bind (Fw.elim
 (fun e=>(gu tb1).bind fun x_4=>
 fc.E2 x_4 tb1 vb2 vb3)
 (fun e=>some (e.1,e.2)))
end fc
def fc (t0:Trace):Option (aa×Int):=
 (ku (len t0.procs) 1 8).bind fun x_1=>
 au x_1
 (fc.W1 (len t0.procs) 0 t0 (⟨0,0⟩:aa) 0)
 (some (⟨0,0⟩,1))
open fc in
instance Oc (t0:Trace):Fc Sy cL (fc t0):=Fc.M 89 [enc t0] (cN 2 1 t0 (bf 9 t0.procs (aU 0 fun x_1 _=>c8 3 18 (bf 8 t0.procs (cM 5 (fun qW1=>(aS [Pv 1,Pv 2,Pv 3,Iv 22 (len t0.procs),Iv 23 qW1] [Xb 1 t0,Xb 2 (⟨0,0⟩:aa),(3,.box [iv 0])])) (fun eW1=>(0,(aS [Pv 1,Pv 2,Pv 3] [Xb 1 t0,Xb 2 (⟨0,0⟩:aa),(3,.box [iv 0])]))) (fun eW1=>(aS [Pv 2,Pv 3] [Xb 2 eW1.1,(3,.box [iv eW1.2])])) (fun qW1=>aI 7 24 (aU 15 fun x_2 _=>c8 9 30 ah ah) ah) (fun eW1=>aU 6 fun x_4 _=>Ga fun its hits=>Ch 4 [Pv 1,Pv 2,Pv 3,(36,.v (.clo 124 [] [.fptr (cells x_4)]))] (fun qE2=>[Xb 1 t0,Xb 2 (⟨0,0⟩:aa),(3,.box [iv 0])]) (fun eE2=>Empty.elim eE2) (fun eE2=>[Xb 1 t0,Xb 2 eE2.1,(3,.box [iv eE2.2])]) (uY x_4 its hits) (fun xE2 qE2=>kB 8 7 0 xE2.2 (Au 1 (aU 7 fun x_3 _=>c8 9 44 ah ah))) (fun qE2=>aU 5 fun x_5 _=>c8 17 54 (Uw 8 (fun oo=>(aS [Pv 2,Pv 3,(36,.v (.clo 124 [] [.fptr (cells x_4)])),Pv 10,Iv 11 x_5.2.2,Bv 54 false,Cv 58 t0,Cv 59 oo] [Xb 1 t0,Xb 2 (⟨0,0⟩:aa),(3,.box [iv 0]),Xb 10 x_5.2.1])) fun x_6 _=>aU 0 fun x_7 _=>aI 13 63 ah ah) ah) (fun x=>Empty.elim x) (fun eE2=>ah)) (fun eW1=>ah))) ah)))
def ct (t0:Trace):Option Bool:=
 (fc t0).bind fun x_1=>
 some (x_1.2==0)
instance N3 (t0:Trace):Fc Sy cL (ct t0):=Fc.M 53 [enc t0] (cN 2 1 t0 (aU 6 fun x_1 _=>ah))
def oc (t0:Trace) (p1 q2:Int):Option Int:=
 (ct t0).bind fun x_1=>
 au x_1
 ((au (decide (p1<0))
 (some true)
 (some (decide (p1≥(len t0.procs)))):Option Bool).bind fun x_2=>
 (au x_2
 (some true)
 (some (decide (q2<0))):Option Bool).bind fun x_3=>
 (au x_3
 (some true)
 (some (decide (q2≥(len t0.procs)))):Option Bool).bind fun x_4=>
 (au x_4
 (some true)
 (some (p1==q2)):Option Bool).bind fun x_5=>
 au x_5
 (some 2)
 (some 0))
 (some 1)
instance L5 (t0:Trace) (p1 q2:Int):Fc Sy cL (oc t0 p1 q2):=Fc.M 29 [enc t0,.int .i64 p1,.int .i64 q2] (cN 2 3 t0 (bf 7 t0.procs (aU 8 fun x_1 _=>c8 4 11 (bq 6 4 [18] 22 (aI 6 18 (aJ 4) (aJ 4)) fun x_2=>bq 1 3 [23] 26 (aI 1 23 (aJ 3) (aJ 3)) fun x_3=>bq 1 4 [7,27] 31 (aI 1 27 (aJ 4) (aJ 4)) fun x_4=>bq 1 4 [1,2,32] 36 (aI 1 32 (aJ 4) (aJ 4)) fun x_5=>aI 3 15 ah ah) ah)))
namespace ei
def bu (p1:Int) (v49:Sl Event) (v50:Int) (v51:Int) (vb6 wb7:aV):Option (Fw (Int×aV×aV) (aV×aV) Empty):=
 au (decide (v51<v50))
 ((idx v49 v51).bind fun x_5=>
 (au (x_5.kind==3)
 (some (x_5.peer==p1))
 (some false):Option Bool).bind fun x_6=>
 au x_6
 ((gy wb7.received (IntKind.wrap .i64 (v51+1):Int)).bind fun x_7=>
 some (.n (IntKind.wrap .i64 (v51+1),(⟨vb6.p,vb6.q,Sl.nil,Sl.nil⟩:aV),(⟨wb7.p,wb7.q,wb7.sent,x_7⟩:aV))))
 (some (.n (IntKind.wrap .i64 (v51+1),(⟨vb6.p,vb6.q,Sl.nil,Sl.nil⟩:aV),wb7))))
 (some (.x ((⟨vb6.p,vb6.q,Sl.nil,Sl.nil⟩:aV),wb7)))
def W2 (p1:Int) (v49:Sl Event) (v50 v51:Int) (vb6 wb7:aV):Option aV:=
 (aX (fun q:Int×aV×aV=>bu p1 v49 v50 q.1 q.2.1 q.2.2) (v51,vb6,wb7)).bind (Fw.elim
 (fun e=>some e.2)
 (fun e=>Empty.elim e))
def aA (p1 q2:Int) (v20:Sl Event) (v21:Int) (tb3:Trace) (v22:Int) (vb6 wb7:aV):Option (Fw (Int×aV×aV) (aV×aV) Empty):=
 au (decide (v22<v21))
 ((idx v20 v22).bind fun x_2=>
 (au (x_2.kind==2)
 (some (x_2.peer==q2))
 (some false):Option Bool).bind fun x_3=>
 au x_3
 ((gy wb7.sent (IntKind.wrap .i64 (v22+1):Int)).bind fun x_4=>
 some (.n (IntKind.wrap .i64 (v22+1),(⟨vb6.p,vb6.q,Sl.nil,Sl.nil⟩:aV),(⟨wb7.p,wb7.q,x_4,Sl.nil⟩:aV))))
 (some (.n (IntKind.wrap .i64 (v22+1),(⟨vb6.p,vb6.q,Sl.nil,Sl.nil⟩:aV),(⟨wb7.p,wb7.q,wb7.sent,Sl.nil⟩:aV)))))
 (some (.x ((⟨vb6.p,vb6.q,Sl.nil,Sl.nil⟩:aV),(⟨wb7.p,wb7.q,wb7.sent,Sl.nil⟩:aV))))
def W1 (p1 q2:Int) (v20:Sl Event) (v21 v22:Int) (tb3:Trace) (vb6 wb7:aV):Option aV:=
 (aX (fun q:Int×aV×aV=>aA p1 q2 v20 v21 tb3 q.1 q.2.1 q.2.2) (v22,vb6,wb7)).bind (Fw.elim
 (fun e=>(idx tb3.procs q2).bind fun x_8=>
 ei.W2 p1 x_8.events (len x_8.events) 0 (⟨e.1.p,e.1.q,Sl.nil,Sl.nil⟩:aV) (⟨e.2.p,e.2.q,e.2.sent,Sl.nil⟩:aV))
 (fun e=>Empty.elim e))
end ei
def ei (t0:Trace) (p1 q2:Int):Option aV:=
 (idx t0.procs p1).bind fun x_1=>
 ei.W1 p1 q2 x_1.events (len x_1.events) 0 t0 (⟨0,0,Sl.nil,Sl.nil⟩:aV) (⟨p1,q2,Sl.nil,Sl.nil⟩:aV)
open ei in
instance Nt (t0:Trace) (p1 q2:Int):Fc Sy cL (ei t0 p1 q2):=Fc.N 30 [enc t0,.int .i64 p1,.int .i64 q2] (cN 2 3 t0 (Uf 7 (⟨p1,q2,Sl.nil,Sl.nil⟩:aV) [.int .i64 p1,.int .i64 q2] [.int .i64 0,.int .i64 0,.aF,.aF] [(0,1),(1,1)] (by simp only[FX,Ij,mI,Q8,M9,OA,P8];rfl) rfl (kB 1 7 0 (⟨p1,q2,Sl.nil,Sl.nil⟩:aV) (bg 8 fun x_1 _=>bf 2 x_1.events (iW 6 (fun qW1=>(aS [Iv 1 p1,Iv 2 q2,Pv 3,Pv 6,Pv 7,Cv 20 x_1.events,Iv 21 (len x_1.events),Iv 22 qW1.1] [Xb 3 t0,Xb 6 (⟨qW1.2.1.p,qW1.2.1.q,Sl.nil,Sl.nil⟩:aV),(7,.box [iv qW1.2.2.p,iv qW1.2.2.q,.own 4142,.v .aF]),Lb 4142 qW1.2.2.sent])) (fun eW1=>(0,(aS [Iv 1 p1,Iv 2 q2,Pv 3,Pv 6,Pv 7] [Xb 3 t0,Xb 6 (⟨eW1.1.p,eW1.1.q,Sl.nil,Sl.nil⟩:aV),(7,.box [iv eW1.2.p,iv eW1.2.q,.own 4142,.v .aF]),Lb 4142 eW1.2.sent]))) (fun qW1=>aI 8 23 (bg 8 fun x_2 _=>kB 3 9 0 x_2 (bq 8 5 [9,30] 35 (aI 8 30 (aJ 5) (aJ 5)) fun x_3=>aI 2 35 (ot 7 4142 40 41 fun x_4 _=>ah) ah)) ah) (fun eW1=>bg 8 fun x_8 _=>bf 2 x_8.events (iW 7 (fun qW2=>(aS [Iv 1 p1,Pv 6,Pv 7,Cv 49 x_8.events,Iv 50 (len x_8.events),Iv 51 qW2.1] [Xb 6 (⟨qW2.2.1.p,qW2.2.1.q,Sl.nil,Sl.nil⟩:aV),(7,.box [iv qW2.2.2.p,iv qW2.2.2.q,.own 4142,.own 4143]),Lb 4142 qW2.2.2.sent,Lb 4143 qW2.2.2.received])) (fun eW2=>(2,(aS [Pv 6,Pv 7] [Xb 6 (⟨eW2.1.p,eW2.1.q,Sl.nil,Sl.nil⟩:aV),(7,.box [iv eW2.2.p,iv eW2.2.q,.own 4142,.own 4143]),Lb 4142 eW2.2.sent,Lb 4143 eW2.2.received]))) (fun qW2=>aI 9 52 (bg 8 fun x_5 _=>kB 3 11 0 x_5 (bq 8 5 [11,59] 64 (aI 8 59 (aJ 5) (aJ 5)) fun x_6=>aI 2 64 (ot 7 4143 69 70 fun x_7 _=>ah) ah)) ah) (fun eW2=>kB 7 6 0 eW2.2 ah))))))))
def e9 (c0:Sl Int) (v1:Trace):Option Bool:=
 some (!((len c0)==(len v1.procs)))
instance Nl (c0:Sl Int) (v1:Trace):Fc Sy cL (e9 c0 v1):=Fc.M 99 [enc c0,.fptr (cells v1)] (bf 8 c0 (bf 2 v1.procs ah))
namespace ec
def aA (s0:Sl (Sl Int)) (v7:Int) (v8:Int) (p1:(Sl Int)→Option Bool):Option (Fw Int Unit Int):=
 au (decide (v8<v7))
 ((idx s0 v8).bind fun x_1=>
 (p1 x_1).bind fun x_2=>
 au x_2
 (some (.r v8))
 (some (.n (IntKind.wrap .i64 (v8+1)))))
 (some (.x ()))
def W1 (s0:Sl (Sl Int)) (v7 v8:Int) (p1:(Sl Int)→Option Bool):Option Int:=
 (aX (fun q:Int=>aA s0 v7 q p1) v8).bind (Fw.elim
 (fun e=>some (-1))
 (fun e=>some e))
end ec
def ec (s0:Sl (Sl Int)) (p1:(Sl Int)→Option Bool):Option Int:=
 ec.W1 s0 (len s0) 0 p1
open ec in
abbrev s7 (g1:FuncId) (e1:List V) (p1:(Sl Int)→Option Bool) (h1:oP Sy cL g1 e1 (fun z:Sl Int=>[enc z]) (fun r:Bool=>[.bool r]) p1) (s0:Sl (Sl Int)):Fc Sy cL (ec s0 p1):=Fc.M 76 [enc s0,.clo g1 [] e1] (bf 9 s0 (cM 5 (fun qW1=>(aS [Cv 0 s0,(1,.v (.clo g1 [] e1)),Iv 7 (len s0),Iv 8 qW1] [])) (fun eW1=>(0,(aS [] []))) (fun eW1=>(aS [Iv 4 eW1] [])) (fun qW1=>aI 7 9 (bg 16 fun x_1 _=>xk 1 h1.f x_1 fun x_2 _=>aI 2 16 ah ah) ah) (fun eW1=>ah) (fun eW1=>ah))) (l:=by simp[h1.d])
def gY (s0:Sl (Sl Int)) (p1:(Sl Int)→Option Bool):Option Bool:=
 (ec s0 p1).bind fun x_1=>
 some (decide (x_1≥0))
abbrev rz (g1:FuncId) (e1:List V) (p1:(Sl Int)→Option Bool) (h1:oP Sy cL g1 e1 (fun z:Sl Int=>[enc z]) (fun r:Bool=>[.bool r]) p1) (s0:Sl (Sl Int)):Fc Sy cL (gY s0 p1):=Fc.M 98 [enc s0,.clo g1 [] e1] (aU (F:=s7 g1 e1 p1 h1 s0) 9 fun x_1 _=>ah) (l:=by simp[h1.d])
def oR (t0:Trace) (l1:Sl (Sl Int)):Option Bool:=
 (ct t0).bind fun x_1=>
 (au x_1
 ((gY l1 (fun z=>e9 z t0)).bind fun x_2=>
 some (!x_2))
 (some false):Option Bool).bind fun x_3=>
 some x_3
instance Rl (t0:Trace) (l1:Sl (Sl Int)):Fc Sy cL (oR t0 l1):=Fc.M 70 [enc t0,enc l1] (cN 2 2 t0 (aU 6 fun x_1 _=>bq 1 5 [1,2,7] 12 (aI 1 7 (jW (F:=rz 99 [.fptr (cells t0)] (fun z=>e9 z t0) oP.yh l1) 2 fun x_2 _=>aJ 2) (aJ 5)) fun x_3=>ah))
namespace gA
def aA (v7:Sl Int) (v8:Int) (tb2:Trace) (v9:Int):Option (Fw Int Unit Unit):=
 au (decide (v9<v8))
 ((idx v7 v9).bind fun x_1=>
 (au (decide (x_1<0))
 (some true)
 ((idx tb2.procs v9).bind fun x_2=>
 some (decide (x_1>(len x_2.events)))):Option Bool).bind fun x_3=>
 au x_3
 (some (.r ()))
 (some (.n (IntKind.wrap .i64 (v9+1)))))
 (some (.x ()))
def W1 (v7:Sl Int) (v8 v9:Int) (tb2:Trace):Option Bool:=
 (aX (fun q:Int=>aA v7 v8 tb2 q) v9).bind (Fw.elim
 (fun e=>some true)
 (fun e=>some false))
end gA
def gA (t0:Trace) (c1:Sl Int):Option Bool:=
 gA.W1 c1 (len c1) 0 t0
open gA in
instance N6 (t0:Trace) (c1:Sl Int):Fc Sy cL (gA t0 c1):=Fc.M 71 [enc t0,enc c1] (cN 2 2 t0 (bf 7 c1 (cM 5 (fun qW1=>(aS [Pv 2,Cv 7 c1,Iv 8 (len c1),Iv 9 qW1] [Xb 2 t0])) (fun eW1=>(0,(aS [] []))) (fun eW1=>(aS [Bv 4 false] [])) (fun qW1=>aI 7 10 (bg 8 fun x_1 _=>bq 10 10 [5,6,16] 26 (aI 10 16 (aJ 10) (bg 4 fun x_2 _=>bf 2 x_2.events (aJ 2))) fun x_3=>aI 2 26 ah ah) ah) (fun eW1=>ah) (fun eW1=>ah))))
def jJ (s0:Sl Int):Option (Sl Int):=
 (Sl.isNil s0).bind fun x_1=>
 au x_1
 (some Sl.nil)
 ((lg (Sl.row []:Sl Int) s0).bind fun x_2=>
 some x_2)
theorem oQ:Dd Sy cL 92 (fun s0:Sl Int=>[enc s0]) (fun z=>jJ z):=Dd.mk' (zq (Tx 92)) (fun s0=>Um 9 fun x_1 _=>aI 2 4 ah (vL 7 5 7 fun x_2 _=>ah))
namespace fA
def ny (vk0_15:Trace) (kindb4 mb5:Int) (vb6:aa) (vb7:Bool) (x:aa×Event):Option (Fw Unit Empty aa):=
 (au (x.2.kind==kindb4)
 (some (x.2.message==mb5))
 (some false):Option Bool).bind fun x_3=>
 au x_3
 (some (.r x.1))
 (some (.n ()))
def E1 (vk0_15:Trace) (kindb4 mb5:Int) (vb6:aa) (vb7:Bool):Option (aa×Bool):=
 (gB vk0_15).bind fun its=>(kY (fun (x:aa×Event) (q:Unit)=>ny vk0_15 kindb4 mb5 vb6 vb7 x) its ()).bind (Fw.tI
 (fun q=>some (⟨0,0⟩,false))
 (fun e=>Empty.elim e)
 (fun e=>some (e,true)))
end fA
def fA (t0:Trace) (kind1 m2:Int):Option (aa×Bool):=
 (ct t0).bind fun x_1=>
 au x_1
 ((gu t0).bind fun x_2=>
 fA.E1 x_2 kind1 m2 (⟨0,0⟩:aa) false)
 (some (⟨0,0⟩,false))
open fA in
instance Qv (t0:Trace) (kind1 m2:Int):Fc Sy cL (fA t0 kind1 m2):=Fc.M 74 [enc t0,.int .i64 kind1,.int .i64 m2] (cN 2 3 t0 (aU 10 fun x_1 _=>c8 3 12 (aU 7 fun x_2 _=>Ga fun its hits=>Ch 4 [Pv 4,Pv 5,Pv 6,Pv 7,(15,.v (.clo 124 [] [.fptr (cells x_2)]))] (fun qE1=>[(4,.box [iv kind1]),(5,.box [iv m2]),Xb 6 (⟨0,0⟩:aa),(7,.box [bv false])]) (fun eE1=>Empty.elim eE1) (fun eE1=>[(4,.box [iv kind1]),(5,.box [iv m2]),Xb 6 eE1,(7,.box [bv true])]) (uY x_2 its hits) (fun xE1 qE1=>kB 8 9 0 xE1.2 (Au 1 (bq 9 5 [9,22] 27 (aI 9 22 (aJ 5) (aJ 5)) fun x_3=>aI 2 27 ah ah))) (fun qE1=>ah) (fun x=>Empty.elim x) (fun eE1=>ah)) ah))
def mQ (t0:Trace) (m1:Int):Option (aa×Bool):=
 (fA t0 2 m1).bind fun x_1=>
 some (x_1.1,x_1.2)
instance NM (t0:Trace) (m1:Int):Fc Sy cL (mQ t0 m1):=Fc.M 115 [enc t0,.int .i64 m1] (cN 2 2 t0 (aU 8 fun x_1 _=>ah))
namespace ey
def bu (c1:Sl Int) (p7:Int) (v13:Sl Int) (v14 v15:Int) (v27:Sl Event) (v28:Int) (tb2:Trace) (sendb4 receiveb5:aa) (v29:Int):Option (Fw Int Unit (aa×aa)):=
 au (decide (v29<v28))
 ((idx v27 v29).bind fun x_4=>
 au (x_4.kind==3)
 ((mQ tb2 x_4.message).bind fun x_5=>
 (idx c1 x_5.1.proc).bind fun x_6=>
 au (decide (x_5.1.index>x_6))
 (some (.r (x_5.1,(⟨p7,IntKind.wrap .i64 (v29+1)⟩:aa))))
 (some (.n (IntKind.wrap .i64 (v29+1)))))
 (some (.n (IntKind.wrap .i64 (v29+1)))))
 (some (.x ()))
def W2 (c1:Sl Int) (p7:Int) (v13:Sl Int) (v14 v15:Int) (v27:Sl Event) (v28 v29:Int) (tb2:Trace) (sendb4 receiveb5:aa):Option (Fw Int Unit (aa×aa)):=
 (aX (fun q:Int=>bu c1 p7 v13 v14 v15 v27 v28 tb2 sendb4 receiveb5 q) v29).bind (Fw.elim
 (fun e=>some (.n (IntKind.wrap .i64 (v15+1))))
 (fun e=>some (.r (e.1,e.2))))
def aA (c1 v13:Sl Int) (v14:Int) (tb2:Trace) (sendb4 receiveb5:aa) (v15:Int):Option (Fw Int Unit (aa×aa)):=
 au (decide (v15<v14))
 ((idx v13 v15).bind fun x_1=>
 (idx tb2.procs v15).bind fun x_2=>
 (dZ x_2.events none (some x_1)).bind fun x_3=>
 W2 c1 v15 v13 v14 v15 x_3 (len x_3) 0 tb2 sendb4 receiveb5)
 (some (.x ()))
def W1 (c1 v13:Sl Int) (v14 v15:Int) (tb2:Trace) (sendb4 receiveb5:aa):Option (aa×aa×Bool):=
 (aX (fun q:Int=>aA c1 v13 v14 tb2 sendb4 receiveb5 q) v15).bind (Fw.elim
 (fun e=>some (⟨0,0⟩,⟨0,0⟩,false))
 (fun e=>some (e.1,e.2,true)))
end ey
def ey (t0:Trace) (c1:Sl Int):Option (aa×aa×Bool):=
 ey.W1 c1 c1 (len c1) 0 t0 (⟨0,0⟩:aa) (⟨0,0⟩:aa)
open ey in
instance Oj (t0:Trace) (c1:Sl Int):Fc Sy cL (ey t0 c1):=Fc.M 93 [enc t0,enc c1] (cN 2 2 t0 (bf 9 c1 (cM 5 (fun qW1=>(aS [Cv 1 c1,Pv 2,Pv 4,Pv 5,Cv 13 c1,Iv 14 (len c1),Iv 15 qW1] [Xb 2 t0,Xb 4 (⟨0,0⟩:aa),Xb 5 (⟨0,0⟩:aa)])) (fun eW1=>(0,(aS [Pv 4,Pv 5] [Xb 4 (⟨0,0⟩:aa),Xb 5 (⟨0,0⟩:aa)]))) (fun eW1=>(aS [Pv 4,Pv 5,Bv 6 true] [Xb 4 eW1.1,Xb 5 eW1.2])) (fun qW1=>aI 7 16 (bg 8 fun x_1 _=>bg 10 fun x_2 _=>yQ 3 false true [.int .i64 x_1] fun x_3 _=>bf 0 x_3 (cM 5 (fun qW2=>(aS [Cv 1 c1,Pv 2,Pv 4,Pv 5,Iv 7 qW1,Cv 13 c1,Iv 14 (len c1),Iv 15 qW1,Cv 27 x_3,Iv 28 (len x_3),Iv 29 qW2] [Xb 2 t0,Xb 4 (⟨0,0⟩:aa),Xb 5 (⟨0,0⟩:aa)])) (fun eW2=>(2,(aS [Cv 1 c1,Pv 2,Pv 4,Pv 5,Cv 13 c1,Iv 14 (len c1),Iv 15 qW1] [Xb 2 t0,Xb 4 (⟨0,0⟩:aa),Xb 5 (⟨0,0⟩:aa)]))) (fun eW2=>(aS [Pv 4,Pv 5,Bv 6 true] [Xb 4 eW2.1,Xb 5 eW2.2])) (fun qW2=>aI 7 30 (bg 8 fun x_4 _=>kB 3 10 0 x_4 (c8 10 36 (aU 8 fun x_5 _=>bg 15 fun x_6 _=>aI 4 51 ah ah) ah)) ah) (fun eW2=>ah) (fun eW2=>ah))) ah) (fun eW1=>ah) (fun eW1=>ah))))
namespace hG
def aA (tb3:Trace) (out8:Sl Int) (p2:Sl Int→(aa×aa)→Option (Sl Int)):Option (Fw (Sl Int) Empty (Sl Int)):=
 (ey tb3 out8).bind fun x_4=>
 au x_4.2.2
 ((p2 out8 (x_4.1,x_4.2.1)).bind fun x_5=>
 some (.n x_5))
 (some (.r out8))
def W1 (out8:Sl Int) (tb3:Trace) (p2:Sl Int→(aa×aa)→Option (Sl Int)):Option ((Sl Int)×Int):=
 (aX (fun q:Sl Int=>aA tb3 q p2) out8).bind (Fw.elim
 (fun e=>Empty.elim e)
 (fun e=>some (e,0)))
end hG
def hG (t0:Trace) (counts1:Sl Int) (p2:Sl Int→(aa×aa)→Option (Sl Int)):Option ((Sl Int)×Int):=
 (oR t0 (Sl.row [counts1]:Sl (Sl Int))).bind fun x_1=>
 au x_1
 ((gA t0 counts1).bind fun x_2=>
 au x_2
 (((jJ counts1).bind Sl.whole).bind fun x_3=>
 hG.W1 x_3 t0 p2)
 (some ((Sl.nil:Sl Int),2)))
 (some ((Sl.nil:Sl Int),1))
open hG in
abbrev AR (g2:FuncId) (e2:List V) (p2:Sl Int→(aa×aa)→Option (Sl Int)) (h2:H7 Sy g2 e2 (fun z:aa×aa=>[enc z.1,enc z.2]) p2) (t0:Trace) (counts1:Sl Int):Fc Sy cL (hG t0 counts1 p2):=Fc.N 65 [enc t0,enc counts1,.clo g2 [] e2] (cN 2 3 t0 (vV 10 15 ([counts1]:List (Sl Int)) (jW 0 fun x_1 _=>c8 4 12 (aU 5 fun x_2 _=>c8 4 18 (P_ 7 24 oQ counts1 fun x_3 _=>Oq 6 (fun qW1=>(aS [(2,.v (.clo g2 [] e2)),Pv 3,Ov 8] [Xb 3 t0,Lb 2008 qW1])) (fun eW1=>(aS [Ov 6,Iv 7 0] [Lb 2006 eW1])) (fun qW1=>jW 7 fun x_4 _=>c8 18 33 (O4 8 2008 h2 (x_4.1,x_4.2.1) fun x_5 _=>ah) ah) (fun eW1=>ah)) ah) ah))) (l:=by simp[h2.d])
def tE (t0:Trace) (counts1:Sl Int):Option ((Sl Int)×Int):=
 (hG t0 counts1 (fun s (z:aa×aa)=>s.setAt z.1.proc z.1.index)).bind fun x_1=>
 some (x_1.1,x_1.2)
instance Rp (t0:Trace) (counts1:Sl Int):Fc Sy cL (tE t0 counts1):=Fc.N 31 [enc t0,enc counts1] (cN 2 2 t0 (aU (F:=AR 66 [] (fun s (z:aa×aa)=>s.setAt z.1.proc z.1.index) (H7.tY (op:=false) Oo (by kernel_rfl) (by kernel_rfl)) t0 counts1) 8 fun x_1 _=>ah))
def jh (x0:Int):Option Bool:=
 some (!(x0==x0))
instance LD (x0:Int):Fc Sy cL (jh x0):=Fc.M 140 [.int .i64 x0] (ah)
def pM (x0 y1:Int):Option Bool:=
 (jh x0).bind fun x_1=>
 (au x_1
 ((jh y1).bind fun x_2=>
 some (!x_2))
 (some false):Option Bool).bind fun x_3=>
 (au x_3
 (some true)
 (some (decide (x0<y1))):Option Bool).bind fun x_4=>
 some x_4
instance Mp (x0 y1:Int):Fc Sy cL (pM x0 y1):=Fc.M 116 [.int .i64 x0,.int .i64 y1] (aU 8 fun x_1 _=>bq 1 4 [7] 11 (aI 1 7 (aU 1 fun x_2 _=>aJ 2) (aJ 4)) fun x_3=>bq 1 4 [0,1,12] 16 (aI 1 12 (aJ 4) (aJ 4)) fun x_4=>ah)
def kT (x0:Int):Option Bool:=
 some (!(x0==x0))
instance Hj (x0:Int):Fc Sy cL (kT x0):=Fc.M 117 [.int .i64 x0] (ah)
namespace cB
def aA (x0:Sl Int) (target1 n6:Int) (i7 j8:Int):Option (Fw (Int×Int) Int Empty):=
 au (decide (i7<j8))
 ((vt .u64 (IntKind.wrap .u64 (IntKind.wrap .i64 (i7+j8))) 1).bind fun x_1=>
 (idx x0 (IntKind.wrap .i64 x_1)).bind fun x_2=>
 (pM x_2 target1).bind fun x_3=>
 au x_3
 (some (.n (IntKind.wrap .i64 ((IntKind.wrap .i64 x_1)+1),j8)))
 (some (.n (i7,IntKind.wrap .i64 x_1))))
 (some (.x i7))
def W1 (x0:Sl Int) (target1 n6 i7 j8:Int):Option (Int×Bool):=
 (aX (fun q:Int×Int=>aA x0 target1 n6 q.1 q.2) (i7,j8)).bind (Fw.elim
 (fun e=>(au (decide (e<n6))
 ((idx x0 e).bind fun x_4=>
 (au (x_4==target1)
 (some true)
 ((idx x0 e).bind fun x_5=>
 (kT x_5).bind fun x_6=>
 (au x_6
 ((kT target1).bind fun x_7=>
 some x_7)
 (some false):Option Bool).bind fun x_8=>
 some x_8):Option Bool).bind fun x_9=>
 some x_9)
 (some false):Option Bool).bind fun x_10=>
 some (e,x_10))
 (fun e=>Empty.elim e))
end cB
def cB (x0:Sl Int) (target1:Int):Option (Int×Bool):=
 cB.W1 x0 target1 (len x0) 0 (len x0)
open cB in
instance Ci (x0:Sl Int) (target1:Int):Fc Sy cL (cB x0 target1):=Fc.M 94 [enc x0,.int .i64 target1] (bf 9 x0 (iW 13 (fun qW1=>(aS [Cv 0 x0,Iv 1 target1,Iv 6 (len x0),Iv 7 qW1.1,Iv 8 qW1.2] [])) (fun eW1=>(0,(aS [Cv 0 x0,Iv 1 target1,Iv 6 (len x0),Iv 7 eW1] []))) (fun qW1=>aI 9 15 (Uq 10 .u64 fun x_1 _=>bg 8 fun x_2 _=>aU 2 fun x_3 _=>aI 2 27 ah ah) ah) (fun eW1=>bq 9 18 [0,1,7,35] 53 (aI 9 35 (bg 2 fun x_4 _=>bq 4 10 [0,1,7,42] 52 (aI 4 42 (aJ 10) (bg 2 fun x_5 _=>aU 1 fun x_6 _=>bq 1 3 [1,48] 51 (aI 1 48 (aU 1 fun x_7 _=>aJ 1) (aJ 3)) fun x_8=>aJ 1)) fun x_9=>aJ 1) (aJ 18)) fun x_10=>ah)))
def mA (l0:Sl Int) (count1:Int):Option Int:=
 (cB l0 count1).bind fun x_1=>
 au x_1.2
 (some (IntKind.wrap .i64 (x_1.1+1)))
 (some x_1.1)
instance NW (l0:Sl Int) (count1:Int):Fc Sy cL (mA l0 count1):=Fc.M 67 [enc l0,.int .i64 count1] (aU 9 fun x_1 _=>aI 13 13 ah ah)
def kV (w0:aV) (c1:Sl Int):Option Int:=
 (idx c1 w0.p).bind fun x_1=>
 (mA w0.sent x_1).bind fun x_2=>
 (idx c1 w0.q).bind fun x_3=>
 (mA w0.received x_3).bind fun x_4=>
 some (IntKind.wrap .i64 (x_2-x_4))
instance HG (w0:aV) (c1:Sl Int):Fc Sy cL (kV w0 c1):=Fc.M 32 [enc w0,enc c1] (cN 2 2 w0 (bg 10 fun x_1 _=>jW 1 fun x_2 _=>bg 5 fun x_3 _=>jW 1 fun x_4 _=>ah))
namespace fL
def aA (p1:Int) (v34:Sl Int) (v35:Int) (tb3:Trace) (wb10:aV) (most11:Int) (at_12:Sl Int) (v36:Int):Option (Fw (Int×(Sl Int)×Int) (Int×(Sl Int)) ((Sl Int)×Int)):=
 au (decide (v36<v35))
 ((idx v34 v36).bind fun x_4=>
 (nJ (len tb3.procs) (0:Int)).bind fun x_5=>
 (Sl.mN x_5 p1).bind fun x_6=>
 (Sl.put x_5 x_6 (x_4:Int)).bind fun x_7=>
 (tE tb3 x_7).bind fun x_8=>
 au (x_8.2==0)
 ((kV wb10 x_8.1).bind fun x_9=>
 au (decide (x_9>most11))
 (some (.n (x_9,x_8.1,IntKind.wrap .i64 (v36+1))))
 (some (.n (most11,at_12,IntKind.wrap .i64 (v36+1)))))
 (some (.r ((Sl.nil:Sl Int),x_8.2))))
 (some (.x (most11,at_12)))
def W1 (p1 most11:Int) (at_12 v34:Sl Int) (v35 v36:Int) (tb3:Trace) (wb10:aV):Option (Int×(Sl Int)×Int):=
 (aX (fun q:Int×(Sl Int)×Int=>aA p1 v34 v35 tb3 wb10 q.1 q.2.1 q.2.2) (most11,at_12,v36)).bind (Fw.elim
 (fun e=>some (e.1,e.2,0))
 (fun e=>some (0,e.1,e.2)))
end fL
def fL (t0:Trace) (p1 q2:Int):Option (Int×(Sl Int)×Int):=
 (oc t0 p1 q2).bind fun x_1=>
 au (x_1==0)
 ((ei t0 p1 q2).bind fun x_2=>
 (nJ (len t0.procs) (0:Int)).bind fun x_3=>
 fL.W1 p1 0 x_3 x_2.sent (len x_2.sent) 0 t0 x_2)
 (some (0,Sl.nil,x_1))
open fL in
instance Mm (t0:Trace) (p1 q2:Int):Fc Sy cL (fL t0 p1 q2):=Fc.N 8 [enc t0,.int .i64 p1,.int .i64 q2] (cN 2 3 t0 (aU 11 fun x_1 _=>c8 9 23 (aU 8 fun x_2 _=>kB 1 10 0 x_2 (bf 6 t0.procs (Ib 0 32 fun x_3 _=>bf 9 x_2.sent (cM 6 (fun qW1=>(aS [Iv 1 p1,Pv 3,Pv 10,Iv 11 qW1.1,Cv 12 qW1.2.1,Cv 34 x_2.sent,Iv 35 (len x_2.sent),Iv 36 qW1.2.2] [Xb 3 t0,Xb 10 x_2])) (fun eW1=>(0,(aS [Iv 11 eW1.1,Cv 12 eW1.2] []))) (fun eW1=>(aS [Iv 6 0,Cv 7 eW1.1,Iv 8 eW1.2] [])) (fun qW1=>aI 8 37 (bg 7 fun x_4 _=>bf 8 t0.procs (Ib 0 43 fun x_5 _=>pG .i64 8 43 fun x_6 _=>D0 0 43 (.int .i64 x_4) fun x_7 _=>aU 7 fun x_8 _=>c8 14 55 (aU 7 fun x_9 _=>aI 10 62 ah ah) ah)) ah) (fun eW1=>ah) (fun eW1=>ah))))) ah))
namespace iy
def J3 (need6:Sl aa) (v11:Sl bl) (v12 v13:Int) (v18:Sl Event) (v19 v20:Int) (tb1:Trace) (vb2 mb3:aZ) (xb5:bl) (idb9:aa):Option (Fw ((Sl aa)×Int×Trace×aZ×aZ) ((Sl aa)×Trace×aZ) Empty):=
 (gy need6 (idb9:aa)).bind fun x_4=>
 some (.n (x_4,IntKind.wrap .i64 (v20+1),tb1,(⟨Sl.nil,Sl.nil⟩:aZ),mb3))
def bu (v11:Sl bl) (v12 v13:Int) (v18:Sl Event) (v19:Int) (xb5:bl) (need6:Sl aa) (v20:Int) (tb1:Trace) (vb2 mb3:aZ):Option (Fw ((Sl aa)×Int×Trace×aZ×aZ) ((Sl aa)×Trace×aZ) Empty):=
 au (decide (v20<v19))
 ((idx v18 v20).bind fun x_2=>
 au (x_2.kind==3)
 ((mQ tb1 x_2.message).bind fun x_3=>
 J3 need6 v11 v12 v13 v18 v19 v20 tb1 (⟨Sl.nil,Sl.nil⟩:aZ) mb3 xb5 x_3.1)
 (J3 need6 v11 v12 v13 v18 v19 v20 tb1 (⟨Sl.nil,Sl.nil⟩:aZ) mb3 xb5 (⟨0,0⟩:aa)))
 (some (.x (need6,tb1,mb3)))
def W2 (need6:Sl aa) (v11:Sl bl) (v12 v13:Int) (v18:Sl Event) (v19 v20:Int) (tb1:Trace) (vb2 mb3:aZ) (xb5:bl):Option (Fw (Int×Trace×aZ×aZ) aZ Empty):=
 (aX (fun q:(Sl aa)×Int×Trace×aZ×aZ=>bu v11 v12 v13 v18 v19 xb5 q.1 q.2.1 q.2.2.1 q.2.2.2.1 q.2.2.2.2) (need6,v20,tb1,vb2,mb3)).bind (Fw.elim
 (fun e=>(gy e.2.2.lengths (len xb5.events:Int)).bind fun x_5=>
 (gy e.2.2.need (e.1:Sl aa)).bind fun x_6=>
 some (.n (IntKind.wrap .i64 (v13+1),e.2.1,(⟨Sl.nil,Sl.nil⟩:aZ),(⟨x_5,x_6⟩:aZ))))
 (fun e=>Empty.elim e))
def aA (v11:Sl bl) (v12:Int) (v13:Int) (tb1:Trace) (vb2 mb3:aZ):Option (Fw (Int×Trace×aZ×aZ) aZ Empty):=
 au (decide (v13<v12))
 ((idx v11 v13).bind fun x_1=>
 W2 (Sl.nil:Sl aa) v11 v12 v13 x_1.events (len x_1.events) 0 tb1 (⟨Sl.nil,Sl.nil⟩:aZ) mb3 x_1)
 (some (.x mb3))
def W1 (v11:Sl bl) (v12 v13:Int) (tb1:Trace) (vb2 mb3:aZ):Option aZ:=
 (aX (fun q:Int×Trace×aZ×aZ=>aA v11 v12 q.1 q.2.1 q.2.2.1 q.2.2.2) (v13,tb1,vb2,mb3)).bind (Fw.elim
 (fun e=>some e)
 (fun e=>Empty.elim e))
end iy
def iy (t0:Trace):Option aZ:=
 iy.W1 t0.procs (len t0.procs) 0 t0 (⟨Sl.nil,Sl.nil⟩:aZ) (⟨Sl.nil,Sl.nil⟩:aZ)
open iy in
instance TS (t0:Trace):Fc Sy cL (iy t0):=Fc.N 95 [enc t0] (cN 2 1 t0 (bf 13 t0.procs (iW 7 (fun qW1=>(aS [Pv 1,Pv 2,Pv 3,Cv 11 t0.procs,Iv 12 (len t0.procs),Iv 13 qW1.1] [Xb 1 qW1.2.1,Xb 2 (⟨Sl.nil,Sl.nil⟩:aZ),(3,.box [.own 4060,.own 4061]),Lb 4060 qW1.2.2.2.lengths,Lb 4061 qW1.2.2.2.need])) (fun eW1=>(0,(aS [Pv 2,Pv 3] [Xb 2 (⟨Sl.nil,Sl.nil⟩:aZ),(3,.box [.own 4060,.own 4061]),Lb 4060 eW1.lengths,Lb 4061 eW1.need]))) (fun qW1=>aI 9 14 (bg 7 fun x_1 _=>kB 2 5 0 x_1 (bf 12 x_1.events (iW 8 (fun qW2=>(aS [Pv 1,Pv 2,Pv 3,Pv 5,Ov 6,Cv 11 t0.procs,Iv 12 (len t0.procs),Iv 13 qW1.1,Cv 18 x_1.events,Iv 19 (len x_1.events),Iv 20 qW2.2.1] [Xb 1 qW2.2.2.1,Xb 2 (⟨Sl.nil,Sl.nil⟩:aZ),(3,.box [.own 4060,.own 4061]),Xb 5 x_1,Lb 2006 qW2.1,Lb 4060 qW2.2.2.2.2.lengths,Lb 4061 qW2.2.2.2.2.need])) (fun eW2=>(2,(aS [Pv 1,Pv 2,Pv 3,Pv 5,Ov 6,Cv 11 t0.procs,Iv 12 (len t0.procs),Iv 13 qW1.1] [Xb 1 eW2.2.1,Xb 2 (⟨Sl.nil,Sl.nil⟩:aZ),(3,.box [.own 4060,.own 4061]),Xb 5 x_1,Lb 2006 eW2.1,Lb 4060 eW2.2.2.lengths,Lb 4061 eW2.2.2.need]))) (fun qW2=>aI 10 21 (bg 7 fun x_2 _=>kB 2 8 0 x_2 (aI 15 26 (aU 5 fun x_3 _=>vJ 10 (ot 4 2006 36 37 fun x_4 _=>ah)) (vJ 7 (ot 4 2006 36 37 fun x_4 _=>ah)))) ah) (fun eW2=>bf 8 x_1.events (ot 1 4060 44 45 fun x_5 _=>vV 9 50 ([eW2.1]:List (Sl aa)) (ot 0 4061 50 51 fun x_6 _=>ah)))))) ah) (fun eW1=>kB 7 2 0 eW1 ah))))
def lB (m0:aZ) (c1:Sl Int) (p2:Int):Option Bool:=
 (idx c1 p2).bind fun x_1=>
 (idx m0.lengths p2).bind fun x_2=>
 au (x_1==x_2)
 (some false)
 ((idx m0.need p2).bind fun x_3=>
 (idx c1 p2).bind fun x_4=>
 (idx x_3 x_4).bind fun x_5=>
 (idx c1 x_5.proc).bind fun x_6=>
 some (decide (x_5.index≤x_6)))
instance HZ (m0:aZ) (c1:Sl Int) (p2:Int):Fc Sy cL (lB m0 c1 p2):=Fc.M 118 [enc m0,enc c1,.int .i64 p2] (cN 2 3 m0 (bg 8 fun x_1 _=>bg 4 fun x_2 _=>aI 4 17 ah (bg 8 fun x_3 _=>bg 3 fun x_4 _=>bg 1 fun x_5 _=>bg 12 fun x_6 _=>ah)))
def mc (x0 y1:Int):Option Int:=
 (jh x0).bind fun x_1=>
 (jh y1).bind fun x_2=>
 au x_1
 (au x_2
 (some 0)
 (some (-1)))
 (au x_2
 (some 1)
 (au (decide (x0<y1))
 (some (-1))
 (au (decide (x0>y1))
 (some 1)
 (some 0))))
instance Jo (x0 y1:Int):Fc Sy cL (mc x0 y1):=Fc.M 143 [.int .i64 x0,.int .i64 y1] (aU 8 fun x_1 _=>aU 6 fun x_2 _=>aI 9 11 (aI 7 12 ah ah) (aI 9 13 ah (aI 11 16 ah (aI 11 19 ah ah))))
namespace dy
def aA (s10 s21 v9:Sl Int) (v10:Int) (v11:Int):Option (Fw Int Unit Int):=
 au (decide (v11<v10))
 ((idx v9 v11).bind fun x_1=>
 au (decide (v11≥(len s21)))
 (some (.r 1))
 ((idx s21 v11).bind fun x_2=>
 (mc x_1 x_2).bind fun x_3=>
 au (x_3==0)
 (some (.n (IntKind.wrap .i64 (v11+1))))
 (some (.r x_3))))
 (some (.x ()))
def W1 (s10 s21 v9:Sl Int) (v10 v11:Int):Option Int:=
 (aX (fun q:Int=>aA s10 s21 v9 v10 q) v11).bind (Fw.elim
 (fun e=>au (decide ((len s10)<(len s21)))
 (some (-1))
 (some 0))
 (fun e=>some e))
end dy
def dy (s10 s21:Sl Int):Option Int:=
 dy.W1 s10 s21 s10 (len s10) 0
open dy in
instance FW (s10 s21:Sl Int):Fc Sy cL (dy s10 s21):=Fc.M 121 [enc s10,enc s21] (bf 9 s10 (cM 5 (fun qW1=>(aS [Cv 0 s10,Cv 1 s21,Cv 9 s10,Iv 10 (len s10),Iv 11 qW1] [])) (fun eW1=>(0,(aS [Cv 0 s10,Cv 1 s21] []))) (fun eW1=>(aS [Iv 4 eW1] [])) (fun qW1=>aI 7 12 (bg 8 fun x_1 _=>bf 10 s21 (aI 3 19 ah (bg 7 fun x_2 _=>aU 8 fun x_3 _=>c8 9 28 ah ah))) ah) (fun eW1=>bf 6 s10 (bf 1 s21 (aI 3 35 ah ah))) (fun eW1=>ah)))
def gN (a0 b1:Sl Int):Option Int:=
 (dy a0 b1).bind fun x_1=>
 some x_1
instance GJ (a0 b1:Sl Int):Fc Sy cL (gN a0 b1):=Fc.M 120 [enc a0,enc b1] (aU 9 fun x_1 _=>ah)
namespace dn
def aA (s10 s21:Sl Int) (v12:Int) (v13:Int):Option (Fw Int Unit Unit):=
 au (decide (v13<v12))
 ((idx s10 v13).bind fun x_1=>
 (idx s21 v13).bind fun x_2=>
 au (x_1==x_2)
 (some (.n (IntKind.wrap .i64 (v13+1))))
 (some (.r ())))
 (some (.x ()))
def W1 (s10 s21:Sl Int) (v12 v13:Int):Option Bool:=
 (aX (fun q:Int=>aA s10 s21 v12 q) v13).bind (Fw.elim
 (fun e=>some true)
 (fun e=>some false))
end dn
def dn (s10 s21:Sl Int):Option Bool:=
 au ((len s10)==(len s21))
 (dn.W1 s10 s21 (len s10) 0)
 (some false)
open dn in
instance Hv (s10 s21:Sl Int):Fc Sy cL (dn s10 s21):=Fc.M 13 [enc s10,enc s21] (bf 9 s10 (bf 1 s21 (c8 3 10 (bf 7 s10 (cM 5 (fun qW1=>(aS [Cv 0 s10,Cv 1 s21,Iv 12 (len s10),Iv 13 qW1] [])) (fun eW1=>(0,(aS [] []))) (fun eW1=>(aS [Bv 4 false] [])) (fun qW1=>aI 7 14 (bg 15 fun x_1 _=>bg 3 fun x_2 _=>c8 4 24 ah ah) ah) (fun eW1=>ah) (fun eW1=>ah))) ah)))
def iS (a0 b1:Sl Int):Option Bool:=
 (dn a0 b1).bind fun x_1=>
 some x_1
instance FO (a0 b1:Sl Int):Fc Sy cL (iS a0 b1):=Fc.M 123 [enc a0,enc b1] (aU 9 fun x_1 _=>ah)
namespace cW
def bu (c7:Sl Int) (v10:Sl (Sl Int)) (v11 v12 v17:Int) (mb2:aZ) (out5:Sl (Sl Int)) (v18:Int):Option (Fw ((Sl (Sl Int))×Int) (Sl (Sl Int)) Empty):=
 au (decide (v18<v17))
 ((lB mb2 c7 v18).bind fun x_2=>
 au x_2
 (((jJ c7).bind Sl.whole).bind fun x_3=>
 (Sl.mN x_3 v18).bind fun x_4=>
 (Sl.get x_3 x_4).bind fun x_5=>
 (Sl.mN x_3 v18).bind fun x_6=>
 (Sl.put x_3 x_6 (IntKind.wrap .i64 (x_5+1):Int)).bind fun x_7=>
 (gy out5 (x_7:Sl Int)).bind fun x_8=>
 some (.n (x_8,IntKind.wrap .i64 (v18+1))))
 (some (.n (out5,IntKind.wrap .i64 (v18+1)))))
 (some (.x out5))
def W2 (out5:Sl (Sl Int)) (c7:Sl Int) (v10:Sl (Sl Int)) (v11 v12 v17 v18:Int) (mb2:aZ):Option (Fw ((Sl (Sl Int))×Int×Int) (Sl (Sl Int)) Empty):=
 (aX (fun q:(Sl (Sl Int))×Int=>bu c7 v10 v11 v12 v17 mb2 q.1 q.2) (out5,v18)).bind (Fw.elim
 (fun e=>some (.n (e,v11,IntKind.wrap .i64 (v12+1))))
 (fun e=>Empty.elim e))
def aA (v10:Sl (Sl Int)) (mb2:aZ) (out5:Sl (Sl Int)) (v11 v12:Int):Option (Fw ((Sl (Sl Int))×Int×Int) (Sl (Sl Int)) Empty):=
 au (decide (v12<v11))
 ((idx v10 v12).bind fun x_1=>
 W2 out5 x_1 v10 v11 v12 (len x_1) 0 mb2)
 (some (.x out5))
def W1 (out5 v10:Sl (Sl Int)) (v11 v12:Int) (mb2:aZ):Option (Sl (Sl Int)):=
 (aX (fun q:(Sl (Sl Int))×Int×Int=>aA v10 mb2 q.1 q.2.1 q.2.2) (out5,v11,v12)).bind (Fw.elim
 (fun e=>(uL e gN).bind fun x_9=>
 (wM x_9 iS).bind fun x_10=>
 some x_10)
 (fun e=>Empty.elim e))
end cW
def cW (m0:aZ) (level1:Sl (Sl Int)):Option (Sl (Sl Int)):=
 cW.W1 (Sl.nil:Sl (Sl Int)) level1 (len level1) 0 m0
open cW in
instance Jn (m0:aZ) (level1:Sl (Sl Int)):Fc Sy cL (cW m0 level1):=Fc.N 96 [enc m0,enc level1] (cN 2 2 m0 (bf 12 level1 (iW 6 (fun qW1=>(aS [Pv 2,Ov 5,Cv 10 level1,Iv 11 qW1.2.1,Iv 12 qW1.2.2] [Xb 2 m0,Lb 2005 qW1.1])) (fun eW1=>(0,(aS [Ov 5] [Lb 2005 eW1]))) (fun qW1=>aI 8 13 (bg 7 fun x_1 _=>bf 7 x_1 (iW 6 (fun qW2=>(aS [Pv 2,Ov 5,Cv 7 x_1,Cv 10 level1,Iv 11 qW1.2.1,Iv 12 qW1.2.2,Iv 17 (len x_1),Iv 18 qW2.2] [Xb 2 m0,Lb 2005 qW2.1])) (fun eW2=>(2,(aS [Pv 2,Ov 5,Cv 10 level1,Iv 11 qW1.2.1,Iv 12 qW1.2.2] [Xb 2 m0,Lb 2005 eW2]))) (fun qW2=>aI 8 19 (aU 16 fun x_2 _=>aI 2 24 (P_ 4 26 oQ x_1 fun x_3 _=>pG .i64 7 26 fun x_4 _=>uT 0 26 0 1 false (fun x_5=>.int .i64 x_5) fun x_5 _=>pG .i64 1 26 fun x_6 _=>D0 0 26 (.int .i64 (IntKind.wrap .i64 (x_5+1))) fun x_7 _=>vV 6 35 ([x_7]:List (Sl Int)) (ot 0 2005 35 36 fun x_8 _=>ah)) ah) ah) (fun eW2=>ah))) ah) (fun eW1=>Sw 5 2005 Cl xO NA (jH.yh (fun z=>inferInstanceAs (Fc Sy cL (gN z.1 z.2))) default (fun _=>rfl) (fun _=>rfl) (fun _=>rfl) (fun _=>rfl)) fun x_9 _=>R6 5 2005 42 Cl xO MG (jH.yh (fun z=>inferInstanceAs (Fc Sy cL (iS z.1 z.2))) default (fun _=>rfl) (fun _=>rfl) (fun _=>rfl) (fun _=>rfl)) fun x_10 _=>ah))))
namespace gT
def aA (mb4:aZ) (level5:Sl (Sl Int)) (out6:Sl (Sl (Sl Int))) (total7:Int):Option (Fw ((Sl (Sl Int))×(Sl (Sl (Sl Int)))×Int) (Sl (Sl (Sl Int))) Unit):=
 au (decide ((len level5)>0))
 (au (decide ((IntKind.wrap .i64 (total7+(len level5)))>5000))
 (some (.r ()))
 ((gy out6 (level5:Sl (Sl Int))).bind fun x_4=>
 (cW mb4 level5).bind fun x_5=>
 some (.n (x_5,x_4,IntKind.wrap .i64 (total7+(len level5))))))
 (some (.x out6))
def W1 (level5:Sl (Sl Int)) (out6:Sl (Sl (Sl Int))) (total7:Int) (mb4:aZ):Option ((Sl (Sl (Sl Int)))×Int):=
 (aX (fun q:(Sl (Sl Int))×(Sl (Sl (Sl Int)))×Int=>aA mb4 q.1 q.2.1 q.2.2) (level5,out6,total7)).bind (Fw.elim
 (fun e=>some (e,0))
 (fun e=>some ((Sl.nil:Sl (Sl (Sl Int))),16)))
end gT
def gT (t0:Trace):Option ((Sl (Sl (Sl Int)))×Int):=
 (ct t0).bind fun x_1=>
 au x_1
 ((iy t0).bind fun x_2=>
 (nJ (len t0.procs) (0:Int)).bind fun x_3=>
 gT.W1 (Sl.row [x_3]:Sl (Sl Int)) (Sl.nil:Sl (Sl (Sl Int))) 0 x_2)
 (some ((Sl.nil:Sl (Sl (Sl Int))),1))
open gT in
instance Oh (t0:Trace):Fc Sy cL (gT t0):=Fc.N 68 [enc t0] (cN 2 1 t0 (aU 8 fun x_1 _=>c8 3 10 (aU 6 fun x_2 _=>kB 1 4 0 x_2 (bf 6 t0.procs (Ib 0 16 fun x_3 _=>vV 1 17 ([x_3]:List (Sl Int)) (cM 18 (fun qW1=>(aS [Pv 4,Cv 5 qW1.1,Ov 6,Iv 7 qW1.2.2] [Xb 4 x_2,Lb 2006 qW1.2.1])) (fun eW1=>(0,(aS [Ov 6] [Lb 2006 eW1]))) (fun eW1=>(aS [Ov 2,Iv 3 16] [Lb 2002 (Sl.nil:Sl (Sl (Sl Int)))])) (fun qW1=>bf 7 qW1.1 (aI 3 20 (bf 10 qW1.1 (aI 10 29 ah (vV 6 32 ([qW1.1]:List (Sl (Sl Int))) (ot 0 2006 32 33 fun x_4 _=>aU 7 fun x_5 _=>ah)))) ah)) (fun eW1=>ah) (fun eW1=>ah))))) ah))
def gL (s:Sl (Sl (Sl Int))):Option (Sl (Sl Int)):=if s.l.length≤2147483648∧(s.l.flatMap Sl.l).length≤2147483648 then some (uV s)else none
instance Gw (s:Sl (Sl (Sl Int))):Fc Sy cL (gL s):=Fc.of (A:=fun z:Sl (Sl (Sl Int))=>[enc z]) (E:=fun r:Sl (Sl Int)=>[enc r]) (p:=gL) (n:=69) (z:=s) (jH.PJ (by kernel_rfl) (by kernel_rfl) (fun z r h=>by
 unfold gL at h;split at h
 ·rename_i hc;cases h;exact we (MP (E:=Sy.E) (N:=fun n=>n) (gid:=97) (nm:=some) (fun _ _ h=>(Option.some.inj h).symm) rfl (by kernel_rfl) (by kernel_rfl) (u5 (by kernel_rfl)) (u5 (by kernel_rfl)) rfl z hc.1 hc.2)
 ·cases h))
def xd (t0:Trace):Option ((Sl (Sl Int))×Int):=
 (gT t0).bind fun x_1=>
 (gL x_1.1).bind fun x_2=>
 some (x_2,x_1.2)
instance Rn (t0:Trace):Fc Sy cL (xd t0):=Fc.N 33 [enc t0] (cN 2 1 t0 (aU 7 fun x_1 _=>aU 10 fun x_2 _=>ah))
def tg (t0:Trace):Option ((Sl (Sl Int))×Int):=
 (xd t0).bind fun x_1=>
 some (x_1.1,x_1.2)
instance Ro (t0:Trace):Fc Sy cL (tg t0):=Fc.N 9 [enc t0] (cN 2 1 t0 (aU 7 fun x_1 _=>ah))
def qy (t0:Trace) (p1:Int):Option Bool:=
 (au (decide (p1≥0))
 (some (decide (p1<(len t0.procs))))
 (some false):Option Bool).bind fun x_1=>
 some x_1
instance N_ (t0:Trace) (p1:Int):Fc Sy cL (qy t0 p1):=Fc.M 72 [enc t0,.int .i64 p1] (cN 2 2 t0 (bq 8 6 [1,2,7] 13 (aI 8 7 (bf 3 t0.procs (aJ 2)) (aJ 6)) fun x_1=>ah))
def rQ (t0:Trace) (c1:Sl Int):Option Bool:=
 (ey t0 c1).bind fun x_1=>
 some (!x_1.2.2)
instance P0 (t0:Trace) (c1:Sl Int):Fc Sy cL (rQ t0 c1):=Fc.M 73 [enc t0,enc c1] (cN 2 2 t0 (aU 7 fun x_1 _=>ah))
namespace bX
def dK (v39:Sl (Sl Int)) (v40:Int) (tb3:Trace) (v41:Int):Option (Fw Int Unit Unit):=
 au (decide (v41<v40))
 ((idx v39 v41).bind fun x_6=>
 (rQ tb3 x_6).bind fun x_7=>
 au x_7
 (some (.n (IntKind.wrap .i64 (v41+1))))
 (some (.r ())))
 (some (.x ()))
def W3 (v39:Sl (Sl Int)) (v40 v41:Int) (tb3:Trace):Option Int:=
 (aX (fun q:Int=>dK v39 v40 tb3 q) v41).bind (Fw.elim
 (fun e=>some 0)
 (fun e=>some 18))
def bu (l1:Sl (Sl Int)) (v28:Sl Int) (v29:Int) (tb3:Trace) (v30:Int):Option (Fw Int Unit Unit):=
 au (decide (v30<v29))
 ((idx v28 v30).bind fun x_4=>
 (qy tb3 x_4).bind fun x_5=>
 au x_5
 (some (.n (IntKind.wrap .i64 (v30+1))))
 (some (.r ())))
 (some (.x ()))
def W2 (l1:Sl (Sl Int)) (v28:Sl Int) (v29 v30:Int) (tb3:Trace):Option Int:=
 (aX (fun q:Int=>bu l1 v28 v29 tb3 q) v30).bind (Fw.elim
 (fun e=>bX.W3 l1 (len l1) 0 tb3)
 (fun e=>some 2))
def aA (l1:Sl (Sl Int)) (procs2:Sl Int) (v17:Sl (Sl Int)) (v18:Int) (tb3:Trace) (v19:Int):Option (Fw Int Unit Unit):=
 au (decide (v19<v18))
 ((idx v17 v19).bind fun x_2=>
 (gA tb3 x_2).bind fun x_3=>
 au x_3
 (some (.n (IntKind.wrap .i64 (v19+1))))
 (some (.r ())))
 (some (.x ()))
def W1 (l1:Sl (Sl Int)) (procs2:Sl Int) (v17:Sl (Sl Int)) (v18 v19:Int) (tb3:Trace):Option Int:=
 (aX (fun q:Int=>aA l1 procs2 v17 v18 tb3 q) v19).bind (Fw.elim
 (fun e=>bX.W2 l1 procs2 (len procs2) 0 tb3)
 (fun e=>some 2))
end bX
def bX (t0:Trace) (l1:Sl (Sl Int)) (procs2:Sl Int):Option Int:=
 (oR t0 l1).bind fun x_1=>
 au x_1
 (bX.W1 l1 procs2 l1 (len l1) 0 t0)
 (some 1)
open bX in
instance Rm (t0:Trace) (l1:Sl (Sl Int)) (procs2:Sl Int):Fc Sy cL (bX t0 l1 procs2):=Fc.M 34 [enc t0,enc l1,enc procs2] (cN 2 3 t0 (aU 8 fun x_1 _=>c8 3 16 (bf 7 l1 (cM 5 (fun qW1=>(aS [Cv 1 l1,Cv 2 procs2,Pv 3,Cv 17 l1,Iv 18 (len l1),Iv 19 qW1] [Xb 3 t0])) (fun eW1=>(0,(aS [Cv 1 l1,Cv 2 procs2,Pv 3] [Xb 3 t0]))) (fun eW1=>(aS [Iv 6 2] [])) (fun qW1=>aI 7 20 (bg 7 fun x_2 _=>aU 8 fun x_3 _=>c8 3 26 ah ah) ah) (fun eW1=>bf 6 procs2 (cM 5 (fun qW2=>(aS [Cv 1 l1,Pv 3,Cv 28 procs2,Iv 29 (len procs2),Iv 30 qW2] [Xb 3 t0])) (fun eW2=>(2,(aS [Cv 1 l1,Pv 3] [Xb 3 t0]))) (fun eW2=>(aS [Iv 6 2] [])) (fun qW2=>aI 7 31 (bg 7 fun x_4 _=>aU 8 fun x_5 _=>c8 3 37 ah ah) ah) (fun eW2=>bf 6 l1 (cM 5 (fun qW3=>(aS [Pv 3,Cv 39 l1,Iv 40 (len l1),Iv 41 qW3] [Xb 3 t0])) (fun eW3=>(4,(aS [] []))) (fun eW3=>(aS [Iv 6 18] [])) (fun qW3=>aI 7 42 (bg 7 fun x_6 _=>aU 8 fun x_7 _=>c8 3 48 ah ah) ah) (fun eW3=>ah) (fun eW3=>ah))) (fun eW2=>ah))) (fun eW1=>ah))) ah))
def nC (t0:Trace) (c1:Sl Int):Option Bool:=
 (bX t0 (Sl.row [c1]:Sl (Sl Int)) (Sl.nil:Sl Int)).bind fun x_1=>
 some (x_1==0)
instance K1 (t0:Trace) (c1:Sl Int):Fc Sy cL (nC t0 c1):=Fc.M 10 [enc t0,enc c1] (cN 2 2 t0 (vV 7 7 ([c1]:List (Sl Int)) (jW 0 fun x_1 _=>ah)))
def qn (t0:Trace) (m1:Int):Option (aa×Bool):=
 (fA t0 3 m1).bind fun x_1=>
 some (x_1.1,x_1.2)
instance Ku (t0:Trace) (m1:Int):Fc Sy cL (qn t0 m1):=Fc.M 35 [enc t0,.int .i64 m1] (cN 2 2 t0 (aU 8 fun x_1 _=>ah))
namespace fK
def aA (c1:Sl Int) (q3:Int) (v36:Sl Event) (tb4:Trace) (out11:Sl Int) (v37 v38:Int):Option (Fw ((Sl Int)×Int×Int) (Sl Int) Empty):=
 au (decide (v38<v37))
 ((idx v36 v38).bind fun x_5=>
 (au (x_5.kind==2)
 (some (!(x_5.peer==q3)))
 (some true):Option Bool).bind fun x_6=>
 au x_6
 (some (.n (out11,v37,IntKind.wrap .i64 (v38+1))))
 ((qn tb4 x_5.message).bind fun x_7=>
 (au x_7.2
 ((idx c1 x_7.1.proc).bind fun x_8=>
 some (decide (x_7.1.index>x_8)))
 (some true):Option Bool).bind fun x_9=>
 au x_9
 ((gy out11 (x_5.message:Int)).bind fun x_10=>
 some (.n (x_10,v37,IntKind.wrap .i64 (v38+1))))
 (some (.n (out11,v37,IntKind.wrap .i64 (v38+1))))))
 (some (.x out11))
def W1 (c1:Sl Int) (q3:Int) (out11:Sl Int) (v36:Sl Event) (v37 v38:Int) (tb4:Trace):Option ((Sl Int)×Int):=
 (aX (fun q:(Sl Int)×Int×Int=>aA c1 q3 v36 tb4 q.1 q.2.1 q.2.2) (out11,v37,v38)).bind (Fw.elim
 (fun e=>some (e,0))
 (fun e=>Empty.elim e))
end fK
def fK (t0:Trace) (c1:Sl Int) (p2 q3:Int):Option ((Sl Int)×Int):=
 (bX t0 (Sl.row [c1]:Sl (Sl Int)) (Sl.row [p2,q3]:Sl Int)).bind fun x_1=>
 au (x_1==0)
 ((idx t0.procs p2).bind fun x_2=>
 (idx c1 p2).bind fun x_3=>
 (dZ x_2.events none (some x_3)).bind fun x_4=>
 fK.W1 c1 q3 (Sl.nil:Sl Int) x_4 (len x_4) 0 t0)
 (some (Sl.nil,x_1))
open fK in
instance NV (t0:Trace) (c1:Sl Int) (p2 q3:Int):Fc Sy cL (fK t0 c1 p2 q3):=Fc.N 11 [enc t0,enc c1,.int .i64 p2,.int .i64 q3] (cN 2 4 t0 (vV 9 18 ([c1]:List (Sl Int)) (jW 3 fun x_1 _=>c8 9 24 (bg 14 fun x_2 _=>bg 4 fun x_3 _=>yQ 1 false true [.int .i64 x_3] fun x_4 _=>bf 0 x_4 (iW 6 (fun qW1=>(aS [Cv 1 c1,Iv 3 q3,Pv 4,Ov 11,Cv 36 x_4,Iv 37 qW1.2.1,Iv 38 qW1.2.2] [Xb 4 t0,Lb 2011 qW1.1])) (fun eW1=>(0,(aS [Ov 11] [Lb 2011 eW1]))) (fun qW1=>aI 8 39 (bg 7 fun x_5 _=>kB 2 13 0 x_5 (bq 9 5 [45] 50 (c8 9 45 (aJ 5) (aJ 5)) fun x_6=>aI 2 50 ah (aU 8 fun x_7 _=>bq 13 9 [14,60] 69 (c8 13 60 (bg 5 fun x_8 _=>aJ 3) (aJ 9)) fun x_9=>aI 2 69 (ot 6 2011 73 74 fun x_10 _=>ah) ah))) ah) (fun eW1=>ah))) ah)))
namespace jO
def aA (a0 b1:Sl Int) (v12:Int) (v13:Int):Option (Fw Int Unit Unit):=
 au (decide (v13<v12))
 ((idx a0 v13).bind fun x_1=>
 (idx b1 v13).bind fun x_2=>
 au (decide (x_1>x_2))
 (some (.r ()))
 (some (.n (IntKind.wrap .i64 (v13+1)))))
 (some (.x ()))
def W1 (a0 b1:Sl Int) (v12 v13:Int):Option Bool:=
 (aX (fun q:Int=>aA a0 b1 v12 q) v13).bind (Fw.elim
 (fun e=>some true)
 (fun e=>some false))
end jO
def jO (a0 b1:Sl Int):Option Bool:=
 au ((len a0)==(len b1))
 (jO.W1 a0 b1 (len a0) 0)
 (some false)
open jO in
instance Tw (a0 b1:Sl Int):Fc Sy cL (jO a0 b1):=Fc.M 12 [enc a0,enc b1] (bf 9 a0 (bf 1 b1 (c8 3 10 (bf 7 a0 (cM 5 (fun qW1=>(aS [Cv 0 a0,Cv 1 b1,Iv 12 (len a0),Iv 13 qW1] [])) (fun eW1=>(0,(aS [] []))) (fun eW1=>(aS [Bv 4 false] [])) (fun qW1=>aI 7 14 (bg 15 fun x_1 _=>bg 3 fun x_2 _=>aI 4 24 ah ah) ah) (fun eW1=>ah) (fun eW1=>ah))) ah)))
namespace b_
def aA (a9 b10 n11:Int) (c12:Sl Int) (v81:Sl (Sl Int)) (v82:Int) (tb3:Trace) (found16:Bool) (v83:Int):Option (Fw (Bool×Int) Bool Unit):=
 au (decide (v83<v82))
 ((idx v81 v83).bind fun x_12=>
 (fK tb3 x_12 a9 b10).bind fun x_13=>
 (au (x_13.2==0)
 (some (decide ((len x_13.1)>n11)))
 (some true):Option Bool).bind fun x_14=>
 (au x_14
 (some true)
 ((au ((len x_13.1)==n11)
 ((jO c12 x_12).bind fun x_15=>
 some (!x_15))
 (some false):Option Bool).bind fun x_16=>
 some x_16):Option Bool).bind fun x_17=>
 au x_17
 (some (.r ()))
 ((au found16
 (some true)
 ((au ((len x_13.1)==n11)
 ((dn c12 x_12).bind fun x_18=>
 some x_18)
 (some false):Option Bool).bind fun x_19=>
 some x_19):Option Bool).bind fun x_20=>
 some (.n (x_20,IntKind.wrap .i64 (v83+1)))))
 (some (.x found16))
def W1 (a9 b10 n11:Int) (c12:Sl Int) (found16:Bool) (v81:Sl (Sl Int)) (v82 v83:Int) (tb3:Trace):Option Bool:=
 (aX (fun q:Bool×Int=>aA a9 b10 n11 c12 v81 v82 tb3 q.1 q.2) (found16,v83)).bind (Fw.elim
 (fun e=>some e)
 (fun e=>some false))
end b_
def b_ (t0:Trace) (p1 q2:Int):Option Bool:=
 (sS).bind fun x_1=>
 au x_1
 ((nq t0).bind fun x_2=>
 (au x_2.2
 (some (decide ((len t0.procs)<2)))
 (some true):Option Bool).bind fun x_3=>
 au x_3
 (some true)
 ((sP (IntKind.wrap .i64 p1) (len t0.procs)).bind fun x_4=>
 (sP (IntKind.wrap .i64 q2) (IntKind.wrap .i64 ((len t0.procs)-1))).bind fun x_5=>
 (sP (IntKind.wrap .i64 ((IntKind.wrap .i64 (x_4+1))+x_5)) (len t0.procs)).bind fun x_6=>
 (fL t0 x_4 x_6).bind fun x_7=>
 (tg t0).bind fun x_8=>
 (au (x_7.2.2==0)
 (some (!(x_8.2==0)))
 (some true):Option Bool).bind fun x_9=>
 (au x_9
 (some true)
 ((nC t0 x_7.2.1).bind fun x_10=>
 some (!x_10)):Option Bool).bind fun x_11=>
 au x_11
 (some false)
 (b_.W1 x_4 x_6 x_7.1 x_7.2.1 false x_8.1 (len x_8.1) 0 t0)))
 (some false)
open b_ in
instance sU (t0:Trace) (p1 q2:Int):Fc Sy cL (b_ t0 p1 q2):=Fc.M 3 [enc t0,.int .u8 p1,.int .u8 q2] (cN 2 3 t0 (aU 6 fun x_1 _=>c8 3 22 (aU 7 fun x_2 _=>bq 12 5 [30] 35 (c8 12 30 (bf 2 t0.procs (aJ 2)) (aJ 5)) fun x_3=>aI 2 35 ah (bf 9 t0.procs (Kn 0 .i64 fun x_4 _=>bf 11 t0.procs (Kn 1 .i64 fun x_5 _=>bf 3 t0.procs (Kn 0 .i64 fun x_6 _=>aU 8 fun x_7 _=>aU 12 fun x_8 _=>bq 13 3 [15,71] 74 (c8 13 71 (aJ 3) (aJ 3)) fun x_9=>bq 1 5 [75] 80 (aI 1 75 (aJ 5) (aU 2 fun x_10 _=>aJ 2)) fun x_11=>aI 2 80 ah (bf 12 x_8.1 (cM 5 (fun qW1=>(aS [Pv 3,Iv 9 x_4,Iv 10 x_6,Iv 11 x_7.1,Cv 12 x_7.2.1,Bv 16 qW1.1,Cv 81 x_8.1,Iv 82 (len x_8.1),Iv 83 qW1.2] [Xb 3 t0])) (fun eW1=>(0,(aS [Bv 16 eW1] []))) (fun eW1=>(aS [Bv 6 false] [])) (fun qW1=>aI 7 84 (bg 7 fun x_12 _=>aU 10 fun x_13 _=>bq 13 5 [97] 102 (c8 13 97 (bf 1 x_13.1 (aJ 3)) (aJ 5)) fun x_14=>bq 1 11 [103] 114 (aI 1 103 (aJ 11) (bf 1 x_13.1 (bq 3 5 [108] 113 (aI 3 108 (aU 2 fun x_15 _=>aJ 2) (aJ 5)) fun x_16=>aJ 1))) fun x_17=>aI 2 114 ah (bq 6 10 [18,19,116] 126 (aI 6 116 (aJ 10) (bf 1 x_13.1 (bq 3 4 [18,121] 125 (aI 3 121 (aU 2 fun x_18 _=>aJ 1) (aJ 4)) fun x_19=>aJ 1))) fun x_20=>ah)) ah) (fun eW1=>ah) (fun eW1=>ah)))))))) ah))
end
end Go.VE
