/-
 Each function of the program that the law reaches: its plain form, and that it comes to that.
-/
import Derived.Test.YtimppgndlmehbaaGreatK1
import Derived.Test.YtimppgndlmehbaaGreatT1
set_option linter.all false
namespace Go.VE
structure Var where
 name:ByteArray
 init_:Int
 deriving Inhabited
instance:aI Var where
 cells x:=[.str x.name,.int .i64 x.init_]
 agg:=true
 size:=2
 len _:=rfl
 good x:=by simp only[V.bL,V.good,lz,Bool.and_self]
 one x:=by simp only[List.all_cons,List.all_nil,qa,nX,qB,oa,Bool.and_self]
 plain h:=by cases h
instance {n:Nat}:Lv (n+0) Var:=⟨λx=>by
 show V.b8 (n+0) [.str x.name,.int .i64 x.init_]=true;simp only[iF,jR,qx,nW,qe,pV,Bool.and_self]⟩
structure Assign where
 var:Int
 value:Int
 deriving Inhabited
instance:aI Assign where
 cells x:=[.int .i64 x.var,.int .i64 x.value]
 agg:=true
 size:=2
 len _:=rfl
 good x:=by simp only[V.bL,V.good,lz,Bool.and_self]
 one x:=by simp only[List.all_cons,List.all_nil,qa,nX,qB,oa,Bool.and_self]
 plain h:=by cases h
instance {n:Nat}:Lv (n+0) Assign:=⟨λx=>by
 show V.b8 (n+0) [.int .i64 x.var,.int .i64 x.value]=true;simp only[iF,jR,qx,nW,qe,pV,Bool.and_self]⟩
structure Event where
 kind:Int
 peer:Int
 message:Int
 time:Int
 assign:Sl Assign
 deriving Inhabited
instance:aI Event where
 cells x:=[.int .i64 x.kind,.int .i64 x.peer,.int .i64 x.message,.int .i64 x.time,enc x.assign]
 agg:=true
 size:=5
 len _:=rfl
 good x:=by simp only[V.bL,V.good,lz,Bool.and_self]
 one x:=by simp only[List.all_cons,List.all_nil,qa,nX,qB,oa,Bool.and_self]
 plain h:=by cases h
instance {n:Nat}:Lv (n+1) Event:=⟨λx=>by
 show V.b8 (n+1) [.int .i64 x.kind,.int .i64 x.peer,.int .i64 x.message,.int .i64 x.time,enc x.assign]=true;simp only[iF,jR,qx,nW,qe,pV,Bool.and_self]⟩
structure bt where
 name:ByteArray
 vars:Sl Var
 events:Sl Event
 deriving Inhabited
instance:aI bt where
 cells x:=[.str x.name,enc x.vars,enc x.events]
 agg:=true
 size:=3
 len _:=rfl
 good x:=by simp only[V.bL,V.good,lz,Bool.and_self]
 one x:=by simp only[List.all_cons,List.all_nil,qa,nX,qB,oa,Bool.and_self]
 plain h:=by cases h
instance {n:Nat}:Lv (n+2) bt:=⟨λx=>by
 show V.b8 (n+2) [.str x.name,enc x.vars,enc x.events]=true;simp only[iF,jR,qx,nW,qe,pV,Bool.and_self]⟩
structure Trace where
 procs:Sl bt
 deriving Inhabited
instance:aI Trace where
 cells x:=[enc x.procs]
 agg:=true
 size:=1
 len _:=rfl
 good x:=by simp only[V.bL,V.good,lz,Bool.and_self]
 one x:=by simp only[List.all_cons,List.all_nil,qa,nX,qB,oa,Bool.and_self]
 plain h:=by cases h
instance {n:Nat}:Lv (n+3) Trace:=⟨λx=>by
 show V.b8 (n+3) [enc x.procs]=true;simp only[iF,jR,qx,nW,qe,pV,Bool.and_self]⟩
structure Slice where
 empty:Bool
 first:Sl Int
 last:Sl Int
 j:Sl (Sl (Sl Int))
 deriving Inhabited
instance:aI Slice where
 cells x:=[.bool x.empty,enc x.first,enc x.last,enc x.j]
 agg:=true
 size:=4
 len _:=rfl
 good x:=by simp only[V.bL,V.good,lz,Bool.and_self]
 one x:=by simp only[List.all_cons,List.all_nil,qa,nX,qB,oa,Bool.and_self]
 plain h:=by cases h
instance {n:Nat}:Lv (n+3) Slice:=⟨λx=>by
 show V.b8 (n+3) [.bool x.empty,enc x.first,enc x.last,enc x.j]=true
 simp only[iF,jR,qx,nW,qe,pV,Bool.and_self]⟩
structure ay where
 from_:aa
 to_:aa
 deriving Inhabited
instance:aI ay where
 cells x:=[.int .i64 x.from_.proc,.int .i64 x.from_.index,.int .i64 x.to_.proc,.int .i64 x.to_.index]
 agg:=true
 size:=4
 len _:=rfl
 good x:=by simp only[V.bL,V.good,lz,Bool.and_self]
 one x:=by simp only[List.all_cons,List.all_nil,qa,nX,qB,oa,Bool.and_self]
 plain h:=by cases h
instance {n:Nat}:Lv (n+0) ay:=⟨λx=>by
 show V.b8 (n+0) [.int .i64 x.from_.proc,.int .i64 x.from_.index,.int .i64 x.to_.proc,.int .i64 x.to_.index]=true;simp only[iF,jR,qx,nW,qe,pV,Bool.and_self]⟩
def gz (p:Int):Int->List Event->List (aa×Event)
 | _,[]=>[]
 | j,e::r=>(⟨p,j+1⟩,e)::gz p (j+1) r
def dW:Int->List bt->List (aa×Event)
 | _,[]=>[]
 | i,p::r=>gz i 0 p.events.l++dW (i+1) r
def DY (n:Nat):Bool:=decide (n<9223372036854775807)
def gQ (t:Trace):Option (List (aa×Event)):=
 if DY t.procs.l.length&&t.procs.l.all λp=>DY p.events.l.length then some (dW 0 t.procs.l)else none
end Go.VE
namespace Go.VE
def TE:List (Nat×GD):=[
 (75,⟨0x22226260002000201,[],[(6,[.keep [0,1,7,8] []],[.keep [0,1,7,8] []]),(12,[.keep [] []],[]),(22,[.keep [4] []],[]),(27,[.keep [4] []],[])]⟩),
 (39,⟨0x226221,[],[]⟩),
 (40,⟨0x2222212,[],[]⟩),
 (8,⟨0x26442222222064442644402222026220220200002012,[],[(6,[.keep [1,2,8,9,10] [2]],[.keep [1,2,8,9,10] [2]]),(12,[.keep [1,2] [2]],[]),(24,[.keep [4] []],[]),(29,[.keep [4] []],[])]⟩),
 (76,⟨0x22226260002000201,[],[(6,[.keep [0,1,7,8] []],[.keep [0,1,7,8] []]),(12,[.keep [] []],[]),(22,[.keep [4] []],[]),(27,[.keep [4] []],[])]⟩),
 (41,⟨0x226221,[],[]⟩),
 (63,⟨0x22226260002000201,[],[(6,[.keep [0,1,7,8] []],[.keep [0,1,7,8] []]),(12,[.keep [] []],[]),(22,[.keep [4] []],[]),(27,[.keep [4] []],[])]⟩),
 (23,⟨0x226221,[],[]⟩),
 (43,⟨0x22221,[],[]⟩),
 (42,⟨0x264422201,[],[]⟩),
 (9,⟨0x264442644402644402222012,[],[]⟩),
 (138,⟨0x26c4426201,[],[]⟩),
 (183,⟨0x26c4444026402201,[],[]⟩),
 (184,⟨0x26442201,[],[]⟩),
 (158,⟨0x22064c402644c00222600200020064440264402201,[],[(8,[.keep [2] []],[]),(14,[.keep [0,18,19] []],[.keep [0,18,19] []]),(20,[.keep [] []],[]),(30,[.keep [2] []],[]),(35,[.keep [2] []],[])]⟩),
 (160,⟨0x26222212,[],[]⟩),
 (185,⟨0x22226260002000201,[],[(6,[.keep [0,1,7,8] []],[.keep [0,1,7,8] []]),(12,[.keep [] []],[]),(22,[.keep [4] []],[]),(27,[.keep [4] []],[])]⟩),
 (159,⟨0x226221,[],[]⟩),
 (162,⟨0x26222212,[],[]⟩),
 (186,⟨0x22226260002000201,[],[(6,[.keep [0,1,7,8] []],[.keep [0,1,7,8] []]),(12,[.keep [] []],[]),(22,[.keep [4] []],[]),(27,[.keep [4] []],[])]⟩),
 (161,⟨0x226221,[],[]⟩),
 (139,⟨0x222222022222026c0c4402222022020000020022220026c0c44422220202602012,[],[(11,[.keep [4] []],[]),(17,[.keep [4] []],[]),(23,[.keep [5,32,33,34] [5]],[.keep [5,32,33,34] [5]]),(29,[.keep [5] [5]],[]),(40,[.keep [4] []],[]),(46,[.keep [4] []],[]),(55,[.keep [4] []],[]),(59,[.keep [4] []],[])]⟩),
 (140,⟨0x2212,[],[]⟩),
 (164,⟨0x2644426c4402622222022202644422202020122,[],[(18,[.keep [1,3,5,19] [3,5]],[])]⟩),
 (166,⟨0x26222212,[],[]⟩),
 (187,⟨0x22226260002000201,[],[(6,[.keep [0,1,7,8] []],[.keep [0,1,7,8] []]),(12,[.keep [] []],[]),(22,[.keep [4] []],[]),(27,[.keep [4] []],[])]⟩),
 (165,⟨0x226221,[],[]⟩),
 (141,⟨0x2202626220026444022622202022020000020022220026c44022220022e02222226220202200202620201222,[],[(12,[.keep [3,4,5,7,8] [3,4,5,7]],[]),(19,[.keep [6] []],[]),(25,[.keep [6] []],[]),(31,[.keep [6] []],[]),(37,[.keep [5,7,52,53,54] [5,7]],[.keep [5,7,52,53,54] [5,7]]),(43,[.keep [] []],[]),(54,[.keep [6] []],[]),(60,[.keep [6] []],[]),(65,[.keep [6] []],[])]⟩),
 (188,⟨0x26c44426c440222012,[],[]⟩),
 (167,⟨0x2662262221222,[],[]⟩),
 (142,⟨0x2202326222002202001ef200220022022226200223262220022022226200202022020202020200002,[],[(8,[.keep [1,2,3,4,5,12] [1,2,3,4,5,10]],[.keep [] [1,2,3,4,5,10]]),(27,[.keep [] [1,2,3,4,5,10]],[]),(39,[.keep [] [1,2,3,4,5,10]],[]),(47,[.keep [] [1,2,3,4,5,10]],[]),(53,[.keep [2,3,4] [2,3,4,10]],[])]⟩),
 (168,⟨0x222622262222264444c4400222020262222262622020262020222620220122,[],[(12,[.canon (.s 7) 2007 2,.keep [1,5,7,8] [5,2007]],[])]⟩),
 (143,⟨0x20222622230026000226002020000e200262220202622002202202020200022,[],[(6,[.keep [2,3,4,5,13] [2,3,4,5]],[.keep [] [2,3,4,5]]),(14,[.canon (.s 8) 2008 2,.keep [2,3,4,5,6,7,8,13] [2,3,4,5,6,16,2008]],[.canon (.s 8) 2008 2,.keep [2,3,4,5,6,7,8,13] [2,3,4,5,6,16,2008]]),(20,[.keep [2,3,4,5,13] [2,3,4,5]],[]),(29,[.canon (.s 8) 2008 2,.keep [2,3,4,5,6,7,8,13,36,37,38] [2,3,4,5,6,16,2008]],[.canon (.s 8) 2008 2,.keep [2,3,4,5,6,7,8,13,36,37,38] [2,3,4,5,6,16,2008]]),(35,[.canon (.s 8) 2008 2,.keep [2,3,4,5,6,7,8,13] [2,3,4,5,6,16,2008]],[]),(46,[.keep [] [2,3,4,5]],[]),(58,[.keep [4,5] [4,5]],[])]⟩),
 (113,⟨0x20022222020262222222022202002202222202e2002020202222222202600200022002022220002,[],[(8,[.keep [2,3] [2,3]],[]),(14,[.keep [1,2,3,22,23] [1,2,3]],[.keep [1,2,3,22,23] [1,2,3]]),(20,[.keep [1,2,3] [1,2,3]],[]),(32,[.keep [2,3] [2,3]],[]),(39,[.keep [1,2,3,36] [1,2,3]],[.keep [] [1,2,3]]),(51,[.keep [] [1,2,3]],[]),(61,[.keep [2,3] [2,3]],[]),(71,[.keep [2,3] [2,3]],[]),(75,[.keep [2,3] [2,3]],[])]⟩),
 (77,⟨0x2222302022212,[],[]⟩),
 (151,⟨0x26222221,[],[]⟩),
 (126,⟨0x264c4422012,[],[]⟩),
 (127,⟨0x2206c444c440422022200000212,[],[(6,[.keep [2,7,8,9] [2]],[.keep [2,7,8,9] [2]]),(12,[.keep [] []],[]),(22,[.keep [4] []],[]),(27,[.keep [4] []],[])]⟩),
 (128,⟨0x26c444422012,[],[]⟩),
 (189,⟨0x200226c0442602020202202022000222,[],[(8,[.keep [6,7] [6,7]],[]),(14,[.keep [4,5,6,7,15] [4,5,6,7]],[.keep [] [4,5,6,7]]),(24,[.keep [] [4,5,6,7]],[]),(28,[.keep [6,7] [6,7]],[])]⟩),
 (172,⟨0x2220622102,[],[]⟩),
 (152,⟨0x2200222202262222626200203202026220220220200000622260202220000001002,[],[(6,[.keep [1,2,4,5,13,14,15] [2,4,5]],[.keep [1,2,4,5,13,14,15] [2,4,5]]),(12,[.keep [4,5] [4,5]],[]),(20,[.keep [1,2,4,5,7,13,14,15,27,28,29] [2,4,5]],[.keep [1,2,4,5,7,13,14,15,27,28,29] [2,4,5]]),(26,[.keep [1,2,4,5,13,14,15] [2,4,5]],[]),(44,[.keep [4,5,6] [4,5]],[]),(50,[.keep [4,5,6] [4,5]],[])]⟩),
 (129,⟨0x22223300200262212,[],[]⟩),
 (105,⟨0x2202620220000222026202200002220262022000000260012,[],[(8,[.keep [6] []],[]),(14,[.keep [1,2,3,17,18,19] [3]],[.keep [1,2,3,17,18,19] [3]]),(20,[.keep [1,2,3] [3]],[]),(30,[.keep [6] []],[]),(37,[.keep [1,3,28,29,30] [3]],[.keep [1,3,28,29,30] [3]]),(43,[.keep [1,3] [3]],[]),(53,[.keep [6] []],[]),(60,[.keep [3,39,40,41] [3]],[.keep [3,39,40,41] [3]]),(66,[.keep [] []],[]),(76,[.keep [6] []],[]),(81,[.keep [6] []],[])]⟩),
 (65,⟨0x22622212,[],[]⟩),
 (82,⟨0x2206262026002000200620201,[],[(8,[.keep [4] []],[]),(14,[.keep [0,1,12,13] []],[.keep [0,1,12,13] []]),(20,[.keep [] []],[]),(30,[.keep [4] []],[]),(35,[.keep [4] []],[])]⟩),
 (99,⟨0x2206222622022222000002206c440440264c4040264c400226200122,[],[(8,[.keep [4] []],[]),(14,[.keep [2,37,38,39] [2]],[.keep [2,37,38,39] [2]]),(20,[.keep [] []],[]),(30,[.keep [4] []],[]),(35,[.keep [4] []],[])]⟩),
 (100,⟨0x22222622222202000022012,[],[(8,[.canon (.s 3) 2003 1,.keep [3,7,8,9] [2003]],[.canon (.s 3) 2003 1,.keep [3,7,8,9] [2003]]),(14,[.canon (.s 3) 2003 1,.keep [3] [2003]],[])]⟩),
 (73,⟨0x226222262022122,[],[]⟩),
 (125,⟨0x26262222012,[],[]⟩),
 (38,⟨0x2206262026002000200620201,[],[(8,[.keep [4] []],[]),(14,[.keep [0,1,12,13] []],[.keep [0,1,12,13] []]),(20,[.keep [] []],[]),(30,[.keep [4] []],[]),(35,[.keep [4] []],[])]⟩),
 (102,⟨0x26c44426c04026c0426022622226200222222620026001222,[],[]⟩),
 (101,⟨0x2e22212,[],[]⟩),
 (71,⟨0x222202662200200022220000021,[],[(6,[.keep [1,8,9,10] []],[.keep [1,8,9,10] []]),(12,[.keep [] []],[]),(20,[.keep [1,5,8,9,10,15,16] []],[.keep [1,5,8,9,10,15,16] []]),(26,[.keep [1,8,9,10] []],[]),(36,[.keep [4] []],[]),(42,[.keep [4] []],[])]⟩),
 (104,⟨0x26262212,[],[]⟩),
 (103,⟨0x26602062012,[],[]⟩),
 (64,⟨0x26220064c4402260026444426444022220200220122,[],[]⟩),
 (79,⟨0x2262212,[],[]⟩),
 (114,⟨0x22226260002000201,[],[(6,[.keep [0,1,7,8] []],[.keep [0,1,7,8] []]),(12,[.keep [] []],[]),(22,[.keep [4] []],[]),(27,[.keep [4] []],[])]⟩),
 (78,⟨0x226221,[],[]⟩),
 (44,⟨0x264c4422012,[],[]⟩),
 (85,⟨0x26200201,[],[(8,[.canon (.s 2) 4004 1],[]),(12,[.canon (.s 2) 4004 1],[])]⟩),
 (88,⟨0x222236622620002220000022221,[],[(8,[.canon (.s 5) 2005 1,.keep [5,10,11,12] [2005]],[.canon (.s 5) 2005 1,.keep [5,10,11,12] [2005]]),(14,[.canon (.s 5) 2005 1,.keep [5] [2005]],[])]⟩),
 (91,⟨0x222222220262226002200006226220222000000002620020200000020222622200202020000011,[],[(6,[.keep [0,1,15,16,17] []],[.keep [0,1,15,16,17] []]),(12,[.keep [0,1] []],[]),(23,[.keep [4,5] []],[]),(31,[.keep [0,1,8] []],[.keep [0,1,8] []]),(37,[.keep [0] []],[]),(44,[.keep [0,1,8,29,30,31] []],[.keep [0,1,8,29,30,31] []]),(50,[.keep [0,1,8] []],[]),(61,[.keep [4,5] []],[]),(66,[.keep [0,1,8,10,29,30,31,40,41,42] [10]],[.keep [0,1,8,10,29,30,31,40,41,42] [10]]),(72,[.keep [0,1,8,29,30,31] []],[]),(80,[.keep [0,1,8,10,29,30,31,40,41,42,53,54,55] [10]],[.keep [0,1,8,10,29,30,31,40,41,42,53,54,55] [10]]),(86,[.keep [0,1,8,10,29,30,31,40,41,42] [10]],[]),(103,[.keep [4,5] []],[])]⟩),
 (107,⟨0x22206622211,[(6,[.closeS (.s 9)])],[]⟩),
 (86,⟨0x2236622620002221,[],[]⟩),
 (80,⟨0x2222306222022262223060202222026e22000200022202202000002220620020222220262220002,[(7,[.closeS (.s 19)]),(20,[.closeS (.s 28)]),(71,[.closeS (.s 67)]),(77,[.closeS (.c 7 3)])],[(18,[.canon (.c 7 3) 4143 1,.keep [1,4,5,7,31,32,33] [4,7,4143]],[.canon (.c 7 3) 4143 1,.keep [1,4,5,7,31,32,33] [4,7,4143]]),(24,[.canon (.c 7 3) 4143 1,.keep [4,7] [4,7,4143]],[]),(35,[.canon (.s 10) 2010 1,.canon (.c 7 3) 4143 1,.keep [1,4,5,7,8,10,31,32,33,40,41] [4,7,2010,4143]],[.canon (.s 10) 2010 1,.canon (.c 7 3) 4143 1,.keep [1,4,5,7,8,10,31,32,33,40,41] [4,7,2010,4143]]),(41,[.canon (.s 10) 2010 1,.canon (.c 7 3) 4143 1,.keep [1,4,5,7,10,31,32,33] [4,7,2010,4143]],[]),(54,[.canon (.s 10) 2010 1,.canon (.c 7 3) 4143 1,.keep [1,4,5,7,8,10,12,31,32,33,40,41] [4,7,2010,4143]],[])]⟩),
 (67,⟨0x26620222,[(6,[.closeB 4,.closeB 5])],[]⟩),
 (28,⟨0x2e22202026600010222,[],[]⟩),
 (109,⟨0x222236622620002220000022221,[],[(8,[.canon (.s 5) 2005 1,.keep [5,10,11,12] [2005]],[.canon (.s 5) 2005 1,.keep [5,10,11,12] [2005]]),(14,[.canon (.s 5) 2005 1,.keep [5] [2005]],[])]⟩),
 (108,⟨0x222202222026222602022202622222202622011,[(5,[.closeS (.s 13)]),(14,[.closeS (.s 20)])],[]⟩),
 (68,⟨0x26620222,[(6,[.closeB 4,.closeB 5])],[]⟩),
 (29,⟨0x2e22202026600010222,[],[]⟩),
 (169,⟨0x26c4444026402201,[],[]⟩),
 (170,⟨0x26442201,[],[]⟩),
 (146,⟨0x222064c002644c00222600620000644402644022201,[],[(8,[.keep [2] []],[]),(14,[.keep [0,3] []],[.keep [0,3] []]),(20,[.keep [] []],[]),(28,[.keep [2] []],[]),(33,[.keep [2] []],[])]⟩),
 (147,⟨0x26442201,[],[]⟩),
 (118,⟨0x2222222022226020222062260202260206000022226020622000022202220620226020600002220202602012,[],[(10,[.keep [4] []],[]),(16,[.keep [1,2,5,6] [2,5]],[.keep [1,2,5,6] [2,5]]),(22,[.keep [5] [5]],[]),(30,[.keep [4] []],[]),(39,[.keep [4] []],[]),(45,[.keep [5,7] [5]],[.keep [5,7] [5]]),(51,[.keep [5] [5]],[]),(60,[.keep [4] []],[]),(66,[.keep [5,7,8] [5]],[.keep [5,7,8] [5]]),(72,[.keep [5,7] [5]],[]),(80,[.keep [4] []],[]),(88,[.keep [4] []],[]),(97,[.keep [4] []],[]),(101,[.keep [4] []],[])]⟩),
 (119,⟨0x2222220620226020600006444026c444c04040222020260206220000222006cc44c4444c04040440264402220064402644026c04026c44040264402644022200644022202202026022602012,[],[(13,[.keep [6] []],[]),(20,[.keep [6] []],[]),(22,[.keep [1,2,3,7] [3,7]],[]),(28,[.keep [6] []],[]),(36,[.keep [6] []],[]),(42,[.keep [1,3,7,8] [3,7]],[.keep [1,3,7,8] [3,7]]),(48,[.keep [] []],[]),(59,[.keep [6] []],[]),(64,[.keep [1,3,7,8,9,10] [3,7,9]],[.keep [1,3,7,8,9,10] [3,7,9]]),(70,[.keep [1,3,7,8] [3,7]],[]),(78,[.keep [6] []],[]),(84,[.keep [6] []],[])]⟩),
 (148,⟨0x2262222262022022,[],[]⟩),
 (98,⟨0x20222222262226c0442602020260226020622260200062200002,[],[(6,[.keep [1,2,3,6,7] [3,6]],[.keep [1,2,3,6,7] [3,6]]),(12,[.keep [6] [6]],[]),(18,[.keep [1,2,3,6,7,8] [3,6]],[.keep [1,2,3,6,7,8] [3,6]]),(24,[.keep [1,2,3,6,7] [3,6]],[]),(34,[.keep [6] [6]],[]),(40,[.keep [6] [6]],[])]⟩),
 (120,⟨0x2222226cc40444cc4040444022202602262020622262020000220060e20200022020600122,[],[(30,[.keep [2,3,5,6,7] [2,3,5]],[.keep [2,3,5,6,7] [2,3,5]]),(36,[.keep [6] []],[])]⟩),
 (121,⟨0x22206222602026006220002222203622000622262002062202202026260022602062226020260062200002222012,[],[(6,[.canon (.s 3) 2003 1,.keep [1,3] [1,2003]],[.canon (.s 3) 2003 1,.keep [1,3] [1,2003]]),(14,[.canon (.s 3) 2003 1,.keep [1,3,4,5] [1,2003]],[.canon (.s 3) 2003 1,.keep [1,3,4,5] [1,2003]]),(20,[.canon (.s 3) 2003 1,.keep [1,3,4] [1,2003]],[]),(24,[.canon (.s 3) 2003 1,.keep [1,3,4,5] [1,2003]],[.canon (.s 3) 2003 1,.keep [1,3,4,5] [1,2003]]),(30,[.canon (.s 3) 2003 1,.keep [1,3,4,5] [1,2003]],[]),(43,[.canon (.s 3) 2003 1,.keep [1,3,4,5] [1,2003]],[]),(46,[.canon (.s 3) 2003 1,.keep [1,3,5] [1,2003]],[]),(53,[.canon (.s 3) 2003 1,.keep [1,3] [1,2003]],[]),(59,[.canon (.s 3) 2003 1,.keep [1,3,8] [1,2003]],[.canon (.s 3) 2003 1,.keep [1,3,8] [1,2003]]),(65,[.keep [] []],[]),(73,[.keep [2] []],[]),(78,[.keep [2] []],[])]⟩),
 (149,⟨0x22262622222202062026262202022200122,[],[(10,[.canon (.s 5) 2005 2,.keep [2,3,5] [2,3,2005]],[])]⟩),
 (92,⟨0x202222220222620260600206200622260200062200002020222222222220260020620062226020006220002222222226222202e0006222602000622000222222222026006220000206444022220102,[],[(8,[.keep [2,3] [2]],[]),(14,[.keep [1,2,4] [1,2]],[.keep [1,2,4] [1,2]]),(20,[.keep [1,2] [1,2]],[]),(30,[.keep [2,3] [2]],[]),(37,[.keep [1,2,6] [1,2]],[.keep [1,2,6] [1,2]]),(43,[.keep [1,2] [1,2]],[]),(49,[.keep [1,2,6,7] [1,2]],[.keep [1,2,6,7] [1,2]]),(55,[.keep [1,2,6] [1,2]],[]),(65,[.keep [2,3] [2]],[]),(73,[.keep [1,2,9] [1,2]],[.keep [1,2,9] [1,2]]),(79,[.keep [1,2] [1,2]],[]),(85,[.keep [1,2,9,10] [1,2]],[.keep [1,2,9,10] [1,2]]),(91,[.keep [1,2,9] [1,2]],[]),(103,[.keep [2,3] [2]],[]),(113,[.keep [2,3] [2]],[]),(119,[.keep [1,2,13] [1,2]],[.keep [1,2,13] [1,2]]),(125,[.keep [2] [2]],[]),(131,[.keep [1,2,13,14] [1,2]],[.keep [1,2,13,14] [1,2]]),(137,[.keep [1,2,13] [1,2]],[]),(147,[.keep [2,3] [2]],[]),(153,[.keep [2,3] [2]],[])]⟩),
 (48,⟨0x2222302022212,[],[]⟩),
 (93,⟨0x262222212,[],[]⟩),
 (94,⟨0x22206c444c0404c002226006200012,[],[(6,[.keep [1,2,5] [2]],[.keep [1,2,5] [2]]),(12,[.keep [] []],[]),(20,[.keep [4] []],[]),(25,[.keep [4] []],[])]⟩),
 (123,⟨0x26262222020622202202026222622012,[],[]⟩),
 (95,⟨0x22222202001ef000062600006200012,[],[(6,[.keep [1,2,5] [2]],[.keep [1,2,5] [2]]),(12,[.keep [] []],[]),(18,[.keep [1,2,5,6] [2]],[.keep [1,2,5,6] [2]]),(24,[.keep [1,2,5] [2]],[]),(32,[.keep [4] []],[]),(38,[.keep [4] []],[])]⟩),
 (49,⟨0x26c4426c0026c0022012,[],[]⟩),
 (50,⟨0x2220626002600620000620201,[],[(8,[.keep [4] []],[]),(14,[.keep [0,1,5] []],[.keep [0,1,5] []]),(20,[.keep [] []],[]),(28,[.keep [4] []],[]),(33,[.keep [4] []],[])]⟩),
 (54,⟨0x2220626002600620000620201,[],[(8,[.keep [4] []],[]),(14,[.keep [0,1,5] []],[.keep [0,1,5] []]),(20,[.keep [] []],[]),(28,[.keep [4] []],[]),(33,[.keep [4] []],[])]⟩),
 (51,⟨0x26c44426c04026c44c40260226222626020022226260200226026020122,[],[]⟩),
 (52,⟨0x22222202602602602062600006200012,[],[(6,[.keep [1,2,5] [2]],[.keep [1,2,5] [2]]),(12,[.keep [] []],[]),(18,[.keep [1,2,5,6] [2]],[.keep [1,2,5,6] [2]]),(24,[.keep [1,2,5] [2]],[]),(32,[.keep [4] []],[]),(38,[.keep [4] []],[])]⟩),
 (13,⟨0x2222220262602602006260200062200022222202001ef000062260200006222602022602062200006c440440264c4040264c40022620026444426444022220200220122,[],[(8,[.keep [4] []],[]),(16,[.keep [4] []],[]),(24,[.keep [4] []],[]),(30,[.keep [2,3,5] [2,3]],[.keep [2,3,5] [2,3]]),(36,[.keep [3] [3]],[]),(45,[.keep [4] []],[]),(50,[.keep [2,3,5,6] [2,3]],[.keep [2,3,5,6] [2,3]]),(56,[.keep [2,3,5] [2,3]],[]),(64,[.keep [4] []],[]),(72,[.keep [3,7] [3]],[.keep [3,7] [3]]),(78,[.keep [] []],[]),(84,[.keep [3,7,8] [3]],[.keep [3,7,8] [3]]),(90,[.keep [3,7] [3]],[]),(98,[.keep [4] []],[]),(104,[.keep [4] []],[])]⟩),
 (55,⟨0x22202626002600620000620201,[],[(8,[.keep [4] []],[]),(14,[.keep [0,1,5] []],[.keep [0,1,5] []]),(20,[.keep [] []],[]),(28,[.keep [4] []],[]),(33,[.keep [4] []],[])]⟩),
 (16,⟨0x222026260202602062200006c440440264c4040264c4040262020122,[],[(8,[.keep [4] []],[]),(14,[.keep [2,3,5] [2,3]],[.keep [2,3,5] [2,3]]),(20,[.keep [] []],[]),(28,[.keep [4] []],[]),(33,[.keep [4] []],[])]⟩),
 (14,⟨0x260212,[],[]⟩),
 (62,⟨0x2236226200026201,[],[]⟩),
 (60,⟨0x22206c444c0404c0022260062000062202012,[],[(8,[.keep [4] []],[]),(14,[.keep [1,2,5] [2]],[.keep [1,2,5] [2]]),(20,[.keep [] []],[]),(28,[.keep [4] []],[]),(33,[.keep [4] []],[])]⟩),
 (61,⟨0x2222220626220202062202202026022602062600006200012,[],[(6,[.keep [1,2,5] [2]],[.keep [1,2,5] [2]]),(12,[.keep [] []],[]),(18,[.keep [1,2,5,6] [2]],[.keep [1,2,5,6] [2]]),(24,[.keep [1,2,5] [2]],[]),(39,[.keep [4] []],[]),(46,[.keep [4] []],[])]⟩),
 (20,⟨0x26c44260012,[],[]⟩),
 (21,⟨0x2222226260026cc000262226020260062000012,[],[(8,[.canon (.s 5) 2005 1,.keep [1,2,5,6] [2,2005]],[.canon (.s 5) 2005 1,.keep [1,2,5,6] [2,2005]]),(14,[.canon (.s 5) 2005 1,.keep [5] [2005]],[])]⟩),
 (171,⟨0x2222226260026200001,[],[(8,[.keep [0,3,4] []],[.keep [0,3,4] []]),(14,[.keep [3] []],[])]⟩),
 (150,⟨0x222262622260262600260062000262222620201,[],[(8,[.keep [4] []],[]),(14,[.keep [0,1,5] []],[.keep [0,1,5] []]),(20,[.keep [] []],[]),(28,[.keep [4] []],[]),(33,[.keep [4] []],[])]⟩),
 (97,⟨0x2220626002600620000620201,[],[(8,[.keep [4] []],[]),(14,[.keep [0,1,5] []],[.keep [0,1,5] []]),(20,[.keep [] []],[]),(28,[.keep [4] []],[]),(33,[.keep [4] []],[])]⟩),
 (124,⟨0x26622226222266000226c04c00262002226c04c002620001,[],[(6,[.keep [0,1,5] []],[.keep [0,1,5] []]),(12,[.keep [0,1,5] []],[])]⟩),
 (96,⟨0x222222222226260026200026260006200000022026022200222220112,[(7,[.closeS (.s 13)])],[(8,[.closeS (.s 4),.canon (.s 5) 2005 1,.keep [1,4,5] [1,2005]],[.closeS (.s 4),.canon (.s 5) 2005 1,.keep [1,4,5] [1,2005]]),(14,[.canon (.s 5) 2005 1,.keep [5] [2005]],[]),(24,[.canon (.s 2) 2002 1,.keep [2,3] [2002]],[]),(32,[.closeS (.s 4),.canon (.s 5) 2005 1,.keep [1,4,5,6,7] [1,2005]],[.closeS (.s 4),.canon (.s 5) 2005 1,.keep [1,4,5,6,7] [1,2005]]),(38,[.canon (.s 5) 2005 1,.keep [1,5,6] [1,2005]],[]),(46,[.closeS (.s 4),.canon (.s 5) 2005 1,.keep [1,4,5,6,7,8,9] [1,2005]],[.closeS (.s 4),.canon (.s 5) 2005 1,.keep [1,4,5,6,7,8,9] [1,2005]]),(52,[.closeS (.s 4),.canon (.s 5) 2005 1,.keep [1,4,5,6,7] [1,2005]],[]),(61,[.canon (.s 2) 2002 1,.keep [2,3] [2002]],[])]⟩),
 (53,⟨0x22202200220112,[],[]⟩),
 (15,⟨0x2264442202220222112,[],[]⟩),
 (69,⟨0x26c4426c40026c04026c042220122,[],[]⟩),
 (110,⟨0x2222226262600260026200001,[],[(8,[.canon (.s 5) 2005 1,.keep [0,1,5,6] [2005]],[.canon (.s 5) 2005 1,.keep [0,1,5,6] [2005]]),(14,[.canon (.s 5) 2005 1,.keep [5] [2005]],[])]⟩),
 (111,⟨0x2222226262600260026200001,[],[(8,[.canon (.s 5) 2005 1,.keep [0,1,5,6] [2005]],[.canon (.s 5) 2005 1,.keep [0,1,5,6] [2005]]),(14,[.canon (.s 5) 2005 1,.keep [5] [2005]],[])]⟩),
 (70,⟨0x2222230622202222622222226260022626000220602602600620000622260200006220002223062600203062600206200020662200622002022002,[(109,[.closeS (.s 103)]),(116,[.closeS (.c 5 3)])],[(16,[.closeS (.c 5 1),.closeS (.c 5 2),.keep [1,2,4,5,6] [2,4,5]],[.closeS (.c 5 1),.closeS (.c 5 2),.keep [1,2,4,5,6] [2,4,5]]),(22,[.closeS (.c 5 1),.closeS (.c 5 2),.keep [1,2,4,5] [2,4,5]],[]),(33,[.closeS (.c 5 1),.closeS (.c 5 2),.canon (.c 5 3) 4103 1,.keep [1,2,4,5,7] [2,4,5,4103]],[.closeS (.c 5 1),.closeS (.c 5 2),.canon (.c 5 3) 4103 1,.keep [1,2,4,5,7] [2,4,5,4103]]),(39,[.closeS (.c 5 1),.closeS (.c 5 2),.canon (.c 5 3) 4103 1,.keep [4,5] [4,5,4103]],[]),(48,[.closeS (.c 5 1),.closeS (.c 5 2),.canon (.s 8) 2008 1,.canon (.c 5 3) 4103 1,.keep [1,2,4,5,7,8,9] [2,4,5,2008,4103]],[.closeS (.c 5 1),.closeS (.c 5 2),.canon (.s 8) 2008 1,.canon (.c 5 3) 4103 1,.keep [1,2,4,5,7,8,9] [2,4,5,2008,4103]]),(54,[.closeS (.c 5 1),.closeS (.c 5 2),.canon (.s 8) 2008 1,.canon (.c 5 3) 4103 1,.keep [1,2,4,5,7,8] [2,4,5,2008,4103]],[]),(63,[.closeS (.s 10),.closeS (.c 5 1),.closeS (.c 5 2),.canon (.s 8) 2008 1,.canon (.c 5 3) 4103 1,.keep [1,2,4,5,7,8,9,10,11] [2,4,5,2008,4103]],[.closeS (.s 10),.closeS (.c 5 1),.closeS (.c 5 2),.canon (.s 8) 2008 1,.canon (.c 5 3) 4103 1,.keep [1,2,4,5,7,8,9,10,11] [2,4,5,2008,4103]]),(69,[.closeS (.c 5 1),.closeS (.c 5 2),.canon (.s 8) 2008 1,.canon (.c 5 3) 4103 1,.keep [1,2,4,5,7,8,9,10] [2,4,5,2008,4103]],[])]⟩),
 (30,⟨0x2622222262260026001cf4c00002e2600006200000222,[(39,[.closeS (.s 41)])],[(8,[.canon (.s 9) 2009 1,.keep [1,4,6,7,8,9,10] [4,6,7,8,2009]],[.canon (.s 9) 2009 1,.keep [1,4,6,7,8,9,10] [4,6,7,8,2009]]),(14,[.canon (.s 9) 2009 1,.keep [4,8,9] [4,8,2009]],[])]⟩),
 (31,⟨0x2622222262260026001cf4c00002e2600006200000222,[(39,[.closeS (.s 41)])],[(8,[.canon (.s 9) 2009 1,.keep [1,4,6,7,8,9,10] [4,6,7,8,2009]],[.canon (.s 9) 2009 1,.keep [1,4,6,7,8,9,10] [4,6,7,8,2009]]),(14,[.canon (.s 9) 2009 1,.keep [4,8,9] [4,8,2009]],[])]⟩),
 (5,⟨0x26cc003cf444444c003cf000042222220220064c00264c00264422226442644264422264c0022600220202e000220202e0000640264022200201222,[],[]⟩)]
end Go.VE
namespace Go.VE
namespace trace_events_c1
def zS:List RO:=[o1 20 (.s 18) [],o2 21 (ix 5) [.s 16,.s 18] [],o2 22 (lD 5) [.s 21] [21],o2 6 (.a (.alloc 5 [.int .i64 0,.int .i64 0,.int .i64 0,.int .i64 0,.aR])) [] [],o1 5 (.s 20) [20],oz (.l (.store 5)) [.s 6,.s 22] [22]]
def xG:List RO:=[o1 23 (.s 0) [],o1 24 (.s 3) [],o1 25 (.s 5) [5],o2 26 (bI .add) [.s 25,.k (.int .i64 1)] [25],o2 27 (.p (.build [.int .i64 0,.int .i64 0] [(0,1),(1,1)])) [.s 24,.s 26] [24,26],o2 28 (lD 5) [.s 6] [6],
 o2 29 .c [.s 23,.s 27,.s 28] [23,27,28],o2 30 (.p .not) [.s 29] [29]]
def uX:List RO:=[o2 31 (bI .add) [.s 18,.k (.int .i64 1)] [],o1 18 (.s 31) [31]]
def C9:RC:=.hg (.seq (.ops [o2 19 (bI .lss) [.s 18,.s 17] []]) (.seq (.cond (.s 19) .skip (.exit 2)) (.seq (.block 3 (.seq (.ops zS) (.seq (.ops xG) (.cond (.s 30) .ret .skip)))) (.ops uX)))) (.keep [0,3,8,9,10,16,17,18] [])
def G6:List RO:=[o1 12 (.s 10) [],o2 13 (ix 3) [.s 8,.s 10] [],o2 14 (lD 3) [.s 13] [13],o2 4 (.a (.alloc 3 [.str ByteArray.empty,.aR,.aR])) [] [],o1 3 (.s 12) [12],oz (.l (.store 3)) [.s 4,.s 14] [14]]
def ER:List RO:=[o2 15 (fa 2) [.s 4] [],o2 16 (ld 1) [.s 15] [15],o2 17 ln [.s 16] [],o1 18 (.k (.int .i64 0)) []]
def CS:List RO:=[o2 32 (bI .add) [.s 10,.k (.int .i64 1)] [],o1 10 (.s 32) [32]]
def U2:RC:=.block 2 (.gh (.keep [0,3,8,9,10,16,17,18] []) (.loop C9))
def JX:RC:=.hg (.seq (.ops [o2 11 (bI .lss) [.s 10,.s 9] []]) (.seq (.cond (.s 11) .skip (.exit 0)) (.seq (.block 1 (.seq (.ops G6) (.seq (.ops ER) U2))) (.ops CS)))) (.keep [0,8,9,10] [])
def Qa:List RO:=[o2 7 (fa 0) [.s 1] [1],o2 8 (ld 1) [.s 7] [7],o2 9 ln [.s 8] [],o1 10 (.k (.int .i64 0)) []]
def U1:RC:=.block 0 (.gh (.keep [0,8,9,10] []) (.loop JX))
def text:RF:=⟨33,[],.seq (.ops Qa) U1⟩
section
variable {S:Sys}
abbrev I1 (ps:Sl bt) (i:Int) (ws:List (List V)) (more:Bool) (y:Nat):St:=⟨[(0,.yl y),Cv 8 ps,Iv 9 (len ps),Iv 10 i],[],[],ws,more,y⟩
abbrev I2 (ps:Sl bt) (i:Int) (es:Sl Event) (j:Int) (ws:List (List V)) (more:Bool) (y:Nat):St:=⟨[(0,.yl y),Iv 3 i,Cv 8 ps,Iv 9 (len ps),Iv 10 i,Cv 16 es,Iv 17 (len es),Iv 18 j],[],[],ws,more,y⟩
abbrev S2 (ps:Sl bt) (i:Int) (es:Sl Event) (j:Int) (b:Bool) (ws:List (List V)) (more:Bool) (y:Nat):St:=⟨[(0,.yl y),Iv 3 i,Cv 8 ps,Iv 9 (len ps),Iv 10 i,Cv 16 es,Iv 17 (len es),Iv 18 j,Bv 19 b],[],[],ws,more,y⟩
theorem QY (ps:Sl bt) (i:Int) (es:Sl Event) (j:Int) (ws:List (List V)) (more:Bool) (y:Nat) (hj:decide (j<len es)=false) :
 rn S.bare lT some (.rc C9) [] (I2 ps i es j ws more y)=some (.exit 2,S2 ps i es j false ws more y):=by
 refine Le.get ?_;refine Kf (n:=7) (fo':=.rc (.cond (.s 19) .skip (.exit 2))) (fs':=[.seq (.seq (.block 3 (.seq (.ops zS) (.seq (.ops xG) (.cond (.s 30) .ret .skip)))) (.ops uX)),.gst (.keep [0,3,8,9,10,16,17,18] [])]) (λb=>S2 ps i es j b ws more y) hj (by kernel_rfl) ?_
 exact Le.of_eq (by kernel_rfl)
theorem Sf (ps:Sl bt) (i:Int) (es:Sl Event) (j:Int) (e:Event) (ws:List (List V)) (more:Bool) (y:Nat) (hj:decide (j<len es)=true) (hx:idx es j=some e) (hb:(!(more || !ws.isEmpty))=false) :
 rn S.bare lT some (.rc C9) [] (I2 ps i es j ([enc (⟨i,IntKind.wrap .i64 (j+1)⟩:aa),enc e]::ws) more y)=some (.norm,I2 ps i es (IntKind.wrap .i64 (j+1)) ws more y):=by
 refine Le.get ?_;refine Kt (n:=7) (fo':=.rc (.cond (.s 19) .skip (.exit 2))) (fs':=[.seq (.seq (.block 3 (.seq (.ops zS) (.seq (.ops xG) (.cond (.s 30) .ret .skip)))) (.ops uX)),.gst (.keep [0,3,8,9,10,16,17,18] [])]) (λb=>S2 ps i es j b ([enc (⟨i,IntKind.wrap .i64 (j+1)⟩:aa),enc e]::ws) more y) hj (by kernel_rfl) ?_
 refine No hx ?_;refine Np 8 false [] (zS.drop 1) [.seq (.seq (.ops xG) (.cond (.s 30) .ret .skip)),.blk 3,.seq (.ops uX),.gst (.keep [0,3,8,9,10,16,17,18] [])] ⟨[(0,.yl y),Iv 3 i,Cv 8 ps,Iv 9 (len ps),Iv 10 i,Cv 16 es,Iv 17 (len es),Iv 18 j,Bv 19 true,Iv 20 j],[],[],([enc (⟨i,IntKind.wrap .i64 (j+1)⟩:aa),enc e]::ws),more,y⟩ .i64 rfl (by kernel_rfl) λx h1=>?_
 obtain rfl:x=e:=by rw[hx]at h1;cases h1;rfl
 refine Rq 1 false [] (zS.drop 3) [.seq (.seq (.ops xG) (.cond (.s 30) .ret .skip)),.blk 3,.seq (.ops uX),.gst (.keep [0,3,8,9,10,16,17,18] [])] ⟨[(0,.yl y),Iv 3 i,Cv 8 ps,Iv 9 (len ps),Iv 10 i,Cv 16 es,Iv 17 (len es),Iv 18 j,Bv 19 true,Iv 20 j,Cv 22 x],[],[],([enc (⟨i,IntKind.wrap .i64 (j+1)⟩:aa),enc x]::ws),more,y⟩ [iv 0,iv 0,iv 0,iv 0,.v .aR] rfl (by simp only[aH,vW,oA,p_,oJ,qz,si,qy,rm,oG,qn,wk,rP,rQ,rZ,rW,ua,tY,qb,rA,SV.bT];rfl) (by kernel_rfl) ?_
 refine Ast 1 false [] (zS.drop 5) [.seq (.seq (.ops xG) (.cond (.s 30) .ret .skip)),.blk 3,.seq (.ops uX),.gst (.keep [0,3,8,9,10,16,17,18] [])] ⟨[(0,.yl y),Iv 3 i,Cv 8 ps,Iv 9 (len ps),Iv 10 i,Cv 16 es,Iv 17 (len es),Iv 18 j,Bv 19 true,Cv 22 x,Pv 6,Iv 5 j],[Xb 6 (⟨0,0,0,0,.nil⟩:Event)],[],([enc (⟨i,IntKind.wrap .i64 (j+1)⟩:aa),enc x]::ws),more,y⟩ 6 0 x [iv 0,iv 0,iv 0,iv 0,.v .aR] ((cells x).map .v) rfl (by kernel_rfl) ?_
 refine Tq (n:=10) (q:=xG.drop 6) (fs':=[.seq (.cond (.s 30) .ret .skip),.blk 3,.seq (.ops uX),.gst (.keep [0,3,8,9,10,16,17,18] [])]) (st:=⟨[(0,.yl y),Iv 3 i,Cv 8 ps,Iv 9 (len ps),Iv 10 i,Cv 16 es,Iv 17 (len es),Iv 18 j,Bv 19 true,(23,.yl y),Cv 27 (⟨i,IntKind.wrap .i64 (j+1)⟩:aa),Cv 28 x],[Xb 6 x],[],([enc (⟨i,IntKind.wrap .i64 (j+1)⟩:aa),enc x]::ws),more,y⟩) (vs:=[cv (⟨i,IntKind.wrap .i64 (j+1)⟩:aa),cv x]) (by kernel_rfl) rfl (by kernel_rfl) (by kernel_rfl) rfl rfl ?_
 refine Kf (n:=3) (fo':=.rc (.cond (.s 30) .ret .skip)) (fs':=[.blk 3,.seq (.ops uX),.gst (.keep [0,3,8,9,10,16,17,18] [])]) (λb=>⟨[(0,.yl y),Iv 3 i,Cv 8 ps,Iv 9 (len ps),Iv 10 i,Cv 16 es,Iv 17 (len es),Iv 18 j,Bv 19 true,Bv 30 b],[Xb 6 x],[],ws,more,y⟩) hb (by kernel_rfl) ?_
 exact Le.of_eq (by kernel_rfl)
theorem Ol (ps:Sl bt) (i:Int) (es:Sl Event) (j:Int) (e:Event) (ws:List (List V)) (more:Bool) (y:Nat) (hj:decide (j<len es)=true) (hx:idx es j=some e) (hb:(!(more || !ws.isEmpty))=true) :
 rn S.bare lT some (.rc C9) [] (I2 ps i es j ([enc (⟨i,IntKind.wrap .i64 (j+1)⟩:aa),enc e]::ws) more y)=some (.ret,⟨[(0,.yl y),Iv 3 i,Cv 8 ps,Iv 9 (len ps),Iv 10 i,Cv 16 es,Iv 17 (len es),Iv 18 j,Bv 19 true,Bv 30 true],[Xb 6 e],[],ws,more,y⟩):=by
 refine Le.get ?_;refine Kt (n:=7) (fo':=.rc (.cond (.s 19) .skip (.exit 2))) (fs':=[.seq (.seq (.block 3 (.seq (.ops zS) (.seq (.ops xG) (.cond (.s 30) .ret .skip)))) (.ops uX)),.gst (.keep [0,3,8,9,10,16,17,18] [])]) (λb=>S2 ps i es j b ([enc (⟨i,IntKind.wrap .i64 (j+1)⟩:aa),enc e]::ws) more y) hj (by kernel_rfl) ?_
 refine No hx ?_;refine Np 8 false [] (zS.drop 1) [.seq (.seq (.ops xG) (.cond (.s 30) .ret .skip)),.blk 3,.seq (.ops uX),.gst (.keep [0,3,8,9,10,16,17,18] [])] ⟨[(0,.yl y),Iv 3 i,Cv 8 ps,Iv 9 (len ps),Iv 10 i,Cv 16 es,Iv 17 (len es),Iv 18 j,Bv 19 true,Iv 20 j],[],[],([enc (⟨i,IntKind.wrap .i64 (j+1)⟩:aa),enc e]::ws),more,y⟩ .i64 rfl (by kernel_rfl) λx h1=>?_
 obtain rfl:x=e:=by rw[hx]at h1;cases h1;rfl
 refine Rq 1 false [] (zS.drop 3) [.seq (.seq (.ops xG) (.cond (.s 30) .ret .skip)),.blk 3,.seq (.ops uX),.gst (.keep [0,3,8,9,10,16,17,18] [])] ⟨[(0,.yl y),Iv 3 i,Cv 8 ps,Iv 9 (len ps),Iv 10 i,Cv 16 es,Iv 17 (len es),Iv 18 j,Bv 19 true,Iv 20 j,Cv 22 x],[],[],([enc (⟨i,IntKind.wrap .i64 (j+1)⟩:aa),enc x]::ws),more,y⟩ [iv 0,iv 0,iv 0,iv 0,.v .aR] rfl (by simp only[aH,vW,oA,p_,oJ,qz,si,qy,rm,oG,qn,wk,rP,rQ,rZ,rW,ua,tY,qb,rA,SV.bT];rfl) (by kernel_rfl) ?_
 refine Ast 1 false [] (zS.drop 5) [.seq (.seq (.ops xG) (.cond (.s 30) .ret .skip)),.blk 3,.seq (.ops uX),.gst (.keep [0,3,8,9,10,16,17,18] [])] ⟨[(0,.yl y),Iv 3 i,Cv 8 ps,Iv 9 (len ps),Iv 10 i,Cv 16 es,Iv 17 (len es),Iv 18 j,Bv 19 true,Cv 22 x,Pv 6,Iv 5 j],[Xb 6 (⟨0,0,0,0,.nil⟩:Event)],[],([enc (⟨i,IntKind.wrap .i64 (j+1)⟩:aa),enc x]::ws),more,y⟩ 6 0 x [iv 0,iv 0,iv 0,iv 0,.v .aR] ((cells x).map .v) rfl (by kernel_rfl) ?_
 refine Tq (n:=10) (q:=xG.drop 6) (fs':=[.seq (.cond (.s 30) .ret .skip),.blk 3,.seq (.ops uX),.gst (.keep [0,3,8,9,10,16,17,18] [])]) (st:=⟨[(0,.yl y),Iv 3 i,Cv 8 ps,Iv 9 (len ps),Iv 10 i,Cv 16 es,Iv 17 (len es),Iv 18 j,Bv 19 true,(23,.yl y),Cv 27 (⟨i,IntKind.wrap .i64 (j+1)⟩:aa),Cv 28 x],[Xb 6 x],[],([enc (⟨i,IntKind.wrap .i64 (j+1)⟩:aa),enc x]::ws),more,y⟩) (vs:=[cv (⟨i,IntKind.wrap .i64 (j+1)⟩:aa),cv x]) (by kernel_rfl) rfl (by kernel_rfl) (by kernel_rfl) rfl rfl ?_
 refine Kt (n:=3) (fo':=.rc (.cond (.s 30) .ret .skip)) (fs':=[.blk 3,.seq (.ops uX),.gst (.keep [0,3,8,9,10,16,17,18] [])]) (λb=>⟨[(0,.yl y),Iv 3 i,Cv 8 ps,Iv 9 (len ps),Iv 10 i,Cv 16 es,Iv 17 (len es),Iv 18 j,Bv 19 true,Bv 30 b],[Xb 6 x],[],ws,more,y⟩) hb (by kernel_rfl) ?_
 exact Le.of_eq (by kernel_rfl)
abbrev S1 (ps:Sl bt) (i:Int) (b:Bool) (ws:List (List V)) (more:Bool) (y:Nat):St:=⟨[(0,.yl y),Cv 8 ps,Iv 9 (len ps),Iv 10 i,Bv 11 b],[],[],ws,more,y⟩
theorem RD (ps:Sl bt) (i:Int) (ws:List (List V)) (more:Bool) (y:Nat) (hj:decide (i<len ps)=false) :
 rn S.bare lT some (.rc JX) [] (I1 ps i ws more y)=some (.exit 0,S1 ps i false ws more y):=by
 refine Le.get ?_;refine Kf (n:=7) (fo':=.rc (.cond (.s 11) .skip (.exit 0))) (fs':=[.seq (.seq (.block 1 (.seq (.ops G6) (.seq (.ops ER) U2))) (.ops CS)),.gst (.keep [0,8,9,10] [])]) (λb=>S1 ps i b ws more y) hj (by kernel_rfl) ?_
 exact Le.of_eq (by kernel_rfl)
def NV:List Fm:=[.blk 2,.blk 1,.seq (.ops CS),.gst (.keep [0,8,9,10] [])]
theorem NG (ps:Sl bt) (i:Int) (p:bt) (ws:List (List V)) (more:Bool) (y:Nat) (r:Out×St) (hj:decide (i<len ps)=true) (hx:idx ps i=some p)
 (h:rn S.bare lT some (.rc (.loop C9)) NV (I2 ps i p.events 0 ws more y)=some r):rn S.bare lT some (.rc JX) [] (I1 ps i ws more y)=some r:=by
 refine Le.get ?_;refine Kt (n:=7) (fo':=.rc (.cond (.s 11) .skip (.exit 0))) (fs':=[.seq (.seq (.block 1 (.seq (.ops G6) (.seq (.ops ER) U2))) (.ops CS)),.gst (.keep [0,8,9,10] [])]) (λb=>S1 ps i b ws more y) hj (by kernel_rfl) ?_
 refine No hx ?_;refine Np 8 false [] (G6.drop 1) [.seq (.seq (.ops ER) U2),.blk 1,.seq (.ops CS),.gst (.keep [0,8,9,10] [])] ⟨[(0,.yl y),Cv 8 ps,Iv 9 (len ps),Iv 10 i,Bv 11 true,Iv 12 i],[],[],ws,more,y⟩ .i64 rfl (by kernel_rfl) λx h1=>?_
 obtain rfl:x=p:=by rw[hx]at h1;cases h1;rfl
 refine Rq 1 false [] (G6.drop 3) [.seq (.seq (.ops ER) U2),.blk 1,.seq (.ops CS),.gst (.keep [0,8,9,10] [])] ⟨[(0,.yl y),Cv 8 ps,Iv 9 (len ps),Iv 10 i,Bv 11 true,Iv 12 i,Cv 14 x],[],[],ws,more,y⟩ [.v (.str ByteArray.empty),.v .aR,.v .aR] rfl (by simp only[aH,vW,oA,p_,oJ,qz,si,qy,rm,oG,qn,wk,rP,rQ,rZ,rW,ua,tY,qb,rA,SV.bT];rfl) (by kernel_rfl) ?_
 refine Ast 1 false [] (G6.drop 5) [.seq (.seq (.ops ER) U2),.blk 1,.seq (.ops CS),.gst (.keep [0,8,9,10] [])] ⟨[(0,.yl y),Cv 8 ps,Iv 9 (len ps),Iv 10 i,Bv 11 true,Cv 14 x,Pv 4,Iv 3 i],[Xb 4 (⟨ByteArray.empty,.nil,.nil⟩:bt)],[],ws,more,y⟩ 4 0 x [.v (.str ByteArray.empty),.v .aR,.v .aR] ((cells x).map .v) rfl (by kernel_rfl) ?_
 refine Rb 6 false [] (ER.drop 2) [.seq U2,.blk 1,.seq (.ops CS),.gst (.keep [0,8,9,10] [])] ⟨[(0,.yl y),Cv 8 ps,Iv 9 (len ps),Iv 10 i,Bv 11 true,Pv 4,Iv 3 i,Cv 16 x.events],[Xb 4 x],[],ws,more,y⟩ x.events rfl (by kernel_rfl) ?_
 refine BY (n:=5) (fo':=.rc (.loop C9)) (fs':=NV) (st':=I2 ps i x.events 0 ws more y) (by kernel_rfl) (Le.of_eq h)
theorem Pc (ps:Sl bt) (i:Int) (es:Sl Event) (j:Int) (ws:List (List V)) (more:Bool) (y:Nat) :
 rn S.bare lT some (.ex 2) NV (S2 ps i es j false ws more y)=some (.norm,I1 ps (IntKind.wrap .i64 (i+1)) ws more y):=by kernel_rfl
theorem wrap_small (n:Nat) (h:n<9223372036854775807):IntKind.wrap .i64 ((n:Int)+1)=((n+1:Nat):Int):=by
 simp[IntKind.wrap,IntKind.bits,IntKind.signed];omega
abbrev eI (x:aa×Event):List V:=[enc x.1,enc x.2]
theorem A7.step {x:List V} {ws rest:List (List V)} {more:Bool} (h:A7 ws (x::rest) more):∃ws',ws=x::ws'/\((!(more || !ws'.isEmpty))=false/\A7 ws' rest more\/(!(more || !ws'.isEmpty))=true/\ws'=[]):=by
 rcases h with⟨rfl,rfl⟩|⟨rfl,hn,r,hr⟩
 .exact⟨rest,rfl,.inl ⟨rfl,.inl ⟨rfl,rfl⟩⟩⟩
 .cases ws with
  | nil=>exact absurd rfl hn
  | cons w ws=>
   simp only[List.cons_append,List.cons.injEq]at hr;obtain⟨rfl,rfl⟩:=hr;refine⟨ws,rfl,?_⟩
   cases ws with
   | nil=>exact .inr ⟨rfl,rfl⟩
   | cons z zs=>exact .inl ⟨rfl,.inr ⟨rfl,by simp,r,rfl⟩⟩
theorem EK {α:Type} {s:Sl α} {j:Nat} {x:α} {r:List α} (h:s.l.drop j=x::r):idx s (j:Int)=some x/\decide ((j:Int)<len s)=true/\s.l.drop (j+1)=r:=by
 have h1:j<s.l.length:=by
  apply Classical.byContradiction;intro hn;rw[List.drop_eq_nil_of_le (by omega)]at h;cases h
 have h2:=List.drop_eq_getElem_cons h1;rw[h2]at h;simp only[List.cons.injEq]at h;refine⟨?_,by simp[len,h1],h.2⟩
 unfold idx;rw[if_pos (by omega)]
 simp[ζd h1,h.1]
variable {Q:Out×St->Option (Out×St)} {fs:List Fm}
theorem inner (ps:Sl bt) (i:Int) (es:Sl Event) (hl:es.l.length<9223372036854775807) (more:Bool) (y:Nat) (R:List (List V)):∀(rem:List Event) (j:Nat),es.l.drop j=rem->∀ws,A7 ws ((gz i j rem).map eI++R) more ->
 (∃(ws':List (List V)) (j':Int),A7 ws' R more/\rn S.bare lT Q (.rc (.loop C9)) fs (I2 ps i es j ws more y)=rn S.bare lT Q (.ex 2) fs (S2 ps i es j' false ws' more y)) \/
 (∃st':St,st'.want=[]/\rn S.bare lT Q (.rc (.loop C9)) fs (I2 ps i es j ws more y)=Q (.ret,st'))
 | [],j,hd,ws,hw=>by
  have h1:decide ((j:Int)<len es)=false:=by
   have:es.l.length<=j:=by simpa using hd
   simp[len];omega
  exact .inl ⟨ws,j,by simpa [gz]using hw,CW (QY ps i es j ws more y h1)⟩
 | e::rem,j,hd,ws,hw=>by
  obtain⟨h1,h2,h3⟩:=EK hd;have hj:j<es.l.length:=by simpa [len]using h2
  simp only[gz,List.map_cons,List.cons_append]at hw;obtain⟨ws',rfl,hb⟩:=A7.step hw;have hwr:=wrap_small j (by omega)
  have hji:((j:Int)+1)=IntKind.wrap .i64 ((j:Int)+1):=by rw[hwr];simp
  rcases hb with⟨hb,hd'⟩|⟨hb,rfl⟩
  .have k:=Sf (S:=S) ps i es j e ws' more y h2 h1 hb;rw[<-hji]at k;have k2:=De (Q:=Q) (fs:=fs) k;have ih:=inner ps i es hl more y R rem (j+1) h3 ws' (by push_cast;exact hd')
   rw[show ((j+1:Nat):Int)=(j:Int)+1 from rfl]at ih;rcases ih with⟨ws2,j2,g1,g2⟩|⟨st',g1,g2⟩
   .exact .inl ⟨ws2,j2,g1,k2.trans g2⟩
   .exact .inr ⟨st',g1,k2.trans g2⟩
  .have k:=Ol (S:=S) ps i es j e [] more y h2 h1 hb;rw[<-hji]at k;exact .inr ⟨_,by rfl,CT k⟩
theorem outer (ps:Sl bt) (hl:ps.l.length<9223372036854775807) (hes:∀p∈ps.l,p.events.l.length<9223372036854775807) (more:Bool) (y:Nat):∀(rem:List bt) (i:Nat),ps.l.drop i=rem->∀ws,A7 ws ((dW i rem).map eI) more ->
 rn S.bare lT Qi (.rc (.loop JX)) [.blk 0] (I1 ps i ws more y)=some ()
 | [],i,hd,ws,hw=>by
  have h1:decide ((i:Int)<len ps)=false:=by
   have:ps.l.length<=i:=by simpa using hd
   simp[len];omega
  rw[CW (RD ps i ws more y h1)];have:ws=[]:=by
   rcases hw with⟨_,rfl⟩|⟨_,hn,r,hr⟩
   .rfl
   .have:ws=[]:=by cases ws with
     | nil=>rfl
     | cons=>simp[dW]at hr
    exact absurd this hn
  subst this;rfl
 | p::rem,i,hd,ws,hw=>by
  obtain⟨h1,h2,h3⟩:=EK hd;have hi:i<ps.l.length:=by simpa [len]using h2
  have hp:p∈ps.l:=List.mem_of_mem_drop (i:=i) (by rw[hd];exact List.mem_cons_self ..)
  simp only[dW,List.map_append]at hw;have hwr:=wrap_small i (by omega)
  rcases inner (S:=S) (Q:=some) (fs:=NV) ps i p.events (hes p hp) more y _ p.events.l 0 rfl ws hw with⟨ws',j',g1,g2⟩|⟨st',g1,g2⟩
  .rw[Pc,hwr]at g2;rw[De (NG ps i p ws more y _ h2 h1 g2)];exact outer ps hl hes more y rem (i+1) h3 ws' g1
  .rw[CT (NG ps i p ws more y _ h2 h1 g2)];simp[Qi,g1]
theorem all (t:Trace) (its:List (aa×Event)) (h:gQ t=some its) (ws:List (List V)) (more:Bool) (hw:A7 ws (its.map eI) more) (y:Nat) :
 rn S.bare lT Qi (.rc text.body) [] ⟨vt 0 (([]:List V).map .v++.yl y::[V.fptr (cells t)].map .v),[],[],ws,more,y⟩=some ():=by
 unfold gQ at h;split at h
 .rename_i hk;cases h;simp only[ζh,List.all_eq_true,DY,decide_eq_true_eq]at hk;refine Le.get ?_;refine Rb 4 false [] (Qa.drop 2) [.seq U1] ⟨[(0,.yl y),Cv 8 t.procs],[],[],ws,more,y⟩ t.procs rfl (by kernel_rfl) ?_
  refine BY (n:=5) (fo':=.rc (.loop JX)) (fs':=[.blk 0]) (st':=I1 t.procs 0 ws more y) (by kernel_rfl) (Le.of_eq ?_)
  exact outer t.procs hk.1 hk.2 more y t.procs.l 0 rfl ws hw
 .cases h
end
theorem GS {α:Type} [aI α] {a b:Sl α} (h:bf a=bf b):rows a.l=rows b.l:=by
 cases a <;> cases b <;> first|rfl|(simp only[bf,Sl.k,mq,V.fsl.injEq,true_and,reduceCtorEq]at h;done)|(simp only[bf,Sl.k,mq,V.fsl.injEq,true_and,reduceCtorEq]at h;exact h)
theorem Ef (p:Int):∀(es es':List Event) (j:Int),rows es=rows es'->(gz p j es).map eI=(gz p j es').map eI
 | [],[],_,_=>rfl
 | [],_::_,_,h=>by simp[rows]at h
 | _::_,[],_,h=>by simp[rows]at h
 | e::es,e'::es',j,h=>by
  simp only[rows,List.map_cons,List.cons.injEq]at h;have h1:enc e=enc e':=by show V.agg (cells e)=V.agg (cells e');rw[h.1]
  simp only[gz,List.map_cons,eI,h1,Ef p es es' (j+1) h.2]
theorem BI:∀(ps ps':List bt) (i:Int),rows ps=rows ps'->(dW i ps).map eI=(dW i ps').map eI
 | [],[],_,_=>rfl
 | [],_::_,_,h=>by simp[rows]at h
 | _::_,[],_,h=>by simp[rows]at h
 | p::ps,p'::ps',i,h=>by
  simp only[rows,List.map_cons,List.cons.injEq]at h;have h1:bf p.events=bf p'.events:=by
   have:=h.1;change [V.str p.name,bf p.vars,bf p.events]=[V.str p'.name,bf p'.vars,bf p'.events]at this;simp only[List.cons.injEq]at this;exact this.2.2.1
  simp only[dW,List.map_append,Ef i _ _ 0 (GS h1),BI ps ps' (i+1) h.2]
def DS (f:FuncId) (g:FuncId) (a b:List V) (xs:List (List V)):Prop:=∃(t:Trace) (its:List (aa×Event)),g=f/\a=[]/\b=[.fptr (cells t)]/\gQ t=some its/\xs=its.map eI
theorem DS.uniq {f g:FuncId} {a b:List V} {xs ys:List (List V)} (h:DS f g a b xs) (k:DS f g a b ys):xs=ys:=by
 obtain⟨t,its,rfl,rfl,rfl,h1,rfl⟩:=h;obtain⟨t',its',_,_,h2,h3,rfl⟩:=k;simp only[List.cons.injEq,V.fptr.injEq,and_true]at h2;have h4:bf t.procs=bf t'.procs:=by
  change [bf t.procs]=[bf t'.procs]at h2;simpa using h2
 unfold gQ at h1 h3;split at h1 <;> split at h3 <;> simp only[ζa,reduceCtorEq]at h1 h3;subst h1 h3;exact BI _ _ 0 (GS h4)
end trace_events_c1
end Go.VE
namespace Go.VE
open Go.Proofs.YtimppgndlmehbaaGreat
noncomputable section
noncomputable def Ic (f:FuncId):Option GC:=none
noncomputable def Sy:Sys:=⟨E,λn=>n,wo (trace_events_c1.DS 163),xS E,Ic⟩
theorem RH:∀f q,Ic f=some q->pW E f q:=by
 intro f q h;unfold Ic at h;cases h
def Tx:qg:=LH E some (lk TE)
abbrev cL:br:=dA Sy Tx
theorem RY:∃fi,E.ft 163=some fi/\wQ E some fi trace_events_c1.text:=QK (by kernel_rfl)
theorem NP:uU Sy Tx where
 fn f rf h:=let ⟨fi,h1,h2⟩:=Mp h;⟨fi,some,h1,B5,h2⟩
 xI f bs y h:=JK h
 prm:=RH
theorem GO:∀f a b xs,Sy.items f a b=some xs->gm Sy f a b xs:=by
 intro f a b xs h;obtain⟨t,its,rfl,rfl,rfl,h1,rfl⟩:=IG h;obtain⟨fi,h2,h3⟩:=RY;exact Nj Sy h2 B5 h3 (Nat.le_of_ble_eq_true rfl) rfl λws more hw y=>trace_events_c1.all t its h1 ws more hw y
theorem w6 (t:Trace) (its:List (aa×Event)) (h:gQ t=some its):Sy.items 163 [] [.fptr (cells t)]=some (its.map λx:aa×Event=>[enc x.1,enc x.2]):=
 Jf ⟨t,its,rfl,rfl,rfl,h,rfl⟩ λys hy=>hy.uniq ⟨t,its,rfl,rfl,rfl,h,rfl⟩
theorem KE:Sy.xI 7 []=some (.bool true):=CA (Gd rfl ⟨1,[],by kernel_rfl⟩)
end
end Go.VE
namespace Go.VE
noncomputable section
def sV (t0:Trace) (x1:aa):Option Event:=
 (idx t0.procs x1.proc).bind λx_1=>
 (idx x_1.events (IntKind.wrap .i64 (x1.index-1))).bind λx_2=>
 some x_2
instance R7 (t0:Trace) (x1:aa):Fc Sy cL (sV t0 x1):=Fc.N 148 [enc t0,enc x1] (bE 2 2 t0 (aS 10 λx_1 _=>aS 5 λx_2 _=>g_ 1 4 0 x_2 af))
namespace cC
def aY (kind1 m2 p7:Int) (tb3:Trace) (vb6:aa) (i8:Int):Option (Fw Int Unit aa):=
 (idx tb3.procs p7).bind λx_1=>
 aj (decide (i8<(len x_1.events)))
 ((idx tb3.procs p7).bind λx_2=>
 (idx x_2.events i8).bind λx_3=>
 (aj (x_3.kind==kind1)
 (some (x_3.message==m2))
 (some false):Option Bool).bind λx_4=>
 aj x_4
 (some (.r (⟨p7,IntKind.wrap .i64 (i8+1)⟩:aa)))
 (some (.n (IntKind.wrap .i64 (i8+1)))))
 (some (.x ()))
def W2 (kind1 m2 p7 i8:Int) (tb3:Trace) (vb6:aa):Option (Fw Int Unit aa):=
 (aK (λq:Int=>aY kind1 m2 p7 tb3 vb6 q) i8).bind (Fw.elim
 (λe=>some (.n (IntKind.wrap .i64 (p7+1))))
 (λe=>some (.r e)))
def an (kind1 m2:Int) (tb3:Trace) (vb6:aa) (p7:Int):Option (Fw Int Unit aa):=
 aj (decide (p7<(len tb3.procs)))
 (W2 kind1 m2 p7 0 tb3 vb6)
 (some (.x ()))
def W1 (kind1 m2 p7:Int) (tb3:Trace) (vb6:aa):Option aa:=
 (aK (λq:Int=>an kind1 m2 tb3 vb6 q) p7).bind (Fw.elim
 (λe=>some ⟨0,0⟩)
 (λe=>some e))
end cC
def cC (t0:Trace) (kind1 m2:Int):Option aa:=
 cC.W1 kind1 m2 0 t0 (⟨0,0⟩:aa)
open cC in
instance P5 (t0:Trace) (kind1 m2:Int):Fc Sy cL (cC t0 kind1 m2):=Fc.M 98 [enc t0,.int .i64 kind1,.int .i64 m2] (bE 2 3 t0 (bS 11 (λqW1=>(aH [Iv 1 kind1,Iv 2 m2,Pv 3,Pv 6,Iv 7 qW1] [Xb 3 t0,Xb 6 (⟨0,0⟩:aa)])) (λeW1=>(0,(aH [Pv 6] [Xb 6 (⟨0,0⟩:aa)]))) (λeW1=>(aH [Pv 6] [Xb 6 eW1])) (λqW1=>aN 7 t0.procs (aC 3 14 (bS 12 (λqW2=>(aH [Iv 1 kind1,Iv 2 m2,Pv 3,Pv 6,Iv 7 qW1,Iv 8 qW2] [Xb 3 t0,Xb 6 (⟨0,0⟩:aa)])) (λeW2=>(2,(aH [Iv 1 kind1,Iv 2 m2,Pv 3,Pv 6,Iv 7 qW1] [Xb 3 t0,Xb 6 (⟨0,0⟩:aa)]))) (λeW2=>(aH [Pv 6] [Xb 6 eW2])) (λqW2=>aS 8 λx_1 _=>aN 2 x_1.events (aC 3 25 (aS 10 λx_2 _=>aS 3 λx_3 _=>g_ 2 9 0 x_3 (aX 9 5 [9,41] 46 (aC 9 41 (aA 5) (aA 5)) λx_4=>aC 2 46 af af)) af)) (λeW2=>af) (λeW2=>af)) af)) (λeW1=>af) (λeW1=>af)))
namespace cE
def J1 (out5:Sl aa) (tb2:Trace) (xb3:aa):Option (Sl aa):=
 (sV tb2 xb3).bind λx_1=>
 aj (x_1.kind==3)
 ((cC tb2 2 x_1.message).bind λx_2=>
 (fP out5 (x_2:aa)).bind λx_3=>
 some x_3)
 (some out5)
end cE
def cE (t0:Trace) (x1:aa):Option (Sl aa):=
 aj (decide (x1.index>1))
 (cE.J1 (Sl.row [⟨x1.proc,IntKind.wrap .i64 (x1.index-1)⟩]:Sl aa) t0 x1)
 (cE.J1 (Sl.nil:Sl aa) t0 x1)
open cE in
theorem xJ (t0:Trace) (x1:aa):Le ((cE t0 x1).bind λr=>some (b_ r)) (bA Sy cL (B8 (tr Tx 149)) (.rc (tb Tx 149),[],start ([enc t0,enc x1].map .v) [])):=
 bE 2 2 t0 (aC 17 9 (NO 10 17 18 .aR (⟨x1.proc,IntKind.wrap .i64 (x1.index-1)⟩:aa) (xP 5 (aG 4 λx_1 _=>g_ 1 6 0 x_1 (aC 10 24 (aG 6 λx_2 _=>oR 1 2005 30 31 λx_3 _=>af) af)))) (xP 5 (aG 4 λx_1 _=>g_ 1 6 0 x_1 (aC 10 24 (aG 6 λx_2 _=>oR 1 2005 30 31 λx_3 _=>af) af))))
def mC (dir:aa->Option (Sl aa)):List (List Bool)×List aa->Option (Fw (List (List Bool)×List aa) (List (List Bool)) Empty)
 | (out,[])=>some (.x out)
 | (out,y::rest)=>if 0<=y.proc/\0<=y.index then(out[y.proc.toNat]?).bind λrow=>(row[y.index.toNat]?).bind λb=>
  aj b (some (.n (out,rest))) ((dir y).bind λmore=>if rest.length+more.l.length<=2147483648 then some (.n (out.set y.proc.toNat (row.set y.index.toNat true),rest++more.l))else none)else none
def e9 (t:Trace):List (List Bool):=t.procs.l.map λP=>List.replicate (P.events.l.length+1) false
def xO (t:Trace):Bool:=decide (t.procs.l.length<=2147483648)&&t.procs.l.all λP=>decide (P.events.l.length+1<=2147483648)
def nested (out:List (List Bool)):Sl (Sl Bool):=if out=[]then .nil else .row (out.map .row)
def lI (t:Trace) (x:aa):Option (Sl (Sl Bool)):=
 if xO t then(cE t x).bind λs=>(aK (mC (cE t)) (e9 t,s.l)).bind (Fw.elim (λout=>some (nested out)) (λe=>Empty.elim e))else none
end
end Go.VE
namespace Go.VE
namespace pastX
abbrev uR:Nat->FuncId:=λn=>n
def r1:List RO:=[o2 2 (.a .box) [0] [],o2 3 (.a .box) [1] [],o1 4 (.k (.aR)) []]
def r2:List RO:=[o1 5 (.k (.aR)) []]
def r3:List RO:=[o1 6 (.k (.int .i64 0)) []]
def r4:List RO:=[o1 11 6 [],o2 12 (fa 0) [2] [],o2 13 (ld 1) [12] [],o2 14 ln [13] [],o2 15 (bI .lss) [11,14] []]
def r5:List RO:=[o1 18 5 [],o2 19 (fa 0) [2] [],o2 20 (ld 1) [19] [],o1 21 6 [],o2 22 (ix 3) [20,21] [],o2 23 (fa 2) [22] [],o2 24 (ld 1) [23] [],o2 25 ln [24] [],o2 26 (bI .add) [25,.k (.int .i64 1)] [],o2 27 (.a (.makeSl 1 [.bool false])) [26,26] [],o2 28 (.a (.buildSl 1 1 [.aR] [0])) [27] [],o2 29 (.l (.append 1)) [18,28] [],o1 5 29 []]
def r6:List RO:=[o1 16 6 [],o2 17 (bI .add) [16,.k (.int .i64 1)] [],o1 6 17 []]
def L1:RC:=.seq (.seq (.ops r4) (.cond (.s 15) (.skip) (.exit 0))) (.seq (.block 1 (.ops r5)) (.ops r6))
def r7:List RO:=[o2 30 (lD 1) [2] [],o2 31 (lD 2) [3] [],o2 32 .c [.f 149,30,31] [],o1 7 32 []]
def r8:List RO:=[o1 33 7 [],o2 34 ln [33] [],o2 35 (bI .gtr) [34,.k (.int .i64 0)] []]
def r9:List RO:=[o1 36 7 [],o2 37 (ix 2) [36,.k (.int .i64 0)] [],o2 38 (lD 2) [37] [],o2 8 (.a (.alloc 2 [.int .i64 0,.int .i64 0])) [] [],oz (su 2) [8,38] []]
def FQ:List RO:=[o1 39 7 [],o2 40 (.p (.slice 2 true false)) [39,.k (.int .i64 1)] [],o1 7 40 []]
def Ew:List RO:=[o1 41 5 [],o2 42 (fa 0) [8] [],o2 43 (ld 1) [42] [],o2 44 (ix 1) [41,43] [],o2 45 (ld 1) [44] [],o2 46 (fa 1) [8] [],o2 47 (ld 1) [46] [],on 48 (ix 1) [45,47] [],on 49 (ld 1) [48] []]
def Eo:List RO:=[o1 50 5 [],o2 51 (fa 0) [8] [],o2 52 (ld 1) [51] [],o2 53 (ix 1) [50,52] [],o2 54 (ld 1) [53] [],o2 55 (fa 1) [8] [],o2 56 (ld 1) [55] [],on 57 (ix 1) [54,56] [],oy (su 1) [57,.k (.bool true)] []]
def FJ:List RO:=[o2 58 (lD 1) [2] [],o2 59 (lD 2) [8] [],o2 60 .c [.f 149,58,59] [],o1 9 60 []]
def FF:List RO:=[o1 10 (.k (.int .i64 0)) []]
def Hr:List RO:=[o1 61 10 [],o1 62 9 [],o2 63 ln [62] [],o2 64 (bI .lss) [61,63] []]
def G3:List RO:=[o1 67 7 [],o1 68 9 [],o1 69 10 [],o2 70 (ix 2) [68,69] [],o2 71 (lD 2) [70] [],o2 72 (.a (.buildSl 2 1 [.int .i64 0,.int .i64 0] [0])) [71] [],o2 73 (.l (.append 2)) [67,72] [],o1 7 73 []]
def K6:List RO:=[o1 65 10 [],o2 66 (bI .add) [65,.k (.int .i64 1)] [],o1 10 66 []]
def L3:RC:=.seq (.seq (.ops Hr) (.cond (.s 64) (.skip) (.exit 4))) (.seq (.block 5 (.ops G3)) (.ops K6))
def L2:RC:=.seq (.seq (.ops r8) (.cond (.s 35) (.skip) (.exit 2))) (.block 3 (.seq (.ops r9) (.seq (.ops FQ) (.seq (.seq (.nH Ew) (.cond (.s 49) (.exit 3) (.skip))) (.seq (.nH Eo) (.seq (.ops FJ) (.seq (.ops FF) (.block 4 (.loop L3)))))))))
def Tu:List RO:=[o1 74 5 [],o1 4 74 []]
def code:RC:=.seq (.ops r1) (.seq (.ops r2) (.seq (.seq (.ops r3) (.block 0 (.loop L1))) (.seq (.ops r7) (.seq (.block 2 (.loop L2)) (.seq (.ops Tu) (.ret))))))
noncomputable abbrev uJ:=Go.Proofs.YtimppgndlmehbaaGreat.E
def iY (out:List (List Bool)):List (List V):=out.map λr=>r.map V.bool
theorem shape:∃fi,uJ.ft (uR 122)=some fi/\aP ⟨uJ,some,fi.ntmps⟩ false fi.body=some code/\2<=fi.ntmps/\fi.results=[.tmp 4]:=by
 have h:((uJ.ft (uR 122)).map λfi=>(aP ⟨uJ,some,fi.ntmps⟩ false fi.body,Nat.ble 2 fi.ntmps,fi.results))=some (some code,true,[.tmp 4]):=by kernel_rfl
 obtain⟨fi,h1,h2⟩:=ζf.1 h;simp only[ζc]at h2;exact⟨fi,h1,h2.1,Nat.le_of_ble_eq_true h2.2.1,h2.2.2⟩
section
variable {E:Env} {N:Nat->FuncId} {t:Trace} {x:aa} {k:Nat} {F:Frame} {H H1:ak} {call:cu} {b:Option Nat}
theorem jr {o:RO} {l:List RO} {v:V} {r:Frame×ak} (hg:o.gd=none) (hv:aT E N call b o.now o.k (o.az.map (aF N F)) H=some (v,H1)) (h:bV E N call b l (aB F o.dst v) H1=some r):bV E N call b (o::l) F H=some r:=by
 simp only[bV,hg,hv];exact h
theorem vp {o:RO} {l:List RO} {v:V} {r:Frame×ak} (hg:o.gd=none) (hv:aT E N call b o.now o.k (o.az.map (aF N F)) H=some (v,H)) (h:bV E N call b l (aB F o.dst v) H=some r):bV E N call b (o::l) F H=some r:=jr hg hv h
theorem dS:bV E N call b [] F H=some (F,H):=rfl
theorem ld1 (h:H[0]? = some (.row 1 [cells t])):dB H (.load 1 false) [.hptr 0 0 0]=some (bf t.procs):=by
 simp[dB,cR,h,Ob.rows];rfl
theorem TC {s:Sl bt} {p:bt} {i:Nat} (h:s.l[i]? = some p):j7 3 (bf s) (i:Int)=some (.fptr (cells p)):=by
 have:=Cb (N:=λn=>n) s .i64 (i:Int) 3 rfl
 simp only[aq]at this;rw[this,show idx s (i:Int)=some p from by unfold idx;rw[if_pos (by omega)];exact h];rfl
theorem x4 (f2:get F 2=.hptr 0 0 0) (f6:get F 6=.int .i64 k) (h0:H[0]? = some (.row 1 [cells t])) :
 ∃F',bV E N call none r4 F H=some (F',H)/\get F' 15=.bool (decide (k<t.procs.l.length))/\(∀s,s<11->get F' s=get F s):=by
 refine⟨_,vp (v:=.int .i64 k) rfl ?_ <| vp (v:=.hptr 0 0 0) rfl ?_ <| vp (v:=bf t.procs) rfl ?_ <| vp (v:=.int .i64 t.procs.l.length) rfl ?_ <| vp (v:=.bool (decide (k<t.procs.l.length))) rfl ?_ dS,?_,?_⟩
 .simp[aT,aF,aq,f6]
 .simp[aT,aF,aq,aB,f2,fK]
 .simp only[aT,List.map_cons,List.map_nil,aF,aB,ax,Nat.reduceEqDiff,if_true,if_false];rw[ld1 h0];rfl
 .simp only[aT,List.map_cons,List.map_nil,aF,aB,ax,Nat.reduceEqDiff,if_true,if_false];rw[wC];rfl
 .simp[aT,aF,aq,aB,iQ,oS]
 .simp[aB]
 .intro s hs;simp only[aB,ax]
  repeat (rw[if_neg (by omega)])
theorem yR {n:Nat} (h:n<=2147483648):IntKind.wrap .i64 ((n:Int)+1)=((n+1:Nat):Int):=by
 simp[IntKind.wrap,IntKind.bits,IntKind.signed];omega
theorem x5 {P:bt} {o:Nat} {ids:List Nat} {rows:List (List V)} (f2:get F 2=.hptr 0 0 0) (f6:get F 6=.int .i64 k) (h0:H[0]? = some (.row 1 [cells t])) (hP:t.procs.l[k]? = some P) (hl:P.events.l.length+1<=2147483648)
 (hn:kE H (get F 5) o ids rows) (hr:rows.length+1<=2147483648) :
 ∃F' H',bV E N call none r5 F H=some (F',H')/\kE H' (get F' 5) (H.length+2) (ids++[H.length]) (rows++[List.replicate (P.events.l.length+1) (.bool false)])/\H.length<=H'.length/\(∀id,id<H.length->id≠o\/rows=[]->H'[id]? = H[id]?)/\(∀s,s<11->s≠5->get F' s=get F s):=by
 obtain⟨H',p1,p2,p3,p4⟩:=hn.push (List.replicate (P.events.l.length+1) (.bool false)) hr;have hrep:gR (List.replicate (P.events.l.length+1) (V.bool false))=List.replicate (P.events.l.length+1) [.bool false]:=by simp[gR]
 rw[hrep,List.length_replicate]at p1;have hb:=yR (n:=P.events.l.length) (by omega)
 refine⟨_,H',vp (v:=get F 5) rfl ?_ <| vp (v:=.hptr 0 0 0) rfl ?_ <| vp (v:=bf t.procs) rfl ?_ <| vp (v:=.int .i64 k) rfl ?_ <| vp (v:=.fptr (cells P)) rfl ?_ <| vp (v:=.fptr [bf P.events]) rfl ?_ <| vp (v:=bf P.events) rfl ?_ <|
  vp (v:=.int .i64 P.events.l.length) rfl ?_ <| vp (v:=.int .i64 ((P.events.l.length+1:Nat):Int)) rfl ?_ <| jr (v:=.hsl H.length 1 0 (P.events.l.length+1)) (H1:=H++[.row 1 (List.replicate (P.events.l.length+1) [.bool false])]) rfl ?_ <|
  jr (v:=.hsl (H.length+1) 1 0 1) (H1:=H++[.row 1 (List.replicate (P.events.l.length+1) [.bool false])]++[.row 1 [[.hsl H.length 1 0 (P.events.l.length+1)]]]) rfl ?_ <|
  jr (v:=.hsl (H.length+2) 1 0 (rows.length+1)) (H1:=H') rfl ?_ <| vp (v:=.hsl (H.length+2) 1 0 (rows.length+1)) rfl ?_ dS,?_,p3,p4,?_⟩
 .simp[aT,aF,aq]
 .simp[aT,aF,aq,aB,f2,fK]
 .simp only[aT,List.map_cons,List.map_nil,aF,aB,ax,Nat.reduceEqDiff,if_true,if_false];rw[ld1 h0];rfl
 .simp[aT,aF,aq,aB,f6]
 .simp only[aT,List.map_cons,List.map_nil,aF,aB,ax,Nat.reduceEqDiff,if_true,if_false,aq];rw[TC hP];rfl
 .simp only[aT,List.map_cons,List.map_nil,aF,aB,ax,Nat.reduceEqDiff,if_true,if_false,aq];rfl
 .simp only[aT,List.map_cons,List.map_nil,aF,aB,ax,Nat.reduceEqDiff,if_true,if_false];rfl
 .simp only[aT,List.map_cons,List.map_nil,aF,aB,ax,Nat.reduceEqDiff,if_true,if_false];rw[wC];rfl
 .simp only[aT,List.map_cons,List.map_nil,aF,aB,ax,Nat.reduceEqDiff,if_true,if_false,aq,iQ];rw[hb];rfl
 .simp only[aT,List.map_cons,List.map_nil,aF,aB,ax,Nat.reduceEqDiff,if_true,if_false,gL];rw[if_pos ⟨trivial,trivial,by omega,by omega,by omega⟩]
  simp only[Option.map_some,Mk.val,Int.toNat_natCast]
 .simp only[aT,List.map_cons,List.map_nil,aF,aB,ax,Nat.reduceEqDiff,if_true,if_false,gL];simp[e_,V.cells,V.one,Mk.val]
 .simp only[aT,List.map_cons,List.map_nil,aF,aB,ax,Nat.reduceEqDiff,if_true,if_false];exact p1
 .simp[aT,aF,aq,aB]
 .simp only[aB,ax,if_true];exact p2
 .intro s hs h5;simp only[aB,ax];rw[if_neg (Ne.symm h5)]
  repeat (rw[if_neg (by omega)])
theorem x6 (f6:get F 6=.int .i64 k) (hk:k<=2147483648):∃F',bV E N call none r6 F H=some (F',H)/\get F' 6=.int .i64 ((k+1:Nat):Int)/\(∀s,s<11->s≠6->get F' s=get F s):=by
 have hb:=yR hk;refine⟨_,vp (v:=.int .i64 k) rfl ?_ <| vp (v:=.int .i64 ((k+1:Nat):Int)) rfl ?_ <| vp (v:=.int .i64 ((k+1:Nat):Int)) rfl ?_ dS,?_,?_⟩
 .simp[aT,aF,aq,f6]
 .simp only[aT,List.map_cons,List.map_nil,aF,aB,ax,Nat.reduceEqDiff,if_true,if_false,aq,iQ];rw[hb];rfl
 .simp[aT,aF,aq,aB]
 .simp[aB]
 .intro s hs h6;simp only[aB,ax];rw[if_neg (Ne.symm h6)]
  repeat (rw[if_neg (by omega)])
end
structure P1 (t:Trace) (x:aa) (k:Nat) (F:Frame) (H:ak):Prop where
 f2:get F 2=.hptr 0 0 0
 f3:get F 3=.hptr 1 0 0
 f6:get F 6=.int .i64 k
 h0:H[0]? = some (.row 1 [cells t])
 h1:H[1]? = some (.row 2 [cells x])
 ns:∃o ids,kE H (get F 5) o ids (iY ((e9 t).take k))/\(k≠0->2<=o)/\∀id∈ids,2<=id
theorem uh (out:List (List Bool)):(iY out).length=out.length:=by simp[iY]
theorem IW {E:Env} {N:Nat->FuncId} {t:Trace} {x:aa} (hok:xO t=true):∀(m k:Nat) (F:Frame) (H:ak),k+m=t.procs.l.length->P1 t x k F H->∃F' H',mB E N L1 F H (.exit 0) F' H'/\P1 t x t.procs.l.length F' H':=by
 have hok':t.procs.l.length<=2147483648/\∀P∈t.procs.l,P.events.l.length+1<=2147483648:=by
  simpa [xO]using hok
 intro m
 induction m with
 | zero=>
  intro k F H hk p;have hk':k=t.procs.l.length:=by omega
  obtain⟨F1,e1,e2,e3⟩:=x4 (E:=E) (N:=N) (call:=λ_ _ _=>none) p.f2 p.f6 p.h0
  refine⟨F1,H,mB.stop (Ex.vu (Ex.seq (Ex.dy λc=>?_) (Ex.tN ?_ Ex.exit)) (by simp)) (by simp),?_⟩
  .obtain⟨F2,g1,_,_⟩:=x4 (E:=E) (N:=N) (call:=c) p.f2 p.f6 p.h0;have:bV E N c none r4 F H=bV E N (λ_ _ _=>none) none r4 F H:=rfl
   rw[this];exact e1
  .show get F1 15=_;rw[e2];simp[hk']
  .subst hk';exact⟨by rw[e3 2 (by omega)];exact p.f2,by rw[e3 3 (by omega)];exact p.f3,by rw[e3 6 (by omega)];exact p.f6,p.h0,p.h1,by rw[e3 5 (by omega)];exact p.ns⟩
 | succ m ih=>
  intro k F H hk p;have hkl:k<t.procs.l.length:=by omega
  obtain⟨o,ids,n1,n2,n3⟩:=p.ns;obtain⟨F1,e1,e2,e3⟩:=x4 (E:=E) (N:=N) (call:=λ_ _ _=>none) p.f2 p.f6 p.h0
  have hP:=ζd hkl;have hlen:((e9 t).take k).length=k:=by simp[e9];omega
  have n1':kE H (get F1 5) o ids (iY ((e9 t).take k)):=by rw[e3 5 (by omega)];exact n1
  obtain⟨F2,H2,g1,g2,g3,g4,g5⟩:=x5 (E:=E) (N:=N) (call:=λ_ _ _=>none) (by rw[e3 2 (by omega)];exact p.f2) (by rw[e3 6 (by omega)];exact p.f6) p.h0 hP (hok'.2 _ (List.getElem_mem hkl)) n1' (by rw[uh,hlen];omega)
  obtain⟨F3,q1,q2,q3⟩:=x6 (E:=E) (N:=N) (call:=λ_ _ _=>none) (H:=H2) (k:=k) (F:=F2) (by rw[g5 6 (by omega) (by omega),e3 6 (by omega)];exact p.f6) (by omega)
  have hl:=n1.lt;have h0l:=(ζe.1 p.h0).1;have h1l:=(ζe.1 p.h1).1;have hkeep:∀i,i<2->i<H.length->H2[i]? = H[i]? := λi hi hl=>g4 i hl (by
   by_cases hk0:k=0
   .subst hk0;right;simp[iY]
   .left;have:=n2 hk0;omega)
  have hp3:P1 t x (k+1) F3 H2:=by
   refine⟨by rw[q3 2 (by omega) (by omega),g5 2 (by omega) (by omega),e3 2 (by omega)];exact p.f2,by rw[q3 3 (by omega) (by omega),g5 3 (by omega) (by omega),e3 3 (by omega)];exact p.f3,q2,
    by rw[hkeep 0 (by omega) h0l];exact p.h0,by rw[hkeep 1 (by omega) h1l];exact p.h1,H.length+2,ids++[H.length],?_,λ_=>by omega,λid hid=>?_⟩
   .rw[q3 5 (by omega) (by omega)]
    have hrows:iY ((e9 t).take (k+1))=iY ((e9 t).take k)++[List.replicate (t.procs.l[k].events.l.length+1) (.bool false)]:=by
     rw[List.take_add_one];have:(e9 t)[k]? = some (List.replicate (t.procs.l[k].events.l.length+1) false):=by simp[e9,hP]
     rw[this];simp[iY]
    rw[hrows];exact g2
   .rcases List.mem_append.1 hid with h|h
    .exact n3 id h
    .simp at h;omega
  obtain⟨F',H',r1,r2⟩:=ih (k+1) F3 H2 (by omega) hp3
  refine⟨F',H',mB.step (Ex.seq (Ex.seq (Ex.dy λc=>e1) (Ex.oE ?_ Ex.skip)) (Ex.seq (Ex.block (Ex.dy λc=>g1)) (Ex.dy λc=>q1))) r1,r2⟩
  show get F1 15=_;rw[e2];simp[hkl]
section
variable {E:Env} {N:Nat->FuncId} {t:Trace} {x y:aa} {F:Frame} {H:ak} {call:cu}
theorem x8 {l:List (List V)} {id:Nat} (h:jc H (get F 7) l id):∃F',bV E N call none r8 F H=some (F',H)/\get F' 35=.bool (decide (0<l.length))/\(∀s,s<11->get F' s=get F s):=by
 refine⟨_,vp (v:=get F 7) rfl ?_ <| vp (v:=.int .i64 l.length) rfl ?_ <| vp (v:=.bool (decide (0<l.length))) rfl ?_ dS,?_,?_⟩
 .simp[aT,aF,aq]
 .simp only[aT,List.map_cons,List.map_nil,aF,aB,ax,Nat.reduceEqDiff,if_true,if_false,aq,h.len,Option.map_some]
 .simp[aT,aF,aq,aB,iQ,oS]
 .simp[aB]
 .intro s hs;simp only[aB,ax]
  repeat (rw[if_neg (by omega)])
theorem x9 {l:List (List V)} {id:Nat} (h:jc H (get F 7) (cells y::l) id):∃F',bV E N call none r9 F H=some (F',H++[.row 2 [cells y]])/\get F' 8=.hptr H.length 0 0/\(∀s,s<11->s≠8->get F' s=get F s):=by
 obtain⟨p,p1,p2⟩:=h.get (i:=0) (c:=cells y) rfl;refine⟨_,vp (v:=get F 7) rfl ?_ <| vp (v:=p) rfl ?_ <| vp (v:=.agg (cells y)) rfl ?_ <| jr (v:=.hptr H.length 0 0) (H1:=H++[.row 2 [[.int .i64 0,.int .i64 0]]]) rfl ?_ <| jr (v:=.undef) (H1:=H++[.row 2 [cells y]]) rfl ?_ dS,?_,?_⟩
 .simp[aT,aF,aq]
 .simp only[aT,List.map_cons,List.map_nil,aF,aB,ax,Nat.reduceEqDiff,if_true,if_false,aq];rw[show (0:Int)=((0:Nat):Int)from rfl,p1];rfl
 .simp only[aT,List.map_cons,List.map_nil,aF,aB,ax,Nat.reduceEqDiff,if_true,if_false];rw[p2];rfl
 .simp only[aT,List.map_cons,List.map_nil,aF,aB,ax,Nat.reduceEqDiff,if_true,if_false,gL,Option.map_some,Mk.val]
 .simp only[aT,List.map_cons,List.map_nil,aF,aB,ax,Nat.reduceEqDiff,if_true,if_false];simp[eA,V.cells,V.one]
 .simp[aB]
 .intro s hs h8;simp only[aB,ax];rw[if_neg (Ne.symm h8)]
  repeat (rw[if_neg (by omega)])
theorem Ul {c:List V} {l:List (List V)} {id:Nat} (h:jc H (get F 7) (c::l) id):∃F',bV E N call none FQ F H=some (F',H)/\jc H (get F' 7) l id/\(∃off m off',get F 7=.hsl id 2 off m/\get F' 7=.hsl id 2 off' l.length)/\(∀s,s<11->s≠7->get F' s=get F s):=by
 obtain⟨w',p1,p2,off,m,off',p3,p4⟩:=h.tail;refine⟨_,vp (v:=get F 7) rfl ?_ <| vp (v:=w') rfl ?_ <| vp (v:=w') rfl ?_ dS,?_,⟨off,m,off',p3,?_⟩,?_⟩
 .simp[aT,aF,aq]
 .simp only[aT,List.map_cons,List.map_nil,aF,aB,ax,Nat.reduceEqDiff,if_true,if_false,aq,kM,ζb,p1,Option.map_some]
 .simp[aT,aF,aq,aB]
 .simp only[aB,ax,if_true];exact p2
 .simp only[aB,ax,if_true];exact p4
 .intro s hs h8;simp only[aB,ax];rw[if_neg (Ne.symm h8)]
  repeat (rw[if_neg (by omega)])
theorem iV (H:ak):H.take H.length=H:=List.take_length ..
theorem Q0 {c:Nat} (hc:H[c]? = some (.row 2 [cells y])):dB H (.load 1 false) [.hptr c 0 0]=some (.int .i64 y.proc)/\dB H (.load 1 false) [.hptr c 0 1]=some (.int .i64 y.index)/\dB H (.load 2 true) [.hptr c 0 0]=some (enc y):=by
 refine⟨?_,?_,?_⟩ <;> simp[dB,cR,hc,Ob.rows,cut] <;> rfl
theorem QO {c o:Nat} {ids:List Nat} {rows:List (List V)} {p j:Nat} {r:List V} {u:V} (f8:get F 8=.hptr c 0 0) (hc:H[c]? = some (.row 2 [cells y])) (hn:kE H (get F 5) o ids rows) (hp:y.proc=p) (hj:y.index=j) (hr:rows[p]? = some r) (hu:r[j]? = some u) :
 ∃F',bV E N call (some H.length) Ew F H=some (F',H)/\get F' 49=u/\(∀s,s<11->get F' s=get F s):=by
 obtain⟨id,q0,q1,q2,q3,q4⟩:=hn.cell hr hu;obtain⟨c1,c2,_⟩:=Q0 hc;rw[hp]at c1;rw[hj]at c2;refine⟨_,vp (v:=get F 5) rfl ?_ <| vp (v:=.hptr c 0 0) rfl ?_ <| vp (v:=.int .i64 p) rfl ?_ <| vp (v:=.hptr o p 0) rfl ?_ <| vp (v:=.hsl id 1 0 r.length) rfl ?_ <| vp (v:=.hptr c 0 1) rfl ?_ <| vp (v:=.int .i64 j) rfl ?_ <| vp (v:=.hptr id j 0) rfl ?_ <| vp (v:=u) rfl ?_ dS,?_,?_⟩
 .simp[aT,aF,aq]
 .simp[aT,aF,aq,aB,f8,fK]
 .simp only[aT,List.map_cons,List.map_nil,aF,aB,ax,Nat.reduceEqDiff,if_true,if_false,iV];rw[c1];rfl
 .simp only[aT,List.map_cons,List.map_nil,aF,aB,ax,Nat.reduceEqDiff,if_true,if_false,aq];rw[q1];rfl
 .simp only[aT,List.map_cons,List.map_nil,aF,aB,ax,Nat.reduceEqDiff,if_true,if_false,iV];rw[q2];rfl
 .simp[aT,aF,aq,aB,f8,fK]
 .simp only[aT,List.map_cons,List.map_nil,aF,aB,ax,Nat.reduceEqDiff,if_true,if_false,iV];rw[c2];rfl
 .simp only[aT,List.map_cons,List.map_nil,aF,aB,ax,Nat.reduceEqDiff,if_true,if_false,aq];rw[q3];rfl
 .simp only[aT,List.map_cons,List.map_nil,aF,aB,ax,Nat.reduceEqDiff,if_true,if_false,iV];rw[q4];rfl
 .simp[aB]
 .intro s hs;simp only[aB,ax]
  repeat (rw[if_neg (by omega)])
theorem T_ {c o:Nat} {ids:List Nat} {rows:List (List V)} {p j:Nat} {r:List V} {u:V} (f8:get F 8=.hptr c 0 0) (hc:H[c]? = some (.row 2 [cells y])) (hn:kE H (get F 5) o ids rows) (hp:y.proc=p) (hj:y.index=j) (hr:rows[p]? = some r) (hu:r[j]? = some u) :
 ∃F' H',bV E N call (some H.length) Eo F H=some (F',H')/\kE H' (get F' 5) o ids (rows.set p (r.set j (.bool true)))/\H'.length=H.length/\(∀i,i∉ids->H'[i]? = H[i]?)/\(∀s,s<11->get F' s=get F s):=by
 obtain⟨id,q0,q1,q2,q3,q4⟩:=hn.cell hr hu;obtain⟨c1,c2,_⟩:=Q0 hc;rw[hp]at c1;rw[hj]at c2;obtain⟨H',s1,s2,s3,s4⟩:=hn.set hr (ζe.1 hu).1 q0 (u:=.bool true) rfl rfl;refine⟨_,H',vp (v:=get F 5) rfl ?_ <| vp (v:=.hptr c 0 0) rfl ?_ <| vp (v:=.int .i64 p) rfl ?_ <| vp (v:=.hptr o p 0) rfl ?_ <| vp (v:=.hsl id 1 0 r.length) rfl ?_ <| vp (v:=.hptr c 0 1) rfl ?_ <| vp (v:=.int .i64 j) rfl ?_ <| vp (v:=.hptr id j 0) rfl ?_ <| jr (v:=.undef) (H1:=H') rfl ?_ dS,?_,s3,λi hi=>s4 i λe=>hi (e▸List.mem_of_getElem? q0),?_⟩
 .simp[aT,aF,aq]
 .simp[aT,aF,aq,aB,f8,fK]
 .simp only[aT,List.map_cons,List.map_nil,aF,aB,ax,Nat.reduceEqDiff,if_true,if_false,iV];rw[c1];rfl
 .simp only[aT,List.map_cons,List.map_nil,aF,aB,ax,Nat.reduceEqDiff,if_true,if_false,aq];rw[q1];rfl
 .simp only[aT,List.map_cons,List.map_nil,aF,aB,ax,Nat.reduceEqDiff,if_true,if_false,iV];rw[q2];rfl
 .simp[aT,aF,aq,aB,f8,fK]
 .simp only[aT,List.map_cons,List.map_nil,aF,aB,ax,Nat.reduceEqDiff,if_true,if_false,iV];rw[c2];rfl
 .simp only[aT,List.map_cons,List.map_nil,aF,aB,ax,Nat.reduceEqDiff,if_true,if_false,aq];rw[q3];rfl
 .simp only[aT,List.map_cons,List.map_nil,aF,aB,ax,Nat.reduceEqDiff,if_true,if_false,s1]
 .simp only[aB,ax,Nat.reduceEqDiff,if_false];exact s2
 .intro s hs;simp only[aB,ax]
  repeat (rw[if_neg (by omega)])
def DV (E:Env) (N:Nat->FuncId) (t:Trace) (dir:aa->Option (Sl aa)):Prop:=∀(y:aa) (s:Sl aa) (H:ak),dir y=some s ->
 ∃w X id,(∃n,∀k,n<=k->eH E (run E k) (N 149) [enc t,enc y] H=some (w,H++X))/\jc (H++X) w (s.l.map cells) id/\(∀off m,w=.hsl id 2 off m->id=H.length)
theorem Tl {a d:Nat} (hd:E.keep (N 149)=true) {dir:aa->Option (Sl aa)} (hD:DV E N t dir) {s:Sl aa} (hs:dir y=some s) (f2:get F 2=.hptr 0 0 0) (h0:H[0]? = some (.row 1 [cells t])) {c:Nat} (hc:H[c]? = some (.row 2 [cells y])) :
 ∃w X id,jc (H++X) w (s.l.map cells) id/\(∀off m,w=.hsl id 2 off m->id=H.length) /\
  (get F 8=.hptr c 0 0->∃F',(∃n,∀k,n<=k->bV E N (run E k) none FJ F H=some (F',H++X))/\get F' 9=w/\(∀s,s<11->s≠9->get F' s=get F s)) /\
  (get F 3=.hptr c 0 0->∃F',(∃n,∀k,n<=k->bV E N (run E k) none r7 F H=some (F',H++X))/\get F' 7=w/\(∀s,s<11->s≠7->get F' s=get F s)):=by
 obtain⟨w,X,id,⟨n,e1⟩,e2,e3⟩:=hD y s H hs;have ht:dB H (.load 1 true) [.hptr 0 0 0]=some (enc t):=by
  simp[dB,cR,h0,Ob.rows,cut];rfl
 obtain⟨_,_,hy⟩:=Q0 hc;refine⟨w,X,id,e2,e3,λf8=>⟨_,⟨n,λk hk=>vp (v:=enc t) rfl ?_ <| vp (v:=enc y) rfl ?_ <| jr (v:=w) (H1:=H++X) rfl ?_ <| vp (v:=w) rfl ?_ dS⟩,?_,?_⟩,λf3=>⟨_,⟨n,λk hk=>vp (v:=enc t) rfl ?_ <| vp (v:=enc y) rfl ?_ <| jr (v:=w) (H1:=H++X) rfl ?_ <| vp (v:=w) rfl ?_ dS⟩,?_,?_⟩⟩
 .simp only[aT,List.map_cons,List.map_nil,aF,f2];rw[ht];rfl
 .simp only[aT,List.map_cons,List.map_nil,aF,aB,ax,Nat.reduceEqDiff,if_true,if_false,f8];rw[hy];rfl
 .simp only[aT,List.map_cons,List.map_nil,aF,aB,ax,Nat.reduceEqDiff,if_true,if_false,hd,List.nil_append,List.append_nil];exact e1 k hk
 .simp[aT,aF,aq,aB]
 .simp[aB]
 .intro s hs h9;simp only[aB,ax];rw[if_neg (Ne.symm h9)]
  repeat (rw[if_neg (by omega)])
 .simp only[aT,List.map_cons,List.map_nil,aF,f2];rw[ht];rfl
 .simp only[aT,List.map_cons,List.map_nil,aF,aB,ax,Nat.reduceEqDiff,if_true,if_false,f3];rw[hy];rfl
 .simp only[aT,List.map_cons,List.map_nil,aF,aB,ax,Nat.reduceEqDiff,if_true,if_false,hd,List.nil_append,List.append_nil];exact e1 k hk
 .simp[aT,aF,aq,aB]
 .simp[aB]
 .intro s hs h9;simp only[aB,ax];rw[if_neg (Ne.symm h9)]
  repeat (rw[if_neg (by omega)])
end
section
variable {E:Env} {N:Nat->FuncId} {F:Frame} {H:ak} {call:cu} {i:Nat}
theorem N5 {l:List (List V)} {id:Nat} (f10:get F 10=.int .i64 i) (h:jc H (get F 9) l id):∃F',bV E N call none Hr F H=some (F',H)/\get F' 64=.bool (decide (i<l.length))/\(∀s,s<11->get F' s=get F s):=by
 refine⟨_,vp (v:=.int .i64 i) rfl ?_ <| vp (v:=get F 9) rfl ?_ <| vp (v:=.int .i64 l.length) rfl ?_ <| vp (v:=.bool (decide (i<l.length))) rfl ?_ dS,?_,?_⟩
 .simp[aT,aF,aq,f10]
 .simp[aT,aF,aq,aB]
 .simp only[aT,List.map_cons,List.map_nil,aF,aB,ax,Nat.reduceEqDiff,if_true,if_false,aq,h.len,Option.map_some]
 .simp[aT,aF,aq,aB,iQ,oS]
 .simp[aB]
 .intro s hs;simp only[aB,ax]
  repeat (rw[if_neg (by omega)])
theorem Uh {l l9:List (List V)} {id id9:Nat} {c:List V} (f10:get F 10=.int .i64 i) (h:jc H (get F 7) l id) (h9:jc H (get F 9) l9 id9) (hc:l9[i]? = some c) (hl:l.length+1<=2147483648) :
 ∃F' H',bV E N call none G3 F H=some (F',H')/\jc H' (get F' 7) (l++[c]) (H.length+1)/\H'.length=H.length+2/\(∀i,i<H.length->(∀off m,get F 7=.hsl id 2 off m->i≠id)->H'[i]? = H[i]?)/\(∀s,s<11->s≠7->get F' s=get F s):=by
 have hcc:=h9.c c (List.mem_of_getElem? hc);obtain⟨p,p1,p2⟩:=h9.get hc;obtain⟨H',q1,q2,q3,q4⟩:=h.push hcc hl;refine⟨_,H',vp (v:=get F 7) rfl ?_ <| vp (v:=get F 9) rfl ?_ <| vp (v:=.int .i64 i) rfl ?_ <| vp (v:=p) rfl ?_ <| vp (v:=.agg c) rfl ?_ <| jr (v:=.hsl H.length 2 0 1) (H1:=H++[.row 2 [c]]) rfl ?_ <| jr (v:=.hsl (H.length+1) 2 0 (l.length+1)) (H1:=H') rfl ?_ <| vp (v:=.hsl (H.length+1) 2 0 (l.length+1)) rfl ?_ dS,?_,q3,q4,?_⟩
 .simp[aT,aF,aq]
 .simp[aT,aF,aq,aB]
 .simp[aT,aF,aq,aB,f10]
 .simp only[aT,List.map_cons,List.map_nil,aF,aB,ax,Nat.reduceEqDiff,if_true,if_false,aq];rw[p1];rfl
 .simp only[aT,List.map_cons,List.map_nil,aF,aB,ax,Nat.reduceEqDiff,if_true,if_false];rw[p2];rfl
 .simp only[aT,List.map_cons,List.map_nil,aF,aB,ax,Nat.reduceEqDiff,if_true,if_false,gL];have h2:c.all V.one=true:=hcc.2;simp[e_,V.cells,hcc.1,Mk.val];exact λa ha=>List.all_eq_true.1 h2 a ha
 .simp only[aT,List.map_cons,List.map_nil,aF,aB,ax,Nat.reduceEqDiff,if_true,if_false];exact q1
 .simp[aT,aF,aq,aB]
 .simp only[aB,ax,if_true];exact q2
 .intro s hs h8;simp only[aB,ax];rw[if_neg (Ne.symm h8)]
  repeat (rw[if_neg (by omega)])
theorem Ui (f10:get F 10=.int .i64 i) (hk:i<=2147483648):∃F',bV E N call none K6 F H=some (F',H)/\get F' 10=.int .i64 ((i+1:Nat):Int)/\(∀s,s<11->s≠10->get F' s=get F s):=by
 have hb:=yR hk;refine⟨_,vp (v:=.int .i64 i) rfl ?_ <| vp (v:=.int .i64 ((i+1:Nat):Int)) rfl ?_ <| vp (v:=.int .i64 ((i+1:Nat):Int)) rfl ?_ dS,?_,?_⟩
 .simp[aT,aF,aq,f10]
 .simp only[aT,List.map_cons,List.map_nil,aF,aB,ax,Nat.reduceEqDiff,if_true,if_false,aq,iQ];rw[hb];rfl
 .simp[aT,aF,aq,aB]
 .simp[aB]
 .intro s hs h6;simp only[aB,ax];rw[if_neg (Ne.symm h6)]
  repeat (rw[if_neg (by omega)])
structure P3 (l l9:List (List V)) (B i:Nat) (F:Frame) (H:ak):Prop where
 f10:get F 10=.int .i64 i
 t9:∃id9,jc H (get F 9) l9 id9/\∃id,jc H (get F 7) l id/\(∀off m,get F 7=.hsl id 2 off m->B<=id/\∀off' m',get F 9=.hsl id9 2 off' m'->id≠id9)
 len:B<=H.length
theorem SD (l9:List (List V)) (B:Nat) (hl9:l9.length<=2147483648):∀(m i:Nat) (l:List (List V)) (F:Frame) (H:ak),i+m=l9.length->l.length+m<=2147483648->P3 l l9 B i F H ->
 ∃F' H',mB E N L3 F H (.exit 4) F' H'/\(∃id,jc H' (get F' 7) (l++l9.drop i) id/\∀off m,get F' 7=.hsl id 2 off m->B<=id)/\(∀s,s<7->get F' s=get F s)/\(∀j,j<B->H'[j]? = H[j]?)/\H.length<=H'.length:=by
 intro m
 induction m with
 | zero=>
  intro i l F H hi hl p;obtain⟨id9,t9,id,t7,ap⟩:=p.t9;obtain⟨F1,e1,e2,e3⟩:=N5 (E:=E) (N:=N) (call:=λ_ _ _=>none) p.f10 t9
  refine⟨F1,H,mB.stop (Ex.vu (Ex.seq (Ex.dy λc=>e1) (Ex.tN ?_ Ex.exit)) (by simp)) (by simp),⟨id,?_,λoff m h=>?_⟩,λs hs=>e3 s (by omega),λ_ _=>rfl,Nat.le_refl _⟩
  .show get F1 64=_;rw[e2];simp;omega
  .rw[e3 7 (by omega),List.drop_of_length_le (by omega),List.append_nil];exact t7
  .rw[e3 7 (by omega)]at h;exact(ap off m h).1
 | succ m ih=>
  intro i l F H hi hl p;have hil:i<l9.length:=by omega
  obtain⟨id9,t9,id,t7,ap⟩:=p.t9;obtain⟨F1,e1,e2,e3⟩:=N5 (E:=E) (N:=N) (call:=λ_ _ _=>none) p.f10 t9
  have hc:=ζd hil;have t7':jc H (get F1 7) l id:=by rw[e3 7 (by omega)];exact t7
  have t9':jc H (get F1 9) l9 id9:=by rw[e3 9 (by omega)];exact t9
  obtain⟨F2,H2,g1,g2,g3,g4,g5⟩:=Uh (E:=E) (N:=N) (call:=λ_ _ _=>none) (by rw[e3 10 (by omega)];exact p.f10) t7' t9' hc (by omega)
  obtain⟨F3,q1,q2,q3⟩:=Ui (E:=E) (N:=N) (call:=λ_ _ _=>none) (H:=H2) (i:=i) (F:=F2) (by rw[g5 10 (by omega) (by omega),e3 10 (by omega)];exact p.f10) (by omega)
  have keep:∀j,j<H.length->(∀off m,get F 7=.hsl id 2 off m->j≠id)->H2[j]? = H[j]? := λj hj h=>g4 j hj (by rw[e3 7 (by omega)];exact h)
  have hp3:P3 (l++[l9[i]]) l9 B (i+1) F3 H2:=by
   refine⟨q2,⟨id9,?_,H.length+1,by rw[q3 7 (by omega) (by omega)];exact g2,λoff m h=>⟨by have:=p.len;omega,λoff' m' h'=>?_⟩⟩,by have:=p.len;omega⟩
   .rw[q3 9 (by omega) (by omega),g5 9 (by omega) (by omega),e3 9 (by omega)]
    exact t9.heap λoff n hw=>keep id9 (t9.lt hw) λoff' m' hw'=>Ne.symm ((ap off' m' hw').2 off n hw)
   .rw[q3 9 (by omega) (by omega),g5 9 (by omega) (by omega),e3 9 (by omega)]at h'
    have:=t9.lt h';omega
  obtain⟨F',H',r1,⟨id',r2,r3⟩,r4,r5,r6⟩:=ih (i+1) (l++[l9[i]]) F3 H2 (by omega) (by simp;omega) hp3
  refine⟨F',H',mB.step (Ex.seq (Ex.seq (Ex.dy λc=>e1) (Ex.oE ?_ Ex.skip)) (Ex.seq (Ex.block (Ex.dy λc=>g1)) (Ex.dy λc=>q1))) r1,⟨id',?_,r3⟩,λs hs=>?_,λj hj=>?_,by omega⟩
  .show get F1 64=_;rw[e2];simp[hil]
  .rw[List.append_assoc]at r2;rw[List.drop_eq_getElem_cons hil];exact r2
  .rw[r4 s hs,q3 s (by omega) (by omega),g5 s (by omega) (by omega),e3 s (by omega)]
  .have:=p.len;rw[r5 j hj,keep j (by omega) λoff m h=>by have:=(ap off m h).1;omega]
end
structure P2 (t:Trace) (out:List (List Bool)) (l:List aa) (F:Frame) (H:ak):Prop where
 f2:get F 2=.hptr 0 0 0
 h0:H[0]? = some (.row 1 [cells t])
 ns:∃B o ids id,kE H (get F 5) o ids (iY out)/\(out≠[]->1<=o/\o<B)/\(∀id∈ids,1<=id/\id<B)/\1<=B/\B<=H.length/\jc H (get F 7) (l.map cells) id/\∀off m,get F 7=.hsl id 2 off m->B<=id
theorem Ng (out:List (List Bool)) (p j:Nat) (row:List Bool):iY (out.set p (row.set j true))=(iY out).set p ((row.map V.bool).set j (.bool true)):=by
 simp[iY,List.map_set]
theorem E7 {out:List (List Bool)}:iY out=[]↔out=[]:=by simp[iY]
theorem MJ {dir:aa->Option (Sl aa)} {out:List (List Bool)} {y:aa} {rest:List aa} {w:Fw (List (List Bool)×List aa) (List (List Bool)) Empty} (h:mC dir (out,y::rest)=some w) :
 ∃(p j:Nat) (row:List Bool) (b:Bool),y.proc=p/\y.index=j/\out[p]? = some row/\row[j]? = some b/\((b=true/\w=.n (out,rest))\/(b=false/\∃more,dir y=some more/\rest.length+more.l.length<=2147483648/\w=.n (out.set p (row.set j true),rest++more.l))):=by
 simp only[mC]at h;split at h
 .rename_i hy;obtain⟨row,h1,h⟩:=ζg.1 h;obtain⟨b,h2,h⟩:=ζg.1 h;refine⟨y.proc.toNat,y.index.toNat,row,b,by omega,by omega,h1,h2,?_⟩
  cases b with
  | true=>left;simp only[aj]at h;exact⟨rfl,by simpa using h.symm⟩
  | false=>
   right;simp only[aj,Bool.false_eq_true,if_false]at h;obtain⟨more,h3,h⟩:=ζg.1 h;split at h
   .rename_i hl;exact⟨rfl,more,h3,hl,by simpa using h.symm⟩
   .cases h
 .cases h
theorem HG {E:Env} {N:Nat->FuncId} {t:Trace} {dir:aa->Option (Sl aa)} (hd:E.keep (N 149)=true) (hD:DV E N t dir):∀(k:Nat) (out:List (List Bool)) (l:List aa) (out':List (List Bool)) (F:Frame) (H:ak),
 iD (mC dir) k (out,l)=some (.x out')->P2 t out l F H->∃F' H',mB E N L2 F H (.exit 2) F' H'/\P2 t out' [] F' H':=by
 intro k
 induction k with
 | zero=>intro out l out' F H h;simp[iD]at h
 | succ k ih=>
  intro out l out' F H h p;obtain⟨B,o,ids,id,n1,n2,n3,n4,n5,t7,t8⟩:=p.ns;obtain⟨F1,e1,e2,e3⟩:=x8 (E:=E) (N:=N) (call:=λ_ _ _=>none) t7
  rw[List.length_map]at e2
  cases l with
  | nil=>
   simp only[iD,mC]at h;cases h;refine⟨F1,H,mB.stop (Ex.vu (Ex.seq (Ex.dy λc=>e1) (Ex.tN ?_ Ex.exit)) (by simp)) (by simp),?_⟩
   .show get F1 35=_;rw[e2];simp
   .exact⟨by rw[e3 2 (by omega)];exact p.f2,p.h0,B,o,ids,id,by rw[e3 5 (by omega)];exact n1,n2,n3,n4,n5,by rw[e3 7 (by omega)];exact t7,by rw[e3 7 (by omega)];exact t8⟩
  | cons y rest=>
   simp only[iD]at h
   cases hst:mC dir (out,y::rest)with
   | none=>rw[hst]at h;cases h
   | some w=>
   rw[hst]at h;obtain⟨q,j,row,b,hq,hj,hrow,hb,hcase⟩:=MJ hst;have t7':jc H (get F1 7) (cells y::rest.map cells) id:=by rw[e3 7 (by omega)];exact t7
   obtain⟨F2,g1,g2,g3⟩:=x9 (E:=E) (N:=N) (call:=λ_ _ _=>none) t7'
   have t7'':jc (H++[.row 2 [cells y]]) (get F2 7) (cells y::rest.map cells) id:=by rw[g3 7 (by omega) (by omega)];exact t7'.more _
   obtain⟨F3,i1,i2,⟨off1,m1,off2,i3,i4⟩,i5⟩:=Ul (E:=E) (N:=N) (call:=λ_ _ _=>none) t7''
   have hcl:(H++[Ob.row 2 [cells y]])[H.length]? = some (.row 2 [cells y]):=by simp
   have f8:get F3 8=.hptr H.length 0 0:=by rw[i5 8 (by omega) (by omega)];exact g2
   have f5:get F3 5=get F 5:=by rw[i5 5 (by omega) (by omega),g3 5 (by omega) (by omega),e3 5 (by omega)]
   have f2:get F3 2=.hptr 0 0 0:=by rw[i5 2 (by omega) (by omega),g3 2 (by omega) (by omega),e3 2 (by omega)];exact p.f2
   have n5':kE (H++[.row 2 [cells y]]) (get F3 5) o ids (iY out):=by rw[f5];exact n1.more _
   have hr:(iY out)[q]? = some (row.map V.bool):=by simp[iY,hrow]
   have hu:(row.map V.bool)[j]? = some (.bool b):=by simp[hb]
   have hB8:B<=id:=by
    have:get F 7=.hsl id 2 off1 m1:=by rw[<-i3,g3 7 (by omega) (by omega),e3 7 (by omega)]
    exact t8 _ _ this
   obtain⟨F4,j1,j2,j3⟩:=QO (E:=E) (N:=N) (call:=λ_ _ _=>none) f8 hcl n5' hq hj hr hu
   have h35:aF N F1 (.s 35)=.bool true:=by show get F1 35=_;rw[e2];simp
   rcases hcase with⟨rfl,rfl⟩|⟨rfl,more,hm,hlen,rfl⟩
   .simp only at h;have hp2:P2 t out rest F4 (H++[.row 2 [cells y]]):=by
     refine⟨by rw[j3 2 (by omega)];exact f2,by rw[List.getElem?_append_left (ζe.1 p.h0).1];exact p.h0,B,o,ids,id,by rw[j3 5 (by omega)];exact n5',n2,n3,n4,by simp;omega,by rw[j3 7 (by omega)];exact i2,λoff m _=>hB8⟩
    obtain⟨F',H',r1,r2⟩:=ih out rest out' F4 _ h hp2;exact⟨F',H',mB.step (Ex.seq (Ex.seq (Ex.dy λc=>e1) (Ex.oE h35 Ex.skip)) (Ex.wq (Ex.seq (Ex.dy λc=>g1) (Ex.seq (Ex.dy λc=>i1) (Ex.vu (Ex.seq (Ex.nH rfl λc=>j1) (Ex.oE j2 Ex.exit)) (by simp)))))) r1,r2⟩
   .simp only at h;have n6:kE (H++[.row 2 [cells y]]) (get F4 5) o ids (iY out):=by rw[j3 5 (by omega)];exact n5'
    obtain⟨F5,H5,k1,k2,k3,k4,k5⟩:=T_ (E:=E) (N:=N) (call:=λ_ _ _=>none) (by rw[j3 8 (by omega)];exact f8) hcl n6 hq hj hr hu
    have hnid:∀i,B<=i->i∉ids:=λi hi hm=>by have:=(n3 i hm).2;omega
    have hc5:H5[H.length]? = some (.row 2 [cells y]):=by rw[k4 _ (hnid _ n5)];exact hcl
    have h05:H5[0]? = some (.row 1 [cells t]):=by
     rw[k4 0 (λhm=>by have:=(n3 0 hm).1;omega),List.getElem?_append_left (ζe.1 p.h0).1];exact p.h0
    obtain⟨w9,X,id9,m1',m2,m3,_⟩:=Tl (a:=0) (d:=0) (F:=F5) hd hD hm (by rw[k5 2 (by omega),j3 2 (by omega)];exact f2) h05 hc5
    obtain⟨F6,⟨nn,o1'⟩,o2',o3⟩:=m3 (by rw[k5 8 (by omega),j3 8 (by omega)];exact f8)
    have hl5:H5.length=H.length+1:=by rw[k3];simp
    have i7:get F6 7=.hsl id 2 off2 (rest.map cells).length:=by rw[o3 7 (by omega) (by omega),k5 7 (by omega),j3 7 (by omega)];exact i4
    have hidl:id<H.length:=by
     have:=t7'.lt (off:=off1) (m:=m1) (by rw[<-i3,g3 7 (by omega) (by omega)])
     exact this
    have t6:jc (H5++X) (get F6 7) (rest.map cells) id:=by
     have:get F6 7=get F3 7:=by rw[o3 7 (by omega) (by omega),k5 7 (by omega),j3 7 (by omega)]
     rw[this];refine(i2.heap (H':=H5) λoff n _=>k4 id (hnid id hB8)).more X
    have s10:∃F7,(∀c,bV E N c none FF F6 (H5++X)=some (F7,H5++X))/\get F7 10=.int .i64 ((0:Nat):Int)/\∀s,s<10->get F7 s=get F6 s:=
     ⟨set F6 10 (.int .i64 0),λc=>by simp[FF,bV,aT,aF,aq,aB],by simp,λs hs=>by rw[ax,if_neg (by omega)]⟩
    obtain⟨F7,u1,u2,u3⟩:=s10;have hp3:P3 (rest.map cells) (more.l.map cells) B 0 F7 (H5++X):=by
     refine⟨u2,⟨id9,by rw[u3 9 (by omega),o2'];exact m1',id,by rw[u3 7 (by omega)];exact t6,λoff m hh=>⟨hB8,λoff' m' h'=>?_⟩⟩,by simp;omega⟩
     rw[u3 9 (by omega),o2']at h'
     have:=m2 off' m' h';omega
    obtain⟨F8,H8,v1,⟨id8,v2,v3⟩,v4,v5,v6⟩:=SD (E:=E) (N:=N) (more.l.map cells) B (by simp;omega) (more.l.map cells).length 0 (rest.map cells) F7 (H5++X) (by omega) (by simp;omega) hp3
    have hn8:kE H8 (get F8 5) o ids (iY (out.set q (row.set j true))):=by
     have h5:get F8 5=get F5 5:=by rw[v4 5 (by omega),u3 5 (by omega),o3 5 (by omega) (by omega)]
     rw[h5,Ng];refine(k2.more X).heap (λhne=>v5 o ?_) λi hi=>v5 i (n3 i hi).2
     have:out≠[]:=by intro e;subst e;simp at hrow
     exact(n2 this).2
    have hp2:P2 t (out.set q (row.set j true)) (rest++more.l) F8 H8:=by
     refine⟨by rw[v4 2 (by omega),u3 2 (by omega),o3 2 (by omega) (by omega),k5 2 (by omega),j3 2 (by omega)];exact f2,?_,B,o,ids,id8,hn8,λhne=>n2 (by intro e;subst e;simp at hrow),n3,n4,by simp at v6;omega,?_,v3⟩
     .rw[v5 0 (by omega),List.getElem?_append_left (ζe.1 h05).1];exact h05
     .rw[List.drop_zero]at v2;rw[List.map_append];exact v2
    obtain⟨F',H',w1,w2⟩:=ih _ _ out' F8 H8 h hp2;exact⟨F',H',mB.step (Ex.seq (Ex.seq (Ex.dy λc=>e1) (Ex.oE h35 Ex.skip)) (Ex.block (Ex.seq (Ex.dy λc=>g1) (Ex.seq (Ex.dy λc=>i1) (Ex.seq (Ex.seq (Ex.nH rfl λc=>j1) (Ex.tN j2 Ex.skip)) (Ex.seq (Ex.nH rfl λc=>k1)
     (Ex.seq (Ex.ops ⟨nn,o1'⟩) (Ex.seq (Ex.dy u1) (Ex.wq (Ex.loop v1))))))))) ) w1,w2⟩
theorem N1 {H:ak} {Z:Nat->Prop} {id:Nat} {r:List Bool} (hz:Z id) (h:H[id]? = some (.row 1 (gR (r.map V.bool)))):FR H Z (enc (Sl.row r)) (.hsl id 1 0 r.length):=by
 have hr:au H id=some (1,gR (r.map V.bool)):=by simp[au,h,Ob.rows]
 have he:enc (Sl.row r)=.fsl 1 (rows r):=rfl;have hl:(rows r).length=r.length:=by simp[rows]
 have hc:gR (r.map V.bool)=rows r:=by simp[gR,rows,List.map_map,Function.comp_def]
 rw[hc]at hr;rw[he,<-hl];refine .fsl 1 (rows r) id 0 (rows r) hz hr (by omega) (λi a b h1 h2=>?_) (λi j a b u v h1 h2 h3 h4=>?_)
 .rw[Nat.zero_add,h1]at h2;cases h2;rfl
 .rw[Nat.zero_add,h1]at h2;cases h2;rw[h3]at h4;cases h4;refine .same u ?_;obtain⟨c,hc1,rfl⟩:∃c∈r,a=[V.bool c]:=by
   have:=List.mem_of_getElem? h1;simp only[rows,List.mem_map]at this;obtain⟨c,hc,rfl⟩:=this;exact⟨c,hc,rfl⟩
  have:=List.mem_of_getElem? h3;simp at this;subst this;rfl
theorem LS {H:ak} {w:V} {o:Nat} {ids:List Nat} {out:List (List Bool)} (n:kE H w o ids (iY out)):∃Z,FR H Z (enc (nested out)) w/\(∀id,Z id->(au H id).isSome=true)/\Deep H Z:=by
 have hv:=n.v
 by_cases ho:out=[]
 .subst ho;rw[if_pos (show iY []=[]from rfl)]at hv;subst hv;exact⟨λ_=>False,.same _ rfl,λ_ h=>h.elim,⟨λ_ _ _ h=>h.elim⟩⟩
 .have hne:iY out≠[]:=λh=>ho (E7.1 h)
  rw[if_neg hne,uh]at hv;subst hv;have hob:=n.ob hne;have hlen:=n.len;rw[uh]at hlen;have hrow:∀(i id:Nat) (r:List Bool),ids[i]? = some id->out[i]? = some r->H[id]? = some (.row 1 (gR (r.map V.bool))):=λi id r h1 h2=>n.r i id _ h1 (by simp[iY,h2])
  have href:∀(i:Nat) (c:List V),(refs ids (iY out))[i]? = some c->∃id r,ids[i]? = some id/\out[i]? = some r/\c=[.hsl id 1 0 r.length]:=λi c h=>by
   have hi:=(ζe.1 h).1;rw[rL n.len,uh]at hi;have h1:=ζd (show i<ids.length from by omega)
   have h2:=ζd hi;have h3:=Aa (rows:=iY out) (r:=out[i].map V.bool) h1 (by simp[iY,h2])
   rw[h]at h3;exact⟨_,_,h1,h2,by simpa using h3⟩
  have hzo:au H o=some (1,refs ids (iY out)):=by simp[au,hob,Ob.rows]
  have hzi:∀id∈ids,∃(r:List Bool),H[id]? = some (.row 1 (gR (r.map V.bool))):=λid hid=>by
   obtain⟨i,hi⟩:=List.getElem?_of_mem hid;have hl:=(ζe.1 hi).1;exact⟨_,hrow i id _ hi (ζd (show i<out.length from by omega))⟩
  refine⟨λid=>id=o\/id∈ids,?_,λid h=>?_,⟨λid es ys h hr c hc u hu=>?_⟩⟩
  .have he:enc (nested out)=.fsl 1 (rows (out.map Sl.row)):=by rw[nested,if_neg ho];rfl
   have hl:(rows (out.map Sl.row)).length=out.length:=by simp[rows]
   rw[he,<-hl];refine .fsl 1 _ o 0 (refs ids (iY out)) (.inl rfl) hzo (by rw[hl,rL n.len,uh];omega) (λi a b h1 h2=>?_) (λi j a b u v h1 h2 h3 h4=>?_)
   .rw[Nat.zero_add]at h2;obtain⟨id,r,_,hr,rfl⟩:=href i b h2;simp[rows,hr]at h1;subst h1;rfl
   .rw[Nat.zero_add]at h2;obtain⟨id,r,hid,hr,rfl⟩:=href i b h2;have ha:a=[enc (Sl.row r)]:=by simp[rows,hr]at h1;exact h1.symm
    subst ha
    cases j with
    | zero=>
     simp at h3 h4;subst h3 h4;exact N1 (.inr (List.mem_of_getElem? hid)) (hrow i id r hid hr)
    | succ j=>simp at h3
  .rcases h with rfl|h
   .simp[hzo]
   .obtain⟨r,hr⟩:=hzi id h;simp[au,hr,Ob.rows]
  .rcases h with rfl|h
   .rw[hzo]at hr;cases hr;obtain⟨i,hi⟩:=List.getElem?_of_mem hc;obtain⟨id,r,hid,hro,rfl⟩:=href i c hi;simp at hu;subst hu;exact⟨_,N1 (.inr (List.mem_of_getElem? hid)) (hrow i id r hid hro)⟩
   .obtain⟨r,hr'⟩:=hzi id h;have:au H id=some (1,gR (r.map V.bool)):=by simp[au,hr',Ob.rows]
    rw[this]at hr;cases hr;simp only[gR,List.mem_map]at hc;obtain⟨_,⟨c',_,rfl⟩,rfl⟩:=hc;simp at hu;subst hu;exact⟨_,.same _ rfl⟩
theorem PB {t:Trace} {x:aa} {out:List (List Bool)} {s:Sl aa} {dir:aa->Option (Sl aa)} (hd:uJ.keep (uR 149)=true) (hD:DV uJ uR t dir) (hok:xO t=true) (hs:dir x=some s) (hw:aK (mC dir) (e9 t,s.l)=some (.x out)) :
 Af uJ (uR 122) [enc t,enc x] (enc (nested out)):=by
 obtain⟨fi,g1,g2,g3,g4⟩:=shape;obtain⟨k,hk⟩:=mj.1 hw;have b1:∃F1,(∀c,bV uJ uR c none r1 [enc t,enc x] []=some (F1,[.row 1 [cells t],.row 2 [cells x]]))/\get F1 2=.hptr 0 0 0/\get F1 3=.hptr 1 0 0:=by
  refine⟨_,λc=>jr (v:=.hptr 0 0 0) (H1:=[.row 1 [cells t]]) rfl ?_ <| jr (v:=.hptr 1 0 0) (H1:=[.row 1 [cells t],.row 2 [cells x]]) rfl ?_ <| vp (v:=.aR) rfl ?_ dS,?_,?_⟩
  .show (gL .box [enc t]).map _=_;simp only[gL,f_,oF,if_true,Option.map_some,eY];rfl
  .simp only[aT,List.map_cons,List.map_nil,aF,aB,ax,Nat.reduceEqDiff,if_false];show (gL .box [enc x]).map _=_;simp only[gL,f_,oF,if_true,Option.map_some,eY];rfl
  .simp[aT,aF,aq]
  .simp[aB]
  .simp[aB]
 obtain⟨F1,c1,c2,c3⟩:=b1;have b3:∃F3,(∀c,bV uJ uR c none r2 F1 [.row 1 [cells t],.row 2 [cells x]]=some (set F1 5 .aR,[.row 1 [cells t],.row 2 [cells x]]))/\(∀c,bV uJ uR c none r3 (set F1 5 .aR) [.row 1 [cells t],.row 2 [cells x]]=some (F3,[.row 1 [cells t],.row 2 [cells x]]))/\P1 t x 0 F3 [.row 1 [cells t],.row 2 [cells x]]:=by
  refine⟨set (set F1 5 .aR) 6 (.int .i64 0),λc=>by simp[r2,bV,aT,aF,aq,aB],λc=>by simp[r3,bV,aT,aF,aq,aB],by simp[c2],by simp[c3],by simp,rfl,rfl,0,[],?_,λh=>absurd rfl h,λid h=>by simp at h⟩
  have:get (set (set F1 5 .aR) 6 (.int .i64 0)) 5=.aR:=by simp
  rw[this,List.take_zero];exact kE.nil _ 0
 obtain⟨F3,d1,d2,d3⟩:=b3;obtain⟨F4,H4,e1,e2⟩:=IW (E:=uJ) (N:=uR) hok t.procs.l.length 0 F3 _ (by omega) d3
 obtain⟨o,ids,n1,n2,n3⟩:=e2.ns;have hlen:(e9 t).length=t.procs.l.length:=by simp[e9]
 rw[List.take_of_length_le (by omega)]at n1
 obtain⟨w,X,id,m1,m2,_,m4⟩:=Tl (a:=0) (d:=0) (F:=F4) (E:=uJ) (N:=uR) hd hD hs e2.f2 e2.h0 (c:=1) e2.h1;obtain⟨F5,o1,o2,o3⟩:=m4 e2.f3;have hp2:P2 t (e9 t) s.l F5 (H4++X):=by
  refine⟨by rw[o3 2 (by omega) (by omega)];exact e2.f2,by rw[List.getElem?_append_left (ζe.1 e2.h0).1];exact e2.h0,H4.length,o,ids,id,by rw[o3 5 (by omega) (by omega)];exact n1.more X,λhne=>?_,λi hi=>⟨by have:=n3 i hi;omega,n1.lt.2 i hi⟩,?_,by simp,by rw[o2];exact m1,λoff m h=>?_⟩
  .have hne':iY (e9 t)≠[]:=λh=>hne (E7.1 h)
   have:t.procs.l.length≠0:=by intro h;apply hne;exact List.eq_nil_of_length_eq_zero (by omega)
   have:=n2 this;exact⟨by omega,n1.lt.1 hne'⟩
  .have:=(ζe.1 e2.h0).1;omega
  .rw[o2]at h;have:=m2 off m h;omega
 obtain⟨F6,H6,p1,p2⟩:=HG hd hD k _ _ out F5 _ hk hp2;obtain⟨B,o',ids',id',q1,_⟩:=p2.ns;have l1:∃F7,(∀c,bV uJ uR c none Tu F6 H6=some (F7,H6))/\get F7 4=get F6 5:=by
  refine⟨_,λc=>vp (v:=get F6 5) rfl ?_ <| vp (v:=get F6 5) rfl ?_ dS,?_⟩
  .simp[aT,aF,aq]
  .simp[aT,aF,aq,aB]
  .simp[aB]
 obtain⟨F7,y1,y2⟩:=l1;have hex:Ex uJ uR code [enc t,enc x] [] .ret F7 H6:=
  Ex.seq (Ex.dy c1) (Ex.seq (Ex.dy d1) (Ex.seq (Ex.seq (Ex.dy d2) (Ex.wq (Ex.loop e1))) (Ex.seq (Ex.ops o1) (Ex.seq (Ex.wq (Ex.loop p1)) (Ex.seq (Ex.dy y1) Ex.ret)))))
 obtain⟨n,hrun⟩:=hex.run (nm:=some) B5 g1 g2 (show [enc t,enc x].length<=fi.ntmps from g3) (vs:=[get F7 4]) (by rw[g4];rfl)
 obtain⟨Z,z1,z2,z3⟩:=LS q1;exact⟨n,get F6 5,H6,Z,by rw[hrun,y2];rfl,z1,z2,z3⟩
theorem Rg (l:List aa):∀c∈l.map (cells (α:=aa)),c.length=2/\c.all V.one=true/\c.all V.scalar=true:=λc hc=>by
 obtain⟨e,_,rfl⟩:=List.mem_map.1 hc;exact⟨rfl,rfl,rfl⟩
theorem Sp (t:Trace):DV uJ uR t (cE t):=by
 intro y s H hs;have h1:=xJ t y;have h2:=h1 (b_ s) (by rw[hs];rfl)
 have hg:V.bL [enc t,enc y]=true:=by simp only[V.bL,lz,Bool.and_self]
 have hkind:s.k=.row\/s.k=.nil/\rows s.l=[]:=by
  have hj:∀o z,(∃l,o=.row l)\/o=.nil->cE.J1 o t y=some z->(∃l,z=.row l)\/z=.nil:=λo z ho hz=>by
   unfold cE.J1 at hz;obtain⟨e,_,hz⟩:=ζg.1 hz
   cases he:e.kind==3 with
   | true=>
    rw[he]at hz;obtain⟨f,_,hz⟩:=ζg.1 hz;obtain⟨q,hq,hz⟩:=ζg.1 hz;cases hz;unfold fP at hq;split at hq
    .cases hq;exact .inl ⟨_,rfl⟩
    .cases hq
   | false=>rw[he]at hz;cases hz;exact ho
  have:(∃l,s=.row l)\/s=.nil:=by
   unfold cE at hs
   cases hc:decide (y.index>1)with
   | true=>rw[hc]at hs;exact hj _ s (.inl ⟨_,rfl⟩) hs
   | false=>rw[hc]at hs;exact hj _ s (.inr rfl) hs
  rcases this with⟨l,rfl⟩|rfl
  .exact .inl rfl
  .exact .inr ⟨rfl,rfl⟩
 obtain⟨n,z,H',r1,r2⟩:=QT NP GO (T:=Tx) (f:=uR 149) (rf:=xB (Tx 149)) (by kernel_rfl) hg (Nat.le_of_ble_eq_true (by kernel_rfl)) (k:=s.k) (es:=2) (xs:=rows s.l) (λc hc=>(Rg s.l c hc).2.2) hkind h2
 refine EN (l:=s.l.map cells) (y:=z) (H1:=H') (by kernel_rfl) hg (Rg s.l) ⟨n,λk hk=>sP _ hk _ _ _ _ r1⟩ ?_ H
 rcases r2 with⟨h3,rfl⟩|⟨id,rfl,h4⟩
 .left;cases s <;> simp[Sl.k]at h3;exact⟨rfl,rfl⟩
 .right;exact⟨id,by simp[rows],h4⟩
end pastX
theorem LJ (t:Trace) (x:aa) (r:Sl (Sl Bool)) (h:lI t x=some r):Sy.xI 122 [enc t,enc x]=some (enc r):=by
 unfold lI at h;split at h
 .rename_i hok;obtain⟨s,hs,h⟩:=ζg.1 h;obtain⟨w,hw,h⟩:=ζg.1 h
  cases w with
  | n a=>exact Empty.elim a
  | r e=>exact Empty.elim e
  | x out=>
   cases h;exact CA (pastX.PB (by kernel_rfl) (pastX.Sp t) hok hs hw)
 .cases h
end Go.VE
namespace Go.VE
noncomputable section
def um:Option Bool:=some true
instance Pn:Fc Sy cL um:=⟨7,[],λr:Bool=>[.bool r],true,mm.xI (by kernel_rfl) (by kernel_rfl) KE⟩
namespace ec
def an (s0:Sl Event) (v7:Int) (v8:Int) (p1:Event->Option Bool):Option (Fw Int Unit Int):=
 aj (decide (v8<v7))
 ((idx s0 v8).bind λx_1=>
 (p1 x_1).bind λx_2=>
 aj x_2
 (some (.r v8))
 (some (.n (IntKind.wrap .i64 (v8+1)))))
 (some (.x ()))
def W1 (s0:Sl Event) (v7 v8:Int) (p1:Event->Option Bool):Option Int:=
 (aK (λq:Int=>an s0 v7 q p1) v8).bind (Fw.elim
 (λe=>some (-1))
 (λe=>some e))
end ec
def ec (s0:Sl Event) (p1:Event->Option Bool):Option Int:=
 ec.W1 s0 (len s0) 0 p1
open ec in
abbrev uq (g1:FuncId) (e1:List V) (p1:Event->Option Bool) (h1:ki Sy cL g1 [] e1 (λz:Event=>[enc z]) (λr:Bool=>[.bool r]) p1 true) (s0:Sl Event):Fc Sy cL (ec s0 p1):=Fc.M 75 [enc s0,.clo g1 [] e1] (aN 9 s0 (bS 5 (λqW1=>(aH [Cv 0 s0,(1,.v (.clo g1 [] e1)),Iv 7 (len s0),Iv 8 qW1] [])) (λeW1=>(0,(aH [] []))) (λeW1=>(aH [Iv 4 eW1] [])) (λqW1=>aC 7 9 (aS 16 λx_1 _=>qY 1 h1.f x_1 λx_2 _=>aC 2 16 af af) af) (λeW1=>af) (λeW1=>af))) (l:=by simp[h1.d])
def fM (s0:Sl Event) (p1:Event->Option Bool):Option Bool:=
 (ec s0 p1).bind λx_1=>
 some (decide (x_1>=0))
abbrev mA (g1:FuncId) (e1:List V) (p1:Event->Option Bool) (h1:ki Sy cL g1 [] e1 (λz:Event=>[enc z]) (λr:Bool=>[.bool r]) p1 true) (s0:Sl Event):Fc Sy cL (fM s0 p1):=Fc.M 39 [enc s0,.clo g1 [] e1] (aG (F:=uq g1 e1 p1 h1 s0) 9 λx_1 _=>af) (l:=by simp[h1.d])
def pL (x0:Event):Option Bool:=
 some (decide ((len x0.assign)>20))
instance Oe (x0:Event):Fc Sy cL (pL x0):=Fc.M 40 [enc x0] (bE 2 1 x0 (aN 7 x0.assign af))
namespace gV
def an (v8:Sl bt) (v9:Int) (tb2:Trace) (n1 v10:Int):Option (Fw (Int×Int) Int Unit):=
 aj (decide (v10<v9))
 ((idx v8 v10).bind λx_1=>
 (aj (decide ((len x_1.events)>20))
 (some true)
 (some (decide ((len x_1.vars)>20))):Option Bool).bind λx_2=>
 (aj x_2
 (some true)
 ((fM x_1.events (λz=>pL z)).bind λx_3=>
 some x_3):Option Bool).bind λx_4=>
 aj x_4
 (some (.r ()))
 (some (.n (IntKind.wrap .i64 (n1-(len x_1.events)),IntKind.wrap .i64 (v10+1)))))
 (some (.x n1))
def W1 (n1:Int) (v8:Sl bt) (v9 v10:Int) (tb2:Trace):Option Bool:=
 (aK (λq:Int×Int=>an v8 v9 tb2 q.1 q.2) (n1,v10)).bind (Fw.elim
 (λe=>(aj (decide ((len tb2.procs)<=10))
 (some (decide (e>=0)))
 (some false):Option Bool).bind λx_5=>
 some x_5)
 (λe=>some false))
end gV
def gV (t0:Trace) (n1:Int):Option Bool:=
 gV.W1 n1 t0.procs (len t0.procs) 0 t0
open gV in
instance RT (t0:Trace) (n1:Int):Fc Sy cL (gV t0 n1):=Fc.M 8 [enc t0,.int .i64 n1] (bE 2 2 t0 (aN 8 t0.procs (bS 5 (λqW1=>(aH [Iv 1 qW1.1,Pv 2,Cv 8 t0.procs,Iv 9 (len t0.procs),Iv 10 qW1.2] [Xb 2 t0])) (λeW1=>(0,(aH [Iv 1 eW1,Pv 2] [Xb 2 t0]))) (λeW1=>(aH [Bv 4 false] [])) (λqW1=>aC 7 11 (aS 7 λx_1 _=>g_ 2 6 0 x_1 (aN 7 x_1.events (aN 8 x_1.events (aX 2 5 [23] 28 (aC 2 23 (aA 5) (aN 2 x_1.vars (aA 2))) λx_2=>aX 1 4 [6,29] 33 (aC 1 29 (aA 4) (aG (F:=mA 40 [] (λz=>pL z) ki.tB x_1.events) 2 λx_3 _=>aA 1)) λx_4=>aC 2 33 af af)))) af) (λeW1=>aN 6 t0.procs (aX 2 3 [1,39] 42 (aC 2 39 (aA 3) (aA 3)) λx_5=>af)) (λeW1=>af))))
namespace en
def an (s0:Sl (Sl (Sl Int))) (v7:Int) (v8:Int) (p1:(Sl (Sl Int))->Option Bool):Option (Fw Int Unit Int):=
 aj (decide (v8<v7))
 ((idx s0 v8).bind λx_1=>
 (p1 x_1).bind λx_2=>
 aj x_2
 (some (.r v8))
 (some (.n (IntKind.wrap .i64 (v8+1)))))
 (some (.x ()))
def W1 (s0:Sl (Sl (Sl Int))) (v7 v8:Int) (p1:(Sl (Sl Int))->Option Bool):Option Int:=
 (aK (λq:Int=>an s0 v7 q p1) v8).bind (Fw.elim
 (λe=>some (-1))
 (λe=>some e))
end en
def en (s0:Sl (Sl (Sl Int))) (p1:(Sl (Sl Int))->Option Bool):Option Int:=
 en.W1 s0 (len s0) 0 p1
open en in
abbrev uE (g1:FuncId) (e1:List V) (p1:(Sl (Sl Int))->Option Bool) (h1:ki Sy cL g1 [] e1 (λz:Sl (Sl Int)=>[enc z]) (λr:Bool=>[.bool r]) p1 true) (s0:Sl (Sl (Sl Int))):Fc Sy cL (en s0 p1):=Fc.M 76 [enc s0,.clo g1 [] e1] (aN 9 s0 (bS 5 (λqW1=>(aH [Cv 0 s0,(1,.v (.clo g1 [] e1)),Iv 7 (len s0),Iv 8 qW1] [])) (λeW1=>(0,(aH [] []))) (λeW1=>(aH [Iv 4 eW1] [])) (λqW1=>aC 7 9 (aS 16 λx_1 _=>qY 1 h1.f x_1 λx_2 _=>aC 2 16 af af) af) (λeW1=>af) (λeW1=>af))) (l:=by simp[h1.d])
def iH (s0:Sl (Sl (Sl Int))) (p1:(Sl (Sl Int))->Option Bool):Option Bool:=
 (en s0 p1).bind λx_1=>
 some (decide (x_1>=0))
abbrev sS (g1:FuncId) (e1:List V) (p1:(Sl (Sl Int))->Option Bool) (h1:ki Sy cL g1 [] e1 (λz:Sl (Sl Int)=>[enc z]) (λr:Bool=>[.bool r]) p1 true) (s0:Sl (Sl (Sl Int))):Fc Sy cL (iH s0 p1):=Fc.M 41 [enc s0,.clo g1 [] e1] (aG (F:=uE g1 e1 p1 h1 s0) 9 λx_1 _=>af) (l:=by simp[h1.d])
namespace eT
def an (s0:Sl (Sl Int)) (v7:Int) (v8:Int) (p1:(Sl Int)->Option Bool):Option (Fw Int Unit Int):=
 aj (decide (v8<v7))
 ((idx s0 v8).bind λx_1=>
 (p1 x_1).bind λx_2=>
 aj x_2
 (some (.r v8))
 (some (.n (IntKind.wrap .i64 (v8+1)))))
 (some (.x ()))
def W1 (s0:Sl (Sl Int)) (v7 v8:Int) (p1:(Sl Int)->Option Bool):Option Int:=
 (aK (λq:Int=>an s0 v7 q p1) v8).bind (Fw.elim
 (λe=>some (-1))
 (λe=>some e))
end eT
def eT (s0:Sl (Sl Int)) (p1:(Sl Int)->Option Bool):Option Int:=
 eT.W1 s0 (len s0) 0 p1
open eT in
abbrev uP (g1:FuncId) (e1:List V) (p1:(Sl Int)->Option Bool) (h1:ki Sy cL g1 [] e1 (λz:Sl Int=>[enc z]) (λr:Bool=>[.bool r]) p1 true) (s0:Sl (Sl Int)):Fc Sy cL (eT s0 p1):=Fc.M 63 [enc s0,.clo g1 [] e1] (aN 9 s0 (bS 5 (λqW1=>(aH [Cv 0 s0,(1,.v (.clo g1 [] e1)),Iv 7 (len s0),Iv 8 qW1] [])) (λeW1=>(0,(aH [] []))) (λeW1=>(aH [Iv 4 eW1] [])) (λqW1=>aC 7 9 (aS 16 λx_1 _=>qY 1 h1.f x_1 λx_2 _=>aC 2 16 af af) af) (λeW1=>af) (λeW1=>af))) (l:=by simp[h1.d])
def gi (s0:Sl (Sl Int)) (p1:(Sl Int)->Option Bool):Option Bool:=
 (eT s0 p1).bind λx_1=>
 some (decide (x_1>=0))
abbrev mS (g1:FuncId) (e1:List V) (p1:(Sl Int)->Option Bool) (h1:ki Sy cL g1 [] e1 (λz:Sl Int=>[enc z]) (λr:Bool=>[.bool r]) p1 true) (s0:Sl (Sl Int)):Fc Sy cL (gi s0 p1):=Fc.M 23 [enc s0,.clo g1 [] e1] (aG (F:=uP g1 e1 p1 h1 s0) 9 λx_1 _=>af) (l:=by simp[h1.d])
def lR (c0:Sl Int):Option Bool:=
 some (decide ((len c0)>20))
instance Jr (c0:Sl Int):Fc Sy cL (lR c0):=Fc.M 43 [enc c0] (aN 8 c0 af)
def me (l0:Sl (Sl Int)):Option Bool:=
 (aj (decide ((len l0)>40))
 (some true)
 ((gi l0 (λz=>lR z)).bind λx_1=>
 some x_1):Option Bool).bind λx_2=>
 some x_2
instance Mj (l0:Sl (Sl Int)):Fc Sy cL (me l0):=Fc.M 42 [enc l0] (aN 8 l0 (aX 2 3 [0,6] 9 (aC 2 6 (aA 3) (aG (F:=mS 43 [] (λz=>lR z) ki.tB l0) 1 λx_1 _=>aA 1)) λx_2=>af))
def oZ (s0:Slice):Option Bool:=
 (aj (decide ((len s0.first)>20))
 (some true)
 (some (decide ((len s0.last)>20))):Option Bool).bind λx_1=>
 (aj x_1
 (some true)
 (some (decide ((len s0.j)>20))):Option Bool).bind λx_2=>
 (aj x_2
 (some true)
 ((iH s0.j (λz=>me z)).bind λx_3=>
 some x_3):Option Bool).bind λx_4=>
 some x_4
instance PY (s0:Slice):Fc Sy cL (oZ s0):=Fc.M 9 [enc s0] (bE 2 1 s0 (aN 7 s0.first (aX 2 5 [7] 12 (aC 2 7 (aA 5) (aN 2 s0.last (aA 2))) λx_1=>aX 1 5 [13] 18 (aC 1 13 (aA 5) (aN 2 s0.j (aA 2))) λx_2=>aX 1 4 [1,19] 23 (aC 1 19 (aA 4) (aG (F:=sS 42 [] (λz=>me z) ki.tB s0.j) 2 λx_3 _=>aA 1)) λx_4=>af)))
def lG (x0 low1 high2:Int):Option Bool:=
 (aj (decide (x0>=low1))
 (some (decide (x0<=high2)))
 (some false):Option Bool).bind λx_1=>
 some x_1
instance SN (x0 low1 high2:Int):Fc Sy cL (lG x0 low1 high2):=Fc.M 138 [.int .i64 x0,.int .i64 low1,.int .i64 high2] (aX 11 4 [0,2,10] 14 (aC 11 10 (aA 4) (aA 4)) λx_1=>af)
def ot (c0:Int):Option Bool:=
 (aj (decide (c0>=97))
 (some (decide (c0<=122)))
 (some false):Option Bool).bind λx_1=>
 (aj x_1
 (some true)
 ((aj (decide (c0>=65))
 (some (decide (c0<=90)))
 (some false):Option Bool).bind λx_2=>
 some x_2):Option Bool).bind λx_3=>
 some x_3
instance OT (c0:Int):Fc Sy cL (ot c0):=Fc.M 183 [.int .u8 c0] (aX 10 3 [5] 8 (aC 10 5 (aA 3) (aA 3)) λx_1=>aX 1 7 [0,9] 16 (aC 1 9 (aA 7) (aX 3 3 [0,12] 15 (aC 3 12 (aA 3) (aA 3)) λx_2=>aA 1)) λx_3=>af)
def sK (c0:Int):Option Bool:=
 (aj (decide (c0>=48))
 (some (decide (c0<=57)))
 (some false):Option Bool).bind λx_1=>
 some x_1
instance Qp (c0:Int):Fc Sy cL (sK c0):=Fc.M 184 [.int .u8 c0] (aX 10 3 [0,5] 8 (aC 10 5 (aA 3) (aA 3)) λx_1=>af)
namespace eM
def an (s0:ByteArray) (v18:Int) (v19:Int):Option (Fw Int Unit Unit):=
 aj (decide (v19<v18))
 ((jy s0 v19).bind λx_5=>
 (ot x_5).bind λx_6=>
 (aj x_6
 (some false)
 ((jy s0 v19).bind λx_7=>
 (sK x_7).bind λx_8=>
 some (!x_8)):Option Bool).bind λx_9=>
 (aj x_9
 ((jy s0 v19).bind λx_10=>
 some (!(x_10==95)))
 (some false):Option Bool).bind λx_11=>
 aj x_11
 (some (.r ()))
 (some (.n (IntKind.wrap .i64 (v19+1)))))
 (some (.x ()))
def W1 (s0:ByteArray) (v18 v19:Int):Option Bool:=
 (aK (λq:Int=>an s0 v18 q) v19).bind (Fw.elim
 (λe=>some true)
 (λe=>some false))
end eM
def eM (s0:ByteArray):Option Bool:=
 (aj (ByteArray.toList s0==ByteArray.toList ByteArray.empty)
 (some true)
 (some (decide (((ByteArray.size s0:Nat):Int)>16))):Option Bool).bind λx_1=>
 (aj x_1
 (some true)
 ((jy s0 0).bind λx_2=>
 (ot x_2).bind λx_3=>
 some (!x_3)):Option Bool).bind λx_4=>
 aj x_4
 (some false)
 (eM.W1 s0 ((ByteArray.size s0:Nat):Int) 0)
open eM in
instance Pf (s0:ByteArray):Fc Sy cL (eM s0):=Fc.M 158 [.str s0] (aX 11 4 [6] 10 (aC 11 6 (aA 4) (aA 4)) λx_1=>aX 1 5 [11] 16 (aC 1 11 (aA 5) (yf 1 .i64 λx_2 _=>aG 0 λx_3 _=>aA 2)) λx_4=>aC 2 16 af (bS 13 (λqW1=>(aH [(0,.v (.str s0)),Iv 18 ((ByteArray.size s0:Nat):Int),Iv 19 qW1] [])) (λeW1=>(0,(aH [] []))) (λeW1=>(aH [Bv 2 false] [])) (λqW1=>aC 7 20 (yf 15 .i64 λx_5 _=>aG 0 λx_6 _=>aX 2 6 [27] 33 (b9 2 27 (aA 6) (yf 2 .i64 λx_7 _=>aG 0 λx_8 _=>aA 2)) λx_9=>aX 1 5 [3,34] 39 (aC 1 34 (yf 2 .i64 λx_10 _=>aA 2) (aA 5)) λx_11=>aC 2 39 af af) af) (λeW1=>af) (λeW1=>af)))
def iw (y0 v1:bt):Option Bool:=
 some (ByteArray.toList y0.name==ByteArray.toList v1.name)
instance FT (y0 v1:bt):Fc Sy cL (iw y0 v1):=Fc.M 160 [enc y0,.fptr (cells v1)] (bE 2 2 y0 af)
namespace eS
def an (s0:Sl bt) (v7:Int) (v8:Int) (p1:bt->Option Bool):Option (Fw Int Unit Int):=
 aj (decide (v8<v7))
 ((idx s0 v8).bind λx_1=>
 (p1 x_1).bind λx_2=>
 aj x_2
 (some (.r v8))
 (some (.n (IntKind.wrap .i64 (v8+1)))))
 (some (.x ()))
def W1 (s0:Sl bt) (v7 v8:Int) (p1:bt->Option Bool):Option Int:=
 (aK (λq:Int=>an s0 v7 q p1) v8).bind (Fw.elim
 (λe=>some (-1))
 (λe=>some e))
end eS
def eS (s0:Sl bt) (p1:bt->Option Bool):Option Int:=
 eS.W1 s0 (len s0) 0 p1
open eS in
abbrev uQ (g1:FuncId) (e1:List V) (p1:bt->Option Bool) (h1:ki Sy cL g1 [] e1 (λz:bt=>[enc z]) (λr:Bool=>[.bool r]) p1 true) (s0:Sl bt):Fc Sy cL (eS s0 p1):=Fc.M 185 [enc s0,.clo g1 [] e1] (aN 9 s0 (bS 5 (λqW1=>(aH [Cv 0 s0,(1,.v (.clo g1 [] e1)),Iv 7 (len s0),Iv 8 qW1] [])) (λeW1=>(0,(aH [] []))) (λeW1=>(aH [Iv 4 eW1] [])) (λqW1=>aC 7 9 (aS 16 λx_1 _=>qY 1 h1.f x_1 λx_2 _=>aC 2 16 af af) af) (λeW1=>af) (λeW1=>af))) (l:=by simp[h1.d])
def fZ (s0:Sl bt) (p1:bt->Option Bool):Option Bool:=
 (eS s0 p1).bind λx_1=>
 some (decide (x_1>=0))
abbrev tn (g1:FuncId) (e1:List V) (p1:bt->Option Bool) (h1:ki Sy cL g1 [] e1 (λz:bt=>[enc z]) (λr:Bool=>[.bool r]) p1 true) (s0:Sl bt):Fc Sy cL (fZ s0 p1):=Fc.M 159 [enc s0,.clo g1 [] e1] (aG (F:=uQ g1 e1 p1 h1 s0) 9 λx_1 _=>af) (l:=by simp[h1.d])
def ir (w0 v1:Var):Option Bool:=
 some (ByteArray.toList w0.name==ByteArray.toList v1.name)
instance FU (w0 v1:Var):Fc Sy cL (ir w0 v1):=Fc.M 162 [enc w0,.fptr (cells v1)] (af)
namespace eZ
def an (s0:Sl Var) (v7:Int) (v8:Int) (p1:Var->Option Bool):Option (Fw Int Unit Int):=
 aj (decide (v8<v7))
 ((idx s0 v8).bind λx_1=>
 (p1 x_1).bind λx_2=>
 aj x_2
 (some (.r v8))
 (some (.n (IntKind.wrap .i64 (v8+1)))))
 (some (.x ()))
def W1 (s0:Sl Var) (v7 v8:Int) (p1:Var->Option Bool):Option Int:=
 (aK (λq:Int=>an s0 v7 q p1) v8).bind (Fw.elim
 (λe=>some (-1))
 (λe=>some e))
end eZ
def eZ (s0:Sl Var) (p1:Var->Option Bool):Option Int:=
 eZ.W1 s0 (len s0) 0 p1
open eZ in
abbrev vN (g1:FuncId) (e1:List V) (p1:Var->Option Bool) (h1:ki Sy cL g1 [] e1 (λz:Var=>[enc z]) (λr:Bool=>[.bool r]) p1 true) (s0:Sl Var):Fc Sy cL (eZ s0 p1):=Fc.M 186 [enc s0,.clo g1 [] e1] (aN 9 s0 (bS 5 (λqW1=>(aH [Cv 0 s0,(1,.v (.clo g1 [] e1)),Iv 7 (len s0),Iv 8 qW1] [])) (λeW1=>(0,(aH [] []))) (λeW1=>(aH [Iv 4 eW1] [])) (λqW1=>aC 7 9 (aS 16 λx_1 _=>qY 1 h1.f x_1 λx_2 _=>aC 2 16 af af) af) (λeW1=>af) (λeW1=>af))) (l:=by simp[h1.d])
def gE (s0:Sl Var) (p1:Var->Option Bool):Option Bool:=
 (eZ s0 p1).bind λx_1=>
 some (decide (x_1>=0))
abbrev tF (g1:FuncId) (e1:List V) (p1:Var->Option Bool) (h1:ki Sy cL g1 [] e1 (λz:Var=>[enc z]) (λr:Bool=>[.bool r]) p1 true) (s0:Sl Var):Fc Sy cL (gE s0 p1):=Fc.M 161 [enc s0,.clo g1 [] e1] (aG (F:=vN g1 e1 p1 h1 s0) 9 λx_1 _=>af) (l:=by simp[h1.d])
namespace c_
def an (v32:Sl Var) (v33:Int) (xb5:bt) (v34:Int):Option (Fw Int Unit Int):=
 aj (decide (v34<v33))
 ((idx v32 v34).bind λx_6=>
 (eM x_6.name).bind λx_7=>
 (aj x_7
 ((eO xb5.vars none (some v34)).bind λx_8=>
 (gE x_8 (λz=>ir z x_6)).bind λx_9=>
 some x_9)
 (some true):Option Bool).bind λx_10=>
 aj x_10
 (some (.r 13))
 ((lG x_6.init_ (-1073741824) 1073741824).bind λx_11=>
 aj x_11
 (some (.n (IntKind.wrap .i64 (v34+1))))
 (some (.r 2))))
 (some (.x ()))
def W1 (v32:Sl Var) (v33 v34:Int) (xb5:bt):Option Int:=
 (aK (λq:Int=>an v32 v33 xb5 q) v34).bind (Fw.elim
 (λe=>aj (decide ((len xb5.events)>64))
 (some 5)
 (some 0))
 (λe=>some e))
end c_
def c_ (t0:Trace) (p1:Int):Option Int:=
 (idx t0.procs p1).bind λx_1=>
 (eM x_1.name).bind λx_2=>
 (aj x_2
 ((eO t0.procs none (some p1)).bind λx_3=>
 (fZ x_3 (λz=>iw z x_1)).bind λx_4=>
 some x_4)
 (some true):Option Bool).bind λx_5=>
 aj x_5
 (some 13)
 (aj (decide ((len x_1.vars)>8))
 (some 5)
 (c_.W1 x_1.vars (len x_1.vars) 0 x_1))
open c_ in
instance IY (t0:Trace) (p1:Int):Fc Sy cL (c_ t0 p1):=Fc.M 139 [enc t0,.int .i64 p1] (bE 2 2 t0 (aS 8 λx_1 _=>g_ 2 5 0 x_1 (aG 8 λx_2 _=>aX 2 7 [1,2,18] 25 (b9 2 18 (AH 3 false true [.int .i64 p1] λx_3 _=>fq (F:=tn 160 [.fptr (cells x_1)] (λz=>iw z x_1) ki.tB x_3) 1 λx_4 _=>aA 1) (aA 7)) λx_5=>aC 3 13 af (aN 5 x_1.vars (aC 4 26 af (aN 9 x_1.vars (bS 5 (λqW1=>(aH [Pv 5,Cv 32 x_1.vars,Iv 33 (len x_1.vars),Iv 34 qW1] [Xb 5 x_1])) (λeW1=>(1,(aH [Pv 5] [Xb 5 x_1]))) (λeW1=>(aH [Iv 4 eW1] [])) (λqW1=>aC 7 35 (aS 8 λx_6 _=>aG 11 λx_7 _=>aX 2 7 [6,44] 51 (b9 2 44 (AH 3 false true [.int .i64 qW1] λx_8 _=>fq (F:=tF 162 [.fptr (cells x_6)] (λz=>ir z x_6) ki.tB x_8) 1 λx_9 _=>aA 1) (aA 7)) λx_10=>aC 3 39 af (aG 5 λx_11 _=>b9 4 52 af af)) af) (λeW1=>aN 7 x_1.events (aC 3 61 af af)) (λeW1=>af))))))))
def iR (t0:Trace):Option Trace:=
 some t0
instance OX (t0:Trace):Fc Sy cL (iR t0):=Fc.NE (λr:Trace=>[(.clo 163 [] [.fptr (cells r)])]) 140 [enc t0] (bE 2 1 t0 af)
namespace ga
def J1 (p1:Int) (v19:Bool) (tb3:Trace) (eb5:Event):Option Bool:=
 aj v19
 ((lG eb5.peer 0 (IntKind.wrap .i64 ((len tb3.procs)-1))).bind λx_2=>
 (aj x_2
 (some (!(eb5.peer==p1)))
 (some false):Option Bool).bind λx_3=>
 (aj x_3
 ((lG eb5.message 0 199).bind λx_4=>
 some x_4)
 (some false):Option Bool).bind λx_5=>
 some x_5)
 (some false)
end ga
def ga (t0:Trace) (p1:Int) (e2:Event):Option Bool:=
 aj (e2.kind==1)
 ((aj (e2.peer==0)
 (some (e2.message==0))
 (some false):Option Bool).bind λx_1=>
 some x_1)
 (aj (e2.kind==2)
 (ga.J1 p1 true t0 e2)
 (ga.J1 p1 (e2.kind==3) t0 e2))
open ga in
instance Px (t0:Trace) (p1:Int) (e2:Event):Fc Sy cL (ga t0 p1 e2):=Fc.M 164 [enc t0,.int .i64 p1,enc e2] (bE 2 3 t0 (bE 0 5 e2 (aC 17 9 (aX 7 4 [5,14] 18 (aC 7 14 (aA 4) (aA 4)) λx_1=>af) (aC 8 19 (xP 4 (aC 0 19 (aN 7 t0.procs (aG 1 λx_2 _=>aX 1 5 [1,29] 34 (aC 1 29 (aA 5) (aA 5)) λx_3=>aX 1 4 [5,35] 39 (aC 1 35 (aG 2 λx_4 _=>aA 1) (aA 4)) λx_5=>af)) af)) (xP 7 (aC 0 19 (aN 7 t0.procs (aG 1 λx_2 _=>aX 1 5 [1,29] 34 (aC 1 29 (aA 5) (aA 5)) λx_3=>aX 1 4 [5,35] 39 (aC 1 35 (aG 2 λx_4 _=>aA 1) (aA 4)) λx_5=>af)) af))))))
def jh (b0 v1:Assign):Option Bool:=
 some (b0.var==v1.var)
instance GK (b0 v1:Assign):Fc Sy cL (jh b0 v1):=Fc.M 166 [enc b0,.fptr (cells v1)] (af)
namespace dO
def an (s0:Sl Assign) (v7:Int) (v8:Int) (p1:Assign->Option Bool):Option (Fw Int Unit Int):=
 aj (decide (v8<v7))
 ((idx s0 v8).bind λx_1=>
 (p1 x_1).bind λx_2=>
 aj x_2
 (some (.r v8))
 (some (.n (IntKind.wrap .i64 (v8+1)))))
 (some (.x ()))
def W1 (s0:Sl Assign) (v7 v8:Int) (p1:Assign->Option Bool):Option Int:=
 (aK (λq:Int=>an s0 v7 q p1) v8).bind (Fw.elim
 (λe=>some (-1))
 (λe=>some e))
end dO
def dO (s0:Sl Assign) (p1:Assign->Option Bool):Option Int:=
 dO.W1 s0 (len s0) 0 p1
open dO in
abbrev tH (g1:FuncId) (e1:List V) (p1:Assign->Option Bool) (h1:ki Sy cL g1 [] e1 (λz:Assign=>[enc z]) (λr:Bool=>[.bool r]) p1 true) (s0:Sl Assign):Fc Sy cL (dO s0 p1):=Fc.M 187 [enc s0,.clo g1 [] e1] (aN 9 s0 (bS 5 (λqW1=>(aH [Cv 0 s0,(1,.v (.clo g1 [] e1)),Iv 7 (len s0),Iv 8 qW1] [])) (λeW1=>(0,(aH [] []))) (λeW1=>(aH [Iv 4 eW1] [])) (λqW1=>aC 7 9 (aS 16 λx_1 _=>qY 1 h1.f x_1 λx_2 _=>aC 2 16 af af) af) (λeW1=>af) (λeW1=>af))) (l:=by simp[h1.d])
def fu (s0:Sl Assign) (p1:Assign->Option Bool):Option Bool:=
 (dO s0 p1).bind λx_1=>
 some (decide (x_1>=0))
abbrev rq (g1:FuncId) (e1:List V) (p1:Assign->Option Bool) (h1:ki Sy cL g1 [] e1 (λz:Assign=>[enc z]) (λr:Bool=>[.bool r]) p1 true) (s0:Sl Assign):Fc Sy cL (fu s0 p1):=Fc.M 165 [enc s0,.clo g1 [] e1] (aG (F:=tH g1 e1 p1 h1 s0) 9 λx_1 _=>af) (l:=by simp[h1.d])
namespace cw
def aY (v52:Sl Assign) (v53:Int) (eb5:Event) (xb7:bt) (v54:Int):Option (Fw Int Unit Int):=
 aj (decide (v54<v53))
 ((idx v52 v54).bind λx_6=>
 (lG x_6.var 0 (IntKind.wrap .i64 ((len xb7.vars)-1))).bind λx_7=>
 (aj x_7
 ((lG x_6.value (-1073741824) 1073741824).bind λx_8=>
 some (!x_8))
 (some true):Option Bool).bind λx_9=>
 aj x_9
 (some (.r 2))
 ((eO eb5.assign none (some v54)).bind λx_10=>
 (fu x_10 (λz=>jh z x_6)).bind λx_11=>
 aj x_11
 (some (.r 8))
 (some (.n (IntKind.wrap .i64 (v54+1))))))
 (some (.x ()))
def W2 (v52:Sl Assign) (v53 v54:Int) (eb5:Event) (xb7:bt):Option Int:=
 (aK (λq:Int=>aY v52 v53 eb5 xb7 q) v54).bind (Fw.elim
 (λe=>some 0)
 (λe=>some e))
def J1 (last8:Int) (tb3:Trace) (idb4:aa) (eb5:Event) (xb7:bt):Option Int:=
 (ga tb3 idb4.proc eb5).bind λx_3=>
 aj x_3
 ((lG eb5.time 0 1099511627776).bind λx_4=>
 (aj x_4
 (some (decide (eb5.time<last8)))
 (some true):Option Bool).bind λx_5=>
 aj x_5
 (some 11)
 (aj (decide ((len eb5.assign)>8))
 (some 5)
 (cw.W2 eb5.assign (len eb5.assign) 0 eb5 xb7)))
 (some 3)
theorem vf (last8:Int) (tb3:Trace) (idb4:aa) (eb5:Event) (xb7:bt):Le ((J1 last8 tb3 idb4 eb5 xb7).bind (λr=>some [.int .i64 r])) (bA Sy cL (pO (tr Tx 141)) (tv (tb Tx 141) [1,1,1,1,0] [] (aH [Pv 3,Pv 4,Pv 5,Pv 7,Iv 8 last8] [Xb 3 tb3,Xb 4 idb4,Xb 5 eb5,Xb 7 xb7]))):=
 aG 8 λx_3 _=>b9 4 28 (aG 5 λx_4 _=>aX 2 5 [8,40] 45 (b9 2 40 (aA 5) (aA 5)) λx_5=>aC 3 35 af (aN 5 eb5.assign (aC 4 46 af (aN 9 eb5.assign (bS 5 (λqW2=>(aH [Pv 5,Pv 7,Cv 52 eb5.assign,Iv 53 (len eb5.assign),Iv 54 qW2] [Xb 5 eb5,Xb 7 xb7])) (λeW2=>(1,(aH [] []))) (λeW2=>(aH [Iv 6 eW2] [])) (λqW2=>aC 7 55 (aS 8 λx_6 _=>aN 13 xb7.vars (aG 1 λx_7 _=>aX 2 5 [68] 73 (b9 2 68 (aG 2 λx_8 _=>aA 2) (aA 5)) λx_9=>aC 3 59 af (AH 6 false true [.int .i64 qW2] λx_10 _=>fq (F:=rq 166 [.fptr (cells x_6)] (λz=>jh z x_6) ki.tB x_10) 1 λx_11 _=>aC 3 74 af af))) af) (λeW2=>af) (λeW2=>af)))))) af
end cw
def cw (t0:Trace) (id1:aa) (e2:Event):Option Int:=
 (idx t0.procs id1.proc).bind λx_1=>
 aj (decide (id1.index>1))
 ((idx x_1.events (IntKind.wrap .i64 (id1.index-2))).bind λx_2=>
 cw.J1 x_2.time t0 id1 e2 x_1)
 (cw.J1 0 t0 id1 e2 x_1)
open cw in
instance Lk (t0:Trace) (id1:aa) (e2:Event):Fc Sy cL (cw t0 id1 e2):=Fc.M 141 [enc t0,enc id1,enc e2] (bE 2 3 t0 (bE 1 5 e2 (aS 9 λx_1 _=>g_ 2 7 0 x_1 (aC 15 19 (aS 7 λx_2 _=>Cd 6 (vf x_2.time t0 id1 e2 x_1)) (Cd 4 (vf 0 t0 id1 e2 x_1))))))
def ox (e0:Event) (v1 v2:Int):Option Bool:=
 (aj (e0.kind==2)
 (some (e0.message==v1))
 (some false):Option Bool).bind λx_1=>
 (aj x_1
 (some (e0.peer==v2))
 (some false):Option Bool).bind λx_2=>
 some x_2
instance MQ (e0:Event) (v1 v2:Int):Fc Sy cL (ox e0 v1 v2):=Fc.M 188 [enc e0,.fptr (cells v1),.fptr (cells v2)] (bE 2 3 e0 (aX 9 5 [1,8] 13 (aC 9 8 (aA 5) (aA 5)) λx_1=>aX 1 5 [2,3,14] 19 (aC 1 14 (aA 5) (aA 5)) λx_2=>af))
def sC (t0:Trace) (p1 m2 to_3:Int):Option Bool:=
 (idx t0.procs p1).bind λx_1=>
 (fM x_1.events (λz=>ox z m2 to_3)).bind λx_2=>
 some x_2
instance Qb (t0:Trace) (p1 m2 to_3:Int):Fc Sy cL (sC t0 p1 m2 to_3):=Fc.M 167 [enc t0,.int .i64 p1,.int .i64 m2,.int .i64 to_3] (bE 2 4 t0 (aS 10 λx_1 _=>fq (F:=mA 188 [.fptr (cells m2),.fptr (cells to_3)] (λz=>ox z m2 to_3) ki.tB x_1.events) 3 λx_2 _=>af))
namespace c9
def qG (vk0_12 tb1:Trace) (vb2:Option (bg 200 ay)) (vb3:aa) (vb4:Int) (x:aa×Event) (vb10:bg 200 ay):Option (Fw (bg 200 ay) Empty (aa×Int×(bg 200 ay))):=
 aj (x.2.kind==2)
 ((bg.at vb10 x.2.message).bind λx_2=>
 aj (decide (x_2.from_.index>0))
 (some (.r (x.1,8,vb10)))
 ((bg.at vb10 x.2.message).bind λx_3=>
 some (.n (bg.set vb10 x.2.message (⟨x.1,x_3.to_⟩:ay)))))
 (aj (x.2.kind==3)
 ((bg.at vb10 x.2.message).bind λx_4=>
 aj (decide (x_4.to_.index>0))
 (some (.r (x.1,8,vb10)))
 ((sC tb1 x.2.peer x.2.message x.1.proc).bind λx_5=>
 aj x_5
 ((bg.at vb10 x.2.message).bind λx_6=>
 some (.n (bg.set vb10 x.2.message (⟨x_6.from_,x.1⟩:ay))))
 (some (.r (x.1,7,vb10)))))
 (some (.n vb10)))
def E1 (vk0_12 tb1:Trace) (vb2:Option (bg 200 ay)) (vb3:aa) (vb4:Int) (vb10:bg 200 ay):Option ((Option (bg 200 ay))×aa×Int):=
 (gQ vk0_12).bind λits=>(mL (λ(x:aa×Event) (q:bg 200 ay)=>qG vk0_12 tb1 vb2 vb3 vb4 x q) its vb10).bind (Fw.u5
 (λq=>some (some q,⟨0,0⟩,0))
 (λe=>Empty.elim e)
 (λe=>some ((none:Option (bg 200 ay)),e.1,e.2.1)))
end c9
def c9 (t0:Trace):Option ((Option (bg 200 ay))×aa×Int):=
 (iR t0).bind λx_1=>
 c9.E1 x_1 t0 (none:Option (bg 200 ay)) (⟨0,0⟩:aa) 0 (bg.K2 200 (⟨⟨0,0⟩,⟨0,0⟩⟩:ay))
open c9 in
instance I9 (t0:Trace):Fc Sy cL (c9 t0):=Fc.N 142 [enc t0] (bE 2 1 t0 (bE 8 10 (bg.K2 200 (⟨⟨0,0⟩,⟨0,0⟩⟩:ay)) (Qw 0 5 (aH [Pv 1,Pv 2,Pv 3,Pv 4,Pv 10] [Xb 1 t0,(2,.box [cv (none:Option (bg 200 ay))]),Xb 3 (⟨0,0⟩:aa),(4,.box [iv 0]),Xb 10 (bg.K2 200 (⟨⟨0,0⟩,⟨0,0⟩⟩:ay))]) [cv (none:Option (bg 200 ay))] (by simp only[aH,vW,oA,p_,oJ,qz,si,qy,rm,oG,qn,wk,rP,rQ,rZ,rW,ua,tY,qb,rA];rfl) (aG 7 λx_1 _=>HB λits hits=>DJ 4 [Pv 1,Pv 2,Pv 3,Pv 4,Pv 5,(12,.v (.clo 163 [] [.fptr (cells x_1)]))] (λqE1=>[Xb 1 t0,(2,.box [cv (none:Option (bg 200 ay))]),Xb 3 (⟨0,0⟩:aa),(4,.box [iv 0]),(5,.box [.ptr 10 0]),Xb 10 qE1]) (λeE1=>Empty.elim eE1) (λeE1=>[Xb 1 t0,(2,.box [cv (none:Option (bg 200 ay))]),Xb 3 eE1.1,(4,.box [iv eE1.2.1]),(5,.box [.ptr 10 0]),Xb 10 eE1.2.2]) (w6 x_1 its hits) (λxE1 qE1=>Qw 2 6 ⟨[Pv 1,Pv 2,Pv 3,Pv 4,Pv 5,(12,.v (.clo 163 [] [.fptr (cells x_1)])),Cv 13 xE1.1,Cv 14 xE1.2],[Xb 1 t0,(2,.box [cv (none:Option (bg 200 ay))]),Xb 3 (⟨0,0⟩:aa),(4,.box [iv 0]),(5,.box [.ptr 10 0]),Xb 10 qE1],[1,2,3,4,5],[],true,0⟩ [iv 0,iv 0] (by simp only[aH,vW,oA,p_,oJ,qz,si,qy,rm,oG,qn,wk,rP,rQ,rZ,rW,ua,tY,qb,rA];rfl) (Qw 4 7 ⟨[Pv 1,Pv 2,Pv 3,Pv 4,Pv 5,(12,.v (.clo 163 [] [.fptr (cells x_1)])),Cv 14 xE1.2,Pv 6],[Xb 1 t0,(2,.box [cv (none:Option (bg 200 ay))]),Xb 3 (⟨0,0⟩:aa),(4,.box [iv 0]),(5,.box [.ptr 10 0]),Xb 10 qE1,Xb 6 xE1.1],[1,2,3,4,5],[],true,0⟩ [iv 0,iv 0,iv 0,iv 0,.v .aR] (by simp only[aH,vW,oA,p_,oJ,qz,si,qy,rm,oG,qn,wk,rP,rQ,rZ,rW,ua,tY,qb,rA];rfl) (g_ 0 7 0 xE1.2 (BB 1 (aC 22 19 (DL 7 .i64 10 λx_2 h_2=>N2 2 1 false 10 qE1 xE1.2.message 1 x_2 h_2 (.int .i64 x_2.from_.index) (by rfl) (aC 3 28 af (DL 8 .i64 10 λx_3 h_3=>N6 1 10 qE1 xE1.2.message 0 x_3 h_3 (⟨xE1.1,x_3.to_⟩:ay) xE1.1 rfl af))) (aC 7 36 (DL 7 .i64 10 λx_4 h_4=>N2 2 1 false 10 qE1 xE1.2.message 3 x_4 h_4 (.int .i64 x_4.to_.index) (by rfl) (aC 3 45 af (aG 12 λx_5 _=>b9 3 54 (DL 8 .i64 10 λx_6 h_6=>N6 1 10 qE1 xE1.2.message 2 x_6 h_6 (⟨x_6.from_,xE1.1⟩:ay) xE1.1 rfl af) af))) af)))))) (λqE1=>SL 13 (aH [Pv 2,Pv 3,Pv 4] [(2,.box [.ptr 10 0]),Xb 3 (⟨0,0⟩:aa),(4,.box [iv 0]),Xb 10 qE1]) [.ptr 10 0,cv (⟨0,0⟩:aa),iv 0] (PT (d:=10) (x:=qE1) (vs:=[enc (⟨0,0⟩:aa),.int .i64 0]) (by kernel_rfl)) (by kernel_rfl)) (λx=>Empty.elim x) (λeE1=>af)))))
namespace gU
def J1 (lq1:bg 200 ay) (out7:Sl aa) (p8:Sl Event) (xb5:aa):Option (Sl aa):=
 (idx p8 (IntKind.wrap .i64 (xb5.index-1))).bind λx_2=>
 (aj (x_2.kind==2)
 ((bg.at lq1 x_2.message).bind λx_3=>
 some (decide (x_3.to_.index>0)))
 (some false):Option Bool).bind λx_4=>
 aj x_4
 ((bg.at lq1 x_2.message).bind λx_5=>
 (fP out7 (x_5.to_:aa)).bind λx_6=>
 some x_6)
 (some out7)
theorem vf (lq1:bg 200 ay) (out7:Sl aa) (p8:Sl Event) (xb5:aa):Le ((J1 lq1 out7 p8 xb5).bind (λr=>some [enc r])) (bA Sy cL (pO (tr Tx 168)) (tv (tb Tx 168) [1,1,1,1,0,0] [] (aH [Kv 1 lq1,Pv 5,Ov 7,Cv 8 p8] [Xb 5 xb5,Lb 2007 out7]))):=
 aS 7 λx_2 _=>g_ 2 9 0 x_2 (aX 8 10 [40] 50 (aC 8 40 (ND 4 .i64 λx_3 h_3=>MA 0 2 lq1 x_2.message 0 x_3 h_3 (MA 0 1 lq1 x_2.message 2 x_3 h_3 (NF 0 1 false lq1 x_2.message 3 x_3 h_3 (.int .i64 x_3.to_.index) (by rfl) (aA 2)))) (aA 10)) λx_4=>aC 2 50 (ND 7 .i64 λx_5 h_5=>MA 0 2 lq1 x_2.message 0 x_5 h_5 (NF 0 2 true lq1 x_2.message 2 x_5 h_5 (enc x_5.to_) (by rfl) (oR 1 2007 59 60 λx_6 _=>af))) af)
end gU
def gU (t0:Trace) (l1:bg 200 ay) (x2:aa):Option (Sl aa):=
 (idx t0.procs x2.proc).bind λx_1=>
 aj (decide (x2.index<(len x_1.events)))
 (gU.J1 l1 (Sl.row [⟨x2.proc,IntKind.wrap .i64 (x2.index+1)⟩]:Sl aa) x_1.events x2)
 (gU.J1 l1 (Sl.nil:Sl aa) x_1.events x2)
open gU in
instance Qs (t0:Trace) (l1:bg 200 ay) (x2:aa):Fc Sy cL (gU t0 l1 x2):=Fc.N 168 [enc t0,.fptr (cells l1),enc x2] (bE 2 3 t0 (aS 15 λx_1 _=>aN 11 x_1.events (aC 3 21 (NO 10 29 30 .aR (⟨x2.proc,IntKind.wrap .i64 (x2.index+1)⟩:aa) (Cd 5 (vf l1 (Sl.row [⟨x2.proc,IntKind.wrap .i64 (x2.index+1)⟩]:Sl aa) x_1.events x2))) (Cd 5 (vf l1 (Sl.nil:Sl aa) x_1.events x2)))))
namespace dY
def cI (vk0_13:Trace) (v36:Sl aa) (v37:Int) (tb2:Trace) (lb3:bg 200 ay) (vb4:aa) (vb5:Bool) (idb6:aa) (rest8:Sl aa) (v38:Int) (vb16:Mo aa Bool):Option (Fw ((Sl aa)×Int×(Mo aa Bool)) ((Sl aa)×(Mo aa Bool)) Unit):=
 aj (decide (v38<v37))
 ((idx v36 v38).bind λx_6=>
 aj (GR x_6 idb6)
 (some (.r ()))
 (aj (BW vb16 x_6 false)
 (some (.n (rest8,IntKind.wrap .i64 (v38+1),vb16)))
 ((fP rest8 (x_6:aa)).bind λx_7=>
 some (.n (x_7,IntKind.wrap .i64 (v38+1),pQ vb16 x_6 true)))))
 (some (.x (rest8,vb16)))
def W3 (rest8:Sl aa) (vk0_13:Trace) (v36:Sl aa) (v37 v38:Int) (tb2:Trace) (lb3:bg 200 ay) (vb4:aa) (vb5:Bool) (idb6:aa) (vb16:Mo aa Bool):Option (Fw ((Sl aa)×(Mo aa Bool)) Unit Unit):=
 (aK (λq:(Sl aa)×Int×(Mo aa Bool)=>cI vk0_13 v36 v37 tb2 lb3 vb4 vb5 idb6 q.1 q.2.1 q.2.2) (rest8,v38,vb16)).bind (Fw.elim
 (λe=>some (.n (e.1,e.2)))
 (λe=>some (.r ())))
def aY (vk0_13 tb2:Trace) (lb3:bg 200 ay) (vb4:aa) (vb5:Bool) (idb6:aa) (rest8:Sl aa) (vb16:Mo aa Bool):Option (Fw ((Sl aa)×(Mo aa Bool)) Unit Unit):=
 aj (decide ((len rest8)>0))
 ((Sl.mw rest8 (IntKind.wrap .i64 ((len rest8)-1))).bind λx_2=>
 (Sl.get rest8 x_2).bind λx_3=>
 (mU rest8 none (some (IntKind.wrap .i64 ((len rest8)-1)))).bind λx_4=>
 (gU tb2 lb3 x_3).bind λx_5=>
 W3 x_4 vk0_13 x_5 (len x_5) 0 tb2 lb3 vb4 vb5 idb6 vb16)
 (some (.x ()))
def W2 (rest8:Sl aa) (vk0_13 tb2:Trace) (lb3:bg 200 ay) (vb4:aa) (vb5:Bool) (idb6:aa) (vb16:Mo aa Bool):Option (Fw Unit Empty aa):=
 (aK (λq:(Sl aa)×(Mo aa Bool)=>aY vk0_13 tb2 lb3 vb4 vb5 idb6 q.1 q.2) (rest8,vb16)).bind (Fw.elim
 (λe=>some (.n ()))
 (λe=>some (.r idb6)))
def qG (vk0_13 tb2:Trace) (lb3:bg 200 ay) (vb4:aa) (vb5:Bool) (x:aa×Event):Option (Fw Unit Empty aa):=
 W2 (Sl.row [x.1]:Sl aa) vk0_13 tb2 lb3 vb4 vb5 x.1 []
def E1 (vk0_13 tb2:Trace) (lb3:bg 200 ay) (vb4:aa) (vb5:Bool):Option (aa×Bool):=
 (gQ vk0_13).bind λits=>(mL (λ(x:aa×Event) (q:Unit)=>qG vk0_13 tb2 lb3 vb4 vb5 x) its ()).bind (Fw.u5
 (λq=>some (⟨0,0⟩,false))
 (λe=>Empty.elim e)
 (λe=>some (e,true)))
end dY
def dY (t0:Trace) (l1:bg 200 ay):Option (aa×Bool):=
 (iR t0).bind λx_1=>
 dY.E1 x_1 t0 l1 (⟨0,0⟩:aa) false
open dY in
instance PS (t0:Trace) (l1:bg 200 ay):Fc Sy cL (dY t0 l1):=Fc.M 143 [enc t0,.fptr (cells l1)] (bE 2 2 t0 (aG 9 λx_1 _=>HB λits hits=>DJ 4 [Pv 2,Pv 3,Pv 4,Pv 5,(13,.v (.clo 163 [] [.fptr (cells x_1)]))] (λqE1=>[Xb 2 t0,(3,.box [cp l1]),Xb 4 (⟨0,0⟩:aa),(5,.box [bv false])]) (λeE1=>Empty.elim eE1) (λeE1=>[Xb 2 t0,(3,.box [cp l1]),Xb 4 eE1,(5,.box [bv true])]) (w6 x_1 its hits) (λxE1 qE1=>BB 4 (bS 18 (λqW2=>⟨[Pv 2,Pv 3,Pv 4,Pv 5,Pv 6,(7,.mp 16),Ov 8,(13,.v (.clo 163 [] [.fptr (cells x_1)]))],[Xb 2 t0,(3,.box [cp l1]),Xb 4 (⟨0,0⟩:aa),(5,.box [bv false]),Xb 6 xE1.1,(16,uv qW2.2),Lb 2008 qW2.1],[2,3,4,5],[],true,0⟩) (λeW2=>(2,⟨[Pv 2,Pv 3,Pv 4,Pv 5,(13,.v (.clo 163 [] [.fptr (cells x_1)]))],[Xb 2 t0,(3,.box [cp l1]),Xb 4 (⟨0,0⟩:aa),(5,.box [bv false])],[2,3,4,5],[],true,0⟩)) (λeW2=>⟨[],[Xb 2 t0,(3,.box [cp l1]),Xb 4 xE1.1,(5,.box [bv true])],[2,3,4,5],[],true,0⟩) (λqW2=>DQ 6 2008 qW2.1 (aC 3 21 (DQ 8 2008 qW2.1 (nN .i64 1 2008 λx_2 _=>uM 0 2008 0 2 true (λx_3=>.agg [.int .i64 x_3.proc,.int .i64 x_3.index]) λx_3 _=>DQ 8 2008 qW2.1 (SA 1 false true 2008 32 [.int .i64 (IntKind.wrap .i64 ((len qW2.1)-1))] λx_4 _=>aG 8 λx_5 _=>aN 0 x_5 (bS 6 (λqW3=>⟨[Pv 2,Pv 3,Pv 4,Pv 5,Pv 6,(7,.mp 16),Ov 8,(13,.v (.clo 163 [] [.fptr (cells x_1)])),Cv 36 x_5,Iv 37 (len x_5),Iv 38 qW3.2.1],[Xb 2 t0,(3,.box [cp l1]),Xb 4 (⟨0,0⟩:aa),(5,.box [bv false]),Xb 6 xE1.1,(16,uv qW3.2.2),Lb 2008 qW3.1],[2,3,4,5],[],true,0⟩) (λeW3=>(4,⟨[Pv 2,Pv 3,Pv 4,Pv 5,Pv 6,(7,.mp 16),Ov 8,(13,.v (.clo 163 [] [.fptr (cells x_1)]))],[Xb 2 t0,(3,.box [cp l1]),Xb 4 (⟨0,0⟩:aa),(5,.box [bv false]),Xb 6 xE1.1,(16,uv eW3.2),Lb 2008 eW3.1],[2,3,4,5],[],true,0⟩)) (λeW3=>⟨[],[Xb 2 t0,(3,.box [cp l1]),Xb 4 xE1.1,(5,.box [bv true])],[2,3,4,5],[],true,0⟩) (λqW3=>aC 8 39 (aS 7 λx_6 _=>aC 13 44 af (S4 7 16 qW3.2.2 x_6 false (b9 3 49 af (TN 5 16 qW3.2.2 x_6 true (oR 6 2008 54 55 λx_7 _=>af))))) af) (λeW3=>af) (λeW3=>af))))) af)) (λeW2=>af) (λeW2=>af))) (λqE1=>af) (λx=>Empty.elim x) (λeE1=>af)))
namespace fE
def GX (vk0_36 tb1:Trace) (vb2:aa) (vb3:Int) (x:aa×Event):Option (Fw Unit Empty (aa×Int)):=
 (cw tb1 x.1 x.2).bind λx_3=>
 aj (x_3==0)
 (some (.n ()))
 (some (.r (x.1,x_3)))
def E2 (vk0_36 tb1:Trace) (vb2:aa) (vb3:Int):Option (aa×Int):=
 (gQ vk0_36).bind λits=>(mL (λ(x:aa×Event) (q:Unit)=>GX vk0_36 tb1 vb2 vb3 x) its ()).bind (Fw.u5
 (λq=>(c9 tb1).bind λx_5=>
 aj (x_5.2.2==0)
 ((x_5.1).bind λx_6=>
 (dY tb1 x_6).bind λx_7=>
 aj x_7.2
 (some (x_7.1,10))
 (some (⟨0,0⟩,0)))
 (some (x_5.2.1,x_5.2.2)))
 (λe=>Empty.elim e)
 (λe=>some (e.1,e.2)))
def an (v22:Int) (tb1:Trace) (vb2:aa) (vb3:Int) (v23:Int):Option (Fw Int Unit (aa×Int)):=
 aj (decide (v23<v22))
 ((c_ tb1 v23).bind λx_2=>
 aj (x_2==0)
 (some (.n (IntKind.wrap .i64 (v23+1))))
 (some (.r ((⟨v23,0⟩:aa),x_2))))
 (some (.x ()))
def W1 (v22 v23:Int) (tb1:Trace) (vb2:aa) (vb3:Int):Option (aa×Int):=
 (aK (λq:Int=>an v22 tb1 vb2 vb3 q) v23).bind (Fw.elim
 (λe=>(iR tb1).bind λx_4=>
 fE.E2 x_4 tb1 vb2 vb3)
 (λe=>some (e.1,e.2)))
end fE
def fE (t0:Trace):Option (aa×Int):=
 (lG (len t0.procs) 1 8).bind λx_1=>
 aj x_1
 (fE.W1 (len t0.procs) 0 t0 (⟨0,0⟩:aa) 0)
 (some (⟨0,0⟩,1))
open fE in
instance Qh (t0:Trace):Fc Sy cL (fE t0):=Fc.M 113 [enc t0] (bE 2 1 t0 (aN 9 t0.procs (aG 0 λx_1 _=>b9 3 18 (aN 8 t0.procs (bS 5 (λqW1=>(aH [Pv 1,Pv 2,Pv 3,Iv 22 (len t0.procs),Iv 23 qW1] [Xb 1 t0,Xb 2 (⟨0,0⟩:aa),(3,.box [iv 0])])) (λeW1=>(0,(aH [Pv 1,Pv 2,Pv 3] [Xb 1 t0,Xb 2 (⟨0,0⟩:aa),(3,.box [iv 0])]))) (λeW1=>(aH [Pv 2,Pv 3] [Xb 2 eW1.1,(3,.box [iv eW1.2])])) (λqW1=>aC 7 24 (aG 15 λx_2 _=>b9 9 30 af af) af) (λeW1=>aG 6 λx_4 _=>HB λits hits=>DJ 4 [Pv 1,Pv 2,Pv 3,(36,.v (.clo 163 [] [.fptr (cells x_4)]))] (λqE2=>[Xb 1 t0,Xb 2 (⟨0,0⟩:aa),(3,.box [iv 0])]) (λeE2=>Empty.elim eE2) (λeE2=>[Xb 1 t0,Xb 2 eE2.1,(3,.box [iv eE2.2])]) (w6 x_4 its hits) (λxE2 qE2=>g_ 8 7 0 xE2.2 (BB 1 (aG 7 λx_3 _=>b9 9 44 af af))) (λqE2=>aG 5 λx_5 _=>b9 17 54 (TB 8 (λoo=>(aH [Pv 2,Pv 3,(36,.v (.clo 163 [] [.fptr (cells x_4)])),Pv 10,Iv 11 x_5.2.2,Bv 54 false,Cv 58 t0,Cv 59 oo] [Xb 1 t0,Xb 2 (⟨0,0⟩:aa),(3,.box [iv 0]),Xb 10 x_5.2.1])) λx_6 _=>aG 0 λx_7 _=>aC 13 63 af af) af) (λx=>Empty.elim x) (λeE2=>af)) (λeW1=>af))) af)))
def di (t0:Trace):Option Bool:=
 (fE t0).bind λx_1=>
 some (x_1.2==0)
instance Qo (t0:Trace):Fc Sy cL (di t0):=Fc.M 77 [enc t0] (bE 2 1 t0 (aG 6 λx_1 _=>af))
def mb (c0:Sl Int) (v1:Trace):Option Bool:=
 some (!((len c0)==(len v1.procs)))
instance PU (c0:Sl Int) (v1:Trace):Fc Sy cL (mb c0 v1):=Fc.M 151 [enc c0,.fptr (cells v1)] (aN 8 c0 (aN 2 v1.procs af))
def xN (t0:Trace) (l1:Sl (Sl Int)):Option Bool:=
 (di t0).bind λx_1=>
 (aj x_1
 ((gi l1 (λz=>mb z t0)).bind λx_2=>
 some (!x_2))
 (some false):Option Bool).bind λx_3=>
 some x_3
instance R2 (t0:Trace) (l1:Sl (Sl Int)):Fc Sy cL (xN t0 l1):=Fc.M 126 [enc t0,enc l1] (bE 2 2 t0 (aG 6 λx_1 _=>aX 1 5 [1,2,7] 12 (aC 1 7 (fq (F:=mS 151 [.fptr (cells t0)] (λz=>mb z t0) ki.tB l1) 2 λx_2 _=>aA 2) (aA 5)) λx_3=>af))
namespace iL
def an (v7:Sl Int) (v8:Int) (tb2:Trace) (v9:Int):Option (Fw Int Unit Unit):=
 aj (decide (v9<v8))
 ((idx v7 v9).bind λx_1=>
 (aj (decide (x_1<0))
 (some true)
 ((idx tb2.procs v9).bind λx_2=>
 some (decide (x_1>(len x_2.events)))):Option Bool).bind λx_3=>
 aj x_3
 (some (.r ()))
 (some (.n (IntKind.wrap .i64 (v9+1)))))
 (some (.x ()))
def W1 (v7:Sl Int) (v8 v9:Int) (tb2:Trace):Option Bool:=
 (aK (λq:Int=>an v7 v8 tb2 q) v9).bind (Fw.elim
 (λe=>some true)
 (λe=>some false))
end iL
def iL (t0:Trace) (c1:Sl Int):Option Bool:=
 iL.W1 c1 (len c1) 0 t0
open iL in
instance Qc (t0:Trace) (c1:Sl Int):Fc Sy cL (iL t0 c1):=Fc.M 127 [enc t0,enc c1] (bE 2 2 t0 (aN 7 c1 (bS 5 (λqW1=>(aH [Pv 2,Cv 7 c1,Iv 8 (len c1),Iv 9 qW1] [Xb 2 t0])) (λeW1=>(0,(aH [] []))) (λeW1=>(aH [Bv 4 false] [])) (λqW1=>aC 7 10 (aS 8 λx_1 _=>aX 10 10 [5,6,16] 26 (aC 10 16 (aA 10) (aS 4 λx_2 _=>aN 2 x_2.events (aA 2))) λx_3=>aC 2 26 af af) af) (λeW1=>af) (λeW1=>af))))
def zO (t0:Trace) (p1:Int):Option Bool:=
 (aj (decide (p1>=0))
 (some (decide (p1<(len t0.procs))))
 (some false):Option Bool).bind λx_1=>
 some x_1
instance Qv (t0:Trace) (p1:Int):Fc Sy cL (zO t0 p1):=Fc.M 128 [enc t0,.int .i64 p1] (bE 2 2 t0 (aX 8 6 [1,2,7] 13 (aC 8 7 (aN 3 t0.procs (aA 2)) (aA 6)) λx_1=>af))
namespace jZ
def qG (vk0_15:Trace) (kindb4 mb5:Int) (vb6:aa) (vb7:Bool) (x:aa×Event):Option (Fw Unit Empty aa):=
 (aj (x.2.kind==kindb4)
 (some (x.2.message==mb5))
 (some false):Option Bool).bind λx_3=>
 aj x_3
 (some (.r x.1))
 (some (.n ()))
def E1 (vk0_15:Trace) (kindb4 mb5:Int) (vb6:aa) (vb7:Bool):Option (aa×Bool):=
 (gQ vk0_15).bind λits=>(mL (λ(x:aa×Event) (q:Unit)=>qG vk0_15 kindb4 mb5 vb6 vb7 x) its ()).bind (Fw.u5
 (λq=>some (⟨0,0⟩,false))
 (λe=>Empty.elim e)
 (λe=>some (e,true)))
end jZ
def jZ (t0:Trace) (kind1 m2:Int):Option (aa×Bool):=
 (di t0).bind λx_1=>
 aj x_1
 ((iR t0).bind λx_2=>
 jZ.E1 x_2 kind1 m2 (⟨0,0⟩:aa) false)
 (some (⟨0,0⟩,false))
open jZ in
instance QL (t0:Trace) (kind1 m2:Int):Fc Sy cL (jZ t0 kind1 m2):=Fc.M 189 [enc t0,.int .i64 kind1,.int .i64 m2] (bE 2 3 t0 (aG 10 λx_1 _=>b9 3 12 (aG 7 λx_2 _=>HB λits hits=>DJ 4 [Pv 4,Pv 5,Pv 6,Pv 7,(15,.v (.clo 163 [] [.fptr (cells x_2)]))] (λqE1=>[(4,.box [iv kind1]),(5,.box [iv m2]),Xb 6 (⟨0,0⟩:aa),(7,.box [bv false])]) (λeE1=>Empty.elim eE1) (λeE1=>[(4,.box [iv kind1]),(5,.box [iv m2]),Xb 6 eE1,(7,.box [bv true])]) (w6 x_2 its hits) (λxE1 qE1=>g_ 8 9 0 xE1.2 (BB 1 (aX 9 5 [9,22] 27 (aC 9 22 (aA 5) (aA 5)) λx_3=>aC 2 27 af af))) (λqE1=>af) (λx=>Empty.elim x) (λeE1=>af)) af))
def qS (t0:Trace) (m1:Int):Option (aa×Bool):=
 (jZ t0 2 m1).bind λx_1=>
 some (x_1.1,x_1.2)
instance OC (t0:Trace) (m1:Int):Fc Sy cL (qS t0 m1):=Fc.M 172 [enc t0,.int .i64 m1] (bE 2 2 t0 (aG 8 λx_1 _=>af))
namespace fF
def aY (c1:Sl Int) (p7:Int) (v13:Sl Int) (v14 v15:Int) (v27:Sl Event) (v28:Int) (tb2:Trace) (sendb4 receiveb5:aa) (v29:Int):Option (Fw Int Unit (aa×aa)):=
 aj (decide (v29<v28))
 ((idx v27 v29).bind λx_4=>
 aj (x_4.kind==3)
 ((qS tb2 x_4.message).bind λx_5=>
 (idx c1 x_5.1.proc).bind λx_6=>
 aj (decide (x_5.1.index>x_6))
 (some (.r (x_5.1,(⟨p7,IntKind.wrap .i64 (v29+1)⟩:aa))))
 (some (.n (IntKind.wrap .i64 (v29+1)))))
 (some (.n (IntKind.wrap .i64 (v29+1)))))
 (some (.x ()))
def W2 (c1:Sl Int) (p7:Int) (v13:Sl Int) (v14 v15:Int) (v27:Sl Event) (v28 v29:Int) (tb2:Trace) (sendb4 receiveb5:aa):Option (Fw Int Unit (aa×aa)):=
 (aK (λq:Int=>aY c1 p7 v13 v14 v15 v27 v28 tb2 sendb4 receiveb5 q) v29).bind (Fw.elim
 (λe=>some (.n (IntKind.wrap .i64 (v15+1))))
 (λe=>some (.r (e.1,e.2))))
def an (c1 v13:Sl Int) (v14:Int) (tb2:Trace) (sendb4 receiveb5:aa) (v15:Int):Option (Fw Int Unit (aa×aa)):=
 aj (decide (v15<v14))
 ((idx v13 v15).bind λx_1=>
 (idx tb2.procs v15).bind λx_2=>
 (eO x_2.events none (some x_1)).bind λx_3=>
 W2 c1 v15 v13 v14 v15 x_3 (len x_3) 0 tb2 sendb4 receiveb5)
 (some (.x ()))
def W1 (c1 v13:Sl Int) (v14 v15:Int) (tb2:Trace) (sendb4 receiveb5:aa):Option (aa×aa×Bool):=
 (aK (λq:Int=>an c1 v13 v14 tb2 sendb4 receiveb5 q) v15).bind (Fw.elim
 (λe=>some (⟨0,0⟩,⟨0,0⟩,false))
 (λe=>some (e.1,e.2,true)))
end fF
def fF (t0:Trace) (c1:Sl Int):Option (aa×aa×Bool):=
 fF.W1 c1 c1 (len c1) 0 t0 (⟨0,0⟩:aa) (⟨0,0⟩:aa)
open fF in
instance Qd (t0:Trace) (c1:Sl Int):Fc Sy cL (fF t0 c1):=Fc.M 152 [enc t0,enc c1] (bE 2 2 t0 (aN 9 c1 (bS 5 (λqW1=>(aH [Cv 1 c1,Pv 2,Pv 4,Pv 5,Cv 13 c1,Iv 14 (len c1),Iv 15 qW1] [Xb 2 t0,Xb 4 (⟨0,0⟩:aa),Xb 5 (⟨0,0⟩:aa)])) (λeW1=>(0,(aH [Pv 4,Pv 5] [Xb 4 (⟨0,0⟩:aa),Xb 5 (⟨0,0⟩:aa)]))) (λeW1=>(aH [Pv 4,Pv 5,Bv 6 true] [Xb 4 eW1.1,Xb 5 eW1.2])) (λqW1=>aC 7 16 (aS 8 λx_1 _=>aS 10 λx_2 _=>AH 3 false true [.int .i64 x_1] λx_3 _=>aN 0 x_3 (bS 5 (λqW2=>(aH [Cv 1 c1,Pv 2,Pv 4,Pv 5,Iv 7 qW1,Cv 13 c1,Iv 14 (len c1),Iv 15 qW1,Cv 27 x_3,Iv 28 (len x_3),Iv 29 qW2] [Xb 2 t0,Xb 4 (⟨0,0⟩:aa),Xb 5 (⟨0,0⟩:aa)])) (λeW2=>(2,(aH [Cv 1 c1,Pv 2,Pv 4,Pv 5,Cv 13 c1,Iv 14 (len c1),Iv 15 qW1] [Xb 2 t0,Xb 4 (⟨0,0⟩:aa),Xb 5 (⟨0,0⟩:aa)]))) (λeW2=>(aH [Pv 4,Pv 5,Bv 6 true] [Xb 4 eW2.1,Xb 5 eW2.2])) (λqW2=>aC 7 30 (aS 8 λx_4 _=>g_ 3 10 0 x_4 (b9 10 36 (aG 8 λx_5 _=>aS 15 λx_6 _=>aC 4 51 af af) af)) af) (λeW2=>af) (λeW2=>af))) af) (λeW1=>af) (λeW1=>af))))
def wL (t0:Trace) (c1:Sl Int):Option Bool:=
 (fF t0 c1).bind λx_1=>
 some (!x_1.2.2)
instance Rr (t0:Trace) (c1:Sl Int):Fc Sy cL (wL t0 c1):=Fc.M 129 [enc t0,enc c1] (bE 2 2 t0 (aG 7 λx_1 _=>af))
namespace dZ
def cI (v39:Sl (Sl Int)) (v40:Int) (tb3:Trace) (v41:Int):Option (Fw Int Unit Unit):=
 aj (decide (v41<v40))
 ((idx v39 v41).bind λx_6=>
 (wL tb3 x_6).bind λx_7=>
 aj x_7
 (some (.n (IntKind.wrap .i64 (v41+1))))
 (some (.r ())))
 (some (.x ()))
def W3 (v39:Sl (Sl Int)) (v40 v41:Int) (tb3:Trace):Option Int:=
 (aK (λq:Int=>cI v39 v40 tb3 q) v41).bind (Fw.elim
 (λe=>some 0)
 (λe=>some 18))
def aY (l1:Sl (Sl Int)) (v28:Sl Int) (v29:Int) (tb3:Trace) (v30:Int):Option (Fw Int Unit Unit):=
 aj (decide (v30<v29))
 ((idx v28 v30).bind λx_4=>
 (zO tb3 x_4).bind λx_5=>
 aj x_5
 (some (.n (IntKind.wrap .i64 (v30+1))))
 (some (.r ())))
 (some (.x ()))
def W2 (l1:Sl (Sl Int)) (v28:Sl Int) (v29 v30:Int) (tb3:Trace):Option Int:=
 (aK (λq:Int=>aY l1 v28 v29 tb3 q) v30).bind (Fw.elim
 (λe=>dZ.W3 l1 (len l1) 0 tb3)
 (λe=>some 2))
def an (l1:Sl (Sl Int)) (procs2:Sl Int) (v17:Sl (Sl Int)) (v18:Int) (tb3:Trace) (v19:Int):Option (Fw Int Unit Unit):=
 aj (decide (v19<v18))
 ((idx v17 v19).bind λx_2=>
 (iL tb3 x_2).bind λx_3=>
 aj x_3
 (some (.n (IntKind.wrap .i64 (v19+1))))
 (some (.r ())))
 (some (.x ()))
def W1 (l1:Sl (Sl Int)) (procs2:Sl Int) (v17:Sl (Sl Int)) (v18 v19:Int) (tb3:Trace):Option Int:=
 (aK (λq:Int=>an l1 procs2 v17 v18 tb3 q) v19).bind (Fw.elim
 (λe=>dZ.W2 l1 procs2 (len procs2) 0 tb3)
 (λe=>some 2))
end dZ
def dZ (t0:Trace) (l1:Sl (Sl Int)) (procs2:Sl Int):Option Int:=
 (xN t0 l1).bind λx_1=>
 aj x_1
 (dZ.W1 l1 procs2 l1 (len l1) 0 t0)
 (some 1)
open dZ in
instance R1 (t0:Trace) (l1:Sl (Sl Int)) (procs2:Sl Int):Fc Sy cL (dZ t0 l1 procs2):=Fc.M 105 [enc t0,enc l1,enc procs2] (bE 2 3 t0 (aG 8 λx_1 _=>b9 3 16 (aN 7 l1 (bS 5 (λqW1=>(aH [Cv 1 l1,Cv 2 procs2,Pv 3,Cv 17 l1,Iv 18 (len l1),Iv 19 qW1] [Xb 3 t0])) (λeW1=>(0,(aH [Cv 1 l1,Cv 2 procs2,Pv 3] [Xb 3 t0]))) (λeW1=>(aH [Iv 6 2] [])) (λqW1=>aC 7 20 (aS 7 λx_2 _=>aG 8 λx_3 _=>b9 3 26 af af) af) (λeW1=>aN 6 procs2 (bS 5 (λqW2=>(aH [Cv 1 l1,Pv 3,Cv 28 procs2,Iv 29 (len procs2),Iv 30 qW2] [Xb 3 t0])) (λeW2=>(2,(aH [Cv 1 l1,Pv 3] [Xb 3 t0]))) (λeW2=>(aH [Iv 6 2] [])) (λqW2=>aC 7 31 (aS 7 λx_4 _=>aG 8 λx_5 _=>b9 3 37 af af) af) (λeW2=>aN 6 l1 (bS 5 (λqW3=>(aH [Pv 3,Cv 39 l1,Iv 40 (len l1),Iv 41 qW3] [Xb 3 t0])) (λeW3=>(4,(aH [] []))) (λeW3=>(aH [Iv 6 18] [])) (λqW3=>aC 7 42 (aS 7 λx_6 _=>aG 8 λx_7 _=>b9 3 48 af af) af) (λeW3=>af) (λeW3=>af))) (λeW2=>af))) (λeW1=>af))) af))
def jk (t0:Trace) (c1:Sl Int):Option Bool:=
 (dZ t0 (Sl.row [c1]:Sl (Sl Int)) (Sl.nil:Sl Int)).bind λx_1=>
 some (x_1==0)
instance Ly (t0:Trace) (c1:Sl Int):Fc Sy cL (jk t0 c1):=Fc.M 65 [enc t0,enc c1] (bE 2 2 t0 (s6 7 7 ([c1]:List (Sl Int)) (fq 0 λx_1 _=>af)))
namespace iC
def an (a0 b1:Sl Int) (v12:Int) (v13:Int):Option (Fw Int Unit Unit):=
 aj (decide (v13<v12))
 ((idx a0 v13).bind λx_1=>
 (idx b1 v13).bind λx_2=>
 aj (decide (x_1>x_2))
 (some (.r ()))
 (some (.n (IntKind.wrap .i64 (v13+1)))))
 (some (.x ()))
def W1 (a0 b1:Sl Int) (v12 v13:Int):Option Bool:=
 (aK (λq:Int=>an a0 b1 v12 q) v13).bind (Fw.elim
 (λe=>some true)
 (λe=>some false))
end iC
def iC (a0 b1:Sl Int):Option Bool:=
 aj ((len a0)==(len b1))
 (iC.W1 a0 b1 (len a0) 0)
 (some false)
open iC in
instance Tf (a0 b1:Sl Int):Fc Sy cL (iC a0 b1):=Fc.M 82 [enc a0,enc b1] (aN 9 a0 (aN 1 b1 (b9 3 10 (aN 7 a0 (bS 5 (λqW1=>(aH [Cv 0 a0,Cv 1 b1,Iv 12 (len a0),Iv 13 qW1] [])) (λeW1=>(0,(aH [] []))) (λeW1=>(aH [Bv 4 false] [])) (λqW1=>aC 7 14 (aS 15 λx_1 _=>aS 3 λx_2 _=>aC 4 24 af af) af) (λeW1=>af) (λeW1=>af))) af)))
namespace fV
def an (v37:Sl (Sl (Sl Int))) (v38:Int) (tb2:Trace) (v39:Int):Option (Fw Int Unit Unit):=
 aj (decide (v39<v38))
 ((idx v37 v39).bind λx_7=>
 (idx tb2.procs v39).bind λx_8=>
 aj ((len x_7)==(len x_8.events))
 (some (.n (IntKind.wrap .i64 (v39+1))))
 (some (.r ())))
 (some (.x ()))
def W1 (v37:Sl (Sl (Sl Int))) (v38 v39:Int) (tb2:Trace):Option Bool:=
 (aK (λq:Int=>an v37 v38 tb2 q) v39).bind (Fw.elim
 (λe=>some true)
 (λe=>some false))
end fV
def fV (t0:Trace) (s1:Slice):Option Bool:=
 (jk t0 s1.first).bind λx_1=>
 (aj x_1
 ((jk t0 s1.last).bind λx_2=>
 some (!x_2))
 (some true):Option Bool).bind λx_3=>
 (aj x_3
 (some true)
 ((iC s1.first s1.last).bind λx_4=>
 some (!x_4)):Option Bool).bind λx_5=>
 (aj x_5
 (some true)
 (some (!((len s1.j)==(len t0.procs)))):Option Bool).bind λx_6=>
 aj x_6
 (some false)
 (fV.W1 s1.j (len s1.j) 0 t0)
open fV in
instance O8 (t0:Trace) (s1:Slice):Fc Sy cL (fV t0 s1):=Fc.M 99 [enc t0,enc s1] (bE 2 2 t0 (bE 0 3 s1 (aG 9 λx_1 _=>aX 2 6 [12] 18 (b9 2 12 (aG 3 λx_2 _=>aA 2) (aA 6)) λx_3=>aX 1 7 [19] 26 (aC 1 19 (aA 7) (aG 4 λx_4 _=>aA 2)) λx_5=>aX 1 8 [27] 35 (aC 1 27 (aA 8) (aN 2 s1.j (aN 2 t0.procs (aA 2)))) λx_6=>aC 2 35 af (aN 8 s1.j (bS 5 (λqW1=>(aH [Pv 2,Cv 37 s1.j,Iv 38 (len s1.j),Iv 39 qW1] [Xb 2 t0])) (λeW1=>(0,(aH [] []))) (λeW1=>(aH [Bv 4 false] [])) (λqW1=>aC 7 40 (aS 8 λx_7 _=>aN 8 x_7 (aS 3 λx_8 _=>aN 2 x_8.events (b9 3 53 af af))) af) (λeW1=>af) (λeW1=>af))))))
namespace fH
def an (v7:Sl bt) (v8:Int) (out3:Sl Int) (v9:Int):Option (Fw ((Sl Int)×Int) (Sl Int) Empty):=
 aj (decide (v9<v8))
 ((idx v7 v9).bind λx_1=>
 (fP out3 (len x_1.events:Int)).bind λx_2=>
 some (.n (x_2,IntKind.wrap .i64 (v9+1))))
 (some (.x out3))
def W1 (out3:Sl Int) (v7:Sl bt) (v8 v9:Int):Option (Sl Int):=
 (aK (λq:(Sl Int)×Int=>an v7 v8 q.1 q.2) (out3,v9)).bind (Fw.elim
 (λe=>some e)
 (λe=>Empty.elim e))
end fH
def fH (t0:Trace):Option (Sl Int):=
 fH.W1 (Sl.nil:Sl Int) t0.procs (len t0.procs) 0
open fH in
instance Qm (t0:Trace):Fc Sy cL (fH t0):=Fc.N 100 [enc t0] (bE 2 1 t0 (aN 13 t0.procs (fL 6 (λqW1=>(aH [Ov 3,Cv 7 t0.procs,Iv 8 (len t0.procs),Iv 9 qW1.2] [Lb 2003 qW1.1])) (λeW1=>(0,(aH [Ov 3] [Lb 2003 eW1]))) (λqW1=>aC 8 10 (aS 7 λx_1 _=>g_ 2 5 0 x_1 (aN 6 x_1.events (oR 1 2003 17 18 λx_2 _=>af))) af) (λeW1=>af))))
def kR (s0:Slice) (x1:aa):Option (Sl Int):=
 (idx s0.j x1.proc).bind λx_1=>
 (idx x_1 (IntKind.wrap .i64 (x1.index-1))).bind λx_2=>
 some x_2
instance NZ (s0:Slice) (x1:aa):Fc Sy cL (kR s0 x1):=Fc.N 73 [enc s0,enc x1] (bE 2 2 s0 (aS 10 λx_1 _=>aS 4 λx_2 _=>af))
def nZ (x0:aa) (c1:Sl Int):Option Bool:=
 (idx c1 x0.proc).bind λx_1=>
 some (decide (x0.index<=x_1))
instance Sx (x0:aa) (c1:Sl Int):Fc Sy cL (nZ x0 c1):=Fc.M 125 [enc x0,enc c1] (aS 13 λx_1 _=>af)
namespace dx
def an (s10 s21:Sl Int) (v12:Int) (v13:Int):Option (Fw Int Unit Unit):=
 aj (decide (v13<v12))
 ((idx s10 v13).bind λx_1=>
 (idx s21 v13).bind λx_2=>
 aj (x_1==x_2)
 (some (.n (IntKind.wrap .i64 (v13+1))))
 (some (.r ())))
 (some (.x ()))
def W1 (s10 s21:Sl Int) (v12 v13:Int):Option Bool:=
 (aK (λq:Int=>an s10 s21 v12 q) v13).bind (Fw.elim
 (λe=>some true)
 (λe=>some false))
end dx
def dx (s10 s21:Sl Int):Option Bool:=
 aj ((len s10)==(len s21))
 (dx.W1 s10 s21 (len s10) 0)
 (some false)
open dx in
instance Km (s10 s21:Sl Int):Fc Sy cL (dx s10 s21):=Fc.M 38 [enc s10,enc s21] (aN 9 s10 (aN 1 s21 (b9 3 10 (aN 7 s10 (bS 5 (λqW1=>(aH [Cv 0 s10,Cv 1 s21,Iv 12 (len s10),Iv 13 qW1] [])) (λeW1=>(0,(aH [] []))) (λeW1=>(aH [Bv 4 false] [])) (λqW1=>aC 7 14 (aS 15 λx_1 _=>aS 3 λx_2 _=>b9 4 24 af af) af) (λeW1=>af) (λeW1=>af))) af)))
def sM (t0:Trace) (s1:Slice) (x2:aa):Option Bool:=
 (kR s1 x2).bind λx_1=>
 (nZ x2 s1.last).bind λx_2=>
 aj x_2
 ((nZ x2 s1.first).bind λx_3=>
 aj x_3
 ((dx x_1 s1.first).bind λx_4=>
 some x_4)
 ((jk t0 x_1).bind λx_5=>
 (aj x_5
 ((nZ x2 x_1).bind λx_6=>
 some x_6)
 (some false):Option Bool).bind λx_7=>
 (aj x_7
 ((iC s1.first x_1).bind λx_8=>
 some x_8)
 (some false):Option Bool).bind λx_9=>
 (aj x_9
 ((iC x_1 s1.last).bind λx_10=>
 some x_10)
 (some false):Option Bool).bind λx_11=>
 some x_11))
 (some ((len x_1)==0))
instance Qu (t0:Trace) (s1:Slice) (x2:aa):Fc Sy cL (sM t0 s1 x2):=Fc.M 102 [enc t0,enc s1,enc x2] (bE 2 3 t0 (bE 0 4 s1 (aG 8 λx_1 _=>aG 10 λx_2 _=>b9 4 11 (aG 6 λx_3 _=>aC 3 20 (aG 6 λx_4 _=>af) (aG 8 λx_5 _=>aX 1 4 [5,32] 36 (aC 1 32 (aG 2 λx_6 _=>aA 1) (aA 4)) λx_7=>aX 1 5 [37] 42 (aC 1 37 (aG 3 λx_8 _=>aA 1) (aA 5)) λx_9=>aX 1 5 [4,7,43] 48 (aC 1 43 (aG 3 λx_10 _=>aA 1) (aA 5)) λx_11=>af)) (aN 4 x_1 af))))
def l_ (x0:aa) (v1:Trace) (v2:Slice):Option Bool:=
 (sM v1 v2 x0).bind λx_1=>
 some x_1
instance M0 (x0:aa) (v1:Trace) (v2:Slice):Fc Sy cL (l_ x0 v1 v2):=Fc.M 101 [enc x0,.fptr (cells v1),.fptr (cells v2)] (aG 11 λx_1 _=>af)
namespace dD
def aY (p5:Int) (v8:Sl Int) (v9 v10 v15:Int) (v16:Int) (p1:aa->Option Bool):Option (Fw Int Unit Unit):=
 aj (decide (v16<v15))
 ((p1 (⟨p5,IntKind.wrap .i64 (v16+1)⟩:aa)).bind λx_2=>
 aj x_2
 (some (.n (IntKind.wrap .i64 (v16+1))))
 (some (.r ())))
 (some (.x ()))
def W2 (p5:Int) (v8:Sl Int) (v9 v10 v15 v16:Int) (p1:aa->Option Bool):Option (Fw Int Unit Unit):=
 (aK (λq:Int=>aY p5 v8 v9 v10 v15 q p1) v16).bind (Fw.elim
 (λe=>some (.n (IntKind.wrap .i64 (v10+1))))
 (λe=>some (.r ())))
def an (v8:Sl Int) (v9:Int) (v10:Int) (p1:aa->Option Bool):Option (Fw Int Unit Unit):=
 aj (decide (v10<v9))
 ((idx v8 v10).bind λx_1=>
 W2 v10 v8 v9 v10 x_1 0 p1)
 (some (.x ()))
def W1 (v8:Sl Int) (v9 v10:Int) (p1:aa->Option Bool):Option Bool:=
 (aK (λq:Int=>an v8 v9 q p1) v10).bind (Fw.elim
 (λe=>some true)
 (λe=>some false))
end dD
def dD (c0:Sl Int) (p1:aa->Option Bool):Option Bool:=
 dD.W1 c0 (len c0) 0 p1
open dD in
abbrev uO (g1:FuncId) (e1:List V) (p1:aa->Option Bool) (h1:ki Sy cL g1 [] e1 (λz:aa=>[enc z]) (λr:Bool=>[.bool r]) p1 true) (c0:Sl Int):Fc Sy cL (dD c0 p1):=Fc.M 71 [enc c0,.clo g1 [] e1] (aN 9 c0 (bS 5 (λqW1=>(aH [(1,.v (.clo g1 [] e1)),Cv 8 c0,Iv 9 (len c0),Iv 10 qW1] [])) (λeW1=>(0,(aH [] []))) (λeW1=>(aH [Bv 4 false] [])) (λqW1=>aC 7 11 (aS 8 λx_1 _=>bS 13 (λqW2=>(aH [(1,.v (.clo g1 [] e1)),Iv 5 qW1,Cv 8 c0,Iv 9 (len c0),Iv 10 qW1,Iv 15 x_1,Iv 16 qW2] [])) (λeW2=>(2,(aH [(1,.v (.clo g1 [] e1)),Cv 8 c0,Iv 9 (len c0),Iv 10 qW1] []))) (λeW2=>(aH [Bv 4 false] [])) (λqW2=>aC 7 17 (qY 18 h1.f (⟨qW1,IntKind.wrap .i64 (qW2+1)⟩:aa) λx_2 _=>b9 3 25 af af) af) (λeW2=>af) (λeW2=>af)) af) (λeW1=>af) (λeW1=>af))) (l:=by simp[h1.d])
def lQ (y0:aa) (v1:Slice) (v2:Sl Int):Option Bool:=
 (kR v1 y0).bind λx_1=>
 (iC x_1 v2).bind λx_2=>
 some x_2
instance Jq (y0:aa) (v1:Slice) (v2:Sl Int):Fc Sy cL (lQ y0 v1 v2):=Fc.M 104 [enc y0,.fptr (cells v1),.fptr (cells v2)] (aG 10 λx_1 _=>fq 1 λx_2 _=>af)
def oD (x0:aa) (v1:Slice):Option Bool:=
 (kR v1 x0).bind λx_1=>
 (dD x_1 (λz=>lQ z v1 x_1)).bind λx_2=>
 some x_2
instance M8 (x0:aa) (v1:Slice):Fc Sy cL (oD x0 v1):=Fc.M 103 [enc x0,.fptr (cells v1)] (aG 10 λx_1 _=>g_ 1 4 0 x_1 (fq (F:=uO 104 [.fptr (cells v1),.fptr (cells x_1)] (λz=>lQ z v1 x_1) ki.tB x_1) 6 λx_2 _=>af))
def lH (t0:Trace) (s1:Slice):Option Bool:=
 (di t0).bind λx_1=>
 aj x_1
 (aj s1.empty
 ((aj ((len s1.first)==0)
 (some ((len s1.last)==0))
 (some false):Option Bool).bind λx_2=>
 (aj x_2
 (some ((len s1.j)==0))
 (some false):Option Bool).bind λx_3=>
 some x_3)
 ((fV t0 s1).bind λx_4=>
 (aj x_4
 ((fH t0).bind λx_5=>
 (dD x_5 (λz=>l_ z t0 s1)).bind λx_6=>
 some (!x_6))
 (some true):Option Bool).bind λx_7=>
 aj x_7
 (some false)
 ((dD s1.last (λz=>oD z s1)).bind λx_8=>
 some x_8)))
 (some false)
instance PZ (t0:Trace) (s1:Slice):Fc Sy cL (lH t0 s1):=Fc.M 64 [enc t0,enc s1] (bE 2 2 t0 (bE 0 3 s1 (aG 7 λx_1 _=>b9 3 7 (aC 10 9 (aN 5 s1.first (aX 2 5 [14] 19 (aC 2 14 (aN 2 s1.last (aA 2)) (aA 5)) λx_2=>aX 1 5 [3,20] 25 (aC 1 20 (aN 2 s1.j (aA 2)) (aA 5)) λx_3=>af)) (aG 8 λx_4 _=>aX 2 6 [2,30] 36 (b9 2 30 (aG 1 λx_5 _=>fq (F:=uO 101 [.fptr (cells t0),.fptr (cells s1)] (λz=>l_ z t0 s1) ki.tB x_5) 1 λx_6 _=>aA 2) (aA 6)) λx_7=>aC 2 36 af (fq (F:=uO 103 [.fptr (cells s1)] (λz=>oD z s1) ki.tB s1.last) 8 λx_8 _=>af))) af)))
def ou (s0:Slice) (v1:Trace):Option Bool:=
 (lH v1 s0).bind λx_1=>
 some (!x_1)
instance Mn (s0:Slice) (v1:Trace):Fc Sy cL (ou s0 v1):=Fc.M 79 [enc s0,.fptr (cells v1)] (bE 2 2 s0 (aG 7 λx_1 _=>af))
namespace eu
def an (s0:Sl Slice) (v7:Int) (v8:Int) (p1:Slice->Option Bool):Option (Fw Int Unit Int):=
 aj (decide (v8<v7))
 ((idx s0 v8).bind λx_1=>
 (p1 x_1).bind λx_2=>
 aj x_2
 (some (.r v8))
 (some (.n (IntKind.wrap .i64 (v8+1)))))
 (some (.x ()))
def W1 (s0:Sl Slice) (v7 v8:Int) (p1:Slice->Option Bool):Option Int:=
 (aK (λq:Int=>an s0 v7 q p1) v8).bind (Fw.elim
 (λe=>some (-1))
 (λe=>some e))
end eu
def eu (s0:Sl Slice) (p1:Slice->Option Bool):Option Int:=
 eu.W1 s0 (len s0) 0 p1
open eu in
abbrev uN (g1:FuncId) (e1:List V) (p1:Slice->Option Bool) (h1:ki Sy cL g1 [] e1 (λz:Slice=>[enc z]) (λr:Bool=>[.bool r]) p1 true) (s0:Sl Slice):Fc Sy cL (eu s0 p1):=Fc.M 114 [enc s0,.clo g1 [] e1] (aN 9 s0 (bS 5 (λqW1=>(aH [Cv 0 s0,(1,.v (.clo g1 [] e1)),Iv 7 (len s0),Iv 8 qW1] [])) (λeW1=>(0,(aH [] []))) (λeW1=>(aH [Iv 4 eW1] [])) (λqW1=>aC 7 9 (aS 16 λx_1 _=>qY 1 h1.f x_1 λx_2 _=>aC 2 16 af af) af) (λeW1=>af) (λeW1=>af))) (l:=by simp[h1.d])
def iJ (s0:Sl Slice) (p1:Slice->Option Bool):Option Bool:=
 (eu s0 p1).bind λx_1=>
 some (decide (x_1>=0))
abbrev sU (g1:FuncId) (e1:List V) (p1:Slice->Option Bool) (h1:ki Sy cL g1 [] e1 (λz:Slice=>[enc z]) (λr:Bool=>[.bool r]) p1 true) (s0:Sl Slice):Fc Sy cL (iJ s0 p1):=Fc.M 78 [enc s0,.clo g1 [] e1] (aG (F:=uN g1 e1 p1 h1 s0) 9 λx_1 _=>af) (l:=by simp[h1.d])
def j_ (t0:Trace) (l1:Sl Slice):Option Bool:=
 (di t0).bind λx_1=>
 (aj x_1
 ((iJ l1 (λz=>ou z t0)).bind λx_2=>
 some (!x_2))
 (some false):Option Bool).bind λx_3=>
 some x_3
instance P9 (t0:Trace) (l1:Sl Slice):Fc Sy cL (j_ t0 l1):=Fc.M 44 [enc t0,enc l1] (bE 2 2 t0 (aG 6 λx_1 _=>aX 1 5 [1,2,7] 12 (aC 1 7 (fq (F:=sU 79 [.fptr (cells t0)] (λz=>ou z t0) ki.tB l1) 2 λx_2 _=>aA 2) (aA 5)) λx_3=>af))
def ij (s0:Sl Int):Option (Sl Int):=
 (Sl.isNil s0).bind λx_1=>
 aj x_1
 (some Sl.nil)
 ((jw (Sl.row []:Sl Int) s0).bind λx_2=>
 some x_2)
theorem jM:Ee Sy cL 85 (λs0:Sl Int=>[enc s0]) (λz=>ij z):=Ee.mk' (xB (Tx 85)) (λs0=>TM 9 λx_1 _=>aC 2 4 af (ud 7 5 7 λx_2 _=>af))
namespace gA
def an (v10:Sl Int) (v11:Int) (out5:Sl Int) (v12:Int):Option (Fw ((Sl Int)×Int) (Sl Int) Empty):=
 aj (decide (v12<v11))
 ((idx v10 v12).bind λx_2=>
 (Sl.mw out5 v12).bind λx_3=>
 (Sl.get out5 x_3).bind λx_4=>
 (Sl.mw out5 v12).bind λx_5=>
 (Sl.put out5 x_5 ((if x_2>x_4 then x_2 else x_4):Int)).bind λx_6=>
 some (.n (x_6,IntKind.wrap .i64 (v12+1))))
 (some (.x out5))
def W1 (out5 v10:Sl Int) (v11 v12:Int):Option (Sl Int):=
 (aK (λq:(Sl Int)×Int=>an v10 v11 q.1 q.2) (out5,v12)).bind (Fw.elim
 (λe=>some e)
 (λe=>Empty.elim e))
end gA
def gA (a0 b1:Sl Int):Option (Sl Int):=
 ((ij a0).bind Sl.whole).bind λx_1=>
 gA.W1 x_1 b1 (len b1) 0
open gA in
instance RI (a0 b1:Sl Int):Fc Sy cL (gA a0 b1):=Fc.N 88 [enc a0,enc b1] (HF 8 9 jM a0 λx_1 _=>aN 7 b1 (fL 6 (λqW1=>(aH [Ov 5,Cv 10 b1,Iv 11 (len b1),Iv 12 qW1.2] [Lb 2005 qW1.1])) (λeW1=>(0,(aH [Ov 5] [Lb 2005 eW1]))) (λqW1=>aC 8 13 (aS 8 λx_2 _=>nN .i64 10 2005 λx_3 _=>uM 0 2005 0 1 false (λx_4=>.int .i64 x_4) λx_4 _=>nN .i64 2 2005 λx_5 _=>Cm 0 2005 (.int .i64 (if x_2>x_4 then x_2 else x_4)) λx_6 _=>af) af) (λeW1=>af)))
namespace bC
def ov (l1 v29:Sl Slice) (v30 v31:Int) (v40:Sl Int) (v41 v42:Int) (v53:Sl (Sl Int)) (v54:Int) (sb10:Slice) (c0:Sl Int) (changed8:Bool) (v55:Int):Option (Fw ((Sl Int)×Bool×Int) ((Sl Int)×Bool) Empty):=
 aj (decide (v55<v54))
 ((idx v53 v55).bind λx_8=>
 (iC x_8 c0).bind λx_9=>
 aj x_9
 (some (.n (c0,changed8,IntKind.wrap .i64 (v55+1))))
 ((gA c0 x_8).bind λx_10=>
 some (.n (x_10,true,IntKind.wrap .i64 (v55+1)))))
 (some (.x (c0,changed8)))
def W5 (c0:Sl Int) (l1:Sl Slice) (changed8:Bool) (v29:Sl Slice) (v30 v31:Int) (v40:Sl Int) (v41 v42:Int) (v53:Sl (Sl Int)) (v54 v55:Int) (sb10:Slice):Option (Fw ((Sl Int)×Bool×Int) ((Sl Int)×Bool) Empty):=
 (aK (λq:(Sl Int)×Bool×Int=>ov l1 v29 v30 v31 v40 v41 v42 v53 v54 sb10 q.1 q.2.1 q.2.2) (c0,changed8,v55)).bind (Fw.elim
 (λe=>some (.n (e.1,e.2,IntKind.wrap .i64 (v42+1))))
 (λe=>Empty.elim e))
def jI (l1 v29:Sl Slice) (v30 v31:Int) (v40:Sl Int) (v41:Int) (sb10:Slice) (c0:Sl Int) (changed8:Bool) (v42:Int):Option (Fw ((Sl Int)×Bool×Int) ((Sl Int)×Bool) Empty):=
 aj (decide (v42<v41))
 ((idx v40 v42).bind λx_5=>
 (idx sb10.j v42).bind λx_6=>
 (eO x_6 none (some x_5)).bind λx_7=>
 W5 c0 l1 changed8 v29 v30 v31 v40 v41 v42 x_7 (len x_7) 0 sb10)
 (some (.x (c0,changed8)))
def W4 (c0:Sl Int) (l1:Sl Slice) (changed8:Bool) (v29:Sl Slice) (v30 v31:Int) (v40:Sl Int) (v41 v42:Int) (sb10:Slice):Option (Fw ((Sl Int)×Bool×Int) ((Sl Int)×Bool) Unit):=
 (aK (λq:(Sl Int)×Bool×Int=>jI l1 v29 v30 v31 v40 v41 sb10 q.1 q.2.1 q.2.2) (c0,changed8,v42)).bind (Fw.elim
 (λe=>some (.n (e.1,e.2,IntKind.wrap .i64 (v31+1))))
 (λe=>Empty.elim e))
def cI (l1 v29:Sl Slice) (v30:Int) (c0:Sl Int) (changed8:Bool) (v31:Int):Option (Fw ((Sl Int)×Bool×Int) ((Sl Int)×Bool) Unit):=
 aj (decide (v31<v30))
 ((idx v29 v31).bind λx_3=>
 (iC c0 x_3.last).bind λx_4=>
 aj x_4
 (W4 c0 l1 changed8 v29 v30 v31 c0 (len c0) 0 x_3)
 (some (.r ())))
 (some (.x (c0,changed8)))
def W3 (c0:Sl Int) (l1:Sl Slice) (changed8:Bool) (v29:Sl Slice) (v30 v31:Int):Option (Fw ((Sl Int)×Bool) (Sl Int) Unit):=
 (aK (λq:(Sl Int)×Bool×Int=>cI l1 v29 v30 q.1 q.2.1 q.2.2) (c0,changed8,v31)).bind (Fw.elim
 (λe=>some (.n (e.1,e.2)))
 (λe=>some (.r ())))
def aY (l1:Sl Slice) (c0:Sl Int) (changed8:Bool):Option (Fw ((Sl Int)×Bool) (Sl Int) Unit):=
 aj changed8
 (W3 c0 l1 false l1 (len l1) 0)
 (some (.x c0))
def W2 (c0:Sl Int) (l1:Sl Slice) (changed8:Bool):Option ((Sl Int)×Bool):=
 (aK (λq:(Sl Int)×Bool=>aY l1 q.1 q.2) (c0,changed8)).bind (Fw.elim
 (λe=>some (e,true))
 (λe=>some (Sl.nil,false)))
def an (l1 v15:Sl Slice) (v16:Int) (c0:Sl Int) (v17:Int):Option (Fw ((Sl Int)×Int) (Sl Int) Unit):=
 aj (decide (v17<v16))
 ((idx v15 v17).bind λx_1=>
 aj x_1.empty
 (some (.r ()))
 ((gA c0 x_1.first).bind λx_2=>
 some (.n (x_2,IntKind.wrap .i64 (v17+1)))))
 (some (.x c0))
def W1 (c0:Sl Int) (l1 v15:Sl Slice) (v16 v17:Int):Option ((Sl Int)×Bool):=
 (aK (λq:(Sl Int)×Int=>an l1 v15 v16 q.1 q.2) (c0,v17)).bind (Fw.elim
 (λe=>bC.W2 e l1 true)
 (λe=>some (Sl.nil,false)))
end bC
def bC (c0:Sl Int) (l1:Sl Slice):Option ((Sl Int)×Bool):=
 bC.W1 c0 l1 l1 (len l1) 0
open bC in
instance Ot (c0:Sl Int) (l1:Sl Slice):Fc Sy cL (bC c0 l1):=Fc.N 91 [enc c0,enc l1] (aN 10 l1 (bS 5 (λqW1=>(aH [Cv 0 qW1.1,Cv 1 l1,Cv 15 l1,Iv 16 (len l1),Iv 17 qW1.2] [])) (λeW1=>(0,(aH [Cv 0 eW1,Cv 1 l1] []))) (λeW1=>(aH [(4,.v .aR),Bv 5 false] [])) (λqW1=>aC 7 18 (aS 7 λx_1 _=>g_ 2 7 0 x_1 (aC 9 22 af (aG 7 λx_2 _=>af))) af) (λeW1=>bS 10 (λqW2=>(aH [Cv 0 qW2.1,Cv 1 l1,Bv 8 qW2.2] [])) (λeW2=>(2,(aH [Cv 0 eW2] []))) (λeW2=>(aH [(4,.v .aR),Bv 5 false] [])) (λqW2=>aC 7 28 (aN 12 l1 (bS 5 (λqW3=>(aH [Cv 0 qW3.1,Cv 1 l1,Bv 8 qW3.2.1,Cv 29 l1,Iv 30 (len l1),Iv 31 qW3.2.2] [])) (λeW3=>(4,(aH [Cv 0 eW3.1,Cv 1 l1,Bv 8 eW3.2] []))) (λeW3=>(aH [(4,.v .aR),Bv 5 false] [])) (λqW3=>aC 7 32 (aS 7 λx_3 _=>g_ 2 10 0 x_3 (aG 8 λx_4 _=>b9 3 39 (aN 6 qW3.1 (fL 5 (λqW4=>(aH [Cv 0 qW4.1,Cv 1 l1,Bv 8 qW4.2.1,Pv 10,Cv 29 l1,Iv 30 (len l1),Iv 31 qW3.2.2,Cv 40 qW3.1,Iv 41 (len qW3.1),Iv 42 qW4.2.2] [Xb 10 x_3])) (λeW4=>(6,(aH [Cv 0 eW4.1,Cv 1 l1,Bv 8 eW4.2,Cv 29 l1,Iv 30 (len l1),Iv 31 qW3.2.2] []))) (λqW4=>aC 7 43 (aS 8 λx_5 _=>aS 10 λx_6 _=>AH 2 false true [.int .i64 x_5] λx_7 _=>aN 0 x_7 (fL 5 (λqW5=>(aH [Cv 0 qW5.1,Cv 1 l1,Bv 8 qW5.2.1,Pv 10,Cv 29 l1,Iv 30 (len l1),Iv 31 qW3.2.2,Cv 40 qW3.1,Iv 41 (len qW3.1),Iv 42 qW4.2.2,Cv 53 x_7,Iv 54 (len x_7),Iv 55 qW5.2.2] [Xb 10 x_3])) (λeW5=>(8,(aH [Cv 0 eW5.1,Cv 1 l1,Bv 8 eW5.2,Pv 10,Cv 29 l1,Iv 30 (len l1),Iv 31 qW3.2.2,Cv 40 qW3.1,Iv 41 (len qW3.1),Iv 42 qW4.2.2] [Xb 10 x_3]))) (λqW5=>aC 7 56 (aS 7 λx_8 _=>aG 8 λx_9 _=>b9 3 62 af (aG 5 λx_10 _=>af)) af) (λeW5=>af))) af) (λeW4=>af))) af)) af) (λeW3=>af) (λeW3=>af))) af) (λeW2=>af) (λeW2=>af)) (λeW1=>af)))
def lZ (c0:Sl Int) (v1 v2:Slice):Option ((Sl Int)×Bool):=
 (bC c0 (Sl.row [v1,v2]:Sl Slice)).bind λx_1=>
 some (x_1.1,x_1.2)
instance OQ (c0:Sl Int) (v1 v2:Slice):Fc Sy cL (lZ c0 v1 v2):=Fc.N 107 [enc c0,.fptr (cells v1),.fptr (cells v2)] (s6 11 9 ([v1,v2]:List Slice) (aG 1 λx_1 _=>af))
def tG (c0:Sl Int) (p1 index2:Int):Option (Sl Int):=
 ((ij c0).bind Sl.whole).bind λx_1=>
 (Sl.mw x_1 p1).bind λx_2=>
 (Sl.get x_1 x_2).bind λx_3=>
 (Sl.mw x_1 p1).bind λx_4=>
 (Sl.put x_1 x_4 ((if index2>x_3 then index2 else x_3):Int)).bind λx_5=>
 some x_5
instance RR (c0:Sl Int) (p1 index2:Int):Fc Sy cL (tG c0 p1 index2):=Fc.N 86 [enc c0,.int .i64 p1,.int .i64 index2] (HF 8 9 jM c0 λx_1 _=>nN .i64 9 9 λx_2 _=>uM 0 9 0 1 false (λx_3=>.int .i64 x_3) λx_3 _=>nN .i64 2 9 λx_4 _=>Cm 0 9 (.int .i64 (if index2>x_3 then index2 else x_3)) λx_5 _=>af)
namespace dn
def J3 (first5:Sl Int) (p8:Int) (l10:Sl (Sl Int)) (c12:Sl Int) (v31:Sl bt) (v32 v33 v40 v41:Int) (vb4 outb7:Slice) (p1:(Sl Int)->Option ((Sl Int)×Bool)):Option (Fw ((Sl (Sl Int))×Int×Slice×Slice) ((Sl (Sl Int))×Int×Slice×Slice) Empty):=
 (fP l10 (c12:Sl Int)).bind λx_8=>
 some (.n (x_8,IntKind.wrap .i64 (v41+1),(⟨vb4.empty,Sl.nil,Sl.nil,Sl.nil⟩:Slice),outb7))
def aY (first5:Sl Int) (p8:Int) (v31:Sl bt) (v32 v33 v40:Int) (l10:Sl (Sl Int)) (v41:Int) (vb4 outb7:Slice) (p1:(Sl Int)->Option ((Sl Int)×Bool)):Option (Fw ((Sl (Sl Int))×Int×Slice×Slice) ((Sl (Sl Int))×Int×Slice×Slice) Empty):=
 aj (decide (v41<v40))
 ((tG first5 p8 (IntKind.wrap .i64 (v41+1))).bind λx_5=>
 (p1 x_5).bind λx_6=>
 aj x_6.2
 ((gA outb7.last x_6.1).bind λx_7=>
 J3 first5 p8 l10 x_6.1 v31 v32 v33 v40 v41 (⟨vb4.empty,Sl.nil,Sl.nil,Sl.nil⟩:Slice) (⟨outb7.empty,outb7.first,x_7,outb7.j⟩:Slice) p1)
 (J3 first5 p8 l10 x_6.1 v31 v32 v33 v40 v41 (⟨vb4.empty,Sl.nil,Sl.nil,Sl.nil⟩:Slice) outb7 p1))
 (some (.x (l10,v33,(⟨vb4.empty,Sl.nil,Sl.nil,Sl.nil⟩:Slice),outb7)))
def W2 (first5:Sl Int) (p8:Int) (l10:Sl (Sl Int)) (v31:Sl bt) (v32 v33 v40 v41:Int) (vb4 outb7:Slice) (p1:(Sl Int)->Option ((Sl Int)×Bool)):Option (Fw (Int×Slice×Slice) (Slice×Slice) Empty):=
 (aK (λq:(Sl (Sl Int))×Int×Slice×Slice=>aY first5 p8 v31 v32 v33 v40 q.1 q.2.1 q.2.2.1 q.2.2.2 p1) (l10,v41,vb4,outb7)).bind (Fw.elim
 (λe=>(fP e.2.2.2.j (e.1:Sl (Sl Int))).bind λx_9=>
 some (.n (IntKind.wrap .i64 (e.2.1+1),(⟨e.2.2.1.empty,Sl.nil,Sl.nil,Sl.nil⟩:Slice),(⟨e.2.2.2.empty,e.2.2.2.first,e.2.2.2.last,x_9⟩:Slice))))
 (λe=>Empty.elim e))
def an (first5:Sl Int) (v31:Sl bt) (v32:Int) (v33:Int) (vb4 outb7:Slice) (p1:(Sl Int)->Option ((Sl Int)×Bool)):Option (Fw (Int×Slice×Slice) (Slice×Slice) Empty):=
 aj (decide (v33<v32))
 ((idx v31 v33).bind λx_4=>
 W2 first5 v33 (Sl.nil:Sl (Sl Int)) v31 v32 v33 (len x_4.events) 0 (⟨vb4.empty,Sl.nil,Sl.nil,Sl.nil⟩:Slice) outb7 p1)
 (some (.x ((⟨vb4.empty,Sl.nil,Sl.nil,Sl.nil⟩:Slice),outb7)))
def W1 (first5:Sl Int) (v31:Sl bt) (v32 v33:Int) (vb4 outb7:Slice) (p1:(Sl Int)->Option ((Sl Int)×Bool)):Option Slice:=
 (aK (λq:Int×Slice×Slice=>an first5 v31 v32 q.1 q.2.1 q.2.2 p1) (v33,vb4,outb7)).bind (Fw.elim
 (λe=>some e.2)
 (λe=>Empty.elim e))
end dn
def dn (t0:Trace) (p1:(Sl Int)->Option ((Sl Int)×Bool)):Option Slice:=
 (tw (len t0.procs) (0:Int)).bind λx_1=>
 (p1 x_1).bind λx_2=>
 aj x_2.2
 (((ij x_2.1).bind Sl.whole).bind λx_3=>
 dn.W1 x_2.1 t0.procs (len t0.procs) 0 (⟨false,Sl.nil,Sl.nil,Sl.nil⟩:Slice) (⟨false,x_2.1,x_3,Sl.nil⟩:Slice) p1)
 (some ⟨true,Sl.nil,Sl.nil,Sl.nil⟩)
open dn in
abbrev xH (g1:FuncId) (e1:List V) (p1:(Sl Int)->Option ((Sl Int)×Bool)) (h1:ki Sy cL g1 [] e1 (λz:Sl Int=>[enc z]) (λr:(Sl Int)×Bool=>[enc r.1,.bool r.2]) p1 false) (t0:Trace):Fc Sy cL (dn t0 p1):=Fc.N 80 [enc t0,.clo g1 [] e1] (bE 2 2 t0 (aN 8 t0.procs (QG 0 19 λx_1 _=>qY 1 h1.f x_1 λx_2 _=>b9 14 24 (HF 7 28 jM x_2.1 λx_3 _=>BV 1 (⟨false,x_2.1,x_3,Sl.nil⟩:Slice) [enc x_2.1,enc x_3] [.bool false,.aR,.aR,.aR] [(1,1),(2,1)] (by simp only[oI,qo,f_,uy,r_,uF,uj];rfl) rfl (g_ 1 7 0 (⟨false,x_2.1,x_3,Sl.nil⟩:Slice) (aN 7 t0.procs (fL 6 (λqW1=>(aH [(1,.v (.clo g1 [] e1)),Pv 4,Cv 5 x_2.1,Pv 7,Cv 31 t0.procs,Iv 32 (len t0.procs),Iv 33 qW1.1] [Xb 4 (⟨qW1.2.1.empty,Sl.nil,Sl.nil,Sl.nil⟩:Slice),(7,.box [bv qW1.2.2.empty,cv qW1.2.2.first,cv qW1.2.2.last,.own 4143]),Lb 4143 qW1.2.2.j])) (λeW1=>(0,(aH [Pv 4,Pv 7] [Xb 4 (⟨eW1.1.empty,Sl.nil,Sl.nil,Sl.nil⟩:Slice),(7,.box [bv eW1.2.empty,cv eW1.2.first,cv eW1.2.last,.own 4143]),Lb 4143 eW1.2.j]))) (λqW1=>aC 8 34 (aS 8 λx_4 _=>g_ 3 9 0 x_4 (aN 12 x_4.events (fL 7 (λqW2=>(aH [(1,.v (.clo g1 [] e1)),Pv 4,Cv 5 x_2.1,Pv 7,Iv 8 qW1.1,Ov 10,Cv 31 t0.procs,Iv 32 (len t0.procs),Iv 33 qW1.1,Iv 40 (len x_4.events),Iv 41 qW2.2.1] [Xb 4 (⟨qW2.2.2.1.empty,Sl.nil,Sl.nil,Sl.nil⟩:Slice),(7,.box [bv qW2.2.2.2.empty,cv qW2.2.2.2.first,cv qW2.2.2.2.last,.own 4143]),Lb 2010 qW2.1,Lb 4143 qW2.2.2.2.j])) (λeW2=>(2,(aH [(1,.v (.clo g1 [] e1)),Pv 4,Cv 5 x_2.1,Pv 7,Ov 10,Cv 31 t0.procs,Iv 32 (len t0.procs),Iv 33 eW2.2.1] [Xb 4 (⟨eW2.2.2.1.empty,Sl.nil,Sl.nil,Sl.nil⟩:Slice),(7,.box [bv eW2.2.2.2.empty,cv eW2.2.2.2.first,cv eW2.2.2.2.last,.own 4143]),Lb 2010 eW2.1,Lb 4143 eW2.2.2.2.j]))) (λqW2=>aC 9 42 (aG 18 λx_5 _=>qY 0 h1.f x_5 λx_6 _=>aC 13 54 (aG 5 λx_7 _=>g_ 1 7 2 x_7 (xP 5 (s6 3 62 ([x_6.1]:List (Sl Int)) (oR 0 2010 62 63 λx_8 _=>af)))) (xP 6 (s6 3 62 ([x_6.1]:List (Sl Int)) (oR 0 2010 62 63 λx_8 _=>af)))) af) (λeW2=>s6 7 68 ([eW2.1]:List (Sl (Sl Int))) (oR 0 4143 68 69 λx_9 _=>af))))) af) (λeW1=>g_ 6 4 0 eW1.2 af))))) (BV 3 (⟨true,Sl.nil,Sl.nil,Sl.nil⟩:Slice) [.bool true] [.bool false,.aR,.aR,.aR] [(0,1)] (by simp only[oI,qo,f_,uy,r_,uF,uj];rfl) rfl (g_ 0 4 0 (⟨true,Sl.nil,Sl.nil,Sl.nil⟩:Slice) af))))) (l:=by simp[h1.d])
def xR (t0:Trace) (a1 b2:Slice):Option Slice:=
 (dn t0 (λz=>lZ z a1 b2)).bind λx_1=>
 some x_1
instance R5 (t0:Trace) (a1 b2:Slice):Fc Sy cL (xR t0 a1 b2):=Fc.N 67 [enc t0,enc a1,enc b2] (bE 2 3 t0 (bE 0 4 a1 (bE 0 5 b2 (aG (F:=xH 107 [.fptr (cells a1),.fptr (cells b2)] (λz=>lZ z a1 b2) ki.tB t0) 9 λx_1 _=>g_ 0 6 0 x_1 af))))
def qh (t0:Trace) (a1 b2:Slice):Option (Slice×Int):=
 (j_ t0 (Sl.row [a1,b2]:Sl Slice)).bind λx_1=>
 aj x_1
 ((xR t0 a1 b2).bind λx_2=>
 some (x_2,0))
 (some (⟨false,Sl.nil,Sl.nil,Sl.nil⟩,1))
instance R4 (t0:Trace) (a1 b2:Slice):Fc Sy cL (qh t0 a1 b2):=Fc.N 28 [enc t0,enc a1,enc b2] (bE 2 3 t0 (bE 0 4 a1 (bE 0 5 b2 (s6 10 11 ([a1,b2]:List Slice) (fq 0 λx_1 _=>b9 3 13 (aG 8 λx_2 _=>g_ 0 6 0 x_2 af) (BV 3 (⟨false,Sl.nil,Sl.nil,Sl.nil⟩:Slice) [] [.bool false,.aR,.aR,.aR] [] (by simp only[oI,qo,f_,uy,r_,uF,uj];rfl) rfl (g_ 0 6 0 (⟨false,Sl.nil,Sl.nil,Sl.nil⟩:Slice) af)))))))
namespace gW
def an (v10:Sl Int) (v11:Int) (out5:Sl Int) (v12:Int):Option (Fw ((Sl Int)×Int) (Sl Int) Empty):=
 aj (decide (v12<v11))
 ((idx v10 v12).bind λx_2=>
 (Sl.mw out5 v12).bind λx_3=>
 (Sl.get out5 x_3).bind λx_4=>
 (Sl.mw out5 v12).bind λx_5=>
 (Sl.put out5 x_5 ((if x_2<x_4 then x_2 else x_4):Int)).bind λx_6=>
 some (.n (x_6,IntKind.wrap .i64 (v12+1))))
 (some (.x out5))
def W1 (out5 v10:Sl Int) (v11 v12:Int):Option (Sl Int):=
 (aK (λq:(Sl Int)×Int=>an v10 v11 q.1 q.2) (out5,v12)).bind (Fw.elim
 (λe=>some e)
 (λe=>Empty.elim e))
end gW
def gW (a0 b1:Sl Int):Option (Sl Int):=
 ((ij a0).bind Sl.whole).bind λx_1=>
 gW.W1 x_1 b1 (len b1) 0
open gW in
instance QF (a0 b1:Sl Int):Fc Sy cL (gW a0 b1):=Fc.N 109 [enc a0,enc b1] (HF 8 9 jM a0 λx_1 _=>aN 7 b1 (fL 6 (λqW1=>(aH [Ov 5,Cv 10 b1,Iv 11 (len b1),Iv 12 qW1.2] [Lb 2005 qW1.1])) (λeW1=>(0,(aH [Ov 5] [Lb 2005 eW1]))) (λqW1=>aC 8 13 (aS 8 λx_2 _=>nN .i64 10 2005 λx_3 _=>uM 0 2005 0 1 false (λx_4=>.int .i64 x_4) λx_4 _=>nN .i64 2 2005 λx_5 _=>Cm 0 2005 (.int .i64 (if x_2<x_4 then x_2 else x_4)) λx_6 _=>af) af) (λeW1=>af)))
def oU (c0:Sl Int) (v1 v2:Slice):Option ((Sl Int)×Bool):=
 (bC c0 (Sl.row [v1]:Sl Slice)).bind λx_1=>
 (bC c0 (Sl.row [v2]:Sl Slice)).bind λx_2=>
 (aj x_1.2
 (some x_2.2)
 (some false):Option Bool).bind λx_3=>
 aj x_3
 ((gW x_1.1 x_2.1).bind λx_4=>
 some (x_4,true))
 (aj x_1.2
 (some (x_1.1,true))
 (some (x_2.1,x_2.2)))
instance Qq (c0:Sl Int) (v1 v2:Slice):Fc Sy cL (oU c0 v1 v2):=Fc.N 108 [enc c0,.fptr (cells v1),.fptr (cells v2)] (s6 10 13 ([v1]:List Slice) (aG 1 λx_1 _=>s6 11 20 ([v2]:List Slice) (aG 1 λx_2 _=>aX 13 2 [26] 28 (aC 13 26 (aA 2) (aA 2)) λx_3=>aC 3 24 (aG 5 λx_4 _=>af) (aC 7 32 af af))))
def AJ (t0:Trace) (a1 b2:Slice):Option Slice:=
 (dn t0 (λz=>oU z a1 b2)).bind λx_1=>
 some x_1
instance SF (t0:Trace) (a1 b2:Slice):Fc Sy cL (AJ t0 a1 b2):=Fc.N 68 [enc t0,enc a1,enc b2] (bE 2 3 t0 (bE 0 4 a1 (bE 0 5 b2 (aG (F:=xH 108 [.fptr (cells a1),.fptr (cells b2)] (λz=>oU z a1 b2) ki.tB t0) 9 λx_1 _=>g_ 0 6 0 x_1 af))))
def rU (t0:Trace) (a1 b2:Slice):Option (Slice×Int):=
 (j_ t0 (Sl.row [a1,b2]:Sl Slice)).bind λx_1=>
 aj x_1
 ((AJ t0 a1 b2).bind λx_2=>
 some (x_2,0))
 (some (⟨false,Sl.nil,Sl.nil,Sl.nil⟩,1))
instance SZ (t0:Trace) (a1 b2:Slice):Fc Sy cL (rU t0 a1 b2):=Fc.N 29 [enc t0,enc a1,enc b2] (bE 2 3 t0 (bE 0 4 a1 (bE 0 5 b2 (s6 10 11 ([a1,b2]:List Slice) (fq 0 λx_1 _=>b9 3 13 (aG 8 λx_2 _=>g_ 0 6 0 x_2 af) (BV 3 (⟨false,Sl.nil,Sl.nil,Sl.nil⟩:Slice) [] [.bool false,.aR,.aR,.aR] [] (by simp only[oI,qo,f_,uy,r_,uF,uj];rfl) rfl (g_ 0 6 0 (⟨false,Sl.nil,Sl.nil,Sl.nil⟩:Slice) af)))))))
def mW (c0:Int):Option Bool:=
 (aj (decide (c0>=65))
 (some (decide (c0<=90)))
 (some false):Option Bool).bind λx_1=>
 (aj x_1
 (some true)
 ((aj (decide (c0>=97))
 (some (decide (c0<=122)))
 (some false):Option Bool).bind λx_2=>
 some x_2):Option Bool).bind λx_3=>
 some x_3
instance NN (c0:Int):Fc Sy cL (mW c0):=Fc.M 169 [.int .u8 c0] (aX 10 3 [5] 8 (aC 10 5 (aA 3) (aA 3)) λx_1=>aX 1 7 [0,9] 16 (aC 1 9 (aA 7) (aX 3 3 [0,12] 15 (aC 3 12 (aA 3) (aA 3)) λx_2=>aA 1)) λx_3=>af)
def qI (c0:Int):Option Bool:=
 (aj (decide (c0>=48))
 (some (decide (c0<=57)))
 (some false):Option Bool).bind λx_1=>
 some x_1
instance PC (c0:Int):Fc Sy cL (qI c0):=Fc.M 170 [.int .u8 c0] (aX 10 3 [0,5] 8 (aC 10 5 (aA 3) (aA 3)) λx_1=>af)
namespace fG
def an (s0:ByteArray) (i3:Int):Option (Fw Int Unit Unit):=
 aj (decide (i3<((ByteArray.size s0:Nat):Int)))
 ((jy s0 i3).bind λx_5=>
 (mW x_5).bind λx_6=>
 (aj x_6
 (some false)
 ((jy s0 i3).bind λx_7=>
 (qI x_7).bind λx_8=>
 some (!x_8)):Option Bool).bind λx_9=>
 (aj x_9
 ((jy s0 i3).bind λx_10=>
 some (!(x_10==95)))
 (some false):Option Bool).bind λx_11=>
 aj x_11
 (some (.r ()))
 (some (.n (IntKind.wrap .i64 (i3+1)))))
 (some (.x ()))
def W1 (s0:ByteArray) (i3:Int):Option Bool:=
 (aK (λq:Int=>an s0 q) i3).bind (Fw.elim
 (λe=>some true)
 (λe=>some false))
end fG
def fG (s0:ByteArray):Option Bool:=
 (aj (decide (((ByteArray.size s0:Nat):Int)<1))
 (some true)
 (some (decide (((ByteArray.size s0:Nat):Int)>16))):Option Bool).bind λx_1=>
 (aj x_1
 (some true)
 ((jy s0 0).bind λx_2=>
 (mW x_2).bind λx_3=>
 some (!x_3)):Option Bool).bind λx_4=>
 aj x_4
 (some false)
 (fG.W1 s0 1)
open fG in
instance Qe (s0:ByteArray):Fc Sy cL (fG s0):=Fc.M 146 [.str s0] (aX 12 4 [7] 11 (aC 12 7 (aA 4) (aA 4)) λx_1=>aX 1 5 [12] 17 (aC 1 12 (aA 5) (yf 1 .i64 λx_2 _=>aG 0 λx_3 _=>aA 2)) λx_4=>aC 2 17 af (bS 11 (λqW1=>(aH [(0,.v (.str s0)),Iv 3 qW1] [])) (λeW1=>(0,(aH [] []))) (λeW1=>(aH [Bv 2 false] [])) (λqW1=>aC 10 21 (yf 9 .i64 λx_5 _=>aG 0 λx_6 _=>aX 2 6 [29] 35 (b9 2 29 (aA 6) (yf 2 .i64 λx_7 _=>aG 0 λx_8 _=>aA 2)) λx_9=>aX 1 5 [36] 41 (aC 1 36 (yf 2 .i64 λx_10 _=>aA 2) (aA 5)) λx_11=>aC 2 41 af af) af) (λeW1=>af) (λeW1=>af)))
def n_ (n0:Int):Option Bool:=
 (aj (decide (n0>=(-1073741824)))
 (some (decide (n0<=1073741824)))
 (some false):Option Bool).bind λx_1=>
 some x_1
instance PJ (n0:Int):Fc Sy cL (n_ n0):=Fc.M 147 [.int .i64 n0] (aX 10 3 [0,5] 8 (aC 10 5 (aA 3) (aA 3)) λx_1=>af)
namespace cT
def cI (i7:Int) (xb5:bt) (j8:Int):Option (Fw Int Unit Unit):=
 aj (decide (j8<i7))
 ((idx xb5.vars j8).bind λx_6=>
 (idx xb5.vars i7).bind λx_7=>
 aj (ByteArray.toList x_6.name==ByteArray.toList x_7.name)
 (some (.r ()))
 (some (.n (IntKind.wrap .i64 (j8+1)))))
 (some (.x ()))
def W3 (i7 j8:Int) (xb5:bt):Option (Fw Int Unit Int):=
 (aK (λq:Int=>cI i7 xb5 q) j8).bind (Fw.elim
 (λe=>(idx xb5.vars i7).bind λx_8=>
 (n_ x_8.init_).bind λx_9=>
 aj x_9
 (some (.n (IntKind.wrap .i64 (i7+1))))
 (some (.r 2)))
 (λe=>some (.r 13)))
def aY (xb5:bt) (i7:Int):Option (Fw Int Unit Int):=
 aj (decide (i7<(len xb5.vars)))
 ((idx xb5.vars i7).bind λx_4=>
 (fG x_4.name).bind λx_5=>
 aj x_5
 (W3 i7 0 xb5)
 (some (.r 13)))
 (some (.x ()))
def W2 (i7:Int) (xb5:bt):Option Int:=
 (aK (λq:Int=>aY xb5 q) i7).bind (Fw.elim
 (λe=>aj (decide ((len xb5.events)>64))
 (some 5)
 (some 0))
 (λe=>some e))
def an (p1:Int) (tb2:Trace) (xb5:bt) (i6:Int):Option (Fw Int Unit Unit):=
 aj (decide (i6<p1))
 ((idx tb2.procs i6).bind λx_3=>
 aj (ByteArray.toList x_3.name==ByteArray.toList xb5.name)
 (some (.r ()))
 (some (.n (IntKind.wrap .i64 (i6+1)))))
 (some (.x ()))
def W1 (p1 i6:Int) (tb2:Trace) (xb5:bt):Option Int:=
 (aK (λq:Int=>an p1 tb2 xb5 q) i6).bind (Fw.elim
 (λe=>aj (decide ((len xb5.vars)>8))
 (some 5)
 (cT.W2 0 xb5))
 (λe=>some 13))
end cT
def cT (t0:Trace) (p1:Int):Option Int:=
 (idx t0.procs p1).bind λx_1=>
 (fG x_1.name).bind λx_2=>
 aj x_2
 (cT.W1 p1 0 t0 x_1)
 (some 13)
open cT in
instance Qk (t0:Trace) (p1:Int):Fc Sy cL (cT t0 p1):=Fc.M 118 [enc t0,.int .i64 p1] (bE 2 2 t0 (aS 8 λx_1 _=>g_ 2 5 0 x_1 (aG 7 λx_2 _=>b9 3 17 (bS 11 (λqW1=>(aH [Iv 1 p1,Pv 2,Pv 5,Iv 6 qW1] [Xb 2 t0,Xb 5 x_1])) (λeW1=>(0,(aH [Pv 5] [Xb 5 x_1]))) (λeW1=>(aH [Iv 4 13] [])) (λqW1=>aC 9 20 (aS 10 λx_3 _=>aC 7 31 af af) af) (λeW1=>aN 7 x_1.vars (aC 3 35 af (bS 11 (λqW2=>(aH [Pv 5,Iv 7 qW2] [Xb 5 x_1])) (λeW2=>(2,(aH [Pv 5] [Xb 5 x_1]))) (λeW2=>(aH [Iv 4 eW2] [])) (λqW2=>aN 7 x_1.vars (aC 3 40 (aS 11 λx_4 _=>aG 2 λx_5 _=>b9 3 50 (bS 11 (λqW3=>(aH [Pv 5,Iv 7 qW2,Iv 8 qW3] [Xb 5 x_1])) (λeW3=>(4,(aH [Pv 5,Iv 7 qW2] [Xb 5 x_1]))) (λeW3=>(aH [Iv 4 13] [])) (λqW3=>aC 9 53 (aS 10 λx_6 _=>aS 5 λx_7 _=>aC 5 68 af af) af) (λeW3=>aS 7 λx_8 _=>aG 2 λx_9 _=>b9 3 76 af af) (λeW3=>af)) af) af)) (λeW2=>aN 7 x_1.events (aC 3 80 af af)) (λeW2=>af)))) (λeW1=>af)) af)))
namespace cS
def cI (p1 k8:Int) (tb3:Trace) (xb7:Event) (ab9:Assign) (j10:Int):Option (Fw Int Unit Unit):=
 aj (decide (j10<k8))
 ((idx xb7.assign j10).bind λx_20=>
 aj (x_20.var==ab9.var)
 (some (.r ()))
 (some (.n (IntKind.wrap .i64 (j10+1)))))
 (some (.x ()))
def W3 (p1 k8 j10:Int) (tb3:Trace) (xb7:Event) (ab9:Assign):Option (Fw Int Unit Int):=
 (aK (λq:Int=>cI p1 k8 tb3 xb7 ab9 q) j10).bind (Fw.elim
 (λe=>some (.n (IntKind.wrap .i64 (k8+1))))
 (λe=>some (.r 8)))
def aY (p1:Int) (tb3:Trace) (xb7:Event) (k8:Int):Option (Fw Int Unit Int):=
 aj (decide (k8<(len xb7.assign)))
 ((idx xb7.assign k8).bind λx_15=>
 (aj (decide (x_15.var<0))
 (some true)
 ((idx tb3.procs p1).bind λx_16=>
 some (decide (x_15.var>=(len x_16.vars)))):Option Bool).bind λx_17=>
 (aj x_17
 (some true)
 ((n_ x_15.value).bind λx_18=>
 some (!x_18)):Option Bool).bind λx_19=>
 aj x_19
 (some (.r 2))
 (W3 p1 k8 0 tb3 xb7 x_15))
 (some (.x ()))
def W2 (p1 k8:Int) (tb3:Trace) (xb7:Event):Option Int:=
 (aK (λq:Int=>aY p1 tb3 xb7 q) k8).bind (Fw.elim
 (λe=>some 0)
 (λe=>some e))
def J1 (p1 i2:Int) (tb3:Trace) (xb7:Event):Option Int:=
 (aj (decide (xb7.time<0))
 (some true)
 (some (decide (xb7.time>1099511627776))):Option Bool).bind λx_10=>
 (aj x_10
 (some true)
 ((aj (decide (i2>0))
 ((idx tb3.procs p1).bind λx_11=>
 (idx x_11.events (IntKind.wrap .i64 (i2-1))).bind λx_12=>
 some (decide (xb7.time<x_12.time)))
 (some false):Option Bool).bind λx_13=>
 some x_13):Option Bool).bind λx_14=>
 aj x_14
 (some 11)
 (aj (decide ((len xb7.assign)>8))
 (some 5)
 (cS.W2 p1 0 tb3 xb7))
theorem vf (p1 i2:Int) (tb3:Trace) (xb7:Event):Le ((J1 p1 i2 tb3 xb7).bind (λr=>some [.int .i64 r])) (bA Sy cL (pO (tr Tx 119)) (tv (tb Tx 119) [1,1,1,0] [] (aH [Iv 1 p1,Iv 2 i2,Pv 3,Pv 7] [Xb 3 tb3,Xb 7 xb7]))):=
 aX 7 4 [71] 75 (aC 7 71 (aA 4) (aA 4)) λx_10=>aX 1 19 [2,76] 95 (aC 1 76 (aA 19) (aX 3 15 [2,79] 94 (aC 3 79 (aS 5 λx_11 _=>aS 4 λx_12 _=>aA 4) (aA 15)) λx_13=>aA 1)) λx_14=>aC 2 95 af (aN 8 xb7.assign (aC 3 99 af (bS 11 (λqW2=>(aH [Iv 1 p1,Pv 3,Pv 7,Iv 8 qW2] [Xb 3 tb3,Xb 7 xb7])) (λeW2=>(0,(aH [] []))) (λeW2=>(aH [Iv 6 eW2] [])) (λqW2=>aN 7 xb7.assign (aC 3 104 (aS 10 λx_15 _=>aX 12 11 [115] 126 (aC 12 115 (aA 11) (aS 5 λx_16 _=>aN 2 x_16.vars (aA 2))) λx_17=>zC 1 5 [130] (λx_19=>(aH [Iv 1 p1,Pv 3,Pv 7,Iv 8 qW2,Bv 104 true,Pv 9,Bv 132 x_19] [Xb 3 tb3,Xb 7 xb7,Xb 9 x_15])) (aC 1 127 (aA 5) (fq 2 λx_18 _=>aA 2)) λx_19=>aC 2 132 af (bS 10 (λqW3=>(aH [Iv 1 p1,Pv 3,Pv 7,Iv 8 qW2,Pv 9,Iv 10 qW3] [Xb 3 tb3,Xb 7 xb7,Xb 9 x_15])) (λeW3=>(2,(aH [Iv 1 p1,Pv 3,Pv 7,Iv 8 qW2] [Xb 3 tb3,Xb 7 xb7]))) (λeW3=>(aH [Iv 6 8] [])) (λqW3=>aC 9 135 (aS 10 λx_20 _=>aC 7 146 af af) af) (λeW3=>af) (λeW3=>af))) af)) (λeW2=>af) (λeW2=>af))))
end cS
def cS (t0:Trace) (p1 i2:Int):Option Int:=
 (idx t0.procs p1).bind λx_1=>
 (idx x_1.events i2).bind λx_2=>
 aj (x_2.kind==1)
 ((aj (x_2.peer==0)
 (some (!(x_2.message==0)))
 (some true):Option Bool).bind λx_3=>
 aj x_3
 (some 3)
 (cS.J1 p1 i2 t0 x_2))
 ((aj (x_2.kind==2)
 (some false)
 (some (!(x_2.kind==3))):Option Bool).bind λx_4=>
 (aj x_4
 (some true)
 (some (decide (x_2.peer<0))):Option Bool).bind λx_5=>
 (aj x_5
 (some true)
 (some (decide (x_2.peer>=(len t0.procs)))):Option Bool).bind λx_6=>
 (aj x_6
 (some true)
 (some (x_2.peer==p1)):Option Bool).bind λx_7=>
 (aj x_7
 (some true)
 (some (decide (x_2.message<0))):Option Bool).bind λx_8=>
 (aj x_8
 (some true)
 (some (decide (x_2.message>199))):Option Bool).bind λx_9=>
 aj x_9
 (some 3)
 (cS.J1 p1 i2 t0 x_2))
open cS in
instance P0 (t0:Trace) (p1 i2:Int):Fc Sy cL (cS t0 p1 i2):=Fc.M 119 [enc t0,.int .i64 p1,.int .i64 i2] (bE 2 3 t0 (aS 8 λx_1 _=>aS 3 λx_2 _=>g_ 2 7 0 x_2 (aC 10 22 (aX 7 4 [26] 30 (b9 7 26 (aA 4) (aA 4)) λx_3=>aC 2 30 af (Cd 4 (vf p1 i2 t0 x_2))) (aX 7 4 [34] 38 (b9 7 34 (aA 4) (aA 4)) λx_4=>aX 1 4 [39] 43 (aC 1 39 (aA 4) (aA 4)) λx_5=>aX 1 7 [44] 51 (aC 1 44 (aA 7) (aN 4 t0.procs (aA 2))) λx_6=>aX 1 5 [52] 57 (aC 1 52 (aA 5) (aA 5)) λx_7=>aX 1 4 [58] 62 (aC 1 58 (aA 4) (aA 4)) λx_8=>aX 1 4 [63] 67 (aC 1 63 (aA 4) (aA 4)) λx_9=>aC 2 67 af (Cd 4 (vf p1 i2 t0 x_2))))))
namespace gp
def an (tb2:Trace) (xb3:aa) (eb5:Event) (sent6:Bool) (i7:Int):Option (Fw (Bool×Int) Bool Empty):=
 (idx tb2.procs eb5.peer).bind λx_3=>
 aj (decide (i7<(len x_3.events)))
 ((idx tb2.procs eb5.peer).bind λx_4=>
 (idx x_4.events i7).bind λx_5=>
 (aj sent6
 (some true)
 ((aj (x_5.kind==2)
 (some (x_5.message==eb5.message))
 (some false):Option Bool).bind λx_6=>
 (aj x_6
 (some (x_5.peer==xb3.proc))
 (some false):Option Bool).bind λx_7=>
 some x_7):Option Bool).bind λx_8=>
 some (.n (x_8,IntKind.wrap .i64 (i7+1))))
 (some (.x sent6))
def W1 (sent6:Bool) (i7:Int) (tb2:Trace) (xb3:aa) (eb5:Event):Option Int:=
 (aK (λq:Bool×Int=>an tb2 xb3 eb5 q.1 q.2) (sent6,i7)).bind (Fw.elim
 (λe=>aj e
 (some 0)
 (some 7))
 (λe=>Empty.elim e))
end gp
def gp (t0:Trace) (x1:aa):Option Int:=
 (sV t0 x1).bind λx_1=>
 aj (x_1.kind==1)
 (some 0)
 ((cC t0 x_1.kind x_1.message).bind λx_2=>
 aj (GR x_2 x1)
 (aj (x_1.kind==3)
 (gp.W1 false 0 t0 x1 x_1)
 (some 0))
 (some 8))
open gp in
instance NB (t0:Trace) (x1:aa):Fc Sy cL (gp t0 x1):=Fc.M 120 [enc t0,enc x1] (bE 2 2 t0 (aG 8 λx_1 _=>g_ 1 5 0 x_1 (aC 10 14 af (fq 11 λx_2 _=>b9 4 22 (aC 11 25 (fL 14 (λqW1=>(aH [Pv 2,Pv 3,Pv 5,Bv 6 qW1.1,Iv 7 qW1.2] [Xb 2 t0,Xb 3 x1,Xb 5 x_1])) (λeW1=>(0,(aH [Bv 6 eW1] []))) (λqW1=>aS 9 λx_3 _=>aN 2 x_3.events (aC 3 35 (aS 11 λx_4 _=>aS 3 λx_5 _=>g_ 2 8 0 x_5 (aX 5 18 [8,49] 67 (aC 5 49 (aA 18) (aX 4 6 [53] 59 (aC 4 53 (aA 6) (aA 6)) λx_6=>aX 1 6 [8,60] 66 (aC 1 60 (aA 6) (aA 6)) λx_7=>aA 1)) λx_8=>af)) af)) (λeW1=>b9 8 69 af af)) af) af))))
namespace bW
def J4 (done3:Sl Int) (p5:Int) (tb1:Trace):Option (Fw ((Sl Int)×Bool) ((Sl Int)×Bool) Empty):=
 (Sl.mw done3 p5).bind λx_12=>
 (Sl.get done3 x_12).bind λx_13=>
 (Sl.mw done3 p5).bind λx_14=>
 (Sl.put done3 x_14 (IntKind.wrap .i64 (x_13+1):Int)).bind λx_15=>
 some (.n (x_15,true))
def cI (p5:Int) (tb1:Trace) (done3:Sl Int) (moved4:Bool):Option (Fw ((Sl Int)×Bool) ((Sl Int)×Bool) Empty):=
 (Sl.mw done3 p5).bind λx_2=>
 (Sl.get done3 x_2).bind λx_3=>
 (idx tb1.procs p5).bind λx_4=>
 aj (decide (x_3<(len x_4.events)))
 ((idx tb1.procs p5).bind λx_5=>
 (Sl.mw done3 p5).bind λx_6=>
 (Sl.get done3 x_6).bind λx_7=>
 (idx x_5.events x_7).bind λx_8=>
 aj (x_8.kind==3)
 ((cC tb1 2 x_8.message).bind λx_9=>
 (Sl.mw done3 x_9.proc).bind λx_10=>
 (Sl.get done3 x_10).bind λx_11=>
 aj (decide (x_11<x_9.index))
 (some (.x (done3,moved4)))
 (J4 done3 p5 tb1))
 (J4 done3 p5 tb1))
 (some (.x (done3,moved4)))
def W3 (done3:Sl Int) (moved4:Bool) (p5:Int) (tb1:Trace):Option (Fw ((Sl Int)×Bool×Int) ((Sl Int)×Bool) Empty):=
 (aK (λq:(Sl Int)×Bool=>cI p5 tb1 q.1 q.2) (done3,moved4)).bind (Fw.elim
 (λe=>some (.n (e.1,e.2,IntKind.wrap .i64 (p5+1))))
 (λe=>Empty.elim e))
def aY (tb1:Trace) (done3:Sl Int) (moved4:Bool) (p5:Int):Option (Fw ((Sl Int)×Bool×Int) ((Sl Int)×Bool) Empty):=
 aj (decide (p5<(len tb1.procs)))
 (W3 done3 moved4 p5 tb1)
 (some (.x (done3,moved4)))
def W2 (done3:Sl Int) (moved4:Bool) (p5:Int) (tb1:Trace):Option (Fw (Sl Int) (Sl Int) Empty):=
 (aK (λq:(Sl Int)×Bool×Int=>aY tb1 q.1 q.2.1 q.2.2) (done3,moved4,p5)).bind (Fw.elim
 (λe=>aj e.2
 (some (.n e.1))
 (some (.x e.1)))
 (λe=>Empty.elim e))
def ov (done3:Sl Int) (tb1:Trace) (p8:Int):Option (Fw Int Unit Unit):=
 aj (decide (p8<(len tb1.procs)))
 ((Sl.mw done3 p8).bind λx_16=>
 (Sl.get done3 x_16).bind λx_17=>
 (idx tb1.procs p8).bind λx_18=>
 aj (decide (x_17<(len x_18.events)))
 (some (.r ()))
 (some (.n (IntKind.wrap .i64 (p8+1)))))
 (some (.x ()))
def W5 (done3:Sl Int) (p8:Int) (tb1:Trace):Option Bool:=
 (aK (λq:Int=>ov done3 tb1 q) p8).bind (Fw.elim
 (λe=>some true)
 (λe=>some false))
def an (tb1:Trace) (done3:Sl Int):Option (Fw (Sl Int) (Sl Int) Empty):=
 W2 done3 false 0 tb1
def W1 (done3:Sl Int) (tb1:Trace):Option Bool:=
 (aK (λq:Sl Int=>an tb1 q) done3).bind (Fw.elim
 (λe=>bW.W5 e 0 tb1)
 (λe=>Empty.elim e))
end bW
def bW (t0:Trace):Option Bool:=
 (tw (len t0.procs) (0:Int)).bind λx_1=>
 bW.W1 x_1 t0
open bW in
instance L8 (t0:Trace):Fc Sy cL (bW t0):=Fc.M 121 [enc t0] (bE 2 1 t0 (aN 7 t0.procs (QG 0 12 λx_1 _=>fL 7 (λqW1=>(aH [Pv 1,Ov 3] [Xb 1 t0,Lb 2003 qW1])) (λeW1=>(0,(aH [Pv 1,Ov 3] [Xb 1 t0,Lb 2003 eW1]))) (λqW1=>fL 17 (λqW2=>(aH [Pv 1,Ov 3,Bv 4 qW2.2.1,Iv 5 qW2.2.2] [Xb 1 t0,Lb 2003 qW2.1])) (λeW2=>(2,(aH [Pv 1,Ov 3,Bv 4 eW2.2] [Xb 1 t0,Lb 2003 eW2.1]))) (λqW2=>aN 8 t0.procs (aC 3 17 (fL 8 (λqW3=>(aH [Pv 1,Ov 3,Bv 4 qW3.2,Iv 5 qW2.2.2] [Xb 1 t0,Lb 2003 qW3.1])) (λeW3=>(4,(aH [Pv 1,Ov 3,Bv 4 eW3.2,Iv 5 qW2.2.2] [Xb 1 t0,Lb 2003 eW3.1]))) (λqW3=>nN .i64 7 2003 λx_2 _=>uM 0 2003 0 1 false (λx_3=>.int .i64 x_3) λx_3 _=>aS 3 λx_4 _=>aN 2 x_4.events (aC 3 31 (aS 9 λx_5 _=>nN .i64 4 2003 λx_6 _=>uM 0 2003 0 1 false (λx_7=>.int .i64 x_7) λx_7 _=>aS 0 λx_8 _=>g_ 2 6 0 x_8 (aC 10 46 (aG 6 λx_9 _=>nN .i64 9 2003 λx_10 _=>uM 0 2003 0 1 false (λx_11=>.int .i64 x_11) λx_11 _=>aC 5 58 af (xP 5 (nN .i64 4 2003 λx_12 _=>uM 0 2003 0 1 false (λx_13=>.int .i64 x_13) λx_13 _=>nN .i64 1 2003 λx_14 _=>Cm 0 2003 (.int .i64 (IntKind.wrap .i64 (x_13+1))) λx_15 _=>af))) (xP 5 (nN .i64 4 2003 λx_12 _=>uM 0 2003 0 1 false (λx_13=>.int .i64 x_13) λx_13 _=>nN .i64 1 2003 λx_14 _=>Cm 0 2003 (.int .i64 (IntKind.wrap .i64 (x_13+1))) λx_15 _=>af)))) af)) (λeW3=>af)) af)) (λeW2=>b9 8 66 af af)) (λeW1=>bS 11 (λqW5=>(aH [Pv 1,Ov 3,Iv 8 qW5] [Xb 1 t0,Lb 2003 eW1])) (λeW5=>(6,(aH [] []))) (λeW5=>(aH [Bv 2 false] [])) (λqW5=>aN 8 t0.procs (aC 3 71 (nN .i64 9 2003 λx_16 _=>uM 0 2003 0 1 false (λx_17=>.int .i64 x_17) λx_17 _=>aS 3 λx_18 _=>aN 2 x_18.events (aC 3 85 af af)) af)) (λeW5=>af) (λeW5=>af)))))
instance Qn (t:Trace) (x:aa):Fc Sy cL (lI t x):=Fc.of (A:=λz:Trace×aa=>[enc z.1,enc z.2]) (E:=λr:Sl (Sl Bool)=>[enc r]) (p:=λz=>lI z.1 z.2) (n:=122) (z:=(t,x)) (mm.T0 (by kernel_rfl) (by kernel_rfl) (λz r hr=>LJ z.1 z.2 r hr))
namespace bP
def cI (p6:Int) (tb1:Trace) (vb2:aa) (i7:Int):Option (Fw Int Unit (Int×aa)):=
 (idx tb1.procs p6).bind λx_3=>
 aj (decide (i7<(len x_3.events)))
 ((cS tb1 p6 i7).bind λx_4=>
 aj (x_4==0)
 (some (.n (IntKind.wrap .i64 (i7+1))))
 (some (.r (x_4,(⟨p6,IntKind.wrap .i64 (i7+1)⟩:aa)))))
 (some (.x ()))
def W3 (p6 i7:Int) (tb1:Trace) (vb2:aa):Option (Fw Int Unit (Int×aa)):=
 (aK (λq:Int=>cI p6 tb1 vb2 q) i7).bind (Fw.elim
 (λe=>some (.n (IntKind.wrap .i64 (p6+1))))
 (λe=>some (.r (e.1,e.2))))
def ov (p9:Int) (tb1:Trace) (vb2:aa) (i10:Int):Option (Fw Int Unit (Int×aa)):=
 (idx tb1.procs p9).bind λx_5=>
 aj (decide (i10<(len x_5.events)))
 ((gp tb1 (⟨p9,IntKind.wrap .i64 (i10+1)⟩:aa)).bind λx_6=>
 aj (x_6==0)
 (some (.n (IntKind.wrap .i64 (i10+1))))
 (some (.r (x_6,(⟨p9,IntKind.wrap .i64 (i10+1)⟩:aa)))))
 (some (.x ()))
def W5 (p9 i10:Int) (tb1:Trace) (vb2:aa):Option (Fw Int Unit (Int×aa)):=
 (aK (λq:Int=>ov p9 tb1 vb2 q) i10).bind (Fw.elim
 (λe=>some (.n (IntKind.wrap .i64 (p9+1))))
 (λe=>some (.r (e.1,e.2))))
def Hg (p13:Int) (tb1:Trace) (vb2:aa) (i14:Int):Option (Fw Int Unit aa):=
 (idx tb1.procs p13).bind λx_7=>
 aj (decide (i14<(len x_7.events)))
 ((lI tb1 (⟨p13,IntKind.wrap .i64 (i14+1)⟩:aa)).bind λx_8=>
 (idx x_8 p13).bind λx_9=>
 (idx x_9 (IntKind.wrap .i64 (i14+1))).bind λx_10=>
 aj x_10
 (some (.r (⟨p13,IntKind.wrap .i64 (i14+1)⟩:aa)))
 (some (.n (IntKind.wrap .i64 (i14+1)))))
 (some (.x ()))
def W7 (p13 i14:Int) (tb1:Trace) (vb2:aa):Option (Fw Int Unit aa):=
 (aK (λq:Int=>Hg p13 tb1 vb2 q) i14).bind (Fw.elim
 (λe=>some (.n (IntKind.wrap .i64 (p13+1))))
 (λe=>some (.r e)))
def Hp (tb1:Trace) (vb2:aa) (p13:Int):Option (Fw Int Unit aa):=
 aj (decide (p13<(len tb1.procs)))
 (W7 p13 0 tb1 vb2)
 (some (.x ()))
def W6 (p13:Int) (tb1:Trace) (vb2:aa):Option (aa×Int):=
 (aK (λq:Int=>Hp tb1 vb2 q) p13).bind (Fw.elim
 (λe=>some (⟨0,0⟩,0))
 (λe=>some (e,10)))
def jI (tb1:Trace) (vb2:aa) (p9:Int):Option (Fw Int Unit (Int×aa)):=
 aj (decide (p9<(len tb1.procs)))
 (W5 p9 0 tb1 vb2)
 (some (.x ()))
def W4 (p9:Int) (tb1:Trace) (vb2:aa):Option (aa×Int):=
 (aK (λq:Int=>jI tb1 vb2 q) p9).bind (Fw.elim
 (λe=>(bW tb1).bind λx_11=>
 aj x_11
 (some (⟨0,0⟩,0))
 (bP.W6 0 tb1 vb2))
 (λe=>some (e.2,e.1)))
def aY (tb1:Trace) (vb2:aa) (p6:Int):Option (Fw Int Unit (Int×aa)):=
 aj (decide (p6<(len tb1.procs)))
 (W3 p6 0 tb1 vb2)
 (some (.x ()))
def W2 (p6:Int) (tb1:Trace) (vb2:aa):Option (aa×Int):=
 (aK (λq:Int=>aY tb1 vb2 q) p6).bind (Fw.elim
 (λe=>bP.W4 0 tb1 vb2)
 (λe=>some (e.2,e.1)))
def an (tb1:Trace) (vb2:aa) (p4:Int):Option (Fw Int Unit (Int×aa)):=
 aj (decide (p4<(len tb1.procs)))
 ((cT tb1 p4).bind λx_2=>
 aj (x_2==0)
 (some (.n (IntKind.wrap .i64 (p4+1))))
 (some (.r (x_2,(⟨p4,0⟩:aa)))))
 (some (.x ()))
def W1 (p4:Int) (tb1:Trace) (vb2:aa):Option (aa×Int):=
 (aK (λq:Int=>an tb1 vb2 q) p4).bind (Fw.elim
 (λe=>bP.W2 0 tb1 vb2)
 (λe=>some (e.2,e.1)))
end bP
def bP (t0:Trace):Option (aa×Int):=
 (aj (decide ((len t0.procs)<1))
 (some true)
 (some (decide ((len t0.procs)>8))):Option Bool).bind λx_1=>
 aj x_1
 (some (⟨0,0⟩,1))
 (bP.W1 0 t0 (⟨0,0⟩:aa))
open bP in
instance PM (t0:Trace):Fc Sy cL (bP t0):=Fc.M 92 [enc t0] (bE 2 1 t0 (aN 9 t0.procs (aX 2 5 [20] 25 (aC 2 20 (aA 5) (aN 2 t0.procs (aA 2))) λx_1=>aC 2 25 af (bS 11 (λqW1=>(aH [Pv 1,Pv 2,Iv 4 qW1] [Xb 1 t0,Xb 2 (⟨0,0⟩:aa)])) (λeW1=>(0,(aH [Pv 1,Pv 2] [Xb 1 t0,Xb 2 (⟨0,0⟩:aa)]))) (λeW1=>(aH [Pv 2,Iv 3 eW1.1] [Xb 2 eW1.2])) (λqW1=>aN 7 t0.procs (aC 3 31 (aG 9 λx_2 _=>b9 9 38 af af) af)) (λeW1=>bS 10 (λqW2=>(aH [Pv 1,Pv 2,Iv 6 qW2] [Xb 1 t0,Xb 2 (⟨0,0⟩:aa)])) (λeW2=>(2,(aH [Pv 1,Pv 2] [Xb 1 t0,Xb 2 (⟨0,0⟩:aa)]))) (λeW2=>(aH [Pv 2,Iv 3 eW2.1] [Xb 2 eW2.2])) (λqW2=>aN 7 t0.procs (aC 3 46 (bS 12 (λqW3=>(aH [Pv 1,Pv 2,Iv 6 qW2,Iv 7 qW3] [Xb 1 t0,Xb 2 (⟨0,0⟩:aa)])) (λeW3=>(4,(aH [Pv 1,Pv 2,Iv 6 qW2] [Xb 1 t0,Xb 2 (⟨0,0⟩:aa)]))) (λeW3=>(aH [Pv 2,Iv 3 eW3.1] [Xb 2 eW3.2])) (λqW3=>aS 8 λx_3 _=>aN 2 x_3.events (aC 3 57 (aG 10 λx_4 _=>b9 9 65 af af) af)) (λeW3=>af) (λeW3=>af)) af)) (λeW2=>bS 10 (λqW4=>(aH [Pv 1,Pv 2,Iv 9 qW4] [Xb 1 t0,Xb 2 (⟨0,0⟩:aa)])) (λeW4=>(6,(aH [Pv 1,Pv 2] [Xb 1 t0,Xb 2 (⟨0,0⟩:aa)]))) (λeW4=>(aH [Pv 2,Iv 3 eW4.1] [Xb 2 eW4.2])) (λqW4=>aN 7 t0.procs (aC 3 75 (bS 12 (λqW5=>(aH [Pv 1,Pv 2,Iv 9 qW4,Iv 10 qW5] [Xb 1 t0,Xb 2 (⟨0,0⟩:aa)])) (λeW5=>(8,(aH [Pv 1,Pv 2,Iv 9 qW4] [Xb 1 t0,Xb 2 (⟨0,0⟩:aa)]))) (λeW5=>(aH [Pv 2,Iv 3 eW5.1] [Xb 2 eW5.2])) (λqW5=>aS 8 λx_5 _=>aN 2 x_5.events (aC 3 86 (aG 19 λx_6 _=>b9 9 97 af af) af)) (λeW5=>af) (λeW5=>af)) af)) (λeW4=>aG 6 λx_11 _=>aC 2 101 af (bS 11 (λqW6=>(aH [Pv 1,Pv 2,Iv 13 qW6] [Xb 1 t0,Xb 2 (⟨0,0⟩:aa)])) (λeW6=>(10,(aH [Pv 2] [Xb 2 (⟨0,0⟩:aa)]))) (λeW6=>(aH [Pv 2,Iv 3 10] [Xb 2 eW6])) (λqW6=>aN 7 t0.procs (aC 3 107 (bS 12 (λqW7=>(aH [Pv 1,Pv 2,Iv 13 qW6,Iv 14 qW7] [Xb 1 t0,Xb 2 (⟨0,0⟩:aa)])) (λeW7=>(12,(aH [Pv 1,Pv 2,Iv 13 qW6] [Xb 1 t0,Xb 2 (⟨0,0⟩:aa)]))) (λeW7=>(aH [Pv 2,Iv 3 10] [Xb 2 eW7])) (λqW7=>aS 8 λx_7 _=>aN 2 x_7.events (aC 3 118 (aG 19 λx_8 _=>aS 1 λx_9 _=>aS 3 λx_10 _=>aC 3 134 af af) af)) (λeW7=>af) (λeW7=>af)) af)) (λeW6=>af) (λeW6=>af))) (λeW4=>af)) (λeW2=>af)) (λeW1=>af)))))
def dL (t0:Trace):Option Bool:=
 (bP t0).bind λx_1=>
 some (x_1.2==0)
instance Pu (t0:Trace):Fc Sy cL (dL t0):=Fc.M 48 [enc t0] (bE 2 1 t0 (aG 6 λx_1 _=>af))
def vK (t0:Trace) (c1:Sl Int):Option Bool:=
 some ((len c1)==(len t0.procs))
instance P8 (t0:Trace) (c1:Sl Int):Fc Sy cL (vK t0 c1):=Fc.M 93 [enc t0,enc c1] (bE 2 2 t0 (aN 6 c1 (aN 2 t0.procs af)))
namespace kI
def an (c1:Sl Int) (tb2:Trace) (p5:Int):Option (Fw Int Unit Unit):=
 aj (decide (p5<(len c1)))
 ((idx c1 p5).bind λx_1=>
 (aj (decide (x_1<0))
 (some true)
 ((idx c1 p5).bind λx_2=>
 (idx tb2.procs p5).bind λx_3=>
 some (decide (x_2>(len x_3.events)))):Option Bool).bind λx_4=>
 aj x_4
 (some (.r ()))
 (some (.n (IntKind.wrap .i64 (p5+1)))))
 (some (.x ()))
def W1 (c1:Sl Int) (p5:Int) (tb2:Trace):Option Bool:=
 (aK (λq:Int=>an c1 tb2 q) p5).bind (Fw.elim
 (λe=>some true)
 (λe=>some false))
end kI
def kI (t0:Trace) (c1:Sl Int):Option Bool:=
 kI.W1 c1 0 t0
open kI in
instance Pd (t0:Trace) (c1:Sl Int):Fc Sy cL (kI t0 c1):=Fc.M 94 [enc t0,enc c1] (bE 2 2 t0 (bS 11 (λqW1=>(aH [Cv 1 c1,Pv 2,Iv 5 qW1] [Xb 2 t0])) (λeW1=>(0,(aH [] []))) (λeW1=>(aH [Bv 4 false] [])) (λqW1=>aN 6 c1 (aC 3 9 (aS 9 λx_1 _=>aX 3 13 [17] 30 (aC 3 17 (aA 13) (aS 2 λx_2 _=>aS 4 λx_3 _=>aN 2 x_3.events (aA 2))) λx_4=>aC 2 30 af af) af)) (λeW1=>af) (λeW1=>af)))
def vH (t0:Trace) (c1:Sl Int) (p2 i3:Int):Option Bool:=
 (idx t0.procs p2).bind λx_1=>
 (idx x_1.events i3).bind λx_2=>
 aj (x_2.kind==3)
 ((cC t0 2 x_2.message).bind λx_3=>
 (idx c1 x_3.proc).bind λx_4=>
 some (decide (x_3.index<=x_4)))
 (some true)
instance P_ (t0:Trace) (c1:Sl Int) (p2 i3:Int):Fc Sy cL (vH t0 c1 p2 i3):=Fc.M 123 [enc t0,enc c1,.int .i64 p2,.int .i64 i3] (bE 2 4 t0 (aS 8 λx_1 _=>aS 3 λx_2 _=>g_ 2 9 0 x_2 (b9 10 22 (aG 8 λx_3 _=>aS 11 λx_4 _=>af) af)))
namespace dJ
def aY (c1:Sl Int) (p5:Int) (tb2:Trace) (i6:Int):Option (Fw Int Unit Unit):=
 (idx c1 p5).bind λx_1=>
 aj (decide (i6<x_1))
 ((vH tb2 c1 p5 i6).bind λx_2=>
 aj x_2
 (some (.n (IntKind.wrap .i64 (i6+1))))
 (some (.r ())))
 (some (.x ()))
def W2 (c1:Sl Int) (p5 i6:Int) (tb2:Trace):Option (Fw Int Unit Unit):=
 (aK (λq:Int=>aY c1 p5 tb2 q) i6).bind (Fw.elim
 (λe=>some (.n (IntKind.wrap .i64 (p5+1))))
 (λe=>some (.r ())))
def an (c1:Sl Int) (tb2:Trace) (p5:Int):Option (Fw Int Unit Unit):=
 aj (decide (p5<(len c1)))
 (W2 c1 p5 0 tb2)
 (some (.x ()))
def W1 (c1:Sl Int) (p5:Int) (tb2:Trace):Option Bool:=
 (aK (λq:Int=>an c1 tb2 q) p5).bind (Fw.elim
 (λe=>some true)
 (λe=>some false))
end dJ
def dJ (t0:Trace) (c1:Sl Int):Option Bool:=
 dJ.W1 c1 0 t0
open dJ in
instance Nt (t0:Trace) (c1:Sl Int):Fc Sy cL (dJ t0 c1):=Fc.M 95 [enc t0,enc c1] (bE 2 2 t0 (bS 11 (λqW1=>(aH [Cv 1 c1,Pv 2,Iv 5 qW1] [Xb 2 t0])) (λeW1=>(0,(aH [] []))) (λeW1=>(aH [Bv 4 false] [])) (λqW1=>aN 6 c1 (aC 3 10 (bS 12 (λqW2=>(aH [Cv 1 c1,Pv 2,Iv 5 qW1,Iv 6 qW2] [Xb 2 t0])) (λeW2=>(2,(aH [Cv 1 c1,Pv 2,Iv 5 qW1] [Xb 2 t0]))) (λeW2=>(aH [Bv 4 false] [])) (λqW2=>aS 7 λx_1 _=>aC 4 18 (aG 11 λx_2 _=>b9 3 26 af af) af) (λeW2=>af) (λeW2=>af)) af)) (λeW1=>af) (λeW1=>af)))
def eE (t0:Trace) (c1:Sl Int):Option Bool:=
 (dL t0).bind λx_1=>
 (aj x_1
 ((vK t0 c1).bind λx_2=>
 some x_2)
 (some false):Option Bool).bind λx_3=>
 (aj x_3
 ((kI t0 c1).bind λx_4=>
 some x_4)
 (some false):Option Bool).bind λx_5=>
 (aj x_5
 ((dJ t0 c1).bind λx_6=>
 some x_6)
 (some false):Option Bool).bind λx_7=>
 some x_7
instance Jp (t0:Trace) (c1:Sl Int):Fc Sy cL (eE t0 c1):=Fc.M 49 [enc t0,enc c1] (bE 2 2 t0 (aG 6 λx_1 _=>aX 1 4 [7] 11 (aC 1 7 (aG 2 λx_2 _=>aA 1) (aA 4)) λx_3=>aX 1 4 [12] 16 (aC 1 12 (aG 2 λx_4 _=>aA 1) (aA 4)) λx_5=>aX 1 4 [1,2,17] 21 (aC 1 17 (aG 2 λx_6 _=>aA 1) (aA 4)) λx_7=>af))
namespace c8
def an (a0 b1:Sl Int) (i5:Int):Option (Fw Int Unit Unit):=
 aj (decide (i5<(len a0)))
 ((idx a0 i5).bind λx_1=>
 (idx b1 i5).bind λx_2=>
 aj (decide (x_1>x_2))
 (some (.r ()))
 (some (.n (IntKind.wrap .i64 (i5+1)))))
 (some (.x ()))
def W1 (a0 b1:Sl Int) (i5:Int):Option Bool:=
 (aK (λq:Int=>an a0 b1 q) i5).bind (Fw.elim
 (λe=>some true)
 (λe=>some false))
end c8
def c8 (a0 b1:Sl Int):Option Bool:=
 aj ((len a0)==(len b1))
 (c8.W1 a0 b1 0)
 (some false)
open c8 in
instance RK (a0 b1:Sl Int):Fc Sy cL (c8 a0 b1):=Fc.M 50 [enc a0,enc b1] (aN 9 a0 (aN 1 b1 (b9 3 10 (bS 11 (λqW1=>(aH [Cv 0 a0,Cv 1 b1,Iv 5 qW1] [])) (λeW1=>(0,(aH [] []))) (λeW1=>(aH [Bv 4 false] [])) (λqW1=>aN 6 a0 (aC 3 14 (aS 9 λx_1 _=>aS 3 λx_2 _=>aC 4 25 af af) af)) (λeW1=>af) (λeW1=>af)) af)))
namespace cM
def an (a0 b1:Sl Int) (i5:Int):Option (Fw Int Unit Unit):=
 aj (decide (i5<(len a0)))
 ((idx a0 i5).bind λx_1=>
 (idx b1 i5).bind λx_2=>
 aj (x_1==x_2)
 (some (.n (IntKind.wrap .i64 (i5+1))))
 (some (.r ())))
 (some (.x ()))
def W1 (a0 b1:Sl Int) (i5:Int):Option Bool:=
 (aK (λq:Int=>an a0 b1 q) i5).bind (Fw.elim
 (λe=>some true)
 (λe=>some false))
end cM
def cM (a0 b1:Sl Int):Option Bool:=
 aj ((len a0)==(len b1))
 (cM.W1 a0 b1 0)
 (some false)
open cM in
instance Ls (a0 b1:Sl Int):Fc Sy cL (cM a0 b1):=Fc.M 54 [enc a0,enc b1] (aN 9 a0 (aN 1 b1 (b9 3 10 (bS 11 (λqW1=>(aH [Cv 0 a0,Cv 1 b1,Iv 5 qW1] [])) (λeW1=>(0,(aH [] []))) (λeW1=>(aH [Bv 4 false] [])) (λqW1=>aN 6 a0 (aC 3 14 (aS 9 λx_1 _=>aS 3 λx_2 _=>b9 4 25 af af) af)) (λeW1=>af) (λeW1=>af)) af)))
def oC (t0:Trace) (s1:Slice) (p2 i3:Int):Option Bool:=
 (idx s1.j p2).bind λx_1=>
 (idx x_1 i3).bind λx_2=>
 (idx s1.last p2).bind λx_3=>
 aj (decide (i3>=x_3))
 (some ((len x_2)==0))
 ((idx s1.first p2).bind λx_4=>
 aj (decide (i3<x_4))
 ((cM x_2 s1.first).bind λx_5=>
 some x_5)
 ((eE t0 x_2).bind λx_6=>
 (aj x_6
 ((idx x_2 p2).bind λx_7=>
 some (decide (x_7>i3)))
 (some false):Option Bool).bind λx_8=>
 (aj x_8
 ((c8 s1.first x_2).bind λx_9=>
 some x_9)
 (some false):Option Bool).bind λx_10=>
 (aj x_10
 ((c8 x_2 s1.last).bind λx_11=>
 some x_11)
 (some false):Option Bool).bind λx_12=>
 some x_12))
instance MC (t0:Trace) (s1:Slice) (p2 i3:Int):Fc Sy cL (oC t0 s1 p2 i3):=Fc.M 51 [enc t0,enc s1,.int .i64 p2,.int .i64 i3] (bE 2 4 t0 (bE 0 5 s1 (aS 8 λx_1 _=>aS 2 λx_2 _=>aS 11 λx_3 _=>aC 4 24 (aN 4 x_2 af) (aS 10 λx_4 _=>aC 4 34 (aG 6 λx_5 _=>af) (aG 7 λx_6 _=>aX 1 7 [2,3,42] 49 (aC 1 42 (aS 2 λx_7 _=>aA 4) (aA 7)) λx_8=>aX 1 5 [50] 55 (aC 1 50 (aG 3 λx_9 _=>aA 1) (aA 5)) λx_10=>aX 1 5 [5,9,56] 61 (aC 1 56 (aG 3 λx_11 _=>aA 1) (aA 5)) λx_12=>af)))))
namespace cQ
def aY (c1:Sl Int) (p5:Int) (sb2:Slice) (i6:Int):Option (Fw Int Unit Unit):=
 (idx c1 p5).bind λx_1=>
 aj (decide (i6<x_1))
 ((idx sb2.j p5).bind λx_2=>
 (idx x_2 i6).bind λx_3=>
 (c8 x_3 c1).bind λx_4=>
 aj x_4
 (some (.n (IntKind.wrap .i64 (i6+1))))
 (some (.r ())))
 (some (.x ()))
def W2 (c1:Sl Int) (p5 i6:Int) (sb2:Slice):Option (Fw Int Unit Unit):=
 (aK (λq:Int=>aY c1 p5 sb2 q) i6).bind (Fw.elim
 (λe=>some (.n (IntKind.wrap .i64 (p5+1))))
 (λe=>some (.r ())))
def an (c1:Sl Int) (sb2:Slice) (p5:Int):Option (Fw Int Unit Unit):=
 aj (decide (p5<(len c1)))
 (W2 c1 p5 0 sb2)
 (some (.x ()))
def W1 (c1:Sl Int) (p5:Int) (sb2:Slice):Option Bool:=
 (aK (λq:Int=>an c1 sb2 q) p5).bind (Fw.elim
 (λe=>some true)
 (λe=>some false))
end cQ
def cQ (s0:Slice) (c1:Sl Int):Option Bool:=
 cQ.W1 c1 0 s0
open cQ in
instance Nz (s0:Slice) (c1:Sl Int):Fc Sy cL (cQ s0 c1):=Fc.M 52 [enc s0,enc c1] (bE 2 2 s0 (bS 11 (λqW1=>(aH [Cv 1 c1,Pv 2,Iv 5 qW1] [Xb 2 s0])) (λeW1=>(0,(aH [] []))) (λeW1=>(aH [Bv 4 false] [])) (λqW1=>aN 6 c1 (aC 3 10 (bS 12 (λqW2=>(aH [Cv 1 c1,Pv 2,Iv 5 qW1,Iv 6 qW2] [Xb 2 s0])) (λeW2=>(2,(aH [Cv 1 c1,Pv 2,Iv 5 qW1] [Xb 2 s0]))) (λeW2=>(aH [Bv 4 false] [])) (λqW2=>aS 7 λx_1 _=>aC 4 18 (aS 10 λx_2 _=>aS 2 λx_3 _=>aG 2 λx_4 _=>b9 3 31 af af) af) (λeW2=>af) (λeW2=>af)) af)) (λeW1=>af) (λeW1=>af)))
namespace bJ
def aY (p5:Int) (tb2:Trace) (sb3:Slice) (i6:Int):Option (Fw Int Unit Unit):=
 (idx sb3.j p5).bind λx_12=>
 aj (decide (i6<(len x_12)))
 ((oC tb2 sb3 p5 i6).bind λx_13=>
 aj x_13
 (some (.n (IntKind.wrap .i64 (i6+1))))
 (some (.r ())))
 (some (.x ()))
def W2 (p5 i6:Int) (tb2:Trace) (sb3:Slice):Option (Fw Int Unit Unit):=
 (aK (λq:Int=>aY p5 tb2 sb3 q) i6).bind (Fw.elim
 (λe=>some (.n (IntKind.wrap .i64 (p5+1))))
 (λe=>some (.r ())))
def jI (p7:Int) (sb3:Slice) (i8:Int):Option (Fw Int Unit Unit):=
 (idx sb3.last p7).bind λx_14=>
 aj (decide (i8<x_14))
 ((idx sb3.j p7).bind λx_15=>
 (idx x_15 i8).bind λx_16=>
 (cQ sb3 x_16).bind λx_17=>
 aj x_17
 (some (.n (IntKind.wrap .i64 (i8+1))))
 (some (.r ())))
 (some (.x ()))
def W4 (p7 i8:Int) (sb3:Slice):Option (Fw Int Unit Unit):=
 (aK (λq:Int=>jI p7 sb3 q) i8).bind (Fw.elim
 (λe=>some (.n (IntKind.wrap .i64 (p7+1))))
 (λe=>some (.r ())))
def cI (sb3:Slice) (p7:Int):Option (Fw Int Unit Unit):=
 aj (decide (p7<(len sb3.j)))
 (W4 p7 0 sb3)
 (some (.x ()))
def W3 (p7:Int) (sb3:Slice):Option Bool:=
 (aK (λq:Int=>cI sb3 q) p7).bind (Fw.elim
 (λe=>some true)
 (λe=>some false))
def an (tb2:Trace) (sb3:Slice) (p5:Int):Option (Fw Int Unit Unit):=
 aj (decide (p5<(len sb3.j)))
 ((idx sb3.j p5).bind λx_10=>
 (idx tb2.procs p5).bind λx_11=>
 aj ((len x_10)==(len x_11.events))
 (W2 p5 0 tb2 sb3)
 (some (.r ())))
 (some (.x ()))
def W1 (p5:Int) (tb2:Trace) (sb3:Slice):Option Bool:=
 (aK (λq:Int=>an tb2 sb3 q) p5).bind (Fw.elim
 (λe=>bJ.W3 0 sb3)
 (λe=>some false))
end bJ
def bJ (t0:Trace) (s1:Slice):Option Bool:=
 (dL t0).bind λx_1=>
 aj x_1
 (aj s1.empty
 ((aj ((len s1.first)==0)
 (some ((len s1.last)==0))
 (some false):Option Bool).bind λx_2=>
 (aj x_2
 (some ((len s1.j)==0))
 (some false):Option Bool).bind λx_3=>
 some x_3)
 ((eE t0 s1.first).bind λx_4=>
 (aj x_4
 ((eE t0 s1.last).bind λx_5=>
 some (!x_5))
 (some true):Option Bool).bind λx_6=>
 (aj x_6
 (some true)
 ((c8 s1.first s1.last).bind λx_7=>
 some (!x_7)):Option Bool).bind λx_8=>
 (aj x_8
 (some true)
 (some (!((len s1.j)==(len t0.procs)))):Option Bool).bind λx_9=>
 aj x_9
 (some false)
 (bJ.W1 0 t0 s1)))
 (some false)
open bJ in
instance PI (t0:Trace) (s1:Slice):Fc Sy cL (bJ t0 s1):=Fc.M 13 [enc t0,enc s1] (bE 2 2 t0 (bE 0 3 s1 (aG 7 λx_1 _=>b9 3 11 (aC 10 13 (aN 5 s1.first (aX 2 5 [18] 23 (aC 2 18 (aN 2 s1.last (aA 2)) (aA 5)) λx_2=>aX 1 5 [3,24] 29 (aC 1 24 (aN 2 s1.j (aA 2)) (aA 5)) λx_3=>af)) (aG 9 λx_4 _=>aX 2 6 [35] 41 (b9 2 35 (aG 3 λx_5 _=>aA 2) (aA 6)) λx_6=>aX 1 7 [42] 49 (aC 1 42 (aA 7) (aG 4 λx_7 _=>aA 2)) λx_8=>aX 1 8 [50] 58 (aC 1 50 (aA 8) (aN 2 s1.j (aN 2 t0.procs (aA 2)))) λx_9=>aC 2 58 af (bS 11 (λqW1=>(aH [Pv 2,Pv 3,Iv 5 qW1] [Xb 2 t0,Xb 3 s1])) (λeW1=>(0,(aH [Pv 3] [Xb 3 s1]))) (λeW1=>(aH [Bv 4 false] [])) (λqW1=>aN 7 s1.j (aC 3 63 (aS 11 λx_10 _=>aN 1 x_10 (aS 3 λx_11 _=>aN 2 x_11.events (b9 3 79 (bS 10 (λqW2=>(aH [Pv 2,Pv 3,Iv 5 qW1,Iv 6 qW2] [Xb 2 t0,Xb 3 s1])) (λeW2=>(2,(aH [Pv 2,Pv 3,Iv 5 qW1] [Xb 2 t0,Xb 3 s1]))) (λeW2=>(aH [Bv 4 false] [])) (λqW2=>aS 8 λx_12 _=>aN 1 x_12 (aC 3 87 (aG 11 λx_13 _=>b9 3 95 af af) af)) (λeW2=>af) (λeW2=>af)) af))) af)) (λeW1=>bS 10 (λqW3=>(aH [Pv 3,Iv 7 qW3] [Xb 3 s1])) (λeW3=>(4,(aH [] []))) (λeW3=>(aH [Bv 4 false] [])) (λqW3=>aN 7 s1.j (aC 3 100 (bS 12 (λqW4=>(aH [Pv 3,Iv 7 qW3,Iv 8 qW4] [Xb 3 s1])) (λeW4=>(6,(aH [Pv 3,Iv 7 qW3] [Xb 3 s1]))) (λeW4=>(aH [Bv 4 false] [])) (λqW4=>aS 8 λx_14 _=>aC 4 109 (aS 11 λx_15 _=>aS 2 λx_16 _=>fq 1 λx_17 _=>b9 3 122 af af) af) (λeW4=>af) (λeW4=>af)) af)) (λeW3=>af) (λeW3=>af)) (λeW1=>af)))) af)))
namespace dM
def an (a0 b1:Sl (Sl Int)) (i5:Int):Option (Fw Int Unit Unit):=
 aj (decide (i5<(len a0)))
 ((idx a0 i5).bind λx_1=>
 (idx b1 i5).bind λx_2=>
 (cM x_1 x_2).bind λx_3=>
 aj x_3
 (some (.n (IntKind.wrap .i64 (i5+1))))
 (some (.r ())))
 (some (.x ()))
def W1 (a0 b1:Sl (Sl Int)) (i5:Int):Option Bool:=
 (aK (λq:Int=>an a0 b1 q) i5).bind (Fw.elim
 (λe=>some true)
 (λe=>some false))
end dM
def dM (a0 b1:Sl (Sl Int)):Option Bool:=
 aj ((len a0)==(len b1))
 (dM.W1 a0 b1 0)
 (some false)
open dM in
instance K3 (a0 b1:Sl (Sl Int)):Fc Sy cL (dM a0 b1):=Fc.M 55 [enc a0,enc b1] (aN 9 a0 (aN 1 b1 (b9 3 10 (bS 11 (λqW1=>(aH [Cv 0 a0,Cv 1 b1,Iv 5 qW1] [])) (λeW1=>(0,(aH [] []))) (λeW1=>(aH [Bv 4 false] [])) (λqW1=>aN 6 a0 (aC 3 14 (aS 9 λx_1 _=>aS 3 λx_2 _=>fq 1 λx_3 _=>b9 3 26 af af) af)) (λeW1=>af) (λeW1=>af)) af)))
namespace cF
def an (ab2 bb3:Slice) (p5:Int):Option (Fw Int Unit Unit):=
 aj (decide (p5<(len ab2.j)))
 ((idx ab2.j p5).bind λx_6=>
 (idx bb3.j p5).bind λx_7=>
 (dM x_6 x_7).bind λx_8=>
 aj x_8
 (some (.n (IntKind.wrap .i64 (p5+1))))
 (some (.r ())))
 (some (.x ()))
def W1 (p5:Int) (ab2 bb3:Slice):Option Bool:=
 (aK (λq:Int=>an ab2 bb3 q) p5).bind (Fw.elim
 (λe=>some true)
 (λe=>some false))
end cF
def cF (a0 b1:Slice):Option Bool:=
 (aj (a0.empty==b1.empty)
 ((cM a0.first b1.first).bind λx_1=>
 some (!x_1))
 (some true):Option Bool).bind λx_2=>
 (aj x_2
 (some true)
 ((cM a0.last b1.last).bind λx_3=>
 some (!x_3)):Option Bool).bind λx_4=>
 (aj x_4
 (some true)
 (some (!((len a0.j)==(len b1.j)))):Option Bool).bind λx_5=>
 aj x_5
 (some false)
 (cF.W1 0 a0 b1)
open cF in
instance P7 (a0 b1:Slice):Fc Sy cL (cF a0 b1):=Fc.M 16 [enc a0,enc b1] (bE 2 2 a0 (bE 0 3 b1 (aX 12 7 [11] 18 (b9 12 11 (aG 4 λx_1 _=>aA 2) (aA 7)) λx_2=>aX 1 7 [19] 26 (aC 1 19 (aA 7) (aG 4 λx_3 _=>aA 2)) λx_4=>aX 1 8 [27] 35 (aC 1 27 (aA 8) (aN 2 a0.j (aN 2 b1.j (aA 2)))) λx_5=>aC 2 35 af (bS 11 (λqW1=>(aH [Pv 2,Pv 3,Iv 5 qW1] [Xb 2 a0,Xb 3 b1])) (λeW1=>(0,(aH [] []))) (λeW1=>(aH [Bv 4 false] [])) (λqW1=>aN 7 a0.j (aC 3 40 (aS 10 λx_6 _=>aS 4 λx_7 _=>fq 1 λx_8 _=>b9 3 54 af af) af)) (λeW1=>af) (λeW1=>af)))))
def o4 (s0:Slice):Option Bool:=
 (cF s0 (⟨false,Sl.nil,Sl.nil,Sl.nil⟩:Slice)).bind λx_1=>
 some x_1
instance Qj (s0:Slice):Fc Sy cL (o4 s0):=Fc.M 14 [enc s0] (bE 2 1 s0 (BV 6 (⟨false,Sl.nil,Sl.nil,Sl.nil⟩:Slice) [] [.bool false,.aR,.aR,.aR] [] (by simp only[oI,qo,f_,uy,r_,uF,uj];rfl) rfl (aG 0 λx_1 _=>af)))
def oV (c0:Sl Int) (p1:Int):Option (Sl Int):=
 (jw (Sl.row []:Sl Int) c0).bind λx_1=>
 (Sl.mw x_1 p1).bind λx_2=>
 (Sl.get x_1 x_2).bind λx_3=>
 (Sl.mw x_1 p1).bind λx_4=>
 (Sl.put x_1 x_4 (IntKind.wrap .i64 (x_3+1):Int)).bind λx_5=>
 some x_5
instance Qg (c0:Sl Int) (p1:Int):Fc Sy cL (oV c0 p1):=Fc.N 62 [enc c0,.int .i64 p1] (ud 9 6 8 λx_1 _=>nN .i64 9 8 λx_2 _=>uM 0 8 0 1 false (λx_3=>.int .i64 x_3) λx_3 _=>nN .i64 1 8 λx_4 _=>Cm 0 8 (.int .i64 (IntKind.wrap .i64 (x_3+1))) λx_5 _=>af)
namespace k_
def an (counts1:Sl Int) (tb2:Trace) (p5:Int):Option (Fw Int Unit Unit):=
 aj (decide (p5<(len counts1)))
 ((idx counts1 p5).bind λx_1=>
 (aj (decide (x_1<0))
 (some true)
 ((idx counts1 p5).bind λx_2=>
 (idx tb2.procs p5).bind λx_3=>
 some (decide (x_2>(len x_3.events)))):Option Bool).bind λx_4=>
 aj x_4
 (some (.r ()))
 (some (.n (IntKind.wrap .i64 (p5+1)))))
 (some (.x ()))
def W1 (counts1:Sl Int) (p5:Int) (tb2:Trace):Option Bool:=
 (aK (λq:Int=>an counts1 tb2 q) p5).bind (Fw.elim
 (λe=>some true)
 (λe=>some false))
end k_
def k_ (t0:Trace) (counts1:Sl Int):Option Bool:=
 aj ((len counts1)==(len t0.procs))
 (k_.W1 counts1 0 t0)
 (some false)
open k_ in
instance QZ (t0:Trace) (counts1:Sl Int):Fc Sy cL (k_ t0 counts1):=Fc.M 60 [enc t0,enc counts1] (bE 2 2 t0 (aN 7 counts1 (aN 2 t0.procs (b9 3 11 (bS 11 (λqW1=>(aH [Cv 1 counts1,Pv 2,Iv 5 qW1] [Xb 2 t0])) (λeW1=>(0,(aH [] []))) (λeW1=>(aH [Bv 4 false] [])) (λqW1=>aN 6 counts1 (aC 3 15 (aS 9 λx_1 _=>aX 3 13 [23] 36 (aC 3 23 (aA 13) (aS 2 λx_2 _=>aS 4 λx_3 _=>aN 2 x_3.events (aA 2))) λx_4=>aC 2 36 af af) af)) (λeW1=>af) (λeW1=>af)) af))))
namespace cD
def aY (counts1:Sl Int) (p5:Int) (tb2:Trace) (i6:Int):Option (Fw Int Unit Unit):=
 (idx counts1 p5).bind λx_1=>
 aj (decide (i6<x_1))
 ((idx tb2.procs p5).bind λx_2=>
 (idx x_2.events i6).bind λx_3=>
 aj (x_3.kind==3)
 ((cC tb2 2 x_3.message).bind λx_4=>
 (idx counts1 x_4.proc).bind λx_5=>
 aj (decide (x_4.index>x_5))
 (some (.r ()))
 (some (.n (IntKind.wrap .i64 (i6+1)))))
 (some (.n (IntKind.wrap .i64 (i6+1)))))
 (some (.x ()))
def W2 (counts1:Sl Int) (p5 i6:Int) (tb2:Trace):Option (Fw Int Unit Unit):=
 (aK (λq:Int=>aY counts1 p5 tb2 q) i6).bind (Fw.elim
 (λe=>some (.n (IntKind.wrap .i64 (p5+1))))
 (λe=>some (.r ())))
def an (counts1:Sl Int) (tb2:Trace) (p5:Int):Option (Fw Int Unit Unit):=
 aj (decide (p5<(len counts1)))
 (W2 counts1 p5 0 tb2)
 (some (.x ()))
def W1 (counts1:Sl Int) (p5:Int) (tb2:Trace):Option Bool:=
 (aK (λq:Int=>an counts1 tb2 q) p5).bind (Fw.elim
 (λe=>some true)
 (λe=>some false))
end cD
def cD (t0:Trace) (counts1:Sl Int):Option Bool:=
 cD.W1 counts1 0 t0
open cD in
instance Jo (t0:Trace) (counts1:Sl Int):Fc Sy cL (cD t0 counts1):=Fc.M 61 [enc t0,enc counts1] (bE 2 2 t0 (bS 11 (λqW1=>(aH [Cv 1 counts1,Pv 2,Iv 5 qW1] [Xb 2 t0])) (λeW1=>(0,(aH [] []))) (λeW1=>(aH [Bv 4 false] [])) (λqW1=>aN 6 counts1 (aC 3 12 (bS 12 (λqW2=>(aH [Cv 1 counts1,Pv 2,Iv 5 qW1,Iv 6 qW2] [Xb 2 t0])) (λeW2=>(2,(aH [Cv 1 counts1,Pv 2,Iv 5 qW1] [Xb 2 t0]))) (λeW2=>(aH [Bv 4 false] [])) (λqW2=>aS 7 λx_1 _=>aC 4 20 (aS 10 λx_2 _=>aS 3 λx_3 _=>g_ 2 7 0 x_3 (aC 9 34 (aG 6 λx_4 _=>aS 11 λx_5 _=>aC 4 46 af af) af)) af) (λeW2=>af) (λeW2=>af)) af)) (λeW1=>af) (λeW1=>af)))
def u9 (t0:Trace) (c1:Sl Int):Option Bool:=
 (k_ t0 c1).bind λx_1=>
 (aj x_1
 ((cD t0 c1).bind λx_2=>
 some x_2)
 (some false):Option Bool).bind λx_3=>
 some x_3
instance R3 (t0:Trace) (c1:Sl Int):Fc Sy cL (u9 t0 c1):=Fc.M 20 [enc t0,enc c1] (bE 2 2 t0 (aG 7 λx_1 _=>aX 1 4 [1,2,8] 12 (aC 1 8 (aG 2 λx_2 _=>aA 1) (aA 4)) λx_3=>af))
namespace gP
def an (c1:Sl Int) (tb2:Trace) (out5:Sl (Sl Int)) (p6:Int):Option (Fw ((Sl (Sl Int))×Int) (Sl (Sl Int)) Empty):=
 aj (decide (p6<(len c1)))
 ((idx c1 p6).bind λx_1=>
 (idx tb2.procs p6).bind λx_2=>
 (aj (decide (x_1<(len x_2.events)))
 ((oV c1 p6).bind λx_3=>
 (u9 tb2 x_3).bind λx_4=>
 some x_4)
 (some false):Option Bool).bind λx_5=>
 aj x_5
 ((oV c1 p6).bind λx_6=>
 (fP out5 (x_6:Sl Int)).bind λx_7=>
 some (.n (x_7,IntKind.wrap .i64 (p6+1))))
 (some (.n (out5,IntKind.wrap .i64 (p6+1)))))
 (some (.x out5))
def W1 (c1:Sl Int) (out5:Sl (Sl Int)) (p6:Int) (tb2:Trace):Option (Sl (Sl Int)):=
 (aK (λq:(Sl (Sl Int))×Int=>an c1 tb2 q.1 q.2) (out5,p6)).bind (Fw.elim
 (λe=>some e)
 (λe=>Empty.elim e))
end gP
def gP (t0:Trace) (c1:Sl Int):Option (Sl (Sl Int)):=
 gP.W1 c1 (Sl.nil:Sl (Sl Int)) 0 t0
open gP in
instance Ql (t0:Trace) (c1:Sl Int):Fc Sy cL (gP t0 c1):=Fc.N 21 [enc t0,enc c1] (bE 2 2 t0 (fL 17 (λqW1=>(aH [Cv 1 c1,Pv 2,Ov 5,Iv 6 qW1.2] [Xb 2 t0,Lb 2005 qW1.1])) (λeW1=>(0,(aH [Ov 5] [Lb 2005 eW1]))) (λqW1=>aN 7 c1 (aC 3 10 (aS 9 λx_1 _=>aS 4 λx_2 _=>aN 2 x_2.events (zC 2 6 [30,29] (λx_5=>(aH [Cv 1 c1,Pv 2,Ov 5,Iv 6 qW1.2,Bv 10 true,Bv 31 x_5] [Xb 2 t0,Lb 2005 qW1.1])) (aC 2 25 (aG 3 λx_3 _=>fq 0 λx_4 _=>aA 1) (aA 6)) λx_5=>aC 2 31 (aG 5 λx_6 _=>s6 0 36 ([x_6]:List (Sl Int)) (oR 0 2005 36 37 λx_7 _=>af)) af)) af)) (λeW1=>af)))
namespace eV
def an (c0:Sl Int) (n3 i4:Int):Option (Fw (Int×Int) Int Empty):=
 aj (decide (i4<(len c0)))
 ((idx c0 i4).bind λx_1=>
 some (.n (IntKind.wrap .i64 (n3+x_1),IntKind.wrap .i64 (i4+1))))
 (some (.x n3))
def W1 (c0:Sl Int) (n3 i4:Int):Option Int:=
 (aK (λq:Int×Int=>an c0 q.1 q.2) (n3,i4)).bind (Fw.elim
 (λe=>some e)
 (λe=>Empty.elim e))
end eV
def eV (c0:Sl Int):Option Int:=
 eV.W1 c0 0 0
open eV in
instance P4 (c0:Sl Int):Fc Sy cL (eV c0):=Fc.M 171 [enc c0] (fL 18 (λqW1=>(aH [Cv 0 c0,Iv 3 qW1.1,Iv 4 qW1.2] [])) (λeW1=>(0,(aH [Iv 3 eW1] []))) (λqW1=>aN 6 c0 (aC 3 8 (aS 9 λx_1 _=>af) af)) (λeW1=>af))
namespace fD
def an (a0 b1:Sl Int) (i5:Int):Option (Fw Int Unit Bool):=
 aj (decide (i5<(len a0)))
 ((idx a0 i5).bind λx_5=>
 (idx b1 i5).bind λx_6=>
 aj (x_5==x_6)
 (some (.n (IntKind.wrap .i64 (i5+1))))
 ((idx a0 i5).bind λx_7=>
 (idx b1 i5).bind λx_8=>
 some (.r (decide (x_7<x_8)))))
 (some (.x ()))
def W1 (a0 b1:Sl Int) (i5:Int):Option Bool:=
 (aK (λq:Int=>an a0 b1 q) i5).bind (Fw.elim
 (λe=>some false)
 (λe=>some e))
end fD
def fD (a0 b1:Sl Int):Option Bool:=
 (eV a0).bind λx_1=>
 (eV b1).bind λx_2=>
 aj (x_1==x_2)
 (fD.W1 a0 b1 0)
 ((eV a0).bind λx_3=>
 (eV b1).bind λx_4=>
 some (decide (x_3<x_4)))
open fD in
instance NK (a0 b1:Sl Int):Fc Sy cL (fD a0 b1):=Fc.M 150 [enc a0,enc b1] (aG 9 λx_1 _=>aG 1 λx_2 _=>b9 3 10 (bS 11 (λqW1=>(aH [Cv 0 a0,Cv 1 b1,Iv 5 qW1] [])) (λeW1=>(0,(aH [] []))) (λeW1=>(aH [Bv 4 eW1] [])) (λqW1=>aN 6 a0 (aC 3 19 (aS 9 λx_5 _=>aS 3 λx_6 _=>b9 4 30 af (aS 5 λx_7 _=>aS 3 λx_8 _=>af)) af)) (λeW1=>af) (λeW1=>af)) (aG 4 λx_3 _=>aG 1 λx_4 _=>af))
namespace dK
def an (a0 b1:Sl Int) (i5:Int):Option (Fw Int Unit Unit):=
 aj (decide (i5<(len a0)))
 ((idx a0 i5).bind λx_1=>
 (idx b1 i5).bind λx_2=>
 aj (x_1==x_2)
 (some (.n (IntKind.wrap .i64 (i5+1))))
 (some (.r ())))
 (some (.x ()))
def W1 (a0 b1:Sl Int) (i5:Int):Option Bool:=
 (aK (λq:Int=>an a0 b1 q) i5).bind (Fw.elim
 (λe=>some true)
 (λe=>some false))
end dK
def dK (a0 b1:Sl Int):Option Bool:=
 aj ((len a0)==(len b1))
 (dK.W1 a0 b1 0)
 (some false)
open dK in
instance Lr (a0 b1:Sl Int):Fc Sy cL (dK a0 b1):=Fc.M 97 [enc a0,enc b1] (aN 9 a0 (aN 1 b1 (b9 3 10 (bS 11 (λqW1=>(aH [Cv 0 a0,Cv 1 b1,Iv 5 qW1] [])) (λeW1=>(0,(aH [] []))) (λeW1=>(aH [Bv 4 false] [])) (λqW1=>aN 6 a0 (aC 3 14 (aS 9 λx_1 _=>aS 3 λx_2 _=>b9 4 25 af af) af)) (λeW1=>af) (λeW1=>af)) af)))
namespace fC
def an (l0:Sl (Sl Int)) (c1:Sl Int) (at_5:Int):Option (Fw Int Int Empty):=
 (aj (decide (at_5<(len l0)))
 ((idx l0 at_5).bind λx_1=>
 (fD x_1 c1).bind λx_2=>
 some x_2)
 (some false):Option Bool).bind λx_3=>
 aj x_3
 (some (.n (IntKind.wrap .i64 (at_5+1))))
 (some (.x at_5))
def W1 (l0:Sl (Sl Int)) (c1:Sl Int) (at_5:Int):Option (Sl (Sl Int)):=
 (aK (λq:Int=>an l0 c1 q) at_5).bind (Fw.elim
 (λe=>(aj (decide (e<(len l0)))
 ((idx l0 e).bind λx_4=>
 (dK x_4 c1).bind λx_5=>
 some x_5)
 (some false):Option Bool).bind λx_6=>
 aj x_6
 (some l0)
 ((eO l0 none (some e)).bind λx_7=>
 (jw (Sl.row []:Sl (Sl Int)) x_7).bind λx_8=>
 (fP x_8 (c1:Sl Int)).bind λx_9=>
 (eO l0 (some e) none).bind λx_10=>
 (jw x_9 x_10).bind λx_11=>
 some x_11))
 (λe=>Empty.elim e))
end fC
def fC (l0:Sl (Sl Int)) (c1:Sl Int):Option (Sl (Sl Int)):=
 fC.W1 l0 c1 0
open fC in
instance N_ (l0:Sl (Sl Int)) (c1:Sl Int):Fc Sy cL (fC l0 c1):=Fc.N 124 [enc l0,enc c1] (fL 13 (λqW1=>(aH [Cv 0 l0,Cv 1 c1,Iv 5 qW1] [])) (λeW1=>(0,(aH [Cv 0 l0,Cv 1 c1,Iv 5 eW1] []))) (λqW1=>aN 6 l0 (aX 2 7 [11] 18 (aC 2 11 (aS 2 λx_1 _=>aG 2 λx_2 _=>aA 1) (aA 7)) λx_3=>aC 2 18 af af)) (λeW1=>aN 7 l0 (aX 2 7 [25] 32 (aC 2 25 (aS 2 λx_4 _=>aG 2 λx_5 _=>aA 1) (aA 7)) λx_6=>aC 2 32 af (s6 5 34 ([]:List (Sl Int)) (AH 2 false true [.int .i64 eW1] λx_7 _=>ud 0 34 38 λx_8 _=>s6 7 41 ([c1]:List (Sl Int)) (oR 0 38 41 42 λx_9 _=>AH 8 true false [.int .i64 eW1] λx_10 _=>ud 0 42 47 λx_11 _=>af))))))
namespace dF
def cI (level4 out5:Sl (Sl Int)) (i7:Int) (l8:Sl (Sl Int)) (tb1:Trace) (more6:Sl (Sl Int)) (k9:Int):Option (Fw ((Sl (Sl Int))×Int) (Sl (Sl Int)) Empty):=
 aj (decide (k9<(len l8)))
 ((idx l8 k9).bind λx_5=>
 (fC more6 x_5).bind λx_6=>
 some (.n (x_6,IntKind.wrap .i64 (k9+1))))
 (some (.x more6))
def W3 (level4 out5 more6:Sl (Sl Int)) (i7:Int) (l8:Sl (Sl Int)) (k9:Int) (tb1:Trace):Option (Fw ((Sl (Sl Int))×Int) (Sl (Sl Int)) Empty):=
 (aK (λq:(Sl (Sl Int))×Int=>cI level4 out5 i7 l8 tb1 q.1 q.2) (more6,k9)).bind (Fw.elim
 (λe=>some (.n (e,IntKind.wrap .i64 (i7+1))))
 (λe=>Empty.elim e))
def aY (level4 out5:Sl (Sl Int)) (tb1:Trace) (more6:Sl (Sl Int)) (i7:Int):Option (Fw ((Sl (Sl Int))×Int) (Sl (Sl Int)) Empty):=
 aj (decide (i7<(len level4)))
 ((idx level4 i7).bind λx_3=>
 (gP tb1 x_3).bind λx_4=>
 W3 level4 out5 more6 i7 x_4 0 tb1)
 (some (.x more6))
def W2 (level4 out5 more6:Sl (Sl Int)) (i7:Int) (tb1:Trace):Option (Fw ((Sl (Sl Int))×(Sl (Sl Int))) (Sl (Sl Int)) Unit):=
 (aK (λq:(Sl (Sl Int))×Int=>aY level4 out5 tb1 q.1 q.2) (more6,i7)).bind (Fw.elim
 (λe=>some (.n (e,out5)))
 (λe=>Empty.elim e))
def an (tb1:Trace) (level4 out5:Sl (Sl Int)):Option (Fw ((Sl (Sl Int))×(Sl (Sl Int))) (Sl (Sl Int)) Unit):=
 aj (decide ((len level4)>0))
 ((jw out5 level4).bind λx_2=>
 aj (decide ((len x_2)>5000))
 (some (.r ()))
 (W2 level4 x_2 (Sl.nil:Sl (Sl Int)) 0 tb1))
 (some (.x out5))
def W1 (level4 out5:Sl (Sl Int)) (tb1:Trace):Option ((Sl (Sl Int))×Bool):=
 (aK (λq:(Sl (Sl Int))×(Sl (Sl Int))=>an tb1 q.1 q.2) (level4,out5)).bind (Fw.elim
 (λe=>some (e,true))
 (λe=>some ((Sl.nil:Sl (Sl Int)),false)))
end dF
def dF (t0:Trace):Option ((Sl (Sl Int))×Bool):=
 (tw (len t0.procs) (0:Int)).bind λx_1=>
 dF.W1 (Sl.row [x_1]:Sl (Sl Int)) (Sl.nil:Sl (Sl Int)) t0
open dF in
instance Qf (t0:Trace):Fc Sy cL (dF t0):=Fc.N 96 [enc t0] (bE 2 1 t0 (aN 8 t0.procs (QG 0 13 λx_1 _=>s6 1 14 ([x_1]:List (Sl Int)) (bS 13 (λqW1=>(aH [Pv 1,Cv 4 qW1.1,Ov 5] [Xb 1 t0,Lb 2005 qW1.2])) (λeW1=>(0,(aH [Ov 5] [Lb 2005 eW1]))) (λeW1=>(aH [Ov 2,Bv 3 false] [Lb 2002 (Sl.nil:Sl (Sl Int))])) (λqW1=>aN 7 qW1.1 (aC 3 17 (ud 8 2005 20 λx_2 _=>DQ 7 20 x_2 (aC 3 23 af (fL 18 (λqW2=>(aH [Pv 1,Cv 4 qW1.1,Ov 5,Cv 6 qW2.1,Iv 7 qW2.2] [Xb 1 t0,Lb 2005 x_2])) (λeW2=>(2,(aH [Pv 1,Ov 5,Cv 6 eW2] [Xb 1 t0,Lb 2005 x_2]))) (λqW2=>aN 8 qW1.1 (aC 3 27 (aS 10 λx_3 _=>aG 1 λx_4 _=>fL 12 (λqW3=>(aH [Pv 1,Cv 4 qW1.1,Ov 5,Cv 6 qW3.1,Iv 7 qW2.2,Cv 8 x_4,Iv 9 qW3.2] [Xb 1 t0,Lb 2005 x_2])) (λeW3=>(4,(aH [Pv 1,Cv 4 qW1.1,Ov 5,Cv 6 eW3,Iv 7 qW2.2] [Xb 1 t0,Lb 2005 x_2]))) (λqW3=>aN 8 x_4 (aC 3 39 (aS 9 λx_5 _=>aG 1 λx_6 _=>af) af)) (λeW3=>af)) af)) (λeW2=>af)))) af)) (λeW1=>af) (λeW1=>af)))))
def vB (t0:Trace):Option ((Sl (Sl Int))×Bool):=
 (dL t0).bind λx_1=>
 aj x_1
 ((dF t0).bind λx_2=>
 some (x_2.1,x_2.2))
 (some (Sl.nil,false))
instance P6 (t0:Trace):Fc Sy cL (vB t0):=Fc.N 53 [enc t0] (bE 2 1 t0 (aG 8 λx_1 _=>b9 3 6 (aG 6 λx_2 _=>af) af))
def tf (t0:Trace):Option ((Sl (Sl Int))×Bool):=
 (vB t0).bind λx_1=>
 (aj x_1.2
 (some (decide ((len x_1.1)<=400)))
 (some false):Option Bool).bind λx_2=>
 some (x_1.1,x_2)
instance N0 (t0:Trace):Fc Sy cL (tf t0):=Fc.N 15 [enc t0] (bE 2 1 t0 (aG 7 λx_1 _=>aX 12 4 [4,13] 17 (aC 12 13 (aN 1 x_1.1 (aA 2)) (aA 4)) λx_2=>af))
def eF (t0:Trace) (s1:Slice) (c2:Sl Int):Option Bool:=
 (aj s1.empty
 (some false)
 ((eE t0 c2).bind λx_1=>
 some x_1):Option Bool).bind λx_2=>
 (aj x_2
 ((c8 s1.first c2).bind λx_3=>
 some x_3)
 (some false):Option Bool).bind λx_4=>
 (aj x_4
 ((c8 c2 s1.last).bind λx_5=>
 some x_5)
 (some false):Option Bool).bind λx_6=>
 (aj x_6
 ((cQ s1 c2).bind λx_7=>
 some x_7)
 (some false):Option Bool).bind λx_8=>
 some x_8
instance RS (t0:Trace) (s1:Slice) (c2:Sl Int):Fc Sy cL (eF t0 s1 c2):=Fc.M 69 [enc t0,enc s1,enc c2] (bE 2 3 t0 (bE 0 4 s1 (aX 9 4 [3,10] 14 (b9 9 10 (aA 4) (aG 2 λx_1 _=>aA 1)) λx_2=>aX 1 5 [15] 20 (aC 1 15 (aG 3 λx_3 _=>aA 1) (aA 5)) λx_4=>aX 1 5 [21] 26 (aC 1 21 (aG 3 λx_5 _=>aA 1) (aA 5)) λx_6=>aX 1 4 [2,4,27] 31 (aC 1 27 (aG 2 λx_7 _=>aA 1) (aA 4)) λx_8=>af)))
namespace kf
def an (a0 b1:Sl Int) (out5:Sl Int) (i6:Int):Option (Fw ((Sl Int)×Int) (Sl Int) Empty):=
 aj (decide (i6<(len a0)))
 ((idx a0 i6).bind λx_1=>
 (idx b1 i6).bind λx_2=>
 (fP out5 ((if x_2<x_1 then x_2 else x_1):Int)).bind λx_3=>
 some (.n (x_3,IntKind.wrap .i64 (i6+1))))
 (some (.x out5))
def W1 (a0 b1 out5:Sl Int) (i6:Int):Option (Sl Int):=
 (aK (λq:(Sl Int)×Int=>an a0 b1 q.1 q.2) (out5,i6)).bind (Fw.elim
 (λe=>some e)
 (λe=>Empty.elim e))
end kf
def kf (a0 b1:Sl Int):Option (Sl Int):=
 kf.W1 a0 b1 (Sl.nil:Sl Int) 0
open kf in
instance PX (a0 b1:Sl Int):Fc Sy cL (kf a0 b1):=Fc.N 110 [enc a0,enc b1] (fL 19 (λqW1=>(aH [Cv 0 a0,Cv 1 b1,Ov 5,Iv 6 qW1.2] [Lb 2005 qW1.1])) (λeW1=>(0,(aH [Ov 5] [Lb 2005 eW1]))) (λqW1=>aN 7 a0 (aC 3 10 (aS 9 λx_1 _=>aS 3 λx_2 _=>oR 3 2005 23 24 λx_3 _=>af) af)) (λeW1=>af))
namespace lC
def an (a0 b1:Sl Int) (out5:Sl Int) (i6:Int):Option (Fw ((Sl Int)×Int) (Sl Int) Empty):=
 aj (decide (i6<(len a0)))
 ((idx a0 i6).bind λx_1=>
 (idx b1 i6).bind λx_2=>
 (fP out5 ((if x_2>x_1 then x_2 else x_1):Int)).bind λx_3=>
 some (.n (x_3,IntKind.wrap .i64 (i6+1))))
 (some (.x out5))
def W1 (a0 b1 out5:Sl Int) (i6:Int):Option (Sl Int):=
 (aK (λq:(Sl Int)×Int=>an a0 b1 q.1 q.2) (out5,i6)).bind (Fw.elim
 (λe=>some e)
 (λe=>Empty.elim e))
end lC
def lC (a0 b1:Sl Int):Option (Sl Int):=
 lC.W1 a0 b1 (Sl.nil:Sl Int) 0
open lC in
instance Qt (a0 b1:Sl Int):Fc Sy cL (lC a0 b1):=Fc.N 111 [enc a0,enc b1] (fL 19 (λqW1=>(aH [Cv 0 a0,Cv 1 b1,Ov 5,Iv 6 qW1.2] [Lb 2005 qW1.1])) (λeW1=>(0,(aH [Ov 5] [Lb 2005 eW1]))) (λqW1=>aN 7 a0 (aC 3 10 (aS 9 λx_1 _=>aS 3 λx_2 _=>oR 3 2005 23 24 λx_3 _=>af) af)) (λeW1=>af))
namespace bU
def jI (l1:Sl (Sl Int)) (p7:Int) (own8:Sl (Sl Int)) (sb5:Slice) (i9:Int) (c10:Sl Int) (k11:Int) (tb2:Trace) (vb4:Slice):Option (Fw (Int×(Sl Int)×Int×Trace×Slice) (Int×(Sl Int)×Trace×Slice) Empty):=
 aj (decide (k11<(len l1)))
 ((idx l1 k11).bind λx_10=>
 (idx x_10 p7).bind λx_11=>
 aj (decide (x_11<=i9))
 (some (.n (i9,c10,IntKind.wrap .i64 (k11+1),tb2,(⟨vb4.empty,Sl.nil,Sl.nil,Sl.nil⟩:Slice))))
 (aj ((len c10)==0)
 ((idx l1 k11).bind λx_12=>
 (jw (Sl.row []:Sl Int) x_12).bind λx_13=>
 some (.n (i9,x_13,IntKind.wrap .i64 (k11+1),tb2,(⟨vb4.empty,Sl.nil,Sl.nil,Sl.nil⟩:Slice))))
 ((idx l1 k11).bind λx_14=>
 (kf c10 x_14).bind λx_15=>
 some (.n (i9,x_15,IntKind.wrap .i64 (k11+1),tb2,(⟨vb4.empty,Sl.nil,Sl.nil,Sl.nil⟩:Slice))))))
 (some (.x (i9,c10,tb2,(⟨vb4.empty,Sl.nil,Sl.nil,Sl.nil⟩:Slice))))
def W4 (l1:Sl (Sl Int)) (p7:Int) (own8:Sl (Sl Int)) (i9:Int) (c10:Sl Int) (k11:Int) (tb2:Trace) (vb4 sb5:Slice):Option (Fw ((Sl (Sl Int))×Int×Trace×Slice×Slice) ((Sl (Sl Int))×Trace×Slice×Slice) Empty):=
 (aK (λq:Int×(Sl Int)×Int×Trace×Slice=>jI l1 p7 own8 sb5 q.1 q.2.1 q.2.2.1 q.2.2.2.1 q.2.2.2.2) (i9,c10,k11,tb2,vb4)).bind (Fw.elim
 (λe=>(fP own8 (e.2.1:Sl Int)).bind λx_16=>
 some (.n (x_16,IntKind.wrap .i64 (e.1+1),e.2.2.1,(⟨e.2.2.2.empty,Sl.nil,Sl.nil,Sl.nil⟩:Slice),sb5)))
 (λe=>Empty.elim e))
def cI (l1:Sl (Sl Int)) (p7:Int) (own8:Sl (Sl Int)) (i9:Int) (tb2:Trace) (vb4 sb5:Slice):Option (Fw ((Sl (Sl Int))×Int×Trace×Slice×Slice) ((Sl (Sl Int))×Trace×Slice×Slice) Empty):=
 (idx tb2.procs p7).bind λx_9=>
 aj (decide (i9<(len x_9.events)))
 (W4 l1 p7 own8 i9 (Sl.nil:Sl Int) 0 tb2 (⟨vb4.empty,Sl.nil,Sl.nil,Sl.nil⟩:Slice) sb5)
 (some (.x (own8,tb2,(⟨vb4.empty,Sl.nil,Sl.nil,Sl.nil⟩:Slice),sb5)))
def W3 (l1:Sl (Sl Int)) (p7:Int) (own8:Sl (Sl Int)) (i9:Int) (tb2:Trace) (vb4 sb5:Slice):Option (Fw (Int×Trace×Slice×Slice) (Slice×Slice) Empty):=
 (aK (λq:(Sl (Sl Int))×Int×Trace×Slice×Slice=>cI l1 p7 q.1 q.2.1 q.2.2.1 q.2.2.2.1 q.2.2.2.2) (own8,i9,tb2,vb4,sb5)).bind (Fw.elim
 (λe=>(fP e.2.2.2.j (e.1:Sl (Sl Int))).bind λx_17=>
 some (.n (IntKind.wrap .i64 (p7+1),e.2.1,(⟨e.2.2.1.empty,Sl.nil,Sl.nil,Sl.nil⟩:Slice),(⟨e.2.2.2.empty,e.2.2.2.first,e.2.2.2.last,x_17⟩:Slice))))
 (λe=>Empty.elim e))
def aY (l1:Sl (Sl Int)) (p7:Int) (tb2:Trace) (vb4 sb5:Slice):Option (Fw (Int×Trace×Slice×Slice) (Slice×Slice) Empty):=
 aj (decide (p7<(len tb2.procs)))
 (W3 l1 p7 (Sl.nil:Sl (Sl Int)) 0 tb2 (⟨vb4.empty,Sl.nil,Sl.nil,Sl.nil⟩:Slice) sb5)
 (some (.x ((⟨vb4.empty,Sl.nil,Sl.nil,Sl.nil⟩:Slice),sb5)))
def W2 (l1:Sl (Sl Int)) (p7:Int) (tb2:Trace) (vb4 sb5:Slice):Option Slice:=
 (aK (λq:Int×Trace×Slice×Slice=>aY l1 q.1 q.2.1 q.2.2.1 q.2.2.2) (p7,tb2,vb4,sb5)).bind (Fw.elim
 (λe=>some e.2)
 (λe=>Empty.elim e))
def an (l1:Sl (Sl Int)) (tb2:Trace) (k6:Int) (vb4 sb5:Slice):Option (Fw (Int×Slice×Slice) (Slice×Slice) Empty):=
 aj (decide (k6<(len l1)))
 ((idx l1 k6).bind λx_5=>
 (kf sb5.first x_5).bind λx_6=>
 (idx l1 k6).bind λx_7=>
 (lC sb5.last x_7).bind λx_8=>
 some (.n (IntKind.wrap .i64 (k6+1),(⟨vb4.empty,Sl.nil,Sl.nil,Sl.nil⟩:Slice),(⟨sb5.empty,x_6,x_8,Sl.nil⟩:Slice))))
 (some (.x ((⟨vb4.empty,Sl.nil,Sl.nil,Sl.nil⟩:Slice),(⟨sb5.empty,sb5.first,sb5.last,Sl.nil⟩:Slice))))
def W1 (l1:Sl (Sl Int)) (k6:Int) (tb2:Trace) (vb4 sb5:Slice):Option Slice:=
 (aK (λq:Int×Slice×Slice=>an l1 tb2 q.1 q.2.1 q.2.2) (k6,vb4,sb5)).bind (Fw.elim
 (λe=>bU.W2 l1 0 tb2 (⟨e.1.empty,Sl.nil,Sl.nil,Sl.nil⟩:Slice) (⟨e.2.empty,e.2.first,e.2.last,Sl.nil⟩:Slice))
 (λe=>Empty.elim e))
end bU
def bU (t0:Trace) (l1:Sl (Sl Int)):Option Slice:=
 aj ((len l1)==0)
 (some ⟨true,Sl.nil,Sl.nil,Sl.nil⟩)
 ((idx l1 0).bind λx_1=>
 (jw (Sl.emp:Sl Int) x_1).bind λx_2=>
 (idx l1 0).bind λx_3=>
 (jw (Sl.row []:Sl Int) x_3).bind λx_4=>
 bU.W1 l1 1 t0 (⟨false,Sl.nil,Sl.nil,Sl.nil⟩:Slice) (⟨false,x_2,x_4,Sl.nil⟩:Slice))
open bU in
instance Qr (t0:Trace) (l1:Sl (Sl Int)):Fc Sy cL (bU t0 l1):=Fc.N 70 [enc t0,enc l1] (bE 2 2 t0 (aN 7 l1 (aC 3 14 (BV 3 (⟨true,Sl.nil,Sl.nil,Sl.nil⟩:Slice) [.bool true] [.bool false,.aR,.aR,.aR] [(0,1)] (by simp only[oI,qo,f_,uy,r_,uF,uj];rfl) rfl (g_ 0 4 0 (⟨true,Sl.nil,Sl.nil,Sl.nil⟩:Slice) af)) (TF (α:=Int) 5 (aS 1 λx_1 _=>S5 1 20 (.inr rfl) λx_2 _=>aS 2 λx_3 _=>ud 1 21 25 λx_4 _=>SI 0 [.own 20,.own 25] [bv false,.own 20,.own 25,.v .aR] [.bool false,.aR,.aR,.aR] [(1,1),(2,1)] (by simp only[Bu,JQ,Mb,HN,Ln,IA,f_,uy,r_,uF,uj];rfl) (TQ 1 5 0 [bv false,.own 20,.own 25,.v .aR] (by simp only[List.all_cons,Ry,MO,PL,LA,qa,nX,qB,oa,Po];rfl) (fL 12 (λqW1=>(aH [Cv 1 l1,Pv 2,Pv 4,Pv 5,Iv 6 qW1.1] [Xb 2 t0,Xb 4 (⟨qW1.2.1.empty,Sl.nil,Sl.nil,Sl.nil⟩:Slice),Xb 5 (⟨qW1.2.2.empty,qW1.2.2.first,qW1.2.2.last,Sl.nil⟩:Slice)])) (λeW1=>(0,(aH [Cv 1 l1,Pv 2,Pv 4,Pv 5] [Xb 2 t0,Xb 4 (⟨eW1.1.empty,Sl.nil,Sl.nil,Sl.nil⟩:Slice),Xb 5 (⟨eW1.2.empty,eW1.2.first,eW1.2.last,Sl.nil⟩:Slice)]))) (λqW1=>aN 8 l1 (aC 3 30 (aS 11 λx_5 _=>aG 1 λx_6 _=>g_ 1 5 1 x_6 (aS 7 λx_7 _=>aG 1 λx_8 _=>g_ 1 5 2 x_8 af)) af)) (λeW1=>fL 13 (λqW2=>(aH [Cv 1 l1,Pv 2,Pv 4,Pv 5,Iv 7 qW2.1] [Xb 2 qW2.2.1,Xb 4 (⟨qW2.2.2.1.empty,Sl.nil,Sl.nil,Sl.nil⟩:Slice),(5,.box [bv qW2.2.2.2.empty,cv qW2.2.2.2.first,cv qW2.2.2.2.last,.own 4103]),Lb 4103 qW2.2.2.2.j])) (λeW2=>(2,(aH [Pv 4,Pv 5] [Xb 4 (⟨eW2.1.empty,Sl.nil,Sl.nil,Sl.nil⟩:Slice),(5,.box [bv eW2.2.empty,cv eW2.2.first,cv eW2.2.last,.own 4103]),Lb 4103 eW2.2.j]))) (λqW2=>aN 10 qW2.2.1.procs (aC 3 53 (fL 22 (λqW3=>(aH [Cv 1 l1,Pv 2,Pv 4,Pv 5,Iv 7 qW2.1,Ov 8,Iv 9 qW3.2.1] [Xb 2 qW3.2.2.1,Xb 4 (⟨qW3.2.2.2.1.empty,Sl.nil,Sl.nil,Sl.nil⟩:Slice),(5,.box [bv qW3.2.2.2.2.empty,cv qW3.2.2.2.2.first,cv qW3.2.2.2.2.last,.own 4103]),Lb 2008 qW3.1,Lb 4103 qW3.2.2.2.2.j])) (λeW3=>(4,(aH [Cv 1 l1,Pv 2,Pv 4,Pv 5,Iv 7 qW2.1,Ov 8] [Xb 2 eW3.2.1,Xb 4 (⟨eW3.2.2.1.empty,Sl.nil,Sl.nil,Sl.nil⟩:Slice),(5,.box [bv eW3.2.2.2.empty,cv eW3.2.2.2.first,cv eW3.2.2.2.last,.own 4103]),Lb 2008 eW3.1,Lb 4103 eW3.2.2.2.j]))) (λqW3=>aS 12 λx_9 _=>aN 2 x_9.events (aC 3 64 (fL 23 (λqW4=>(aH [Cv 1 l1,Pv 2,Pv 4,Pv 5,Iv 7 qW2.1,Ov 8,Iv 9 qW4.1,Cv 10 qW4.2.1,Iv 11 qW4.2.2.1] [Xb 2 qW4.2.2.2.1,Xb 4 (⟨qW4.2.2.2.2.empty,Sl.nil,Sl.nil,Sl.nil⟩:Slice),(5,.box [bv qW3.2.2.2.2.empty,cv qW3.2.2.2.2.first,cv qW3.2.2.2.2.last,.own 4103]),Lb 2008 qW3.1,Lb 4103 qW3.2.2.2.2.j])) (λeW4=>(6,(aH [Cv 1 l1,Pv 2,Pv 4,Pv 5,Iv 7 qW2.1,Ov 8,Iv 9 eW4.1,Cv 10 eW4.2.1] [Xb 2 eW4.2.2.1,Xb 4 (⟨eW4.2.2.2.empty,Sl.nil,Sl.nil,Sl.nil⟩:Slice),(5,.box [bv qW3.2.2.2.2.empty,cv qW3.2.2.2.2.first,cv qW3.2.2.2.2.last,.own 4103]),Lb 2008 qW3.1,Lb 4103 qW3.2.2.2.2.j]))) (λqW4=>aN 11 l1 (aC 3 70 (aS 10 λx_10 _=>aS 2 λx_11 _=>aC 5 81 af (aN 6 qW4.2.1 (aC 3 84 (aS 5 λx_12 _=>ud 1 85 90 λx_13 _=>af) (aS 5 λx_14 _=>aG 1 λx_15 _=>af)))) af)) (λeW4=>s6 5 99 ([eW4.2.1]:List (Sl Int)) (oR 0 2008 99 100 λx_16 _=>af))) af)) (λeW3=>s6 7 104 ([eW3.1]:List (Sl (Sl Int))) (oR 0 4103 104 105 λx_17 _=>af))) af)) (λeW2=>g_ 6 4 0 eW2.2 af)))))))))
namespace jY
def an (list1:Sl (Sl Int)) (tb4:Trace) (ab6 bb7:Slice) (out9:Sl (Sl Int)) (i10:Int) (vb8:Slice):Option (Fw ((Sl (Sl Int))×Int×Slice) ((Sl (Sl Int))×Trace×Slice) Empty):=
 aj (decide (i10<(len list1)))
 ((idx list1 i10).bind λx_1=>
 (eF tb4 ab6 x_1).bind λx_2=>
 (aj x_2
 ((idx list1 i10).bind λx_3=>
 (eF tb4 bb7 x_3).bind λx_4=>
 some x_4)
 (some false):Option Bool).bind λx_5=>
 aj x_5
 ((idx list1 i10).bind λx_6=>
 (fP out9 (x_6:Sl Int)).bind λx_7=>
 some (.n (x_7,IntKind.wrap .i64 (i10+1),(⟨vb8.empty,Sl.nil,Sl.nil,Sl.nil⟩:Slice))))
 (some (.n (out9,IntKind.wrap .i64 (i10+1),(⟨vb8.empty,Sl.nil,Sl.nil,Sl.nil⟩:Slice)))))
 (some (.x (out9,tb4,(⟨vb8.empty,Sl.nil,Sl.nil,Sl.nil⟩:Slice))))
def W1 (list1 out9:Sl (Sl Int)) (i10:Int) (tb4:Trace) (ab6 bb7 vb8:Slice):Option Slice:=
 (aK (λq:(Sl (Sl Int))×Int×Slice=>an list1 tb4 ab6 bb7 q.1 q.2.1 q.2.2) (out9,i10,vb8)).bind (Fw.elim
 (λe=>(bU e.2.1 e.1).bind λx_8=>
 some x_8)
 (λe=>Empty.elim e))
end jY
def jY (t0:Trace) (list1:Sl (Sl Int)) (a2 b3:Slice):Option Slice:=
 jY.W1 list1 (Sl.nil:Sl (Sl Int)) 0 t0 a2 b3 (⟨false,Sl.nil,Sl.nil,Sl.nil⟩:Slice)
open jY in
instance RX (t0:Trace) (list1:Sl (Sl Int)) (a2 b3:Slice):Fc Sy cL (jY t0 list1 a2 b3):=Fc.N 30 [enc t0,enc list1,enc a2,enc b3] (bE 2 4 t0 (bE 0 6 a2 (bE 0 7 b3 (fL 17 (λqW1=>(aH [Cv 1 list1,Pv 4,Pv 6,Pv 7,Pv 8,Ov 9,Iv 10 qW1.2.1] [Xb 4 t0,Xb 6 a2,Xb 7 b3,Xb 8 (⟨qW1.2.2.empty,Sl.nil,Sl.nil,Sl.nil⟩:Slice),Lb 2009 qW1.1])) (λeW1=>(0,(aH [Pv 4,Pv 8,Ov 9] [Xb 4 eW1.2.1,Xb 8 (⟨eW1.2.2.empty,Sl.nil,Sl.nil,Sl.nil⟩:Slice),Lb 2009 eW1.1]))) (λqW1=>aN 7 list1 (aC 3 14 (aS 11 λx_1 _=>fq 1 λx_2 _=>zC 1 8 [31,23] (λx_5=>(aH [Cv 1 list1,Pv 4,Pv 6,Pv 7,Pv 8,Ov 9,Iv 10 qW1.2.1,Bv 14 true,Bv 32 x_5] [Xb 4 t0,Xb 6 a2,Xb 7 b3,Xb 8 (⟨qW1.2.2.empty,Sl.nil,Sl.nil,Sl.nil⟩:Slice),Lb 2009 qW1.1])) (aC 1 24 (aS 4 λx_3 _=>fq 1 λx_4 _=>aA 1) (aA 8)) λx_5=>aC 2 32 (aS 5 λx_6 _=>s6 1 38 ([x_6]:List (Sl Int)) (oR 0 2009 38 39 λx_7 _=>af)) af) af)) (λeW1=>aG 7 λx_8 _=>g_ 0 8 0 x_8 af)))))
namespace lp
def an (list1:Sl (Sl Int)) (tb4:Trace) (ab6 bb7:Slice) (out9:Sl (Sl Int)) (i10:Int) (vb8:Slice):Option (Fw ((Sl (Sl Int))×Int×Slice) ((Sl (Sl Int))×Trace×Slice) Empty):=
 aj (decide (i10<(len list1)))
 ((idx list1 i10).bind λx_1=>
 (eF tb4 ab6 x_1).bind λx_2=>
 (aj x_2
 (some true)
 ((idx list1 i10).bind λx_3=>
 (eF tb4 bb7 x_3).bind λx_4=>
 some x_4):Option Bool).bind λx_5=>
 aj x_5
 ((idx list1 i10).bind λx_6=>
 (fP out9 (x_6:Sl Int)).bind λx_7=>
 some (.n (x_7,IntKind.wrap .i64 (i10+1),(⟨vb8.empty,Sl.nil,Sl.nil,Sl.nil⟩:Slice))))
 (some (.n (out9,IntKind.wrap .i64 (i10+1),(⟨vb8.empty,Sl.nil,Sl.nil,Sl.nil⟩:Slice)))))
 (some (.x (out9,tb4,(⟨vb8.empty,Sl.nil,Sl.nil,Sl.nil⟩:Slice))))
def W1 (list1 out9:Sl (Sl Int)) (i10:Int) (tb4:Trace) (ab6 bb7 vb8:Slice):Option Slice:=
 (aK (λq:(Sl (Sl Int))×Int×Slice=>an list1 tb4 ab6 bb7 q.1 q.2.1 q.2.2) (out9,i10,vb8)).bind (Fw.elim
 (λe=>(bU e.2.1 e.1).bind λx_8=>
 some x_8)
 (λe=>Empty.elim e))
end lp
def lp (t0:Trace) (list1:Sl (Sl Int)) (a2 b3:Slice):Option Slice:=
 lp.W1 list1 (Sl.nil:Sl (Sl Int)) 0 t0 a2 b3 (⟨false,Sl.nil,Sl.nil,Sl.nil⟩:Slice)
open lp in
instance R6 (t0:Trace) (list1:Sl (Sl Int)) (a2 b3:Slice):Fc Sy cL (lp t0 list1 a2 b3):=Fc.N 31 [enc t0,enc list1,enc a2,enc b3] (bE 2 4 t0 (bE 0 6 a2 (bE 0 7 b3 (fL 17 (λqW1=>(aH [Cv 1 list1,Pv 4,Pv 6,Pv 7,Pv 8,Ov 9,Iv 10 qW1.2.1] [Xb 4 t0,Xb 6 a2,Xb 7 b3,Xb 8 (⟨qW1.2.2.empty,Sl.nil,Sl.nil,Sl.nil⟩:Slice),Lb 2009 qW1.1])) (λeW1=>(0,(aH [Pv 4,Pv 8,Ov 9] [Xb 4 eW1.2.1,Xb 8 (⟨eW1.2.2.empty,Sl.nil,Sl.nil,Sl.nil⟩:Slice),Lb 2009 eW1.1]))) (λqW1=>aN 7 list1 (aC 3 14 (aS 11 λx_1 _=>fq 1 λx_2 _=>zC 1 8 [31,23] (λx_5=>(aH [Cv 1 list1,Pv 4,Pv 6,Pv 7,Pv 8,Ov 9,Iv 10 qW1.2.1,Bv 14 true,Bv 32 x_5] [Xb 4 t0,Xb 6 a2,Xb 7 b3,Xb 8 (⟨qW1.2.2.empty,Sl.nil,Sl.nil,Sl.nil⟩:Slice),Lb 2009 qW1.1])) (aC 1 24 (aA 8) (aS 4 λx_3 _=>fq 1 λx_4 _=>aA 1)) λx_5=>aC 2 32 (aS 5 λx_6 _=>s6 1 38 ([x_6]:List (Sl Int)) (oR 0 2009 38 39 λx_7 _=>af)) af) af)) (λeW1=>aG 7 λx_8 _=>g_ 0 8 0 x_8 af)))))
def lS (t0:Trace) (a1 b2:Slice):Option Bool:=
 (um).bind λx_1=>
 aj x_1
 ((gV t0 40).bind λx_2=>
 (aj x_2
 ((oZ a1).bind λx_3=>
 some x_3)
 (some true):Option Bool).bind λx_4=>
 (aj x_4
 (some true)
 ((oZ b2).bind λx_5=>
 some x_5):Option Bool).bind λx_6=>
 aj x_6
 (some true)
 ((qh t0 a1 b2).bind λx_7=>
 (rU t0 a1 b2).bind λx_8=>
 (bJ t0 a1).bind λx_9=>
 (aj x_9
 ((bJ t0 b2).bind λx_10=>
 some (!x_10))
 (some true):Option Bool).bind λx_11=>
 aj x_11
 ((aj (x_7.2==1)
 ((o4 x_7.1).bind λx_12=>
 some x_12)
 (some false):Option Bool).bind λx_13=>
 (aj x_13
 (some (x_8.2==1))
 (some false):Option Bool).bind λx_14=>
 (aj x_14
 ((o4 x_8.1).bind λx_15=>
 some x_15)
 (some false):Option Bool).bind λx_16=>
 some x_16)
 ((aj (x_7.2==0)
 (some (!(x_8.2==0)))
 (some true):Option Bool).bind λx_17=>
 (aj x_17
 (some true)
 ((bJ t0 x_7.1).bind λx_18=>
 some (!x_18)):Option Bool).bind λx_19=>
 (aj x_19
 (some true)
 ((bJ t0 x_8.1).bind λx_20=>
 some (!x_20)):Option Bool).bind λx_21=>
 aj x_21
 (some false)
 ((tf t0).bind λx_22=>
 (aj x_22.2
 ((jY t0 x_22.1 a1 b2).bind λx_23=>
 (cF x_7.1 x_23).bind λx_24=>
 (aj x_24
 ((lp t0 x_22.1 a1 b2).bind λx_25=>
 (cF x_8.1 x_25).bind λx_26=>
 some x_26)
 (some false):Option Bool).bind λx_27=>
 some x_27)
 (some true):Option Bool).bind λx_28=>
 some x_28))))
 (some false)
instance xK (t0:Trace) (a1 b2:Slice):Fc Sy cL (lS t0 a1 b2):=Fc.M 5 [enc t0,enc a1,enc b2] (bE 2 3 t0 (bE 0 4 a1 (bE 0 5 b2 (aG 6 λx_1 _=>b9 3 14 (aG 7 λx_2 _=>aX 2 3 [18] 21 (b9 2 18 (aG 1 λx_3 _=>aA 1) (aA 3)) λx_4=>aX 1 3 [22] 25 (aC 1 22 (aA 3) (aG 1 λx_5 _=>aA 1)) λx_6=>aC 2 25 af (aG 8 λx_7 _=>g_ 4 7 0 x_7.1 (aG 8 λx_8 _=>g_ 4 9 0 x_8.1 (aG 8 λx_9 _=>aX 2 5 [44] 49 (b9 2 44 (aG 2 λx_10 _=>aA 2) (aA 5)) λx_11=>aC 2 49 (aX 6 3 [7,52] 55 (aC 6 52 (aG 1 λx_12 _=>aA 1) (aA 3)) λx_13=>aX 1 3 [10,56] 59 (aC 1 56 (aA 3) (aA 3)) λx_14=>aX 1 3 [9,60] 63 (aC 1 60 (aG 1 λx_15 _=>aA 1) (aA 3)) λx_16=>af) (aX 9 3 [10,66] 69 (b9 9 66 (aA 3) (aA 3)) λx_17=>aX 1 5 [70] 75 (aC 1 70 (aA 5) (aG 2 λx_18 _=>aA 2)) λx_19=>aX 1 5 [76] 81 (aC 1 76 (aA 5) (aG 2 λx_20 _=>aA 2)) λx_21=>aC 2 81 af (aG 6 λx_22 _=>zC 12 17 [104,103,96,95] (λx_28=>(aH [Bv 14 false,Bv 25 false,Bv 49 false,Bv 81 false,Bv 106 x_28] [Xb 3 t0,Xb 4 a1,Xb 5 b2,Xb 7 x_7.1,Xb 9 x_8.1])) (b9 12 89 (aG 5 λx_23 _=>fq 0 λx_24 _=>zC 1 8 [104,103,96,95] (λx_27=>(aH [Bv 14 false,Bv 25 false,Bv 49 false,Bv 81 false,Bv 89 false,Bv 105 x_27] [Xb 3 t0,Xb 4 a1,Xb 5 b2,Xb 7 x_7.1,Xb 9 x_8.1])) (aC 1 97 (aG 5 λx_25 _=>fq 0 λx_26 _=>aA 1) (aA 8)) λx_27=>aA 1) (aA 17)) λx_28=>af)))))) af))))
end
end Go.VE
