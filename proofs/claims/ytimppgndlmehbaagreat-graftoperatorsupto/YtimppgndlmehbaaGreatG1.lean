/-
 The functions: their plain forms.
-/
import Derived.Test.YtimppgndlmehbaaGreatK1
import Derived.Test.YtimppgndlmehbaaGreatT1
set_option linter.all false
namespace Go.VE
structure Var where
 name:ByteArray
 init_:Int
 deriving Inhabited
instance:bE Var where
 cells x:=[.str x.name,.int .i64 x.init_]
 agg:=true
 size:=2
 len _:=rfl
 good x:=by simp only[V.cE,V.good,mV,Bool.and_self]
 one x:=by simp only[List.all_cons,List.all_nil,rT,o8,rF,pM,Bool.and_self]
 plain h:=by cases h
instance {n:Nat}:Lv (n+0) Var:=⟨λx=>by
 show V.c7 (n+0) [.str x.name,.int .i64 x.init_]=true;simp only[jv,k9,rE,pn,rJ,qR,Bool.and_self]⟩
structure Assign where
 var:Int
 value:Int
 deriving Inhabited
instance:bE Assign where
 cells x:=[.int .i64 x.var,.int .i64 x.value]
 agg:=true
 size:=2
 len _:=rfl
 good x:=by simp only[V.cE,V.good,mV,Bool.and_self]
 one x:=by simp only[List.all_cons,List.all_nil,rT,o8,rF,pM,Bool.and_self]
 plain h:=by cases h
instance {n:Nat}:Lv (n+0) Assign:=⟨λx=>by
 show V.c7 (n+0) [.int .i64 x.var,.int .i64 x.value]=true;simp only[jv,k9,rE,pn,rJ,qR,Bool.and_self]⟩
structure Event where
 kind:Int
 peer:Int
 message:Int
 time:Int
 assign:Sl Assign
 deriving Inhabited
instance:bE Event where
 cells x:=[.int .i64 x.kind,.int .i64 x.peer,.int .i64 x.message,.int .i64 x.time,enc x.assign]
 agg:=true
 size:=5
 len _:=rfl
 good x:=by simp only[V.cE,V.good,mV,Bool.and_self]
 one x:=by simp only[List.all_cons,List.all_nil,rT,o8,rF,pM,Bool.and_self]
 plain h:=by cases h
instance {n:Nat}:Lv (n+1) Event:=⟨λx=>by
 show V.c7 (n+1) [.int .i64 x.kind,.int .i64 x.peer,.int .i64 x.message,.int .i64 x.time,enc x.assign]=true;simp only[jv,k9,rE,pn,rJ,qR,Bool.and_self]⟩
structure cn where
 name:ByteArray
 vars:Sl Var
 events:Sl Event
 deriving Inhabited
instance:bE cn where
 cells x:=[.str x.name,enc x.vars,enc x.events]
 agg:=true
 size:=3
 len _:=rfl
 good x:=by simp only[V.cE,V.good,mV,Bool.and_self]
 one x:=by simp only[List.all_cons,List.all_nil,rT,o8,rF,pM,Bool.and_self]
 plain h:=by cases h
instance {n:Nat}:Lv (n+2) cn:=⟨λx=>by
 show V.c7 (n+2) [.str x.name,enc x.vars,enc x.events]=true;simp only[jv,k9,rE,pn,rJ,qR,Bool.and_self]⟩
structure Trace where
 procs:Sl cn
 deriving Inhabited
instance:bE Trace where
 cells x:=[enc x.procs]
 agg:=true
 size:=1
 len _:=rfl
 good x:=by simp only[V.cE,V.good,mV,Bool.and_self]
 one x:=by simp only[List.all_cons,List.all_nil,rT,o8,rF,pM,Bool.and_self]
 plain h:=by cases h
instance {n:Nat}:Lv (n+3) Trace:=⟨λx=>by
 show V.c7 (n+3) [enc x.procs]=true;simp only[jv,k9,rE,pn,rJ,qR,Bool.and_self]⟩
structure Slice where
 empty:Bool
 first:Sl Int
 last:Sl Int
 j:Sl (Sl (Sl Int))
 deriving Inhabited
instance:bE Slice where
 cells x:=[.bool x.empty,enc x.first,enc x.last,enc x.j]
 agg:=true
 size:=4
 len _:=rfl
 good x:=by simp only[V.cE,V.good,mV,Bool.and_self]
 one x:=by simp only[List.all_cons,List.all_nil,rT,o8,rF,pM,Bool.and_self]
 plain h:=by cases h
instance {n:Nat}:Lv (n+3) Slice:=⟨λx=>by
 show V.c7 (n+3) [.bool x.empty,enc x.first,enc x.last,enc x.j]=true
 simp only[jv,k9,rE,pn,rJ,qR,Bool.and_self]⟩
structure bt where
 from_:aY
 to_:aY
 deriving Inhabited
instance:bE bt where
 cells x:=[.int .i64 x.from_.proc,.int .i64 x.from_.index,.int .i64 x.to_.proc,.int .i64 x.to_.index]
 agg:=true
 size:=4
 len _:=rfl
 good x:=by simp only[V.cE,V.good,mV,Bool.and_self]
 one x:=by simp only[List.all_cons,List.all_nil,rT,o8,rF,pM,Bool.and_self]
 plain h:=by cases h
instance {n:Nat}:Lv (n+0) bt:=⟨λx=>by
 show V.c7 (n+0) [.int .i64 x.from_.proc,.int .i64 x.from_.index,.int .i64 x.to_.proc,.int .i64 x.to_.index]=true;simp only[jv,k9,rE,pn,rJ,qR,Bool.and_self]⟩
def iP (p:Int):Int->List Event->List (aY×Event)
 | _,[]=>[]
 | j,e::r=>(⟨p,j+1⟩,e)::iP p (j+1) r
def fG:Int->List cn->List (aY×Event)
 | _,[]=>[]
 | i,p::r=>iP i 0 p.events.l++fG (i+1) r
def EO (n:Nat):Bool:=decide (n<9223372036854775807)
def jf (t:Trace):Option (List (aY×Event)):=
 if EO t.procs.l.length&&t.procs.l.all λp=>EO p.events.l.length then some (fG 0 t.procs.l)else none
end Go.VE
namespace Go.VE
def VQ:List (Nat×GD):=[
 (75,⟨0x22226260002000201,[],[(6,[.keep [0,1,7,8] []],[.keep [0,1,7,8] []]),(12,[.keep [] []],[]),(22,[.keep [4] []],[]),(27,[.keep [4] []],[])]⟩),
 (39,⟨0x226221,[],[]⟩),
 (40,⟨0x2222212,[],[]⟩),
 (8,⟨0x26442222222064442644402222026220220200002012,[],[(6,[.keep [1,2,8,9,10] [2]],[.keep [1,2,8,9,10] [2]]),(12,[.keep [1,2] [2]],[]),(24,[.keep [4] []],[]),(29,[.keep [4] []],[])]⟩),
 (76,⟨0x22226260002000201,[],[(6,[.keep [0,1,7,8] []],[.keep [0,1,7,8] []]),(12,[.keep [] []],[]),(22,[.keep [4] []],[]),(27,[.keep [4] []],[])]⟩),
 (41,⟨0x226221,[],[]⟩),
 (63,⟨0x22226260002000201,[],[(6,[.keep [0,1,7,8] []],[.keep [0,1,7,8] []]),(12,[.keep [] []],[]),(22,[.keep [4] []],[]),(27,[.keep [4] []],[])]⟩),
 (23,⟨0x226221,[],[]⟩),
 (43,⟨0x22221,[],[]⟩),
 (42,⟨0x264422201,[],[]⟩),
 (9,⟨0x264442644402644402222012,[],[]⟩),
 (138,⟨0x26c4426201,[],[]⟩),
 (183,⟨0x26c4444026402201,[],[]⟩),
 (184,⟨0x26442201,[],[]⟩),
 (158,⟨0x22064c402644c00222600200020064440264402201,[],[(8,[.keep [2] []],[]),(14,[.keep [0,18,19] []],[.keep [0,18,19] []]),(20,[.keep [] []],[]),(30,[.keep [2] []],[]),(35,[.keep [2] []],[])]⟩),
 (160,⟨0x26222212,[],[]⟩),
 (185,⟨0x22226260002000201,[],[(6,[.keep [0,1,7,8] []],[.keep [0,1,7,8] []]),(12,[.keep [] []],[]),(22,[.keep [4] []],[]),(27,[.keep [4] []],[])]⟩),
 (159,⟨0x226221,[],[]⟩),
 (162,⟨0x26222212,[],[]⟩),
 (186,⟨0x22226260002000201,[],[(6,[.keep [0,1,7,8] []],[.keep [0,1,7,8] []]),(12,[.keep [] []],[]),(22,[.keep [4] []],[]),(27,[.keep [4] []],[])]⟩),
 (161,⟨0x226221,[],[]⟩),
 (139,⟨0x222222022222026c0c4402222022020000020022220026c0c44422220202602012,[],[(11,[.keep [4] []],[]),(17,[.keep [4] []],[]),(23,[.keep [5,32,33,34] [5]],[.keep [5,32,33,34] [5]]),(29,[.keep [5] [5]],[]),(40,[.keep [4] []],[]),(46,[.keep [4] []],[]),(55,[.keep [4] []],[]),(59,[.keep [4] []],[])]⟩),
 (140,⟨0x2212,[],[]⟩),
 (164,⟨0x2644426c4402622222022202644422202020122,[],[(18,[.keep [1,3,5,19] [3,5]],[])]⟩),
 (166,⟨0x26222212,[],[]⟩),
 (187,⟨0x22226260002000201,[],[(6,[.keep [0,1,7,8] []],[.keep [0,1,7,8] []]),(12,[.keep [] []],[]),(22,[.keep [4] []],[]),(27,[.keep [4] []],[])]⟩),
 (165,⟨0x226221,[],[]⟩),
 (141,⟨0x2202626220026444022622202022020000020022220026c44022220022e02222226220202200202620201222,[],[(12,[.keep [3,4,5,7,8] [3,4,5,7]],[]),(19,[.keep [6] []],[]),(25,[.keep [6] []],[]),(31,[.keep [6] []],[]),(37,[.keep [5,7,52,53,54] [5,7]],[.keep [5,7,52,53,54] [5,7]]),(43,[.keep [] []],[]),(54,[.keep [6] []],[]),(60,[.keep [6] []],[]),(65,[.keep [6] []],[])]⟩),
 (188,⟨0x26c44426c440222012,[],[]⟩),
 (167,⟨0x2662262221222,[],[]⟩),
 (142,⟨0x2202326222002202001ef200220022022226200223262220022022226200202022020202020200002,[],[(8,[.keep [1,2,3,4,5,12] [1,2,3,4,5,10]],[.keep [] [1,2,3,4,5,10]]),(27,[.keep [] [1,2,3,4,5,10]],[]),(39,[.keep [] [1,2,3,4,5,10]],[]),(47,[.keep [] [1,2,3,4,5,10]],[]),(53,[.keep [2,3,4] [2,3,4,10]],[])]⟩),
 (168,⟨0x222622262222264444c4400222020262222262622020262020222620220122,[],[(12,[.canon (.s 7) 2007 2,.keep [1,5,7,8] [5,2007]],[])]⟩),
 (143,⟨0x20222622230026000226002020000e200262220202622002202202020200022,[],[(6,[.keep [2,3,4,5,13] [2,3,4,5]],[.keep [] [2,3,4,5]]),(14,[.canon (.s 8) 2008 2,.keep [2,3,4,5,6,7,8,13] [2,3,4,5,6,16,2008]],[.canon (.s 8) 2008 2,.keep [2,3,4,5,6,7,8,13] [2,3,4,5,6,16,2008]]),(20,[.keep [2,3,4,5,13] [2,3,4,5]],[]),(29,[.canon (.s 8) 2008 2,.keep [2,3,4,5,6,7,8,13,36,37,38] [2,3,4,5,6,16,2008]],[.canon (.s 8) 2008 2,.keep [2,3,4,5,6,7,8,13,36,37,38] [2,3,4,5,6,16,2008]]),(35,[.canon (.s 8) 2008 2,.keep [2,3,4,5,6,7,8,13] [2,3,4,5,6,16,2008]],[]),(46,[.keep [] [2,3,4,5]],[]),(58,[.keep [4,5] [4,5]],[])]⟩),
 (113,⟨0x20022222020262222222022202002202222202e2002020202222222202600200022002022220002,[],[(8,[.keep [2,3] [2,3]],[]),(14,[.keep [1,2,3,22,23] [1,2,3]],[.keep [1,2,3,22,23] [1,2,3]]),(20,[.keep [1,2,3] [1,2,3]],[]),(32,[.keep [2,3] [2,3]],[]),(39,[.keep [1,2,3,36] [1,2,3]],[.keep [] [1,2,3]]),(51,[.keep [] [1,2,3]],[]),(61,[.keep [2,3] [2,3]],[]),(71,[.keep [2,3] [2,3]],[]),(75,[.keep [2,3] [2,3]],[])]⟩),
 (77,⟨0x2222302022212,[],[]⟩),
 (151,⟨0x26222221,[],[]⟩),
 (126,⟨0x264c4422012,[],[]⟩),
 (127,⟨0x2206c444c440422022200000212,[],[(6,[.keep [2,7,8,9] [2]],[.keep [2,7,8,9] [2]]),(12,[.keep [] []],[]),(22,[.keep [4] []],[]),(27,[.keep [4] []],[])]⟩),
 (128,⟨0x26c444422012,[],[]⟩),
 (189,⟨0x200226c0442602020202202022000222,[],[(8,[.keep [6,7] [6,7]],[]),(14,[.keep [4,5,6,7,15] [4,5,6,7]],[.keep [] [4,5,6,7]]),(24,[.keep [] [4,5,6,7]],[]),(28,[.keep [6,7] [6,7]],[])]⟩),
 (172,⟨0x2220622102,[],[]⟩),
 (152,⟨0x2200222202262222626200203202026220220220200000622260202220000001002,[],[(6,[.keep [1,2,4,5,13,14,15] [2,4,5]],[.keep [1,2,4,5,13,14,15] [2,4,5]]),(12,[.keep [4,5] [4,5]],[]),(20,[.keep [1,2,4,5,7,13,14,15,27,28,29] [2,4,5]],[.keep [1,2,4,5,7,13,14,15,27,28,29] [2,4,5]]),(26,[.keep [1,2,4,5,13,14,15] [2,4,5]],[]),(44,[.keep [4,5,6] [4,5]],[]),(50,[.keep [4,5,6] [4,5]],[])]⟩),
 (129,⟨0x22223300200262212,[],[]⟩),
 (105,⟨0x2202620220000222026202200002220262022000000260012,[],[(8,[.keep [6] []],[]),(14,[.keep [1,2,3,17,18,19] [3]],[.keep [1,2,3,17,18,19] [3]]),(20,[.keep [1,2,3] [3]],[]),(30,[.keep [6] []],[]),(37,[.keep [1,3,28,29,30] [3]],[.keep [1,3,28,29,30] [3]]),(43,[.keep [1,3] [3]],[]),(53,[.keep [6] []],[]),(60,[.keep [3,39,40,41] [3]],[.keep [3,39,40,41] [3]]),(66,[.keep [] []],[]),(76,[.keep [6] []],[]),(81,[.keep [6] []],[])]⟩),
 (65,⟨0x22622212,[],[]⟩),
 (82,⟨0x2206262026002000200620201,[],[(8,[.keep [4] []],[]),(14,[.keep [0,1,12,13] []],[.keep [0,1,12,13] []]),(20,[.keep [] []],[]),(30,[.keep [4] []],[]),(35,[.keep [4] []],[])]⟩),
 (99,⟨0x2206222622022222000002206c440440264c4040264c400226200122,[],[(8,[.keep [4] []],[]),(14,[.keep [2,37,38,39] [2]],[.keep [2,37,38,39] [2]]),(20,[.keep [] []],[]),(30,[.keep [4] []],[]),(35,[.keep [4] []],[])]⟩),
 (100,⟨0x22222622222202000022012,[],[(8,[.canon (.s 3) 2003 1,.keep [3,7,8,9] [2003]],[.canon (.s 3) 2003 1,.keep [3,7,8,9] [2003]]),(14,[.canon (.s 3) 2003 1,.keep [3] [2003]],[])]⟩),
 (73,⟨0x226222262022122,[],[]⟩),
 (125,⟨0x26262222012,[],[]⟩),
 (38,⟨0x2206262026002000200620201,[],[(8,[.keep [4] []],[]),(14,[.keep [0,1,12,13] []],[.keep [0,1,12,13] []]),(20,[.keep [] []],[]),(30,[.keep [4] []],[]),(35,[.keep [4] []],[])]⟩),
 (102,⟨0x26c44426c04026c0426022622226200222222620026001222,[],[]⟩),
 (101,⟨0x2e22212,[],[]⟩),
 (71,⟨0x222202662200200022220000021,[],[(6,[.keep [1,8,9,10] []],[.keep [1,8,9,10] []]),(12,[.keep [] []],[]),(20,[.keep [1,5,8,9,10,15,16] []],[.keep [1,5,8,9,10,15,16] []]),(26,[.keep [1,8,9,10] []],[]),(36,[.keep [4] []],[]),(42,[.keep [4] []],[])]⟩),
 (104,⟨0x26262212,[],[]⟩),
 (103,⟨0x26602062012,[],[]⟩),
 (64,⟨0x26220064c4402260026444426444022220200220122,[],[]⟩),
 (79,⟨0x2262212,[],[]⟩),
 (114,⟨0x22226260002000201,[],[(6,[.keep [0,1,7,8] []],[.keep [0,1,7,8] []]),(12,[.keep [] []],[]),(22,[.keep [4] []],[]),(27,[.keep [4] []],[])]⟩),
 (78,⟨0x226221,[],[]⟩),
 (44,⟨0x264c4422012,[],[]⟩),
 (85,⟨0x26200201,[],[(8,[.canon (.s 2) 4004 1],[]),(12,[.canon (.s 2) 4004 1],[])]⟩),
 (144,⟨0x1ff220002222222002002600222002260000226200112,[],[(9,[.canon (.s 6) 2006 1,.keep [6,7] [2006]],[]),(15,[.canon (.s 6) 2006 1,.keep [6,7] [2006]],[]),(20,[.canon (.s 8) 2008 1,.keep [2,3,8] [3,2008]],[.canon (.s 8) 2008 1,.keep [2,3,8] [3,2008]]),(30,[.canon (.s 6) 2006 1,.keep [6,7] [2006]],[])]⟩),
 (115,⟨0x2220622112,[],[]⟩),
 (83,⟨0x223220262212,[],[]⟩),
 (81,⟨0x26220064c44c0022011,[],[]⟩),
 (86,⟨0x2236622620002221,[],[]⟩),
 (88,⟨0x222236622620002220000022221,[],[(8,[.canon (.s 5) 2005 1,.keep [5,10,11,12] [2005]],[.canon (.s 5) 2005 1,.keep [5,10,11,12] [2005]]),(14,[.canon (.s 5) 2005 1,.keep [5] [2005]],[])]⟩),
 (80,⟨0x2222306222022262223060202222026e22000200022202202000002220620020222220262220002,[(7,[.closeS (.s 19)]),(20,[.closeS (.s 28)]),(71,[.closeS (.s 67)]),(77,[.closeS (.c 7 3)])],[(18,[.canon (.c 7 3) 4143 1,.keep [1,4,5,7,31,32,33] [4,7,4143]],[.canon (.c 7 3) 4143 1,.keep [1,4,5,7,31,32,33] [4,7,4143]]),(24,[.canon (.c 7 3) 4143 1,.keep [4,7] [4,7,4143]],[]),(35,[.canon (.s 10) 2010 1,.canon (.c 7 3) 4143 1,.keep [1,4,5,7,8,10,31,32,33,40,41] [4,7,2010,4143]],[.canon (.s 10) 2010 1,.canon (.c 7 3) 4143 1,.keep [1,4,5,7,8,10,31,32,33,40,41] [4,7,2010,4143]]),(41,[.canon (.s 10) 2010 1,.canon (.c 7 3) 4143 1,.keep [1,4,5,7,10,31,32,33] [4,7,2010,4143]],[]),(54,[.canon (.s 10) 2010 1,.canon (.c 7 3) 4143 1,.keep [1,4,5,7,8,10,12,31,32,33,40,41] [4,7,2010,4143]],[])]⟩),
 (45,⟨0x2660022,[(5,[.closeB 3,.closeB 2])],[]⟩),
 (10,⟨0x2622020262001022,[],[]⟩),
 (116,⟨0x22222622222202000022012,[],[(8,[.canon (.s 3) 2003 1,.keep [3,7,8,9] [2003]],[.canon (.s 3) 2003 1,.keep [3,7,8,9] [2003]]),(14,[.canon (.s 3) 2003 1,.keep [3] [2003]],[])]⟩),
 (84,⟨0x26c44442220122,[],[]⟩),
 (87,⟨0x26622211,[],[]⟩),
 (46,⟨0x2660222222366226200062600022200000226e2202200222000002222000002220220202600022,[(76,[.closeB 2,.closeS (.c 5 0),.closeB 5])],[(16,[.canon (.c 5 0) 4100 1,.keep [2,4,5,22,23,24] [2,4,5,4100]],[.canon (.c 5 0) 4100 1,.keep [2,4,5,22,23,24] [2,4,5,4100]]),(22,[.canon (.c 5 0) 4100 1,.keep [2,4,5] [2,4,5,4100]],[]),(30,[.canon (.c 5 0) 4100 1,.keep [2,4,5,6,22,23,24,29,30,31] [2,4,5,4100]],[.canon (.c 5 0) 4100 1,.keep [2,4,5,6,22,23,24,29,30,31] [2,4,5,4100]]),(36,[.canon (.c 5 0) 4100 1,.keep [2,4,5,22,23,24] [2,4,5,4100]],[]),(46,[.canon (.c 5 0) 4100 1,.keep [2,4,5,6,10,22,23,24,29,30,31,45,46,47] [2,4,5,4100]],[.canon (.c 5 0) 4100 1,.keep [2,4,5,6,10,22,23,24,29,30,31,45,46,47] [2,4,5,4100]]),(52,[.canon (.c 5 0) 4100 1,.keep [2,4,5,6,22,23,24,29,30,31] [2,4,5,4100]],[])]⟩),
 (11,⟨0x2622020262001022,[],[]⟩),
 (91,⟨0x222222220262226002200006226220222000000002620020200000020222622200202020000011,[],[(6,[.keep [0,1,15,16,17] []],[.keep [0,1,15,16,17] []]),(12,[.keep [0,1] []],[]),(23,[.keep [4,5] []],[]),(31,[.keep [0,1,8] []],[.keep [0,1,8] []]),(37,[.keep [0] []],[]),(44,[.keep [0,1,8,29,30,31] []],[.keep [0,1,8,29,30,31] []]),(50,[.keep [0,1,8] []],[]),(61,[.keep [4,5] []],[]),(66,[.keep [0,1,8,10,29,30,31,40,41,42] [10]],[.keep [0,1,8,10,29,30,31,40,41,42] [10]]),(72,[.keep [0,1,8,29,30,31] []],[]),(80,[.keep [0,1,8,10,29,30,31,40,41,42,53,54,55] [10]],[.keep [0,1,8,10,29,30,31,40,41,42,53,54,55] [10]]),(86,[.keep [0,1,8,10,29,30,31,40,41,42] [10]],[]),(103,[.keep [4,5] []],[])]⟩),
 (90,⟨0x222062262211,[],[]⟩),
 (47,⟨0x2662222226006c40226200220000620222000000222020220202600022,[(56,[.closeB 5,.closeB 3])],[(18,[.closeS (.c 5 0),.keep [2,3,4,5,6,22,23,24] [2,3,4,5]],[.closeS (.c 5 0),.keep [2,3,4,5,6,22,23,24] [2,3,4,5]]),(24,[.closeS (.c 5 0),.keep [2,3,4,5] [2,3,4,5]],[]),(32,[.closeS (.c 5 0),.keep [2,3,4,5,6,8,22,23,24,31,32,33] [2,3,4,5]],[.closeS (.c 5 0),.keep [2,3,4,5,6,8,22,23,24,31,32,33] [2,3,4,5]]),(38,[.closeS (.c 5 0),.keep [2,3,4,5,6,22,23,24] [2,3,4,5]],[])]⟩),
 (12,⟨0x2622020262001022,[],[]⟩),
 (169,⟨0x26c4444026402201,[],[]⟩),
 (170,⟨0x26442201,[],[]⟩),
 (146,⟨0x222064c002644c00222600620000644402644022201,[],[(8,[.keep [2] []],[]),(14,[.keep [0,3] []],[.keep [0,3] []]),(20,[.keep [] []],[]),(28,[.keep [2] []],[]),(33,[.keep [2] []],[])]⟩),
 (147,⟨0x26442201,[],[]⟩),
 (118,⟨0x2222222022226020222062260202260206000022226020622000022202220620226020600002220202602012,[],[(10,[.keep [4] []],[]),(16,[.keep [1,2,5,6] [2,5]],[.keep [1,2,5,6] [2,5]]),(22,[.keep [5] [5]],[]),(30,[.keep [4] []],[]),(39,[.keep [4] []],[]),(45,[.keep [5,7] [5]],[.keep [5,7] [5]]),(51,[.keep [5] [5]],[]),(60,[.keep [4] []],[]),(66,[.keep [5,7,8] [5]],[.keep [5,7,8] [5]]),(72,[.keep [5,7] [5]],[]),(80,[.keep [4] []],[]),(88,[.keep [4] []],[]),(97,[.keep [4] []],[]),(101,[.keep [4] []],[])]⟩),
 (119,⟨0x2222220620226020600006444026c444c04040222020260206220000222006cc44c4444c04040440264402220064402644026c04026c44040264402644022200644022202202026022602012,[],[(13,[.keep [6] []],[]),(20,[.keep [6] []],[]),(22,[.keep [1,2,3,7] [3,7]],[]),(28,[.keep [6] []],[]),(36,[.keep [6] []],[]),(42,[.keep [1,3,7,8] [3,7]],[.keep [1,3,7,8] [3,7]]),(48,[.keep [] []],[]),(59,[.keep [6] []],[]),(64,[.keep [1,3,7,8,9,10] [3,7,9]],[.keep [1,3,7,8,9,10] [3,7,9]]),(70,[.keep [1,3,7,8] [3,7]],[]),(78,[.keep [6] []],[]),(84,[.keep [6] []],[])]⟩),
 (148,⟨0x2262222262022022,[],[]⟩),
 (98,⟨0x20222222262226c0442602020260226020622260200062200002,[],[(6,[.keep [1,2,3,6,7] [3,6]],[.keep [1,2,3,6,7] [3,6]]),(12,[.keep [6] [6]],[]),(18,[.keep [1,2,3,6,7,8] [3,6]],[.keep [1,2,3,6,7,8] [3,6]]),(24,[.keep [1,2,3,6,7] [3,6]],[]),(34,[.keep [6] [6]],[]),(40,[.keep [6] [6]],[])]⟩),
 (120,⟨0x2222226cc40444cc4040444022202602262020622262020000220060e20200022020600122,[],[(30,[.keep [2,3,5,6,7] [2,3,5]],[.keep [2,3,5,6,7] [2,3,5]]),(36,[.keep [6] []],[])]⟩),
 (121,⟨0x22206222602026006220002222203622000622262002062202202026260022602062226020260062200002222012,[],[(6,[.canon (.s 3) 2003 1,.keep [1,3] [1,2003]],[.canon (.s 3) 2003 1,.keep [1,3] [1,2003]]),(14,[.canon (.s 3) 2003 1,.keep [1,3,4,5] [1,2003]],[.canon (.s 3) 2003 1,.keep [1,3,4,5] [1,2003]]),(20,[.canon (.s 3) 2003 1,.keep [1,3,4] [1,2003]],[]),(24,[.canon (.s 3) 2003 1,.keep [1,3,4,5] [1,2003]],[.canon (.s 3) 2003 1,.keep [1,3,4,5] [1,2003]]),(30,[.canon (.s 3) 2003 1,.keep [1,3,4,5] [1,2003]],[]),(43,[.canon (.s 3) 2003 1,.keep [1,3,4,5] [1,2003]],[]),(46,[.canon (.s 3) 2003 1,.keep [1,3,5] [1,2003]],[]),(53,[.canon (.s 3) 2003 1,.keep [1,3] [1,2003]],[]),(59,[.canon (.s 3) 2003 1,.keep [1,3,8] [1,2003]],[.canon (.s 3) 2003 1,.keep [1,3,8] [1,2003]]),(65,[.keep [] []],[]),(73,[.keep [2] []],[]),(78,[.keep [2] []],[])]⟩),
 (149,⟨0x22262622222202062026262202022200122,[],[(10,[.canon (.s 5) 2005 2,.keep [2,3,5] [2,3,2005]],[])]⟩),
 (92,⟨0x202222220222620260600206200622260200062200002020222222222220260020620062226020006220002222222226222202e0006222602000622000222222222026006220000206444022220102,[],[(8,[.keep [2,3] [2]],[]),(14,[.keep [1,2,4] [1,2]],[.keep [1,2,4] [1,2]]),(20,[.keep [1,2] [1,2]],[]),(30,[.keep [2,3] [2]],[]),(37,[.keep [1,2,6] [1,2]],[.keep [1,2,6] [1,2]]),(43,[.keep [1,2] [1,2]],[]),(49,[.keep [1,2,6,7] [1,2]],[.keep [1,2,6,7] [1,2]]),(55,[.keep [1,2,6] [1,2]],[]),(65,[.keep [2,3] [2]],[]),(73,[.keep [1,2,9] [1,2]],[.keep [1,2,9] [1,2]]),(79,[.keep [1,2] [1,2]],[]),(85,[.keep [1,2,9,10] [1,2]],[.keep [1,2,9,10] [1,2]]),(91,[.keep [1,2,9] [1,2]],[]),(103,[.keep [2,3] [2]],[]),(113,[.keep [2,3] [2]],[]),(119,[.keep [1,2,13] [1,2]],[.keep [1,2,13] [1,2]]),(125,[.keep [2] [2]],[]),(131,[.keep [1,2,13,14] [1,2]],[.keep [1,2,13,14] [1,2]]),(137,[.keep [1,2,13] [1,2]],[]),(147,[.keep [2,3] [2]],[]),(153,[.keep [2,3] [2]],[])]⟩),
 (48,⟨0x2222302022212,[],[]⟩),
 (93,⟨0x262222212,[],[]⟩),
 (94,⟨0x22206c444c0404c002226006200012,[],[(6,[.keep [1,2,5] [2]],[.keep [1,2,5] [2]]),(12,[.keep [] []],[]),(20,[.keep [4] []],[]),(25,[.keep [4] []],[])]⟩),
 (123,⟨0x26262222020622202202026222622012,[],[]⟩),
 (95,⟨0x22222202001ef000062600006200012,[],[(6,[.keep [1,2,5] [2]],[.keep [1,2,5] [2]]),(12,[.keep [] []],[]),(18,[.keep [1,2,5,6] [2]],[.keep [1,2,5,6] [2]]),(24,[.keep [1,2,5] [2]],[]),(32,[.keep [4] []],[]),(38,[.keep [4] []],[])]⟩),
 (49,⟨0x26c4426c0026c0022012,[],[]⟩),
 (50,⟨0x2220626002600620000620201,[],[(8,[.keep [4] []],[]),(14,[.keep [0,1,5] []],[.keep [0,1,5] []]),(20,[.keep [] []],[]),(28,[.keep [4] []],[]),(33,[.keep [4] []],[])]⟩),
 (54,⟨0x2220626002600620000620201,[],[(8,[.keep [4] []],[]),(14,[.keep [0,1,5] []],[.keep [0,1,5] []]),(20,[.keep [] []],[]),(28,[.keep [4] []],[]),(33,[.keep [4] []],[])]⟩),
 (51,⟨0x26c44426c04026c44c40260226222626020022226260200226026020122,[],[]⟩),
 (52,⟨0x22222202602602602062600006200012,[],[(6,[.keep [1,2,5] [2]],[.keep [1,2,5] [2]]),(12,[.keep [] []],[]),(18,[.keep [1,2,5,6] [2]],[.keep [1,2,5,6] [2]]),(24,[.keep [1,2,5] [2]],[]),(32,[.keep [4] []],[]),(38,[.keep [4] []],[])]⟩),
 (13,⟨0x2222220262602602006260200062200022222202001ef000062260200006222602022602062200006c440440264c4040264c40022620026444426444022220200220122,[],[(8,[.keep [4] []],[]),(16,[.keep [4] []],[]),(24,[.keep [4] []],[]),(30,[.keep [2,3,5] [2,3]],[.keep [2,3,5] [2,3]]),(36,[.keep [3] [3]],[]),(45,[.keep [4] []],[]),(50,[.keep [2,3,5,6] [2,3]],[.keep [2,3,5,6] [2,3]]),(56,[.keep [2,3,5] [2,3]],[]),(64,[.keep [4] []],[]),(72,[.keep [3,7] [3]],[.keep [3,7] [3]]),(78,[.keep [] []],[]),(84,[.keep [3,7,8] [3]],[.keep [3,7,8] [3]]),(90,[.keep [3,7] [3]],[]),(98,[.keep [4] []],[]),(104,[.keep [4] []],[])]⟩),
 (55,⟨0x22202626002600620000620201,[],[(8,[.keep [4] []],[]),(14,[.keep [0,1,5] []],[.keep [0,1,5] []]),(20,[.keep [] []],[]),(28,[.keep [4] []],[]),(33,[.keep [4] []],[])]⟩),
 (16,⟨0x222026260202602062200006c440440264c4040264c4040262020122,[],[(8,[.keep [4] []],[]),(14,[.keep [2,3,5] [2,3]],[.keep [2,3,5] [2,3]]),(20,[.keep [] []],[]),(28,[.keep [4] []],[]),(33,[.keep [4] []],[])]⟩),
 (14,⟨0x260212,[],[]⟩),
 (62,⟨0x2236226200026201,[],[]⟩),
 (60,⟨0x22206c444c0404c0022260062000062202012,[],[(8,[.keep [4] []],[]),(14,[.keep [1,2,5] [2]],[.keep [1,2,5] [2]]),(20,[.keep [] []],[]),(28,[.keep [4] []],[]),(33,[.keep [4] []],[])]⟩),
 (61,⟨0x2222220626220202062202202026022602062600006200012,[],[(6,[.keep [1,2,5] [2]],[.keep [1,2,5] [2]]),(12,[.keep [] []],[]),(18,[.keep [1,2,5,6] [2]],[.keep [1,2,5,6] [2]]),(24,[.keep [1,2,5] [2]],[]),(39,[.keep [4] []],[]),(46,[.keep [4] []],[])]⟩),
 (20,⟨0x26c44260012,[],[]⟩),
 (21,⟨0x2222226260026cc000262226020260062000012,[],[(8,[.canon (.s 5) 2005 1,.keep [1,2,5,6] [2,2005]],[.canon (.s 5) 2005 1,.keep [1,2,5,6] [2,2005]]),(14,[.canon (.s 5) 2005 1,.keep [5] [2005]],[])]⟩),
 (171,⟨0x2222226260026200001,[],[(8,[.keep [0,3,4] []],[.keep [0,3,4] []]),(14,[.keep [3] []],[])]⟩),
 (150,⟨0x222262622260262600260062000262222620201,[],[(8,[.keep [4] []],[]),(14,[.keep [0,1,5] []],[.keep [0,1,5] []]),(20,[.keep [] []],[]),(28,[.keep [4] []],[]),(33,[.keep [4] []],[])]⟩),
 (97,⟨0x2220626002600620000620201,[],[(8,[.keep [4] []],[]),(14,[.keep [0,1,5] []],[.keep [0,1,5] []]),(20,[.keep [] []],[]),(28,[.keep [4] []],[]),(33,[.keep [4] []],[])]⟩),
 (124,⟨0x26622226222266000226c04c00262002226c04c002620001,[],[(6,[.keep [0,1,5] []],[.keep [0,1,5] []]),(12,[.keep [0,1,5] []],[])]⟩),
 (96,⟨0x222222222226260026200026260006200000022026022200222220112,[(7,[.closeS (.s 13)])],[(8,[.closeS (.s 4),.canon (.s 5) 2005 1,.keep [1,4,5] [1,2005]],[.closeS (.s 4),.canon (.s 5) 2005 1,.keep [1,4,5] [1,2005]]),(14,[.canon (.s 5) 2005 1,.keep [5] [2005]],[]),(24,[.canon (.s 2) 2002 1,.keep [2,3] [2002]],[]),(32,[.closeS (.s 4),.canon (.s 5) 2005 1,.keep [1,4,5,6,7] [1,2005]],[.closeS (.s 4),.canon (.s 5) 2005 1,.keep [1,4,5,6,7] [1,2005]]),(38,[.canon (.s 5) 2005 1,.keep [1,5,6] [1,2005]],[]),(46,[.closeS (.s 4),.canon (.s 5) 2005 1,.keep [1,4,5,6,7,8,9] [1,2005]],[.closeS (.s 4),.canon (.s 5) 2005 1,.keep [1,4,5,6,7,8,9] [1,2005]]),(52,[.closeS (.s 4),.canon (.s 5) 2005 1,.keep [1,4,5,6,7] [1,2005]],[]),(61,[.canon (.s 2) 2002 1,.keep [2,3] [2002]],[])]⟩),
 (53,⟨0x22202200220112,[],[]⟩),
 (15,⟨0x2264442202220222112,[],[]⟩),
 (69,⟨0x26c4426c40026c04026c042220122,[],[]⟩),
 (56,⟨0x22222262e2600002620000122,[],[(8,[.canon (.s 7) 2007 1,.keep [1,3,5,7,8] [3,5,2007]],[.canon (.s 7) 2007 1,.keep [1,3,5,7,8] [3,5,2007]]),(14,[.canon (.s 7) 2007 1,.keep [7] [2007]],[])]⟩),
 (57,⟨0x2220626002600620001,[],[(6,[.keep [0,1,5] []],[.keep [0,1,5] []]),(12,[.keep [] []],[]),(20,[.keep [4] []],[]),(25,[.keep [4] []],[])]⟩),
 (110,⟨0x2222226262600260026200001,[],[(8,[.canon (.s 5) 2005 1,.keep [0,1,5,6] [2005]],[.canon (.s 5) 2005 1,.keep [0,1,5,6] [2005]]),(14,[.canon (.s 5) 2005 1,.keep [5] [2005]],[])]⟩),
 (111,⟨0x2222226262600260026200001,[],[(8,[.canon (.s 5) 2005 1,.keep [0,1,5,6] [2005]],[.canon (.s 5) 2005 1,.keep [0,1,5,6] [2005]]),(14,[.canon (.s 5) 2005 1,.keep [5] [2005]],[])]⟩),
 (70,⟨0x2222230622202222622222226260022626000220602602600620000622260200006220002223062600203062600206200020662200622002022002,[(109,[.closeS (.s 103)]),(116,[.closeS (.c 5 3)])],[(16,[.closeS (.c 5 1),.closeS (.c 5 2),.keep [1,2,4,5,6] [2,4,5]],[.closeS (.c 5 1),.closeS (.c 5 2),.keep [1,2,4,5,6] [2,4,5]]),(22,[.closeS (.c 5 1),.closeS (.c 5 2),.keep [1,2,4,5] [2,4,5]],[]),(33,[.closeS (.c 5 1),.closeS (.c 5 2),.canon (.c 5 3) 4103 1,.keep [1,2,4,5,7] [2,4,5,4103]],[.closeS (.c 5 1),.closeS (.c 5 2),.canon (.c 5 3) 4103 1,.keep [1,2,4,5,7] [2,4,5,4103]]),(39,[.closeS (.c 5 1),.closeS (.c 5 2),.canon (.c 5 3) 4103 1,.keep [4,5] [4,5,4103]],[]),(48,[.closeS (.c 5 1),.closeS (.c 5 2),.canon (.s 8) 2008 1,.canon (.c 5 3) 4103 1,.keep [1,2,4,5,7,8,9] [2,4,5,2008,4103]],[.closeS (.c 5 1),.closeS (.c 5 2),.canon (.s 8) 2008 1,.canon (.c 5 3) 4103 1,.keep [1,2,4,5,7,8,9] [2,4,5,2008,4103]]),(54,[.closeS (.c 5 1),.closeS (.c 5 2),.canon (.s 8) 2008 1,.canon (.c 5 3) 4103 1,.keep [1,2,4,5,7,8] [2,4,5,2008,4103]],[]),(63,[.closeS (.s 10),.closeS (.c 5 1),.closeS (.c 5 2),.canon (.s 8) 2008 1,.canon (.c 5 3) 4103 1,.keep [1,2,4,5,7,8,9,10,11] [2,4,5,2008,4103]],[.closeS (.s 10),.closeS (.c 5 1),.closeS (.c 5 2),.canon (.s 8) 2008 1,.canon (.c 5 3) 4103 1,.keep [1,2,4,5,7,8,9,10,11] [2,4,5,2008,4103]]),(69,[.closeS (.c 5 1),.closeS (.c 5 2),.canon (.s 8) 2008 1,.canon (.c 5 3) 4103 1,.keep [1,2,4,5,7,8,9,10] [2,4,5,2008,4103]],[])]⟩),
 (58,⟨0x262222226226002260062000002,[(25,[.closeS (.s 27)])],[(8,[.canon (.s 7) 2007 1,.keep [1,2,3,6,7,8] [3,6,2007]],[.canon (.s 7) 2007 1,.keep [1,2,3,6,7,8] [3,6,2007]]),(14,[.canon (.s 7) 2007 1,.keep [3,6,7] [3,6,2007]],[])]⟩),
 (17,⟨0x2e22222222216006c4c004c00226006200206200022202e200022,[(51,[.closeS (.s 51)])],[(10,[.canon (.s 8) 2008 1,.keep [1,3,6,7,8,9] [3,6,2008]],[.canon (.s 8) 2008 1,.keep [1,3,6,7,8,9] [3,6,2008]]),(16,[.canon (.s 8) 2008 1,.keep [1,3,6,8] [3,6,2008]],[]),(22,[.canon (.s 8) 2008 1,.keep [1,3,6,7,8,9,10] [3,6,2008]],[.canon (.s 8) 2008 1,.keep [1,3,6,7,8,9,10] [3,6,2008]]),(28,[.canon (.s 8) 2008 1,.keep [1,3,6,7,8,9] [3,6,2008]],[])]⟩),
 (18,⟨0x2e22222222216006c4c004c0022260062002016006200022202e200022,[(56,[.closeS (.s 55)])],[(10,[.canon (.s 8) 2008 1,.keep [1,3,6,7,8,9] [3,6,2008]],[.canon (.s 8) 2008 1,.keep [1,3,6,7,8,9] [3,6,2008]]),(16,[.canon (.s 8) 2008 1,.keep [1,3,6,8] [3,6,2008]],[]),(24,[.canon (.s 8) 2008 1,.keep [1,3,6,7,8,9,10] [3,6,2008]],[.canon (.s 8) 2008 1,.keep [1,3,6,7,8,9,10] [3,6,2008]]),(30,[.canon (.s 8) 2008 1,.keep [1,3,6,7,8,9] [3,6,2008]],[])]⟩),
 (59,⟨0x22222602600620001,[],[(6,[.keep [0,1,5] []],[.keep [0,1,5] []]),(12,[.keep [] []],[]),(20,[.keep [4] []],[]),(25,[.keep [4] []],[])]⟩),
 (19,⟨0x2e22222222216002662600006200026260001600622002260020222022202e200022,[(66,[.closeS (.s 65)])],[(10,[.canon (.s 8) 2008 1,.keep [1,3,6,7,8,9] [3,6,2008]],[.canon (.s 8) 2008 1,.keep [1,3,6,7,8,9] [3,6,2008]]),(16,[.canon (.s 8) 2008 1,.keep [1,3,6,8] [3,6,2008]],[]),(38,[.canon (.s 8) 2008 1,.keep [1,3,6,7,8,9,10,11] [3,6,2008]],[.canon (.s 8) 2008 1,.keep [1,3,6,7,8,9,10,11] [3,6,2008]]),(44,[.canon (.s 8) 2008 1,.keep [1,3,6,7,8,9] [3,6,2008]],[])]⟩),
 (3,⟨0x26cc001cf44444cc001cf00044c001cf00042222220220064c00264c00264c002644264422226442644264426442644222260022020260022020260022020260006402220020122,[],[]⟩)]
end Go.VE
namespace Go.VE
namespace trace_events_c1
def AR:List RO:=[o1 20 (.s 18) [],o2 21 (ix 5) [.s 16,.s 18] [],o2 22 (lD 5) [.s 21] [21],o2 6 (.a (.alloc 5 [.int .i64 0,.int .i64 0,.int .i64 0,.int .i64 0,.bH])) [] [],o1 5 (.s 20) [20],oz (.l (.store 5)) [.s 6,.s 22] [22]]
def yS:List RO:=[o1 23 (.s 0) [],o1 24 (.s 3) [],o1 25 (.s 5) [5],o2 26 (bI .add) [.s 25,.k (.int .i64 1)] [25],o2 27 (.p (.build [.int .i64 0,.int .i64 0] [(0,1),(1,1)])) [.s 24,.s 26] [24,26],o2 28 (lD 5) [.s 6] [6],
 o2 29 .c [.s 23,.s 27,.s 28] [23,27,28],o2 30 (.p .not) [.s 29] [29]]
def wB:List RO:=[o2 31 (bI .add) [.s 18,.k (.int .i64 1)] [],o1 18 (.s 31) [31]]
def DS:RC:=.hg (.seq (.ops [o2 19 (bI .lss) [.s 18,.s 17] []]) (.seq (.cond (.s 19) .skip (.exit 2)) (.seq (.block 3 (.seq (.ops AR) (.seq (.ops yS) (.cond (.s 30) .ret .skip)))) (.ops wB)))) (.keep [0,3,8,9,10,16,17,18] [])
def Io:List RO:=[o1 12 (.s 10) [],o2 13 (ix 3) [.s 8,.s 10] [],o2 14 (lD 3) [.s 13] [13],o2 4 (.a (.alloc 3 [.str ByteArray.empty,.bH,.bH])) [] [],o1 3 (.s 12) [12],oz (.l (.store 3)) [.s 4,.s 14] [14]]
def GL:List RO:=[o2 15 (fa 2) [.s 4] [],o2 16 (ld 1) [.s 15] [15],o2 17 ln [.s 16] [],o1 18 (.k (.int .i64 0)) []]
def Ew:List RO:=[o2 32 (bI .add) [.s 10,.k (.int .i64 1)] [],o1 10 (.s 32) [32]]
def U2:RC:=.block 2 (.gh (.keep [0,3,8,9,10,16,17,18] []) (.loop DS))
def K3:RC:=.hg (.seq (.ops [o2 11 (bI .lss) [.s 10,.s 9] []]) (.seq (.cond (.s 11) .skip (.exit 0)) (.seq (.block 1 (.seq (.ops Io) (.seq (.ops GL) U2))) (.ops Ew)))) (.keep [0,8,9,10] [])
def Qa:List RO:=[o2 7 (fa 0) [.s 1] [1],o2 8 (ld 1) [.s 7] [7],o2 9 ln [.s 8] [],o1 10 (.k (.int .i64 0)) []]
def U1:RC:=.block 0 (.gh (.keep [0,8,9,10] []) (.loop K3))
def text:RF:=⟨33,[],.seq (.ops Qa) U1⟩
section
variable {S:Sys}
abbrev I1 (ps:Sl cn) (i:Int) (B:List (List V)) (more:Bool) (y:Nat):St:=⟨[(0,.yl y),Cv 8 ps,Iv 9 (len ps),Iv 10 i],[],[],B,more,y⟩
abbrev I2 (ps:Sl cn) (i:Int) (es:Sl Event) (j:Int) (B:List (List V)) (more:Bool) (y:Nat):St:=⟨[(0,.yl y),Iv 3 i,Cv 8 ps,Iv 9 (len ps),Iv 10 i,Cv 16 es,Iv 17 (len es),Iv 18 j],[],[],B,more,y⟩
abbrev S2 (ps:Sl cn) (i:Int) (es:Sl Event) (j:Int) (b:Bool) (B:List (List V)) (more:Bool) (y:Nat):St:=⟨[(0,.yl y),Iv 3 i,Cv 8 ps,Iv 9 (len ps),Iv 10 i,Cv 16 es,Iv 17 (len es),Iv 18 j,Bv 19 b],[],[],B,more,y⟩
theorem SS (ps:Sl cn) (i:Int) (es:Sl Event) (j:Int) (B:List (List V)) (more:Bool) (y:Nat) (D:decide (j<len es)=false) :
 rn S.bare ni some (.rc DS) [] (I2 ps i es j B more y)=some (.exit 2,S2 ps i es j false B more y):=by
 refine Le.get ?_;refine Kf (n:=7) (fo':=.rc (.cond (.s 19) .skip (.exit 2))) (fs':=[.seq (.seq (.block 3 (.seq (.ops AR) (.seq (.ops yS) (.cond (.s 30) .ret .skip)))) (.ops wB)),.gst (.keep [0,3,8,9,10,16,17,18] [])]) (λb=>S2 ps i es j b B more y) D (by kernel_rfl) ?_
 exact Le.of_eq (by kernel_rfl)
theorem T9 (ps:Sl cn) (i:Int) (es:Sl Event) (j:Int) (e:Event) (B:List (List V)) (more:Bool) (y:Nat) (G:decide (j<len es)=true) (D:idx es j=some e) (J:(!(more || !B.isEmpty))=false) :
 rn S.bare ni some (.rc DS) [] (I2 ps i es j ([enc (⟨i,IntKind.wrap .i64 (j+1)⟩:aY),enc e]::B) more y)=some (.norm,I2 ps i es (IntKind.wrap .i64 (j+1)) B more y):=by
 refine Le.get ?_;refine Kt (n:=7) (fo':=.rc (.cond (.s 19) .skip (.exit 2))) (fs':=[.seq (.seq (.block 3 (.seq (.ops AR) (.seq (.ops yS) (.cond (.s 30) .ret .skip)))) (.ops wB)),.gst (.keep [0,3,8,9,10,16,17,18] [])]) (λb=>S2 ps i es j b ([enc (⟨i,IntKind.wrap .i64 (j+1)⟩:aY),enc e]::B) more y) G (by kernel_rfl) ?_
 refine NJ D ?_;refine N3 8 false [] (AR.drop 1) [.seq (.seq (.ops yS) (.cond (.s 30) .ret .skip)),.blk 3,.seq (.ops wB),.gst (.keep [0,3,8,9,10,16,17,18] [])] ⟨[(0,.yl y),Iv 3 i,Cv 8 ps,Iv 9 (len ps),Iv 10 i,Cv 16 es,Iv 17 (len es),Iv 18 j,Bv 19 true,Iv 20 j],[],[],([enc (⟨i,IntKind.wrap .i64 (j+1)⟩:aY),enc e]::B),more,y⟩ .i64 rfl (by kernel_rfl) λx h1=>?_
 obtain rfl:x=e:=by rw[D]at h1;cases h1;rfl
 refine Te 1 false [] (AR.drop 3) [.seq (.seq (.ops yS) (.cond (.s 30) .ret .skip)),.blk 3,.seq (.ops wB),.gst (.keep [0,3,8,9,10,16,17,18] [])] ⟨[(0,.yl y),Iv 3 i,Cv 8 ps,Iv 9 (len ps),Iv 10 i,Cv 16 es,Iv 17 (len es),Iv 18 j,Bv 19 true,Iv 20 j,Cv 22 x],[],[],([enc (⟨i,IntKind.wrap .i64 (j+1)⟩:aY),enc x]::B),more,y⟩ [iv 0,iv 0,iv 0,iv 0,.v .bH] rfl (by simp only[bC,xq,qe,rj,pS,rV,sP,rM,s7,qc,rW,xm,sR,tg,tH,tJ,vl,vh,ru,tv,SV.cR];rfl) (by kernel_rfl) ?_
 refine Ast 1 false [] (AR.drop 5) [.seq (.seq (.ops yS) (.cond (.s 30) .ret .skip)),.blk 3,.seq (.ops wB),.gst (.keep [0,3,8,9,10,16,17,18] [])] ⟨[(0,.yl y),Iv 3 i,Cv 8 ps,Iv 9 (len ps),Iv 10 i,Cv 16 es,Iv 17 (len es),Iv 18 j,Bv 19 true,Cv 22 x,Pv 6,Iv 5 j],[Xb 6 (⟨0,0,0,0,.nil⟩:Event)],[],([enc (⟨i,IntKind.wrap .i64 (j+1)⟩:aY),enc x]::B),more,y⟩ 6 0 x [iv 0,iv 0,iv 0,iv 0,.v .bH] ((cells x).map .v) rfl (by kernel_rfl) ?_
 refine Vh (n:=10) (q:=yS.drop 6) (fs':=[.seq (.cond (.s 30) .ret .skip),.blk 3,.seq (.ops wB),.gst (.keep [0,3,8,9,10,16,17,18] [])]) (st:=⟨[(0,.yl y),Iv 3 i,Cv 8 ps,Iv 9 (len ps),Iv 10 i,Cv 16 es,Iv 17 (len es),Iv 18 j,Bv 19 true,(23,.yl y),Cv 27 (⟨i,IntKind.wrap .i64 (j+1)⟩:aY),Cv 28 x],[Xb 6 x],[],([enc (⟨i,IntKind.wrap .i64 (j+1)⟩:aY),enc x]::B),more,y⟩) (vs:=[cv (⟨i,IntKind.wrap .i64 (j+1)⟩:aY),cv x]) (by kernel_rfl) rfl (by kernel_rfl) (by kernel_rfl) rfl rfl ?_
 refine Kf (n:=3) (fo':=.rc (.cond (.s 30) .ret .skip)) (fs':=[.blk 3,.seq (.ops wB),.gst (.keep [0,3,8,9,10,16,17,18] [])]) (λb=>⟨[(0,.yl y),Iv 3 i,Cv 8 ps,Iv 9 (len ps),Iv 10 i,Cv 16 es,Iv 17 (len es),Iv 18 j,Bv 19 true,Bv 30 b],[Xb 6 x],[],B,more,y⟩) J (by kernel_rfl) ?_
 exact Le.of_eq (by kernel_rfl)
theorem QE (ps:Sl cn) (i:Int) (es:Sl Event) (j:Int) (e:Event) (B:List (List V)) (more:Bool) (y:Nat) (G:decide (j<len es)=true) (D:idx es j=some e) (J:(!(more || !B.isEmpty))=true) :
 rn S.bare ni some (.rc DS) [] (I2 ps i es j ([enc (⟨i,IntKind.wrap .i64 (j+1)⟩:aY),enc e]::B) more y)=some (.ret,⟨[(0,.yl y),Iv 3 i,Cv 8 ps,Iv 9 (len ps),Iv 10 i,Cv 16 es,Iv 17 (len es),Iv 18 j,Bv 19 true,Bv 30 true],[Xb 6 e],[],B,more,y⟩):=by
 refine Le.get ?_;refine Kt (n:=7) (fo':=.rc (.cond (.s 19) .skip (.exit 2))) (fs':=[.seq (.seq (.block 3 (.seq (.ops AR) (.seq (.ops yS) (.cond (.s 30) .ret .skip)))) (.ops wB)),.gst (.keep [0,3,8,9,10,16,17,18] [])]) (λb=>S2 ps i es j b ([enc (⟨i,IntKind.wrap .i64 (j+1)⟩:aY),enc e]::B) more y) G (by kernel_rfl) ?_
 refine NJ D ?_;refine N3 8 false [] (AR.drop 1) [.seq (.seq (.ops yS) (.cond (.s 30) .ret .skip)),.blk 3,.seq (.ops wB),.gst (.keep [0,3,8,9,10,16,17,18] [])] ⟨[(0,.yl y),Iv 3 i,Cv 8 ps,Iv 9 (len ps),Iv 10 i,Cv 16 es,Iv 17 (len es),Iv 18 j,Bv 19 true,Iv 20 j],[],[],([enc (⟨i,IntKind.wrap .i64 (j+1)⟩:aY),enc e]::B),more,y⟩ .i64 rfl (by kernel_rfl) λx h1=>?_
 obtain rfl:x=e:=by rw[D]at h1;cases h1;rfl
 refine Te 1 false [] (AR.drop 3) [.seq (.seq (.ops yS) (.cond (.s 30) .ret .skip)),.blk 3,.seq (.ops wB),.gst (.keep [0,3,8,9,10,16,17,18] [])] ⟨[(0,.yl y),Iv 3 i,Cv 8 ps,Iv 9 (len ps),Iv 10 i,Cv 16 es,Iv 17 (len es),Iv 18 j,Bv 19 true,Iv 20 j,Cv 22 x],[],[],([enc (⟨i,IntKind.wrap .i64 (j+1)⟩:aY),enc x]::B),more,y⟩ [iv 0,iv 0,iv 0,iv 0,.v .bH] rfl (by simp only[bC,xq,qe,rj,pS,rV,sP,rM,s7,qc,rW,xm,sR,tg,tH,tJ,vl,vh,ru,tv,SV.cR];rfl) (by kernel_rfl) ?_
 refine Ast 1 false [] (AR.drop 5) [.seq (.seq (.ops yS) (.cond (.s 30) .ret .skip)),.blk 3,.seq (.ops wB),.gst (.keep [0,3,8,9,10,16,17,18] [])] ⟨[(0,.yl y),Iv 3 i,Cv 8 ps,Iv 9 (len ps),Iv 10 i,Cv 16 es,Iv 17 (len es),Iv 18 j,Bv 19 true,Cv 22 x,Pv 6,Iv 5 j],[Xb 6 (⟨0,0,0,0,.nil⟩:Event)],[],([enc (⟨i,IntKind.wrap .i64 (j+1)⟩:aY),enc x]::B),more,y⟩ 6 0 x [iv 0,iv 0,iv 0,iv 0,.v .bH] ((cells x).map .v) rfl (by kernel_rfl) ?_
 refine Vh (n:=10) (q:=yS.drop 6) (fs':=[.seq (.cond (.s 30) .ret .skip),.blk 3,.seq (.ops wB),.gst (.keep [0,3,8,9,10,16,17,18] [])]) (st:=⟨[(0,.yl y),Iv 3 i,Cv 8 ps,Iv 9 (len ps),Iv 10 i,Cv 16 es,Iv 17 (len es),Iv 18 j,Bv 19 true,(23,.yl y),Cv 27 (⟨i,IntKind.wrap .i64 (j+1)⟩:aY),Cv 28 x],[Xb 6 x],[],([enc (⟨i,IntKind.wrap .i64 (j+1)⟩:aY),enc x]::B),more,y⟩) (vs:=[cv (⟨i,IntKind.wrap .i64 (j+1)⟩:aY),cv x]) (by kernel_rfl) rfl (by kernel_rfl) (by kernel_rfl) rfl rfl ?_
 refine Kt (n:=3) (fo':=.rc (.cond (.s 30) .ret .skip)) (fs':=[.blk 3,.seq (.ops wB),.gst (.keep [0,3,8,9,10,16,17,18] [])]) (λb=>⟨[(0,.yl y),Iv 3 i,Cv 8 ps,Iv 9 (len ps),Iv 10 i,Cv 16 es,Iv 17 (len es),Iv 18 j,Bv 19 true,Bv 30 b],[Xb 6 x],[],B,more,y⟩) J (by kernel_rfl) ?_
 exact Le.of_eq (by kernel_rfl)
abbrev S1 (ps:Sl cn) (i:Int) (b:Bool) (B:List (List V)) (more:Bool) (y:Nat):St:=⟨[(0,.yl y),Cv 8 ps,Iv 9 (len ps),Iv 10 i,Bv 11 b],[],[],B,more,y⟩
theorem Sn (ps:Sl cn) (i:Int) (B:List (List V)) (more:Bool) (y:Nat) (D:decide (i<len ps)=false) :
 rn S.bare ni some (.rc K3) [] (I1 ps i B more y)=some (.exit 0,S1 ps i false B more y):=by
 refine Le.get ?_;refine Kf (n:=7) (fo':=.rc (.cond (.s 11) .skip (.exit 0))) (fs':=[.seq (.seq (.block 1 (.seq (.ops Io) (.seq (.ops GL) U2))) (.ops Ew)),.gst (.keep [0,8,9,10] [])]) (λb=>S1 ps i b B more y) D (by kernel_rfl) ?_
 exact Le.of_eq (by kernel_rfl)
def O6:List Fm:=[.blk 2,.blk 1,.seq (.ops Ew),.gst (.keep [0,8,9,10] [])]
theorem PG (ps:Sl cn) (i:Int) (p:cn) (B:List (List V)) (more:Bool) (y:Nat) (r:Out×St) (G:decide (i<len ps)=true) (D:idx ps i=some p)
 (h:rn S.bare ni some (.rc (.loop DS)) O6 (I2 ps i p.events 0 B more y)=some r):rn S.bare ni some (.rc K3) [] (I1 ps i B more y)=some r:=by
 refine Le.get ?_;refine Kt (n:=7) (fo':=.rc (.cond (.s 11) .skip (.exit 0))) (fs':=[.seq (.seq (.block 1 (.seq (.ops Io) (.seq (.ops GL) U2))) (.ops Ew)),.gst (.keep [0,8,9,10] [])]) (λb=>S1 ps i b B more y) G (by kernel_rfl) ?_
 refine NJ D ?_;refine N3 8 false [] (Io.drop 1) [.seq (.seq (.ops GL) U2),.blk 1,.seq (.ops Ew),.gst (.keep [0,8,9,10] [])] ⟨[(0,.yl y),Cv 8 ps,Iv 9 (len ps),Iv 10 i,Bv 11 true,Iv 12 i],[],[],B,more,y⟩ .i64 rfl (by kernel_rfl) λx h1=>?_
 obtain rfl:x=p:=by rw[D]at h1;cases h1;rfl
 refine Te 1 false [] (Io.drop 3) [.seq (.seq (.ops GL) U2),.blk 1,.seq (.ops Ew),.gst (.keep [0,8,9,10] [])] ⟨[(0,.yl y),Cv 8 ps,Iv 9 (len ps),Iv 10 i,Bv 11 true,Iv 12 i,Cv 14 x],[],[],B,more,y⟩ [.v (.str ByteArray.empty),.v .bH,.v .bH] rfl (by simp only[bC,xq,qe,rj,pS,rV,sP,rM,s7,qc,rW,xm,sR,tg,tH,tJ,vl,vh,ru,tv,SV.cR];rfl) (by kernel_rfl) ?_
 refine Ast 1 false [] (Io.drop 5) [.seq (.seq (.ops GL) U2),.blk 1,.seq (.ops Ew),.gst (.keep [0,8,9,10] [])] ⟨[(0,.yl y),Cv 8 ps,Iv 9 (len ps),Iv 10 i,Bv 11 true,Cv 14 x,Pv 4,Iv 3 i],[Xb 4 (⟨ByteArray.empty,.nil,.nil⟩:cn)],[],B,more,y⟩ 4 0 x [.v (.str ByteArray.empty),.v .bH,.v .bH] ((cells x).map .v) rfl (by kernel_rfl) ?_
 refine Ta 6 false [] (GL.drop 2) [.seq U2,.blk 1,.seq (.ops Ew),.gst (.keep [0,8,9,10] [])] ⟨[(0,.yl y),Cv 8 ps,Iv 9 (len ps),Iv 10 i,Bv 11 true,Pv 4,Iv 3 i,Cv 16 x.events],[Xb 4 x],[],B,more,y⟩ x.events rfl (by kernel_rfl) ?_
 refine Ds (n:=5) (fo':=.rc (.loop DS)) (fs':=O6) (st':=I2 ps i x.events 0 B more y) (by kernel_rfl) (Le.of_eq h)
theorem Qd (ps:Sl cn) (i:Int) (es:Sl Event) (j:Int) (B:List (List V)) (more:Bool) (y:Nat) :
 rn S.bare ni some (.ex 2) O6 (S2 ps i es j false B more y)=some (.norm,I1 ps (IntKind.wrap .i64 (i+1)) B more y):=by kernel_rfl
theorem wrap_small (n:Nat) (h:n<9223372036854775807):IntKind.wrap .i64 ((n:Int)+1)=((n+1:Nat):Int):=by
 simp[IntKind.wrap,IntKind.bits,IntKind.signed];omega
abbrev eI (x:aY×Event):List V:=[enc x.1,enc x.2]
theorem Cg.step {x:List V} {D rest:List (List V)} {more:Bool} (h:Cg D (x::rest) more):∃B,D=x::B/\((!(more || !B.isEmpty))=false/\Cg B rest more\/(!(more || !B.isEmpty))=true/\B=[]):=by
 rcases h with⟨rfl,rfl⟩|⟨rfl,q,r,hr⟩
 .exact⟨rest,rfl,.inl ⟨rfl,.inl ⟨rfl,rfl⟩⟩⟩
 .cases D with
  | nil=>exact absurd rfl q
  | cons w D=>
   simp only[List.cons_append,List.cons.injEq]at hr;obtain⟨rfl,rfl⟩:=hr;refine⟨D,rfl,?_⟩
   cases D with
   | nil=>exact .inr ⟨rfl,rfl⟩
   | cons z t=>exact .inl ⟨rfl,.inr ⟨rfl,by simp,r,rfl⟩⟩
theorem FQ {α:Type} {s:Sl α} {j:Nat} {x:α} {r:List α} (h:s.l.drop j=x::r):idx s (j:Int)=some x/\decide ((j:Int)<len s)=true/\s.l.drop (j+1)=r:=by
 have h1:j<s.l.length:=by
  apply Classical.byContradiction;intro t;rw[List.drop_eq_nil_of_le (by omega)]at h;cases h
 have q:=List.drop_eq_getElem_cons h1;rw[q]at h;simp only[List.cons.injEq]at h;refine⟨?_,by simp[len,h1],h.2⟩
 unfold idx;rw[if_pos (by omega)]
 simp[ζd h1,h.1]
variable {Q:Out×St->Option (Out×St)} {fs:List Fm}
theorem inner (ps:Sl cn) (i:Int) (es:Sl Event) (O:es.l.length<9223372036854775807) (more:Bool) (y:Nat) (R:List (List V)):∀(rem:List Event) (j:Nat),es.l.drop j=rem->∀D,Cg D ((iP i j rem).map eI++R) more ->
 (∃(B:List (List V)) (U:Int),Cg B R more/\rn S.bare ni Q (.rc (.loop DS)) fs (I2 ps i es j D more y)=rn S.bare ni Q (.ex 2) fs (S2 ps i es U false B more y)) \/
 (∃st':St,st'.want=[]/\rn S.bare ni Q (.rc (.loop DS)) fs (I2 ps i es j D more y)=Q (.ret,st'))
 | [],j,J,D,G=>by
  have h1:decide ((j:Int)<len es)=false:=by
   have:es.l.length<=j:=by simpa using J
   simp[len];omega
  exact .inl ⟨D,j,by simpa [iP]using G,DL (SS ps i es j D more y h1)⟩
 | e::rem,j,J,D,G=>by
  obtain⟨h1,u,H⟩:=FQ J;have L:j<es.l.length:=by simpa [len]using u
  simp only[iP,List.map_cons,List.cons_append]at G;obtain⟨B,rfl,q⟩:=Cg.step G;have w:=wrap_small j (by omega)
  have t:((j:Int)+1)=IntKind.wrap .i64 ((j:Int)+1):=by rw[w];simp
  rcases q with⟨q,z⟩|⟨q,rfl⟩
  .have k:=T9 (S:=S) ps i es j e B more y u h1 q;rw[<-t]at k;have k2:=DM (Q:=Q) (fs:=fs) k;have C:=inner ps i es O more y R rem (j+1) H B (by push_cast;exact z)
   rw[show ((j+1:Nat):Int)=(j:Int)+1 from rfl]at C;rcases C with⟨A,I,g1,g2⟩|⟨st',g1,g2⟩
   .exact .inl ⟨A,I,g1,k2.trans g2⟩
   .exact .inr ⟨st',g1,k2.trans g2⟩
  .have k:=QE (S:=S) ps i es j e [] more y u h1 q;rw[<-t]at k;exact .inr ⟨_,by rfl,D6 k⟩
theorem outer (ps:Sl cn) (O:ps.l.length<9223372036854775807) (D:∀p∈ps.l,p.events.l.length<9223372036854775807) (more:Bool) (y:Nat):∀(rem:List cn) (i:Nat),ps.l.drop i=rem->∀B,Cg B ((fG i rem).map eI) more ->
 rn S.bare ni Qi (.rc (.loop K3)) [.blk 0] (I1 ps i B more y)=some ()
 | [],i,G,B,J=>by
  have h1:decide ((i:Int)<len ps)=false:=by
   have:ps.l.length<=i:=by simpa using G
   simp[len];omega
  rw[DL (Sn ps i B more y h1)];have:B=[]:=by
   rcases J with⟨_,rfl⟩|⟨_,w,r,hr⟩
   .rfl
   .have:B=[]:=by cases B with
     | nil=>rfl
     | cons=>simp[fG]at hr
    exact absurd this w
  subst this;rfl
 | p::rem,i,G,B,J=>by
  obtain⟨h1,q,z⟩:=FQ G;have C:i<ps.l.length:=by simpa [len]using q
  have A:p∈ps.l:=List.mem_of_mem_drop (i:=i) (by rw[G];exact List.mem_cons_self ..)
  simp only[fG,List.map_append]at J;have t:=wrap_small i (by omega)
  rcases inner (S:=S) (Q:=some) (fs:=O6) ps i p.events (D p A) more y _ p.events.l 0 rfl B J with⟨u,H,g1,g2⟩|⟨st',g1,g2⟩
  .rw[Qd,t]at g2;rw[DM (PG ps i p B more y _ q h1 g2)];exact outer ps O D more y rem (i+1) z u g1
  .rw[D6 (PG ps i p B more y _ q h1 g2)];simp[Qi,g1]
theorem all (t:Trace) (B:List (aY×Event)) (h:jf t=some B) (D:List (List V)) (more:Bool) (G:Cg D (B.map eI) more) (y:Nat) :
 rn S.bare ni Qi (.rc text.body) [] ⟨xh 0 (([]:List V).map .v++.yl y::[V.fptr (cells t)].map .v),[],[],D,more,y⟩=some ():=by
 unfold jf at h;split at h
 .rename_i hk;cases h;simp only[ζh,List.all_eq_true,EO,decide_eq_true_eq]at hk;refine Le.get ?_;refine Ta 4 false [] (Qa.drop 2) [.seq U1] ⟨[(0,.yl y),Cv 8 t.procs],[],[],D,more,y⟩ t.procs rfl (by kernel_rfl) ?_
  refine Ds (n:=5) (fo':=.rc (.loop K3)) (fs':=[.blk 0]) (st':=I1 t.procs 0 D more y) (by kernel_rfl) (Le.of_eq ?_)
  exact outer t.procs hk.1 hk.2 more y t.procs.l 0 rfl D G
 .cases h
end
theorem Ie {α:Type} [bE α] {a b:Sl α} (h:bV a=bV b):rows a.l=rows b.l:=by
 cases a <;> cases b <;> first|rfl|(simp only[bV,Sl.k,nF,V.fsl.injEq,true_and,reduceCtorEq]at h;done)|(simp only[bV,Sl.k,nF,V.fsl.injEq,true_and,reduceCtorEq]at h;exact h)
theorem FC (p:Int):∀(es B:List Event) (j:Int),rows es=rows B->(iP p j es).map eI=(iP p j B).map eI
 | [],[],_,_=>rfl
 | [],_::_,_,h=>by simp[rows]at h
 | _::_,[],_,h=>by simp[rows]at h
 | e::es,D::B,j,h=>by
  simp only[rows,List.map_cons,List.cons.injEq]at h;have h1:enc e=enc D:=by show V.agg (cells e)=V.agg (cells D);rw[h.1]
  simp only[iP,List.map_cons,eI,h1,FC p es B (j+1) h.2]
theorem B1:∀(ps B:List cn) (i:Int),rows ps=rows B->(fG i ps).map eI=(fG i B).map eI
 | [],[],_,_=>rfl
 | [],_::_,_,h=>by simp[rows]at h
 | _::_,[],_,h=>by simp[rows]at h
 | p::ps,p'::B,i,h=>by
  simp only[rows,List.map_cons,List.cons.injEq]at h;have h1:bV p.events=bV p'.events:=by
   have:=h.1;change [V.str p.name,bV p.vars,bV p.events]=[V.str p'.name,bV p'.vars,bV p'.events]at this;simp only[List.cons.injEq]at this;exact this.2.2.1
  simp only[fG,List.map_append,FC i _ _ 0 (Ie h1),B1 ps B (i+1) h.2]
def E4 (f:FuncId) (g:FuncId) (a b:List V) (xs:List (List V)):Prop:=∃(t:Trace) (q:List (aY×Event)),g=f/\a=[]/\b=[.fptr (cells t)]/\jf t=some q/\xs=q.map eI
theorem E4.uniq {f g:FuncId} {a b:List V} {xs ys:List (List V)} (h:E4 f g a b xs) (k:E4 f g a b ys):xs=ys:=by
 obtain⟨t,A,rfl,rfl,rfl,h1,rfl⟩:=h;obtain⟨w,z,_,_,u,q,rfl⟩:=k;simp only[List.cons.injEq,V.fptr.injEq,and_true]at u;have B:bV t.procs=bV w.procs:=by
  change [bV t.procs]=[bV w.procs]at u;simpa using u
 unfold jf at h1 q;split at h1 <;> split at q <;> simp only[ζa,reduceCtorEq]at h1 q;subst h1 q;exact B1 _ _ 0 (Ie B)
end trace_events_c1
end Go.VE
namespace Go.VE
open Go.Proofs.YtimppgndlmehbaaGreat
noncomputable section
noncomputable def Jh (f:FuncId):Option Gc:=bif Nat.beq f 145 then some (wV false)else none
noncomputable def Sy:Sys:=⟨E,λn=>n,xw (trace_events_c1.E4 163),z_ E,Jh⟩
theorem QX:Sy.prm 145=some (wV false):=by kernel_rfl
theorem Ts:∀f q,Jh f=some q->pN E f q:=by
 intro f q h;unfold Jh at h
 cases h1:Nat.beq f 145 with
 | true=>
  rw[h1]at h;cases h;have:=Nat.eq_of_beq_eq_true h1;subst this;exact Rj false Ay (by kernel_rfl) (by kernel_rfl) (Be (by kernel_rfl))
 | false=>
  rw[h1]at h;cases h
def Tx:rU:=On E some (lk VQ)
abbrev cL:cq:=eO Sy Tx
theorem Sg:∃fi,E.ft 163=some fi/\xT E some fi trace_events_c1.text:=SJ (by kernel_rfl)
theorem Pc:wF Sy Tx where
 fn f rf h:=let ⟨q,h1,t⟩:=NM h;⟨q,some,h1,Ay,t⟩
 yM f u y h:=Me h
 prm:=Ts
theorem Ic:∀f a b xs,Sy.items f a b=some xs->iA Sy f a b xs:=by
 intro f a b xs h;obtain⟨t,q,rfl,rfl,rfl,h1,rfl⟩:=J2 h;obtain⟨B,u,w⟩:=Sg;exact Od Sy u Ay w (Nat.le_of_ble_eq_true rfl) rfl λz more A y=>trace_events_c1.all t q h1 z more A y
theorem ye (t:Trace) (B:List (aY×Event)) (h:jf t=some B):Sy.items 163 [] [.fptr (cells t)]=some (B.map λx:aY×Event=>[enc x.1,enc x.2]):=
 JX ⟨t,B,rfl,rfl,rfl,h,rfl⟩ λu q=>q.uniq ⟨t,B,rfl,rfl,rfl,h,rfl⟩
theorem LR:Sy.yM 7 []=some (.bool true):=zw (HF rfl ⟨1,[],by kernel_rfl⟩)
end
end Go.VE
namespace Go.VE
noncomputable section
def uo (D:Trace) (B:aY):Option Event:=
 (idx D.procs B.proc).bind λq=>
 (idx q.events (IntKind.wrap .i64 (B.index-1))).bind λt=>
 some t
instance TX (B:Trace) (D:aY):Fc Sy cL (uo B D):=Fc.N 148 [enc B,enc D] (cm 2 2 B (bN 10 λt _=>bN 5 λq _=>gF 1 4 0 q aZ))
namespace dF
def bO (B G p7:Int) (D:Trace) (J:aY) (i8:Int):Option (Fw Int Unit aY):=
 (idx D.procs p7).bind λt=>
 bg (decide (i8<(len t.events)))
 ((idx D.procs p7).bind λu=>
 (idx u.events i8).bind λq=>
 (bg (q.kind==B)
 (some (q.message==G))
 (some false):Option Bool).bind λw=>
 bg w
 (some (.r (⟨p7,IntKind.wrap .i64 (i8+1)⟩:aY)))
 (some (.n (IntKind.wrap .i64 (i8+1)))))
 (some (.x ()))
def W2 (B J p7 i8:Int) (D:Trace) (G:aY):Option (Fw Int Unit aY):=
 (bG (λq:Int=>bO B J p7 D G q) i8).bind (Fw.elim
 (λe=>some (.n (IntKind.wrap .i64 (p7+1))))
 (λe=>some (.r e)))
def bf (B J:Int) (D:Trace) (G:aY) (p7:Int):Option (Fw Int Unit aY):=
 bg (decide (p7<(len D.procs)))
 (W2 B J p7 0 D G)
 (some (.x ()))
def W1 (B J p7:Int) (D:Trace) (G:aY):Option aY:=
 (bG (λq:Int=>bf B J D G q) p7).bind (Fw.elim
 (λe=>some ⟨0,0⟩)
 (λe=>some e))
end dF
def dF (D:Trace) (B G:Int):Option aY:=
 dF.W1 B G 0 D (⟨0,0⟩:aY)
open dF in
instance RI (D:Trace) (B G:Int):Fc Sy cL (dF D B G):=Fc.M 98 [enc D,.int .i64 B,.int .i64 G] (cm 2 3 D (cK 11 (λq=>(bC [Iv 1 B,Iv 2 G,Pv 3,Pv 6,Iv 7 q] [Xb 3 D,Xb 6 (⟨0,0⟩:aY)])) (λt=>(0,(bC [Pv 6] [Xb 6 (⟨0,0⟩:aY)]))) (λt=>(bC [Pv 6] [Xb 6 t])) (λq=>bL 7 D.procs (bD 3 14 (cK 12 (λw=>(bC [Iv 1 B,Iv 2 G,Pv 3,Pv 6,Iv 7 q,Iv 8 w] [Xb 3 D,Xb 6 (⟨0,0⟩:aY)])) (λu=>(2,(bC [Iv 1 B,Iv 2 G,Pv 3,Pv 6,Iv 7 q] [Xb 3 D,Xb 6 (⟨0,0⟩:aY)]))) (λu=>(bC [Pv 6] [Xb 6 u])) (λw=>bN 8 λz _=>bL 2 z.events (bD 3 25 (bN 10 λC _=>bN 3 λA _=>gF 2 9 0 A (bW 9 5 [9,41] 46 (bD 9 41 (bA 5) (bA 5)) λH=>bD 2 46 aZ aZ)) aZ)) (λu=>aZ) (λu=>aZ)) aZ)) (λt=>aZ) (λt=>aZ)))
namespace dI
def J1 (B:Sl aY) (D:Trace) (G:aY):Option (Sl aY):=
 (uo D G).bind λq=>
 bg (q.kind==3)
 ((dF D 2 q.message).bind λt=>
 (gU B (t:aY)).bind λu=>
 some u)
 (some B)
end dI
def dI (D:Trace) (B:aY):Option (Sl aY):=
 bg (decide (B.index>1))
 (dI.J1 (Sl.row [⟨B.proc,IntKind.wrap .i64 (B.index-1)⟩]:Sl aY) D B)
 (dI.J1 (Sl.nil:Sl aY) D B)
open dI in
theorem yT (D:Trace) (B:aY):Le ((dI D B).bind λr=>some (cT r)) (ck Sy cL (Dq (tr Tx 149)) (.rc (tb Tx 149),[],start ([enc D,enc B].map .v) [])):=
 cm 2 2 D (bD 17 9 (Pw 10 17 18 .bH (⟨B.proc,IntKind.wrap .i64 (B.index-1)⟩:aY) (yY 5 (bz 4 λq _=>gF 1 6 0 q (bD 10 24 (bz 6 λt _=>pq 1 2005 30 31 λu _=>aZ) aZ)))) (yY 5 (bz 4 λq _=>gF 1 6 0 q (bD 10 24 (bz 6 λt _=>pq 1 2005 30 31 λu _=>aZ) aZ))))
def n9 (dir:aY->Option (Sl aY)):List (List Bool)×List aY->Option (Fw (List (List Bool)×List aY) (List (List Bool)) Empty)
 | (out,[])=>some (.x out)
 | (out,y::rest)=>if 0<=y.proc/\0<=y.index then(out[y.proc.toNat]?).bind λrow=>(row[y.index.toNat]?).bind λb=>
  bg b (some (.n (out,rest))) ((dir y).bind λmore=>if rest.length+more.l.length<=2147483648 then some (.n (out.set y.proc.toNat (row.set y.index.toNat true),rest++more.l))else none)else none
def gA (t:Trace):List (List Bool):=t.procs.l.map λP=>List.replicate (P.events.l.length+1) false
def zR (t:Trace):Bool:=decide (t.procs.l.length<=2147483648)&&t.procs.l.all λP=>decide (P.events.l.length+1<=2147483648)
def nested (out:List (List Bool)):Sl (Sl Bool):=if out=[]then .nil else .row (out.map .row)
def mN (t:Trace) (x:aY):Option (Sl (Sl Bool)):=
 if zR t then(dI t x).bind λs=>(bG (n9 (dI t)) (gA t,s.l)).bind (Fw.elim (λout=>some (nested out)) (λe=>Empty.elim e))else none
end
end Go.VE
namespace Go.VE
namespace pastX
abbrev wh:Nat->FuncId:=λn=>n
def r1:List RO:=[o2 2 (.a .box) [0] [],o2 3 (.a .box) [1] [],o1 4 (.k (.bH)) []]
def r2:List RO:=[o1 5 (.k (.bH)) []]
def r3:List RO:=[o1 6 (.k (.int .i64 0)) []]
def r4:List RO:=[o1 11 6 [],o2 12 (fa 0) [2] [],o2 13 (ld 1) [12] [],o2 14 ln [13] [],o2 15 (bI .lss) [11,14] []]
def r5:List RO:=[o1 18 5 [],o2 19 (fa 0) [2] [],o2 20 (ld 1) [19] [],o1 21 6 [],o2 22 (ix 3) [20,21] [],o2 23 (fa 2) [22] [],o2 24 (ld 1) [23] [],o2 25 ln [24] [],o2 26 (bI .add) [25,.k (.int .i64 1)] [],o2 27 (.a (.makeSl 1 [.bool false])) [26,26] [],o2 28 (.a (.buildSl 1 1 [.bH] [0])) [27] [],o2 29 (.l (.append 1)) [18,28] [],o1 5 29 []]
def r6:List RO:=[o1 16 6 [],o2 17 (bI .add) [16,.k (.int .i64 1)] [],o1 6 17 []]
def L1:RC:=.seq (.seq (.ops r4) (.cond (.s 15) (.skip) (.exit 0))) (.seq (.block 1 (.ops r5)) (.ops r6))
def r7:List RO:=[o2 30 (lD 1) [2] [],o2 31 (lD 2) [3] [],o2 32 .c [.f 149,30,31] [],o1 7 32 []]
def r8:List RO:=[o1 33 7 [],o2 34 ln [33] [],o2 35 (bI .gtr) [34,.k (.int .i64 0)] []]
def r9:List RO:=[o1 36 7 [],o2 37 (ix 2) [36,.k (.int .i64 0)] [],o2 38 (lD 2) [37] [],o2 8 (.a (.alloc 2 [.int .i64 0,.int .i64 0])) [] [],oz (su 2) [8,38] []]
def CF:List RO:=[o1 39 7 [],o2 40 (.p (.slice 2 true false)) [39,.k (.int .i64 1)] [],o1 7 40 []]
def D0:List RO:=[o1 41 5 [],o2 42 (fa 0) [8] [],o2 43 (ld 1) [42] [],o2 44 (ix 1) [41,43] [],o2 45 (ld 1) [44] [],o2 46 (fa 1) [8] [],o2 47 (ld 1) [46] [],on 48 (ix 1) [45,47] [],on 49 (ld 1) [48] []]
def Ez:List RO:=[o1 50 5 [],o2 51 (fa 0) [8] [],o2 52 (ld 1) [51] [],o2 53 (ix 1) [50,52] [],o2 54 (ld 1) [53] [],o2 55 (fa 1) [8] [],o2 56 (ld 1) [55] [],on 57 (ix 1) [54,56] [],oy (su 1) [57,.k (.bool true)] []]
def DD:List RO:=[o2 58 (lD 1) [2] [],o2 59 (lD 2) [8] [],o2 60 .c [.f 149,58,59] [],o1 9 60 []]
def B_:List RO:=[o1 10 (.k (.int .i64 0)) []]
def DJ:List RO:=[o1 61 10 [],o1 62 9 [],o2 63 ln [62] [],o2 64 (bI .lss) [61,63] []]
def Em:List RO:=[o1 67 7 [],o1 68 9 [],o1 69 10 [],o2 70 (ix 2) [68,69] [],o2 71 (lD 2) [70] [],o2 72 (.a (.buildSl 2 1 [.int .i64 0,.int .i64 0] [0])) [71] [],o2 73 (.l (.append 2)) [67,72] [],o1 7 73 []]
def KS:List RO:=[o1 65 10 [],o2 66 (bI .add) [65,.k (.int .i64 1)] [],o1 10 66 []]
def L3:RC:=.seq (.seq (.ops DJ) (.cond (.s 64) (.skip) (.exit 4))) (.seq (.block 5 (.ops Em)) (.ops KS))
def L2:RC:=.seq (.seq (.ops r8) (.cond (.s 35) (.skip) (.exit 2))) (.block 3 (.seq (.ops r9) (.seq (.ops CF) (.seq (.seq (.oO D0) (.cond (.s 49) (.exit 3) (.skip))) (.seq (.oO Ez) (.seq (.ops DD) (.seq (.ops B_) (.block 4 (.loop L3)))))))))
def Vu:List RO:=[o1 74 5 [],o1 4 74 []]
def code:RC:=.seq (.ops r1) (.seq (.ops r2) (.seq (.seq (.ops r3) (.block 0 (.loop L1))) (.seq (.ops r7) (.seq (.block 2 (.loop L2)) (.seq (.ops Vu) (.ret))))))
noncomputable abbrev vP:=Go.Proofs.YtimppgndlmehbaaGreat.E
def jU (out:List (List Bool)):List (List V):=out.map λr=>r.map V.bool
theorem shape:∃fi,vP.ft (wh 122)=some fi/\bQ ⟨vP,some,fi.ntmps⟩ false fi.body=some code/\2<=fi.ntmps/\fi.results=[.tmp 4]:=by
 have h:((vP.ft (wh 122)).map λfi=>(bQ ⟨vP,some,fi.ntmps⟩ false fi.body,Nat.ble 2 fi.ntmps,fi.results))=some (some code,true,[.tmp 4]):=by kernel_rfl
 obtain⟨fi,h1,q⟩:=ζf.1 h;simp only[ζc]at q;exact⟨fi,h1,q.1,Nat.le_of_ble_eq_true q.2.1,q.2.2⟩
section
variable {E:Env} {N:Nat->FuncId} {t:Trace} {x:aY} {k:Nat} {F:Frame} {H H1:bl} {call:dn} {b:Option Nat}
theorem jH {o:RO} {l:List RO} {v:V} {r:Frame×bl} (hg:o.gd=none) (hv:bJ E N call b o.now o.k (o.az.map (bu N F)) H=some (v,H1)) (h:cw E N call b l (bq F o.dst v) H1=some r):cw E N call b (o::l) F H=some r:=by
 simp[cw,hg,hv];omega
theorem vp {o:RO} {l:List RO} {v:V} {r:Frame×bl} (hg:o.gd=none) (hv:bJ E N call b o.now o.k (o.az.map (bu N F)) H=some (v,H)) (h:cw E N call b l (bq F o.dst v) H=some r):cw E N call b (o::l) F H=some r:=jH hg hv h
theorem dS:cw E N call b [] F H=some (F,H):=rfl
theorem ld1 (h:H[0]? = some (.row 1 [cells t])):eS H (.load 1 false) [.hptr 0 0 0]=some (bV t.procs):=by
 simp[eS,dY,h];rfl
theorem VN {s:Sl cn} {p:cn} {i:Nat} (h:s.l[i]? = some p):lG 3 (bV s) (i:Int)=some (.fptr (cells p)):=by
 have:=Du (N:=λn=>n) s .i64 i 3 rfl
 simp[bh]at this;rw[this,show idx s i=some p from by unfold idx;grind];rfl
theorem x4 (f2:get F 2=.hptr 0 0 0) (f6:get F 6=.int .i64 k) (h0:H[0]? = some (.row 1 [cells t])) :
 ∃F',cw E N call none r4 F H=some (F',H)/\get F' 15=.bool (decide (k<t.procs.l.length))/\(∀s,s<11->get F' s=get F s):=by
 refine⟨_,vp (v:=.int .i64 k) rfl ?_ <| vp (v:=.hptr 0 0 0) rfl ?_ <| vp (v:=bV t.procs) rfl ?_ <| vp (v:=.int .i64 t.procs.l.length) rfl ?_ <| vp (v:=.bool (decide (k<t.procs.l.length))) rfl ?_ dS,?_,?_⟩
 .simp[bJ,bu,bh,f6]
 .simp[bJ,bu,bh,bq,f2,gZ]
 .simp only[bJ,List.map_cons,List.map_nil,bu,bq,br,if_true];rw[ld1 h0];rfl
 .simp only[bJ,List.map_cons,List.map_nil,bu,bq,br,if_true];rw[yj];rfl
 .simp[bJ,bu,bh,bq,hU,nZ]
 .simp[bq]
 .simp[bq,br]
  grind
theorem xI {n:Nat} (h:n<=2147483648):IntKind.wrap .i64 ((n:Int)+1)=((n+1:Nat):Int):=by
 simp[IntKind.wrap,IntKind.bits];omega
theorem x5 {P:cn} {o:Nat} {ids:List Nat} {rows:List (List V)} (f2:get F 2=.hptr 0 0 0) (f6:get F 6=.int .i64 k) (h0:H[0]? = some (.row 1 [cells t])) (B:t.procs.l[k]? = some P) (G:P.events.l.length+1<=2147483648)
 (D:mg H (get F 5) o ids rows) (hr:rows.length+1<=2147483648) :
 ∃F' H',cw E N call none r5 F H=some (F',H')/\mg H' (get F' 5) (H.length+2) (ids++[H.length]) (rows++[List.replicate (P.events.l.length+1) (.bool false)])/\H.length<=H'.length/\(∀id,id<H.length->id≠o\/rows=[]->H'[id]? = H[id]?)/\(∀s,s<11->s≠5->get F' s=get F s):=by
 obtain⟨H',p1,p2,p3,p4⟩:=D.push (List.replicate (P.events.l.length+1) (.bool false)) hr;have q:jh (List.replicate (P.events.l.length+1) (V.bool false))=List.replicate (P.events.l.length+1) [.bool false]:=by simp[jh]
 rw[q,List.length_replicate]at p1;have u:=xI (n:=P.events.l.length) (by omega)
 refine⟨_,H',vp (v:=get F 5) rfl ?_ <| vp (v:=.hptr 0 0 0) rfl ?_ <| vp (v:=bV t.procs) rfl ?_ <| vp (v:=.int .i64 k) rfl ?_ <| vp (v:=.fptr (cells P)) rfl ?_ <| vp (v:=.fptr [bV P.events]) rfl ?_ <| vp (v:=bV P.events) rfl ?_ <|
  vp (v:=.int .i64 P.events.l.length) rfl ?_ <| vp (v:=.int .i64 (P.events.l.length+1:Nat)) rfl ?_ <| jH (v:=.hsl H.length 1 0 (P.events.l.length+1)) (H1:=H++[.row 1 (List.replicate (P.events.l.length+1) [.bool false])]) rfl ?_ <|
  jH (v:=.hsl (H.length+1) 1 0 1) (H1:=H++[.row 1 (List.replicate (P.events.l.length+1) [.bool false])]++[.row 1 [[.hsl H.length 1 0 (P.events.l.length+1)]]]) rfl ?_ <|
  jH (v:=.hsl (H.length+2) 1 0 (rows.length+1))  rfl ?_ <| vp (v:=.hsl (H.length+2) 1 0 (rows.length+1)) rfl ?_ dS,?_,p3,p4,?_⟩
 .simp[bJ,bu,bh]
 .simp[bJ,bu,bh,bq,f2,gZ]
 .simp only[bJ,List.map_cons,List.map_nil,bu,bq,br,if_true];rw[ld1 h0];rfl
 .simp[bJ,bu,bh,bq,f6]
 .simp only[bJ,List.map_cons,List.map_nil,bu,bq,br,Nat.reduceEqDiff,if_true,if_false,bh];rw[VN B];rfl
 .simp[bJ,bu,bq,br,bh];rfl
 .simp[bJ,bu,bq,br];rfl
 .simp only[bJ,List.map_cons,List.map_nil,bu,bq,br,if_true];rw[yj];rfl
 .simp[bJ,bu,bq,br,bh,hU];grind
 .simp only[bJ,List.map_cons,List.map_nil,bu,bq,br,if_true,iZ];rw[if_pos ⟨trivial,trivial,by omega,by omega,by omega⟩]
  simp[Mk.val]
 .simp[bJ,bu,bq,br,iZ];simp[gE,V.cells,V.one,Mk.val]
 .simp only[bJ,List.map_cons,List.map_nil,bu,bq,br,Nat.reduceEqDiff,if_true,if_false];omega
 .simp[bJ,bu,bh,bq]
 .simp[bq,br];omega
 .intro s w z;simp[bq,br]
  repeat (rw[if_neg (by omega)])
theorem x6 (f6:get F 6=.int .i64 k) (hk:k<=2147483648):∃F',cw E N call none r6 F H=some (F',H)/\get F' 6=.int .i64 ((k+1:Nat):Int)/\(∀s,s<11->s≠6->get F' s=get F s):=by
 have q:=xI hk;refine⟨_,vp (v:=.int .i64 k) rfl ?_ <| vp (v:=.int .i64 (k+1:Nat)) rfl ?_ <| vp (v:=.int .i64 (k+1:Nat)) rfl ?_ dS,?_,?_⟩
 .simp[bJ,bu,bh,f6]
 .simp[bJ,bu,bq,br,bh,hU];grind
 .simp[bJ,bu,bh,bq]
 .simp[bq]
 .simp[bq,br]
  grind
end
structure P1 (t:Trace) (x:aY) (k:Nat) (F:Frame) (H:bl):Prop where
 f2:get F 2=.hptr 0 0 0
 f3:get F 3=.hptr 1 0 0
 f6:get F 6=.int .i64 k
 h0:H[0]? = some (.row 1 [cells t])
 h1:H[1]? = some (.row 2 [cells x])
 ns:∃o ids,mg H (get F 5) o ids (jU ((gA t).take k))/\(k≠0->2<=o)/\∀id∈ids,2<=id
theorem vI (out:List (List Bool)):(jU out).length=out.length:=by simp[jU]
theorem Ji {E:Env} {N:Nat->FuncId} {t:Trace} {x:aY} (D:zR t=true):∀(m k:Nat) (F:Frame) (H:bl),k+m=t.procs.l.length->P1 t x k F H->∃F' H',lR E N L1 F H (.exit 0) F' H'/\P1 t x t.procs.l.length F' H':=by
 have z:t.procs.l.length<=2147483648/\∀P∈t.procs.l,P.events.l.length+1<=2147483648:=by
  simpa [zR]using D
 intro m
 induction m with
 | zero=>
  intro k F H hk p;have A:k=t.procs.l.length:=by omega
  obtain⟨F1,e1,e2,e3⟩:=x4 (E:=E)  (call:=λ_ _ _=>none) p.f2 p.f6 p.h0
  refine⟨F1,H,lR.stop (Ex.uH (Ex.seq (Ex.cQ λc=>?_) (Ex.oQ ?_ Ex.exit)) (by simp)) (by simp),?_⟩
  .have:cw E N c none r4 F H=cw E N (λ_ _ _=>none) none r4 F H:=rfl
   exact e1
  .show get F1 15=_;rw[e2];simp[A]
  .subst A;exact⟨by rw[e3 2 (by omega)];exact p.f2,by rw[e3 3 (by omega)];exact p.f3,by rw[e3 6 (by omega)];exact p.f6,p.h0,p.h1,by rw[e3 5 (by omega)];exact p.ns⟩
 | succ m X=>
  intro k F H hk p;have u:k<t.procs.l.length:=by omega
  obtain⟨o,ids,S,Y,Z⟩:=p.ns;obtain⟨F1,e1,e2,e3⟩:=x4 (E:=E) (N:=N) (call:=λ_ _ _=>none) p.f2 p.f6 p.h0
  have T:=ζd u;have B:((gA t).take k).length=k:=by simp[gA];omega
  have G:mg H (get F1 5) o ids (jU ((gA t).take k)):=by rw[e3 5 (by omega)];exact S
  obtain⟨F2,H2,g1,g2,g3,g4,g5⟩:=x5 (E:=E) (N:=N) (call:=λ_ _ _=>none) (by rw[e3 2 (by omega)];exact p.f2) (by rw[e3 6 (by omega)];exact p.f6) p.h0 T (z.2 _ (List.getElem_mem u)) G (by rw[vI,B];omega)
  obtain⟨U,q1,q2,I⟩:=x6 (E:=E) (N:=N) (call:=λ_ _ _=>none) (H:=H2)   (by rw[g5 6 (by omega) (by omega),e3 6 (by omega)];exact p.f6) (by omega)
  have W:=S.lt;have J:=(ζe.1 p.h0).1;have L:=(ζe.1 p.h1).1;have q:∀i,i<2->i<H.length->H2[i]? = H[i]? := λi hi W=>g4 i W (by
   by_cases C:k=0
   .subst C;right;simp[jU]
   .left;have:=Y C;omega)
  have O:P1 t x (k+1) U H2:=by
   refine⟨by rw[I 2 (by omega) (by omega),g5 2 (by omega) (by omega),e3 2 (by omega)];exact p.f2,by rw[I 3 (by omega) (by omega),g5 3 (by omega) (by omega),e3 3 (by omega)];exact p.f3,q2,
    by rw[q 0 (by omega) J];exact p.h0,by rw[q 1 (by omega) L];exact p.h1,H.length+2,ids++[H.length],?_,λ_=>by omega,λid Q=>?_⟩
   .rw[I 5 (by omega) (by omega)]
    have w:jU ((gA t).take (k+1))=jU ((gA t).take k)++[List.replicate (t.procs.l[k].events.l.length+1) (.bool false)]:=by
     rw[List.take_add_one];have:(gA t)[k]? = some (List.replicate (t.procs.l[k].events.l.length+1) false):=by simp[gA,T]
     rw[this];simp[jU]
    rw[w];exact g2
   .rcases List.mem_append.1 Q with h|h
    .exact Z id h
    .simp at h;omega
  obtain⟨F',H',r1,r2⟩:=X (k+1) U H2 (by omega) O
  refine⟨F',H',lR.step (Ex.seq (Ex.seq (Ex.cQ λc=>e1) (Ex.mZ ?_ Ex.skip)) (Ex.seq (Ex.block (Ex.cQ λc=>g1)) (Ex.cQ λc=>q1))) r1,r2⟩
  show get F1 15=_;rw[e2];simp[u]
section
variable {E:Env} {N:Nat->FuncId} {t:Trace} {x y:aY} {F:Frame} {H:bl} {call:dn}
theorem x8 {l:List (List V)} {id:Nat} (h:j_ H (get F 7) l id):∃F',cw E N call none r8 F H=some (F',H)/\get F' 35=.bool (decide (0<l.length))/\(∀s,s<11->get F' s=get F s):=by
 refine⟨_,vp (v:=get F 7) rfl ?_ <| vp (v:=.int .i64 l.length) rfl ?_ <| vp (v:=.bool (decide (0<l.length))) rfl ?_ dS,?_,?_⟩
 .simp[bJ,bu,bh]
 .simp[bJ,bu,bq,br,bh,h.len]
 .simp[bJ,bu,bh,bq,hU,nZ]
 .simp[bq]
 .simp[bq,br]
  grind
theorem x9 {l:List (List V)} {id:Nat} (h:j_ H (get F 7) (cells y::l) id):∃F',cw E N call none r9 F H=some (F',H++[.row 2 [cells y]])/\get F' 8=.hptr H.length 0 0/\(∀s,s<11->s≠8->get F' s=get F s):=by
 obtain⟨p,p1,p2⟩:=h.get (i:=0)  rfl;refine⟨_,vp (v:=get F 7) rfl ?_ <| vp (v:=p) rfl ?_ <| vp (v:=.agg (cells y)) rfl ?_ <| jH (v:=.hptr H.length 0 0) (H1:=H++[.row 2 [[.int .i64 0,.int .i64 0]]]) rfl ?_ <| jH (v:=.undef)  rfl ?_ dS,?_,?_⟩
 .simp[bJ,bu,bh]
 .simp[bJ,bu,bq,br,bh]
  grind
 .simp only[bJ,List.map_cons,bu,bq,br,if_false]
  grind
 .simp[bJ,bu,bq,br,iZ,Mk.val]
 .simp[bJ,bu,bq,br];simp[eY,V.cells,V.one]
 .simp[bq]
 .simp[bq,br]
  grind
theorem V8 {c:List V} {l:List (List V)} {id:Nat} (h:j_ H (get F 7) (c::l) id):∃F',cw E N call none CF F H=some (F',H)/\j_ H (get F' 7) l id/\(∃off m B,get F 7=.hsl id 2 off m/\get F' 7=.hsl id 2 B l.length)/\(∀s,s<11->s≠7->get F' s=get F s):=by
 obtain⟨w',p1,p2,off,m,B,p3,p4⟩:=h.tail;refine⟨_,vp (v:=get F 7) rfl ?_ <| vp (v:=w') rfl ?_ <| vp (v:=w') rfl ?_ dS,?_,⟨off,m,B,p3,?_⟩,?_⟩
 .simp[bJ,bu,bh]
 .simp[bJ,bu,bq,br,bh,lC,p1]
 .simp[bJ,bu,bh,bq]
 .simp[bq,br];omega
 .simp[bq,br];omega
 .simp[bq,br]
  grind
theorem jJ (H:bl):H.take H.length=H:=List.take_length ..
theorem TA {c:Nat} (hc:H[c]? = some (.row 2 [cells y])):eS H (.load 1 false) [.hptr c 0 0]=some (.int .i64 y.proc)/\eS H (.load 1 false) [.hptr c 0 1]=some (.int .i64 y.index)/\eS H (.load 2 true) [.hptr c 0 0]=some (enc y):=by
 refine⟨?_,?_,?_⟩ <;> simp[eS,dY,hc,cut] <;> rfl
theorem Th {c o:Nat} {ids:List Nat} {rows:List (List V)} {p j:Nat} {r:List V} {u:V} (B:get F 8=.hptr c 0 0) (hc:H[c]? = some (.row 2 [cells y])) (D:mg H (get F 5) o ids rows) (G:y.proc=p) (J:y.index=j) (hr:rows[p]? = some r) (hu:r[j]? = some u) :
 ∃F',cw E N call (some H.length) D0 F H=some (F',H)/\get F' 49=u/\(∀s,s<11->get F' s=get F s):=by
 obtain⟨id,q,t,w,z,A⟩:=D.cell hr hu;obtain⟨C,I,_⟩:=TA hc;refine⟨_,vp (v:=get F 5) rfl ?_ <| vp (v:=.hptr c 0 0) rfl ?_ <| vp (v:=.int .i64 p) rfl ?_ <| vp (v:=.hptr o p 0) rfl ?_ <| vp (v:=.hsl id 1 0 r.length) rfl ?_ <| vp (v:=.hptr c 0 1) rfl ?_ <| vp (v:=.int .i64 j) rfl ?_ <| vp (v:=.hptr id j 0) rfl ?_ <| vp (v:=u) rfl ?_ dS,?_,?_⟩
 .simp[bJ,bu,bh]
 .simp[bJ,bu,bh,bq,B,gZ]
 .simp[bJ,bu,bq,br,jJ];grind
 .simp[bJ,bu,bq,br,bh];grind
 .simp[bJ,bu,bq,br,jJ];grind
 .simp[bJ,bu,bh,bq,B,gZ]
 .simp[bJ,bu,bq,br,jJ];grind
 .simp[bJ,bu,bq,br,bh];grind
 .simp[bJ,bu,bq,br,jJ];simp_all
 .simp[bq]
 .simp[bq,br]
  grind
theorem V5 {c o:Nat} {ids:List Nat} {rows:List (List V)} {p j:Nat} {r:List V} {u:V} (B:get F 8=.hptr c 0 0) (hc:H[c]? = some (.row 2 [cells y])) (D:mg H (get F 5) o ids rows) (G:y.proc=p) (J:y.index=j) (hr:rows[p]? = some r) (hu:r[j]? = some u) :
 ∃F' H',cw E N call (some H.length) Ez F H=some (F',H')/\mg H' (get F' 5) o ids (rows.set p (r.set j (.bool true)))/\H'.length=H.length/\(∀i,i∉ids->H'[i]? = H[i]?)/\(∀s,s<11->get F' s=get F s):=by
 obtain⟨id,q,C,I,t,L⟩:=D.cell hr hu;obtain⟨O,Q,_⟩:=TA hc;obtain⟨H',s1,S,w,z⟩:=D.set hr (ζe.1 hu).1 q (u:=.bool true) rfl rfl;refine⟨_,H',vp (v:=get F 5) rfl ?_ <| vp (v:=.hptr c 0 0) rfl ?_ <| vp (v:=.int .i64 p) rfl ?_ <| vp (v:=.hptr o p 0) rfl ?_ <| vp (v:=.hsl id 1 0 r.length) rfl ?_ <| vp (v:=.hptr c 0 1) rfl ?_ <| vp (v:=.int .i64 j) rfl ?_ <| vp (v:=.hptr id j 0) rfl ?_ <| jH (v:=.undef)  rfl ?_ dS,?_,w,λi A=>z i λe=>A (e▸List.mem_of_getElem? q),?_⟩
 .simp[bJ,bu,bh]
 .simp[bJ,bu,bh,bq,B,gZ]
 .simp[bJ,bu,bq,br,jJ];grind
 .simp[bJ,bu,bq,br,bh];grind
 .simp[bJ,bu,bq,br,jJ];grind
 .simp[bJ,bu,bh,bq,B,gZ]
 .simp[bJ,bu,bq,br,jJ];grind
 .simp only[bJ,List.map_cons,List.map_nil,bu,bq,br,Nat.reduceEqDiff,if_true,if_false,bh];rw[t];rfl
 .simp[bJ,bu,bq,br,s1]
 .simp[bq,br];omega
 .simp[bq,br]
  grind
def EV (E:Env) (N:Nat->FuncId) (t:Trace) (dir:aY->Option (Sl aY)):Prop:=∀(y:aY) (s:Sl aY) (H:bl),dir y=some s ->
 ∃w X id,(∃n,∀k,n<=k->e9 E (run E k) (N 149) [enc t,enc y] H=some (w,H++X))/\j_ (H++X) w (s.l.map cells) id/\(∀off m,w=.hsl id 2 off m->id=H.length)
theorem Vf {a d:Nat} (D:E.keep (N 149)=true) {dir:aY->Option (Sl aY)} (G:EV E N t dir) {s:Sl aY} (B:dir y=some s) (f2:get F 2=.hptr 0 0 0) (h0:H[0]? = some (.row 1 [cells t])) {c:Nat} (hc:H[c]? = some (.row 2 [cells y])) :
 ∃w X id,j_ (H++X) w (s.l.map cells) id/\(∀off m,w=.hsl id 2 off m->id=H.length) /\
  (get F 8=.hptr c 0 0->∃F',(∃n,∀k,n<=k->cw E N (run E k) none DD F H=some (F',H++X))/\get F' 9=w/\(∀s,s<11->s≠9->get F' s=get F s)) /\
  (get F 3=.hptr c 0 0->∃F',(∃n,∀k,n<=k->cw E N (run E k) none r7 F H=some (F',H++X))/\get F' 7=w/\(∀s,s<11->s≠7->get F' s=get F s)):=by
 obtain⟨w,X,id,⟨n,e1⟩,e2,e3⟩:=G y s H B;have u:eS H (.load 1 true) [.hptr 0 0 0]=some (enc t):=by
  simp[eS,dY,h0,Ob.rows,cut];rfl
 obtain⟨_,_,z⟩:=TA hc;refine⟨w,X,id,e2,e3,λA=>⟨_,⟨n,λk hk=>vp (v:=enc t) rfl ?_ <| vp (v:=enc y) rfl ?_ <| jH (v:=w) (H1:=H++X) rfl ?_ <| vp (v:=w) rfl ?_ dS⟩,?_,?_⟩,λf3=>⟨_,⟨n,λk hk=>vp (v:=enc t) rfl ?_ <| vp (v:=enc y) rfl ?_ <| jH (v:=w) (H1:=H++X) rfl ?_ <| vp (v:=w) rfl ?_ dS⟩,?_,?_⟩⟩
 .simp only[bJ,List.map_cons,List.map_nil,bu,f2];rw[u];rfl
 .simp only[bJ,List.map_cons,List.map_nil,bu,bq,br,Nat.reduceEqDiff,if_true,if_false,A];rw[z];rfl
 .simp only[bJ,List.map_cons,List.map_nil,bu,bq,br,Nat.reduceEqDiff,if_true,if_false,D,List.nil_append,List.append_nil];exact e1 k hk
 .simp[bJ,bu,bh,bq]
 .simp[bq]
 .intro s B q;simp only[bq,br];rw[if_neg (Ne.symm q)]
  repeat (rw[if_neg (by omega)])
 .simp only[bJ,List.map_cons,List.map_nil,bu,f2];rw[u];rfl
 .simp only[bJ,List.map_cons,List.map_nil,bu,bq,br,Nat.reduceEqDiff,if_true,if_false,f3];rw[z];rfl
 .simp only[bJ,List.map_cons,List.map_nil,bu,bq,br,Nat.reduceEqDiff,if_true,if_false,D,List.nil_append,List.append_nil];exact e1 k hk
 .simp[bJ,bu,bh,bq]
 .simp[bq]
 .intro s B q;simp only[bq,br];rw[if_neg (Ne.symm q)]
  repeat (rw[if_neg (by omega)])
end
section
variable {E:Env} {N:Nat->FuncId} {F:Frame} {H:bl} {call:dn} {i:Nat}
theorem Pd {l:List (List V)} {id:Nat} (f10:get F 10=.int .i64 i) (h:j_ H (get F 9) l id):∃F',cw E N call none DJ F H=some (F',H)/\get F' 64=.bool (decide (i<l.length))/\(∀s,s<11->get F' s=get F s):=by
 refine⟨_,vp (v:=.int .i64 i) rfl ?_ <| vp (v:=get F 9) rfl ?_ <| vp (v:=.int .i64 l.length) rfl ?_ <| vp (v:=.bool (decide (i<l.length))) rfl ?_ dS,?_,?_⟩
 .simp[bJ,bu,bh,f10]
 .simp[bJ,bu,bh,bq]
 .simp[bJ,bu,bq,br,bh,h.len]
 .simp[bJ,bu,bh,bq,hU,nZ]
 .simp[bq]
 .simp[bq,br]
  grind
theorem Wd {l D:List (List V)} {id B:Nat} {c:List V} (f10:get F 10=.int .i64 i) (h:j_ H (get F 7) l id) (G:j_ H (get F 9) D B) (hc:D[i]? = some c) (J:l.length+1<=2147483648) :
 ∃F' H',cw E N call none Em F H=some (F',H')/\j_ H' (get F' 7) (l++[c]) (H.length+1)/\H'.length=H.length+2/\(∀i,i<H.length->(∀off m,get F 7=.hsl id 2 off m->i≠id)->H'[i]? = H[i]?)/\(∀s,s<11->s≠7->get F' s=get F s):=by
 have q:=G.c c (List.mem_of_getElem? hc);obtain⟨p,p1,p2⟩:=G.get hc;obtain⟨H',w,z,t,u⟩:=h.push q J;refine⟨_,H',vp (v:=get F 7) rfl ?_ <| vp (v:=get F 9) rfl ?_ <| vp (v:=.int .i64 i) rfl ?_ <| vp (v:=p) rfl ?_ <| vp (v:=.agg c) rfl ?_ <| jH (v:=.hsl H.length 2 0 1) (H1:=H++[.row 2 [c]]) rfl ?_ <| jH (v:=.hsl (H.length+1) 2 0 (l.length+1))  rfl ?_ <| vp (v:=.hsl (H.length+1) 2 0 (l.length+1)) rfl ?_ dS,?_,t,u,?_⟩
 .simp[bJ,bu,bh]
 .simp[bJ,bu,bh,bq]
 .simp[bJ,bu,bh,bq,f10]
 .simp[bJ,bu,bq,br,bh];grind
 .simp[bJ,bu,bq,br];grind
 .simp[bJ,bu,bq,br,iZ];simp[gE,V.cells,Mk.val]
  grind
 .simp[bJ,bu,bq,br];omega
 .simp[bJ,bu,bh,bq]
 .simp[bq,br];omega
 .simp[bq,br]
  grind
theorem V_ (f10:get F 10=.int .i64 i) (hk:i<=2147483648):∃F',cw E N call none KS F H=some (F',H)/\get F' 10=.int .i64 ((i+1:Nat):Int)/\(∀s,s<11->s≠10->get F' s=get F s):=by
 have q:=xI hk;refine⟨_,vp (v:=.int .i64 i) rfl ?_ <| vp (v:=.int .i64 (i+1:Nat)) rfl ?_ <| vp (v:=.int .i64 (i+1:Nat)) rfl ?_ dS,?_,?_⟩
 .simp[bJ,bu,bh,f10]
 .simp[bJ,bu,bq,br,bh,hU];grind
 .simp[bJ,bu,bh,bq]
 .simp[bq]
 .simp[bq,br]
  grind
structure P3 (l l9:List (List V)) (B i:Nat) (F:Frame) (H:bl):Prop where
 f10:get F 10=.int .i64 i
 t9:∃id9,j_ H (get F 9) l9 id9/\∃id,j_ H (get F 7) l id/\(∀off m,get F 7=.hsl id 2 off m->B<=id/\∀off' m',get F 9=.hsl id9 2 off' m'->id≠id9)
 len:B<=H.length
theorem Uy (D:List (List V)) (B:Nat) (U:D.length<=2147483648):∀(m i:Nat) (l:List (List V)) (F:Frame) (H:bl),i+m=D.length->l.length+m<=2147483648->P3 l D B i F H ->
 ∃F' H',lR E N L3 F H (.exit 4) F' H'/\(∃id,j_ H' (get F' 7) (l++D.drop i) id/\∀off m,get F' 7=.hsl id 2 off m->B<=id)/\(∀s,s<7->get F' s=get F s)/\(∀j,j<B->H'[j]? = H[j]?)/\H.length<=H'.length:=by
 intro m
 induction m with
 | zero=>
  intro i l F H W X p;obtain⟨q,t9,id,t7,w⟩:=p.t9;obtain⟨F1,e1,e2,e3⟩:=Pd (E:=E)  (call:=λ_ _ _=>none) p.f10 t9
  refine⟨F1,H,lR.stop (Ex.uH (Ex.seq (Ex.cQ λc=>e1) (Ex.oQ ?_ Ex.exit)) (by simp)) (by simp),⟨id,?_,λoff m h=>?_⟩,λs O=>e3 s (by omega),λ_ _=>rfl,Nat.le_refl _⟩
  .show get F1 64=_
   grind
  .grind
  grind
 | succ m Y=>
  intro i l F H W X p;have u:i<D.length:=by omega
  obtain⟨q,t9,id,t7,w⟩:=p.t9;obtain⟨F1,e1,e2,e3⟩:=Pd (E:=E)  (call:=λ_ _ _=>none) p.f10 t9
  have hc:=ζd u;have z:j_ H (get F1 7) l id:=by grind
  have A:j_ H (get F1 9) D q:=by grind
  obtain⟨F2,H2,g1,g2,g3,g4,g5⟩:=Wd (E:=E)  (call:=λ_ _ _=>none) (by rw[e3 10 (by omega)];exact p.f10) z A hc (by omega)
  obtain⟨Q,Z,q2,C⟩:=V_ (E:=E)  (call:=λ_ _ _=>none)    (by rw[g5 10 (by omega) (by omega),e3 10 (by omega)];exact p.f10) (by omega)
  have keep:∀j,j<H.length->(∀off m,get F 7=.hsl id 2 off m->j≠id)->H2[j]? = H[j]? := λj G h=>g4 j G (by grind)
  have I:P3 (l++[D[i]]) D B (i+1) Q H2:=by
   refine⟨q2,⟨q,?_,H.length+1,by grind,λoff m h=>⟨by have:=p.len;omega,λt m' S=>?_⟩⟩,by have:=p.len;omega⟩
   .rw[C 9 (by omega) (by omega),g5 9 (by omega) (by omega),e3 9 (by omega)]
    exact t9.heap λoff n T=>keep q (t9.lt T) λt m' J=>Ne.symm ((w t m' J).2 off n T)
   .rw[C 9 (by omega) (by omega),g5 9 (by omega) (by omega),e3 9 (by omega)]at S
    have:=t9.lt S;omega
  obtain⟨F',H',r1,⟨L,r2,r3⟩,r4,r5,r6⟩:=Y (i+1) (l++[D[i]]) Q H2 (by omega) (by simp;omega) I
  refine⟨F',H',lR.step (Ex.seq (Ex.seq (Ex.cQ λc=>e1) (Ex.mZ ?_ Ex.skip)) (Ex.seq (Ex.block (Ex.cQ λc=>g1)) (Ex.cQ λc=>Z))) r1,⟨L,?_,r3⟩,λs O=>?_,λj G=>?_,by omega⟩
  .show get F1 64=_
   grind
  .rw[List.append_assoc]at r2;rw[List.drop_eq_getElem_cons u];exact r2
  .rw[r4 s O,C s (by omega) (by omega),g5 s (by omega) (by omega),e3 s (by omega)]
  .have:=p.len;rw[r5 j G,keep j (by omega) λoff m h=>by have:=(w off m h).1;omega]
end
structure P2 (t:Trace) (out:List (List Bool)) (l:List aY) (F:Frame) (H:bl):Prop where
 f2:get F 2=.hptr 0 0 0
 h0:H[0]? = some (.row 1 [cells t])
 ns:∃B o ids id,mg H (get F 5) o ids (jU out)/\(out≠[]->1<=o/\o<B)/\(∀id∈ids,1<=id/\id<B)/\1<=B/\B<=H.length/\j_ H (get F 7) (l.map cells) id/\∀off m,get F 7=.hsl id 2 off m->B<=id
theorem M0 (out:List (List Bool)) (p j:Nat) (row:List Bool):jU (out.set p (row.set j true))=(jU out).set p ((row.map V.bool).set j (.bool true)):=by
 simp[jU]
theorem FG {out:List (List Bool)}:jU out=[]↔out=[]:=by simp[jU]
theorem Oi {dir:aY->Option (Sl aY)} {out:List (List Bool)} {y:aY} {rest:List aY} {w:Fw (List (List Bool)×List aY) (List (List Bool)) Empty} (h:n9 dir (out,y::rest)=some w) :
 ∃(p j:Nat) (row:List Bool) (b:Bool),y.proc=p/\y.index=j/\out[p]? = some row/\row[j]? = some b/\((b=true/\w=.n (out,rest))\/(b=false/\∃more,dir y=some more/\rest.length+more.l.length<=2147483648/\w=.n (out.set p (row.set j true),rest++more.l))):=by
 simp only[n9]at h;split at h
 .obtain⟨row,h1,h⟩:=ζg.1 h;obtain⟨b,q,h⟩:=ζg.1 h;refine⟨y.proc.toNat,y.index.toNat,row,b,by omega,by omega,h1,q,?_⟩
  cases b with
  | true=>simp[bg]at h;grind
  | false=>
   obtain⟨more,t,h⟩:=ζg.1 h
   grind
 simp_all
theorem Kk {E:Env} {N:Nat->FuncId} {t:Trace} {dir:aY->Option (Sl aY)} (hd:E.keep (N 149)=true) (hD:EV E N t dir):∀(k:Nat) (out:List (List Bool)) (l:List aY) (D:List (List Bool)) (F:Frame) (H:bl),
 jA (n9 dir) k (out,l)=some (.x D)->P2 t out l F H->∃F' H',lR E N L2 F H (.exit 2) F' H'/\P2 t D [] F' H':=by
 intro k
 induction k with
 | zero=>intro out l D F H h;simp[jA]at h
 | succ k ih=>
  intro out l D F H h p;obtain⟨B,o,ids,id,n1,n2,W,n4,n5,t7,t8⟩:=p.ns;obtain⟨F1,e1,e2,e3⟩:=x8 (E:=E) (N:=N) (call:=λ_ _ _=>none) t7
  rw[List.length_map]at e2
  cases l with
  | nil=>
   simp only[jA,n9]at h;cases h;refine⟨F1,H,lR.stop (Ex.uH (Ex.seq (Ex.cQ λc=>e1) (Ex.oQ ?_ Ex.exit)) (by simp)) (by simp),?_⟩
   .show get F1 35=_;rw[e2];simp
   .exact⟨by rw[e3 2 (by omega)];exact p.f2,p.h0,B,o,ids,id,by rw[e3 5 (by omega)];exact n1,n2,W,n4,n5,by rw[e3 7 (by omega)];exact t7,by rw[e3 7 (by omega)];exact t8⟩
  | cons y rest=>
   simp only[jA]at h
   cases I:n9 dir (out,y::rest)with
   | none=>rw[I]at h;cases h
   | some w=>
   rw[I]at h;obtain⟨q,j,row,b,hq,hj,u,hb,J⟩:=Oi I;have L:j_ H (get F1 7) (cells y::rest.map cells) id:=by rw[e3 7 (by omega)];exact t7
   obtain⟨F2,g1,g2,g3⟩:=x9 (E:=E) (N:=N) (call:=λ_ _ _=>none) L
   have aa:j_ (H++[.row 2 [cells y]]) (get F2 7) (cells y::rest.map cells) id:=by rw[g3 7 (by omega) (by omega)];exact L.more _
   obtain⟨F3,i1,i2,⟨C,m1,ab,i3,i4⟩,i5⟩:=V8 (E:=E) (N:=N) (call:=λ_ _ _=>none) aa
   have O:(H++[Ob.row 2 [cells y]])[H.length]? = some (.row 2 [cells y]):=by simp
   have f8:get F3 8=.hptr H.length 0 0:=by rw[i5 8 (by omega) (by omega)];exact g2
   have f5:get F3 5=get F 5:=by rw[i5 5 (by omega) (by omega),g3 5 (by omega) (by omega),e3 5 (by omega)]
   have f2:get F3 2=.hptr 0 0 0:=by rw[i5 2 (by omega) (by omega),g3 2 (by omega) (by omega),e3 2 (by omega)];exact p.f2
   have Q:mg (H++[.row 2 [cells y]]) (get F3 5) o ids (jU out):=by rw[f5];exact n1.more _
   have hr:(jU out)[q]? = some (row.map V.bool):=by simp[jU,u]
   have hu:(row.map V.bool)[j]? = some (.bool b):=by simp[hb]
   have S:B<=id:=by
    have:get F 7=.hsl id 2 C m1:=by rw[<-i3,g3 7 (by omega) (by omega),e3 7 (by omega)]
    exact t8 _ _ this
   obtain⟨F4,j1,j2,z⟩:=Th (E:=E) (N:=N) (call:=λ_ _ _=>none) f8 O Q hq hj hr hu
   have ad:bu N F1 (.s 35)=.bool true:=by show get F1 35=_;rw[e2];simp
   rcases J with⟨rfl,rfl⟩|⟨rfl,more,hm,aq,rfl⟩
   .simp only at h;have T:P2 t out rest F4 (H++[.row 2 [cells y]]):=by
     refine⟨by rw[z 2 (by omega)];exact f2,by rw[List.getElem?_append_left (ζe.1 p.h0).1];exact p.h0,B,o,ids,id,by rw[z 5 (by omega)];exact Q,n2,W,n4,by simp;omega,by rw[z 7 (by omega)];exact i2,λoff m _=>S⟩
    obtain⟨F',H',r1,r2⟩:=ih out rest D F4 _ h T;exact⟨F',H',lR.step (Ex.seq (Ex.seq (Ex.cQ λc=>e1) (Ex.mZ ad Ex.skip)) (Ex.uw (Ex.seq (Ex.cQ λc=>g1) (Ex.seq (Ex.cQ λc=>i1) (Ex.uH (Ex.seq (Ex.oO rfl λc=>j1) (Ex.mZ j2 Ex.exit)) (by simp)))))) r1,r2⟩
   .simp only at h;have n6:mg (H++[.row 2 [cells y]]) (get F4 5) o ids (jU out):=by rw[z 5 (by omega)];exact Q
    obtain⟨F5,A,k1,k2,k3,k4,k5⟩:=V5 (E:=E) (N:=N) (call:=λ_ _ _=>none) (by rw[z 8 (by omega)];exact f8) O n6 hq hj hr hu
    have G:∀i,B<=i->i∉ids:=λi hi hm=>by have:=(W i hm).2;omega
    have ah:A[H.length]? = some (.row 2 [cells y]):=by rw[k4 _ (G _ n5)];exact O
    have U:A[0]? = some (.row 1 [cells t]):=by
     rw[k4 0 (λhm=>by have:=(W 0 hm).1;omega),List.getElem?_append_left (ζe.1 p.h0).1];exact p.h0
    obtain⟨w9,X,ai,aj,m2,m3,_⟩:=Vf (a:=0) (d:=0) (F:=F5) hd hD hm (by rw[k5 2 (by omega),z 2 (by omega)];exact f2) U ah
    obtain⟨Y,⟨nn,ak⟩,ae,o3⟩:=m3 (by rw[k5 8 (by omega),z 8 (by omega)];exact f8)
    have au:A.length=H.length+1:=by rw[k3];simp
    have i7:get Y 7=.hsl id 2 ab (rest.map cells).length:=by rw[o3 7 (by omega) (by omega),k5 7 (by omega),z 7 (by omega)];exact i4
    have ar:id<H.length:=by
     have:=L.lt (off:=C) (m:=m1) (by rw[<-i3,g3 7 (by omega) (by omega)])
     exact this
    have t6:j_ (A++X) (get Y 7) (rest.map cells) id:=by
     have:get Y 7=get F3 7:=by rw[o3 7 (by omega) (by omega),k5 7 (by omega),z 7 (by omega)]
     rw[this];refine(i2.heap (H':=A) λoff n _=>k4 id (G id S)).more X
    have al:∃Z,(∀c,cw E N c none B_ Y (A++X)=some (Z,A++X))/\get Z 10=.int .i64 ((0:Nat):Int)/\∀s,s<10->get Z s=get Y s:=
     ⟨set Y 10 (.int .i64 0),λc=>by simp[B_,cw,bJ,bu,bh,bq],by simp,λs hs=>by rw[br,if_neg (by omega)]⟩
    obtain⟨Z,u1,u2,u3⟩:=al;have am:P3 (rest.map cells) (more.l.map cells) B 0 Z (A++X):=by
     refine⟨u2,⟨ai,by rw[u3 9 (by omega),ae];exact aj,id,by rw[u3 7 (by omega)];exact t6,λoff m hh=>⟨S,λaf m' h'=>?_⟩⟩,by simp;omega⟩
     rw[u3 9 (by omega),ae]at h'
     have:=m2 af m' h';omega
    obtain⟨F8,H8,v1,⟨an,v2,v3⟩,v4,v5,v6⟩:=Uy (E:=E) (N:=N) (more.l.map cells) B (by simp;omega) (more.l.map cells).length 0 (rest.map cells) Z (A++X) (by omega) (by simp;omega) am
    have ao:mg H8 (get F8 5) o ids (jU (out.set q (row.set j true))):=by
     have h5:get F8 5=get F5 5:=by rw[v4 5 (by omega),u3 5 (by omega),o3 5 (by omega) (by omega)]
     rw[h5,M0];refine(k2.more X).heap (λap=>v5 o ?_) λi hi=>v5 i (W i hi).2
     have:out≠[]:=by intro e;subst e;simp at u
     exact(n2 this).2
    have T:P2 t (out.set q (row.set j true)) (rest++more.l) F8 H8:=by
     refine⟨by rw[v4 2 (by omega),u3 2 (by omega),o3 2 (by omega) (by omega),k5 2 (by omega),z 2 (by omega)];exact f2,?_,B,o,ids,an,ao,λap=>n2 (by intro e;subst e;simp at u),W,n4,by simp at v6;omega,?_,v3⟩
     .rw[v5 0 (by omega),List.getElem?_append_left (ζe.1 U).1];exact U
     .rw[List.drop_zero]at v2;rw[List.map_append];exact v2
    obtain⟨F',H',w1,w2⟩:=ih _ _ D F8 H8 h T;exact⟨F',H',lR.step (Ex.seq (Ex.seq (Ex.cQ λc=>e1) (Ex.mZ ad Ex.skip)) (Ex.block (Ex.seq (Ex.cQ λc=>g1) (Ex.seq (Ex.cQ λc=>i1) (Ex.seq (Ex.seq (Ex.oO rfl λc=>j1) (Ex.oQ j2 Ex.skip)) (Ex.seq (Ex.oO rfl λc=>k1)
     (Ex.seq (Ex.ops ⟨nn,ak⟩) (Ex.seq (Ex.cQ u1) (Ex.uw (Ex.loop v1))))))))) ) w1,w2⟩
theorem O3 {H:bl} {Z:Nat->Prop} {id:Nat} {r:List Bool} (B:Z id) (h:H[id]? = some (.row 1 (jh (r.map V.bool)))):FR H Z (enc (Sl.row r)) (.hsl id 1 0 r.length):=by
 have hr:bp H id=some (1,jh (r.map V.bool)):=by simp[bp,h,Ob.rows]
 have z:enc (Sl.row r)=.fsl 1 (rows r):=rfl;have A:(rows r).length=r.length:=by simp[rows]
 have hc:jh (r.map V.bool)=rows r:=by simp[jh,rows,Function.comp_def]
 rw[hc]at hr;rw[z,<-A];refine .fsl 1 (rows r) id 0 (rows r) B hr (by omega) (λi a b h1 q=>?_) (λi j a b u v h1 q t w=>?_)
 .grind
 .rw[Nat.zero_add,h1]at q;cases q;rw[t]at w;cases w;refine .same u ?_;obtain⟨c,C,rfl⟩:∃c∈r,a=[V.bool c]:=by
   have:=List.mem_of_getElem? h1;simp only[rows,List.mem_map]at this;obtain⟨c,hc,rfl⟩:=this;simp_all
  have:=List.mem_of_getElem? t;simp at this;subst this;rfl
theorem OO {H:bl} {w:V} {o:Nat} {ids:List Nat} {out:List (List Bool)} (n:mg H w o ids (jU out)):∃Z,FR H Z (enc (nested out)) w/\(∀id,Z id->(bp H id).isSome=true)/\Deep H Z:=by
 have hv:=n.v
 by_cases J:out=[]
 .subst J;rw[if_pos (show jU []=[]from rfl)]at hv;subst hv;exact⟨λ_=>False,.same _ rfl,λ_ h=>h.elim,⟨λ_ _ _ h=>h.elim⟩⟩
 .have C:jU out≠[]:=λh=>J (FG.1 h)
  rw[if_neg C,vI]at hv;subst hv;have L:=n.ob C;have D:=n.len;rw[vI]at D;have t:∀(i id:Nat) (r:List Bool),ids[i]? = some id->out[i]? = some r->H[id]? = some (.row 1 (jh (r.map V.bool))):=λi id r h1 A=>n.r i id _ h1 (by simp[jU,A])
  have z:∀(i:Nat) (c:List V),(refs ids (jU out))[i]? = some c->∃id r,ids[i]? = some id/\out[i]? = some r/\c=[.hsl id 1 0 r.length]:=λi c h=>by
   have B:=(ζe.1 h).1;rw[s8 n.len,vI]at B;have h1:=ζd (show i<ids.length from by omega)
   have A:=ζd B;have O:=BC (rows:=jU out) (r:=out[i].map V.bool) h1 (by simp[jU,A])
   grind
  have G:bp H o=some (1,refs ids (jU out)):=by simp[bp,L,Ob.rows]
  have I:∀id∈ids,∃(r:List Bool),H[id]? = some (.row 1 (jh (r.map V.bool))):=λid q=>by
   obtain⟨i,B⟩:=List.getElem?_of_mem q;have Q:=(ζe.1 B).1;exact⟨_,t i id _ B (ζd (show i<out.length from by omega))⟩
  refine⟨λid=>id=o\/id∈ids,?_,λid h=>?_,⟨λid es Y h hr c hc u hu=>?_⟩⟩
  .have W:enc (nested out)=.fsl 1 (rows (out.map Sl.row)):=by rw[nested,if_neg J];rfl
   have Q:(rows (out.map Sl.row)).length=out.length:=by simp[rows]
   rw[W,<-Q];refine .fsl 1 _ o 0 (refs ids (jU out)) (.inl rfl) G (by rw[Q,s8 n.len,vI];omega) (λi a b h1 A=>?_) (λi j a b u v h1 A O U=>?_)
   .rw[Nat.zero_add]at A;obtain⟨id,r,_,hr,rfl⟩:=z i b A;simp[rows,hr]at h1;subst h1;rfl
   .rw[Nat.zero_add]at A;obtain⟨id,r,q,hr,rfl⟩:=z i b A;have X:a=[enc (Sl.row r)]:=by simp[rows,hr]at h1;exact h1.symm
    subst X
    cases j with
    | zero=>
     simp at O U;subst O U;exact O3 (.inr (List.mem_of_getElem? q)) (t i id r q hr)
    | succ j=>simp_all
  .rcases h with rfl|h
   .simp_all
   .obtain⟨r,hr⟩:=I id h;simp[bp,hr,Ob.rows]
  .rcases h with rfl|h
   .rw[G]at hr;cases hr;obtain⟨i,B⟩:=List.getElem?_of_mem hc;obtain⟨id,r,q,S,rfl⟩:=z i c B;simp at hu;subst hu;exact⟨_,O3 (.inr (List.mem_of_getElem? q)) (t i id r q S)⟩
   .obtain⟨r,T⟩:=I id h;have:bp H id=some (1,jh (r.map V.bool)):=by simp[bp,T,Ob.rows]
    rw[this]at hr;cases hr;simp only[jh,List.mem_map]at hc;obtain⟨_,⟨c',_,rfl⟩,rfl⟩:=hc;simp at hu;subst hu;exact⟨_,.same _ rfl⟩
theorem PX {t:Trace} {x:aY} {out:List (List Bool)} {s:Sl aY} {dir:aY->Option (Sl aY)} (O:vP.keep (wh 149)=true) (U:EV vP wh t dir) (J:zR t=true) (Y:dir x=some s) (hw:bG (n9 dir) (gA t,s.l)=some (.x out)) :
 zK vP (wh 122) [enc t,enc x] (enc (nested out)):=by
 obtain⟨fi,g1,g2,g3,g4⟩:=shape;obtain⟨k,hk⟩:=nK.1 hw;have b1:∃F1,(∀c,cw vP wh c none r1 [enc t,enc x] []=some (F1,[.row 1 [cells t],.row 2 [cells x]]))/\get F1 2=.hptr 0 0 0/\get F1 3=.hptr 1 0 0:=by
  refine⟨_,λc=>jH (v:=.hptr 0 0 0) (H1:=[.row 1 [cells t]]) rfl ?_ <| jH (v:=.hptr 1 0 0) (H1:=[.row 1 [cells t],.row 2 [cells x]]) rfl ?_ <| vp (v:=.bH) rfl ?_ dS,?_,?_⟩
  .show (iZ .box [enc t]).map _=_;simp only[iZ,fT,p_,if_true,Option.map_some,gx];rfl
  .simp only[bJ,List.map_cons,List.map_nil,bu,bq,br,Nat.reduceEqDiff,if_false];show (iZ .box [enc x]).map _=_;simp only[iZ,fT,p_,if_true,Option.map_some,gx];rfl
  .simp[bJ,bu,bh]
  .simp[bq]
  .simp[bq]
 obtain⟨F1,c1,c2,c3⟩:=b1;have b3:∃D,(∀c,cw vP wh c none r2 F1 [.row 1 [cells t],.row 2 [cells x]]=some (set F1 5 .bH,[.row 1 [cells t],.row 2 [cells x]]))/\(∀c,cw vP wh c none r3 (set F1 5 .bH) [.row 1 [cells t],.row 2 [cells x]]=some (D,[.row 1 [cells t],.row 2 [cells x]]))/\P1 t x 0 D [.row 1 [cells t],.row 2 [cells x]]:=by
  refine⟨set (set F1 5 .bH) 6 (.int .i64 0),λc=>by simp[r2,cw,bJ,bu,bh,bq],λc=>by simp[r3,cw,bJ,bu,bh,bq],by simp[c2],by simp[c3],by simp,rfl,rfl,0,[],?_,λh=>absurd rfl h,λid h=>by simp at h⟩
  have:get (set (set F1 5 .bH) 6 (.int .i64 0)) 5=.bH:=by simp
  rw[this,List.take_zero];exact mg.nil _ 0
 obtain⟨D,d1,d2,d3⟩:=b3;obtain⟨F4,L,e1,e2⟩:=Ji (E:=vP) (N:=wh) J t.procs.l.length 0 D _ (by omega) d3
 obtain⟨o,ids,G,n2,n3⟩:=e2.ns;have Q:(gA t).length=t.procs.l.length:=by simp[gA]
 rw[List.take_of_length_le (by omega)]at G
 obtain⟨w,X,id,m1,m2,_,m4⟩:=Vf (a:=0) (d:=0) (F:=F4) (E:=vP) (N:=wh) O U Y e2.f2 e2.h0 (c:=1) e2.h1;obtain⟨S,o1,o2,o3⟩:=m4 e2.f3;have I:P2 t (gA t) s.l S (L++X):=by
  refine⟨by rw[o3 2 (by omega) (by omega)];exact e2.f2,by rw[List.getElem?_append_left (ζe.1 e2.h0).1];exact e2.h0,L.length,o,ids,id,by rw[o3 5 (by omega) (by omega)];exact G.more X,λq=>?_,λi T=>⟨by have:=n3 i T;omega,G.lt.2 i T⟩,?_,by simp,by rw[o2];exact m1,λoff m h=>?_⟩
  .have u:jU (gA t)≠[]:=λh=>q (FG.1 h)
   have:t.procs.l.length≠0:=by intro h;apply q;exact List.eq_nil_of_length_eq_zero (by omega)
   have:=n2 this;exact⟨by omega,G.lt.1 u⟩
  .have:=(ζe.1 e2.h0).1;omega
  .rw[o2]at h;have:=m2 off m h;omega
 obtain⟨z,H,p1,p2⟩:=Kk O U k _ _ out S _ hk I;obtain⟨B,o',W,aa,q1,_⟩:=p2.ns;have l1:∃A,(∀c,cw vP wh c none Vu z H=some (A,H))/\get A 4=get z 5:=by
  refine⟨_,λc=>vp (v:=get z 5) rfl ?_ <| vp (v:=get z 5) rfl ?_ dS,?_⟩
  .simp[bJ,bu,bh]
  .simp[bJ,bu,bh,bq]
  .simp[bq]
 obtain⟨A,y1,y2⟩:=l1;have hex:Ex vP wh code [enc t,enc x] [] .ret A H:=
  Ex.seq (Ex.cQ c1) (Ex.seq (Ex.cQ d1) (Ex.seq (Ex.seq (Ex.cQ d2) (Ex.uw (Ex.loop e1))) (Ex.seq (Ex.ops o1) (Ex.seq (Ex.uw (Ex.loop p1)) (Ex.seq (Ex.cQ y1) Ex.ret)))))
 obtain⟨n,C⟩:=hex.run (nm:=some) Ay g1 g2 (show [enc t,enc x].length<=fi.ntmps from g3) (vs:=[get A 4]) (by rw[g4];rfl)
 obtain⟨Z,z1,z2,z3⟩:=OO q1;exact⟨n,get z 5,H,Z,by rw[C,y2];rfl,z1,z2,z3⟩
theorem SO (l:List aY):∀c∈l.map (cells (α:=aY)),c.length=2/\c.all V.one=true/\c.all V.scalar=true:=λc hc=>by
 obtain⟨e,_,rfl⟩:=List.mem_map.1 hc;exact⟨rfl,rfl,rfl⟩
theorem UW (t:Trace):EV vP wh t (dI t):=by
 intro y s H A;have h1:=yT t y;have G:=h1 (cT s) (by rw[A];rfl)
 have hg:V.cE [enc t,enc y]=true:=by simp only[V.cE,mV,Bool.and_self]
 have w:s.k=.row\/s.k=.nil/\rows s.l=[]:=by
  have C:∀o z,(∃l,o=.row l)\/o=.nil->dI.J1 o t y=some z->(∃l,z=.row l)\/z=.nil:=λo z I u=>by
   unfold dI.J1 at u;obtain⟨e,_,u⟩:=ζg.1 u
   cases D:e.kind==3 with
   | true=>
    rw[D]at u;obtain⟨f,_,u⟩:=ζg.1 u;obtain⟨q,B,u⟩:=ζg.1 u;cases u;unfold gU at B;split at B
    .cases B;exact .inl ⟨_,rfl⟩
    .cases B
   | false=>rw[D]at u;cases u;exact I
  have:(∃l,s=.row l)\/s=.nil:=by
   unfold dI at A
   cases hc:decide (y.index>1)with
   | true=>rw[hc]at A;exact C _ s (.inl ⟨_,rfl⟩) A
   | false=>rw[hc]at A;exact C _ s (.inr rfl) A
  rcases this with⟨l,rfl⟩|rfl
  .exact .inl rfl
  .exact .inr ⟨rfl,rfl⟩
 obtain⟨n,z,H',r1,r2⟩:=TE Pc Ic (T:=Tx) (f:=wh 149) (rf:=yN (Tx 149)) (by kernel_rfl) hg (Nat.le_of_ble_eq_true (by kernel_rfl)) (k:=s.k) (es:=2) (xs:=rows s.l) (λc hc=>(SO s.l c hc).2.2) w G
 refine F_ (l:=s.l.map cells) (y:=z) (H1:=H') (by kernel_rfl) hg (SO s.l) ⟨n,λk hk=>pK _ hk _ _ _ _ r1⟩ ?_ H
 rcases r2 with⟨J,rfl⟩|⟨id,rfl,L⟩
 .left;cases s <;> simp[Sl.k]at J;exact⟨rfl,rfl⟩
 .right;exact⟨id,by simp[rows],L⟩
end pastX
theorem M1 (t:Trace) (x:aY) (r:Sl (Sl Bool)) (h:mN t x=some r):Sy.yM 122 [enc t,enc x]=some (enc r):=by
 unfold mN at h;split at h
 .rename_i q;obtain⟨s,u,h⟩:=ζg.1 h;obtain⟨w,z,h⟩:=ζg.1 h
  cases w with
  | n a=>exact Empty.elim a
  | r e=>exact Empty.elim e
  | x out=>
   cases h;exact zw (pastX.PX (by kernel_rfl) (pastX.UW t) q u z)
 .cases h
end Go.VE
namespace Go.VE
noncomputable section
def vH:Option Bool:=some true
instance QM:Fc Sy cL vH:=⟨7,[],λr:Bool=>[.bool r],true,nE.yM (by kernel_rfl) (by kernel_rfl) LR⟩
namespace fM
def bf (s0:Sl Event) (D:Int) (B:Int) (p1:Event->Option Bool):Option (Fw Int Unit Int):=
 bg (decide (B<D))
 ((idx s0 B).bind λq=>
 (p1 q).bind λt=>
 bg t
 (some (.r B))
 (some (.n (IntKind.wrap .i64 (B+1)))))
 (some (.x ()))
def W1 (s0:Sl Event) (B D:Int) (p1:Event->Option Bool):Option Int:=
 (bG (λq:Int=>bf s0 B q p1) D).bind (Fw.elim
 (λe=>some (-1))
 (λe=>some e))
end fM
def fM (s0:Sl Event) (p1:Event->Option Bool):Option Int:=
 fM.W1 s0 (len s0) 0 p1
open fM in
abbrev vz (g1:FuncId) (e1:List V) (p1:Event->Option Bool) (h1:lg Sy cL g1 [] e1 (λz:Event=>[enc z]) (λr:Bool=>[.bool r]) p1 true) (s0:Sl Event):Fc Sy cL (fM s0 p1):=Fc.M 75 [enc s0,.clo g1 [] e1] (bL 9 s0 (cK 5 (λt=>(bC [Cv 0 s0,(1,.v (.clo g1 [] e1)),Iv 7 (len s0),Iv 8 t] [])) (λq=>(0,(bC [] []))) (λq=>(bC [Iv 4 q] [])) (λt=>bD 7 9 (bN 16 λu _=>sM 1 h1.f u λw _=>bD 2 16 aZ aZ) aZ) (λq=>aZ) (λq=>aZ))) (l:=by simp[h1.d])
def gY (s0:Sl Event) (p1:Event->Option Bool):Option Bool:=
 (fM s0 p1).bind λq=>
 some (decide (q>=0))
abbrev nN (g1:FuncId) (e1:List V) (p1:Event->Option Bool) (h1:lg Sy cL g1 [] e1 (λz:Event=>[enc z]) (λr:Bool=>[.bool r]) p1 true) (s0:Sl Event):Fc Sy cL (gY s0 p1):=Fc.M 39 [enc s0,.clo g1 [] e1] (bz (F:=vz g1 e1 p1 h1 s0) 9 λq _=>aZ) (l:=by simp[h1.d])
def qP (B:Event):Option Bool:=
 some (decide ((len B.assign)>20))
instance OV (B:Event):Fc Sy cL (qP B):=Fc.M 40 [enc B] (cm 2 1 B (bL 7 B.assign aZ))
namespace jk
def bf (G:Sl cn) (J:Int) (O:Trace) (D B:Int):Option (Fw (Int×Int) Int Unit):=
 bg (decide (B<J))
 ((idx G B).bind λq=>
 (bg (decide ((len q.events)>20))
 (some true)
 (some (decide ((len q.vars)>20))):Option Bool).bind λt=>
 (bg t
 (some true)
 ((gY q.events (λz=>qP z)).bind λu=>
 some u):Option Bool).bind λw=>
 bg w
 (some (.r ()))
 (some (.n (IntKind.wrap .i64 (D-(len q.events)),IntKind.wrap .i64 (B+1)))))
 (some (.x D))
def W1 (G:Int) (J:Sl cn) (O D:Int) (B:Trace):Option Bool:=
 (bG (λq:Int×Int=>bf J O B q.1 q.2) (G,D)).bind (Fw.elim
 (λe=>(bg (decide ((len B.procs)<=10))
 (some (decide (e>=0)))
 (some false):Option Bool).bind λt=>
 some t)
 (λe=>some false))
end jk
def jk (B:Trace) (D:Int):Option Bool:=
 jk.W1 D B.procs (len B.procs) 0 B
open jk in
instance S4 (B:Trace) (D:Int):Fc Sy cL (jk B D):=Fc.M 8 [enc B,.int .i64 D] (cm 2 2 B (bL 8 B.procs (cK 5 (λu=>(bC [Iv 1 u.1,Pv 2,Cv 8 B.procs,Iv 9 (len B.procs),Iv 10 u.2] [Xb 2 B])) (λt=>(0,(bC [Iv 1 t,Pv 2] [Xb 2 B]))) (λt=>(bC [Bv 4 false] [])) (λu=>bD 7 11 (bN 7 λq _=>gF 2 6 0 q (bL 7 q.events (bL 8 q.events (bW 2 5 [23] 28 (bD 2 23 (bA 5) (bL 2 q.vars (bA 2))) λw=>bW 1 4 [6,29] 33 (bD 1 29 (bA 4) (bz (F:=nN 40 [] (λz=>qP z) lg.uc q.events) 2 λA _=>bA 1)) λC=>bD 2 33 aZ aZ)))) aZ) (λt=>bL 6 B.procs (bW 2 3 [1,39] 42 (bD 2 39 (bA 3) (bA 3)) λG=>aZ)) (λt=>aZ))))
namespace fJ
def bf (s0:Sl (Sl (Sl Int))) (D:Int) (B:Int) (p1:(Sl (Sl Int))->Option Bool):Option (Fw Int Unit Int):=
 bg (decide (B<D))
 ((idx s0 B).bind λq=>
 (p1 q).bind λt=>
 bg t
 (some (.r B))
 (some (.n (IntKind.wrap .i64 (B+1)))))
 (some (.x ()))
def W1 (s0:Sl (Sl (Sl Int))) (B D:Int) (p1:(Sl (Sl Int))->Option Bool):Option Int:=
 (bG (λq:Int=>bf s0 B q p1) D).bind (Fw.elim
 (λe=>some (-1))
 (λe=>some e))
end fJ
def fJ (s0:Sl (Sl (Sl Int))) (p1:(Sl (Sl Int))->Option Bool):Option Int:=
 fJ.W1 s0 (len s0) 0 p1
open fJ in
abbrev vU (g1:FuncId) (e1:List V) (p1:(Sl (Sl Int))->Option Bool) (h1:lg Sy cL g1 [] e1 (λz:Sl (Sl Int)=>[enc z]) (λr:Bool=>[.bool r]) p1 true) (s0:Sl (Sl (Sl Int))):Fc Sy cL (fJ s0 p1):=Fc.M 76 [enc s0,.clo g1 [] e1] (bL 9 s0 (cK 5 (λt=>(bC [Cv 0 s0,(1,.v (.clo g1 [] e1)),Iv 7 (len s0),Iv 8 t] [])) (λq=>(0,(bC [] []))) (λq=>(bC [Iv 4 q] [])) (λt=>bD 7 9 (bN 16 λu _=>sM 1 h1.f u λw _=>bD 2 16 aZ aZ) aZ) (λq=>aZ) (λq=>aZ))) (l:=by simp[h1.d])
def jI (s0:Sl (Sl (Sl Int))) (p1:(Sl (Sl Int))->Option Bool):Option Bool:=
 (fJ s0 p1).bind λq=>
 some (decide (q>=0))
abbrev ug (g1:FuncId) (e1:List V) (p1:(Sl (Sl Int))->Option Bool) (h1:lg Sy cL g1 [] e1 (λz:Sl (Sl Int)=>[enc z]) (λr:Bool=>[.bool r]) p1 true) (s0:Sl (Sl (Sl Int))):Fc Sy cL (jI s0 p1):=Fc.M 41 [enc s0,.clo g1 [] e1] (bz (F:=vU g1 e1 p1 h1 s0) 9 λq _=>aZ) (l:=by simp[h1.d])
namespace gb
def bf (s0:Sl (Sl Int)) (D:Int) (B:Int) (p1:(Sl Int)->Option Bool):Option (Fw Int Unit Int):=
 bg (decide (B<D))
 ((idx s0 B).bind λq=>
 (p1 q).bind λt=>
 bg t
 (some (.r B))
 (some (.n (IntKind.wrap .i64 (B+1)))))
 (some (.x ()))
def W1 (s0:Sl (Sl Int)) (B D:Int) (p1:(Sl Int)->Option Bool):Option Int:=
 (bG (λq:Int=>bf s0 B q p1) D).bind (Fw.elim
 (λe=>some (-1))
 (λe=>some e))
end gb
def gb (s0:Sl (Sl Int)) (p1:(Sl Int)->Option Bool):Option Int:=
 gb.W1 s0 (len s0) 0 p1
open gb in
abbrev vW (g1:FuncId) (e1:List V) (p1:(Sl Int)->Option Bool) (h1:lg Sy cL g1 [] e1 (λz:Sl Int=>[enc z]) (λr:Bool=>[.bool r]) p1 true) (s0:Sl (Sl Int)):Fc Sy cL (gb s0 p1):=Fc.M 63 [enc s0,.clo g1 [] e1] (bL 9 s0 (cK 5 (λt=>(bC [Cv 0 s0,(1,.v (.clo g1 [] e1)),Iv 7 (len s0),Iv 8 t] [])) (λq=>(0,(bC [] []))) (λq=>(bC [Iv 4 q] [])) (λt=>bD 7 9 (bN 16 λu _=>sM 1 h1.f u λw _=>bD 2 16 aZ aZ) aZ) (λq=>aZ) (λq=>aZ))) (l:=by simp[h1.d])
def iE (s0:Sl (Sl Int)) (p1:(Sl Int)->Option Bool):Option Bool:=
 (gb s0 p1).bind λq=>
 some (decide (q>=0))
abbrev oc (g1:FuncId) (e1:List V) (p1:(Sl Int)->Option Bool) (h1:lg Sy cL g1 [] e1 (λz:Sl Int=>[enc z]) (λr:Bool=>[.bool r]) p1 true) (s0:Sl (Sl Int)):Fc Sy cL (iE s0 p1):=Fc.M 23 [enc s0,.clo g1 [] e1] (bz (F:=vW g1 e1 p1 h1 s0) 9 λq _=>aZ) (l:=by simp[h1.d])
def ng (B:Sl Int):Option Bool:=
 some (decide ((len B)>20))
instance KL (B:Sl Int):Fc Sy cL (ng B):=Fc.M 43 [enc B] (bL 8 B aZ)
def nH (B:Sl (Sl Int)):Option Bool:=
 (bg (decide ((len B)>40))
 (some true)
 ((iE B (λz=>ng z)).bind λq=>
 some q):Option Bool).bind λt=>
 some t
instance M7 (B:Sl (Sl Int)):Fc Sy cL (nH B):=Fc.M 42 [enc B] (bL 8 B (bW 2 3 [0,6] 9 (bD 2 6 (bA 3) (bz (F:=oc 43 [] (λz=>ng z) lg.uc B) 1 λq _=>bA 1)) λt=>aZ))
def tY (s0:Slice):Option Bool:=
 (bg (decide ((len s0.first)>20))
 (some true)
 (some (decide ((len s0.last)>20))):Option Bool).bind λq=>
 (bg q
 (some true)
 (some (decide ((len s0.j)>20))):Option Bool).bind λt=>
 (bg t
 (some true)
 ((jI s0.j (λz=>nH z)).bind λu=>
 some u):Option Bool).bind λw=>
 some w
instance RD (s0:Slice):Fc Sy cL (tY s0):=Fc.M 9 [enc s0] (cm 2 1 s0 (bL 7 s0.first (bW 2 5 [7] 12 (bD 2 7 (bA 5) (bL 2 s0.last (bA 2))) λq=>bW 1 5 [13] 18 (bD 1 13 (bA 5) (bL 2 s0.j (bA 2))) λt=>bW 1 4 [1,19] 23 (bD 1 19 (bA 4) (bz (F:=ug 42 [] (λz=>nH z) lg.uc s0.j) 2 λu _=>bA 1)) λw=>aZ)))
def mM (G D B:Int):Option Bool:=
 (bg (decide (G>=D))
 (some (decide (G<=B)))
 (some false):Option Bool).bind λq=>
 some q
instance UX (G D B:Int):Fc Sy cL (mM G D B):=Fc.M 138 [.int .i64 G,.int .i64 D,.int .i64 B] (bW 11 4 [0,2,10] 14 (bD 11 10 (bA 4) (bA 4)) λq=>aZ)
def pe (B:Int):Option Bool:=
 (bg (decide (B>=97))
 (some (decide (B<=122)))
 (some false):Option Bool).bind λq=>
 (bg q
 (some true)
 ((bg (decide (B>=65))
 (some (decide (B<=90)))
 (some false):Option Bool).bind λt=>
 some t):Option Bool).bind λu=>
 some u
instance Rn (B:Int):Fc Sy cL (pe B):=Fc.M 183 [.int .u8 B] (bW 10 3 [5] 8 (bD 10 5 (bA 3) (bA 3)) λq=>bW 1 7 [0,9] 16 (bD 1 9 (bA 7) (bW 3 3 [0,12] 15 (bD 3 12 (bA 3) (bA 3)) λt=>bA 1)) λu=>aZ)
def tN (B:Int):Option Bool:=
 (bg (decide (B>=48))
 (some (decide (B<=57)))
 (some false):Option Bool).bind λq=>
 some q
instance RW (B:Int):Fc Sy cL (tN B):=Fc.M 184 [.int .u8 B] (bW 10 3 [0,5] 8 (bD 10 5 (bA 3) (bA 3)) λq=>aZ)
namespace gm
def bf (s0:ByteArray) (D:Int) (B:Int):Option (Fw Int Unit Unit):=
 bg (decide (B<D))
 ((kH s0 B).bind λu=>
 (pe u).bind λw=>
 (bg w
 (some false)
 ((kH s0 B).bind λz=>
 (tN z).bind λA=>
 some (!A)):Option Bool).bind λC=>
 (bg C
 ((kH s0 B).bind λq=>
 some (!(q==95)))
 (some false):Option Bool).bind λt=>
 bg t
 (some (.r ()))
 (some (.n (IntKind.wrap .i64 (B+1)))))
 (some (.x ()))
def W1 (s0:ByteArray) (B D:Int):Option Bool:=
 (bG (λq:Int=>bf s0 B q) D).bind (Fw.elim
 (λe=>some true)
 (λe=>some false))
end gm
def gm (s0:ByteArray):Option Bool:=
 (bg (ByteArray.toList s0==ByteArray.toList ByteArray.empty)
 (some true)
 (some (decide (((ByteArray.size s0:Nat):Int)>16))):Option Bool).bind λq=>
 (bg q
 (some true)
 ((kH s0 0).bind λt=>
 (pe t).bind λu=>
 some (!u)):Option Bool).bind λw=>
 bg w
 (some false)
 (gm.W1 s0 ((ByteArray.size s0:Nat):Int) 0)
open gm in
instance PY (s0:ByteArray):Fc Sy cL (gm s0):=Fc.M 158 [.str s0] (bW 11 4 [6] 10 (bD 11 6 (bA 4) (bA 4)) λz=>bW 1 5 [11] 16 (bD 1 11 (bA 5) (y_ 1 .i64 λA _=>bz 0 λB _=>bA 2)) λC=>bD 2 16 aZ (cK 13 (λt=>(bC [(0,.v (.str s0)),Iv 18 ((ByteArray.size s0:Nat):Int),Iv 19 t] [])) (λq=>(0,(bC [] []))) (λq=>(bC [Bv 2 false] [])) (λt=>bD 7 20 (y_ 15 .i64 λD _=>bz 0 λG _=>bW 2 6 [27] 33 (cI 2 27 (bA 6) (y_ 2 .i64 λH _=>bz 0 λI _=>bA 2)) λJ=>bW 1 5 [3,34] 39 (bD 1 34 (y_ 2 .i64 λu _=>bA 2) (bA 5)) λw=>bD 2 39 aZ aZ) aZ) (λq=>aZ) (λq=>aZ)))
def jD (B D:cn):Option Bool:=
 some (ByteArray.toList B.name==ByteArray.toList D.name)
instance Ht (B D:cn):Fc Sy cL (jD B D):=Fc.M 160 [enc B,.fptr (cells D)] (cm 2 2 B aZ)
namespace ga
def bf (s0:Sl cn) (D:Int) (B:Int) (p1:cn->Option Bool):Option (Fw Int Unit Int):=
 bg (decide (B<D))
 ((idx s0 B).bind λq=>
 (p1 q).bind λt=>
 bg t
 (some (.r B))
 (some (.n (IntKind.wrap .i64 (B+1)))))
 (some (.x ()))
def W1 (s0:Sl cn) (B D:Int) (p1:cn->Option Bool):Option Int:=
 (bG (λq:Int=>bf s0 B q p1) D).bind (Fw.elim
 (λe=>some (-1))
 (λe=>some e))
end ga
def ga (s0:Sl cn) (p1:cn->Option Bool):Option Int:=
 ga.W1 s0 (len s0) 0 p1
open ga in
abbrev vX (g1:FuncId) (e1:List V) (p1:cn->Option Bool) (h1:lg Sy cL g1 [] e1 (λz:cn=>[enc z]) (λr:Bool=>[.bool r]) p1 true) (s0:Sl cn):Fc Sy cL (ga s0 p1):=Fc.M 185 [enc s0,.clo g1 [] e1] (bL 9 s0 (cK 5 (λt=>(bC [Cv 0 s0,(1,.v (.clo g1 [] e1)),Iv 7 (len s0),Iv 8 t] [])) (λq=>(0,(bC [] []))) (λq=>(bC [Iv 4 q] [])) (λt=>bD 7 9 (bN 16 λu _=>sM 1 h1.f u λw _=>bD 2 16 aZ aZ) aZ) (λq=>aZ) (λq=>aZ))) (l:=by simp[h1.d])
def iB (s0:Sl cn) (p1:cn->Option Bool):Option Bool:=
 (ga s0 p1).bind λq=>
 some (decide (q>=0))
abbrev uB (g1:FuncId) (e1:List V) (p1:cn->Option Bool) (h1:lg Sy cL g1 [] e1 (λz:cn=>[enc z]) (λr:Bool=>[.bool r]) p1 true) (s0:Sl cn):Fc Sy cL (iB s0 p1):=Fc.M 159 [enc s0,.clo g1 [] e1] (bz (F:=vX g1 e1 p1 h1 s0) 9 λq _=>aZ) (l:=by simp[h1.d])
def jE (B D:Var):Option Bool:=
 some (ByteArray.toList B.name==ByteArray.toList D.name)
instance Hr (B D:Var):Fc Sy cL (jE B D):=Fc.M 162 [enc B,.fptr (cells D)] (aZ)
namespace gB
def bf (s0:Sl Var) (D:Int) (B:Int) (p1:Var->Option Bool):Option (Fw Int Unit Int):=
 bg (decide (B<D))
 ((idx s0 B).bind λq=>
 (p1 q).bind λt=>
 bg t
 (some (.r B))
 (some (.n (IntKind.wrap .i64 (B+1)))))
 (some (.x ()))
def W1 (s0:Sl Var) (B D:Int) (p1:Var->Option Bool):Option Int:=
 (bG (λq:Int=>bf s0 B q p1) D).bind (Fw.elim
 (λe=>some (-1))
 (λe=>some e))
end gB
def gB (s0:Sl Var) (p1:Var->Option Bool):Option Int:=
 gB.W1 s0 (len s0) 0 p1
open gB in
abbrev wK (g1:FuncId) (e1:List V) (p1:Var->Option Bool) (h1:lg Sy cL g1 [] e1 (λz:Var=>[enc z]) (λr:Bool=>[.bool r]) p1 true) (s0:Sl Var):Fc Sy cL (gB s0 p1):=Fc.M 186 [enc s0,.clo g1 [] e1] (bL 9 s0 (cK 5 (λt=>(bC [Cv 0 s0,(1,.v (.clo g1 [] e1)),Iv 7 (len s0),Iv 8 t] [])) (λq=>(0,(bC [] []))) (λq=>(bC [Iv 4 q] [])) (λt=>bD 7 9 (bN 16 λu _=>sM 1 h1.f u λw _=>bD 2 16 aZ aZ) aZ) (λq=>aZ) (λq=>aZ))) (l:=by simp[h1.d])
def iQ (s0:Sl Var) (p1:Var->Option Bool):Option Bool:=
 (gB s0 p1).bind λq=>
 some (decide (q>=0))
abbrev uW (g1:FuncId) (e1:List V) (p1:Var->Option Bool) (h1:lg Sy cL g1 [] e1 (λz:Var=>[enc z]) (λr:Bool=>[.bool r]) p1 true) (s0:Sl Var):Fc Sy cL (iQ s0 p1):=Fc.M 161 [enc s0,.clo g1 [] e1] (bz (F:=wK g1 e1 p1 h1 s0) 9 λq _=>aZ) (l:=by simp[h1.d])
namespace eG
def bf (D:Sl Var) (G:Int) (J:cn) (B:Int):Option (Fw Int Unit Int):=
 bg (decide (B<G))
 ((idx D B).bind λq=>
 (gm q.name).bind λw=>
 (bg w
 ((fQ J.vars none (some B)).bind λA=>
 (iQ A (λz=>jE z q)).bind λC=>
 some C)
 (some true):Option Bool).bind λt=>
 bg t
 (some (.r 13))
 ((mM q.init_ (-1073741824) 1073741824).bind λu=>
 bg u
 (some (.n (IntKind.wrap .i64 (B+1))))
 (some (.r 2))))
 (some (.x ()))
def W1 (D:Sl Var) (G J:Int) (B:cn):Option Int:=
 (bG (λq:Int=>bf D G B q) J).bind (Fw.elim
 (λe=>bg (decide ((len B.events)>64))
 (some 5)
 (some 0))
 (λe=>some e))
end eG
def eG (B:Trace) (p1:Int):Option Int:=
 (idx B.procs p1).bind λq=>
 (gm q.name).bind λt=>
 (bg t
 ((fQ B.procs none (some p1)).bind λu=>
 (iB u (λz=>jD z q)).bind λw=>
 some w)
 (some true):Option Bool).bind λA=>
 bg A
 (some 13)
 (bg (decide ((len q.vars)>8))
 (some 5)
 (eG.W1 q.vars (len q.vars) 0 q))
open eG in
instance Jj (B:Trace) (p1:Int):Fc Sy cL (eG B p1):=Fc.M 139 [enc B,.int .i64 p1] (cm 2 2 B (bN 8 λq _=>gF 2 5 0 q (bz 8 λH _=>bW 2 7 [1,2,18] 25 (cI 2 18 (zg 3 false true [.int .i64 p1] λA _=>fc (F:=uB 160 [.fptr (cells q)] (λz=>jD z q) lg.uc A) 1 λI _=>bA 1) (bA 7)) λJ=>bD 3 13 aZ (bL 5 q.vars (bD 4 26 aZ (bL 9 q.vars (cK 5 (λu=>(bC [Pv 5,Cv 32 q.vars,Iv 33 (len q.vars),Iv 34 u] [Xb 5 q])) (λt=>(1,(bC [Pv 5] [Xb 5 q]))) (λt=>(bC [Iv 4 t] [])) (λu=>bD 7 35 (bN 8 λw _=>bz 11 λL _=>bW 2 7 [6,44] 51 (cI 2 44 (zg 3 false true [.int .i64 u] λC _=>fc (F:=uW 162 [.fptr (cells w)] (λz=>jE z w) lg.uc C) 1 λO _=>bA 1) (bA 7)) λD=>bD 3 39 aZ (bz 5 λG _=>cI 4 52 aZ aZ)) aZ) (λt=>bL 7 q.events (bD 3 61 aZ aZ)) (λt=>aZ))))))))
def jV (B:Trace):Option Trace:=
 some B
instance Rb (B:Trace):Fc Sy cL (jV B):=Fc.NE (λr:Trace=>[(.clo 163 [] [.fptr (cells r)])]) 140 [enc B] (cm 2 1 B aZ)
namespace iz
def J1 (p1:Int) (D:Bool) (G:Trace) (B:Event):Option Bool:=
 bg D
 ((mM B.peer 0 (IntKind.wrap .i64 ((len G.procs)-1))).bind λq=>
 (bg q
 (some (!(B.peer==p1)))
 (some false):Option Bool).bind λt=>
 (bg t
 ((mM B.message 0 199).bind λu=>
 some u)
 (some false):Option Bool).bind λw=>
 some w)
 (some false)
end iz
def iz (B:Trace) (p1:Int) (e2:Event):Option Bool:=
 bg (e2.kind==1)
 ((bg (e2.peer==0)
 (some (e2.message==0))
 (some false):Option Bool).bind λq=>
 some q)
 (bg (e2.kind==2)
 (iz.J1 p1 true B e2)
 (iz.J1 p1 (e2.kind==3) B e2))
open iz in
instance Rr (B:Trace) (p1:Int) (e2:Event):Fc Sy cL (iz B p1 e2):=Fc.M 164 [enc B,.int .i64 p1,enc e2] (cm 2 3 B (cm 0 5 e2 (bD 17 9 (bW 7 4 [5,14] 18 (bD 7 14 (bA 4) (bA 4)) λz=>aZ) (bD 8 19 (yY 4 (bD 0 19 (bL 7 B.procs (bz 1 λq _=>bW 1 5 [1,29] 34 (bD 1 29 (bA 5) (bA 5)) λt=>bW 1 4 [5,35] 39 (bD 1 35 (bz 2 λu _=>bA 1) (bA 4)) λw=>aZ)) aZ)) (yY 7 (bD 0 19 (bL 7 B.procs (bz 1 λq _=>bW 1 5 [1,29] 34 (bD 1 29 (bA 5) (bA 5)) λt=>bW 1 4 [5,35] 39 (bD 1 35 (bz 2 λu _=>bA 1) (bA 4)) λw=>aZ)) aZ))))))
def ki (B D:Assign):Option Bool:=
 some (B.var==D.var)
instance HY (B D:Assign):Fc Sy cL (ki B D):=Fc.M 166 [enc B,.fptr (cells D)] (aZ)
namespace fq
def bf (s0:Sl Assign) (D:Int) (B:Int) (p1:Assign->Option Bool):Option (Fw Int Unit Int):=
 bg (decide (B<D))
 ((idx s0 B).bind λq=>
 (p1 q).bind λt=>
 bg t
 (some (.r B))
 (some (.n (IntKind.wrap .i64 (B+1)))))
 (some (.x ()))
def W1 (s0:Sl Assign) (B D:Int) (p1:Assign->Option Bool):Option Int:=
 (bG (λq:Int=>bf s0 B q p1) D).bind (Fw.elim
 (λe=>some (-1))
 (λe=>some e))
end fq
def fq (s0:Sl Assign) (p1:Assign->Option Bool):Option Int:=
 fq.W1 s0 (len s0) 0 p1
open fq in
abbrev u7 (g1:FuncId) (e1:List V) (p1:Assign->Option Bool) (h1:lg Sy cL g1 [] e1 (λz:Assign=>[enc z]) (λr:Bool=>[.bool r]) p1 true) (s0:Sl Assign):Fc Sy cL (fq s0 p1):=Fc.M 187 [enc s0,.clo g1 [] e1] (bL 9 s0 (cK 5 (λt=>(bC [Cv 0 s0,(1,.v (.clo g1 [] e1)),Iv 7 (len s0),Iv 8 t] [])) (λq=>(0,(bC [] []))) (λq=>(bC [Iv 4 q] [])) (λt=>bD 7 9 (bN 16 λu _=>sM 1 h1.f u λw _=>bD 2 16 aZ aZ) aZ) (λq=>aZ) (λq=>aZ))) (l:=by simp[h1.d])
def gI (s0:Sl Assign) (p1:Assign->Option Bool):Option Bool:=
 (fq s0 p1).bind λq=>
 some (decide (q>=0))
abbrev tf (g1:FuncId) (e1:List V) (p1:Assign->Option Bool) (h1:lg Sy cL g1 [] e1 (λz:Assign=>[enc z]) (λr:Bool=>[.bool r]) p1 true) (s0:Sl Assign):Fc Sy cL (gI s0 p1):=Fc.M 165 [enc s0,.clo g1 [] e1] (bz (F:=u7 g1 e1 p1 h1 s0) 9 λq _=>aZ) (l:=by simp[h1.d])
namespace dz
def bO (D:Sl Assign) (G:Int) (J:Event) (O:cn) (B:Int):Option (Fw Int Unit Int):=
 bg (decide (B<G))
 ((idx D B).bind λq=>
 (mM q.var 0 (IntKind.wrap .i64 ((len O.vars)-1))).bind λw=>
 (bg w
 ((mM q.value (-1073741824) 1073741824).bind λA=>
 some (!A))
 (some true):Option Bool).bind λC=>
 bg C
 (some (.r 2))
 ((fQ J.assign none (some B)).bind λt=>
 (gI t (λz=>ki z q)).bind λu=>
 bg u
 (some (.r 8))
 (some (.n (IntKind.wrap .i64 (B+1))))))
 (some (.x ()))
def W2 (B:Sl Assign) (D G:Int) (J:Event) (O:cn):Option Int:=
 (bG (λq:Int=>bO B D J O q) G).bind (Fw.elim
 (λe=>some 0)
 (λe=>some e))
def J1 (D:Int) (J:Trace) (G:aY) (B:Event) (O:cn):Option Int:=
 (iz J G.proc B).bind λq=>
 bg q
 ((mM B.time 0 1099511627776).bind λt=>
 (bg t
 (some (decide (B.time<D)))
 (some true):Option Bool).bind λu=>
 bg u
 (some 11)
 (bg (decide ((len B.assign)>8))
 (some 5)
 (dz.W2 B.assign (len B.assign) 0 B O)))
 (some 3)
theorem wG (D:Int) (O:Trace) (J:aY) (B:Event) (G:cn):Le ((J1 D O J B G).bind (λr=>some [.int .i64 r])) (ck Sy cL (qS (tr Tx 141)) (uI (tb Tx 141) [1,1,1,1,0] [] (bC [Pv 3,Pv 4,Pv 5,Pv 7,Iv 8 D] [Xb 3 O,Xb 4 J,Xb 5 B,Xb 7 G]))):=
 bz 8 λC _=>cI 4 28 (bz 5 λH _=>bW 2 5 [8,40] 45 (cI 2 40 (bA 5) (bA 5)) λI=>bD 3 35 aZ (bL 5 B.assign (bD 4 46 aZ (bL 9 B.assign (cK 5 (λt=>(bC [Pv 5,Pv 7,Cv 52 B.assign,Iv 53 (len B.assign),Iv 54 t] [Xb 5 B,Xb 7 G])) (λq=>(1,(bC [] []))) (λq=>(bC [Iv 6 q] [])) (λt=>bD 7 55 (bN 8 λu _=>bL 13 G.vars (bz 1 λL _=>bW 2 5 [68] 73 (cI 2 68 (bz 2 λQ _=>bA 2) (bA 5)) λS=>bD 3 59 aZ (zg 6 false true [.int .i64 t] λw _=>fc (F:=tf 166 [.fptr (cells u)] (λz=>ki z u) lg.uc w) 1 λA _=>bD 3 74 aZ aZ))) aZ) (λq=>aZ) (λq=>aZ)))))) aZ
end dz
def dz (D:Trace) (B:aY) (e2:Event):Option Int:=
 (idx D.procs B.proc).bind λq=>
 bg (decide (B.index>1))
 ((idx q.events (IntKind.wrap .i64 (B.index-2))).bind λt=>
 dz.J1 t.time D B e2 q)
 (dz.J1 0 D B e2 q)
open dz in
instance Ly (D:Trace) (B:aY) (e2:Event):Fc Sy cL (dz D B e2):=Fc.M 141 [enc D,enc B,enc e2] (cm 2 3 D (cm 1 5 e2 (bN 9 λq _=>gF 2 7 0 q (bD 15 19 (bN 7 λt _=>Dy 6 (wG t.time D B e2 q)) (Dy 4 (wG 0 D B e2 q))))))
def qg (B:Event) (D G:Int):Option Bool:=
 (bg (B.kind==2)
 (some (B.message==D))
 (some false):Option Bool).bind λq=>
 (bg q
 (some (B.peer==G))
 (some false):Option Bool).bind λt=>
 some t
instance Oo (B:Event) (D G:Int):Fc Sy cL (qg B D G):=Fc.M 188 [enc B,.fptr (cells D),.fptr (cells G)] (cm 2 3 B (bW 9 5 [1,8] 13 (bD 9 8 (bA 5) (bA 5)) λq=>bW 1 5 [2,3,14] 19 (bD 1 14 (bA 5) (bA 5)) λt=>aZ))
def tZ (D:Trace) (p1 G B:Int):Option Bool:=
 (idx D.procs p1).bind λq=>
 (gY q.events (λz=>qg z G B)).bind λt=>
 some t
instance RY (G:Trace) (p1 D B:Int):Fc Sy cL (tZ G p1 D B):=Fc.M 167 [enc G,.int .i64 p1,.int .i64 D,.int .i64 B] (cm 2 4 G (bN 10 λq _=>fc (F:=nN 188 [.fptr (cells D),.fptr (cells B)] (λz=>qg z D B) lg.uc q.events) 3 λt _=>aZ))
namespace eC
def sQ (D G:Trace) (J:Option (b7 200 bt)) (O:aY) (U:Int) (x:aY×Event) (B:b7 200 bt):Option (Fw (b7 200 bt) Empty (aY×Int×(b7 200 bt))):=
 bg (x.2.kind==2)
 ((b7.at B x.2.message).bind λq=>
 bg (decide (q.from_.index>0))
 (some (.r (x.1,8,B)))
 ((b7.at B x.2.message).bind λt=>
 some (.n (b7.set B x.2.message (⟨x.1,t.to_⟩:bt)))))
 (bg (x.2.kind==3)
 ((b7.at B x.2.message).bind λu=>
 bg (decide (u.to_.index>0))
 (some (.r (x.1,8,B)))
 ((tZ G x.2.peer x.2.message x.1.proc).bind λw=>
 bg w
 ((b7.at B x.2.message).bind λz=>
 some (.n (b7.set B x.2.message (⟨z.from_,x.1⟩:bt))))
 (some (.r (x.1,7,B)))))
 (some (.n B)))
def E1 (B G:Trace) (J:Option (b7 200 bt)) (O:aY) (U:Int) (D:b7 200 bt):Option ((Option (b7 200 bt))×aY×Int):=
 (jf B).bind λt=>(nY (λ(x:aY×Event) (q:b7 200 bt)=>sQ B G J O U x q) t D).bind (Fw.vZ
 (λq=>some (some q,⟨0,0⟩,0))
 (λe=>Empty.elim e)
 (λe=>some ((none:Option (b7 200 bt)),e.1,e.2.1)))
end eC
def eC (B:Trace):Option ((Option (b7 200 bt))×aY×Int):=
 (jV B).bind λq=>
 eC.E1 q B (none:Option (b7 200 bt)) (⟨0,0⟩:aY) 0 (b7.MF 200 (⟨⟨0,0⟩,⟨0,0⟩⟩:bt))
open eC in
instance Ju (B:Trace):Fc Sy cL (eC B):=Fc.N 142 [enc B] (cm 2 1 B (cm 8 10 (b7.MF 200 (⟨⟨0,0⟩,⟨0,0⟩⟩:bt)) (SY 0 5 (bC [Pv 1,Pv 2,Pv 3,Pv 4,Pv 10] [Xb 1 B,(2,.box [cv (none:Option (b7 200 bt))]),Xb 3 (⟨0,0⟩:aY),(4,.box [iv 0]),Xb 10 (b7.MF 200 (⟨⟨0,0⟩,⟨0,0⟩⟩:bt))]) [cv (none:Option (b7 200 bt))] (by simp only[bC,xq,qe,rj,pS,rV,sP,rM,s7,qc,rW,xm,sR,tg,tH,tJ,vl,vh,ru,tv];rfl) (bz 7 λw _=>Jy λH z=>EU 4 [Pv 1,Pv 2,Pv 3,Pv 4,Pv 5,(12,.v (.clo 163 [] [.fptr (cells w)]))] (λt=>[Xb 1 B,(2,.box [cv (none:Option (b7 200 bt))]),Xb 3 (⟨0,0⟩:aY),(4,.box [iv 0]),(5,.box [.ptr 10 0]),Xb 10 t]) (λu=>Empty.elim u) (λu=>[Xb 1 B,(2,.box [cv (none:Option (b7 200 bt))]),Xb 3 u.1,(4,.box [iv u.2.1]),(5,.box [.ptr 10 0]),Xb 10 u.2.2]) (ye w H z) (λq t=>SY 2 6 ⟨[Pv 1,Pv 2,Pv 3,Pv 4,Pv 5,(12,.v (.clo 163 [] [.fptr (cells w)])),Cv 13 q.1,Cv 14 q.2],[Xb 1 B,(2,.box [cv (none:Option (b7 200 bt))]),Xb 3 (⟨0,0⟩:aY),(4,.box [iv 0]),(5,.box [.ptr 10 0]),Xb 10 t],[1,2,3,4,5],[],true,0⟩ [iv 0,iv 0] (by simp only[bC,xq,qe,rj,pS,rV,sP,rM,s7,qc,rW,xm,sR,tg,tH,tJ,vl,vh,ru,tv];rfl) (SY 4 7 ⟨[Pv 1,Pv 2,Pv 3,Pv 4,Pv 5,(12,.v (.clo 163 [] [.fptr (cells w)])),Cv 14 q.2,Pv 6],[Xb 1 B,(2,.box [cv (none:Option (b7 200 bt))]),Xb 3 (⟨0,0⟩:aY),(4,.box [iv 0]),(5,.box [.ptr 10 0]),Xb 10 t,Xb 6 q.1],[1,2,3,4,5],[],true,0⟩ [iv 0,iv 0,iv 0,iv 0,.v .bH] (by simp only[bC,xq,qe,rj,pS,rV,sP,rM,s7,qc,rW,xm,sR,tg,tH,tJ,vl,vh,ru,tv];rfl) (gF 0 7 0 q.2 (BM 1 (bD 22 19 (Fa 7 .i64 10 λA I=>Pf 2 1 false 10 t q.2.message 1 A I (.int .i64 A.from_.index) (by rfl) (bD 3 28 aZ (Fa 8 .i64 10 λC J=>OU 1 10 t q.2.message 0 C J (⟨q.1,C.to_⟩:bt) q.1 rfl aZ))) (bD 7 36 (Fa 7 .i64 10 λD L=>Pf 2 1 false 10 t q.2.message 3 D L (.int .i64 D.to_.index) (by rfl) (bD 3 45 aZ (bz 12 λQ _=>cI 3 54 (Fa 8 .i64 10 λG O=>OU 1 10 t q.2.message 2 G O (⟨G.from_,q.1⟩:bt) q.1 rfl aZ) aZ))) aZ)))))) (λt=>Uv 13 (bC [Pv 2,Pv 3,Pv 4] [(2,.box [.ptr 10 0]),Xb 3 (⟨0,0⟩:aY),(4,.box [iv 0]),Xb 10 t]) [.ptr 10 0,cv (⟨0,0⟩:aY),iv 0] (Q4 (d:=10) (x:=t) (vs:=[enc (⟨0,0⟩:aY),.int .i64 0]) (by kernel_rfl)) (by kernel_rfl)) (λx=>Empty.elim x) (λu=>aZ)))))
namespace jg
def J1 (D:b7 200 bt) (B:Sl aY) (J:Sl Event) (G:aY):Option (Sl aY):=
 (idx J (IntKind.wrap .i64 (G.index-1))).bind λq=>
 (bg (q.kind==2)
 ((b7.at D q.message).bind λt=>
 some (decide (t.to_.index>0)))
 (some false):Option Bool).bind λu=>
 bg u
 ((b7.at D q.message).bind λw=>
 (gU B (w.to_:aY)).bind λz=>
 some z)
 (some B)
theorem wG (B:b7 200 bt) (D:Sl aY) (J:Sl Event) (G:aY):Le ((J1 B D J G).bind (λr=>some [enc r])) (ck Sy cL (qS (tr Tx 168)) (uI (tb Tx 168) [1,1,1,1,0,0] [] (bC [Kv 1 B,Pv 5,Ov 7,Cv 8 J] [Xb 5 G,Lb 2007 D]))):=
 bN 7 λq _=>gF 2 9 0 q (bW 8 10 [40] 50 (bD 8 40 (Po 4 .i64 λt u=>NG 0 2 B q.message 0 t u (NG 0 1 B q.message 2 t u (PI 0 1 false B q.message 3 t u (.int .i64 t.to_.index) (by rfl) (bA 2)))) (bA 10)) λA=>bD 2 50 (Po 7 .i64 λw z=>NG 0 2 B q.message 0 w z (PI 0 2 true B q.message 2 w z (enc w.to_) (by rfl) (pq 1 2007 59 60 λC _=>aZ))) aZ)
end jg
def jg (B:Trace) (l1:b7 200 bt) (x2:aY):Option (Sl aY):=
 (idx B.procs x2.proc).bind λq=>
 bg (decide (x2.index<(len q.events)))
 (jg.J1 l1 (Sl.row [⟨x2.proc,IntKind.wrap .i64 (x2.index+1)⟩]:Sl aY) q.events x2)
 (jg.J1 l1 (Sl.nil:Sl aY) q.events x2)
open jg in
instance RJ (B:Trace) (l1:b7 200 bt) (x2:aY):Fc Sy cL (jg B l1 x2):=Fc.N 168 [enc B,.fptr (cells l1),enc x2] (cm 2 3 B (bN 15 λq _=>bL 11 q.events (bD 3 21 (Pw 10 29 30 .bH (⟨x2.proc,IntKind.wrap .i64 (x2.index+1)⟩:aY) (Dy 5 (wG l1 (Sl.row [⟨x2.proc,IntKind.wrap .i64 (x2.index+1)⟩]:Sl aY) q.events x2))) (Dy 5 (wG l1 (Sl.nil:Sl aY) q.events x2)))))
namespace ir
def dh (O:Trace) (U:Sl aY) (W:Int) (Y:Trace) (aa:b7 200 bt) (ab:aY) (ad:Bool) (J:aY) (B:Sl aY) (G:Int) (D:Mo aY Bool):Option (Fw ((Sl aY)×Int×(Mo aY Bool)) ((Sl aY)×(Mo aY Bool)) Unit):=
 bg (decide (G<W))
 ((idx U G).bind λq=>
 bg (IL q J)
 (some (.r ()))
 (bg (Dc D q false)
 (some (.n (B,IntKind.wrap .i64 (G+1),D)))
 ((gU B (q:aY)).bind λt=>
 some (.n (t,IntKind.wrap .i64 (G+1),qW D q true)))))
 (some (.x (B,D)))
def W3 (D:Sl aY) (B:Trace) (O:Sl aY) (U W:Int) (Y:Trace) (aa:b7 200 bt) (ab:aY) (ad:Bool) (G:aY) (J:Mo aY Bool):Option (Fw ((Sl aY)×(Mo aY Bool)) Unit Unit):=
 (bG (λq:(Sl aY)×Int×(Mo aY Bool)=>dh B O U Y aa ab ad G q.1 q.2.1 q.2.2) (D,W,J)).bind (Fw.elim
 (λe=>some (.n (e.1,e.2)))
 (λe=>some (.r ())))
def bO (D G:Trace) (J:b7 200 bt) (W:aY) (Y:Bool) (O:aY) (B:Sl aY) (U:Mo aY Bool):Option (Fw ((Sl aY)×(Mo aY Bool)) Unit Unit):=
 bg (decide ((len B)>0))
 ((Sl.lQ B (IntKind.wrap .i64 ((len B)-1))).bind λt=>
 (Sl.get B t).bind λu=>
 (oh B none (some (IntKind.wrap .i64 ((len B)-1)))).bind λw=>
 (jg G J u).bind λq=>
 W3 w D q (len q) 0 G J W Y O U)
 (some (.x ()))
def W2 (G:Sl aY) (B O:Trace) (U:b7 200 bt) (W:aY) (Y:Bool) (D:aY) (J:Mo aY Bool):Option (Fw Unit Empty aY):=
 (bG (λq:(Sl aY)×(Mo aY Bool)=>bO B O U W Y D q.1 q.2) (G,J)).bind (Fw.elim
 (λe=>some (.n ()))
 (λe=>some (.r D)))
def sQ (B D:Trace) (G:b7 200 bt) (J:aY) (O:Bool) (x:aY×Event):Option (Fw Unit Empty aY):=
 W2 (Sl.row [x.1]:Sl aY) B D G J O x.1 []
def E1 (B D:Trace) (G:b7 200 bt) (J:aY) (O:Bool):Option (aY×Bool):=
 (jf B).bind λt=>(nY (λ(x:aY×Event) (q:Unit)=>sQ B D G J O x) t ()).bind (Fw.vZ
 (λq=>some (⟨0,0⟩,false))
 (λe=>Empty.elim e)
 (λe=>some (e,true)))
end ir
def ir (B:Trace) (l1:b7 200 bt):Option (aY×Bool):=
 (jV B).bind λq=>
 ir.E1 q B l1 (⟨0,0⟩:aY) false
open ir in
instance PM (B:Trace) (l1:b7 200 bt):Fc Sy cL (ir B l1):=Fc.M 143 [enc B,.fptr (cells l1)] (cm 2 2 B (bz 9 λt _=>Jy λL H=>EU 4 [Pv 2,Pv 3,Pv 4,Pv 5,(13,.v (.clo 163 [] [.fptr (cells t)]))] (λI=>[Xb 2 B,(3,.box [cp l1]),Xb 4 (⟨0,0⟩:aY),(5,.box [bv false])]) (λA=>Empty.elim A) (λA=>[Xb 2 B,(3,.box [cp l1]),Xb 4 A,(5,.box [bv true])]) (ye t L H) (λw I=>BM 4 (cK 18 (λq=>⟨[Pv 2,Pv 3,Pv 4,Pv 5,Pv 6,(7,.mp 16),Ov 8,(13,.v (.clo 163 [] [.fptr (cells t)]))],[Xb 2 B,(3,.box [cp l1]),Xb 4 (⟨0,0⟩:aY),(5,.box [bv false]),Xb 6 w.1,(16,vB q.2),Lb 2008 q.1],[2,3,4,5],[],true,0⟩) (λC=>(2,⟨[Pv 2,Pv 3,Pv 4,Pv 5,(13,.v (.clo 163 [] [.fptr (cells t)]))],[Xb 2 B,(3,.box [cp l1]),Xb 4 (⟨0,0⟩:aY),(5,.box [bv false])],[2,3,4,5],[],true,0⟩)) (λC=>⟨[],[Xb 2 B,(3,.box [cp l1]),Xb 4 w.1,(5,.box [bv true])],[2,3,4,5],[],true,0⟩) (λq=>Cb 6 2008 q.1 (bD 3 21 (Cb 8 2008 q.1 (mc .i64 1 2008 λO _=>uC 0 2008 0 2 true (λD=>.agg [.int .i64 D.proc,.int .i64 D.index]) λD _=>Cb 8 2008 q.1 (UY 1 false true 2008 32 [.int .i64 (IntKind.wrap .i64 ((len q.1)-1))] λQ _=>bz 8 λG _=>bL 0 G (cK 6 (λu=>⟨[Pv 2,Pv 3,Pv 4,Pv 5,Pv 6,(7,.mp 16),Ov 8,(13,.v (.clo 163 [] [.fptr (cells t)])),Cv 36 G,Iv 37 (len G),Iv 38 u.2.1],[Xb 2 B,(3,.box [cp l1]),Xb 4 (⟨0,0⟩:aY),(5,.box [bv false]),Xb 6 w.1,(16,vB u.2.2),Lb 2008 u.1],[2,3,4,5],[],true,0⟩) (λz=>(4,⟨[Pv 2,Pv 3,Pv 4,Pv 5,Pv 6,(7,.mp 16),Ov 8,(13,.v (.clo 163 [] [.fptr (cells t)]))],[Xb 2 B,(3,.box [cp l1]),Xb 4 (⟨0,0⟩:aY),(5,.box [bv false]),Xb 6 w.1,(16,vB z.2),Lb 2008 z.1],[2,3,4,5],[],true,0⟩)) (λz=>⟨[],[Xb 2 B,(3,.box [cp l1]),Xb 4 w.1,(5,.box [bv true])],[2,3,4,5],[],true,0⟩) (λu=>bD 8 39 (bN 7 λJ _=>bD 13 44 aZ (Uk 7 16 u.2.2 J false (cI 3 49 aZ (VU 5 16 u.2.2 J true (pq 6 2008 54 55 λS _=>aZ))))) aZ) (λz=>aZ) (λz=>aZ))))) aZ)) (λC=>aZ) (λC=>aZ))) (λI=>aZ) (λx=>Empty.elim x) (λA=>aZ)))
namespace gO
def II (B D:Trace) (G:aY) (J:Int) (x:aY×Event):Option (Fw Unit Empty (aY×Int)):=
 (dz D x.1 x.2).bind λq=>
 bg (q==0)
 (some (.n ()))
 (some (.r (x.1,q)))
def E2 (B D:Trace) (G:aY) (J:Int):Option (aY×Int):=
 (jf B).bind λw=>(nY (λ(x:aY×Event) (q:Unit)=>II B D G J x) w ()).bind (Fw.vZ
 (λq=>(eC D).bind λt=>
 bg (t.2.2==0)
 ((t.1).bind λz=>
 (ir D z).bind λu=>
 bg u.2
 (some (u.1,10))
 (some (⟨0,0⟩,0)))
 (some (t.2.1,t.2.2)))
 (λe=>Empty.elim e)
 (λe=>some (e.1,e.2)))
def bf (D:Int) (G:Trace) (J:aY) (O:Int) (B:Int):Option (Fw Int Unit (aY×Int)):=
 bg (decide (B<D))
 ((eG G B).bind λq=>
 bg (q==0)
 (some (.n (IntKind.wrap .i64 (B+1))))
 (some (.r ((⟨B,0⟩:aY),q))))
 (some (.x ()))
def W1 (J O:Int) (B:Trace) (D:aY) (G:Int):Option (aY×Int):=
 (bG (λq:Int=>bf J B D G q) O).bind (Fw.elim
 (λe=>(jV B).bind λt=>
 gO.E2 t B D G)
 (λe=>some (e.1,e.2)))
end gO
def gO (B:Trace):Option (aY×Int):=
 (mM (len B.procs) 1 8).bind λq=>
 bg q
 (gO.W1 (len B.procs) 0 B (⟨0,0⟩:aY) 0)
 (some (⟨0,0⟩,1))
open gO in
instance R_ (B:Trace):Fc Sy cL (gO B):=Fc.M 113 [enc B] (cm 2 1 B (bL 9 B.procs (bz 0 λH _=>cI 3 18 (bL 8 B.procs (cK 5 (λw=>(bC [Pv 1,Pv 2,Pv 3,Iv 22 (len B.procs),Iv 23 w] [Xb 1 B,Xb 2 (⟨0,0⟩:aY),(3,.box [iv 0])])) (λq=>(0,(bC [Pv 1,Pv 2,Pv 3] [Xb 1 B,Xb 2 (⟨0,0⟩:aY),(3,.box [iv 0])]))) (λq=>(bC [Pv 2,Pv 3] [Xb 2 q.1,(3,.box [iv q.2])])) (λw=>bD 7 24 (bz 15 λI _=>cI 9 30 aZ aZ) aZ) (λq=>bz 6 λu _=>Jy λD z=>EU 4 [Pv 1,Pv 2,Pv 3,(36,.v (.clo 163 [] [.fptr (cells u)]))] (λA=>[Xb 1 B,Xb 2 (⟨0,0⟩:aY),(3,.box [iv 0])]) (λt=>Empty.elim t) (λt=>[Xb 1 B,Xb 2 t.1,(3,.box [iv t.2])]) (ye u D z) (λG A=>gF 8 7 0 G.2 (BM 1 (bz 7 λJ _=>cI 9 44 aZ aZ))) (λA=>bz 5 λC _=>cI 17 54 (Vz 8 (λL=>(bC [Pv 2,Pv 3,(36,.v (.clo 163 [] [.fptr (cells u)])),Pv 10,Iv 11 C.2.2,Bv 54 false,Cv 58 B,Cv 59 L] [Xb 1 B,Xb 2 (⟨0,0⟩:aY),(3,.box [iv 0]),Xb 10 C.2.1])) λO _=>bz 0 λQ _=>bD 13 63 aZ aZ) aZ) (λx=>Empty.elim x) (λt=>aZ)) (λq=>aZ))) aZ)))
def dc (B:Trace):Option Bool:=
 (gO B).bind λq=>
 some (q.2==0)
instance R3 (B:Trace):Fc Sy cL (dc B):=Fc.M 77 [enc B] (cm 2 1 B (bz 6 λq _=>aZ))
def jX (B:Sl Int) (D:Trace):Option Bool:=
 some (!((len B)==(len D.procs)))
instance Qr (B:Sl Int) (D:Trace):Fc Sy cL (jX B D):=Fc.M 151 [enc B,.fptr (cells D)] (bL 8 B (bL 2 D.procs aZ))
def ua (B:Trace) (l1:Sl (Sl Int)):Option Bool:=
 (dc B).bind λq=>
 (bg q
 ((iE l1 (λz=>jX z B)).bind λt=>
 some (!t))
 (some false):Option Bool).bind λu=>
 some u
instance T3 (B:Trace) (l1:Sl (Sl Int)):Fc Sy cL (ua B l1):=Fc.M 126 [enc B,enc l1] (cm 2 2 B (bz 6 λq _=>bW 1 5 [1,2,7] 12 (bD 1 7 (fc (F:=oc 151 [.fptr (cells B)] (λz=>jX z B) lg.uc l1) 2 λt _=>bA 2) (bA 5)) λu=>aZ))
namespace je
def bf (G:Sl Int) (J:Int) (D:Trace) (B:Int):Option (Fw Int Unit Unit):=
 bg (decide (B<J))
 ((idx G B).bind λq=>
 (bg (decide (q<0))
 (some true)
 ((idx D.procs B).bind λt=>
 some (decide (q>(len t.events)))):Option Bool).bind λu=>
 bg u
 (some (.r ()))
 (some (.n (IntKind.wrap .i64 (B+1)))))
 (some (.x ()))
def W1 (D:Sl Int) (G J:Int) (B:Trace):Option Bool:=
 (bG (λq:Int=>bf D G B q) J).bind (Fw.elim
 (λe=>some true)
 (λe=>some false))
end je
def je (D:Trace) (B:Sl Int):Option Bool:=
 je.W1 B (len B) 0 D
open je in
instance RS (D:Trace) (B:Sl Int):Fc Sy cL (je D B):=Fc.M 127 [enc D,enc B] (cm 2 2 D (bL 7 B (cK 5 (λt=>(bC [Pv 2,Cv 7 B,Iv 8 (len B),Iv 9 t] [Xb 2 D])) (λq=>(0,(bC [] []))) (λq=>(bC [Bv 4 false] [])) (λt=>bD 7 10 (bN 8 λw _=>bW 10 10 [5,6,16] 26 (bD 10 16 (bA 10) (bN 4 λu _=>bL 2 u.events (bA 2))) λz=>bD 2 26 aZ aZ) aZ) (λq=>aZ) (λq=>aZ))))
def AO (B:Trace) (p1:Int):Option Bool:=
 (bg (decide (p1>=0))
 (some (decide (p1<(len B.procs))))
 (some false):Option Bool).bind λq=>
 some q
instance Sa (B:Trace) (p1:Int):Fc Sy cL (AO B p1):=Fc.M 128 [enc B,.int .i64 p1] (cm 2 2 B (bW 8 6 [1,2,7] 13 (bD 8 7 (bL 3 B.procs (bA 2)) (bA 6)) λq=>aZ))
namespace lz
def sQ (D:Trace) (B G:Int) (J:aY) (O:Bool) (x:aY×Event):Option (Fw Unit Empty aY):=
 (bg (x.2.kind==B)
 (some (x.2.message==G))
 (some false):Option Bool).bind λq=>
 bg q
 (some (.r x.1))
 (some (.n ()))
def E1 (B:Trace) (D G:Int) (J:aY) (O:Bool):Option (aY×Bool):=
 (jf B).bind λt=>(nY (λ(x:aY×Event) (q:Unit)=>sQ B D G J O x) t ()).bind (Fw.vZ
 (λq=>some (⟨0,0⟩,false))
 (λe=>Empty.elim e)
 (λe=>some (e,true)))
end lz
def lz (D:Trace) (B G:Int):Option (aY×Bool):=
 (dc D).bind λq=>
 bg q
 ((jV D).bind λt=>
 lz.E1 t B G (⟨0,0⟩:aY) false)
 (some (⟨0,0⟩,false))
open lz in
instance SI (G:Trace) (B D:Int):Fc Sy cL (lz G B D):=Fc.M 189 [enc G,.int .i64 B,.int .i64 D] (cm 2 3 G (bz 10 λC _=>cI 3 12 (bz 7 λt _=>Jy λz u=>EU 4 [Pv 4,Pv 5,Pv 6,Pv 7,(15,.v (.clo 163 [] [.fptr (cells t)]))] (λw=>[(4,.box [iv B]),(5,.box [iv D]),Xb 6 (⟨0,0⟩:aY),(7,.box [bv false])]) (λq=>Empty.elim q) (λq=>[(4,.box [iv B]),(5,.box [iv D]),Xb 6 q,(7,.box [bv true])]) (ye t z u) (λA w=>gF 8 9 0 A.2 (BM 1 (bW 9 5 [9,22] 27 (bD 9 22 (bA 5) (bA 5)) λH=>bD 2 27 aZ aZ))) (λw=>aZ) (λx=>Empty.elim x) (λq=>aZ)) aZ))
def sA (B:Trace) (m1:Int):Option (aY×Bool):=
 (lz B 2 m1).bind λq=>
 some (q.1,q.2)
instance Ru (B:Trace) (m1:Int):Fc Sy cL (sA B m1):=Fc.M 172 [enc B,.int .i64 m1] (cm 2 2 B (bz 8 λq _=>aZ))
namespace gp
def bO (W:Sl Int) (p7:Int) (Y:Sl Int) (aa ab:Int) (J:Sl Event) (O:Int) (U:Trace) (G D:aY) (B:Int):Option (Fw Int Unit (aY×aY)):=
 bg (decide (B<O))
 ((idx J B).bind λt=>
 bg (t.kind==3)
 ((sA U t.message).bind λq=>
 (idx W q.1.proc).bind λu=>
 bg (decide (q.1.index>u))
 (some (.r (q.1,(⟨p7,IntKind.wrap .i64 (B+1)⟩:aY))))
 (some (.n (IntKind.wrap .i64 (B+1)))))
 (some (.n (IntKind.wrap .i64 (B+1)))))
 (some (.x ()))
def W2 (c1:Sl Int) (p7:Int) (J:Sl Int) (O G:Int) (U:Sl Event) (W Y:Int) (aa:Trace) (D B:aY):Option (Fw Int Unit (aY×aY)):=
 (bG (λq:Int=>bO c1 p7 J O G U W aa D B q) Y).bind (Fw.elim
 (λe=>some (.n (IntKind.wrap .i64 (G+1))))
 (λe=>some (.r (e.1,e.2))))
def bf (W J:Sl Int) (O:Int) (U:Trace) (G B:aY) (D:Int):Option (Fw Int Unit (aY×aY)):=
 bg (decide (D<O))
 ((idx J D).bind λt=>
 (idx U.procs D).bind λu=>
 (fQ u.events none (some t)).bind λq=>
 W2 W D J O D q (len q) 0 U G B)
 (some (.x ()))
def W1 (W G:Sl Int) (J O:Int) (U:Trace) (D B:aY):Option (aY×aY×Bool):=
 (bG (λq:Int=>bf W G J U D B q) O).bind (Fw.elim
 (λe=>some (⟨0,0⟩,⟨0,0⟩,false))
 (λe=>some (e.1,e.2,true)))
end gp
def gp (D:Trace) (B:Sl Int):Option (aY×aY×Bool):=
 gp.W1 B B (len B) 0 D (⟨0,0⟩:aY) (⟨0,0⟩:aY)
open gp in
instance RK (D:Trace) (B:Sl Int):Fc Sy cL (gp D B):=Fc.M 152 [enc D,enc B] (cm 2 2 D (bL 9 B (cK 5 (λq=>(bC [Cv 1 B,Pv 2,Pv 4,Pv 5,Cv 13 B,Iv 14 (len B),Iv 15 q] [Xb 2 D,Xb 4 (⟨0,0⟩:aY),Xb 5 (⟨0,0⟩:aY)])) (λt=>(0,(bC [Pv 4,Pv 5] [Xb 4 (⟨0,0⟩:aY),Xb 5 (⟨0,0⟩:aY)]))) (λt=>(bC [Pv 4,Pv 5,Bv 6 true] [Xb 4 t.1,Xb 5 t.2])) (λq=>bD 7 16 (bN 8 λA _=>bN 10 λG _=>zg 3 false true [.int .i64 A] λw _=>bL 0 w (cK 5 (λz=>(bC [Cv 1 B,Pv 2,Pv 4,Pv 5,Iv 7 q,Cv 13 B,Iv 14 (len B),Iv 15 q,Cv 27 w,Iv 28 (len w),Iv 29 z] [Xb 2 D,Xb 4 (⟨0,0⟩:aY),Xb 5 (⟨0,0⟩:aY)])) (λu=>(2,(bC [Cv 1 B,Pv 2,Pv 4,Pv 5,Cv 13 B,Iv 14 (len B),Iv 15 q] [Xb 2 D,Xb 4 (⟨0,0⟩:aY),Xb 5 (⟨0,0⟩:aY)]))) (λu=>(bC [Pv 4,Pv 5,Bv 6 true] [Xb 4 u.1,Xb 5 u.2])) (λz=>bD 7 30 (bN 8 λC _=>gF 3 10 0 C (cI 10 36 (bz 8 λH _=>bN 15 λI _=>bD 4 51 aZ aZ) aZ)) aZ) (λu=>aZ) (λu=>aZ))) aZ) (λt=>aZ) (λt=>aZ))))
def yA (B:Trace) (D:Sl Int):Option Bool:=
 (gp B D).bind λq=>
 some (!q.2.2)
instance SX (B:Trace) (D:Sl Int):Fc Sy cL (yA B D):=Fc.M 129 [enc B,enc D] (cm 2 2 B (bz 7 λq _=>aZ))
namespace fD
def dh (D:Sl (Sl Int)) (G:Int) (J:Trace) (B:Int):Option (Fw Int Unit Unit):=
 bg (decide (B<G))
 ((idx D B).bind λq=>
 (yA J q).bind λt=>
 bg t
 (some (.n (IntKind.wrap .i64 (B+1))))
 (some (.r ())))
 (some (.x ()))
def W3 (B:Sl (Sl Int)) (D G:Int) (J:Trace):Option Int:=
 (bG (λq:Int=>dh B D J q) G).bind (Fw.elim
 (λe=>some 0)
 (λe=>some 18))
def bO (l1:Sl (Sl Int)) (D:Sl Int) (G:Int) (J:Trace) (B:Int):Option (Fw Int Unit Unit):=
 bg (decide (B<G))
 ((idx D B).bind λq=>
 (AO J q).bind λt=>
 bg t
 (some (.n (IntKind.wrap .i64 (B+1))))
 (some (.r ())))
 (some (.x ()))
def W2 (l1:Sl (Sl Int)) (D:Sl Int) (G J:Int) (B:Trace):Option Int:=
 (bG (λq:Int=>bO l1 D G B q) J).bind (Fw.elim
 (λe=>fD.W3 l1 (len l1) 0 B)
 (λe=>some 2))
def bf (l1:Sl (Sl Int)) (D:Sl Int) (G:Sl (Sl Int)) (J:Int) (O:Trace) (B:Int):Option (Fw Int Unit Unit):=
 bg (decide (B<J))
 ((idx G B).bind λq=>
 (je O q).bind λt=>
 bg t
 (some (.n (IntKind.wrap .i64 (B+1))))
 (some (.r ())))
 (some (.x ()))
def W1 (l1:Sl (Sl Int)) (B:Sl Int) (G:Sl (Sl Int)) (J O:Int) (D:Trace):Option Int:=
 (bG (λq:Int=>bf l1 B G J D q) O).bind (Fw.elim
 (λe=>fD.W2 l1 B (len B) 0 D)
 (λe=>some 2))
end fD
def fD (D:Trace) (l1:Sl (Sl Int)) (B:Sl Int):Option Int:=
 (ua D l1).bind λq=>
 bg q
 (fD.W1 l1 B l1 (len l1) 0 D)
 (some 1)
open fD in
instance TU (D:Trace) (l1:Sl (Sl Int)) (B:Sl Int):Fc Sy cL (fD D l1 B):=Fc.M 105 [enc D,enc l1,enc B] (cm 2 3 D (bz 8 λC _=>cI 3 16 (bL 7 l1 (cK 5 (λw=>(bC [Cv 1 l1,Cv 2 B,Pv 3,Cv 17 l1,Iv 18 (len l1),Iv 19 w] [Xb 3 D])) (λq=>(0,(bC [Cv 1 l1,Cv 2 B,Pv 3] [Xb 3 D]))) (λq=>(bC [Iv 6 2] [])) (λw=>bD 7 20 (bN 7 λG _=>bz 8 λH _=>cI 3 26 aZ aZ) aZ) (λq=>bL 6 B (cK 5 (λz=>(bC [Cv 1 l1,Pv 3,Cv 28 B,Iv 29 (len B),Iv 30 z] [Xb 3 D])) (λt=>(2,(bC [Cv 1 l1,Pv 3] [Xb 3 D]))) (λt=>(bC [Iv 6 2] [])) (λz=>bD 7 31 (bN 7 λI _=>bz 8 λJ _=>cI 3 37 aZ aZ) aZ) (λt=>bL 6 l1 (cK 5 (λA=>(bC [Pv 3,Cv 39 l1,Iv 40 (len l1),Iv 41 A] [Xb 3 D])) (λu=>(4,(bC [] []))) (λu=>(bC [Iv 6 18] [])) (λA=>bD 7 42 (bN 7 λL _=>bz 8 λO _=>cI 3 48 aZ aZ) aZ) (λu=>aZ) (λu=>aZ))) (λt=>aZ))) (λq=>aZ))) aZ))
def kj (B:Trace) (D:Sl Int):Option Bool:=
 (fD B (Sl.row [D]:Sl (Sl Int)) (Sl.nil:Sl Int)).bind λq=>
 some (q==0)
instance N0 (B:Trace) (D:Sl Int):Fc Sy cL (kj B D):=Fc.M 65 [enc B,enc D] (cm 2 2 B (uQ 7 7 ([D]:List (Sl Int)) (fc 0 λq _=>aZ)))
namespace iM
def bf (G J:Sl Int) (D:Int) (B:Int):Option (Fw Int Unit Unit):=
 bg (decide (B<D))
 ((idx G B).bind λq=>
 (idx J B).bind λt=>
 bg (decide (q>t))
 (some (.r ()))
 (some (.n (IntKind.wrap .i64 (B+1)))))
 (some (.x ()))
def W1 (G J:Sl Int) (B D:Int):Option Bool:=
 (bG (λq:Int=>bf G J B q) D).bind (Fw.elim
 (λe=>some true)
 (λe=>some false))
end iM
def iM (B D:Sl Int):Option Bool:=
 bg ((len B)==(len D))
 (iM.W1 B D (len B) 0)
 (some false)
open iM in
instance Vs (B D:Sl Int):Fc Sy cL (iM B D):=Fc.M 82 [enc B,enc D] (bL 9 B (bL 1 D (cI 3 10 (bL 7 B (cK 5 (λt=>(bC [Cv 0 B,Cv 1 D,Iv 12 (len B),Iv 13 t] [])) (λq=>(0,(bC [] []))) (λq=>(bC [Bv 4 false] [])) (λt=>bD 7 14 (bN 15 λu _=>bN 3 λw _=>bD 4 24 aZ aZ) aZ) (λq=>aZ) (λq=>aZ))) aZ)))
namespace iG
def bf (D:Sl (Sl (Sl Int))) (G:Int) (J:Trace) (B:Int):Option (Fw Int Unit Unit):=
 bg (decide (B<G))
 ((idx D B).bind λq=>
 (idx J.procs B).bind λt=>
 bg ((len q)==(len t.events))
 (some (.n (IntKind.wrap .i64 (B+1))))
 (some (.r ())))
 (some (.x ()))
def W1 (B:Sl (Sl (Sl Int))) (D G:Int) (J:Trace):Option Bool:=
 (bG (λq:Int=>bf B D J q) G).bind (Fw.elim
 (λe=>some true)
 (λe=>some false))
end iG
def iG (B:Trace) (s1:Slice):Option Bool:=
 (kj B s1.first).bind λq=>
 (bg q
 ((kj B s1.last).bind λt=>
 some (!t))
 (some true):Option Bool).bind λu=>
 (bg u
 (some true)
 ((iM s1.first s1.last).bind λw=>
 some (!w)):Option Bool).bind λz=>
 (bg z
 (some true)
 (some (!((len s1.j)==(len B.procs)))):Option Bool).bind λA=>
 bg A
 (some false)
 (iG.W1 s1.j (len s1.j) 0 B)
open iG in
instance Rt (B:Trace) (s1:Slice):Fc Sy cL (iG B s1):=Fc.M 99 [enc B,enc s1] (cm 2 2 B (cm 0 3 s1 (bz 9 λz _=>bW 2 6 [12] 18 (cI 2 12 (bz 3 λA _=>bA 2) (bA 6)) λC=>bW 1 7 [19] 26 (bD 1 19 (bA 7) (bz 4 λD _=>bA 2)) λG=>bW 1 8 [27] 35 (bD 1 27 (bA 8) (bL 2 s1.j (bL 2 B.procs (bA 2)))) λH=>bD 2 35 aZ (bL 8 s1.j (cK 5 (λt=>(bC [Pv 2,Cv 37 s1.j,Iv 38 (len s1.j),Iv 39 t] [Xb 2 B])) (λq=>(0,(bC [] []))) (λq=>(bC [Bv 4 false] [])) (λt=>bD 7 40 (bN 8 λu _=>bL 8 u (bN 3 λw _=>bL 2 w.events (cI 3 53 aZ aZ))) aZ) (λq=>aZ) (λq=>aZ))))))
namespace gP
def bf (G:Sl cn) (J:Int) (B:Sl Int) (D:Int):Option (Fw ((Sl Int)×Int) (Sl Int) Empty):=
 bg (decide (D<J))
 ((idx G D).bind λq=>
 (gU B (len q.events:Int)).bind λt=>
 some (.n (t,IntKind.wrap .i64 (D+1))))
 (some (.x B))
def W1 (B:Sl Int) (D:Sl cn) (G J:Int):Option (Sl Int):=
 (bG (λq:(Sl Int)×Int=>bf D G q.1 q.2) (B,J)).bind (Fw.elim
 (λe=>some e)
 (λe=>Empty.elim e))
end gP
def gP (B:Trace):Option (Sl Int):=
 gP.W1 (Sl.nil:Sl Int) B.procs (len B.procs) 0
open gP in
instance R6 (B:Trace):Fc Sy cL (gP B):=Fc.N 100 [enc B] (cm 2 1 B (bL 13 B.procs (eF 6 (λq=>(bC [Ov 3,Cv 7 B.procs,Iv 8 (len B.procs),Iv 9 q.2] [Lb 2003 q.1])) (λt=>(0,(bC [Ov 3] [Lb 2003 t]))) (λq=>bD 8 10 (bN 7 λu _=>gF 2 5 0 u (bL 6 u.events (pq 1 2003 17 18 λw _=>aZ))) aZ) (λt=>aZ))))
def mw (s0:Slice) (B:aY):Option (Sl Int):=
 (idx s0.j B.proc).bind λq=>
 (idx q (IntKind.wrap .i64 (B.index-1))).bind λt=>
 some t
instance OS (s0:Slice) (B:aY):Fc Sy cL (mw s0 B):=Fc.N 73 [enc s0,enc B] (cm 2 2 s0 (bN 10 λq _=>bN 4 λt _=>aZ))
def pQ (B:aY) (D:Sl Int):Option Bool:=
 (idx D B.proc).bind λq=>
 some (decide (B.index<=q))
instance Ue (B:aY) (D:Sl Int):Fc Sy cL (pQ B D):=Fc.M 125 [enc B,enc D] (bN 13 λq _=>aZ)
namespace dR
def bf (D G:Sl Int) (J:Int) (B:Int):Option (Fw Int Unit Unit):=
 bg (decide (B<J))
 ((idx D B).bind λq=>
 (idx G B).bind λt=>
 bg (q==t)
 (some (.n (IntKind.wrap .i64 (B+1))))
 (some (.r ())))
 (some (.x ()))
def W1 (B D:Sl Int) (G J:Int):Option Bool:=
 (bG (λq:Int=>bf B D G q) J).bind (Fw.elim
 (λe=>some true)
 (λe=>some false))
end dR
def dR (B D:Sl Int):Option Bool:=
 bg ((len B)==(len D))
 (dR.W1 B D (len B) 0)
 (some false)
open dR in
instance KV (B D:Sl Int):Fc Sy cL (dR B D):=Fc.M 38 [enc B,enc D] (bL 9 B (bL 1 D (cI 3 10 (bL 7 B (cK 5 (λt=>(bC [Cv 0 B,Cv 1 D,Iv 12 (len B),Iv 13 t] [])) (λq=>(0,(bC [] []))) (λq=>(bC [Bv 4 false] [])) (λt=>bD 7 14 (bN 15 λu _=>bN 3 λw _=>cI 4 24 aZ aZ) aZ) (λq=>aZ) (λq=>aZ))) aZ)))
def tW (J:Trace) (s1:Slice) (x2:aY):Option Bool:=
 (mw s1 x2).bind λq=>
 (pQ x2 s1.last).bind λw=>
 bg w
 ((pQ x2 s1.first).bind λz=>
 bg z
 ((dR q s1.first).bind λA=>
 some A)
 ((kj J q).bind λB=>
 (bg B
 ((pQ x2 q).bind λC=>
 some C)
 (some false):Option Bool).bind λD=>
 (bg D
 ((iM s1.first q).bind λG=>
 some G)
 (some false):Option Bool).bind λH=>
 (bg H
 ((iM q s1.last).bind λt=>
 some t)
 (some false):Option Bool).bind λu=>
 some u))
 (some ((len q)==0))
instance R4 (B:Trace) (s1:Slice) (x2:aY):Fc Sy cL (tW B s1 x2):=Fc.M 102 [enc B,enc s1,enc x2] (cm 2 3 B (cm 0 4 s1 (bz 8 λq _=>bz 10 λw _=>cI 4 11 (bz 6 λz _=>bD 3 20 (bz 6 λA _=>aZ) (bz 8 λC _=>bW 1 4 [5,32] 36 (bD 1 32 (bz 2 λD _=>bA 1) (bA 4)) λG=>bW 1 5 [37] 42 (bD 1 37 (bz 3 λH _=>bA 1) (bA 5)) λI=>bW 1 5 [4,7,43] 48 (bD 1 43 (bz 3 λt _=>bA 1) (bA 5)) λu=>aZ)) (bL 4 q aZ))))
def nG (B:aY) (D:Trace) (G:Slice):Option Bool:=
 (tW D G B).bind λq=>
 some q
instance Ot (B:aY) (D:Trace) (G:Slice):Fc Sy cL (nG B D G):=Fc.M 101 [enc B,.fptr (cells D),.fptr (cells G)] (bz 11 λq _=>aZ)
namespace eR
def bO (p5:Int) (J:Sl Int) (O G D:Int) (B:Int) (p1:aY->Option Bool):Option (Fw Int Unit Unit):=
 bg (decide (B<D))
 ((p1 (⟨p5,IntKind.wrap .i64 (B+1)⟩:aY)).bind λq=>
 bg q
 (some (.n (IntKind.wrap .i64 (B+1))))
 (some (.r ())))
 (some (.x ()))
def W2 (p5:Int) (J:Sl Int) (O B D G:Int) (p1:aY->Option Bool):Option (Fw Int Unit Unit):=
 (bG (λq:Int=>bO p5 J O B D q p1) G).bind (Fw.elim
 (λe=>some (.n (IntKind.wrap .i64 (B+1))))
 (λe=>some (.r ())))
def bf (D:Sl Int) (G:Int) (B:Int) (p1:aY->Option Bool):Option (Fw Int Unit Unit):=
 bg (decide (B<G))
 ((idx D B).bind λq=>
 W2 B D G B q 0 p1)
 (some (.x ()))
def W1 (D:Sl Int) (G B:Int) (p1:aY->Option Bool):Option Bool:=
 (bG (λq:Int=>bf D G q p1) B).bind (Fw.elim
 (λe=>some true)
 (λe=>some false))
end eR
def eR (B:Sl Int) (p1:aY->Option Bool):Option Bool:=
 eR.W1 B (len B) 0 p1
open eR in
abbrev vA (g1:FuncId) (e1:List V) (p1:aY->Option Bool) (h1:lg Sy cL g1 [] e1 (λz:aY=>[enc z]) (λr:Bool=>[.bool r]) p1 true) (B:Sl Int):Fc Sy cL (eR B p1):=Fc.M 71 [enc B,.clo g1 [] e1] (bL 9 B (cK 5 (λq=>(bC [(1,.v (.clo g1 [] e1)),Cv 8 B,Iv 9 (len B),Iv 10 q] [])) (λt=>(0,(bC [] []))) (λt=>(bC [Bv 4 false] [])) (λq=>bD 7 11 (bN 8 λA _=>cK 13 (λu=>(bC [(1,.v (.clo g1 [] e1)),Iv 5 q,Cv 8 B,Iv 9 (len B),Iv 10 q,Iv 15 A,Iv 16 u] [])) (λw=>(2,(bC [(1,.v (.clo g1 [] e1)),Cv 8 B,Iv 9 (len B),Iv 10 q] []))) (λw=>(bC [Bv 4 false] [])) (λu=>bD 7 17 (sM 18 h1.f (⟨q,IntKind.wrap .i64 (u+1)⟩:aY) λC _=>cI 3 25 aZ aZ) aZ) (λw=>aZ) (λw=>aZ)) aZ) (λt=>aZ) (λt=>aZ))) (l:=by simp[h1.d])
def nh (B:aY) (D:Slice) (G:Sl Int):Option Bool:=
 (mw D B).bind λq=>
 (iM q G).bind λt=>
 some t
instance KO (B:aY) (D:Slice) (G:Sl Int):Fc Sy cL (nh B D G):=Fc.M 104 [enc B,.fptr (cells D),.fptr (cells G)] (bz 10 λq _=>fc 1 λt _=>aZ)
def qf (D:aY) (B:Slice):Option Bool:=
 (mw B D).bind λq=>
 (eR q (λz=>nh z B q)).bind λt=>
 some t
instance Oz (D:aY) (B:Slice):Fc Sy cL (qf D B):=Fc.M 103 [enc D,.fptr (cells B)] (bz 10 λq _=>gF 1 4 0 q (fc (F:=vA 104 [.fptr (cells B),.fptr (cells q)] (λz=>nh z B q) lg.uc q) 6 λt _=>aZ))
def oI (B:Trace) (s1:Slice):Option Bool:=
 (dc B).bind λq=>
 bg q
 (bg s1.empty
 ((bg ((len s1.first)==0)
 (some ((len s1.last)==0))
 (some false):Option Bool).bind λt=>
 (bg t
 (some ((len s1.j)==0))
 (some false):Option Bool).bind λu=>
 some u)
 ((iG B s1).bind λw=>
 (bg w
 ((gP B).bind λA=>
 (eR A (λz=>nG z B s1)).bind λC=>
 some (!C))
 (some true):Option Bool).bind λD=>
 bg D
 (some false)
 ((eR s1.last (λz=>qf z s1)).bind λG=>
 some G)))
 (some false)
instance RM (B:Trace) (s1:Slice):Fc Sy cL (oI B s1):=Fc.M 64 [enc B,enc s1] (cm 2 2 B (cm 0 3 s1 (bz 7 λt _=>cI 3 7 (bD 10 9 (bL 5 s1.first (bW 2 5 [14] 19 (bD 2 14 (bL 2 s1.last (bA 2)) (bA 5)) λu=>bW 1 5 [3,20] 25 (bD 1 20 (bL 2 s1.j (bA 2)) (bA 5)) λw=>aZ)) (bz 8 λA _=>bW 2 6 [2,30] 36 (cI 2 30 (bz 1 λq _=>fc (F:=vA 101 [.fptr (cells B),.fptr (cells s1)] (λz=>nG z B s1) lg.uc q) 1 λC _=>bA 2) (bA 6)) λD=>bD 2 36 aZ (fc (F:=vA 103 [.fptr (cells s1)] (λz=>qf z s1) lg.uc s1.last) 8 λG _=>aZ))) aZ)))
def p9 (s0:Slice) (B:Trace):Option Bool:=
 (oI B s0).bind λq=>
 some (!q)
instance Na (s0:Slice) (B:Trace):Fc Sy cL (p9 s0 B):=Fc.M 79 [enc s0,.fptr (cells B)] (cm 2 2 s0 (bz 7 λq _=>aZ))
namespace fL
def bf (s0:Sl Slice) (D:Int) (B:Int) (p1:Slice->Option Bool):Option (Fw Int Unit Int):=
 bg (decide (B<D))
 ((idx s0 B).bind λq=>
 (p1 q).bind λt=>
 bg t
 (some (.r B))
 (some (.n (IntKind.wrap .i64 (B+1)))))
 (some (.x ()))
def W1 (s0:Sl Slice) (B D:Int) (p1:Slice->Option Bool):Option Int:=
 (bG (λq:Int=>bf s0 B q p1) D).bind (Fw.elim
 (λe=>some (-1))
 (λe=>some e))
end fL
def fL (s0:Sl Slice) (p1:Slice->Option Bool):Option Int:=
 fL.W1 s0 (len s0) 0 p1
open fL in
abbrev vo (g1:FuncId) (e1:List V) (p1:Slice->Option Bool) (h1:lg Sy cL g1 [] e1 (λz:Slice=>[enc z]) (λr:Bool=>[.bool r]) p1 true) (s0:Sl Slice):Fc Sy cL (fL s0 p1):=Fc.M 114 [enc s0,.clo g1 [] e1] (bL 9 s0 (cK 5 (λt=>(bC [Cv 0 s0,(1,.v (.clo g1 [] e1)),Iv 7 (len s0),Iv 8 t] [])) (λq=>(0,(bC [] []))) (λq=>(bC [Iv 4 q] [])) (λt=>bD 7 9 (bN 16 λu _=>sM 1 h1.f u λw _=>bD 2 16 aZ aZ) aZ) (λq=>aZ) (λq=>aZ))) (l:=by simp[h1.d])
def jG (s0:Sl Slice) (p1:Slice->Option Bool):Option Bool:=
 (fL s0 p1).bind λq=>
 some (decide (q>=0))
abbrev ue (g1:FuncId) (e1:List V) (p1:Slice->Option Bool) (h1:lg Sy cL g1 [] e1 (λz:Slice=>[enc z]) (λr:Bool=>[.bool r]) p1 true) (s0:Sl Slice):Fc Sy cL (jG s0 p1):=Fc.M 78 [enc s0,.clo g1 [] e1] (bz (F:=vo g1 e1 p1 h1 s0) 9 λq _=>aZ) (l:=by simp[h1.d])
def kz (B:Trace) (l1:Sl Slice):Option Bool:=
 (dc B).bind λq=>
 (bg q
 ((jG l1 (λz=>p9 z B)).bind λt=>
 some (!t))
 (some false):Option Bool).bind λu=>
 some u
instance RG (B:Trace) (l1:Sl Slice):Fc Sy cL (kz B l1):=Fc.M 44 [enc B,enc l1] (cm 2 2 B (bz 6 λq _=>bW 1 5 [1,2,7] 12 (bD 1 7 (fc (F:=ue 79 [.fptr (cells B)] (λz=>p9 z B) lg.uc l1) 2 λt _=>bA 2) (bA 5)) λu=>aZ))
def gD (s0:Sl Int):Option (Sl Int):=
 (Sl.isNil s0).bind λq=>
 bg q
 (some Sl.nil)
 ((kI (Sl.row []:Sl Int) s0).bind λt=>
 some t)
theorem ij:Gk Sy cL 85 (λs0:Sl Int=>[enc s0]) (λz=>gD z):=Gk.mk' (yN (Tx 85)) (λs0=>VL 9 λq _=>bD 2 4 aZ (vq 7 5 7 λt _=>aZ))
namespace jY
def bf (D:Trace) (B:Sl Int) (p2:Sl Int->(aY×aY)->Option (Sl Int)):Option (Fw (Sl Int) Empty (Sl Int)):=
 (gp D B).bind λq=>
 bg q.2.2
 ((p2 B (q.1,q.2.1)).bind λt=>
 some (.n t))
 (some (.r B))
def W1 (B:Sl Int) (D:Trace) (p2:Sl Int->(aY×aY)->Option (Sl Int)):Option ((Sl Int)×Int):=
 (bG (λq:Sl Int=>bf D q p2) B).bind (Fw.elim
 (λe=>Empty.elim e)
 (λe=>some (e,0)))
end jY
def jY (D:Trace) (B:Sl Int) (p2:Sl Int->(aY×aY)->Option (Sl Int)):Option ((Sl Int)×Int):=
 (ua D (Sl.row [B]:Sl (Sl Int))).bind λq=>
 bg q
 ((je D B).bind λt=>
 bg t
 (((gD B).bind Sl.whole).bind λu=>
 jY.W1 u D p2)
 (some ((Sl.nil:Sl Int),2)))
 (some ((Sl.nil:Sl Int),1))
open jY in
abbrev Dm (g2:FuncId) (e2:List V) (p2:Sl Int->(aY×aY)->Option (Sl Int)) (G:MM Sy g2 e2 (λz:aY×aY=>[enc z.1,enc z.2]) p2) (D:Trace) (B:Sl Int):Fc Sy cL (jY D B p2):=Fc.N 144 [enc D,enc B,.clo g2 [] e2] (cm 2 3 D (uQ 10 15 ([B]:List (Sl Int)) (fc 0 λw _=>cI 4 12 (bz 5 λA _=>cI 4 18 (Dz 7 24 ij B λC _=>TM 6 (λq=>(bC [(2,.v (.clo g2 [] e2)),Pv 3,Ov 8] [Xb 3 D,Lb 2008 q])) (λt=>(bC [Ov 6,Iv 7 0] [Lb 2006 t])) (λq=>fc 7 λu _=>cI 18 33 (TS 8 2008 G (u.1,u.2.1) λH _=>aZ) aZ) (λt=>aZ)) aZ) aZ))) (l:=by simp[G.d])
def v7 (D:Trace) (B:Sl Int):Option ((Sl Int)×Int):=
 (jY D B (λs (z:aY×aY)=>s.setAt z.1.proc z.1.index)).bind λq=>
 some (q.1,q.2)
instance TZ (D:Trace) (B:Sl Int):Fc Sy cL (v7 D B):=Fc.N 115 [enc D,enc B] (cm 2 2 D (bz (F:=Dm 145 [] (λs (z:aY×aY)=>s.setAt z.1.proc z.1.index) (MM.wV (op:=false) QX (by kernel_rfl) (by kernel_rfl)) D B) 8 λq _=>aZ))
def nX (B:Trace) (D:Sl Int):Option (Sl Int):=
 (v7 B D).bind λq=>
 some q.1
instance S_ (B:Trace) (D:Sl Int):Fc Sy cL (nX B D):=Fc.N 83 [enc B,enc D] (cm 2 2 B (bz 7 λq _=>aZ))
def mO (B:Sl Int) (D:Slice) (G:Trace):Option ((Sl Int)×Bool):=
 (bg D.empty
 (some true)
 ((nX G B).bind λq=>
 (iM q D.last).bind λt=>
 some (!t)):Option Bool).bind λu=>
 bg u
 (some (Sl.nil,false))
 ((nX G B).bind λw=>
 some (w,true))
instance RL (B:Sl Int) (G:Slice) (D:Trace):Fc Sy cL (mO B G D):=Fc.N 81 [enc B,.fptr (cells G),.fptr (cells D)] (u_ 12 8 [14,11] (λq=>(bC [Cv 0 B,Kv 2 D,Bv 16 q] [])) (bD 12 8 (bA 8) (bz 2 λt _=>fc 2 λu _=>bA 2)) λq=>bD 2 16 aZ (bz 7 λw _=>aZ))
def sE (D:Sl Int) (p1 B:Int):Option (Sl Int):=
 ((gD D).bind Sl.whole).bind λq=>
 (Sl.lQ q p1).bind λu=>
 (Sl.get q u).bind λt=>
 (Sl.lQ q p1).bind λw=>
 (Sl.put q w ((if B>t then B else t):Int)).bind λz=>
 some z
instance S0 (D:Sl Int) (p1 B:Int):Fc Sy cL (sE D p1 B):=Fc.N 86 [enc D,.int .i64 p1,.int .i64 B] (Dz 8 9 ij D λt _=>mc .i64 9 9 λu _=>uC 0 9 0 1 false (λq=>.int .i64 q) λq _=>mc .i64 2 9 λw _=>vE 0 9 (.int .i64 (if B>q then B else q)) λz _=>aZ)
namespace fV
def bf (G:Sl Int) (J:Int) (B:Sl Int) (D:Int):Option (Fw ((Sl Int)×Int) (Sl Int) Empty):=
 bg (decide (D<J))
 ((idx G D).bind λq=>
 (Sl.lQ B D).bind λu=>
 (Sl.get B u).bind λt=>
 (Sl.lQ B D).bind λw=>
 (Sl.put B w ((if q>t then q else t):Int)).bind λz=>
 some (.n (z,IntKind.wrap .i64 (D+1))))
 (some (.x B))
def W1 (B D:Sl Int) (G J:Int):Option (Sl Int):=
 (bG (λq:(Sl Int)×Int=>bf D G q.1 q.2) (B,J)).bind (Fw.elim
 (λe=>some e)
 (λe=>Empty.elim e))
end fV
def fV (D B:Sl Int):Option (Sl Int):=
 ((gD D).bind Sl.whole).bind λq=>
 fV.W1 q B (len B) 0
open fV in
instance Sx (D B:Sl Int):Fc Sy cL (fV D B):=Fc.N 88 [enc D,enc B] (Dz 8 9 ij D λz _=>bL 7 B (eF 6 (λt=>(bC [Ov 5,Cv 10 B,Iv 11 (len B),Iv 12 t.2] [Lb 2005 t.1])) (λu=>(0,(bC [Ov 5] [Lb 2005 u]))) (λt=>bD 8 13 (bN 8 λw _=>mc .i64 10 2005 λA _=>uC 0 2005 0 1 false (λq=>.int .i64 q) λq _=>mc .i64 2 2005 λC _=>vE 0 2005 (.int .i64 (if w>q then w else q)) λG _=>aZ) aZ) (λu=>aZ)))
namespace dP
def J3 (D:Sl Int) (p8:Int) (G:Sl (Sl Int)) (J:Sl Int) (W:Sl cn) (Y aa ab O:Int) (U B:Slice) (p1:(Sl Int)->Option ((Sl Int)×Bool)):Option (Fw ((Sl (Sl Int))×Int×Slice×Slice) ((Sl (Sl Int))×Int×Slice×Slice) Empty):=
 (gU G (J:Sl Int)).bind λq=>
 some (.n (q,IntKind.wrap .i64 (O+1),(⟨U.empty,Sl.nil,Sl.nil,Sl.nil⟩:Slice),B))
def bO (D:Sl Int) (p8:Int) (Y:Sl cn) (aa J O:Int) (U:Sl (Sl Int)) (G:Int) (W B:Slice) (p1:(Sl Int)->Option ((Sl Int)×Bool)):Option (Fw ((Sl (Sl Int))×Int×Slice×Slice) ((Sl (Sl Int))×Int×Slice×Slice) Empty):=
 bg (decide (G<O))
 ((sE D p8 (IntKind.wrap .i64 (G+1))).bind λt=>
 (p1 t).bind λq=>
 bg q.2
 ((fV B.last q.1).bind λu=>
 J3 D p8 U q.1 Y aa J O G (⟨W.empty,Sl.nil,Sl.nil,Sl.nil⟩:Slice) (⟨B.empty,B.first,u,B.j⟩:Slice) p1)
 (J3 D p8 U q.1 Y aa J O G (⟨W.empty,Sl.nil,Sl.nil,Sl.nil⟩:Slice) B p1))
 (some (.x (U,J,(⟨W.empty,Sl.nil,Sl.nil,Sl.nil⟩:Slice),B)))
def W2 (B:Sl Int) (p8:Int) (G:Sl (Sl Int)) (J:Sl cn) (O U W Y:Int) (aa D:Slice) (p1:(Sl Int)->Option ((Sl Int)×Bool)):Option (Fw (Int×Slice×Slice) (Slice×Slice) Empty):=
 (bG (λq:(Sl (Sl Int))×Int×Slice×Slice=>bO B p8 J O U W q.1 q.2.1 q.2.2.1 q.2.2.2 p1) (G,Y,aa,D)).bind (Fw.elim
 (λe=>(gU e.2.2.2.j (e.1:Sl (Sl Int))).bind λt=>
 some (.n (IntKind.wrap .i64 (e.2.1+1),(⟨e.2.2.1.empty,Sl.nil,Sl.nil,Sl.nil⟩:Slice),(⟨e.2.2.2.empty,e.2.2.2.first,e.2.2.2.last,t⟩:Slice))))
 (λe=>Empty.elim e))
def bf (D:Sl Int) (J:Sl cn) (O:Int) (G:Int) (U B:Slice) (p1:(Sl Int)->Option ((Sl Int)×Bool)):Option (Fw (Int×Slice×Slice) (Slice×Slice) Empty):=
 bg (decide (G<O))
 ((idx J G).bind λq=>
 W2 D G (Sl.nil:Sl (Sl Int)) J O G (len q.events) 0 (⟨U.empty,Sl.nil,Sl.nil,Sl.nil⟩:Slice) B p1)
 (some (.x ((⟨U.empty,Sl.nil,Sl.nil,Sl.nil⟩:Slice),B)))
def W1 (B:Sl Int) (G:Sl cn) (J O:Int) (U D:Slice) (p1:(Sl Int)->Option ((Sl Int)×Bool)):Option Slice:=
 (bG (λq:Int×Slice×Slice=>bf B G J q.1 q.2.1 q.2.2 p1) (O,U,D)).bind (Fw.elim
 (λe=>some e.2)
 (λe=>Empty.elim e))
end dP
def dP (B:Trace) (p1:(Sl Int)->Option ((Sl Int)×Bool)):Option Slice:=
 (kf (len B.procs) (0:Int)).bind λt=>
 (p1 t).bind λq=>
 bg q.2
 (((gD q.1).bind Sl.whole).bind λu=>
 dP.W1 q.1 B.procs (len B.procs) 0 (⟨false,Sl.nil,Sl.nil,Sl.nil⟩:Slice) (⟨false,q.1,u,Sl.nil⟩:Slice) p1)
 (some ⟨true,Sl.nil,Sl.nil,Sl.nil⟩)
open dP in
abbrev uK (g1:FuncId) (e1:List V) (p1:(Sl Int)->Option ((Sl Int)×Bool)) (h1:lg Sy cL g1 [] e1 (λz:Sl Int=>[enc z]) (λr:(Sl Int)×Bool=>[enc r.1,.bool r.2]) p1 false) (B:Trace):Fc Sy cL (dP B p1):=Fc.N 80 [enc B,.clo g1 [] e1] (cm 2 2 B (bL 8 B.procs (IP 0 19 λH _=>sM 1 h1.f H λw _=>cI 14 24 (Dz 7 28 ij w.1 λC _=>yJ 1 (⟨false,w.1,C,Sl.nil⟩:Slice) [enc w.1,enc C] [.bool false,.bH,.bH,.bH] [(1,1),(2,1)] (by simp only[lq,mF,fT,qx,oA,qt,qA];rfl) rfl (gF 1 7 0 (⟨false,w.1,C,Sl.nil⟩:Slice) (bL 7 B.procs (eF 6 (λq=>(bC [(1,.v (.clo g1 [] e1)),Pv 4,Cv 5 w.1,Pv 7,Cv 31 B.procs,Iv 32 (len B.procs),Iv 33 q.1] [Xb 4 (⟨q.2.1.empty,Sl.nil,Sl.nil,Sl.nil⟩:Slice),(7,.box [bv q.2.2.empty,cv q.2.2.first,cv q.2.2.last,.own 4143]),Lb 4143 q.2.2.j])) (λA=>(0,(bC [Pv 4,Pv 7] [Xb 4 (⟨A.1.empty,Sl.nil,Sl.nil,Sl.nil⟩:Slice),(7,.box [bv A.2.empty,cv A.2.first,cv A.2.last,.own 4143]),Lb 4143 A.2.j]))) (λq=>bD 8 34 (bN 8 λD _=>gF 3 9 0 D (bL 12 D.events (eF 7 (λu=>(bC [(1,.v (.clo g1 [] e1)),Pv 4,Cv 5 w.1,Pv 7,Iv 8 q.1,Ov 10,Cv 31 B.procs,Iv 32 (len B.procs),Iv 33 q.1,Iv 40 (len D.events),Iv 41 u.2.1] [Xb 4 (⟨u.2.2.1.empty,Sl.nil,Sl.nil,Sl.nil⟩:Slice),(7,.box [bv u.2.2.2.empty,cv u.2.2.2.first,cv u.2.2.2.last,.own 4143]),Lb 2010 u.1,Lb 4143 u.2.2.2.j])) (λt=>(2,(bC [(1,.v (.clo g1 [] e1)),Pv 4,Cv 5 w.1,Pv 7,Ov 10,Cv 31 B.procs,Iv 32 (len B.procs),Iv 33 t.2.1] [Xb 4 (⟨t.2.2.1.empty,Sl.nil,Sl.nil,Sl.nil⟩:Slice),(7,.box [bv t.2.2.2.empty,cv t.2.2.2.first,cv t.2.2.2.last,.own 4143]),Lb 2010 t.1,Lb 4143 t.2.2.2.j]))) (λu=>bD 9 42 (bz 18 λI _=>sM 0 h1.f I λG _=>bD 13 54 (bz 5 λJ _=>gF 1 7 2 J (yY 5 (uQ 3 62 ([G.1]:List (Sl Int)) (pq 0 2010 62 63 λL _=>aZ)))) (yY 6 (uQ 3 62 ([G.1]:List (Sl Int)) (pq 0 2010 62 63 λL _=>aZ)))) aZ) (λt=>uQ 7 68 ([t.1]:List (Sl (Sl Int))) (pq 0 4143 68 69 λO _=>aZ))))) aZ) (λA=>gF 6 4 0 A.2 aZ))))) (yJ 3 (⟨true,Sl.nil,Sl.nil,Sl.nil⟩:Slice) [.bool true] [.bool false,.bH,.bH,.bH] [(0,1)] (by simp only[lq,mF,fT,qx,oA,qt,qA];rfl) rfl (gF 0 4 0 (⟨true,Sl.nil,Sl.nil,Sl.nil⟩:Slice) aZ))))) (l:=by simp[h1.d])
def vG (B:Trace) (s1:Slice):Option Slice:=
 (dP B (λz=>mO z s1 B)).bind λq=>
 some q
instance Un (B:Trace) (s1:Slice):Fc Sy cL (vG B s1):=Fc.N 45 [enc B,enc s1] (cm 2 2 B (cm 0 3 s1 (bz (F:=uK 81 [.fptr (cells s1),.fptr (cells B)] (λz=>mO z s1 B) lg.uc B) 9 λq _=>gF 0 4 0 q aZ)))
def tc (B:Trace) (s1:Slice):Option (Slice×Int):=
 (kz B (Sl.row [s1]:Sl Slice)).bind λq=>
 bg q
 ((vG B s1).bind λt=>
 some (t,0))
 (some (⟨false,Sl.nil,Sl.nil,Sl.nil⟩,1))
instance UQ (B:Trace) (s1:Slice):Fc Sy cL (tc B s1):=Fc.N 10 [enc B,enc s1] (cm 2 2 B (cm 0 3 s1 (uQ 9 8 ([s1]:List Slice) (fc 0 λt _=>cI 3 10 (bz 7 λq _=>gF 0 4 0 q aZ) (yJ 3 (⟨false,Sl.nil,Sl.nil,Sl.nil⟩:Slice) [] [.bool false,.bH,.bH,.bH] [] (by simp only[lq,mF,fT,qx,oA,qt,qA];rfl) rfl (gF 0 4 0 (⟨false,Sl.nil,Sl.nil,Sl.nil⟩:Slice) aZ))))))
namespace gH
def bf (G:Sl cn) (J:Int) (B:Sl Int) (D:Int):Option (Fw ((Sl Int)×Int) (Sl Int) Empty):=
 bg (decide (D<J))
 ((idx G D).bind λq=>
 (gU B (len q.events:Int)).bind λt=>
 some (.n (t,IntKind.wrap .i64 (D+1))))
 (some (.x B))
def W1 (B:Sl Int) (D:Sl cn) (G J:Int):Option (Sl Int):=
 (bG (λq:(Sl Int)×Int=>bf D G q.1 q.2) (B,J)).bind (Fw.elim
 (λe=>some e)
 (λe=>Empty.elim e))
end gH
def gH (B:Trace):Option (Sl Int):=
 gH.W1 (Sl.nil:Sl Int) B.procs (len B.procs) 0
open gH in
instance Pu (B:Trace):Fc Sy cL (gH B):=Fc.N 116 [enc B] (cm 2 1 B (bL 13 B.procs (eF 6 (λq=>(bC [Ov 3,Cv 7 B.procs,Iv 8 (len B.procs),Iv 9 q.2] [Lb 2003 q.1])) (λt=>(0,(bC [Ov 3] [Lb 2003 t]))) (λq=>bD 8 10 (bN 7 λu _=>gF 2 5 0 u (bL 6 u.events (pq 1 2003 17 18 λw _=>aZ))) aZ) (λt=>aZ))))
def qE (B:Trace) (s1:Slice):Option Bool:=
 (bg s1.empty
 (some false)
 ((gH B).bind λq=>
 (dR s1.last q).bind λt=>
 some t):Option Bool).bind λu=>
 some u
instance RH (B:Trace) (s1:Slice):Fc Sy cL (qE B s1):=Fc.M 84 [enc B,enc s1] (cm 2 2 B (cm 0 3 s1 (u_ 9 6 [13,12] (λq=>(bC [Bv 14 q] [Xb 2 B,Xb 3 s1])) (cI 9 8 (bA 6) (bz 3 λt _=>fc 0 λu _=>bA 1)) λq=>aZ)))
def oE (B:Sl Int) (D:Trace) (G:Sl Int):Option ((Sl Int)×Bool):=
 (fV B G).bind λq=>
 (nX D q).bind λt=>
 some (t,true)
instance RP (B:Sl Int) (D:Trace) (G:Sl Int):Fc Sy cL (oE B D G):=Fc.N 87 [enc B,.fptr (cells D),.fptr (cells G)] (bz 11 λq _=>bz 0 λt _=>aZ)
namespace gT
def dh (p6:Int) (G:Sl Int) (W:Sl (Sl (Sl Int))) (Y aa:Int) (ab:Sl (Sl Int)) (ad ae:Int) (O:Sl Int) (U:Int) (af:Trace) (D:Int) (J:Slice) (B:Sl Int):Option (Fw (Int×Slice×(Sl Int)) (Slice×(Sl Int)) Empty):=
 bg (decide (D<U))
 ((idx O D).bind λt=>
 (idx G D).bind λA=>
 bg (decide (t>A))
 ((Sl.lQ B D).bind λu=>
 (Sl.get B u).bind λq=>
 (Sl.lQ B D).bind λw=>
 (Sl.put B w ((if t>q then t else q):Int)).bind λz=>
 some (.n (IntKind.wrap .i64 (D+1),(⟨J.empty,Sl.nil,Sl.nil,Sl.nil⟩:Slice),z)))
 (some (.n (IntKind.wrap .i64 (D+1),(⟨J.empty,Sl.nil,Sl.nil,Sl.nil⟩:Slice),B))))
 (some (.x ((⟨J.empty,Sl.nil,Sl.nil,Sl.nil⟩:Slice),B)))
def W3 (p6:Int) (D:Sl Int) (J:Sl (Sl (Sl Int))) (O U:Int) (W:Sl (Sl Int)) (Y G:Int) (aa:Sl Int) (ab ad:Int) (ae:Trace) (af:Slice) (B:Sl Int):Option (Fw (Int×Slice×(Sl Int)) (Slice×(Sl Int)) Empty):=
 (bG (λq:Int×Slice×(Sl Int)=>dh p6 D J O U W Y G aa ab ae q.1 q.2.1 q.2.2) (ad,af,B)).bind (Fw.elim
 (λe=>some (.n (IntKind.wrap .i64 (G+1),(⟨e.1.empty,Sl.nil,Sl.nil,Sl.nil⟩:Slice),e.2)))
 (λe=>Empty.elim e))
def bO (p6:Int) (W:Sl (Sl (Sl Int))) (Y aa:Int) (G:Sl (Sl Int)) (J:Int) (O:Trace) (D:Int) (U:Slice) (B:Sl Int):Option (Fw (Int×Slice×(Sl Int)) (Slice×(Sl Int)) Empty):=
 bg (decide (D<J))
 ((idx G D).bind λq=>
 (kf (len B) (0:Int)).bind λt=>
 (sE t p6 (IntKind.wrap .i64 (D+1))).bind λu=>
 (nX O u).bind λw=>
 W3 p6 w W Y aa G J D q (len q) 0 O (⟨U.empty,Sl.nil,Sl.nil,Sl.nil⟩:Slice) B)
 (some (.x ((⟨U.empty,Sl.nil,Sl.nil,Sl.nil⟩:Slice),B)))
def W2 (p6:Int) (G:Sl (Sl (Sl Int))) (J D:Int) (O:Sl (Sl Int)) (U W:Int) (Y:Trace) (aa:Slice) (B:Sl Int):Option (Fw (Int×Slice×(Sl Int)) (Slice×(Sl Int)) Empty):=
 (bG (λq:Int×Slice×(Sl Int)=>bO p6 G J D O U Y q.1 q.2.1 q.2.2) (W,aa,B)).bind (Fw.elim
 (λe=>some (.n (IntKind.wrap .i64 (D+1),(⟨e.1.empty,Sl.nil,Sl.nil,Sl.nil⟩:Slice),e.2)))
 (λe=>Empty.elim e))
def bf (G:Sl (Sl (Sl Int))) (J:Int) (U:Trace) (D:Int) (O:Slice) (B:Sl Int):Option (Fw (Int×Slice×(Sl Int)) (Slice×(Sl Int)) Empty):=
 bg (decide (D<J))
 ((idx G D).bind λq=>
 W2 D G J D q (len q) 0 U (⟨O.empty,Sl.nil,Sl.nil,Sl.nil⟩:Slice) B)
 (some (.x ((⟨O.empty,Sl.nil,Sl.nil,Sl.nil⟩:Slice),B)))
def W1 (G:Sl (Sl (Sl Int))) (J O:Int) (D:Trace) (U:Slice) (B:Sl Int):Option Slice:=
 (bG (λq:Int×Slice×(Sl Int)=>bf G J D q.1 q.2.1 q.2.2) (O,U,B)).bind (Fw.elim
 (λe=>(dP D (λz=>oE z D e.2)).bind λt=>
 some t)
 (λe=>Empty.elim e))
end gT
def gT (B:Trace) (s1:Slice):Option Slice:=
 (qE B s1).bind λq=>
 bg q
 (((gD s1.first).bind Sl.whole).bind λt=>
 gT.W1 s1.j (len s1.j) 0 B (⟨false,Sl.nil,Sl.nil,Sl.nil⟩:Slice) t)
 (some ⟨true,Sl.nil,Sl.nil,Sl.nil⟩)
open gT in
instance UB (B:Trace) (s1:Slice):Fc Sy cL (gT B s1):=Fc.N 46 [enc B,enc s1] (cm 2 2 B (cm 0 3 s1 (bz 8 λT _=>cI 3 16 (Dz 7 20 ij s1.first λU _=>bL 9 s1.j (eF 6 (λq=>(bC [Pv 2,Pv 4,Pv 5,Cv 22 s1.j,Iv 23 (len s1.j),Iv 24 q.1] [Xb 2 B,Xb 4 (⟨q.2.1.empty,Sl.nil,Sl.nil,Sl.nil⟩:Slice),(5,.box [.own 4100]),Lb 4100 q.2.2])) (λA=>(0,(bC [Pv 2,Pv 4,Pv 5] [Xb 2 B,Xb 4 (⟨A.1.empty,Sl.nil,Sl.nil,Sl.nil⟩:Slice),(5,.box [.own 4100]),Lb 4100 A.2]))) (λq=>bD 8 25 (bN 8 λt _=>bL 8 t (eF 6 (λu=>(bC [Pv 2,Pv 4,Pv 5,Iv 6 q.1,Cv 22 s1.j,Iv 23 (len s1.j),Iv 24 q.1,Cv 29 t,Iv 30 (len t),Iv 31 u.1] [Xb 2 B,Xb 4 (⟨u.2.1.empty,Sl.nil,Sl.nil,Sl.nil⟩:Slice),(5,.box [.own 4100]),Lb 4100 u.2.2])) (λD=>(2,(bC [Pv 2,Pv 4,Pv 5,Cv 22 s1.j,Iv 23 (len s1.j),Iv 24 q.1] [Xb 2 B,Xb 4 (⟨D.1.empty,Sl.nil,Sl.nil,Sl.nil⟩:Slice),(5,.box [.own 4100]),Lb 4100 D.2]))) (λu=>bD 8 32 (bN 8 λG _=>Cb 9 4100 u.2.2 (VV 0 λW _=>bz 3 λX _=>bz 0 λL _=>bL 6 G (eF 6 (λC=>(bC [Pv 2,Pv 4,Pv 5,Iv 6 q.1,Cv 10 L,Cv 22 s1.j,Iv 23 (len s1.j),Iv 24 q.1,Cv 29 t,Iv 30 (len t),Iv 31 u.1,Cv 45 G,Iv 46 (len G),Iv 47 C.1] [Xb 2 B,Xb 4 (⟨C.2.1.empty,Sl.nil,Sl.nil,Sl.nil⟩:Slice),(5,.box [.own 4100]),Lb 4100 C.2.2])) (λH=>(4,(bC [Pv 2,Pv 4,Pv 5,Iv 6 q.1,Cv 22 s1.j,Iv 23 (len s1.j),Iv 24 q.1,Cv 29 t,Iv 30 (len t),Iv 31 u.1] [Xb 2 B,Xb 4 (⟨H.1.empty,Sl.nil,Sl.nil,Sl.nil⟩:Slice),(5,.box [.own 4100]),Lb 4100 H.2]))) (λC=>bD 8 48 (bN 8 λI _=>bN 10 λY _=>bD 4 57 (mc .i64 6 4100 λO _=>uC 0 4100 0 1 false (λw=>.int .i64 w) λw _=>mc .i64 2 4100 λQ _=>vE 0 4100 (.int .i64 (if I>w then I else w)) λS _=>aZ) aZ) aZ) (λH=>aZ)))) aZ) (λD=>aZ))) aZ) (λA=>bz (F:=uK 87 [.fptr (cells B),.fptr (cells A.2)] (λz=>oE z B A.2) lg.uc B) 9 λJ _=>gF 0 4 0 J aZ))) (yJ 3 (⟨true,Sl.nil,Sl.nil,Sl.nil⟩:Slice) [.bool true] [.bool false,.bH,.bH,.bH] [(0,1)] (by simp only[lq,mF,fT,qx,oA,qt,qA];rfl) rfl (gF 0 4 0 (⟨true,Sl.nil,Sl.nil,Sl.nil⟩:Slice) aZ)))))
def tw (B:Trace) (s1:Slice):Option (Slice×Int):=
 (kz B (Sl.row [s1]:Sl Slice)).bind λq=>
 bg q
 ((gT B s1).bind λt=>
 some (t,0))
 (some (⟨false,Sl.nil,Sl.nil,Sl.nil⟩,1))
instance UC (B:Trace) (s1:Slice):Fc Sy cL (tw B s1):=Fc.N 11 [enc B,enc s1] (cm 2 2 B (cm 0 3 s1 (uQ 9 8 ([s1]:List Slice) (fc 0 λt _=>cI 3 10 (bz 7 λq _=>gF 0 4 0 q aZ) (yJ 3 (⟨false,Sl.nil,Sl.nil,Sl.nil⟩:Slice) [] [.bool false,.bH,.bH,.bH] [] (by simp only[lq,mF,fT,qx,oA,qt,qA];rfl) rfl (gF 0 4 0 (⟨false,Sl.nil,Sl.nil,Sl.nil⟩:Slice) aZ))))))
def jF (s:Sl (Sl (Sl Int))):Option (Sl (Sl Int)):=if s.l.length<=2147483648/\(s.l.flatMap Sl.l).length<=2147483648 then some (BA s)else none
instance J6 (s:Sl (Sl (Sl Int))):Fc Sy cL (jF s):=Fc.of (A:=λz:Sl (Sl (Sl Int))=>[enc z]) (E:=λr:Sl (Sl Int)=>[enc r]) (p:=jF) (n:=89) (z:=s) (nE.TH (by kernel_rfl) (by kernel_rfl) (λz r h=>by
 unfold jF at h;split at h
 .rename_i hc;cases h;exact zw (Re (E:=Sy.E) (N:=λn=>n) (gid:=117) (nm:=some) (λ_ _ h=>(Option.some.inj h).symm) rfl (by kernel_rfl) (by kernel_rfl) (Be (by kernel_rfl)) (Be (by kernel_rfl)) rfl z hc.1 hc.2)
 .cases h))
namespace dK
def pZ (l1 W:Sl Slice) (Y aa:Int) (ab:Sl Int) (ad ae:Int) (J:Sl (Sl Int)) (O:Int) (U:Slice) (G:Sl Int) (B:Bool) (D:Int):Option (Fw ((Sl Int)×Bool×Int) ((Sl Int)×Bool) Empty):=
 bg (decide (D<O))
 ((idx J D).bind λq=>
 (iM q G).bind λu=>
 bg u
 (some (.n (G,B,IntKind.wrap .i64 (D+1))))
 ((fV G q).bind λt=>
 some (.n (t,true,IntKind.wrap .i64 (D+1)))))
 (some (.x (G,B)))
def W5 (c0:Sl Int) (l1:Sl Slice) (B:Bool) (J:Sl Slice) (O U:Int) (W:Sl Int) (Y D:Int) (aa:Sl (Sl Int)) (ab ad:Int) (G:Slice):Option (Fw ((Sl Int)×Bool×Int) ((Sl Int)×Bool) Empty):=
 (bG (λq:(Sl Int)×Bool×Int=>pZ l1 J O U W Y D aa ab G q.1 q.2.1 q.2.2) (c0,B,ad)).bind (Fw.elim
 (λe=>some (.n (e.1,e.2,IntKind.wrap .i64 (D+1))))
 (λe=>Empty.elim e))
def kT (l1 U:Sl Slice) (W Y:Int) (J:Sl Int) (O:Int) (G:Slice) (c0:Sl Int) (B:Bool) (D:Int):Option (Fw ((Sl Int)×Bool×Int) ((Sl Int)×Bool) Empty):=
 bg (decide (D<O))
 ((idx J D).bind λt=>
 (idx G.j D).bind λu=>
 (fQ u none (some t)).bind λq=>
 W5 c0 l1 B U W Y J O D q (len q) 0 G)
 (some (.x (c0,B)))
def W4 (c0:Sl Int) (l1:Sl Slice) (B:Bool) (J:Sl Slice) (O D:Int) (U:Sl Int) (W Y:Int) (G:Slice):Option (Fw ((Sl Int)×Bool×Int) ((Sl Int)×Bool) Unit):=
 (bG (λq:(Sl Int)×Bool×Int=>kT l1 J O D U W G q.1 q.2.1 q.2.2) (c0,B,Y)).bind (Fw.elim
 (λe=>some (.n (e.1,e.2,IntKind.wrap .i64 (D+1))))
 (λe=>Empty.elim e))
def dh (l1 G:Sl Slice) (J:Int) (O:Sl Int) (B:Bool) (D:Int):Option (Fw ((Sl Int)×Bool×Int) ((Sl Int)×Bool) Unit):=
 bg (decide (D<J))
 ((idx G D).bind λq=>
 (iM O q.last).bind λt=>
 bg t
 (W4 O l1 B G J D O (len O) 0 q)
 (some (.r ())))
 (some (.x (O,B)))
def W3 (O:Sl Int) (l1:Sl Slice) (B:Bool) (D:Sl Slice) (G J:Int):Option (Fw ((Sl Int)×Bool) (Sl Int) Unit):=
 (bG (λq:(Sl Int)×Bool×Int=>dh l1 D G q.1 q.2.1 q.2.2) (O,B,J)).bind (Fw.elim
 (λe=>some (.n (e.1,e.2)))
 (λe=>some (.r ())))
def bO (l1:Sl Slice) (D:Sl Int) (B:Bool):Option (Fw ((Sl Int)×Bool) (Sl Int) Unit):=
 bg B
 (W3 D l1 false l1 (len l1) 0)
 (some (.x D))
def W2 (D:Sl Int) (l1:Sl Slice) (B:Bool):Option ((Sl Int)×Bool):=
 (bG (λq:(Sl Int)×Bool=>bO l1 q.1 q.2) (D,B)).bind (Fw.elim
 (λe=>some (e,true))
 (λe=>some (Sl.nil,false)))
def bf (l1 D:Sl Slice) (G:Int) (J:Sl Int) (B:Int):Option (Fw ((Sl Int)×Int) (Sl Int) Unit):=
 bg (decide (B<G))
 ((idx D B).bind λq=>
 bg q.empty
 (some (.r ()))
 ((fV J q.first).bind λt=>
 some (.n (t,IntKind.wrap .i64 (B+1)))))
 (some (.x J))
def W1 (J:Sl Int) (l1 B:Sl Slice) (D G:Int):Option ((Sl Int)×Bool):=
 (bG (λq:(Sl Int)×Int=>bf l1 B D q.1 q.2) (J,G)).bind (Fw.elim
 (λe=>dK.W2 e l1 true)
 (λe=>some (Sl.nil,false)))
end dK
def dK (B:Sl Int) (l1:Sl Slice):Option ((Sl Int)×Bool):=
 dK.W1 B l1 l1 (len l1) 0
open dK in
instance P9 (O:Sl Int) (l1:Sl Slice):Fc Sy cL (dK O l1):=Fc.N 91 [enc O,enc l1] (bL 10 l1 (cK 5 (λC=>(bC [Cv 0 C.1,Cv 1 l1,Cv 15 l1,Iv 16 (len l1),Iv 17 C.2] [])) (λw=>(0,(bC [Cv 0 w,Cv 1 l1] []))) (λw=>(bC [(4,.v .bH),Bv 5 false] [])) (λC=>bD 7 18 (bN 7 λJ _=>gF 2 7 0 J (bD 9 22 aZ (bz 7 λS _=>aZ))) aZ) (λw=>cK 10 (λD=>(bC [Cv 0 D.1,Cv 1 l1,Bv 8 D.2] [])) (λz=>(2,(bC [Cv 0 z] []))) (λz=>(bC [(4,.v .bH),Bv 5 false] [])) (λD=>bD 7 28 (bL 12 l1 (cK 5 (λq=>(bC [Cv 0 q.1,Cv 1 l1,Bv 8 q.2.1,Cv 29 l1,Iv 30 (len l1),Iv 31 q.2.2] [])) (λu=>(4,(bC [Cv 0 u.1,Cv 1 l1,Bv 8 u.2] []))) (λu=>(bC [(4,.v .bH),Bv 5 false] [])) (λq=>bD 7 32 (bN 7 λA _=>gF 2 10 0 A (bz 8 λT _=>cI 3 39 (bL 6 q.1 (eF 5 (λt=>(bC [Cv 0 t.1,Cv 1 l1,Bv 8 t.2.1,Pv 10,Cv 29 l1,Iv 30 (len l1),Iv 31 q.2.2,Cv 40 q.1,Iv 41 (len q.1),Iv 42 t.2.2] [Xb 10 A])) (λG=>(6,(bC [Cv 0 G.1,Cv 1 l1,Bv 8 G.2,Cv 29 l1,Iv 30 (len l1),Iv 31 q.2.2] []))) (λt=>bD 7 43 (bN 8 λL _=>bN 10 λU _=>zg 2 false true [.int .i64 L] λH _=>bL 0 H (eF 5 (λB=>(bC [Cv 0 B.1,Cv 1 l1,Bv 8 B.2.1,Pv 10,Cv 29 l1,Iv 30 (len l1),Iv 31 q.2.2,Cv 40 q.1,Iv 41 (len q.1),Iv 42 t.2.2,Cv 53 H,Iv 54 (len H),Iv 55 B.2.2] [Xb 10 A])) (λI=>(8,(bC [Cv 0 I.1,Cv 1 l1,Bv 8 I.2,Pv 10,Cv 29 l1,Iv 30 (len l1),Iv 31 q.2.2,Cv 40 q.1,Iv 41 (len q.1),Iv 42 t.2.2] [Xb 10 A]))) (λB=>bD 7 56 (bN 7 λW _=>bz 8 λX _=>cI 3 62 aZ (bz 5 λQ _=>aZ)) aZ) (λI=>aZ))) aZ) (λG=>aZ))) aZ)) aZ) (λu=>aZ) (λu=>aZ))) aZ) (λz=>aZ) (λz=>aZ)) (λw=>aZ)))
def lJ (B D:Sl Int) (G:Slice):Option ((Sl Int)×Bool):=
 (fV B D).bind λt=>
 (dK t (Sl.row [G]:Sl Slice)).bind λq=>
 some (q.1,q.2)
instance RN (D G:Sl Int) (B:Slice):Fc Sy cL (lJ D G B):=Fc.N 90 [enc D,.fptr (cells G),.fptr (cells B)] (bz 10 λq _=>uQ 1 10 ([B]:List Slice) (Tt 0 [10] λt _=>aZ))
namespace jm
def bO (Y:Sl (Sl Int)) (J:Sl Int) (aa:Sl (Sl Int)) (ab ad:Int) (O:Sl (Sl Int)) (U:Int) (ae:Trace) (W:Slice) (D:Int) (G:Slice) (B:Sl Int):Option (Fw (Int×Slice×(Sl Int)) (Slice×(Sl Int)) Empty):=
 bg (decide (D<U))
 ((idx O D).bind λt=>
 (iM J W.first).bind λu=>
 (bg u
 (some false)
 ((dR J t).bind λw=>
 some w):Option Bool).bind λz=>
 bg z
 ((fV B J).bind λq=>
 some (.n (IntKind.wrap .i64 (D+1),(⟨G.empty,Sl.nil,Sl.nil,Sl.nil⟩:Slice),q)))
 (some (.n (IntKind.wrap .i64 (D+1),(⟨G.empty,Sl.nil,Sl.nil,Sl.nil⟩:Slice),B))))
 (some (.x ((⟨G.empty,Sl.nil,Sl.nil,Sl.nil⟩:Slice),B)))
def W2 (D:Sl (Sl Int)) (a8:Sl Int) (J:Sl (Sl Int)) (O G:Int) (U:Sl (Sl Int)) (W Y:Int) (aa:Trace) (ab ad:Slice) (B:Sl Int):Option (Fw (Int×Slice×(Sl Int)) (Slice×(Sl Int)) Empty):=
 (bG (λq:Int×Slice×(Sl Int)=>bO D a8 J O G U W aa ab q.1 q.2.1 q.2.2) (Y,ad,B)).bind (Fw.elim
 (λe=>some (.n (IntKind.wrap .i64 (G+1),(⟨e.1.empty,Sl.nil,Sl.nil,Sl.nil⟩:Slice),e.2)))
 (λe=>Empty.elim e))
def bf (G J:Sl (Sl Int)) (O:Int) (W:Trace) (Y:Slice) (D:Int) (U:Slice) (B:Sl Int):Option (Fw (Int×Slice×(Sl Int)) (Slice×(Sl Int)) Empty):=
 bg (decide (D<O))
 ((idx J D).bind λt=>
 (fQ G none (some D)).bind λq=>
 W2 G t J O D q (len q) 0 W Y (⟨U.empty,Sl.nil,Sl.nil,Sl.nil⟩:Slice) B)
 (some (.x ((⟨U.empty,Sl.nil,Sl.nil,Sl.nil⟩:Slice),B)))
def W1 (D O:Sl (Sl Int)) (U W:Int) (G:Trace) (J Y:Slice) (B:Sl Int):Option Slice:=
 (bG (λq:Int×Slice×(Sl Int)=>bf D O U G J q.1 q.2.1 q.2.2) (W,Y,B)).bind (Fw.elim
 (λe=>(dP G (λz=>lJ z e.2 J)).bind λt=>
 some t)
 (λe=>Empty.elim e))
end jm
def jm (B:Trace) (s1:Slice):Option Slice:=
 (qE B s1).bind λt=>
 bg t
 (((gD s1.first).bind Sl.whole).bind λu=>
 (jF s1.j).bind λq=>
 jm.W1 q q (len q) 0 B s1 (⟨false,Sl.nil,Sl.nil,Sl.nil⟩:Slice) u)
 (some ⟨true,Sl.nil,Sl.nil,Sl.nil⟩)
open jm in
instance Ut (B:Trace) (s1:Slice):Fc Sy cL (jm B s1):=Fc.N 47 [enc B,enc s1] (cm 2 2 B (cm 0 3 s1 (bz 8 λI _=>cI 3 14 (Dz 7 18 ij s1.first λJ _=>bz 8 λq _=>bL 7 q (eF 6 (λt=>(bC [Pv 2,Pv 3,Pv 4,Pv 5,Cv 6 q,Cv 22 q,Iv 23 (len q),Iv 24 t.1] [Xb 2 B,Xb 3 s1,Xb 4 (⟨t.2.1.empty,Sl.nil,Sl.nil,Sl.nil⟩:Slice),(5,.box [cv t.2.2])])) (λu=>(0,(bC [Pv 2,Pv 3,Pv 4,Pv 5] [Xb 2 B,Xb 3 s1,Xb 4 (⟨u.1.empty,Sl.nil,Sl.nil,Sl.nil⟩:Slice),(5,.box [cv u.2])]))) (λt=>bD 8 25 (bN 8 λH _=>zg 9 false true [.int .i64 t.1] λA _=>bL 0 A (eF 6 (λw=>(bC [Pv 2,Pv 3,Pv 4,Pv 5,Cv 6 q,Cv 8 H,Cv 22 q,Iv 23 (len q),Iv 24 t.1,Cv 31 A,Iv 32 (len A),Iv 33 w.1] [Xb 2 B,Xb 3 s1,Xb 4 (⟨w.2.1.empty,Sl.nil,Sl.nil,Sl.nil⟩:Slice),(5,.box [cv w.2.2])])) (λC=>(2,(bC [Pv 2,Pv 3,Pv 4,Pv 5,Cv 6 q,Cv 22 q,Iv 23 (len q),Iv 24 t.1] [Xb 2 B,Xb 3 s1,Xb 4 (⟨C.1.empty,Sl.nil,Sl.nil,Sl.nil⟩:Slice),(5,.box [cv C.2])]))) (λw=>bD 8 34 (bN 7 λL _=>bz 9 λO _=>bW 2 4 [10,42] 46 (cI 2 42 (bA 4) (bz 2 λQ _=>bA 1)) λS=>bD 2 46 (bz 4 λD _=>gF 0 5 0 D aZ) aZ) aZ) (λC=>aZ))) aZ) (λu=>bz (F:=uK 90 [.fptr (cells u.2),.fptr (cells s1)] (λz=>lJ z u.2 s1) lg.uc B) 8 λG _=>gF 0 4 0 G aZ))) (yJ 3 (⟨true,Sl.nil,Sl.nil,Sl.nil⟩:Slice) [.bool true] [.bool false,.bH,.bH,.bH] [(0,1)] (by simp only[lq,mF,fT,qx,oA,qt,qA];rfl) rfl (gF 0 4 0 (⟨true,Sl.nil,Sl.nil,Sl.nil⟩:Slice) aZ)))))
def sV (B:Trace) (s1:Slice):Option (Slice×Int):=
 (kz B (Sl.row [s1]:Sl Slice)).bind λq=>
 bg q
 ((jm B s1).bind λt=>
 some (t,0))
 (some (⟨false,Sl.nil,Sl.nil,Sl.nil⟩,1))
instance U_ (B:Trace) (s1:Slice):Fc Sy cL (sV B s1):=Fc.N 12 [enc B,enc s1] (cm 2 2 B (cm 0 3 s1 (uQ 9 8 ([s1]:List Slice) (fc 0 λt _=>cI 3 10 (bz 7 λq _=>gF 0 4 0 q aZ) (yJ 3 (⟨false,Sl.nil,Sl.nil,Sl.nil⟩:Slice) [] [.bool false,.bH,.bH,.bH] [] (by simp only[lq,mF,fT,qx,oA,qt,qA];rfl) rfl (gF 0 4 0 (⟨false,Sl.nil,Sl.nil,Sl.nil⟩:Slice) aZ))))))
def ov (B:Int):Option Bool:=
 (bg (decide (B>=65))
 (some (decide (B<=90)))
 (some false):Option Bool).bind λq=>
 (bg q
 (some true)
 ((bg (decide (B>=97))
 (some (decide (B<=122)))
 (some false):Option Bool).bind λt=>
 some t):Option Bool).bind λu=>
 some u
instance OZ (B:Int):Fc Sy cL (ov B):=Fc.M 169 [.int .u8 B] (bW 10 3 [5] 8 (bD 10 5 (bA 3) (bA 3)) λq=>bW 1 7 [0,9] 16 (bD 1 9 (bA 7) (bW 3 3 [0,12] 15 (bD 3 12 (bA 3) (bA 3)) λt=>bA 1)) λu=>aZ)
def sG (B:Int):Option Bool:=
 (bg (decide (B>=48))
 (some (decide (B<=57)))
 (some false):Option Bool).bind λq=>
 some q
instance QG (B:Int):Fc Sy cL (sG B):=Fc.M 170 [.int .u8 B] (bW 10 3 [0,5] 8 (bD 10 5 (bA 3) (bA 3)) λq=>aZ)
namespace gM
def bf (s0:ByteArray) (i3:Int):Option (Fw Int Unit Unit):=
 bg (decide (i3<((ByteArray.size s0:Nat):Int)))
 ((kH s0 i3).bind λu=>
 (ov u).bind λw=>
 (bg w
 (some false)
 ((kH s0 i3).bind λz=>
 (sG z).bind λA=>
 some (!A)):Option Bool).bind λB=>
 (bg B
 ((kH s0 i3).bind λq=>
 some (!(q==95)))
 (some false):Option Bool).bind λt=>
 bg t
 (some (.r ()))
 (some (.n (IntKind.wrap .i64 (i3+1)))))
 (some (.x ()))
def W1 (s0:ByteArray) (i3:Int):Option Bool:=
 (bG (λq:Int=>bf s0 q) i3).bind (Fw.elim
 (λe=>some true)
 (λe=>some false))
end gM
def gM (s0:ByteArray):Option Bool:=
 (bg (decide (((ByteArray.size s0:Nat):Int)<1))
 (some true)
 (some (decide (((ByteArray.size s0:Nat):Int)>16))):Option Bool).bind λq=>
 (bg q
 (some true)
 ((kH s0 0).bind λt=>
 (ov t).bind λu=>
 some (!u)):Option Bool).bind λw=>
 bg w
 (some false)
 (gM.W1 s0 1)
open gM in
instance RA (s0:ByteArray):Fc Sy cL (gM s0):=Fc.M 146 [.str s0] (bW 12 4 [7] 11 (bD 12 7 (bA 4) (bA 4)) λz=>bW 1 5 [12] 17 (bD 1 12 (bA 5) (y_ 1 .i64 λA _=>bz 0 λB _=>bA 2)) λC=>bD 2 17 aZ (cK 11 (λt=>(bC [(0,.v (.str s0)),Iv 3 t] [])) (λq=>(0,(bC [] []))) (λq=>(bC [Bv 2 false] [])) (λt=>bD 10 21 (y_ 9 .i64 λD _=>bz 0 λG _=>bW 2 6 [29] 35 (cI 2 29 (bA 6) (y_ 2 .i64 λH _=>bz 0 λI _=>bA 2)) λJ=>bW 1 5 [36] 41 (bD 1 36 (y_ 2 .i64 λu _=>bA 2) (bA 5)) λw=>bD 2 41 aZ aZ) aZ) (λq=>aZ) (λq=>aZ)))
def pI (B:Int):Option Bool:=
 (bg (decide (B>=(-1073741824)))
 (some (decide (B<=1073741824)))
 (some false):Option Bool).bind λq=>
 some q
instance PR (B:Int):Fc Sy cL (pI B):=Fc.M 147 [.int .i64 B] (bW 10 3 [0,5] 8 (bD 10 5 (bA 3) (bA 3)) λq=>aZ)
namespace dX
def dh (G:Int) (B:cn) (D:Int):Option (Fw Int Unit Unit):=
 bg (decide (D<G))
 ((idx B.vars D).bind λq=>
 (idx B.vars G).bind λt=>
 bg (ByteArray.toList q.name==ByteArray.toList t.name)
 (some (.r ()))
 (some (.n (IntKind.wrap .i64 (D+1)))))
 (some (.x ()))
def W3 (D G:Int) (B:cn):Option (Fw Int Unit Int):=
 (bG (λq:Int=>dh D B q) G).bind (Fw.elim
 (λe=>(idx B.vars D).bind λt=>
 (pI t.init_).bind λu=>
 bg u
 (some (.n (IntKind.wrap .i64 (D+1))))
 (some (.r 2)))
 (λe=>some (.r 13)))
def bO (B:cn) (D:Int):Option (Fw Int Unit Int):=
 bg (decide (D<(len B.vars)))
 ((idx B.vars D).bind λq=>
 (gM q.name).bind λt=>
 bg t
 (W3 D 0 B)
 (some (.r 13)))
 (some (.x ()))
def W2 (D:Int) (B:cn):Option Int:=
 (bG (λq:Int=>bO B q) D).bind (Fw.elim
 (λe=>bg (decide ((len B.events)>64))
 (some 5)
 (some 0))
 (λe=>some e))
def bf (p1:Int) (B:Trace) (D:cn) (G:Int):Option (Fw Int Unit Unit):=
 bg (decide (G<p1))
 ((idx B.procs G).bind λq=>
 bg (ByteArray.toList q.name==ByteArray.toList D.name)
 (some (.r ()))
 (some (.n (IntKind.wrap .i64 (G+1)))))
 (some (.x ()))
def W1 (p1 G:Int) (D:Trace) (B:cn):Option Int:=
 (bG (λq:Int=>bf p1 D B q) G).bind (Fw.elim
 (λe=>bg (decide ((len B.vars)>8))
 (some 5)
 (dX.W2 0 B))
 (λe=>some 13))
end dX
def dX (B:Trace) (p1:Int):Option Int:=
 (idx B.procs p1).bind λq=>
 (gM q.name).bind λt=>
 bg t
 (dX.W1 p1 0 B q)
 (some 13)
open dX in
instance RU (D:Trace) (p1:Int):Fc Sy cL (dX D p1):=Fc.M 118 [enc D,.int .i64 p1] (cm 2 2 D (bN 8 λq _=>gF 2 5 0 q (bz 7 λC _=>cI 3 17 (cK 11 (λA=>(bC [Iv 1 p1,Pv 2,Pv 5,Iv 6 A] [Xb 2 D,Xb 5 q])) (λw=>(0,(bC [Pv 5] [Xb 5 q]))) (λw=>(bC [Iv 4 13] [])) (λA=>bD 9 20 (bN 10 λG _=>bD 7 31 aZ aZ) aZ) (λw=>bL 7 q.vars (bD 3 35 aZ (cK 11 (λt=>(bC [Pv 5,Iv 7 t] [Xb 5 q])) (λu=>(2,(bC [Pv 5] [Xb 5 q]))) (λu=>(bC [Iv 4 u] [])) (λt=>bL 7 q.vars (bD 3 40 (bN 11 λH _=>bz 2 λI _=>cI 3 50 (cK 11 (λB=>(bC [Pv 5,Iv 7 t,Iv 8 B] [Xb 5 q])) (λz=>(4,(bC [Pv 5,Iv 7 t] [Xb 5 q]))) (λz=>(bC [Iv 4 13] [])) (λB=>bD 9 53 (bN 10 λJ _=>bN 5 λL _=>bD 5 68 aZ aZ) aZ) (λz=>bN 7 λO _=>bz 2 λQ _=>cI 3 76 aZ aZ) (λz=>aZ)) aZ) aZ)) (λu=>bL 7 q.events (bD 3 80 aZ aZ)) (λu=>aZ)))) (λw=>aZ)) aZ)))
namespace dZ
def dh (p1 J:Int) (O:Trace) (D:Event) (G:Assign) (B:Int):Option (Fw Int Unit Unit):=
 bg (decide (B<J))
 ((idx D.assign B).bind λq=>
 bg (q.var==G.var)
 (some (.r ()))
 (some (.n (IntKind.wrap .i64 (B+1)))))
 (some (.x ()))
def W3 (p1 O B:Int) (D:Trace) (G:Event) (J:Assign):Option (Fw Int Unit Int):=
 (bG (λq:Int=>dh p1 O D G J q) B).bind (Fw.elim
 (λe=>some (.n (IntKind.wrap .i64 (O+1))))
 (λe=>some (.r 8)))
def bO (p1:Int) (D:Trace) (B:Event) (G:Int):Option (Fw Int Unit Int):=
 bg (decide (G<(len B.assign)))
 ((idx B.assign G).bind λq=>
 (bg (decide (q.var<0))
 (some true)
 ((idx D.procs p1).bind λt=>
 some (decide (q.var>=(len t.vars)))):Option Bool).bind λu=>
 (bg u
 (some true)
 ((pI q.value).bind λw=>
 some (!w)):Option Bool).bind λz=>
 bg z
 (some (.r 2))
 (W3 p1 G 0 D B q))
 (some (.x ()))
def W2 (p1 G:Int) (B:Trace) (D:Event):Option Int:=
 (bG (λq:Int=>bO p1 B D q) G).bind (Fw.elim
 (λe=>some 0)
 (λe=>some e))
def J1 (p1 i2:Int) (D:Trace) (B:Event):Option Int:=
 (bg (decide (B.time<0))
 (some true)
 (some (decide (B.time>1099511627776))):Option Bool).bind λq=>
 (bg q
 (some true)
 ((bg (decide (i2>0))
 ((idx D.procs p1).bind λt=>
 (idx t.events (IntKind.wrap .i64 (i2-1))).bind λu=>
 some (decide (B.time<u.time)))
 (some false):Option Bool).bind λw=>
 some w):Option Bool).bind λz=>
 bg z
 (some 11)
 (bg (decide ((len B.assign)>8))
 (some 5)
 (dZ.W2 p1 0 D B))
theorem wG (p1 i2:Int) (D:Trace) (B:Event):Le ((J1 p1 i2 D B).bind (λr=>some [.int .i64 r])) (ck Sy cL (qS (tr Tx 119)) (uI (tb Tx 119) [1,1,1,0] [] (bC [Iv 1 p1,Iv 2 i2,Pv 3,Pv 7] [Xb 3 D,Xb 7 B]))):=
 bW 7 4 [71] 75 (bD 7 71 (bA 4) (bA 4)) λG=>bW 1 19 [2,76] 95 (bD 1 76 (bA 19) (bW 3 15 [2,79] 94 (bD 3 79 (bN 5 λH _=>bN 4 λI _=>bA 4) (bA 15)) λJ=>bA 1)) λL=>bD 2 95 aZ (bL 8 B.assign (bD 3 99 aZ (cK 11 (λq=>(bC [Iv 1 p1,Pv 3,Pv 7,Iv 8 q] [Xb 3 D,Xb 7 B])) (λt=>(0,(bC [] []))) (λt=>(bC [Iv 6 t] [])) (λq=>bL 7 B.assign (bD 3 104 (bN 10 λu _=>bW 12 11 [115] 126 (bD 12 115 (bA 11) (bN 5 λA _=>bL 2 A.vars (bA 2))) λO=>u_ 1 5 [130] (λw=>(bC [Iv 1 p1,Pv 3,Pv 7,Iv 8 q,Bv 104 true,Pv 9,Bv 132 w] [Xb 3 D,Xb 7 B,Xb 9 u])) (bD 1 127 (bA 5) (fc 2 λQ _=>bA 2)) λw=>bD 2 132 aZ (cK 10 (λC=>(bC [Iv 1 p1,Pv 3,Pv 7,Iv 8 q,Pv 9,Iv 10 C] [Xb 3 D,Xb 7 B,Xb 9 u])) (λz=>(2,(bC [Iv 1 p1,Pv 3,Pv 7,Iv 8 q] [Xb 3 D,Xb 7 B]))) (λz=>(bC [Iv 6 8] [])) (λC=>bD 9 135 (bN 10 λS _=>bD 7 146 aZ aZ) aZ) (λz=>aZ) (λz=>aZ))) aZ)) (λt=>aZ) (λt=>aZ))))
end dZ
def dZ (B:Trace) (p1 i2:Int):Option Int:=
 (idx B.procs p1).bind λt=>
 (idx t.events i2).bind λq=>
 bg (q.kind==1)
 ((bg (q.peer==0)
 (some (!(q.message==0)))
 (some true):Option Bool).bind λu=>
 bg u
 (some 3)
 (dZ.J1 p1 i2 B q))
 ((bg (q.kind==2)
 (some false)
 (some (!(q.kind==3))):Option Bool).bind λw=>
 (bg w
 (some true)
 (some (decide (q.peer<0))):Option Bool).bind λz=>
 (bg z
 (some true)
 (some (decide (q.peer>=(len B.procs)))):Option Bool).bind λA=>
 (bg A
 (some true)
 (some (q.peer==p1)):Option Bool).bind λC=>
 (bg C
 (some true)
 (some (decide (q.message<0))):Option Bool).bind λD=>
 (bg D
 (some true)
 (some (decide (q.message>199))):Option Bool).bind λG=>
 bg G
 (some 3)
 (dZ.J1 p1 i2 B q))
open dZ in
instance R7 (B:Trace) (p1 i2:Int):Fc Sy cL (dZ B p1 i2):=Fc.M 119 [enc B,.int .i64 p1,.int .i64 i2] (cm 2 3 B (bN 8 λt _=>bN 3 λq _=>gF 2 7 0 q (bD 10 22 (bW 7 4 [26] 30 (cI 7 26 (bA 4) (bA 4)) λu=>bD 2 30 aZ (Dy 4 (wG p1 i2 B q))) (bW 7 4 [34] 38 (cI 7 34 (bA 4) (bA 4)) λw=>bW 1 4 [39] 43 (bD 1 39 (bA 4) (bA 4)) λz=>bW 1 7 [44] 51 (bD 1 44 (bA 7) (bL 4 B.procs (bA 2))) λA=>bW 1 5 [52] 57 (bD 1 52 (bA 5) (bA 5)) λC=>bW 1 4 [58] 62 (bD 1 58 (bA 4) (bA 4)) λD=>bW 1 4 [63] 67 (bD 1 63 (bA 4) (bA 4)) λG=>bD 2 67 aZ (Dy 4 (wG p1 i2 B q))))))
namespace iI
def bf (G:Trace) (J:aY) (D:Event) (B:Bool) (O:Int):Option (Fw (Bool×Int) Bool Empty):=
 (idx G.procs D.peer).bind λt=>
 bg (decide (O<(len t.events)))
 ((idx G.procs D.peer).bind λu=>
 (idx u.events O).bind λq=>
 (bg B
 (some true)
 ((bg (q.kind==2)
 (some (q.message==D.message))
 (some false):Option Bool).bind λw=>
 (bg w
 (some (q.peer==J.proc))
 (some false):Option Bool).bind λz=>
 some z):Option Bool).bind λA=>
 some (.n (A,IntKind.wrap .i64 (O+1))))
 (some (.x B))
def W1 (B:Bool) (O:Int) (D:Trace) (G:aY) (J:Event):Option Int:=
 (bG (λq:Bool×Int=>bf D G J q.1 q.2) (B,O)).bind (Fw.elim
 (λe=>bg e
 (some 0)
 (some 7))
 (λe=>Empty.elim e))
end iI
def iI (B:Trace) (D:aY):Option Int:=
 (uo B D).bind λq=>
 bg (q.kind==1)
 (some 0)
 ((dF B q.kind q.message).bind λt=>
 bg (IL t D)
 (bg (q.kind==3)
 (iI.W1 false 0 B D q)
 (some 0))
 (some 8))
open iI in
instance PE (B:Trace) (D:aY):Fc Sy cL (iI B D):=Fc.M 120 [enc B,enc D] (cm 2 2 B (bz 8 λt _=>gF 1 5 0 t (bD 10 14 aZ (fc 11 λA _=>cI 4 22 (bD 11 25 (eF 14 (λq=>(bC [Pv 2,Pv 3,Pv 5,Bv 6 q.1,Iv 7 q.2] [Xb 2 B,Xb 3 D,Xb 5 t])) (λu=>(0,(bC [Bv 6 u] []))) (λq=>bN 9 λw _=>bL 2 w.events (bD 3 35 (bN 11 λC _=>bN 3 λz _=>gF 2 8 0 z (bW 5 18 [8,49] 67 (bD 5 49 (bA 18) (bW 4 6 [53] 59 (bD 4 53 (bA 6) (bA 6)) λG=>bW 1 6 [8,60] 66 (bD 1 60 (bA 6) (bA 6)) λH=>bA 1)) λI=>aZ)) aZ)) (λu=>cI 8 69 aZ aZ)) aZ) aZ))))
namespace eo
def J4 (B:Sl Int) (p5:Int) (D:Trace):Option (Fw ((Sl Int)×Bool) ((Sl Int)×Bool) Empty):=
 (Sl.lQ B p5).bind λq=>
 (Sl.get B q).bind λt=>
 (Sl.lQ B p5).bind λu=>
 (Sl.put B u (IntKind.wrap .i64 (t+1):Int)).bind λw=>
 some (.n (w,true))
def dh (p5:Int) (G:Trace) (B:Sl Int) (D:Bool):Option (Fw ((Sl Int)×Bool) ((Sl Int)×Bool) Empty):=
 (Sl.lQ B p5).bind λz=>
 (Sl.get B z).bind λA=>
 (idx G.procs p5).bind λC=>
 bg (decide (A<(len C.events)))
 ((idx G.procs p5).bind λH=>
 (Sl.lQ B p5).bind λI=>
 (Sl.get B I).bind λJ=>
 (idx H.events J).bind λq=>
 bg (q.kind==3)
 ((dF G 2 q.message).bind λt=>
 (Sl.lQ B t.proc).bind λu=>
 (Sl.get B u).bind λw=>
 bg (decide (w<t.index))
 (some (.x (B,D)))
 (J4 B p5 G))
 (J4 B p5 G))
 (some (.x (B,D)))
def W3 (D:Sl Int) (B:Bool) (p5:Int) (G:Trace):Option (Fw ((Sl Int)×Bool×Int) ((Sl Int)×Bool) Empty):=
 (bG (λq:(Sl Int)×Bool=>dh p5 G q.1 q.2) (D,B)).bind (Fw.elim
 (λe=>some (.n (e.1,e.2,IntKind.wrap .i64 (p5+1))))
 (λe=>Empty.elim e))
def bO (G:Trace) (D:Sl Int) (B:Bool) (p5:Int):Option (Fw ((Sl Int)×Bool×Int) ((Sl Int)×Bool) Empty):=
 bg (decide (p5<(len G.procs)))
 (W3 D B p5 G)
 (some (.x (D,B)))
def W2 (D:Sl Int) (B:Bool) (p5:Int) (G:Trace):Option (Fw (Sl Int) (Sl Int) Empty):=
 (bG (λq:(Sl Int)×Bool×Int=>bO G q.1 q.2.1 q.2.2) (D,B,p5)).bind (Fw.elim
 (λe=>bg e.2
 (some (.n e.1))
 (some (.x e.1)))
 (λe=>Empty.elim e))
def pZ (B:Sl Int) (D:Trace) (G:Int):Option (Fw Int Unit Unit):=
 bg (decide (G<(len D.procs)))
 ((Sl.lQ B G).bind λq=>
 (Sl.get B q).bind λt=>
 (idx D.procs G).bind λu=>
 bg (decide (t<(len u.events)))
 (some (.r ()))
 (some (.n (IntKind.wrap .i64 (G+1)))))
 (some (.x ()))
def W5 (B:Sl Int) (G:Int) (D:Trace):Option Bool:=
 (bG (λq:Int=>pZ B D q) G).bind (Fw.elim
 (λe=>some true)
 (λe=>some false))
def bf (D:Trace) (B:Sl Int):Option (Fw (Sl Int) (Sl Int) Empty):=
 W2 B false 0 D
def W1 (B:Sl Int) (D:Trace):Option Bool:=
 (bG (λq:Sl Int=>bf D q) B).bind (Fw.elim
 (λe=>eo.W5 e 0 D)
 (λe=>Empty.elim e))
end eo
def eo (B:Trace):Option Bool:=
 (kf (len B.procs) (0:Int)).bind λq=>
 eo.W1 q B
open eo in
instance Nn (B:Trace):Fc Sy cL (eo B):=Fc.M 121 [enc B] (cm 2 1 B (bL 7 B.procs (IP 0 12 λZ _=>eF 7 (λH=>(bC [Pv 1,Ov 3] [Xb 1 B,Lb 2003 H])) (λz=>(0,(bC [Pv 1,Ov 3] [Xb 1 B,Lb 2003 z]))) (λH=>eF 17 (λt=>(bC [Pv 1,Ov 3,Bv 4 t.2.1,Iv 5 t.2.2] [Xb 1 B,Lb 2003 t.1])) (λA=>(2,(bC [Pv 1,Ov 3,Bv 4 A.2] [Xb 1 B,Lb 2003 A.1]))) (λt=>bL 8 B.procs (bD 3 17 (eF 8 (λC=>(bC [Pv 1,Ov 3,Bv 4 C.2,Iv 5 t.2.2] [Xb 1 B,Lb 2003 C.1])) (λD=>(4,(bC [Pv 1,Ov 3,Bv 4 D.2,Iv 5 t.2.2] [Xb 1 B,Lb 2003 D.1]))) (λC=>mc .i64 7 2003 λaa _=>uC 0 2003 0 1 false (λI=>.int .i64 I) λI _=>bN 3 λU _=>bL 2 U.events (bD 3 31 (bN 9 λab _=>mc .i64 4 2003 λad _=>uC 0 2003 0 1 false (λJ=>.int .i64 J) λJ _=>bN 0 λW _=>gF 2 6 0 W (bD 10 46 (bz 6 λae _=>mc .i64 9 2003 λX _=>uC 0 2003 0 1 false (λu=>.int .i64 u) λu _=>bD 5 58 aZ (yY 5 (mc .i64 4 2003 λL _=>uC 0 2003 0 1 false (λq=>.int .i64 q) λq _=>mc .i64 1 2003 λO _=>vE 0 2003 (.int .i64 (IntKind.wrap .i64 (q+1))) λQ _=>aZ))) (yY 5 (mc .i64 4 2003 λL _=>uC 0 2003 0 1 false (λq=>.int .i64 q) λq _=>mc .i64 1 2003 λO _=>vE 0 2003 (.int .i64 (IntKind.wrap .i64 (q+1))) λQ _=>aZ)))) aZ)) (λD=>aZ)) aZ)) (λA=>cI 8 66 aZ aZ)) (λz=>cK 11 (λS=>(bC [Pv 1,Ov 3,Iv 8 S] [Xb 1 B,Lb 2003 z])) (λG=>(6,(bC [] []))) (λG=>(bC [Bv 2 false] [])) (λS=>bL 8 B.procs (bD 3 71 (mc .i64 9 2003 λY _=>uC 0 2003 0 1 false (λw=>.int .i64 w) λw _=>bN 3 λT _=>bL 2 T.events (bD 3 85 aZ aZ)) aZ)) (λG=>aZ) (λG=>aZ)))))
instance RZ (t:Trace) (x:aY):Fc Sy cL (mN t x):=Fc.of (A:=λz:Trace×aY=>[enc z.1,enc z.2]) (E:=λr:Sl (Sl Bool)=>[enc r]) (p:=λz=>mN z.1 z.2) (n:=122) (z:=(t,x)) (nE.TH (by kernel_rfl) (by kernel_rfl) (λz r hr=>M1 z.1 z.2 r hr))
namespace cN
def dh (p6:Int) (B:Trace) (G:aY) (D:Int):Option (Fw Int Unit (Int×aY)):=
 (idx B.procs p6).bind λt=>
 bg (decide (D<(len t.events)))
 ((dZ B p6 D).bind λq=>
 bg (q==0)
 (some (.n (IntKind.wrap .i64 (D+1))))
 (some (.r (q,(⟨p6,IntKind.wrap .i64 (D+1)⟩:aY)))))
 (some (.x ()))
def W3 (p6 G:Int) (B:Trace) (D:aY):Option (Fw Int Unit (Int×aY)):=
 (bG (λq:Int=>dh p6 B D q) G).bind (Fw.elim
 (λe=>some (.n (IntKind.wrap .i64 (p6+1))))
 (λe=>some (.r (e.1,e.2))))
def pZ (G:Int) (D:Trace) (J:aY) (B:Int):Option (Fw Int Unit (Int×aY)):=
 (idx D.procs G).bind λt=>
 bg (decide (B<(len t.events)))
 ((iI D (⟨G,IntKind.wrap .i64 (B+1)⟩:aY)).bind λq=>
 bg (q==0)
 (some (.n (IntKind.wrap .i64 (B+1))))
 (some (.r (q,(⟨G,IntKind.wrap .i64 (B+1)⟩:aY)))))
 (some (.x ()))
def W5 (J B:Int) (D:Trace) (G:aY):Option (Fw Int Unit (Int×aY)):=
 (bG (λq:Int=>pZ J D G q) B).bind (Fw.elim
 (λe=>some (.n (IntKind.wrap .i64 (J+1))))
 (λe=>some (.r (e.1,e.2))))
def Ix (D:Int) (G:Trace) (J:aY) (B:Int):Option (Fw Int Unit aY):=
 (idx G.procs D).bind λt=>
 bg (decide (B<(len t.events)))
 ((mN G (⟨D,IntKind.wrap .i64 (B+1)⟩:aY)).bind λu=>
 (idx u D).bind λw=>
 (idx w (IntKind.wrap .i64 (B+1))).bind λq=>
 bg q
 (some (.r (⟨D,IntKind.wrap .i64 (B+1)⟩:aY)))
 (some (.n (IntKind.wrap .i64 (B+1)))))
 (some (.x ()))
def W7 (B D:Int) (G:Trace) (J:aY):Option (Fw Int Unit aY):=
 (bG (λq:Int=>Ix B G J q) D).bind (Fw.elim
 (λe=>some (.n (IntKind.wrap .i64 (B+1))))
 (λe=>some (.r e)))
def IN (B:Trace) (G:aY) (D:Int):Option (Fw Int Unit aY):=
 bg (decide (D<(len B.procs)))
 (W7 D 0 B G)
 (some (.x ()))
def W6 (B:Int) (D:Trace) (G:aY):Option (aY×Int):=
 (bG (λq:Int=>IN D G q) B).bind (Fw.elim
 (λe=>some (⟨0,0⟩,0))
 (λe=>some (e,10)))
def kT (B:Trace) (D:aY) (G:Int):Option (Fw Int Unit (Int×aY)):=
 bg (decide (G<(len B.procs)))
 (W5 G 0 B D)
 (some (.x ()))
def W4 (G:Int) (B:Trace) (D:aY):Option (aY×Int):=
 (bG (λq:Int=>kT B D q) G).bind (Fw.elim
 (λe=>(eo B).bind λt=>
 bg t
 (some (⟨0,0⟩,0))
 (cN.W6 0 B D))
 (λe=>some (e.2,e.1)))
def bO (B:Trace) (D:aY) (p6:Int):Option (Fw Int Unit (Int×aY)):=
 bg (decide (p6<(len B.procs)))
 (W3 p6 0 B D)
 (some (.x ()))
def W2 (p6:Int) (B:Trace) (D:aY):Option (aY×Int):=
 (bG (λq:Int=>bO B D q) p6).bind (Fw.elim
 (λe=>cN.W4 0 B D)
 (λe=>some (e.2,e.1)))
def bf (B:Trace) (D:aY) (p4:Int):Option (Fw Int Unit (Int×aY)):=
 bg (decide (p4<(len B.procs)))
 ((dX B p4).bind λq=>
 bg (q==0)
 (some (.n (IntKind.wrap .i64 (p4+1))))
 (some (.r (q,(⟨p4,0⟩:aY)))))
 (some (.x ()))
def W1 (p4:Int) (B:Trace) (D:aY):Option (aY×Int):=
 (bG (λq:Int=>bf B D q) p4).bind (Fw.elim
 (λe=>cN.W2 0 B D)
 (λe=>some (e.2,e.1)))
end cN
def cN (B:Trace):Option (aY×Int):=
 (bg (decide ((len B.procs)<1))
 (some true)
 (some (decide ((len B.procs)>8))):Option Bool).bind λq=>
 bg q
 (some (⟨0,0⟩,1))
 (cN.W1 0 B (⟨0,0⟩:aY))
open cN in
instance PS (B:Trace):Fc Sy cL (cN B):=Fc.M 92 [enc B] (cm 2 1 B (bL 9 B.procs (bW 2 5 [20] 25 (bD 2 20 (bA 5) (bL 2 B.procs (bA 2))) λX=>bD 2 25 aZ (cK 11 (λI=>(bC [Pv 1,Pv 2,Iv 4 I] [Xb 1 B,Xb 2 (⟨0,0⟩:aY)])) (λq=>(0,(bC [Pv 1,Pv 2] [Xb 1 B,Xb 2 (⟨0,0⟩:aY)]))) (λq=>(bC [Pv 2,Iv 3 q.1] [Xb 2 q.2])) (λI=>bL 7 B.procs (bD 3 31 (bz 9 λY _=>cI 9 38 aZ aZ) aZ)) (λq=>cK 10 (λA=>(bC [Pv 1,Pv 2,Iv 6 A] [Xb 1 B,Xb 2 (⟨0,0⟩:aY)])) (λt=>(2,(bC [Pv 1,Pv 2] [Xb 1 B,Xb 2 (⟨0,0⟩:aY)]))) (λt=>(bC [Pv 2,Iv 3 t.1] [Xb 2 t.2])) (λA=>bL 7 B.procs (bD 3 46 (cK 12 (λJ=>(bC [Pv 1,Pv 2,Iv 6 A,Iv 7 J] [Xb 1 B,Xb 2 (⟨0,0⟩:aY)])) (λu=>(4,(bC [Pv 1,Pv 2,Iv 6 A] [Xb 1 B,Xb 2 (⟨0,0⟩:aY)]))) (λu=>(bC [Pv 2,Iv 3 u.1] [Xb 2 u.2])) (λJ=>bN 8 λQ _=>bL 2 Q.events (bD 3 57 (bz 10 λZ _=>cI 9 65 aZ aZ) aZ)) (λu=>aZ) (λu=>aZ)) aZ)) (λt=>cK 10 (λC=>(bC [Pv 1,Pv 2,Iv 9 C] [Xb 1 B,Xb 2 (⟨0,0⟩:aY)])) (λw=>(6,(bC [Pv 1,Pv 2] [Xb 1 B,Xb 2 (⟨0,0⟩:aY)]))) (λw=>(bC [Pv 2,Iv 3 w.1] [Xb 2 w.2])) (λC=>bL 7 B.procs (bD 3 75 (cK 12 (λL=>(bC [Pv 1,Pv 2,Iv 9 C,Iv 10 L] [Xb 1 B,Xb 2 (⟨0,0⟩:aY)])) (λz=>(8,(bC [Pv 1,Pv 2,Iv 9 C] [Xb 1 B,Xb 2 (⟨0,0⟩:aY)]))) (λz=>(bC [Pv 2,Iv 3 z.1] [Xb 2 z.2])) (λL=>bN 8 λS _=>bL 2 S.events (bD 3 86 (bz 19 λaa _=>cI 9 97 aZ aZ) aZ)) (λz=>aZ) (λz=>aZ)) aZ)) (λw=>bz 6 λU _=>bD 2 101 aZ (cK 11 (λD=>(bC [Pv 1,Pv 2,Iv 13 D] [Xb 1 B,Xb 2 (⟨0,0⟩:aY)])) (λG=>(10,(bC [Pv 2] [Xb 2 (⟨0,0⟩:aY)]))) (λG=>(bC [Pv 2,Iv 3 10] [Xb 2 G])) (λD=>bL 7 B.procs (bD 3 107 (cK 12 (λO=>(bC [Pv 1,Pv 2,Iv 13 D,Iv 14 O] [Xb 1 B,Xb 2 (⟨0,0⟩:aY)])) (λH=>(12,(bC [Pv 1,Pv 2,Iv 13 D] [Xb 1 B,Xb 2 (⟨0,0⟩:aY)]))) (λH=>(bC [Pv 2,Iv 3 10] [Xb 2 H])) (λO=>bN 8 λT _=>bL 2 T.events (bD 3 118 (bz 19 λab _=>bN 1 λad _=>bN 3 λW _=>bD 3 134 aZ aZ) aZ)) (λH=>aZ) (λH=>aZ)) aZ)) (λG=>aZ) (λG=>aZ))) (λw=>aZ)) (λt=>aZ)) (λq=>aZ)))))
def eB (B:Trace):Option Bool:=
 (cN B).bind λq=>
 some (q.2==0)
instance Q2 (B:Trace):Fc Sy cL (eB B):=Fc.M 48 [enc B] (cm 2 1 B (bz 6 λq _=>aZ))
def w8 (B:Trace) (D:Sl Int):Option Bool:=
 some ((len D)==(len B.procs))
instance R2 (B:Trace) (D:Sl Int):Fc Sy cL (w8 B D):=Fc.M 93 [enc B,enc D] (cm 2 2 B (bL 6 D (bL 2 B.procs aZ)))
namespace l_
def bf (B:Sl Int) (D:Trace) (p5:Int):Option (Fw Int Unit Unit):=
 bg (decide (p5<(len B)))
 ((idx B p5).bind λq=>
 (bg (decide (q<0))
 (some true)
 ((idx B p5).bind λt=>
 (idx D.procs p5).bind λu=>
 some (decide (t>(len u.events)))):Option Bool).bind λw=>
 bg w
 (some (.r ()))
 (some (.n (IntKind.wrap .i64 (p5+1)))))
 (some (.x ()))
def W1 (D:Sl Int) (p5:Int) (B:Trace):Option Bool:=
 (bG (λq:Int=>bf D B q) p5).bind (Fw.elim
 (λe=>some true)
 (λe=>some false))
end l_
def l_ (B:Trace) (D:Sl Int):Option Bool:=
 l_.W1 D 0 B
open l_ in
instance QK (B:Trace) (D:Sl Int):Fc Sy cL (l_ B D):=Fc.M 94 [enc B,enc D] (cm 2 2 B (cK 11 (λt=>(bC [Cv 1 D,Pv 2,Iv 5 t] [Xb 2 B])) (λq=>(0,(bC [] []))) (λq=>(bC [Bv 4 false] [])) (λt=>bL 6 D (bD 3 9 (bN 9 λw _=>bW 3 13 [17] 30 (bD 3 17 (bA 13) (bN 2 λz _=>bN 4 λu _=>bL 2 u.events (bA 2))) λA=>bD 2 30 aZ aZ) aZ)) (λq=>aZ) (λq=>aZ)))
def wU (B:Trace) (D:Sl Int) (p2 i3:Int):Option Bool:=
 (idx B.procs p2).bind λu=>
 (idx u.events i3).bind λq=>
 bg (q.kind==3)
 ((dF B 2 q.message).bind λt=>
 (idx D t.proc).bind λw=>
 some (decide (t.index<=w)))
 (some true)
instance R1 (B:Trace) (D:Sl Int) (p2 i3:Int):Fc Sy cL (wU B D p2 i3):=Fc.M 123 [enc B,enc D,.int .i64 p2,.int .i64 i3] (cm 2 4 B (bN 8 λt _=>bN 3 λq _=>gF 2 9 0 q (cI 10 22 (bz 8 λu _=>bN 11 λw _=>aZ) aZ)))
namespace eX
def bO (G:Sl Int) (p5:Int) (B:Trace) (D:Int):Option (Fw Int Unit Unit):=
 (idx G p5).bind λq=>
 bg (decide (D<q))
 ((wU B G p5 D).bind λt=>
 bg t
 (some (.n (IntKind.wrap .i64 (D+1))))
 (some (.r ())))
 (some (.x ()))
def W2 (D:Sl Int) (p5 G:Int) (B:Trace):Option (Fw Int Unit Unit):=
 (bG (λq:Int=>bO D p5 B q) G).bind (Fw.elim
 (λe=>some (.n (IntKind.wrap .i64 (p5+1))))
 (λe=>some (.r ())))
def bf (D:Sl Int) (B:Trace) (p5:Int):Option (Fw Int Unit Unit):=
 bg (decide (p5<(len D)))
 (W2 D p5 0 B)
 (some (.x ()))
def W1 (D:Sl Int) (p5:Int) (B:Trace):Option Bool:=
 (bG (λq:Int=>bf D B q) p5).bind (Fw.elim
 (λe=>some true)
 (λe=>some false))
end eX
def eX (B:Trace) (D:Sl Int):Option Bool:=
 eX.W1 D 0 B
open eX in
instance O9 (B:Trace) (D:Sl Int):Fc Sy cL (eX B D):=Fc.M 95 [enc B,enc D] (cm 2 2 B (cK 11 (λq=>(bC [Cv 1 D,Pv 2,Iv 5 q] [Xb 2 B])) (λt=>(0,(bC [] []))) (λt=>(bC [Bv 4 false] [])) (λq=>bL 6 D (bD 3 10 (cK 12 (λw=>(bC [Cv 1 D,Pv 2,Iv 5 q,Iv 6 w] [Xb 2 B])) (λu=>(2,(bC [Cv 1 D,Pv 2,Iv 5 q] [Xb 2 B]))) (λu=>(bC [Bv 4 false] [])) (λw=>bN 7 λz _=>bD 4 18 (bz 11 λA _=>cI 3 26 aZ aZ) aZ) (λu=>aZ) (λu=>aZ)) aZ)) (λt=>aZ) (λt=>aZ)))
def fW (B:Trace) (D:Sl Int):Option Bool:=
 (eB B).bind λq=>
 (bg q
 ((w8 B D).bind λt=>
 some t)
 (some false):Option Bool).bind λu=>
 (bg u
 ((l_ B D).bind λw=>
 some w)
 (some false):Option Bool).bind λz=>
 (bg z
 ((eX B D).bind λA=>
 some A)
 (some false):Option Bool).bind λC=>
 some C
instance KN (B:Trace) (D:Sl Int):Fc Sy cL (fW B D):=Fc.M 49 [enc B,enc D] (cm 2 2 B (bz 6 λq _=>bW 1 4 [7] 11 (bD 1 7 (bz 2 λt _=>bA 1) (bA 4)) λu=>bW 1 4 [12] 16 (bD 1 12 (bz 2 λw _=>bA 1) (bA 4)) λz=>bW 1 4 [1,2,17] 21 (bD 1 17 (bz 2 λA _=>bA 1) (bA 4)) λC=>aZ))
namespace eA
def bf (D G:Sl Int) (B:Int):Option (Fw Int Unit Unit):=
 bg (decide (B<(len D)))
 ((idx D B).bind λq=>
 (idx G B).bind λt=>
 bg (decide (q>t))
 (some (.r ()))
 (some (.n (IntKind.wrap .i64 (B+1)))))
 (some (.x ()))
def W1 (B D:Sl Int) (G:Int):Option Bool:=
 (bG (λq:Int=>bf B D q) G).bind (Fw.elim
 (λe=>some true)
 (λe=>some false))
end eA
def eA (B D:Sl Int):Option Bool:=
 bg ((len B)==(len D))
 (eA.W1 B D 0)
 (some false)
open eA in
instance TN (B D:Sl Int):Fc Sy cL (eA B D):=Fc.M 50 [enc B,enc D] (bL 9 B (bL 1 D (cI 3 10 (cK 11 (λt=>(bC [Cv 0 B,Cv 1 D,Iv 5 t] [])) (λq=>(0,(bC [] []))) (λq=>(bC [Bv 4 false] [])) (λt=>bL 6 B (bD 3 14 (bN 9 λu _=>bN 3 λw _=>bD 4 25 aZ aZ) aZ)) (λq=>aZ) (λq=>aZ)) aZ)))
namespace dQ
def bf (D G:Sl Int) (B:Int):Option (Fw Int Unit Unit):=
 bg (decide (B<(len D)))
 ((idx D B).bind λq=>
 (idx G B).bind λt=>
 bg (q==t)
 (some (.n (IntKind.wrap .i64 (B+1))))
 (some (.r ())))
 (some (.x ()))
def W1 (B D:Sl Int) (G:Int):Option Bool:=
 (bG (λq:Int=>bf B D q) G).bind (Fw.elim
 (λe=>some true)
 (λe=>some false))
end dQ
def dQ (B D:Sl Int):Option Bool:=
 bg ((len B)==(len D))
 (dQ.W1 B D 0)
 (some false)
open dQ in
instance MO (B D:Sl Int):Fc Sy cL (dQ B D):=Fc.M 54 [enc B,enc D] (bL 9 B (bL 1 D (cI 3 10 (cK 11 (λt=>(bC [Cv 0 B,Cv 1 D,Iv 5 t] [])) (λq=>(0,(bC [] []))) (λq=>(bC [Bv 4 false] [])) (λt=>bL 6 B (bD 3 14 (bN 9 λu _=>bN 3 λw _=>cI 4 25 aZ aZ) aZ)) (λq=>aZ) (λq=>aZ)) aZ)))
def pW (J:Trace) (s1:Slice) (p2 i3:Int):Option Bool:=
 (idx s1.j p2).bind λz=>
 (idx z i3).bind λq=>
 (idx s1.last p2).bind λA=>
 bg (decide (i3>=A))
 (some ((len q)==0))
 ((idx s1.first p2).bind λB=>
 bg (decide (i3<B))
 ((dQ q s1.first).bind λC=>
 some C)
 ((fW J q).bind λD=>
 (bg D
 ((idx q p2).bind λG=>
 some (decide (G>i3)))
 (some false):Option Bool).bind λH=>
 (bg H
 ((eA s1.first q).bind λI=>
 some I)
 (some false):Option Bool).bind λt=>
 (bg t
 ((eA q s1.last).bind λu=>
 some u)
 (some false):Option Bool).bind λw=>
 some w))
instance NY (B:Trace) (s1:Slice) (p2 i3:Int):Fc Sy cL (pW B s1 p2 i3):=Fc.M 51 [enc B,enc s1,.int .i64 p2,.int .i64 i3] (cm 2 4 B (cm 0 5 s1 (bN 8 λz _=>bN 2 λq _=>bN 11 λA _=>bD 4 24 (bL 4 q aZ) (bN 10 λC _=>bD 4 34 (bz 6 λD _=>aZ) (bz 7 λG _=>bW 1 7 [2,3,42] 49 (bD 1 42 (bN 2 λH _=>bA 4) (bA 7)) λI=>bW 1 5 [50] 55 (bD 1 50 (bz 3 λJ _=>bA 1) (bA 5)) λt=>bW 1 5 [5,9,56] 61 (bD 1 56 (bz 3 λu _=>bA 1) (bA 5)) λw=>aZ)))))
namespace dW
def bO (G:Sl Int) (p5:Int) (B:Slice) (D:Int):Option (Fw Int Unit Unit):=
 (idx G p5).bind λq=>
 bg (decide (D<q))
 ((idx B.j p5).bind λt=>
 (idx t D).bind λu=>
 (eA u G).bind λw=>
 bg w
 (some (.n (IntKind.wrap .i64 (D+1))))
 (some (.r ())))
 (some (.x ()))
def W2 (D:Sl Int) (p5 G:Int) (B:Slice):Option (Fw Int Unit Unit):=
 (bG (λq:Int=>bO D p5 B q) G).bind (Fw.elim
 (λe=>some (.n (IntKind.wrap .i64 (p5+1))))
 (λe=>some (.r ())))
def bf (D:Sl Int) (B:Slice) (p5:Int):Option (Fw Int Unit Unit):=
 bg (decide (p5<(len D)))
 (W2 D p5 0 B)
 (some (.x ()))
def W1 (D:Sl Int) (p5:Int) (B:Slice):Option Bool:=
 (bG (λq:Int=>bf D B q) p5).bind (Fw.elim
 (λe=>some true)
 (λe=>some false))
end dW
def dW (s0:Slice) (B:Sl Int):Option Bool:=
 dW.W1 B 0 s0
open dW in
instance Py (s0:Slice) (B:Sl Int):Fc Sy cL (dW s0 B):=Fc.M 52 [enc s0,enc B] (cm 2 2 s0 (cK 11 (λq=>(bC [Cv 1 B,Pv 2,Iv 5 q] [Xb 2 s0])) (λt=>(0,(bC [] []))) (λt=>(bC [Bv 4 false] [])) (λq=>bL 6 B (bD 3 10 (cK 12 (λw=>(bC [Cv 1 B,Pv 2,Iv 5 q,Iv 6 w] [Xb 2 s0])) (λu=>(2,(bC [Cv 1 B,Pv 2,Iv 5 q] [Xb 2 s0]))) (λu=>(bC [Bv 4 false] [])) (λw=>bN 7 λz _=>bD 4 18 (bN 10 λA _=>bN 2 λC _=>bz 2 λD _=>cI 3 31 aZ aZ) aZ) (λu=>aZ) (λu=>aZ)) aZ)) (λt=>aZ) (λt=>aZ)))
namespace cH
def bO (p5:Int) (D:Trace) (B:Slice) (G:Int):Option (Fw Int Unit Unit):=
 (idx B.j p5).bind λq=>
 bg (decide (G<(len q)))
 ((pW D B p5 G).bind λt=>
 bg t
 (some (.n (IntKind.wrap .i64 (G+1))))
 (some (.r ())))
 (some (.x ()))
def W2 (p5 G:Int) (B:Trace) (D:Slice):Option (Fw Int Unit Unit):=
 (bG (λq:Int=>bO p5 B D q) G).bind (Fw.elim
 (λe=>some (.n (IntKind.wrap .i64 (p5+1))))
 (λe=>some (.r ())))
def kT (p7:Int) (B:Slice) (i8:Int):Option (Fw Int Unit Unit):=
 (idx B.last p7).bind λq=>
 bg (decide (i8<q))
 ((idx B.j p7).bind λt=>
 (idx t i8).bind λu=>
 (dW B u).bind λw=>
 bg w
 (some (.n (IntKind.wrap .i64 (i8+1))))
 (some (.r ())))
 (some (.x ()))
def W4 (p7 i8:Int) (B:Slice):Option (Fw Int Unit Unit):=
 (bG (λq:Int=>kT p7 B q) i8).bind (Fw.elim
 (λe=>some (.n (IntKind.wrap .i64 (p7+1))))
 (λe=>some (.r ())))
def dh (B:Slice) (p7:Int):Option (Fw Int Unit Unit):=
 bg (decide (p7<(len B.j)))
 (W4 p7 0 B)
 (some (.x ()))
def W3 (p7:Int) (B:Slice):Option Bool:=
 (bG (λq:Int=>dh B q) p7).bind (Fw.elim
 (λe=>some true)
 (λe=>some false))
def bf (D:Trace) (B:Slice) (p5:Int):Option (Fw Int Unit Unit):=
 bg (decide (p5<(len B.j)))
 ((idx B.j p5).bind λq=>
 (idx D.procs p5).bind λt=>
 bg ((len q)==(len t.events))
 (W2 p5 0 D B)
 (some (.r ())))
 (some (.x ()))
def W1 (p5:Int) (D:Trace) (B:Slice):Option Bool:=
 (bG (λq:Int=>bf D B q) p5).bind (Fw.elim
 (λe=>cH.W3 0 B)
 (λe=>some false))
end cH
def cH (B:Trace) (s1:Slice):Option Bool:=
 (eB B).bind λq=>
 bg q
 (bg s1.empty
 ((bg ((len s1.first)==0)
 (some ((len s1.last)==0))
 (some false):Option Bool).bind λt=>
 (bg t
 (some ((len s1.j)==0))
 (some false):Option Bool).bind λu=>
 some u)
 ((fW B s1.first).bind λw=>
 (bg w
 ((fW B s1.last).bind λz=>
 some (!z))
 (some true):Option Bool).bind λA=>
 (bg A
 (some true)
 ((eA s1.first s1.last).bind λC=>
 some (!C)):Option Bool).bind λD=>
 (bg D
 (some true)
 (some (!((len s1.j)==(len B.procs)))):Option Bool).bind λG=>
 bg G
 (some false)
 (cH.W1 0 B s1)))
 (some false)
open cH in
instance Qy (B:Trace) (s1:Slice):Fc Sy cL (cH B s1):=Fc.M 13 [enc B,enc s1] (cm 2 2 B (cm 0 3 s1 (bz 7 λT _=>cI 3 11 (bD 10 13 (bL 5 s1.first (bW 2 5 [18] 23 (bD 2 18 (bL 2 s1.last (bA 2)) (bA 5)) λU=>bW 1 5 [3,24] 29 (bD 1 24 (bL 2 s1.j (bA 2)) (bA 5)) λW=>aZ)) (bz 9 λX _=>bW 2 6 [35] 41 (cI 2 35 (bz 3 λY _=>bA 2) (bA 6)) λZ=>bW 1 7 [42] 49 (bD 1 42 (bA 7) (bz 4 λaa _=>bA 2)) λab=>bW 1 8 [50] 58 (bD 1 50 (bA 8) (bL 2 s1.j (bL 2 B.procs (bA 2)))) λad=>bD 2 58 aZ (cK 11 (λq=>(bC [Pv 2,Pv 3,Iv 5 q] [Xb 2 B,Xb 3 s1])) (λu=>(0,(bC [Pv 3] [Xb 3 s1]))) (λu=>(bC [Bv 4 false] [])) (λq=>bL 7 s1.j (bD 3 63 (bN 11 λC _=>bL 1 C (bN 3 λD _=>bL 2 D.events (cI 3 79 (cK 10 (λG=>(bC [Pv 2,Pv 3,Iv 5 q,Iv 6 G] [Xb 2 B,Xb 3 s1])) (λw=>(2,(bC [Pv 2,Pv 3,Iv 5 q] [Xb 2 B,Xb 3 s1]))) (λw=>(bC [Bv 4 false] [])) (λG=>bN 8 λH _=>bL 1 H (bD 3 87 (bz 11 λJ _=>cI 3 95 aZ aZ) aZ)) (λw=>aZ) (λw=>aZ)) aZ))) aZ)) (λu=>cK 10 (λt=>(bC [Pv 3,Iv 7 t] [Xb 3 s1])) (λz=>(4,(bC [] []))) (λz=>(bC [Bv 4 false] [])) (λt=>bL 7 s1.j (bD 3 100 (cK 12 (λI=>(bC [Pv 3,Iv 7 t,Iv 8 I] [Xb 3 s1])) (λA=>(6,(bC [Pv 3,Iv 7 t] [Xb 3 s1]))) (λA=>(bC [Bv 4 false] [])) (λI=>bN 8 λL _=>bD 4 109 (bN 11 λO _=>bN 2 λQ _=>fc 1 λS _=>cI 3 122 aZ aZ) aZ) (λA=>aZ) (λA=>aZ)) aZ)) (λz=>aZ) (λz=>aZ)) (λu=>aZ)))) aZ)))
namespace eZ
def bf (D G:Sl (Sl Int)) (B:Int):Option (Fw Int Unit Unit):=
 bg (decide (B<(len D)))
 ((idx D B).bind λq=>
 (idx G B).bind λt=>
 (dQ q t).bind λu=>
 bg u
 (some (.n (IntKind.wrap .i64 (B+1))))
 (some (.r ())))
 (some (.x ()))
def W1 (B D:Sl (Sl Int)) (G:Int):Option Bool:=
 (bG (λq:Int=>bf B D q) G).bind (Fw.elim
 (λe=>some true)
 (λe=>some false))
end eZ
def eZ (B D:Sl (Sl Int)):Option Bool:=
 bg ((len B)==(len D))
 (eZ.W1 B D 0)
 (some false)
open eZ in
instance KR (B D:Sl (Sl Int)):Fc Sy cL (eZ B D):=Fc.M 55 [enc B,enc D] (bL 9 B (bL 1 D (cI 3 10 (cK 11 (λt=>(bC [Cv 0 B,Cv 1 D,Iv 5 t] [])) (λq=>(0,(bC [] []))) (λq=>(bC [Bv 4 false] [])) (λt=>bL 6 B (bD 3 14 (bN 9 λu _=>bN 3 λw _=>fc 1 λz _=>cI 3 26 aZ aZ) aZ)) (λq=>aZ) (λq=>aZ)) aZ)))
namespace c_
def bf (B D:Slice) (p5:Int):Option (Fw Int Unit Unit):=
 bg (decide (p5<(len B.j)))
 ((idx B.j p5).bind λq=>
 (idx D.j p5).bind λt=>
 (eZ q t).bind λu=>
 bg u
 (some (.n (IntKind.wrap .i64 (p5+1))))
 (some (.r ())))
 (some (.x ()))
def W1 (p5:Int) (B D:Slice):Option Bool:=
 (bG (λq:Int=>bf B D q) p5).bind (Fw.elim
 (λe=>some true)
 (λe=>some false))
end c_
def c_ (B D:Slice):Option Bool:=
 (bg (B.empty==D.empty)
 ((dQ B.first D.first).bind λq=>
 some (!q))
 (some true):Option Bool).bind λt=>
 (bg t
 (some true)
 ((dQ B.last D.last).bind λu=>
 some (!u)):Option Bool).bind λw=>
 (bg w
 (some true)
 (some (!((len B.j)==(len D.j)))):Option Bool).bind λz=>
 bg z
 (some false)
 (c_.W1 0 B D)
open c_ in
instance RX (B D:Slice):Fc Sy cL (c_ B D):=Fc.M 16 [enc B,enc D] (cm 2 2 B (cm 0 3 D (bW 12 7 [11] 18 (cI 12 11 (bz 4 λu _=>bA 2) (bA 7)) λw=>bW 1 7 [19] 26 (bD 1 19 (bA 7) (bz 4 λz _=>bA 2)) λA=>bW 1 8 [27] 35 (bD 1 27 (bA 8) (bL 2 B.j (bL 2 D.j (bA 2)))) λC=>bD 2 35 aZ (cK 11 (λt=>(bC [Pv 2,Pv 3,Iv 5 t] [Xb 2 B,Xb 3 D])) (λq=>(0,(bC [] []))) (λq=>(bC [Bv 4 false] [])) (λt=>bL 7 B.j (bD 3 40 (bN 10 λG _=>bN 4 λH _=>fc 1 λI _=>cI 3 54 aZ aZ) aZ)) (λq=>aZ) (λq=>aZ)))))
def oC (s0:Slice):Option Bool:=
 (c_ s0 (⟨false,Sl.nil,Sl.nil,Sl.nil⟩:Slice)).bind λq=>
 some q
instance RT (s0:Slice):Fc Sy cL (oC s0):=Fc.M 14 [enc s0] (cm 2 1 s0 (yJ 6 (⟨false,Sl.nil,Sl.nil,Sl.nil⟩:Slice) [] [.bool false,.bH,.bH,.bH] [] (by simp only[lq,mF,fT,qx,oA,qt,qA];rfl) rfl (bz 0 λq _=>aZ)))
def qF (B:Sl Int) (p1:Int):Option (Sl Int):=
 (kI (Sl.row []:Sl Int) B).bind λq=>
 (Sl.lQ q p1).bind λt=>
 (Sl.get q t).bind λu=>
 (Sl.lQ q p1).bind λw=>
 (Sl.put q w (IntKind.wrap .i64 (u+1):Int)).bind λz=>
 some z
instance R9 (B:Sl Int) (p1:Int):Fc Sy cL (qF B p1):=Fc.N 62 [enc B,.int .i64 p1] (vq 9 6 8 λt _=>mc .i64 9 8 λu _=>uC 0 8 0 1 false (λq=>.int .i64 q) λq _=>mc .i64 1 8 λw _=>vE 0 8 (.int .i64 (IntKind.wrap .i64 (q+1))) λz _=>aZ)
namespace mI
def bf (B:Sl Int) (D:Trace) (p5:Int):Option (Fw Int Unit Unit):=
 bg (decide (p5<(len B)))
 ((idx B p5).bind λq=>
 (bg (decide (q<0))
 (some true)
 ((idx B p5).bind λt=>
 (idx D.procs p5).bind λu=>
 some (decide (t>(len u.events)))):Option Bool).bind λw=>
 bg w
 (some (.r ()))
 (some (.n (IntKind.wrap .i64 (p5+1)))))
 (some (.x ()))
def W1 (B:Sl Int) (p5:Int) (D:Trace):Option Bool:=
 (bG (λq:Int=>bf B D q) p5).bind (Fw.elim
 (λe=>some true)
 (λe=>some false))
end mI
def mI (D:Trace) (B:Sl Int):Option Bool:=
 bg ((len B)==(len D.procs))
 (mI.W1 B 0 D)
 (some false)
open mI in
instance TG (D:Trace) (B:Sl Int):Fc Sy cL (mI D B):=Fc.M 60 [enc D,enc B] (cm 2 2 D (bL 7 B (bL 2 D.procs (cI 3 11 (cK 11 (λt=>(bC [Cv 1 B,Pv 2,Iv 5 t] [Xb 2 D])) (λq=>(0,(bC [] []))) (λq=>(bC [Bv 4 false] [])) (λt=>bL 6 B (bD 3 15 (bN 9 λw _=>bW 3 13 [23] 36 (bD 3 23 (bA 13) (bN 2 λz _=>bN 4 λu _=>bL 2 u.events (bA 2))) λA=>bD 2 36 aZ aZ) aZ)) (λq=>aZ) (λq=>aZ)) aZ))))
namespace dJ
def bO (B:Sl Int) (p5:Int) (D:Trace) (G:Int):Option (Fw Int Unit Unit):=
 (idx B p5).bind λu=>
 bg (decide (G<u))
 ((idx D.procs p5).bind λw=>
 (idx w.events G).bind λq=>
 bg (q.kind==3)
 ((dF D 2 q.message).bind λt=>
 (idx B t.proc).bind λz=>
 bg (decide (t.index>z))
 (some (.r ()))
 (some (.n (IntKind.wrap .i64 (G+1)))))
 (some (.n (IntKind.wrap .i64 (G+1)))))
 (some (.x ()))
def W2 (B:Sl Int) (p5 G:Int) (D:Trace):Option (Fw Int Unit Unit):=
 (bG (λq:Int=>bO B p5 D q) G).bind (Fw.elim
 (λe=>some (.n (IntKind.wrap .i64 (p5+1))))
 (λe=>some (.r ())))
def bf (B:Sl Int) (D:Trace) (p5:Int):Option (Fw Int Unit Unit):=
 bg (decide (p5<(len B)))
 (W2 B p5 0 D)
 (some (.x ()))
def W1 (B:Sl Int) (p5:Int) (D:Trace):Option Bool:=
 (bG (λq:Int=>bf B D q) p5).bind (Fw.elim
 (λe=>some true)
 (λe=>some false))
end dJ
def dJ (D:Trace) (B:Sl Int):Option Bool:=
 dJ.W1 B 0 D
open dJ in
instance KM (D:Trace) (B:Sl Int):Fc Sy cL (dJ D B):=Fc.M 61 [enc D,enc B] (cm 2 2 D (cK 11 (λq=>(bC [Cv 1 B,Pv 2,Iv 5 q] [Xb 2 D])) (λt=>(0,(bC [] []))) (λt=>(bC [Bv 4 false] [])) (λq=>bL 6 B (bD 3 12 (cK 12 (λw=>(bC [Cv 1 B,Pv 2,Iv 5 q,Iv 6 w] [Xb 2 D])) (λu=>(2,(bC [Cv 1 B,Pv 2,Iv 5 q] [Xb 2 D]))) (λu=>(bC [Bv 4 false] [])) (λw=>bN 7 λA _=>bD 4 20 (bN 10 λC _=>bN 3 λz _=>gF 2 7 0 z (bD 9 34 (bz 6 λG _=>bN 11 λH _=>bD 4 46 aZ aZ) aZ)) aZ) (λu=>aZ) (λu=>aZ)) aZ)) (λt=>aZ) (λt=>aZ)))
def wJ (B:Trace) (D:Sl Int):Option Bool:=
 (mI B D).bind λq=>
 (bg q
 ((dJ B D).bind λt=>
 some t)
 (some false):Option Bool).bind λu=>
 some u
instance TV (B:Trace) (D:Sl Int):Fc Sy cL (wJ B D):=Fc.M 20 [enc B,enc D] (cm 2 2 B (bz 7 λq _=>bW 1 4 [1,2,8] 12 (bD 1 8 (bz 2 λt _=>bA 1) (bA 4)) λu=>aZ))
namespace iH
def bf (G:Sl Int) (D:Trace) (B:Sl (Sl Int)) (p6:Int):Option (Fw ((Sl (Sl Int))×Int) (Sl (Sl Int)) Empty):=
 bg (decide (p6<(len G)))
 ((idx G p6).bind λq=>
 (idx D.procs p6).bind λt=>
 (bg (decide (q<(len t.events)))
 ((qF G p6).bind λu=>
 (wJ D u).bind λw=>
 some w)
 (some false):Option Bool).bind λz=>
 bg z
 ((qF G p6).bind λA=>
 (gU B (A:Sl Int)).bind λC=>
 some (.n (C,IntKind.wrap .i64 (p6+1))))
 (some (.n (B,IntKind.wrap .i64 (p6+1)))))
 (some (.x B))
def W1 (G:Sl Int) (B:Sl (Sl Int)) (p6:Int) (D:Trace):Option (Sl (Sl Int)):=
 (bG (λq:(Sl (Sl Int))×Int=>bf G D q.1 q.2) (B,p6)).bind (Fw.elim
 (λe=>some e)
 (λe=>Empty.elim e))
end iH
def iH (B:Trace) (D:Sl Int):Option (Sl (Sl Int)):=
 iH.W1 D (Sl.nil:Sl (Sl Int)) 0 B
open iH in
instance R5 (B:Trace) (D:Sl Int):Fc Sy cL (iH B D):=Fc.N 21 [enc B,enc D] (cm 2 2 B (eF 17 (λq=>(bC [Cv 1 D,Pv 2,Ov 5,Iv 6 q.2] [Xb 2 B,Lb 2005 q.1])) (λt=>(0,(bC [Ov 5] [Lb 2005 t]))) (λq=>bL 7 D (bD 3 10 (bN 9 λA _=>bN 4 λw _=>bL 2 w.events (u_ 2 6 [30,29] (λu=>(bC [Cv 1 D,Pv 2,Ov 5,Iv 6 q.2,Bv 10 true,Bv 31 u] [Xb 2 B,Lb 2005 q.1])) (bD 2 25 (bz 3 λC _=>fc 0 λG _=>bA 1) (bA 6)) λu=>bD 2 31 (bz 5 λz _=>uQ 0 36 ([z]:List (Sl Int)) (pq 0 2005 36 37 λH _=>aZ)) aZ)) aZ)) (λt=>aZ)))
namespace gq
def bf (B:Sl Int) (D i4:Int):Option (Fw (Int×Int) Int Empty):=
 bg (decide (i4<(len B)))
 ((idx B i4).bind λq=>
 some (.n (IntKind.wrap .i64 (D+q),IntKind.wrap .i64 (i4+1))))
 (some (.x D))
def W1 (B:Sl Int) (D i4:Int):Option Int:=
 (bG (λq:Int×Int=>bf B q.1 q.2) (D,i4)).bind (Fw.elim
 (λe=>some e)
 (λe=>Empty.elim e))
end gq
def gq (B:Sl Int):Option Int:=
 gq.W1 B 0 0
open gq in
instance RQ (B:Sl Int):Fc Sy cL (gq B):=Fc.M 171 [enc B] (eF 18 (λq=>(bC [Cv 0 B,Iv 3 q.1,Iv 4 q.2] [])) (λt=>(0,(bC [Iv 3 t] []))) (λq=>bL 6 B (bD 3 8 (bN 9 λu _=>aZ) aZ)) (λt=>aZ))
namespace gG
def bf (D G:Sl Int) (B:Int):Option (Fw Int Unit Bool):=
 bg (decide (B<(len D)))
 ((idx D B).bind λq=>
 (idx G B).bind λt=>
 bg (q==t)
 (some (.n (IntKind.wrap .i64 (B+1))))
 ((idx D B).bind λu=>
 (idx G B).bind λw=>
 some (.r (decide (u<w)))))
 (some (.x ()))
def W1 (B D:Sl Int) (G:Int):Option Bool:=
 (bG (λq:Int=>bf B D q) G).bind (Fw.elim
 (λe=>some false)
 (λe=>some e))
end gG
def gG (B D:Sl Int):Option Bool:=
 (gq B).bind λq=>
 (gq D).bind λt=>
 bg (q==t)
 (gG.W1 B D 0)
 ((gq B).bind λu=>
 (gq D).bind λw=>
 some (decide (u<w)))
open gG in
instance Pg (B D:Sl Int):Fc Sy cL (gG B D):=Fc.M 150 [enc B,enc D] (bz 9 λu _=>bz 1 λw _=>cI 3 10 (cK 11 (λt=>(bC [Cv 0 B,Cv 1 D,Iv 5 t] [])) (λq=>(0,(bC [] []))) (λq=>(bC [Bv 4 q] [])) (λt=>bL 6 B (bD 3 19 (bN 9 λz _=>bN 3 λA _=>cI 4 30 aZ (bN 5 λC _=>bN 3 λG _=>aZ)) aZ)) (λq=>aZ) (λq=>aZ)) (bz 4 λH _=>bz 1 λI _=>aZ))
namespace ec
def bf (D G:Sl Int) (B:Int):Option (Fw Int Unit Unit):=
 bg (decide (B<(len D)))
 ((idx D B).bind λq=>
 (idx G B).bind λt=>
 bg (q==t)
 (some (.n (IntKind.wrap .i64 (B+1))))
 (some (.r ())))
 (some (.x ()))
def W1 (B D:Sl Int) (G:Int):Option Bool:=
 (bG (λq:Int=>bf B D q) G).bind (Fw.elim
 (λe=>some true)
 (λe=>some false))
end ec
def ec (B D:Sl Int):Option Bool:=
 bg ((len B)==(len D))
 (ec.W1 B D 0)
 (some false)
open ec in
instance MP (B D:Sl Int):Fc Sy cL (ec B D):=Fc.M 97 [enc B,enc D] (bL 9 B (bL 1 D (cI 3 10 (cK 11 (λt=>(bC [Cv 0 B,Cv 1 D,Iv 5 t] [])) (λq=>(0,(bC [] []))) (λq=>(bC [Bv 4 false] [])) (λt=>bL 6 B (bD 3 14 (bN 9 λu _=>bN 3 λw _=>cI 4 25 aZ aZ) aZ)) (λq=>aZ) (λq=>aZ)) aZ)))
namespace gK
def bf (D:Sl (Sl Int)) (G:Sl Int) (B:Int):Option (Fw Int Int Empty):=
 (bg (decide (B<(len D)))
 ((idx D B).bind λq=>
 (gG q G).bind λt=>
 some t)
 (some false):Option Bool).bind λu=>
 bg u
 (some (.n (IntKind.wrap .i64 (B+1))))
 (some (.x B))
def W1 (B:Sl (Sl Int)) (G:Sl Int) (D:Int):Option (Sl (Sl Int)):=
 (bG (λq:Int=>bf B G q) D).bind (Fw.elim
 (λe=>(bg (decide (e<(len B)))
 ((idx B e).bind λw=>
 (ec w G).bind λz=>
 some z)
 (some false):Option Bool).bind λA=>
 bg A
 (some B)
 ((fQ B none (some e)).bind λC=>
 (kI (Sl.row []:Sl (Sl Int)) C).bind λH=>
 (gU H (G:Sl Int)).bind λI=>
 (fQ B (some e) none).bind λt=>
 (kI I t).bind λu=>
 some u))
 (λe=>Empty.elim e))
end gK
def gK (B:Sl (Sl Int)) (D:Sl Int):Option (Sl (Sl Int)):=
 gK.W1 B D 0
open gK in
instance PJ (B:Sl (Sl Int)) (D:Sl Int):Fc Sy cL (gK B D):=Fc.N 124 [enc B,enc D] (eF 13 (λt=>(bC [Cv 0 B,Cv 1 D,Iv 5 t] [])) (λq=>(0,(bC [Cv 0 B,Cv 1 D,Iv 5 q] []))) (λt=>bL 6 B (bW 2 7 [11] 18 (bD 2 11 (bN 2 λz _=>bz 2 λA _=>bA 1) (bA 7)) λC=>bD 2 18 aZ aZ)) (λq=>bL 7 B (bW 2 7 [25] 32 (bD 2 25 (bN 2 λG _=>bz 2 λH _=>bA 1) (bA 7)) λI=>bD 2 32 aZ (uQ 5 34 ([]:List (Sl Int)) (zg 2 false true [.int .i64 q] λJ _=>vq 0 34 38 λL _=>uQ 7 41 ([D]:List (Sl Int)) (pq 0 38 41 42 λO _=>zg 8 true false [.int .i64 q] λu _=>vq 0 42 47 λw _=>aZ))))))
namespace eV
def dh (D J:Sl (Sl Int)) (W:Int) (O:Sl (Sl Int)) (U:Trace) (B:Sl (Sl Int)) (G:Int):Option (Fw ((Sl (Sl Int))×Int) (Sl (Sl Int)) Empty):=
 bg (decide (G<(len O)))
 ((idx O G).bind λq=>
 (gK B q).bind λt=>
 some (.n (t,IntKind.wrap .i64 (G+1))))
 (some (.x B))
def W3 (B G D:Sl (Sl Int)) (O:Int) (U:Sl (Sl Int)) (W:Int) (J:Trace):Option (Fw ((Sl (Sl Int))×Int) (Sl (Sl Int)) Empty):=
 (bG (λq:(Sl (Sl Int))×Int=>dh B G O U J q.1 q.2) (D,W)).bind (Fw.elim
 (λe=>some (.n (e,IntKind.wrap .i64 (O+1))))
 (λe=>Empty.elim e))
def bO (B G:Sl (Sl Int)) (J:Trace) (D:Sl (Sl Int)) (O:Int):Option (Fw ((Sl (Sl Int))×Int) (Sl (Sl Int)) Empty):=
 bg (decide (O<(len B)))
 ((idx B O).bind λq=>
 (iH J q).bind λt=>
 W3 B G D O t 0 J)
 (some (.x D))
def W2 (B D G:Sl (Sl Int)) (O:Int) (J:Trace):Option (Fw ((Sl (Sl Int))×(Sl (Sl Int))) (Sl (Sl Int)) Unit):=
 (bG (λq:(Sl (Sl Int))×Int=>bO B D J q.1 q.2) (G,O)).bind (Fw.elim
 (λe=>some (.n (e,D)))
 (λe=>Empty.elim e))
def bf (G:Trace) (B D:Sl (Sl Int)):Option (Fw ((Sl (Sl Int))×(Sl (Sl Int))) (Sl (Sl Int)) Unit):=
 bg (decide ((len B)>0))
 ((kI D B).bind λq=>
 bg (decide ((len q)>5000))
 (some (.r ()))
 (W2 B q (Sl.nil:Sl (Sl Int)) 0 G))
 (some (.x D))
def W1 (B D:Sl (Sl Int)) (G:Trace):Option ((Sl (Sl Int))×Bool):=
 (bG (λq:(Sl (Sl Int))×(Sl (Sl Int))=>bf G q.1 q.2) (B,D)).bind (Fw.elim
 (λe=>some (e,true))
 (λe=>some ((Sl.nil:Sl (Sl Int)),false)))
end eV
def eV (B:Trace):Option ((Sl (Sl Int))×Bool):=
 (kf (len B.procs) (0:Int)).bind λq=>
 eV.W1 (Sl.row [q]:Sl (Sl Int)) (Sl.nil:Sl (Sl Int)) B
open eV in
instance RR (B:Trace):Fc Sy cL (eV B):=Fc.N 96 [enc B] (cm 2 1 B (bL 8 B.procs (IP 0 13 λG _=>uQ 1 14 ([G]:List (Sl Int)) (cK 13 (λq=>(bC [Pv 1,Cv 4 q.1,Ov 5] [Xb 1 B,Lb 2005 q.2])) (λw=>(0,(bC [Ov 5] [Lb 2005 w]))) (λw=>(bC [Ov 2,Bv 3 false] [Lb 2002 (Sl.nil:Sl (Sl Int))])) (λq=>bL 7 q.1 (bD 3 17 (vq 8 2005 20 λt _=>Cb 7 20 t (bD 3 23 aZ (eF 18 (λu=>(bC [Pv 1,Cv 4 q.1,Ov 5,Cv 6 u.1,Iv 7 u.2] [Xb 1 B,Lb 2005 t])) (λA=>(2,(bC [Pv 1,Ov 5,Cv 6 A] [Xb 1 B,Lb 2005 t]))) (λu=>bL 8 q.1 (bD 3 27 (bN 10 λH _=>bz 1 λC _=>eF 12 (λz=>(bC [Pv 1,Cv 4 q.1,Ov 5,Cv 6 z.1,Iv 7 u.2,Cv 8 C,Iv 9 z.2] [Xb 1 B,Lb 2005 t])) (λD=>(4,(bC [Pv 1,Cv 4 q.1,Ov 5,Cv 6 D,Iv 7 u.2] [Xb 1 B,Lb 2005 t]))) (λz=>bL 8 C (bD 3 39 (bN 9 λI _=>bz 1 λJ _=>aZ) aZ)) (λD=>aZ)) aZ)) (λA=>aZ)))) aZ)) (λw=>aZ) (λw=>aZ)))))
def wN (B:Trace):Option ((Sl (Sl Int))×Bool):=
 (eB B).bind λt=>
 bg t
 ((eV B).bind λq=>
 some (q.1,q.2))
 (some (Sl.nil,false))
instance RE (B:Trace):Fc Sy cL (wN B):=Fc.N 53 [enc B] (cm 2 1 B (bz 8 λq _=>cI 3 6 (bz 6 λt _=>aZ) aZ))
def uF (B:Trace):Option ((Sl (Sl Int))×Bool):=
 (wN B).bind λq=>
 (bg q.2
 (some (decide ((len q.1)<=400)))
 (some false):Option Bool).bind λt=>
 some (q.1,t)
instance PA (B:Trace):Fc Sy cL (uF B):=Fc.N 15 [enc B] (cm 2 1 B (bz 7 λq _=>bW 12 4 [4,13] 17 (bD 12 13 (bL 1 q.1 (bA 2)) (bA 4)) λt=>aZ))
def sC (G:Trace) (s1:Slice) (B:Sl Int):Option Bool:=
 (bg s1.empty
 (some false)
 ((fW G B).bind λq=>
 some q):Option Bool).bind λt=>
 (bg t
 ((eA s1.first B).bind λu=>
 some u)
 (some false):Option Bool).bind λw=>
 (bg w
 ((eA B s1.last).bind λz=>
 some z)
 (some false):Option Bool).bind λA=>
 (bg A
 ((dW s1 B).bind λC=>
 some C)
 (some false):Option Bool).bind λD=>
 some D
instance Sj (B:Trace) (s1:Slice) (D:Sl Int):Fc Sy cL (sC B s1 D):=Fc.M 69 [enc B,enc s1,enc D] (cm 2 3 B (cm 0 4 s1 (bW 9 4 [3,10] 14 (cI 9 10 (bA 4) (bz 2 λq _=>bA 1)) λt=>bW 1 5 [15] 20 (bD 1 15 (bz 3 λu _=>bA 1) (bA 5)) λw=>bW 1 5 [21] 26 (bD 1 21 (bz 3 λz _=>bA 1) (bA 5)) λA=>bW 1 4 [2,4,27] 31 (bD 1 27 (bz 2 λC _=>bA 1) (bA 4)) λG=>aZ)))
namespace jy
def bf (B:Sl (Sl Int)) (G:Trace) (J:Slice) (D:Sl Bool) (i8:Int):Option (Fw ((Sl Bool)×Int) (Sl Bool) Empty):=
 bg (decide (i8<(len B)))
 ((idx B i8).bind λq=>
 (sC G J q).bind λt=>
 (gU D (t:Bool)).bind λu=>
 some (.n (u,IntKind.wrap .i64 (i8+1))))
 (some (.x D))
def W1 (B:Sl (Sl Int)) (D:Sl Bool) (i8:Int) (G:Trace) (J:Slice):Option (Sl Bool):=
 (bG (λq:(Sl Bool)×Int=>bf B G J q.1 q.2) (D,i8)).bind (Fw.elim
 (λe=>some e)
 (λe=>Empty.elim e))
end jy
def jy (D:Trace) (B:Sl (Sl Int)) (G:Slice):Option (Sl Bool):=
 jy.W1 B (Sl.nil:Sl Bool) 0 D G
open jy in
instance TY (D:Trace) (B:Sl (Sl Int)) (G:Slice):Fc Sy cL (jy D B G):=Fc.N 56 [enc D,enc B,enc G] (cm 2 3 D (cm 0 5 G (eF 17 (λq=>(bC [Cv 1 B,Pv 3,Pv 5,Ov 7,Iv 8 q.2] [Xb 3 D,Xb 5 G,Lb 2007 q.1])) (λt=>(0,(bC [Ov 7] [Lb 2007 t]))) (λq=>bL 7 B (bD 3 12 (bN 11 λu _=>fc 1 λw _=>pq 1 2007 23 24 λz _=>aZ) aZ)) (λt=>aZ))))
namespace lE
def bf (D G:Sl Int) (B:Int):Option (Fw Int Unit Unit):=
 bg (decide (B<(len D)))
 ((idx D B).bind λq=>
 (idx G B).bind λt=>
 bg (decide (q>t))
 (some (.r ()))
 (some (.n (IntKind.wrap .i64 (B+1)))))
 (some (.x ()))
def W1 (B D:Sl Int) (G:Int):Option Bool:=
 (bG (λq:Int=>bf B D q) G).bind (Fw.elim
 (λe=>some true)
 (λe=>some false))
end lE
def lE (B D:Sl Int):Option Bool:=
 lE.W1 B D 0
open lE in
instance TR (B D:Sl Int):Fc Sy cL (lE B D):=Fc.M 57 [enc B,enc D] (cK 13 (λt=>(bC [Cv 0 B,Cv 1 D,Iv 5 t] [])) (λq=>(0,(bC [] []))) (λq=>(bC [Bv 4 false] [])) (λt=>bL 6 B (bD 3 9 (bN 9 λu _=>bN 3 λw _=>bD 4 20 aZ aZ) aZ)) (λq=>aZ) (λq=>aZ))
namespace lP
def bf (G J:Sl Int) (B:Sl Int) (D:Int):Option (Fw ((Sl Int)×Int) (Sl Int) Empty):=
 bg (decide (D<(len G)))
 ((idx G D).bind λq=>
 (idx J D).bind λt=>
 (gU B ((if t<q then t else q):Int)).bind λu=>
 some (.n (u,IntKind.wrap .i64 (D+1))))
 (some (.x B))
def W1 (D G B:Sl Int) (J:Int):Option (Sl Int):=
 (bG (λq:(Sl Int)×Int=>bf D G q.1 q.2) (B,J)).bind (Fw.elim
 (λe=>some e)
 (λe=>Empty.elim e))
end lP
def lP (B D:Sl Int):Option (Sl Int):=
 lP.W1 B D (Sl.nil:Sl Int) 0
open lP in
instance RB (B D:Sl Int):Fc Sy cL (lP B D):=Fc.N 110 [enc B,enc D] (eF 19 (λq=>(bC [Cv 0 B,Cv 1 D,Ov 5,Iv 6 q.2] [Lb 2005 q.1])) (λt=>(0,(bC [Ov 5] [Lb 2005 t]))) (λq=>bL 7 B (bD 3 10 (bN 9 λu _=>bN 3 λw _=>pq 3 2005 23 24 λz _=>aZ) aZ)) (λt=>aZ))
namespace mS
def bf (G J:Sl Int) (B:Sl Int) (D:Int):Option (Fw ((Sl Int)×Int) (Sl Int) Empty):=
 bg (decide (D<(len G)))
 ((idx G D).bind λq=>
 (idx J D).bind λt=>
 (gU B ((if t>q then t else q):Int)).bind λu=>
 some (.n (u,IntKind.wrap .i64 (D+1))))
 (some (.x B))
def W1 (D G B:Sl Int) (J:Int):Option (Sl Int):=
 (bG (λq:(Sl Int)×Int=>bf D G q.1 q.2) (B,J)).bind (Fw.elim
 (λe=>some e)
 (λe=>Empty.elim e))
end mS
def mS (B D:Sl Int):Option (Sl Int):=
 mS.W1 B D (Sl.nil:Sl Int) 0
open mS in
instance Rz (B D:Sl Int):Fc Sy cL (mS B D):=Fc.N 111 [enc B,enc D] (eF 19 (λq=>(bC [Cv 0 B,Cv 1 D,Ov 5,Iv 6 q.2] [Lb 2005 q.1])) (λt=>(0,(bC [Ov 5] [Lb 2005 t]))) (λq=>bL 7 B (bD 3 10 (bN 9 λu _=>bN 3 λw _=>pq 3 2005 23 24 λz _=>aZ) aZ)) (λt=>aZ))
namespace c6
def kT (l1:Sl (Sl Int)) (p7:Int) (U:Sl (Sl Int)) (W:Slice) (O:Int) (D:Sl Int) (B:Int) (G:Trace) (J:Slice):Option (Fw (Int×(Sl Int)×Int×Trace×Slice) (Int×(Sl Int)×Trace×Slice) Empty):=
 bg (decide (B<(len l1)))
 ((idx l1 B).bind λq=>
 (idx q p7).bind λt=>
 bg (decide (t<=O))
 (some (.n (O,D,IntKind.wrap .i64 (B+1),G,(⟨J.empty,Sl.nil,Sl.nil,Sl.nil⟩:Slice))))
 (bg ((len D)==0)
 ((idx l1 B).bind λu=>
 (kI (Sl.row []:Sl Int) u).bind λw=>
 some (.n (O,w,IntKind.wrap .i64 (B+1),G,(⟨J.empty,Sl.nil,Sl.nil,Sl.nil⟩:Slice))))
 ((idx l1 B).bind λz=>
 (lP D z).bind λA=>
 some (.n (O,A,IntKind.wrap .i64 (B+1),G,(⟨J.empty,Sl.nil,Sl.nil,Sl.nil⟩:Slice))))))
 (some (.x (O,D,G,(⟨J.empty,Sl.nil,Sl.nil,Sl.nil⟩:Slice))))
def W4 (l1:Sl (Sl Int)) (p7:Int) (B:Sl (Sl Int)) (W:Int) (G:Sl Int) (J:Int) (O:Trace) (U D:Slice):Option (Fw ((Sl (Sl Int))×Int×Trace×Slice×Slice) ((Sl (Sl Int))×Trace×Slice×Slice) Empty):=
 (bG (λq:Int×(Sl Int)×Int×Trace×Slice=>kT l1 p7 B D q.1 q.2.1 q.2.2.1 q.2.2.2.1 q.2.2.2.2) (W,G,J,O,U)).bind (Fw.elim
 (λe=>(gU B (e.2.1:Sl Int)).bind λt=>
 some (.n (t,IntKind.wrap .i64 (e.1+1),e.2.2.1,(⟨e.2.2.2.empty,Sl.nil,Sl.nil,Sl.nil⟩:Slice),D)))
 (λe=>Empty.elim e))
def dh (l1:Sl (Sl Int)) (p7:Int) (B:Sl (Sl Int)) (O:Int) (D:Trace) (G J:Slice):Option (Fw ((Sl (Sl Int))×Int×Trace×Slice×Slice) ((Sl (Sl Int))×Trace×Slice×Slice) Empty):=
 (idx D.procs p7).bind λq=>
 bg (decide (O<(len q.events)))
 (W4 l1 p7 B O (Sl.nil:Sl Int) 0 D (⟨G.empty,Sl.nil,Sl.nil,Sl.nil⟩:Slice) J)
 (some (.x (B,D,(⟨G.empty,Sl.nil,Sl.nil,Sl.nil⟩:Slice),J)))
def W3 (l1:Sl (Sl Int)) (p7:Int) (B:Sl (Sl Int)) (O:Int) (D:Trace) (G J:Slice):Option (Fw (Int×Trace×Slice×Slice) (Slice×Slice) Empty):=
 (bG (λq:(Sl (Sl Int))×Int×Trace×Slice×Slice=>dh l1 p7 q.1 q.2.1 q.2.2.1 q.2.2.2.1 q.2.2.2.2) (B,O,D,G,J)).bind (Fw.elim
 (λe=>(gU e.2.2.2.j (e.1:Sl (Sl Int))).bind λt=>
 some (.n (IntKind.wrap .i64 (p7+1),e.2.1,(⟨e.2.2.1.empty,Sl.nil,Sl.nil,Sl.nil⟩:Slice),(⟨e.2.2.2.empty,e.2.2.2.first,e.2.2.2.last,t⟩:Slice))))
 (λe=>Empty.elim e))
def bO (l1:Sl (Sl Int)) (p7:Int) (B:Trace) (D G:Slice):Option (Fw (Int×Trace×Slice×Slice) (Slice×Slice) Empty):=
 bg (decide (p7<(len B.procs)))
 (W3 l1 p7 (Sl.nil:Sl (Sl Int)) 0 B (⟨D.empty,Sl.nil,Sl.nil,Sl.nil⟩:Slice) G)
 (some (.x ((⟨D.empty,Sl.nil,Sl.nil,Sl.nil⟩:Slice),G)))
def W2 (l1:Sl (Sl Int)) (p7:Int) (B:Trace) (D G:Slice):Option Slice:=
 (bG (λq:Int×Trace×Slice×Slice=>bO l1 q.1 q.2.1 q.2.2.1 q.2.2.2) (p7,B,D,G)).bind (Fw.elim
 (λe=>some e.2)
 (λe=>Empty.elim e))
def bf (l1:Sl (Sl Int)) (G:Trace) (k6:Int) (D B:Slice):Option (Fw (Int×Slice×Slice) (Slice×Slice) Empty):=
 bg (decide (k6<(len l1)))
 ((idx l1 k6).bind λq=>
 (lP B.first q).bind λt=>
 (idx l1 k6).bind λu=>
 (mS B.last u).bind λw=>
 some (.n (IntKind.wrap .i64 (k6+1),(⟨D.empty,Sl.nil,Sl.nil,Sl.nil⟩:Slice),(⟨B.empty,t,w,Sl.nil⟩:Slice))))
 (some (.x ((⟨D.empty,Sl.nil,Sl.nil,Sl.nil⟩:Slice),(⟨B.empty,B.first,B.last,Sl.nil⟩:Slice))))
def W1 (l1:Sl (Sl Int)) (k6:Int) (B:Trace) (D G:Slice):Option Slice:=
 (bG (λq:Int×Slice×Slice=>bf l1 B q.1 q.2.1 q.2.2) (k6,D,G)).bind (Fw.elim
 (λe=>c6.W2 l1 0 B (⟨e.1.empty,Sl.nil,Sl.nil,Sl.nil⟩:Slice) (⟨e.2.empty,e.2.first,e.2.last,Sl.nil⟩:Slice))
 (λe=>Empty.elim e))
end c6
def c6 (B:Trace) (l1:Sl (Sl Int)):Option Slice:=
 bg ((len l1)==0)
 (some ⟨true,Sl.nil,Sl.nil,Sl.nil⟩)
 ((idx l1 0).bind λq=>
 (kI (Sl.emp:Sl Int) q).bind λt=>
 (idx l1 0).bind λu=>
 (kI (Sl.row []:Sl Int) u).bind λw=>
 c6.W1 l1 1 B (⟨false,Sl.nil,Sl.nil,Sl.nil⟩:Slice) (⟨false,t,w,Sl.nil⟩:Slice))
open c6 in
instance R8 (D:Trace) (l1:Sl (Sl Int)):Fc Sy cL (c6 D l1):=Fc.N 70 [enc D,enc l1] (cm 2 2 D (bL 7 l1 (bD 3 14 (yJ 3 (⟨true,Sl.nil,Sl.nil,Sl.nil⟩:Slice) [.bool true] [.bool false,.bH,.bH,.bH] [(0,1)] (by simp only[lq,mF,fT,qx,oA,qt,qA];rfl) rfl (gF 0 4 0 (⟨true,Sl.nil,Sl.nil,Sl.nil⟩:Slice) aZ)) (VI (α:=Int) 5 (bN 1 λX _=>Uz 1 20 (.inr rfl) λY _=>bN 2 λZ _=>vq 1 21 25 λaa _=>US 0 [.own 20,.own 25] [bv false,.own 20,.own 25,.v .bH] [.bool false,.bH,.bH,.bH] [(1,1),(2,1)] (by simp only[BV,Md,OC,KH,Ml,JM,fT,qx,oA,qt,qA];rfl) (VS 1 5 0 [bv false,.own 20,.own 25,.v .bH] (by simp only[List.all_cons,SG,MZ,Rq,NO,rT,o8,rF,pM,Rw];rfl) (eF 12 (λA=>(bC [Cv 1 l1,Pv 2,Pv 4,Pv 5,Iv 6 A.1] [Xb 2 D,Xb 4 (⟨A.2.1.empty,Sl.nil,Sl.nil,Sl.nil⟩:Slice),Xb 5 (⟨A.2.2.empty,A.2.2.first,A.2.2.last,Sl.nil⟩:Slice)])) (λC=>(0,(bC [Cv 1 l1,Pv 2,Pv 4,Pv 5] [Xb 2 D,Xb 4 (⟨C.1.empty,Sl.nil,Sl.nil,Sl.nil⟩:Slice),Xb 5 (⟨C.2.empty,C.2.first,C.2.last,Sl.nil⟩:Slice)]))) (λA=>bL 8 l1 (bD 3 30 (bN 11 λab _=>bz 1 λG _=>gF 1 5 1 G (bN 7 λad _=>bz 1 λH _=>gF 1 5 2 H aZ)) aZ)) (λC=>eF 13 (λt=>(bC [Cv 1 l1,Pv 2,Pv 4,Pv 5,Iv 7 t.1] [Xb 2 t.2.1,Xb 4 (⟨t.2.2.1.empty,Sl.nil,Sl.nil,Sl.nil⟩:Slice),(5,.box [bv t.2.2.2.empty,cv t.2.2.2.first,cv t.2.2.2.last,.own 4103]),Lb 4103 t.2.2.2.j])) (λw=>(2,(bC [Pv 4,Pv 5] [Xb 4 (⟨w.1.empty,Sl.nil,Sl.nil,Sl.nil⟩:Slice),(5,.box [bv w.2.empty,cv w.2.first,cv w.2.last,.own 4103]),Lb 4103 w.2.j]))) (λt=>bL 10 t.2.1.procs (bD 3 53 (eF 22 (λq=>(bC [Cv 1 l1,Pv 2,Pv 4,Pv 5,Iv 7 t.1,Ov 8,Iv 9 q.2.1] [Xb 2 q.2.2.1,Xb 4 (⟨q.2.2.2.1.empty,Sl.nil,Sl.nil,Sl.nil⟩:Slice),(5,.box [bv q.2.2.2.2.empty,cv q.2.2.2.2.first,cv q.2.2.2.2.last,.own 4103]),Lb 2008 q.1,Lb 4103 q.2.2.2.2.j])) (λu=>(4,(bC [Cv 1 l1,Pv 2,Pv 4,Pv 5,Iv 7 t.1,Ov 8] [Xb 2 u.2.1,Xb 4 (⟨u.2.2.1.empty,Sl.nil,Sl.nil,Sl.nil⟩:Slice),(5,.box [bv u.2.2.2.empty,cv u.2.2.2.first,cv u.2.2.2.last,.own 4103]),Lb 2008 u.1,Lb 4103 u.2.2.2.j]))) (λq=>bN 12 λI _=>bL 2 I.events (bD 3 64 (eF 23 (λz=>(bC [Cv 1 l1,Pv 2,Pv 4,Pv 5,Iv 7 t.1,Ov 8,Iv 9 z.1,Cv 10 z.2.1,Iv 11 z.2.2.1] [Xb 2 z.2.2.2.1,Xb 4 (⟨z.2.2.2.2.empty,Sl.nil,Sl.nil,Sl.nil⟩:Slice),(5,.box [bv q.2.2.2.2.empty,cv q.2.2.2.2.first,cv q.2.2.2.2.last,.own 4103]),Lb 2008 q.1,Lb 4103 q.2.2.2.2.j])) (λB=>(6,(bC [Cv 1 l1,Pv 2,Pv 4,Pv 5,Iv 7 t.1,Ov 8,Iv 9 B.1,Cv 10 B.2.1] [Xb 2 B.2.2.1,Xb 4 (⟨B.2.2.2.empty,Sl.nil,Sl.nil,Sl.nil⟩:Slice),(5,.box [bv q.2.2.2.2.empty,cv q.2.2.2.2.first,cv q.2.2.2.2.last,.own 4103]),Lb 2008 q.1,Lb 4103 q.2.2.2.2.j]))) (λz=>bL 11 l1 (bD 3 70 (bN 10 λJ _=>bN 2 λL _=>bD 5 81 aZ (bL 6 z.2.1 (bD 3 84 (bN 5 λO _=>vq 1 85 90 λQ _=>aZ) (bN 5 λS _=>bz 1 λT _=>aZ)))) aZ)) (λB=>uQ 5 99 ([B.2.1]:List (Sl Int)) (pq 0 2008 99 100 λU _=>aZ))) aZ)) (λu=>uQ 7 104 ([u.1]:List (Sl (Sl Int))) (pq 0 4103 104 105 λW _=>aZ))) aZ)) (λw=>gF 6 4 0 w.2 aZ)))))))))
namespace ey
def bf (B:Sl (Sl Int)) (O:Sl Bool) (J:Trace) (D:Sl (Sl Int)) (i8:Int) (G:Slice):Option (Fw ((Sl (Sl Int))×Int×Slice) ((Sl (Sl Int))×Trace×Slice) Empty):=
 bg (decide (i8<(len B)))
 ((idx O i8).bind λq=>
 bg q
 ((idx B i8).bind λt=>
 (gU D (t:Sl Int)).bind λu=>
 some (.n (u,IntKind.wrap .i64 (i8+1),(⟨G.empty,Sl.nil,Sl.nil,Sl.nil⟩:Slice))))
 (some (.n (D,IntKind.wrap .i64 (i8+1),(⟨G.empty,Sl.nil,Sl.nil,Sl.nil⟩:Slice)))))
 (some (.x (D,J,(⟨G.empty,Sl.nil,Sl.nil,Sl.nil⟩:Slice))))
def W1 (B:Sl (Sl Int)) (O:Sl Bool) (D:Sl (Sl Int)) (i8:Int) (G:Trace) (J:Slice):Option Slice:=
 (bG (λq:(Sl (Sl Int))×Int×Slice=>bf B O G q.1 q.2.1 q.2.2) (D,i8,J)).bind (Fw.elim
 (λe=>(c6 e.2.1 e.1).bind λt=>
 some t)
 (λe=>Empty.elim e))
end ey
def ey (D:Trace) (B:Sl (Sl Int)) (G:Sl Bool):Option Slice:=
 ey.W1 B G (Sl.nil:Sl (Sl Int)) 0 D (⟨false,Sl.nil,Sl.nil,Sl.nil⟩:Slice)
open ey in
instance Pp (D:Trace) (B:Sl (Sl Int)) (G:Sl Bool):Fc Sy cL (ey D B G):=Fc.N 58 [enc D,enc B,enc G] (cm 2 3 D (eF 17 (λq=>(bC [Cv 1 B,Cv 2 G,Pv 3,Pv 6,Ov 7,Iv 8 q.2.1] [Xb 3 D,Xb 6 (⟨q.2.2.empty,Sl.nil,Sl.nil,Sl.nil⟩:Slice),Lb 2007 q.1])) (λt=>(0,(bC [Pv 3,Pv 6,Ov 7] [Xb 3 t.2.1,Xb 6 (⟨t.2.2.empty,Sl.nil,Sl.nil,Sl.nil⟩:Slice),Lb 2007 t.1]))) (λq=>bL 7 B (bD 3 12 (bN 9 λz _=>bD 3 18 (bN 5 λu _=>uQ 1 24 ([u]:List (Sl Int)) (pq 0 2007 24 25 λA _=>aZ)) aZ) aZ)) (λt=>bz 7 λw _=>gF 0 6 0 w aZ)))
namespace jb
def bO (B:Sl (Sl Int)) (U:Sl Bool) (O:Int) (W:Trace) (D:Sl Bool) (G:Int) (J:Slice):Option (Fw ((Sl Bool)×Int×Slice) ((Sl Bool)×Slice) Empty):=
 bg (decide (G<(len B)))
 ((idx U G).bind λq=>
 (bg q
 ((idx B O).bind λt=>
 (idx B G).bind λu=>
 (lE t u).bind λw=>
 some w)
 (some false):Option Bool).bind λz=>
 bg z
 ((Sl.lQ D O).bind λA=>
 (Sl.put D A (true:Bool)).bind λC=>
 some (.n (C,IntKind.wrap .i64 (G+1),(⟨J.empty,Sl.nil,Sl.nil,Sl.nil⟩:Slice))))
 (some (.n (D,IntKind.wrap .i64 (G+1),(⟨J.empty,Sl.nil,Sl.nil,Sl.nil⟩:Slice)))))
 (some (.x (D,(⟨J.empty,Sl.nil,Sl.nil,Sl.nil⟩:Slice))))
def W2 (B:Sl (Sl Int)) (W D:Sl Bool) (U G:Int) (J:Trace) (O:Slice):Option (Fw ((Sl Bool)×Int×Slice) ((Sl Bool)×Slice) Empty):=
 (bG (λq:(Sl Bool)×Int×Slice=>bO B W U J q.1 q.2.1 q.2.2) (D,G,O)).bind (Fw.elim
 (λe=>some (.n (e.1,IntKind.wrap .i64 (U+1),(⟨e.2.empty,Sl.nil,Sl.nil,Sl.nil⟩:Slice))))
 (λe=>Empty.elim e))
def bf (B:Sl (Sl Int)) (U:Sl Bool) (J:Trace) (D:Sl Bool) (O:Int) (G:Slice):Option (Fw ((Sl Bool)×Int×Slice) ((Sl Bool)×Slice) Empty):=
 bg (decide (O<(len B)))
 (W2 B U D O O J (⟨G.empty,Sl.nil,Sl.nil,Sl.nil⟩:Slice))
 (some (.x (D,(⟨G.empty,Sl.nil,Sl.nil,Sl.nil⟩:Slice))))
def W1 (B:Sl (Sl Int)) (O D:Sl Bool) (U:Int) (G:Trace) (J:Slice):Option Slice:=
 (bG (λq:(Sl Bool)×Int×Slice=>bf B O G q.1 q.2.1 q.2.2) (D,U,J)).bind (Fw.elim
 (λe=>(ey G B e.1).bind λt=>
 some t)
 (λe=>Empty.elim e))
end jb
def jb (D:Trace) (B:Sl (Sl Int)) (G:Slice):Option Slice:=
 (jy D B G).bind λq=>
 (kf (len B) (false:Bool)).bind λt=>
 jb.W1 B q t 0 D (⟨false,Sl.nil,Sl.nil,Sl.nil⟩:Slice)
open jb in
instance TW (D:Trace) (B:Sl (Sl Int)) (G:Slice):Fc Sy cL (jb D B G):=Fc.N 17 [enc D,enc B,enc G] (cm 2 3 D (cm 0 5 G (bz 8 λu _=>bL 6 B (IP 0 17 λH _=>eF 12 (λq=>(bC [Cv 1 B,Pv 3,Pv 6,Cv 7 u,Ov 8,Iv 9 q.2.1] [Xb 3 D,Xb 6 (⟨q.2.2.empty,Sl.nil,Sl.nil,Sl.nil⟩:Slice),Lb 2008 q.1])) (λw=>(0,(bC [Cv 1 B,Pv 3,Pv 6,Ov 8] [Xb 3 D,Xb 6 (⟨w.2.empty,Sl.nil,Sl.nil,Sl.nil⟩:Slice),Lb 2008 w.1]))) (λq=>bL 7 B (bD 3 21 (eF 14 (λt=>(bC [Cv 1 B,Pv 3,Pv 6,Cv 7 u,Ov 8,Iv 9 q.2.1,Iv 10 t.2.1] [Xb 3 D,Xb 6 (⟨t.2.2.empty,Sl.nil,Sl.nil,Sl.nil⟩:Slice),Lb 2008 t.1])) (λz=>(2,(bC [Cv 1 B,Pv 3,Pv 6,Cv 7 u,Ov 8,Iv 9 q.2.1] [Xb 3 D,Xb 6 (⟨z.2.empty,Sl.nil,Sl.nil,Sl.nil⟩:Slice),Lb 2008 z.1]))) (λt=>bL 7 B (bD 3 28 (bN 9 λI _=>u_ 2 10 [44] (λA=>(bC [Cv 1 B,Pv 3,Pv 6,Cv 7 u,Ov 8,Iv 9 q.2.1,Iv 10 t.2.1,Bv 28 true,Bv 45 A] [Xb 3 D,Xb 6 (⟨t.2.2.empty,Sl.nil,Sl.nil,Sl.nil⟩:Slice),Lb 2008 t.1])) (bD 2 35 (bN 2 λJ _=>bN 3 λL _=>fc 1 λO _=>bA 1) (bA 10)) λA=>bD 2 45 (mc .i64 4 2008 λQ _=>vE 0 2008 (.bool true) λS _=>aZ) aZ) aZ)) (λz=>aZ)) aZ)) (λw=>bz 8 λC _=>gF 0 6 0 C aZ)))))
namespace i_
def bO (B:Sl (Sl Int)) (U:Sl Bool) (O:Int) (W:Trace) (D:Sl Bool) (G:Int) (J:Slice):Option (Fw ((Sl Bool)×Int×Slice) ((Sl Bool)×Slice) Empty):=
 bg (decide (G<(len B)))
 ((idx U G).bind λu=>
 (bg u
 (some false)
 ((idx B O).bind λw=>
 (idx B G).bind λz=>
 (lE w z).bind λA=>
 some A):Option Bool).bind λC=>
 bg C
 ((Sl.lQ D O).bind λq=>
 (Sl.put D q (false:Bool)).bind λt=>
 some (.n (t,IntKind.wrap .i64 (G+1),(⟨J.empty,Sl.nil,Sl.nil,Sl.nil⟩:Slice))))
 (some (.n (D,IntKind.wrap .i64 (G+1),(⟨J.empty,Sl.nil,Sl.nil,Sl.nil⟩:Slice)))))
 (some (.x (D,(⟨J.empty,Sl.nil,Sl.nil,Sl.nil⟩:Slice))))
def W2 (B:Sl (Sl Int)) (W D:Sl Bool) (U G:Int) (J:Trace) (O:Slice):Option (Fw ((Sl Bool)×Int×Slice) ((Sl Bool)×Slice) Empty):=
 (bG (λq:(Sl Bool)×Int×Slice=>bO B W U J q.1 q.2.1 q.2.2) (D,G,O)).bind (Fw.elim
 (λe=>some (.n (e.1,IntKind.wrap .i64 (U+1),(⟨e.2.empty,Sl.nil,Sl.nil,Sl.nil⟩:Slice))))
 (λe=>Empty.elim e))
def bf (B:Sl (Sl Int)) (U:Sl Bool) (O:Trace) (D:Sl Bool) (J:Int) (G:Slice):Option (Fw ((Sl Bool)×Int×Slice) ((Sl Bool)×Slice) Empty):=
 bg (decide (J<(len B)))
 ((Sl.lQ D J).bind λq=>
 (Sl.put D q (true:Bool)).bind λt=>
 W2 B U t J J O (⟨G.empty,Sl.nil,Sl.nil,Sl.nil⟩:Slice))
 (some (.x (D,(⟨G.empty,Sl.nil,Sl.nil,Sl.nil⟩:Slice))))
def W1 (B:Sl (Sl Int)) (O D:Sl Bool) (U:Int) (G:Trace) (J:Slice):Option Slice:=
 (bG (λq:(Sl Bool)×Int×Slice=>bf B O G q.1 q.2.1 q.2.2) (D,U,J)).bind (Fw.elim
 (λe=>(ey G B e.1).bind λt=>
 some t)
 (λe=>Empty.elim e))
end i_
def i_ (D:Trace) (B:Sl (Sl Int)) (G:Slice):Option Slice:=
 (jy D B G).bind λq=>
 (kf (len B) (false:Bool)).bind λt=>
 i_.W1 B q t 0 D (⟨false,Sl.nil,Sl.nil,Sl.nil⟩:Slice)
open i_ in
instance TT (D:Trace) (B:Sl (Sl Int)) (G:Slice):Fc Sy cL (i_ D B G):=Fc.N 18 [enc D,enc B,enc G] (cm 2 3 D (cm 0 5 G (bz 8 λu _=>bL 6 B (IP 0 17 λJ _=>eF 12 (λq=>(bC [Cv 1 B,Pv 3,Pv 6,Cv 7 u,Ov 8,Iv 9 q.2.1] [Xb 3 D,Xb 6 (⟨q.2.2.empty,Sl.nil,Sl.nil,Sl.nil⟩:Slice),Lb 2008 q.1])) (λw=>(0,(bC [Cv 1 B,Pv 3,Pv 6,Ov 8] [Xb 3 D,Xb 6 (⟨w.2.empty,Sl.nil,Sl.nil,Sl.nil⟩:Slice),Lb 2008 w.1]))) (λq=>bL 7 B (bD 3 21 (mc .i64 9 2008 λL _=>vE 0 2008 (.bool true) λO _=>eF 11 (λt=>(bC [Cv 1 B,Pv 3,Pv 6,Cv 7 u,Ov 8,Iv 9 q.2.1,Iv 10 t.2.1] [Xb 3 D,Xb 6 (⟨t.2.2.empty,Sl.nil,Sl.nil,Sl.nil⟩:Slice),Lb 2008 t.1])) (λz=>(2,(bC [Cv 1 B,Pv 3,Pv 6,Cv 7 u,Ov 8,Iv 9 q.2.1] [Xb 3 D,Xb 6 (⟨z.2.empty,Sl.nil,Sl.nil,Sl.nil⟩:Slice),Lb 2008 z.1]))) (λt=>bL 7 B (bD 3 31 (bN 9 λQ _=>u_ 3 10 [48] (λA=>(bC [Cv 1 B,Pv 3,Pv 6,Cv 7 u,Ov 8,Iv 9 q.2.1,Iv 10 t.2.1,Bv 31 true,Bv 49 A] [Xb 3 D,Xb 6 (⟨t.2.2.empty,Sl.nil,Sl.nil,Sl.nil⟩:Slice),Lb 2008 t.1])) (cI 3 39 (bA 10) (bN 2 λS _=>bN 3 λT _=>fc 1 λU _=>bA 1)) λA=>bD 2 49 (mc .i64 4 2008 λH _=>vE 0 2008 (.bool false) λI _=>aZ) aZ) aZ)) (λz=>aZ)) aZ)) (λw=>bz 8 λC _=>gF 0 6 0 C aZ)))))
namespace lM
def bf (D:Sl (Sl Int)) (G:Sl Int) (B:Int):Option (Fw Int Unit Int):=
 bg (decide (B<(len D)))
 ((idx D B).bind λq=>
 (ec q G).bind λt=>
 bg t
 (some (.r B))
 (some (.n (IntKind.wrap .i64 (B+1)))))
 (some (.x ()))
def W1 (B:Sl (Sl Int)) (D:Sl Int) (G:Int):Option Int:=
 (bG (λq:Int=>bf B D q) G).bind (Fw.elim
 (λe=>some (-1))
 (λe=>some e))
end lM
def lM (B:Sl (Sl Int)) (D:Sl Int):Option Int:=
 lM.W1 B D 0
open lM in
instance Sb (B:Sl (Sl Int)) (D:Sl Int):Fc Sy cL (lM B D):=Fc.M 59 [enc B,enc D] (cK 13 (λt=>(bC [Cv 0 B,Cv 1 D,Iv 5 t] [])) (λq=>(0,(bC [] []))) (λq=>(bC [Iv 4 q] [])) (λt=>bL 6 B (bD 3 9 (bN 9 λu _=>bz 2 λw _=>bD 2 17 aZ aZ) aZ)) (λq=>aZ) (λq=>aZ))
namespace jd
def bO (J:Sl (Sl Int)) (Y:Sl Bool) (U:Int) (D:Sl (Sl Int)) (W:Trace) (B:Sl Bool) (G:Int) (O:Slice):Option (Fw ((Sl Bool)×Int×Slice) ((Sl Bool)×Slice) Empty):=
 bg (decide (G<(len D)))
 ((idx D G).bind λz=>
 (lM J z).bind λA=>
 (Sl.lQ B A).bind λq=>
 (Sl.get B q).bind λt=>
 bg t
 ((Sl.lQ B U).bind λu=>
 (Sl.put B u (true:Bool)).bind λw=>
 some (.n (w,IntKind.wrap .i64 (G+1),(⟨O.empty,Sl.nil,Sl.nil,Sl.nil⟩:Slice))))
 (some (.n (B,IntKind.wrap .i64 (G+1),(⟨O.empty,Sl.nil,Sl.nil,Sl.nil⟩:Slice)))))
 (some (.x (B,(⟨O.empty,Sl.nil,Sl.nil,Sl.nil⟩:Slice))))
def W2 (D:Sl (Sl Int)) (Y G:Sl Bool) (W:Int) (B:Sl (Sl Int)) (J:Int) (O:Trace) (U:Slice):Option (Fw ((Sl Bool)×Int×Slice) ((Sl Bool)×Slice) Empty):=
 (bG (λq:(Sl Bool)×Int×Slice=>bO D Y W B O q.1 q.2.1 q.2.2) (G,J,U)).bind (Fw.elim
 (λe=>some (.n (e.1,IntKind.wrap .i64 (W-1),(⟨e.2.empty,Sl.nil,Sl.nil,Sl.nil⟩:Slice))))
 (λe=>Empty.elim e))
def bf (D:Sl (Sl Int)) (U:Sl Bool) (O:Trace) (B:Sl Bool) (J:Int) (G:Slice):Option (Fw ((Sl Bool)×Int×Slice) ((Sl Bool)×Slice) Empty):=
 bg (decide (J>=0))
 ((idx U J).bind λq=>
 bg q
 (bg (J==(IntKind.wrap .i64 ((len D)-1)))
 ((Sl.lQ B J).bind λt=>
 (Sl.put B t (true:Bool)).bind λu=>
 some (.n (u,IntKind.wrap .i64 (J-1),(⟨G.empty,Sl.nil,Sl.nil,Sl.nil⟩:Slice))))
 ((idx D J).bind λw=>
 (iH O w).bind λz=>
 W2 D U B J z 0 O (⟨G.empty,Sl.nil,Sl.nil,Sl.nil⟩:Slice)))
 (some (.n (B,IntKind.wrap .i64 (J-1),(⟨G.empty,Sl.nil,Sl.nil,Sl.nil⟩:Slice)))))
 (some (.x (B,(⟨G.empty,Sl.nil,Sl.nil,Sl.nil⟩:Slice))))
def W1 (B:Sl (Sl Int)) (O D:Sl Bool) (U:Int) (G:Trace) (J:Slice):Option Slice:=
 (bG (λq:(Sl Bool)×Int×Slice=>bf B O G q.1 q.2.1 q.2.2) (D,U,J)).bind (Fw.elim
 (λe=>(ey G B e.1).bind λt=>
 some t)
 (λe=>Empty.elim e))
end jd
def jd (D:Trace) (B:Sl (Sl Int)) (G:Slice):Option Slice:=
 (jy D B G).bind λq=>
 (kf (len B) (false:Bool)).bind λt=>
 jd.W1 B q t (IntKind.wrap .i64 ((len B)-1)) D (⟨false,Sl.nil,Sl.nil,Sl.nil⟩:Slice)
open jd in
instance T5 (D:Trace) (B:Sl (Sl Int)) (J:Slice):Fc Sy cL (jd D B J):=Fc.N 19 [enc D,enc B,enc J] (cm 2 3 D (cm 0 5 J (bz 8 λw _=>bL 6 B (IP 0 18 λO _=>bL 7 B (eF 7 (λq=>(bC [Cv 1 B,Pv 3,Pv 6,Cv 7 w,Ov 8,Iv 9 q.2.1] [Xb 3 D,Xb 6 (⟨q.2.2.empty,Sl.nil,Sl.nil,Sl.nil⟩:Slice),Lb 2008 q.1])) (λz=>(0,(bC [Cv 1 B,Pv 3,Pv 6,Ov 8] [Xb 3 D,Xb 6 (⟨z.2.empty,Sl.nil,Sl.nil,Sl.nil⟩:Slice),Lb 2008 z.1]))) (λq=>bD 9 23 (bN 10 λQ _=>cI 4 30 (bL 8 B (bD 4 35 (mc .i64 5 2008 λS _=>vE 0 2008 (.bool true) λT _=>aZ) (bN 8 λU _=>bz 1 λC _=>eF 11 (λt=>(bC [Cv 1 B,Pv 3,Pv 6,Cv 7 w,Ov 8,Iv 9 q.2.1,Cv 10 C,Iv 11 t.2.1] [Xb 3 D,Xb 6 (⟨t.2.2.empty,Sl.nil,Sl.nil,Sl.nil⟩:Slice),Lb 2008 t.1])) (λA=>(2,(bC [Cv 1 B,Pv 3,Pv 6,Cv 7 w,Ov 8,Iv 9 q.2.1] [Xb 3 D,Xb 6 (⟨A.2.empty,Sl.nil,Sl.nil,Sl.nil⟩:Slice),Lb 2008 A.1]))) (λt=>bL 7 C (bD 3 48 (bN 11 λW _=>bz 1 λX _=>mc .i64 0 2008 λH _=>uC 0 2008 0 1 false (λu=>.bool u) λu _=>bD 2 59 (mc .i64 4 2008 λI _=>vE 0 2008 (.bool true) λL _=>aZ) aZ) aZ)) (λA=>aZ)))) aZ) aZ) (λz=>bz 8 λG _=>gF 0 6 0 G aZ))))))
def kQ (B:Trace) (s1:Slice):Option Bool:=
 (vH).bind λai=>
 bg ai
 ((jk B 40).bind λaj=>
 (bg aj
 ((tY s1).bind λak=>
 some ak)
 (some true):Option Bool).bind λal=>
 bg al
 (some true)
 ((tc B s1).bind λt=>
 (tw B s1).bind λu=>
 (sV B s1).bind λw=>
 (cH B s1).bind λam=>
 bg am
 ((bg (t.2==0)
 (some (!(u.2==0)))
 (some true):Option Bool).bind λan=>
 (bg an
 (some true)
 (some (!(w.2==0))):Option Bool).bind λz=>
 (bg z
 (some true)
 ((cH B t.1).bind λA=>
 some (!A)):Option Bool).bind λC=>
 (bg C
 (some true)
 ((cH B u.1).bind λD=>
 some (!D)):Option Bool).bind λG=>
 (bg G
 (some true)
 ((cH B w.1).bind λH=>
 some (!H)):Option Bool).bind λI=>
 bg I
 (some false)
 ((uF B).bind λq=>
 (bg q.2
 ((jb B q.1 s1).bind λJ=>
 (c_ t.1 J).bind λL=>
 (bg L
 ((i_ B q.1 s1).bind λO=>
 (c_ u.1 O).bind λQ=>
 some Q)
 (some false):Option Bool).bind λS=>
 (bg S
 ((jd B q.1 s1).bind λT=>
 (c_ w.1 T).bind λU=>
 some U)
 (some false):Option Bool).bind λW=>
 some W)
 (some true):Option Bool).bind λX=>
 some X))
 ((bg (t.2==1)
 ((oC t.1).bind λY=>
 some Y)
 (some false):Option Bool).bind λZ=>
 (bg Z
 (some (u.2==1))
 (some false):Option Bool).bind λaa=>
 (bg aa
 ((oC u.1).bind λab=>
 some ab)
 (some false):Option Bool).bind λad=>
 (bg ad
 (some (w.2==1))
 (some false):Option Bool).bind λae=>
 (bg ae
 ((oC w.1).bind λaf=>
 some af)
 (some false):Option Bool).bind λah=>
 some ah)))
 (some false)
instance vV (B:Trace) (s1:Slice):Fc Sy cL (kQ B s1):=Fc.M 3 [enc B,enc s1] (cm 2 2 B (cm 0 3 s1 (bz 6 λai _=>cI 3 14 (bz 7 λaj _=>bW 2 3 [18] 21 (cI 2 18 (bz 1 λak _=>bA 1) (bA 3)) λal=>bD 2 21 aZ (bz 7 λq _=>gF 4 5 0 q.1 (bz 7 λt _=>gF 4 7 0 t.1 (bz 7 λu _=>gF 4 9 0 u.1 (bz 8 λam _=>cI 3 43 (bW 9 3 [8,68] 71 (cI 9 68 (bA 3) (bA 3)) λan=>bW 1 3 [10,72] 75 (bD 1 72 (bA 3) (bA 3)) λD=>bW 1 5 [76] 81 (bD 1 76 (bA 5) (bz 2 λG _=>bA 2)) λH=>bW 1 5 [82] 87 (bD 1 82 (bA 5) (bz 2 λI _=>bA 2)) λJ=>bW 1 5 [88] 93 (bD 1 88 (bA 5) (bz 2 λL _=>bA 2)) λO=>bD 2 93 aZ (bz 6 λC _=>u_ 12 23 [122,121,114,113,107,106] (λw=>(bC [Bv 14 false,Bv 21 false,Bv 43 false,Bv 93 false,Bv 124 w] [Xb 2 B,Xb 3 s1,Xb 5 q.1,Xb 7 t.1,Xb 9 u.1])) (cI 12 101 (bz 4 λQ _=>fc 0 λS _=>u_ 1 7 [114,113,107,106] (λz=>(bC [Pv 2,Pv 3,Bv 14 false,Bv 21 false,Pv 9,Bv 43 false,Bv 93 false,Cv 11 C.1,Bv 101 false,Bv 115 z] [Xb 2 B,Xb 3 s1,Xb 5 q.1,Xb 7 t.1,Xb 9 u.1])) (bD 1 108 (bz 4 λT _=>fc 0 λU _=>bA 1) (bA 7)) λz=>u_ 1 7 [122,121,114,113,107,106] (λA=>(bC [Bv 14 false,Bv 21 false,Bv 43 false,Bv 93 false,Bv 101 false,Bv 123 A] [Xb 2 B,Xb 3 s1,Xb 5 q.1,Xb 7 t.1,Xb 9 u.1])) (bD 1 116 (bz 4 λW _=>fc 0 λX _=>bA 1) (bA 7)) λA=>bA 1) (bA 23)) λw=>aZ)) (bW 6 3 [5,46] 49 (bD 6 46 (bz 1 λY _=>bA 1) (bA 3)) λZ=>bW 1 3 [8,50] 53 (bD 1 50 (bA 3) (bA 3)) λaa=>bW 1 3 [7,54] 57 (bD 1 54 (bz 1 λab _=>bA 1) (bA 3)) λad=>bW 1 3 [10,58] 61 (bD 1 58 (bA 3) (bA 3)) λae=>bW 1 3 [9,62] 65 (bD 1 62 (bz 1 λaf _=>bA 1) (bA 3)) λah=>aZ)))))) aZ)))
end
end Go.VE
