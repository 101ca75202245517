/-
 Each function of the program that the law reaches: its plain form, and that it comes to that.
-/
import Derived.Test.YtlmckmkfopljoaaGreatDoorK1
import Derived.Test.YtlmckmkfopljoaaGreatDoorT1
set_option linter.all false
namespace Go.VE
structure Pred where
 kind:Int
 n:Int
 proc:Int
 peer:Int
 name:ByteArray
 l:Sl Pred
mutual
def Pred.NT:Pred->List V
 | ⟨f0,f1,f2,f3,B,f5⟩=>[.int .i64 f0,.int .i64 f1,.int .i64 f2,.int .i64 f3,.str B,Pred.CF f5]
def Pred.CF:Sl Pred->V
 | .nil=>.bL
 | .emp=>.dh
 | .row l=>.fsl 6 (Pred.AZ l)
 | .part l=>.fsl 6 (Pred.AZ l)
def Pred.AZ:List Pred->List (List V)
 | []=>[]
 | x::r=>Pred.NT x::Pred.AZ r
end
instance:Inhabited Pred:=⟨⟨default,default,default,default,default,Sl.nil⟩⟩
mutual
theorem Pred.O5:∀x:Pred,V.cu x.NT=true
 | ⟨f0,f1,f2,f3,B,f5⟩=>by simp only[Pred.NT,V.cu,V.good,Pred.Ez,Bool.and_self]
theorem Pred.Ez:∀x:Sl Pred,V.good (Pred.CF x)=true
 | .nil=>rfl
 | .emp=>rfl
 | .row l=>by simp only[Pred.CF,V.good,Pred.Az]
 | .part l=>by simp only[Pred.CF,V.good,Pred.Az]
theorem Pred.Az:∀x:List Pred,V.lu (Pred.AZ x)=true
 | []=>rfl
 | x::r=>by simp only[Pred.AZ,V.lu,Pred.O5,Pred.Az,Bool.and_self]
end
theorem Pred.PB (s:Sl Pred):V.one (Pred.CF s)=true:=by cases s <;> simp[Pred.CF,V.one]
instance:bz Pred where
 cells x:=[.int .i64 x.kind,.int .i64 x.n,.int .i64 x.proc,.int .i64 x.peer,.str x.name,Pred.CF x.l]
 agg:=true
 size:=6
 len _:=rfl
 good x:=by simp only[V.cu,V.good,Pred.Ez,Bool.and_self]
 one x:=by simp only[List.all_cons,List.all_nil,oM,mH,oE,Pred.PB,Bool.and_self]
 plain h:=by cases h
theorem Pred.Jz (x:Pred):Pred.NT x=cells x:=by cases x;rfl
theorem Pred.Ao:∀l:List Pred,Pred.AZ l=rows l
 | []=>rfl
 | x::r=>by rw[Pred.AZ,Pred.Ao r,Pred.Jz];rfl
theorem Pred.s8 (s:Sl Pred):Pred.CF s=enc s:=by
 cases s with
 | nil=>rfl
 | emp=>rfl
 | row l=>show V.fsl 6 (Pred.AZ l)=V.fsl 6 (rows l);rw[Pred.Ao]
 | part l=>show V.fsl 6 (Pred.AZ l)=V.fsl 6 (rows l);rw[Pred.Ao]
structure Var where
 name:ByteArray
 init_:Int
 deriving Inhabited
instance:bz Var where
 cells x:=[.str x.name,.int .i64 x.init_]
 agg:=true
 size:=2
 len _:=rfl
 good x:=by simp only[V.cu,V.good,kK,Bool.and_self]
 one x:=by simp only[List.all_cons,List.all_nil,oM,mH,oE,oq,Bool.and_self]
 plain h:=by cases h
structure Assign where
 var:Int
 value:Int
 deriving Inhabited
instance:bz Assign where
 cells x:=[.int .i64 x.var,.int .i64 x.value]
 agg:=true
 size:=2
 len _:=rfl
 good x:=by simp only[V.cu,V.good,kK,Bool.and_self]
 one x:=by simp only[List.all_cons,List.all_nil,oM,mH,oE,oq,Bool.and_self]
 plain h:=by cases h
structure Event where
 kind:Int
 peer:Int
 message:Int
 time:Int
 assign:Sl Assign
 deriving Inhabited
instance:bz Event where
 cells x:=[.int .i64 x.kind,.int .i64 x.peer,.int .i64 x.message,.int .i64 x.time,enc x.assign]
 agg:=true
 size:=5
 len _:=rfl
 good x:=by simp only[V.cu,V.good,kK,Bool.and_self]
 one x:=by simp only[List.all_cons,List.all_nil,oM,mH,oE,oq,Bool.and_self]
 plain h:=by cases h
structure bQ where
 name:ByteArray
 vars:Sl Var
 events:Sl Event
 deriving Inhabited
instance:bz bQ where
 cells x:=[.str x.name,enc x.vars,enc x.events]
 agg:=true
 size:=3
 len _:=rfl
 good x:=by simp only[V.cu,V.good,kK,Bool.and_self]
 one x:=by simp only[List.all_cons,List.all_nil,oM,mH,oE,oq,Bool.and_self]
 plain h:=by cases h
structure Trace where
 procs:Sl bQ
 deriving Inhabited
instance:bz Trace where
 cells x:=[enc x.procs]
 agg:=true
 size:=1
 len _:=rfl
 good x:=by simp only[V.cu,V.good,kK,Bool.and_self]
 one x:=by simp only[List.all_cons,List.all_nil,oM,mH,oE,oq,Bool.and_self]
 plain h:=by cases h
structure bG where
 from_:aY
 to_:aY
 deriving Inhabited
instance:bz bG where
 cells x:=[.int .i64 x.from_.proc,.int .i64 x.from_.index,.int .i64 x.to_.proc,.int .i64 x.to_.index]
 agg:=true
 size:=4
 len _:=rfl
 good x:=by simp only[V.cu,V.good,kK,Bool.and_self]
 one x:=by simp only[List.all_cons,List.all_nil,oM,mH,oE,oq,Bool.and_self]
 plain h:=by cases h
structure bT where
 low:Int
 high:Int
 deriving Inhabited
instance:bz bT where
 cells x:=[.int .i64 x.low,.int .i64 x.high]
 agg:=true
 size:=2
 len _:=rfl
 good x:=by simp only[V.cu,V.good,kK,Bool.and_self]
 one x:=by simp only[List.all_cons,List.all_nil,oM,mH,oE,oq,Bool.and_self]
 plain h:=by cases h
structure bY where
 t:Trace
 counts:Sl Int
 values:Sl (Sl Int)
 deriving Inhabited
instance:bz bY where
 cells x:=[enc x.t.procs,enc x.counts,enc x.values]
 agg:=true
 size:=3
 len _:=rfl
 good x:=by simp only[V.cu,V.good,kK,Bool.and_self]
 one x:=by simp only[List.all_cons,List.all_nil,oM,mH,oE,oq,Bool.and_self]
 plain h:=by cases h
def gC (p:Int):Int->List Event->List (aY×Event)
 | _,[]=>[]
 | j,e::r=>(⟨p,j+1⟩,e)::gC p (j+1) r
def eU:Int->List bQ->List (aY×Event)
 | _,[]=>[]
 | i,p::r=>gC i 0 p.events.l++eU (i+1) r
def mP (n:Nat):Bool:=decide (n<9223372036854775807)
def h_ (t:Trace):Option (List (aY×Event)):=
 if mP t.procs.l.length&&t.procs.l.all λp=>mP p.events.l.length then some (eU 0 t.procs.l)else none
def DK:cC 22 Int:=⟨Go.Proofs.YtlmckmkfopljoaaGreatDoor.BA,rfl⟩
end Go.VE
namespace Go.VE
def Iq:List (Nat×GD):=[
 (66,⟨0x22226260002000201,[],[(6,[.keep [0,1,7,8] []],[.keep [0,1,7,8] []]),(12,[.keep [] []],[]),(22,[.keep [4] []],[]),(27,[.keep [4] []],[])]⟩),
 (40,⟨0x226221,[],[]⟩),
 (67,⟨0x22226260002000201,[],[(6,[.keep [0,1,7,8] []],[.keep [0,1,7,8] []]),(12,[.keep [] []],[]),(22,[.keep [4] []],[]),(27,[.keep [4] []],[])]⟩),
 (42,⟨0x226221,[],[]⟩),
 (43,⟨0x2222212,[],[]⟩),
 (41,⟨0x264442644402222012,[],[]⟩),
 (11,⟨0x264442222012,[],[]⟩),
 (151,⟨0x26c4444026402201,[],[]⟩),
 (152,⟨0x26442201,[],[]⟩),
 (113,⟨0x222064c002644c00222600620000644402644022201,[],[(8,[.keep [2] []],[]),(14,[.keep [0,3] []],[.keep [0,3] []]),(20,[.keep [] []],[]),(28,[.keep [2] []],[]),(33,[.keep [2] []],[])]⟩),
 (114,⟨0x26442201,[],[]⟩),
 (77,⟨0x2222222022226020222062260202260206000022226020622000022202220620226020600002220202602012,[],[(10,[.keep [4] []],[]),(16,[.keep [1,2,5,6] [2,5]],[.keep [1,2,5,6] [2,5]]),(22,[.keep [5] [5]],[]),(30,[.keep [4] []],[]),(39,[.keep [4] []],[]),(45,[.keep [5,7] [5]],[.keep [5,7] [5]]),(51,[.keep [5] [5]],[]),(60,[.keep [4] []],[]),(66,[.keep [5,7,8] [5]],[.keep [5,7,8] [5]]),(72,[.keep [5,7] [5]],[]),(80,[.keep [4] []],[]),(88,[.keep [4] []],[]),(97,[.keep [4] []],[]),(101,[.keep [4] []],[])]⟩),
 (78,⟨0x2222220620226020600006444026c444c04040222020260206220000222006cc44c4444c04040440264402220064402644026c04026c44040264402644022200644022202202026022602012,[],[(13,[.keep [6] []],[]),(20,[.keep [6] []],[]),(22,[.keep [1,2,3,7] [3,7]],[]),(28,[.keep [6] []],[]),(36,[.keep [6] []],[]),(42,[.keep [1,3,7,8] [3,7]],[.keep [1,3,7,8] [3,7]]),(48,[.keep [] []],[]),(59,[.keep [6] []],[]),(64,[.keep [1,3,7,8,9,10] [3,7,9]],[.keep [1,3,7,8,9,10] [3,7,9]]),(70,[.keep [1,3,7,8] [3,7]],[]),(78,[.keep [6] []],[]),(84,[.keep [6] []],[])]⟩),
 (115,⟨0x2262222262022022,[],[]⟩),
 (54,⟨0x20222222262226c0442602020260226020622260200062200002,[],[(6,[.keep [1,2,3,6,7] [3,6]],[.keep [1,2,3,6,7] [3,6]]),(12,[.keep [6] [6]],[]),(18,[.keep [1,2,3,6,7,8] [3,6]],[.keep [1,2,3,6,7,8] [3,6]]),(24,[.keep [1,2,3,6,7] [3,6]],[]),(34,[.keep [6] [6]],[]),(40,[.keep [6] [6]],[])]⟩),
 (79,⟨0x2222226cc40444cc4040444022202602262020622262020000220060e20200022020600122,[],[(30,[.keep [2,3,5,6,7] [2,3,5]],[.keep [2,3,5,6,7] [2,3,5]]),(36,[.keep [6] []],[])]⟩),
 (80,⟨0x22206222602026006220002222203622000622262002062202202026260022602062226020260062200002222012,[],[(6,[.canon (.s 3) 2003 1,.keep [1,3] [1,2003]],[.canon (.s 3) 2003 1,.keep [1,3] [1,2003]]),(14,[.canon (.s 3) 2003 1,.keep [1,3,4,5] [1,2003]],[.canon (.s 3) 2003 1,.keep [1,3,4,5] [1,2003]]),(20,[.canon (.s 3) 2003 1,.keep [1,3,4] [1,2003]],[]),(24,[.canon (.s 3) 2003 1,.keep [1,3,4,5] [1,2003]],[.canon (.s 3) 2003 1,.keep [1,3,4,5] [1,2003]]),(30,[.canon (.s 3) 2003 1,.keep [1,3,4,5] [1,2003]],[]),(43,[.canon (.s 3) 2003 1,.keep [1,3,4,5] [1,2003]],[]),(46,[.canon (.s 3) 2003 1,.keep [1,3,5] [1,2003]],[]),(53,[.canon (.s 3) 2003 1,.keep [1,3] [1,2003]],[]),(59,[.canon (.s 3) 2003 1,.keep [1,3,8] [1,2003]],[.canon (.s 3) 2003 1,.keep [1,3,8] [1,2003]]),(65,[.keep [] []],[]),(73,[.keep [2] []],[]),(78,[.keep [2] []],[])]⟩),
 (116,⟨0x22262622222202062026262202022200122,[],[(10,[.canon (.s 5) 2005 2,.keep [2,3,5] [2,3,2005]],[])]⟩),
 (53,⟨0x202222220222620260600206200622260200062200002020222222222220260020620062226020006220002222222226222202e0006222602000622000222222222026006220000206444022220102,[],[(8,[.keep [2,3] [2]],[]),(14,[.keep [1,2,4] [1,2]],[.keep [1,2,4] [1,2]]),(20,[.keep [1,2] [1,2]],[]),(30,[.keep [2,3] [2]],[]),(37,[.keep [1,2,6] [1,2]],[.keep [1,2,6] [1,2]]),(43,[.keep [1,2] [1,2]],[]),(49,[.keep [1,2,6,7] [1,2]],[.keep [1,2,6,7] [1,2]]),(55,[.keep [1,2,6] [1,2]],[]),(65,[.keep [2,3] [2]],[]),(73,[.keep [1,2,9] [1,2]],[.keep [1,2,9] [1,2]]),(79,[.keep [1,2] [1,2]],[]),(85,[.keep [1,2,9,10] [1,2]],[.keep [1,2,9,10] [1,2]]),(91,[.keep [1,2,9] [1,2]],[]),(103,[.keep [2,3] [2]],[]),(113,[.keep [2,3] [2]],[]),(119,[.keep [1,2,13] [1,2]],[.keep [1,2,13] [1,2]]),(125,[.keep [2] [2]],[]),(131,[.keep [1,2,13,14] [1,2]],[.keep [1,2,13,14] [1,2]]),(137,[.keep [1,2,13] [1,2]],[]),(147,[.keep [2,3] [2]],[]),(153,[.keep [2,3] [2]],[])]⟩),
 (21,⟨0x2222302022212,[],[]⟩),
 (22,⟨0x22206c444c0404c0022260062000062202012,[],[(8,[.keep [4] []],[]),(14,[.keep [1,2,5] [2]],[.keep [1,2,5] [2]]),(20,[.keep [] []],[]),(28,[.keep [4] []],[]),(33,[.keep [4] []],[])]⟩),
 (23,⟨0x2222220626220202062202202026022602062600006200012,[],[(6,[.keep [1,2,5] [2]],[.keep [1,2,5] [2]]),(12,[.keep [] []],[]),(18,[.keep [1,2,5,6] [2]],[.keep [1,2,5,6] [2]]),(24,[.keep [1,2,5] [2]],[]),(39,[.keep [4] []],[]),(46,[.keep [4] []],[])]⟩),
 (153,⟨0x26c4426201,[],[]⟩),
 (197,⟨0x26c4444026402201,[],[]⟩),
 (198,⟨0x26442201,[],[]⟩),
 (181,⟨0x22064c402644c00222600200020064440264402201,[],[(8,[.keep [2] []],[]),(14,[.keep [0,18,19] []],[.keep [0,18,19] []]),(20,[.keep [] []],[]),(30,[.keep [2] []],[]),(35,[.keep [2] []],[])]⟩),
 (182,⟨0x26222212,[],[]⟩),
 (183,⟨0x26222212,[],[]⟩),
 (106,⟨0x22226260002000201,[],[(6,[.keep [0,1,7,8] []],[.keep [0,1,7,8] []]),(12,[.keep [] []],[]),(22,[.keep [4] []],[]),(27,[.keep [4] []],[])]⟩),
 (161,⟨0x226221,[],[]⟩),
 (154,⟨0x222222022222026c0c4402222022020000020022220026c0c44422220202602012,[],[(11,[.keep [4] []],[]),(17,[.keep [4] []],[]),(23,[.keep [5,32,33,34] [5]],[.keep [5,32,33,34] [5]]),(29,[.keep [5] [5]],[]),(40,[.keep [4] []],[]),(46,[.keep [4] []],[]),(55,[.keep [4] []],[]),(59,[.keep [4] []],[])]⟩),
 (155,⟨0x2212,[],[]⟩),
 (185,⟨0x2644426c4402622222022202644422202020122,[],[(18,[.keep [1,3,5,19] [3,5]],[])]⟩),
 (187,⟨0x26222212,[],[]⟩),
 (199,⟨0x22226260002000201,[],[(6,[.keep [0,1,7,8] []],[.keep [0,1,7,8] []]),(12,[.keep [] []],[]),(22,[.keep [4] []],[]),(27,[.keep [4] []],[])]⟩),
 (186,⟨0x226221,[],[]⟩),
 (156,⟨0x2202626220026444022622202022020000020022220026c44022220022e02222226220202200202620201222,[],[(12,[.keep [3,4,5,7,8] [3,4,5,7]],[]),(19,[.keep [6] []],[]),(25,[.keep [6] []],[]),(31,[.keep [6] []],[]),(37,[.keep [5,7,52,53,54] [5,7]],[.keep [5,7,52,53,54] [5,7]]),(43,[.keep [] []],[]),(54,[.keep [6] []],[]),(60,[.keep [6] []],[]),(65,[.keep [6] []],[])]⟩),
 (200,⟨0x26c44426c440222012,[],[]⟩),
 (188,⟨0x2662262221222,[],[]⟩),
 (157,⟨0x2202326222002202001ef200220022022226200223262220022022226200202022020202020200002,[],[(8,[.keep [1,2,3,4,5,12] [1,2,3,4,5,10]],[.keep [] [1,2,3,4,5,10]]),(27,[.keep [] [1,2,3,4,5,10]],[]),(39,[.keep [] [1,2,3,4,5,10]],[]),(47,[.keep [] [1,2,3,4,5,10]],[]),(53,[.keep [2,3,4] [2,3,4,10]],[])]⟩),
 (189,⟨0x222622262222264444c4400222020262222262622020262020222620220122,[],[(12,[.canon (.s 7) 2007 2,.keep [1,5,7,8] [5,2007]],[])]⟩),
 (158,⟨0x20222622230026000226002020000e200262220202622002202202020200022,[],[(6,[.keep [2,3,4,5,13] [2,3,4,5]],[.keep [] [2,3,4,5]]),(14,[.canon (.s 8) 2008 2,.keep [2,3,4,5,6,7,8,13] [2,3,4,5,6,16,2008]],[.canon (.s 8) 2008 2,.keep [2,3,4,5,6,7,8,13] [2,3,4,5,6,16,2008]]),(20,[.keep [2,3,4,5,13] [2,3,4,5]],[]),(29,[.canon (.s 8) 2008 2,.keep [2,3,4,5,6,7,8,13,36,37,38] [2,3,4,5,6,16,2008]],[.canon (.s 8) 2008 2,.keep [2,3,4,5,6,7,8,13,36,37,38] [2,3,4,5,6,16,2008]]),(35,[.canon (.s 8) 2008 2,.keep [2,3,4,5,6,7,8,13] [2,3,4,5,6,16,2008]],[]),(46,[.keep [] [2,3,4,5]],[]),(58,[.keep [4,5] [4,5]],[])]⟩),
 (117,⟨0x20022222020262222222022202002202222202e2002020202222222202600200022002022220002,[],[(8,[.keep [2,3] [2,3]],[]),(14,[.keep [1,2,3,22,23] [1,2,3]],[.keep [1,2,3,22,23] [1,2,3]]),(20,[.keep [1,2,3] [1,2,3]],[]),(32,[.keep [2,3] [2,3]],[]),(39,[.keep [1,2,3,36] [1,2,3]],[.keep [] [1,2,3]]),(51,[.keep [] [1,2,3]],[]),(61,[.keep [2,3] [2,3]],[]),(71,[.keep [2,3] [2,3]],[]),(75,[.keep [2,3] [2,3]],[])]⟩),
 (82,⟨0x2222302022212,[],[]⟩),
 (159,⟨0x264426402201,[],[]⟩),
 (119,⟨0x26c4444c4404440222006c4404440264402644026c444044026440222012,[],[]⟩),
 (121,⟨0x22e222212,[],[]⟩),
 (120,⟨0x226221,[],[]⟩),
 (160,⟨0x22226260002000201,[],[(6,[.drop [2,3,4,5,6,9,10,11,12,13,14,15,16,17,18]],[.drop [2,3,4,5,6,9,10,11,12,13,14,15,16,17,18]]),(12,[.drop [0,1,2,3,4,5,6,7,8,9,10,11,12,13,14,15,16,17,18]],[]),(22,[.drop [0,1,2,3,5,6,7,8,9,10,11,12,13,14,15,16,17,18]],[]),(27,[.drop [0,1,2,3,5,6,7,8,9,10,11,12,13,14,15,16,17,18]],[])]⟩),
 (118,⟨0x226622064402640222220122,[(20,[.closeB 5])],[]⟩),
 (83,⟨0x26222200012,[(5,[.canon (.s 3) 9004 0,.canon (.s 4) 9003 0])],[]⟩),
 (123,⟨0x26c444422012,[],[]⟩),
 (162,⟨0x2622212,[],[]⟩),
 (124,⟨0x262226222122,[],[]⟩),
 (122,⟨0x2644426c404026c40426200222644426440262022026001cf444042644026200202012,[],[]⟩),
 (146,⟨0x2262212,[],[]⟩),
 (103,⟨0x264c4442600122,[(10,[.closeB 3])],[]⟩),
 (84,⟨0x2622122,[],[]⟩),
 (56,⟨0x221,[],[]⟩),
 (127,⟨0x221,[],[]⟩),
 (126,⟨0x2622222212,[],[]⟩),
 (125,⟨0x22622012,[(5,[.closeB 1])],[]⟩),
 (85,⟨0x22212,[],[]⟩),
 (131,⟨0x222222626002620002220012201,[],[(8,[.keep [0] []],[]),(14,[.keep [0,3,4] []],[.keep [0,3,4] []]),(20,[.keep [3] []],[])]⟩),
 (132,⟨0x222222626002620002220012201,[],[(8,[.keep [0] []],[]),(14,[.keep [0,3,4] []],[.keep [0,3,4] []]),(20,[.keep [3] []],[])]⟩),
 (89,⟨0x2622200,[],[]⟩),
 (129,⟨0x22222226c04422202020000226222012,[],[(8,[.keep [2,7,15,16,17] []],[.keep [2,7,15,16,17] []]),(14,[.keep [7] []],[])]⟩),
 (201,⟨0x2622212,[],[]⟩),
 (190,⟨0x26222122,[],[]⟩),
 (163,⟨0x220020262262220026c4400220002220112,[],[]⟩),
 (168,⟨0x26200201,[],[(8,[.canon (.s 2) 4004 1],[]),(12,[.canon (.s 2) 4004 1],[])]⟩),
 (179,⟨0x222e202202236222002020000222202000002226200222622222020000200,[(21,[.closeS (.s 25)]),(57,[.closeS (.s 54)])],[(6,[.canon (.s 3) 2003 1,.keep [0,1,3,11,12,13] [2003]],[.canon (.s 3) 2003 1,.keep [0,1,3,11,12,13] [2003]]),(12,[.canon (.s 3) 2003 1,.keep [0,1,3] [2003]],[]),(23,[.keep [] []],[]),(28,[.canon (.s 3) 2003 1,.keep [0,3,29,30,31] [2003]],[.canon (.s 3) 2003 1,.keep [0,3,29,30,31] [2003]]),(34,[.keep [] []],[]),(43,[.canon (.s 3) 2003 1,.keep [0,3,6,29,30,31,37,38,39] [2003]],[.canon (.s 3) 2003 1,.keep [0,3,6,29,30,31,37,38,39] [2003]]),(49,[.canon (.s 3) 2003 1,.keep [0,3,6,29,30,31] [2003]],[]),(59,[.keep [] []],[])]⟩),
 (145,⟨0x2212,[],[]⟩),
 (164,⟨0x22262260202220122,[],[(8,[.canon (.c 5 0) 4100 1,.keep [3,5,9] [3,5,4100]],[.canon (.c 5 0) 4100 1,.keep [] [3,5,4100]])]⟩),
 (130,⟨0x2222202622622220022022202e2001112,[],[]⟩),
 (87,⟨0x26223222002e2220222e2220222222226222220222222020022,[],[]⟩),
 (88,⟨0x26444222012,[],[]⟩),
 (133,⟨0x262201,[],[]⟩),
 (90,⟨0x22222622220622020260006402201,[],[]⟩),
 (57,⟨0x22222022001ef622226202062020620202662222620202226622226202020262222202022002064422222202622202222002002202026222002222202062222201022,[],[(22,[.keep [3,4,7,8,9,10] [3,4,7,9]],[]),(49,[.keep [4,11] [4,11]],[])]⟩),
 (128,⟨0x2262212,[],[]⟩),
 (86,⟨0x226222222302026222220122,[(21,[.closeB 2])],[]⟩),
 (55,⟨0x22622022200226000264402220122,[],[]⟩),
 (195,⟨0x26222221,[],[]⟩),
 (213,⟨0x22226260002000201,[],[(6,[.keep [0,1,7,8] []],[.keep [0,1,7,8] []]),(12,[.keep [] []],[]),(22,[.keep [4] []],[]),(27,[.keep [4] []],[])]⟩),
 (194,⟨0x226221,[],[]⟩),
 (175,⟨0x264c4422012,[],[]⟩),
 (176,⟨0x2206c444c440422022200000212,[],[(6,[.keep [2,7,8,9] [2]],[.keep [2,7,8,9] [2]]),(12,[.keep [] []],[]),(22,[.keep [4] []],[]),(27,[.keep [4] []],[])]⟩),
 (177,⟨0x26c444422012,[],[]⟩),
 (180,⟨0x200226c0442602020202202022000222,[],[(8,[.keep [6,7] [6,7]],[]),(14,[.keep [4,5,6,7,15] [4,5,6,7]],[.keep [] [4,5,6,7]]),(24,[.keep [] [4,5,6,7]],[]),(28,[.keep [6,7] [6,7]],[])]⟩),
 (166,⟨0x2220622102,[],[]⟩),
 (196,⟨0x2200222202262222626200203202026220220220200000622260202220000001002,[],[(6,[.keep [1,2,4,5,13,14,15] [2,4,5]],[.keep [1,2,4,5,13,14,15] [2,4,5]]),(12,[.keep [4,5] [4,5]],[]),(20,[.keep [1,2,4,5,7,13,14,15,27,28,29] [2,4,5]],[.keep [1,2,4,5,7,13,14,15,27,28,29] [2,4,5]]),(26,[.keep [1,2,4,5,13,14,15] [2,4,5]],[]),(44,[.keep [4,5,6] [4,5]],[]),(50,[.keep [4,5,6] [4,5]],[])]⟩),
 (178,⟨0x22223300200262212,[],[]⟩),
 (144,⟨0x2202620220000222026202200002220262022000000260012,[],[(8,[.keep [6] []],[]),(14,[.keep [1,2,3,17,18,19] [3]],[.keep [1,2,3,17,18,19] [3]]),(20,[.keep [1,2,3] [3]],[]),(30,[.keep [6] []],[]),(37,[.keep [1,3,28,29,30] [3]],[.keep [1,3,28,29,30] [3]]),(43,[.keep [1,3] [3]],[]),(53,[.keep [6] []],[]),(60,[.keep [3,39,40,41] [3]],[.keep [3,39,40,41] [3]]),(66,[.keep [] []],[]),(76,[.keep [6] []],[]),(81,[.keep [6] []],[])]⟩),
 (100,⟨0x222226262222022200000202022026202112,[],[(18,[.canon (.s 7) 2007 2,.keep [7,17,18,19] [2007]],[.canon (.s 7) 2007 2,.keep [7,17,18,19] [2007]]),(24,[.canon (.s 7) 2007 2,.keep [7] [2007]],[])]⟩),
 (101,⟨0x226022222022,[],[(6,[.keep [3,4,8] [3,4]],[.keep [] [3,4]]),(16,[.keep [] [3,4]],[]),(20,[.keep [4] [4]],[])]⟩),
 (68,⟨0x22222626226220222200000202022023202600112,[],[(18,[.canon (.s 8) 2008 1,.keep [2,8,20,21,22] [2,2008]],[.canon (.s 8) 2008 1,.keep [2,8,20,21,22] [2,2008]]),(24,[.canon (.s 8) 2008 1,.keep [8] [2008]],[])]⟩),
 (102,⟨0x2222002220002220112,[],[]⟩),
 (69,⟨0x6c44222222022212,[],[]⟩),
 (105,⟨0x26442201,[],[]⟩),
 (104,⟨0x2222212,[],[]⟩),
 (70,⟨0x2644422012,[],[]⟩),
 (45,⟨0x222e222064422026202220202220260022202006c4404022026001022,[],[(10,[.keep [1,3,4,6,8,10] [4,6,8]],[]),(36,[.keep [1,4,8,10,11] [4,8]],[])]⟩),
 (107,⟨0x26222212,[],[]⟩),
 (71,⟨0x226226222226022620220122,[],[]⟩),
 (147,⟨0x2220622102,[],[]⟩),
 (108,⟨0x22222622226c4c4404022222020262006c04022202020000626202260200202202e600200112,[],[(18,[.canon (.s 11) 2011 1,.keep [1,3,4,11,36,37,38] [4,2011]],[.canon (.s 11) 2011 1,.keep [1,3,4,11,36,37,38] [4,2011]]),(24,[.canon (.s 11) 2011 1,.keep [11] [2011]],[])]⟩),
 (72,⟨0x22232202001ef22202220122,[],[]⟩),
 (46,⟨0x266222226222002662222262220022266222226222002022622222202622202262222202622202222020122,[],[]⟩),
 (13,⟨0x262220220220202e0221122,[],[]⟩),
 (5,⟨0x222206c44222064422262022202e60000222226c0442220202000062600226020222226c04422202020000626002260200200022006c4c00422222202e20002000220064c00264c002644022002012,[],[(8,[.keep [4] []],[]),(16,[.keep [4] []],[]),(22,[.keep [1,2,39,40] [2]],[.keep [1,2,39,40] [2]]),(28,[.keep [] []],[]),(41,[.keep [4] []],[]),(46,[.keep [1,2,5,39,40,63,64] [2]],[.keep [1,2,5,39,40,63,64] [2]]),(52,[.keep [1,2,39,40] [2]],[]),(63,[.keep [1,2,5,8,9,39,40,63,64,77,78,79] [2]],[.keep [1,2,5,8,9,39,40,63,64,77,78,79] [2]]),(69,[.keep [1,2,5,8,9,39,40,63,64] [2]],[]),(84,[.keep [1,2,5,8,9,39,40,63,64,105,106,107] [2]],[.keep [1,2,5,8,9,39,40,63,64,105,106,107] [2]]),(90,[.keep [1,2,5,8,9,39,40,63,64] [2]],[]),(111,[.keep [4] []],[]),(118,[.keep [4] []],[]),(124,[.keep [4] []],[])]⟩)]
end Go.VE
namespace Go.VE
namespace trace_events_c1
def z7:List RO:=[o1 20 (.s 18) [],o2 21 (ix 5) [.s 16,.s 18] [],o2 22 (lD 5) [.s 21] [21],o2 6 (.a (.alloc 5 [.int .i64 0,.int .i64 0,.int .i64 0,.int .i64 0,.bL])) [] [],o1 5 (.s 20) [20],oz (.l (.store 5)) [.s 6,.s 22] [22]]
def xD:List RO:=[o1 23 (.s 0) [],o1 24 (.s 3) [],o1 25 (.s 5) [5],o2 26 (bI .add) [.s 25,.k (.int .i64 1)] [25],o2 27 (.p (.build [.int .i64 0,.int .i64 0] [(0,1),(1,1)])) [.s 24,.s 26] [24,26],o2 28 (lD 5) [.s 6] [6],
 o2 29 .c [.s 23,.s 27,.s 28] [23,27,28],o2 30 (.p .not) [.s 29] [29]]
def uL:List RO:=[o2 31 (bI .add) [.s 18,.k (.int .i64 1)] [],o1 18 (.s 31) [31]]
def Da:RC:=.hg (.seq (.ops [o2 19 (bI .lss) [.s 18,.s 17] []]) (.seq (.cond (.s 19) .skip (.exit 2)) (.seq (.block 3 (.seq (.ops z7) (.seq (.ops xD) (.cond (.s 30) .ret .skip)))) (.ops uL)))) (.keep [0,3,8,9,10,16,17,18] [])
def Hi:List RO:=[o1 12 (.s 10) [],o2 13 (ix 3) [.s 8,.s 10] [],o2 14 (lD 3) [.s 13] [13],o2 4 (.a (.alloc 3 [.str ByteArray.empty,.bL,.bL])) [] [],o1 3 (.s 12) [12],oz (.l (.store 3)) [.s 4,.s 14] [14]]
def D6:List RO:=[o2 15 (fa 2) [.s 4] [],o2 16 (ld 1) [.s 15] [15],o2 17 ln [.s 16] [],o1 18 (.k (.int .i64 0)) []]
def CB:List RO:=[o2 32 (bI .add) [.s 10,.k (.int .i64 1)] [],o1 10 (.s 32) [32]]
def U2:RC:=.block 2 (.gh (.keep [0,3,8,9,10,16,17,18] []) (.loop Da))
def KO:RC:=.hg (.seq (.ops [o2 11 (bI .lss) [.s 10,.s 9] []]) (.seq (.cond (.s 11) .skip (.exit 0)) (.seq (.block 1 (.seq (.ops Hi) (.seq (.ops D6) U2))) (.ops CB)))) (.keep [0,8,9,10] [])
def Qa:List RO:=[o2 7 (fa 0) [.s 1] [1],o2 8 (ld 1) [.s 7] [7],o2 9 ln [.s 8] [],o1 10 (.k (.int .i64 0)) []]
def U1:RC:=.block 0 (.gh (.keep [0,8,9,10] []) (.loop KO))
def text:RF:=⟨33,[],.seq (.ops Qa) U1⟩
section
variable {S:Sys}
abbrev I1 (ps:Sl bQ) (i:Int) (B:List (List V)) (more:Bool) (y:Nat):St:=⟨[(0,.yl y),Cv 8 ps,Iv 9 (len ps),Iv 10 i],[],[],B,more,y⟩
abbrev I2 (ps:Sl bQ) (i:Int) (es:Sl Event) (j:Int) (B:List (List V)) (more:Bool) (y:Nat):St:=⟨[(0,.yl y),Iv 3 i,Cv 8 ps,Iv 9 (len ps),Iv 10 i,Cv 16 es,Iv 17 (len es),Iv 18 j],[],[],B,more,y⟩
abbrev S2 (ps:Sl bQ) (i:Int) (es:Sl Event) (j:Int) (b:Bool) (B:List (List V)) (more:Bool) (y:Nat):St:=⟨[(0,.yl y),Iv 3 i,Cv 8 ps,Iv 9 (len ps),Iv 10 i,Cv 16 es,Iv 17 (len es),Iv 18 j,Bv 19 b],[],[],B,more,y⟩
theorem QC (ps:Sl bQ) (i:Int) (es:Sl Event) (j:Int) (B:List (List V)) (more:Bool) (y:Nat) (D:decide (j<len es)=false) :
 rn S.bare lW some (.rc Da) [] (I2 ps i es j B more y)=some (.exit 2,S2 ps i es j false B more y):=by
 refine Le.get ?_;refine Kf (n:=7) (fo':=.rc (.cond (.s 19) .skip (.exit 2))) (fs':=[.seq (.seq (.block 3 (.seq (.ops z7) (.seq (.ops xD) (.cond (.s 30) .ret .skip)))) (.ops uL)),.gst (.keep [0,3,8,9,10,16,17,18] [])]) (λb=>S2 ps i es j b B more y) D (by kernel_rfl) ?_
 exact Le.of_eq (by kernel_rfl)
theorem R1 (ps:Sl bQ) (i:Int) (es:Sl Event) (j:Int) (e:Event) (B:List (List V)) (more:Bool) (y:Nat) (G:decide (j<len es)=true) (D:idx es j=some e) (J:(!(more || !B.isEmpty))=false) :
 rn S.bare lW some (.rc Da) [] (I2 ps i es j ([enc (⟨i,IntKind.wrap .i64 (j+1)⟩:aY),enc e]::B) more y)=some (.norm,I2 ps i es (IntKind.wrap .i64 (j+1)) B more y):=by
 refine Le.get ?_;refine Kt (n:=7) (fo':=.rc (.cond (.s 19) .skip (.exit 2))) (fs':=[.seq (.seq (.block 3 (.seq (.ops z7) (.seq (.ops xD) (.cond (.s 30) .ret .skip)))) (.ops uL)),.gst (.keep [0,3,8,9,10,16,17,18] [])]) (λb=>S2 ps i es j b ([enc (⟨i,IntKind.wrap .i64 (j+1)⟩:aY),enc e]::B) more y) G (by kernel_rfl) ?_
 refine Nb D ?_;refine Mh 8 false [] (z7.drop 1) [.seq (.seq (.ops xD) (.cond (.s 30) .ret .skip)),.blk 3,.seq (.ops uL),.gst (.keep [0,3,8,9,10,16,17,18] [])] ⟨[(0,.yl y),Iv 3 i,Cv 8 ps,Iv 9 (len ps),Iv 10 i,Cv 16 es,Iv 17 (len es),Iv 18 j,Bv 19 true,Iv 20 j],[],[],([enc (⟨i,IntKind.wrap .i64 (j+1)⟩:aY),enc e]::B),more,y⟩ .i64 rfl (by kernel_rfl) λx h1=>?_
 obtain rfl:x=e:=by rw[D]at h1;cases h1;rfl
 refine QU 1 false [] (z7.drop 3) [.seq (.seq (.ops xD) (.cond (.s 30) .ret .skip)),.blk 3,.seq (.ops uL),.gst (.keep [0,3,8,9,10,16,17,18] [])] ⟨[(0,.yl y),Iv 3 i,Cv 8 ps,Iv 9 (len ps),Iv 10 i,Cv 16 es,Iv 17 (len es),Iv 18 j,Bv 19 true,Iv 20 j,Cv 22 x],[],[],([enc (⟨i,IntKind.wrap .i64 (j+1)⟩:aY),enc x]::B),more,y⟩ [iv 0,iv 0,iv 0,iv 0,.v .bL] rfl (by simp only[bU,vQ,oO,qx,ow,qg,rJ,qn,ri,oI,qa,vP,qV,rj,rC,rH,tW,tR,qd,ru,SV.cI];rfl) (by kernel_rfl) ?_
 refine Ast 1 false [] (z7.drop 5) [.seq (.seq (.ops xD) (.cond (.s 30) .ret .skip)),.blk 3,.seq (.ops uL),.gst (.keep [0,3,8,9,10,16,17,18] [])] ⟨[(0,.yl y),Iv 3 i,Cv 8 ps,Iv 9 (len ps),Iv 10 i,Cv 16 es,Iv 17 (len es),Iv 18 j,Bv 19 true,Cv 22 x,Pv 6,Iv 5 j],[Xb 6 (⟨0,0,0,0,.nil⟩:Event)],[],([enc (⟨i,IntKind.wrap .i64 (j+1)⟩:aY),enc x]::B),more,y⟩ 6 0 x [iv 0,iv 0,iv 0,iv 0,.v .bL] ((cells x).map .v) rfl (by kernel_rfl) ?_
 refine Sk (n:=10) (q:=xD.drop 6) (fs':=[.seq (.cond (.s 30) .ret .skip),.blk 3,.seq (.ops uL),.gst (.keep [0,3,8,9,10,16,17,18] [])]) (st:=⟨[(0,.yl y),Iv 3 i,Cv 8 ps,Iv 9 (len ps),Iv 10 i,Cv 16 es,Iv 17 (len es),Iv 18 j,Bv 19 true,(23,.yl y),Cv 27 (⟨i,IntKind.wrap .i64 (j+1)⟩:aY),Cv 28 x],[Xb 6 x],[],([enc (⟨i,IntKind.wrap .i64 (j+1)⟩:aY),enc x]::B),more,y⟩) (vs:=[cv (⟨i,IntKind.wrap .i64 (j+1)⟩:aY),cv x]) (by kernel_rfl) rfl (by kernel_rfl) (by kernel_rfl) rfl rfl ?_
 refine Kf (n:=3) (fo':=.rc (.cond (.s 30) .ret .skip)) (fs':=[.blk 3,.seq (.ops uL),.gst (.keep [0,3,8,9,10,16,17,18] [])]) (λb=>⟨[(0,.yl y),Iv 3 i,Cv 8 ps,Iv 9 (len ps),Iv 10 i,Cv 16 es,Iv 17 (len es),Iv 18 j,Bv 19 true,Bv 30 b],[Xb 6 x],[],B,more,y⟩) J (by kernel_rfl) ?_
 exact Le.of_eq (by kernel_rfl)
theorem ON (ps:Sl bQ) (i:Int) (es:Sl Event) (j:Int) (e:Event) (B:List (List V)) (more:Bool) (y:Nat) (G:decide (j<len es)=true) (D:idx es j=some e) (J:(!(more || !B.isEmpty))=true) :
 rn S.bare lW some (.rc Da) [] (I2 ps i es j ([enc (⟨i,IntKind.wrap .i64 (j+1)⟩:aY),enc e]::B) more y)=some (.ret,⟨[(0,.yl y),Iv 3 i,Cv 8 ps,Iv 9 (len ps),Iv 10 i,Cv 16 es,Iv 17 (len es),Iv 18 j,Bv 19 true,Bv 30 true],[Xb 6 e],[],B,more,y⟩):=by
 refine Le.get ?_;refine Kt (n:=7) (fo':=.rc (.cond (.s 19) .skip (.exit 2))) (fs':=[.seq (.seq (.block 3 (.seq (.ops z7) (.seq (.ops xD) (.cond (.s 30) .ret .skip)))) (.ops uL)),.gst (.keep [0,3,8,9,10,16,17,18] [])]) (λb=>S2 ps i es j b ([enc (⟨i,IntKind.wrap .i64 (j+1)⟩:aY),enc e]::B) more y) G (by kernel_rfl) ?_
 refine Nb D ?_;refine Mh 8 false [] (z7.drop 1) [.seq (.seq (.ops xD) (.cond (.s 30) .ret .skip)),.blk 3,.seq (.ops uL),.gst (.keep [0,3,8,9,10,16,17,18] [])] ⟨[(0,.yl y),Iv 3 i,Cv 8 ps,Iv 9 (len ps),Iv 10 i,Cv 16 es,Iv 17 (len es),Iv 18 j,Bv 19 true,Iv 20 j],[],[],([enc (⟨i,IntKind.wrap .i64 (j+1)⟩:aY),enc e]::B),more,y⟩ .i64 rfl (by kernel_rfl) λx h1=>?_
 obtain rfl:x=e:=by rw[D]at h1;cases h1;rfl
 refine QU 1 false [] (z7.drop 3) [.seq (.seq (.ops xD) (.cond (.s 30) .ret .skip)),.blk 3,.seq (.ops uL),.gst (.keep [0,3,8,9,10,16,17,18] [])] ⟨[(0,.yl y),Iv 3 i,Cv 8 ps,Iv 9 (len ps),Iv 10 i,Cv 16 es,Iv 17 (len es),Iv 18 j,Bv 19 true,Iv 20 j,Cv 22 x],[],[],([enc (⟨i,IntKind.wrap .i64 (j+1)⟩:aY),enc x]::B),more,y⟩ [iv 0,iv 0,iv 0,iv 0,.v .bL] rfl (by simp only[bU,vQ,oO,qx,ow,qg,rJ,qn,ri,oI,qa,vP,qV,rj,rC,rH,tW,tR,qd,ru,SV.cI];rfl) (by kernel_rfl) ?_
 refine Ast 1 false [] (z7.drop 5) [.seq (.seq (.ops xD) (.cond (.s 30) .ret .skip)),.blk 3,.seq (.ops uL),.gst (.keep [0,3,8,9,10,16,17,18] [])] ⟨[(0,.yl y),Iv 3 i,Cv 8 ps,Iv 9 (len ps),Iv 10 i,Cv 16 es,Iv 17 (len es),Iv 18 j,Bv 19 true,Cv 22 x,Pv 6,Iv 5 j],[Xb 6 (⟨0,0,0,0,.nil⟩:Event)],[],([enc (⟨i,IntKind.wrap .i64 (j+1)⟩:aY),enc x]::B),more,y⟩ 6 0 x [iv 0,iv 0,iv 0,iv 0,.v .bL] ((cells x).map .v) rfl (by kernel_rfl) ?_
 refine Sk (n:=10) (q:=xD.drop 6) (fs':=[.seq (.cond (.s 30) .ret .skip),.blk 3,.seq (.ops uL),.gst (.keep [0,3,8,9,10,16,17,18] [])]) (st:=⟨[(0,.yl y),Iv 3 i,Cv 8 ps,Iv 9 (len ps),Iv 10 i,Cv 16 es,Iv 17 (len es),Iv 18 j,Bv 19 true,(23,.yl y),Cv 27 (⟨i,IntKind.wrap .i64 (j+1)⟩:aY),Cv 28 x],[Xb 6 x],[],([enc (⟨i,IntKind.wrap .i64 (j+1)⟩:aY),enc x]::B),more,y⟩) (vs:=[cv (⟨i,IntKind.wrap .i64 (j+1)⟩:aY),cv x]) (by kernel_rfl) rfl (by kernel_rfl) (by kernel_rfl) rfl rfl ?_
 refine Kt (n:=3) (fo':=.rc (.cond (.s 30) .ret .skip)) (fs':=[.blk 3,.seq (.ops uL),.gst (.keep [0,3,8,9,10,16,17,18] [])]) (λb=>⟨[(0,.yl y),Iv 3 i,Cv 8 ps,Iv 9 (len ps),Iv 10 i,Cv 16 es,Iv 17 (len es),Iv 18 j,Bv 19 true,Bv 30 b],[Xb 6 x],[],B,more,y⟩) J (by kernel_rfl) ?_
 exact Le.of_eq (by kernel_rfl)
abbrev S1 (ps:Sl bQ) (i:Int) (b:Bool) (B:List (List V)) (more:Bool) (y:Nat):St:=⟨[(0,.yl y),Cv 8 ps,Iv 9 (len ps),Iv 10 i,Bv 11 b],[],[],B,more,y⟩
theorem QV (ps:Sl bQ) (i:Int) (B:List (List V)) (more:Bool) (y:Nat) (D:decide (i<len ps)=false) :
 rn S.bare lW some (.rc KO) [] (I1 ps i B more y)=some (.exit 0,S1 ps i false B more y):=by
 refine Le.get ?_;refine Kf (n:=7) (fo':=.rc (.cond (.s 11) .skip (.exit 0))) (fs':=[.seq (.seq (.block 1 (.seq (.ops Hi) (.seq (.ops D6) U2))) (.ops CB)),.gst (.keep [0,8,9,10] [])]) (λb=>S1 ps i b B more y) D (by kernel_rfl) ?_
 exact Le.of_eq (by kernel_rfl)
def N1:List Fm:=[.blk 2,.blk 1,.seq (.ops CB),.gst (.keep [0,8,9,10] [])]
theorem N4 (ps:Sl bQ) (i:Int) (p:bQ) (B:List (List V)) (more:Bool) (y:Nat) (r:Out×St) (G:decide (i<len ps)=true) (D:idx ps i=some p)
 (h:rn S.bare lW some (.rc (.loop Da)) N1 (I2 ps i p.events 0 B more y)=some r):rn S.bare lW some (.rc KO) [] (I1 ps i B more y)=some r:=by
 refine Le.get ?_;refine Kt (n:=7) (fo':=.rc (.cond (.s 11) .skip (.exit 0))) (fs':=[.seq (.seq (.block 1 (.seq (.ops Hi) (.seq (.ops D6) U2))) (.ops CB)),.gst (.keep [0,8,9,10] [])]) (λb=>S1 ps i b B more y) G (by kernel_rfl) ?_
 refine Nb D ?_;refine Mh 8 false [] (Hi.drop 1) [.seq (.seq (.ops D6) U2),.blk 1,.seq (.ops CB),.gst (.keep [0,8,9,10] [])] ⟨[(0,.yl y),Cv 8 ps,Iv 9 (len ps),Iv 10 i,Bv 11 true,Iv 12 i],[],[],B,more,y⟩ .i64 rfl (by kernel_rfl) λx h1=>?_
 obtain rfl:x=p:=by rw[D]at h1;cases h1;rfl
 refine QU 1 false [] (Hi.drop 3) [.seq (.seq (.ops D6) U2),.blk 1,.seq (.ops CB),.gst (.keep [0,8,9,10] [])] ⟨[(0,.yl y),Cv 8 ps,Iv 9 (len ps),Iv 10 i,Bv 11 true,Iv 12 i,Cv 14 x],[],[],B,more,y⟩ [.v (.str ByteArray.empty),.v .bL,.v .bL] rfl (by simp only[bU,vQ,oO,qx,ow,qg,rJ,qn,ri,oI,qa,vP,qV,rj,rC,rH,tW,tR,qd,ru,SV.cI];rfl) (by kernel_rfl) ?_
 refine Ast 1 false [] (Hi.drop 5) [.seq (.seq (.ops D6) U2),.blk 1,.seq (.ops CB),.gst (.keep [0,8,9,10] [])] ⟨[(0,.yl y),Cv 8 ps,Iv 9 (len ps),Iv 10 i,Bv 11 true,Cv 14 x,Pv 4,Iv 3 i],[Xb 4 (⟨ByteArray.empty,.nil,.nil⟩:bQ)],[],B,more,y⟩ 4 0 x [.v (.str ByteArray.empty),.v .bL,.v .bL] ((cells x).map .v) rfl (by kernel_rfl) ?_
 refine Q3 6 false [] (D6.drop 2) [.seq U2,.blk 1,.seq (.ops CB),.gst (.keep [0,8,9,10] [])] ⟨[(0,.yl y),Cv 8 ps,Iv 9 (len ps),Iv 10 i,Bv 11 true,Pv 4,Iv 3 i,Cv 16 x.events],[Xb 4 x],[],B,more,y⟩ x.events rfl (by kernel_rfl) ?_
 refine yB (n:=5) (fo':=.rc (.loop Da)) (fs':=N1) (st':=I2 ps i x.events 0 B more y) (by kernel_rfl) (Le.of_eq h)
theorem On (ps:Sl bQ) (i:Int) (es:Sl Event) (j:Int) (B:List (List V)) (more:Bool) (y:Nat) :
 rn S.bare lW some (.ex 2) N1 (S2 ps i es j false B more y)=some (.norm,I1 ps (IntKind.wrap .i64 (i+1)) B more y):=by kernel_rfl
theorem wrap_small (n:Nat) (h:n<9223372036854775807):IntKind.wrap .i64 ((n:Int)+1)=((n+1:Nat):Int):=by
 simp[IntKind.wrap,IntKind.bits,IntKind.signed];omega
abbrev eI (x:aY×Event):List V:=[enc x.1,enc x.2]
theorem sJ.step {x:List V} {D rest:List (List V)} {more:Bool} (h:sJ D (x::rest) more):∃B,D=x::B/\((!(more || !B.isEmpty))=false/\sJ B rest more\/(!(more || !B.isEmpty))=true/\B=[]):=by
 rcases h with⟨rfl,rfl⟩|⟨rfl,u,r,hr⟩
 .exact⟨rest,rfl,.inl ⟨rfl,.inl ⟨rfl,rfl⟩⟩⟩
 .cases D with
  | nil=>exact absurd rfl u
  | cons w D=>
   simp only[List.cons_append,List.cons.injEq]at hr;obtain⟨rfl,rfl⟩:=hr;refine⟨D,rfl,?_⟩
   cases D with
   | nil=>exact .inr ⟨rfl,rfl⟩
   | cons z A=>exact .inl ⟨rfl,.inr ⟨rfl,by simp,r,rfl⟩⟩
theorem rz {α:Type} {s:Sl α} {j:Nat} {x:α} {r:List α} (h:s.l.drop j=x::r):idx s (j:Int)=some x/\decide ((j:Int)<len s)=true/\s.l.drop (j+1)=r:=by
 have h1:j<s.l.length:=by
  apply Classical.byContradiction;intro w;rw[List.drop_eq_nil_of_le (by omega)]at h;cases h
 have u:=List.drop_eq_getElem_cons h1;rw[u]at h;simp only[List.cons.injEq]at h;refine⟨?_,by simp[len,h1],h.2⟩
 unfold idx;rw[if_pos (by omega)]
 simp[ζd h1,h.1]
variable {Q:Out×St->Option (Out×St)} {fs:List Fm}
theorem inner (ps:Sl bQ) (i:Int) (es:Sl Event) (U:es.l.length<9223372036854775807) (more:Bool) (y:Nat) (R:List (List V)):∀(rem:List Event) (j:Nat),es.l.drop j=rem->∀D,sJ D ((gC i j rem).map eI++R) more ->
 (∃(B:List (List V)) (W:Int),sJ B R more/\rn S.bare lW Q (.rc (.loop Da)) fs (I2 ps i es j D more y)=rn S.bare lW Q (.ex 2) fs (S2 ps i es W false B more y)) \/
 (∃st':St,st'.want=[]/\rn S.bare lW Q (.rc (.loop Da)) fs (I2 ps i es j D more y)=Q (.ret,st'))
 | [],j,hd,D,G=>by
  have h1:decide ((j:Int)<len es)=false:=by
   have:es.l.length<=j:=by simpa using hd
   simp[len];omega
  exact .inl ⟨D,j,by simpa [gC]using G,C0 (QC ps i es j D more y h1)⟩
 | e::rem,j,hd,D,G=>by
  obtain⟨h1,z,O⟩:=rz hd;have X:j<es.l.length:=by simpa [len]using z
  simp only[gC,List.map_cons,List.cons_append]at G;obtain⟨B,rfl,u⟩:=sJ.step G;have A:=wrap_small j (by omega)
  have w:((j:Int)+1)=IntKind.wrap .i64 ((j:Int)+1):=by rw[A];simp
  rcases u with⟨u,C⟩|⟨u,rfl⟩
  .have k:=R1 (S:=S) ps i es j e B more y z h1 u;rw[<-w]at k;have J:=Dm (Q:=Q) (fs:=fs) k;have L:=inner ps i es U more y R rem (j+1) O B (by push_cast;exact C)
   rw[show ((j+1:Nat):Int)=(j:Int)+1 from rfl]at L;rcases L with⟨I,T,g1,g2⟩|⟨st',g1,g2⟩
   .exact .inl ⟨I,T,g1,J.trans g2⟩
   .exact .inr ⟨st',g1,J.trans g2⟩
  .have k:=ON (S:=S) ps i es j e [] more y z h1 u;rw[<-w]at k;exact .inr ⟨_,by rfl,Dj k⟩
theorem outer (ps:Sl bQ) (J:ps.l.length<9223372036854775807) (D:∀p∈ps.l,p.events.l.length<9223372036854775807) (more:Bool) (y:Nat):∀(rem:List bQ) (i:Nat),ps.l.drop i=rem->∀B,sJ B ((eU i rem).map eI) more ->
 rn S.bare lW Qi (.rc (.loop KO)) [.blk 0] (I1 ps i B more y)=some ()
 | [],i,hd,B,G=>by
  have h1:decide ((i:Int)<len ps)=false:=by
   have:ps.l.length<=i:=by simpa using hd
   simp[len];omega
  rw[C0 (QV ps i B more y h1)];have:B=[]:=by
   rcases G with⟨_,rfl⟩|⟨_,A,r,hr⟩
   .rfl
   .have:B=[]:=by cases B with
     | nil=>rfl
     | cons=>simp[eU]at hr
    exact absurd this A
  subst this;rfl
 | p::rem,i,hd,B,G=>by
  obtain⟨h1,u,C⟩:=rz hd;have L:i<ps.l.length:=by simpa [len]using u
  have I:p∈ps.l:=List.mem_of_mem_drop (i:=i) (by rw[hd];exact List.mem_cons_self ..)
  simp only[eU,List.map_append]at G;have w:=wrap_small i (by omega)
  rcases inner (S:=S) (Q:=some) (fs:=N1) ps i p.events (D p I) more y _ p.events.l 0 rfl B G with⟨z,O,g1,g2⟩|⟨st',g1,g2⟩
  .rw[On,w]at g2;rw[Dm (N4 ps i p B more y _ u h1 g2)];exact outer ps J D more y rem (i+1) C z g1
  .rw[Dj (N4 ps i p B more y _ u h1 g2)];simp[Qi,g1]
theorem all (t:Trace) (B:List (aY×Event)) (h:h_ t=some B) (D:List (List V)) (more:Bool) (G:sJ D (B.map eI) more) (y:Nat) :
 rn S.bare lW Qi (.rc text.body) [] ⟨s7 0 (([]:List V).map .v++.yl y::[V.fptr (cells t)].map .v),[],[],D,more,y⟩=some ():=by
 unfold h_ at h;split at h
 .rename_i hk;cases h;simp only[ζh,List.all_eq_true,mP,decide_eq_true_eq]at hk;refine Le.get ?_;refine Q3 4 false [] (Qa.drop 2) [.seq U1] ⟨[(0,.yl y),Cv 8 t.procs],[],[],D,more,y⟩ t.procs rfl (by kernel_rfl) ?_
  refine yB (n:=5) (fo':=.rc (.loop KO)) (fs':=[.blk 0]) (st':=I1 t.procs 0 D more y) (by kernel_rfl) (Le.of_eq ?_)
  exact outer t.procs hk.1 hk.2 more y t.procs.l 0 rfl D G
 .cases h
end
theorem tQ {α:Type} [bz α] {a b:Sl α} (h:bZ a=bZ b):rows a.l=rows b.l:=by
 cases a <;> cases b <;> first|rfl|(simp only[bZ,Sl.k,mB,V.fsl.injEq,true_and,reduceCtorEq]at h;done)|(simp only[bZ,Sl.k,mB,V.fsl.injEq,true_and,reduceCtorEq]at h;exact h)
theorem uA (p:Int):∀(es B:List Event) (j:Int),rows es=rows B->(gC p j es).map eI=(gC p j B).map eI
 | [],[],_,_=>rfl
 | [],_::_,_,h=>by simp[rows]at h
 | _::_,[],_,h=>by simp[rows]at h
 | e::es,D::B,j,h=>by
  simp only[rows,List.map_cons,List.cons.injEq]at h;have h1:enc e=enc D:=by show V.agg (cells e)=V.agg (cells D);rw[h.1]
  simp only[gC,List.map_cons,eI,h1,uA p es B (j+1) h.2]
theorem BZ:∀(ps B:List bQ) (i:Int),rows ps=rows B->(eU i ps).map eI=(eU i B).map eI
 | [],[],_,_=>rfl
 | [],_::_,_,h=>by simp[rows]at h
 | _::_,[],_,h=>by simp[rows]at h
 | p::ps,p'::B,i,h=>by
  simp only[rows,List.map_cons,List.cons.injEq]at h;have h1:bZ p.events=bZ p'.events:=by
   have:=h.1;change [V.str p.name,bZ p.vars,bZ p.events]=[V.str p'.name,bZ p'.vars,bZ p'.events]at this;simp only[List.cons.injEq]at this;exact this.2.2.1
  simp only[eU,List.map_append,uA i _ _ 0 (tQ h1),BZ ps B (i+1) h.2]
def tj (f:FuncId) (g:FuncId) (a b:List V) (xs:List (List V)):Prop:=∃(t:Trace) (u:List (aY×Event)),g=f/\a=[]/\b=[.fptr (cells t)]/\h_ t=some u/\xs=u.map eI
theorem tj.uniq {f g:FuncId} {a b:List V} {xs ys:List (List V)} (h:tj f g a b xs) (k:tj f g a b ys):xs=ys:=by
 obtain⟨t,B,rfl,rfl,rfl,h1,rfl⟩:=h;obtain⟨z,A,_,_,w,u,rfl⟩:=k;simp only[List.cons.injEq,V.fptr.injEq,and_true]at w;have C:bZ t.procs=bZ z.procs:=by
  change [bZ t.procs]=[bZ z.procs]at w;simpa using w
 unfold h_ at h1 u;split at h1 <;> split at u <;> simp only[ζa,reduceCtorEq]at h1 u;subst h1 u;exact BZ _ _ 0 (tQ C)
end trace_events_c1
end Go.VE
namespace Go.VE
open Go.Proofs.YtlmckmkfopljoaaGreatDoor
noncomputable section
noncomputable def DX (f:FuncId):Option G0:=none
noncomputable def Sb:Sys:=⟨E,λn=>n,λ_ _ _=>none,v7 E,DX⟩
theorem Gb:∀f q,DX f=some q->n9 E f q:=by
 intro f q h;unfold DX at h;cases h
def Tx:oh:=Lr E some (lk Iq)
abbrev cB:bO:=dx Sb Tx
theorem P7:th Sb Tx where
 fn f rf h:=let ⟨u,h1,w⟩:=Ay h;⟨u,some,h1,wm,w⟩
 uU f z y h:=CY h
 prm:=Gb
theorem JQ:∀f a b xs,Sb.items f a b=some xs->eD Sb f a b xs:=λf a b xs h=>by cases h
end
end Go.VE
namespace Go.VE
noncomputable section
namespace IB
def fM (s0:Sl Int):Option (Sl Int):=
 (Sl.isNil s0).bind λu=>
 bl u
 (some Sl.nil)
 ((wN (Sl.row []:Sl Int) s0).bind λw=>
 some w)
theorem l_:Av Sb cB 168 (λs0:Sl Int=>[enc s0]) (λz=>fM z):=Av.mk' (oR (Tx 168)) (λs0=>Qj 9 λu _=>bA 2 4 aZ (Lc 7 5 7 λw _=>aZ))
namespace b7
def dZ (k6:Int) (U:Sl Event) (W Y:Int) (G:Sl Assign) (J:Int) (ws:List (List V)) (B:Sl Int) (D:Int) (more:Bool):Option (Fw ((Sl Int)×Int) (Sl Int) Empty):=
 bl (decide (D<J))
 ((idx G D).bind λu=>
 (Sl.qw B u.var).bind λw=>
 (Sl.put B w (u.value:Int)).bind λz=>
 some (.n (z,IntKind.wrap .i64 (D+1))))
 (some (.x B))
def W3 (B:Sl Int) (k6:Int) (J:Sl Event) (D G:Int) (U:Sl Assign) (W Y:Int) (ws:List (List V)) (more:Bool):Option (Fw ((Sl Int)×Int×Int×(List (List V))) (List (List V)) (List (List V))):=
 (bX (λq:(Sl Int)×Int=>dZ k6 J D G U W ws q.1 q.2 more) (B,Y)).bind (Fw.elim
 (λe=>((fM e).bind Sl.whole).bind λw=>
 (yl ws more [.int .i64 (IntKind.wrap .i64 (k6+1)),enc w]).bind λu=>
 bl u.1
 (some (.n (e,D,IntKind.wrap .i64 (G+1),u.2)))
 (some (.r u.2)))
 (λe=>Empty.elim e))
def cq (D:Sl Event) (G:Sl Int) (J B:Int) (U:List (List V)) (more:Bool):Option (Fw ((Sl Int)×Int×Int×(List (List V))) (List (List V)) (List (List V))):=
 bl (decide (B<J))
 ((idx D B).bind λu=>
 W3 G B D J B u.assign (len u.assign) 0 U more)
 (some (.x U))
def W2 (B:Sl Int) (D:Sl Event) (G J:Int) (U:List (List V)) (more:Bool):Option (List (List V)):=
 (bX (λq:(Sl Int)×Int×Int×(List (List V))=>cq D q.1 q.2.1 q.2.2.1 q.2.2.2 more) (B,G,J,U)).bind (Fw.elim
 (λe=>some e)
 (λe=>some e))
def bF (U:bQ) (G:Sl Var) (J:Int) (W:List (List V)) (B:Sl Int) (D:Int) (more:Bool):Option (Fw ((Sl Int)×Int) (Sl Int) Empty):=
 bl (decide (D<J))
 ((idx G D).bind λu=>
 (iU B (u.init_:Int)).bind λw=>
 some (.n (w,IntKind.wrap .i64 (D+1))))
 (some (.x B))
def W1 (B:bQ) (D:Sl Int) (G:Sl Var) (J U:Int) (W:List (List V)) (more:Bool):Option (List (List V)):=
 (bX (λq:(Sl Int)×Int=>bF B G J W q.1 q.2 more) (D,U)).bind (Fw.elim
 (λe=>((fM e).bind Sl.whole).bind λw=>
 (yl W more [.int .i64 0,enc w]).bind λu=>
 bl u.1
 (b7.W2 e B.events (len B.events) 0 u.2 more)
 (some u.2))
 (λe=>Empty.elim e))
end b7
def b7 (D:List (List V)) (B:bQ) (more:Bool):Option (List (List V)):=
 b7.W1 B (Sl.nil:Sl Int) B.vars (len B.vars) 0 D more
open b7 in
theorem vT (more:Bool) (y:Nat) (J:List (List V)) (B:bQ):Le ((b7 J B more).bind λr=>some r) (b_ Sb cB Qw (.rc (tb Tx 179),[],⟨s7 0 (.yl y::[V.fptr (cells B)].map .v),[],[],J,more,y⟩)):=
 cF 10 B.vars (lg 6 (λA=>⟨[(0,.yl y),Kv 1 B,Ov 3,Cv 11 B.vars,Iv 12 (len B.vars),Iv 13 A.2],[Lb 2003 A.1],[],J,more,y⟩) (λC=>(0,⟨[(0,.yl y),Kv 1 B,Ov 3],[Lb 2003 C],[],J,more,y⟩)) (λA=>bA 8 14 (b8 7 λS _=>wK 10 2003 20 21 λT _=>aZ) aZ) (λC=>NS 7 25 l_ C λI _=>Sq 1 [.int .i64 0,enc I] λQ _=>dH 3 27 (cF 7 B.events (eu 6 (λu=>⟨[(0,.yl y),Ov 3,Cv 29 B.events,Iv 30 u.2.1,Iv 31 u.2.2.1],[Lb 2003 u.1],[],u.2.2.2,more,y⟩) (λw=>(2,⟨[],[],[],w,more,y⟩)) (λw=>⟨[],[],[],w,more,y⟩) (λu=>bA 8 32 (b8 8 λz _=>lT 3 7 0 z (cF 7 z.assign (lg 6 (λD=>⟨[(0,.yl y),Ov 3,Iv 6 u.2.2.1,Cv 29 B.events,Iv 30 u.2.1,Iv 31 u.2.2.1,Cv 37 z.assign,Iv 38 (len z.assign),Iv 39 D.2],[Lb 2003 D.1],[],u.2.2.2,more,y⟩) (λG=>(4,⟨[(0,.yl y),Ov 3,Iv 6 u.2.2.1,Cv 29 B.events,Iv 30 u.2.1,Iv 31 u.2.2.1],[Lb 2003 G],[],u.2.2.2,more,y⟩)) (λD=>bA 8 40 (b8 7 λL _=>vf .i64 11 2003 λU _=>L7 0 2003 (.int .i64 L.value) λW _=>aZ) aZ) (λG=>NS 8 54 l_ G λO _=>Sq 1 [.int .i64 (IntKind.wrap .i64 (u.2.2.1+1)),enc O] λX _=>dH 3 56 aZ aZ)))) aZ) (λw=>aZ) (λw=>aZ))) aZ))
end IB
end
end Go.VE
namespace Go.VE
open IB
def tA:List Assign->Sl Int->Option (Sl Int)
 | [],s=>some s
 | a::r,s=>(Sl.qw s a.var).bind λj=>(Sl.put s j a.value).bind (tA r)
def tw:List Var->Sl Int->Option (Sl Int)
 | [],s=>some s
 | v::r,s=>(iU s v.init_).bind (tw r)
def Iw (s:Sl Int):Option (Sl Int):=(fM s).bind Sl.whole
def tG:Int->List Event->Sl Int->Option (List (Int×Sl Int))
 | _,[],_=>some []
 | k,e::r,s=>(tA e.assign.l s).bind λn=>(Iw n).bind λc=>(tG (k+1) r n).map ((k+1,c)::·)
def hG (p:bQ):Option (List (Int×Sl Int)):=
 if mP p.vars.l.length&&(mP p.events.l.length&&p.events.l.all λe=>mP e.assign.l.length)then
  (tw p.vars.l .nil).bind λs=>(Iw s).bind λc=>(tG 0 p.events.l s).map ((0,c)::·)
 else none
namespace IST
abbrev eI (x:Int×Sl Int):List V:=[enc x.1,enc x.2]
theorem Ac {n:Nat} (h:mP n=true):n<9223372036854775807:=by simpa [mP]using h
theorem wrap_small (n:Nat) (h:n<9223372036854775807):IntKind.wrap .i64 ((n:Int)+1)=((n+1:Nat):Int):=by
 simp[IntKind.wrap,IntKind.bits,IntKind.signed];omega
theorem rz {α:Type} {s:Sl α} {j:Nat} {x:α} {r:List α} (h:s.l.drop j=x::r):idx s (j:Int)=some x/\decide ((j:Int)<len s)=true/\s.l.drop (j+1)=r:=by
 have h1:j<s.l.length:=by
  apply Classical.byContradiction;intro w;rw[List.drop_eq_nil_of_le (by omega)]at h;cases h
 have u:=List.drop_eq_getElem_cons h1;rw[u]at h;simp only[List.cons.injEq]at h;refine⟨?_,by simp[len,h1],h.2⟩
 unfold idx;rw[if_pos (by omega)]
 simp[ζd h1,h.1]
theorem FU {α:Type} {s:Sl α} {j:Nat} (h:s.l.drop j=[]):decide ((j:Int)<len s)=false:=by
 have:s.l.length<=j:=by simpa using h
 simp[len];omega
theorem Su (p:bQ) (v:Sl Var) (J:v.l.length<9223372036854775807) (D:List (List V)) (more:Bool):∀(rem:List Var) (j:Nat),v.l.drop j=rem->∀s B,tw rem s=some B ->
 bX (λq:Sl Int×Int=>b7.bF p v (len v) D q.1 q.2 more) (s,(j:Int))=some (.x B)
 | [],j,hd,s,B,h=>by
  cases h;rw[eo];simp only[b7.bF,FU hd,bl,ζb,Bool.false_eq_true,if_false]
 | x::rem,j,hd,s,B,h=>by
  obtain⟨h1,G,U⟩:=rz hd;have w:j<v.l.length:=by simpa [len]using G
  simp only[tw,ζg]at h;obtain⟨n,u,h⟩:=h;rw[eo];simp only[b7.bF,h1,G,u,bl,ζb,if_true,wrap_small j (by omega)]
  exact Su p v J D more rem (j+1) U n B h
theorem set (k:Int) (es:Sl Event) (a b:Int) (v:Sl Assign) (J:v.l.length<9223372036854775807) (D:List (List V)) (more:Bool):∀(rem:List Assign) (j:Nat),v.l.drop j=rem->∀s B,tA rem s=some B ->
 bX (λq:Sl Int×Int=>b7.dZ k es a b v (len v) D q.1 q.2 more) (s,(j:Int))=some (.x B)
 | [],j,hd,s,B,h=>by
  cases h;rw[eo];simp only[b7.dZ,FU hd,bl,ζb,Bool.false_eq_true,if_false]
 | x::rem,j,hd,s,B,h=>by
  obtain⟨h1,G,U⟩:=rz hd;have z:j<v.l.length:=by simpa [len]using G
  simp only[tA,ζg]at h;obtain⟨i,u,n,w,h⟩:=h;rw[eo];simp only[b7.dZ,h1,G,u,w,bl,ζb,if_true,wrap_small j (by omega)]
  exact set k es a b v J D more rem (j+1) U n B h
theorem sJ.step {x:List V} {D rest:List (List V)} {more:Bool} (h:sJ D (x::rest) more):∃B,yl D more x=some ((more || !B.isEmpty),B)/\((more || !B.isEmpty)=true/\sJ B rest more\/(more || !B.isEmpty)=false/\B=[]):=by
 rcases h with⟨rfl,rfl⟩|⟨rfl,u,r,hr⟩
 .exact⟨rest,by simp[yl],.inl ⟨rfl,.inl ⟨rfl,rfl⟩⟩⟩
 .cases D with
  | nil=>exact absurd rfl u
  | cons w D=>
   simp only[List.cons_append,List.cons.injEq]at hr;obtain⟨rfl,rfl⟩:=hr;refine⟨D,by simp[yl],?_⟩
   cases D with
   | nil=>exact .inr ⟨rfl,rfl⟩
   | cons z A=>exact .inl ⟨rfl,.inr ⟨rfl,by simp,r,rfl⟩⟩
theorem eE (es:Sl Event) (W:es.l.length<9223372036854775807) (G:∀e∈es.l,e.assign.l.length<9223372036854775807) (more:Bool):∀(rem:List Event) (j:Nat),es.l.drop j=rem->∀s B,tG (j:Int) rem s=some B->∀D,sJ D (B.map eI) more ->
 ∃J:List (List V),J=[]/\(bX (λq:Sl Int×Int×Int×List (List V)=>b7.cq es q.1 q.2.1 q.2.2.1 q.2.2.2 more) (s,len es,(j:Int),D)=some (.x J)\/bX (λq:Sl Int×Int×Int×List (List V)=>b7.cq es q.1 q.2.1 q.2.2.1 q.2.2.2 more) (s,len es,(j:Int),D)=some (.r J))
 | [],j,hd,s,B,h,D,U=>by
  cases h;have:D=[]:=by
   rcases U with⟨_,rfl⟩|⟨_,I,r,hr⟩
   .rfl
   .cases D with
    | nil=>rfl
    | cons=>simp at hr
  subst this;refine⟨[],rfl,.inl ?_⟩;rw[eo];simp only[b7.cq,FU hd,bl,ζb,Bool.false_eq_true,if_false]
 | e::rem,j,hd,s,B,h,D,U=>by
  obtain⟨h1,C,L⟩:=rz hd;have Y:j<es.l.length:=by simpa [len]using C
  have O:e∈es.l:=List.mem_of_mem_drop (i:=j) (by rw[hd];exact List.mem_cons_self ..)
  simp only[tG,ζg,ζf]at h;obtain⟨n,I,c,hc,r,hr,rfl⟩:=h;have hc:(fM n).bind Sl.whole=some c:=hc;obtain⟨w,z,Q⟩:=sJ.step U;have A:=wrap_small j (by omega)
  have z:yl D more [.int .i64 ((j+1:Nat):Int),enc c]=some ((more || !w.isEmpty),w):=z;rw[eo];have u:=set j es (len es) j e.assign (G e O) D more e.assign.l 0 rfl s n I;rw[show ((0:Nat):Int)=0 from rfl]at u;rcases Q with⟨g1,g2⟩|⟨g1,rfl⟩
  .obtain⟨S,T,X⟩:=eE es W G more rem (j+1) L n r hr w g2;refine⟨S,T,?_⟩;rw[g1]at z;simp only[b7.cq,b7.W3,h1,C,u,hc,z,bl,ζb,if_true,Fw.elim,A];exact X
  .refine⟨[],rfl,.inr ?_⟩;rw[g1]at z;simp only[b7.cq,b7.W3,h1,C,u,hc,A,z,bl,ζb,if_true,if_false,Bool.false_eq_true,Fw.elim]
theorem all (p:bQ) (B:List (Int×Sl Int)) (h:hG p=some B) (D:List (List V)) (more:Bool) (G:sJ D (B.map eI) more):b7 D p more=some []:=by
 unfold hG at h;split at h
 .rename_i hk;simp only[ζh,List.all_eq_true]at hk;obtain⟨k1,C,I⟩:=hk;simp only[ζg,ζf]at h;obtain⟨s,J,c,hc,r,hr,rfl⟩:=h;have hc:(fM s).bind Sl.whole=some c:=hc;obtain⟨u,w,L⟩:=sJ.step G;have z:=Su p p.vars (Ac k1) D more p.vars.l 0 rfl .nil s J;rw[show ((0:Nat):Int)=0 from rfl]at z;have w:yl D more [.int .i64 0,enc c]=some ((more || !u.isEmpty),u):=w;unfold b7 b7.W1;simp only[z,ζb,Fw.elim,hc,w];rcases L with⟨g1,g2⟩|⟨g1,rfl⟩
  .obtain⟨Q,rfl,A⟩:=eE p.events (Ac C) (λe O=>Ac (I e O)) more p.events.l 0 rfl s r hr u g2
   rw[show ((0:Nat):Int)=0 from rfl]at A;rw[g1];simp only[bl,if_true,b7.W2];rcases A with q|q <;> (rw[q];rfl)
  .rw[g1];rfl
 .cases h
theorem tQ {α:Type} [bz α] {a b:Sl α} (h:bZ a=bZ b):rows a.l=rows b.l:=by
 cases a <;> cases b <;> first|rfl|(simp only[bZ,Sl.k,mB,V.fsl.injEq,true_and,reduceCtorEq]at h;done)|(simp only[bZ,Sl.k,mB,V.fsl.injEq,true_and,reduceCtorEq]at h;exact h)
theorem EI:∀(a b:List Var),rows a=rows b->∀s,tw a s=tw b s
 | [],[],_,_=>rfl
 | [],_::_,h,_=>by simp[rows]at h
 | _::_,[],h,_=>by simp[rows]at h
 | x::a,y::b,h,s=>by
  simp only[rows,List.map_cons,List.cons.injEq]at h;have h1:x.init_=y.init_:=by
   have:=h.1;change [V.str x.name,V.int .i64 x.init_]=[V.str y.name,V.int .i64 y.init_]at this;simpa using (List.cons.inj (List.cons.inj this).2).1
  simp only[tw,h1,funext (EI a b h.2)]
theorem Fj:∀(a b:List Assign),rows a=rows b->∀s,tA a s=tA b s
 | [],[],_,_=>rfl
 | [],_::_,h,_=>by simp[rows]at h
 | _::_,[],h,_=>by simp[rows]at h
 | x::a,y::b,h,s=>by
  simp only[rows,List.map_cons,List.cons.injEq]at h;have h1:=h.1;change [V.int .i64 x.var,V.int .i64 x.value]=[V.int .i64 y.var,V.int .i64 y.value]at h1;simp only[List.cons.injEq,V.int.injEq,true_and,and_true]at h1;simp only[tA,h1.1,h1.2,funext (Fj a b h.2)]
theorem E9 {x y:Event} (h:cells x=cells y):rows x.assign.l=rows y.assign.l:=by
 change [V.int .i64 x.kind,V.int .i64 x.peer,V.int .i64 x.message,V.int .i64 x.time,bZ x.assign]=[V.int .i64 y.kind,V.int .i64 y.peer,V.int .i64 y.message,V.int .i64 y.time,bZ y.assign]at h;simp only[List.cons.injEq]at h;exact tQ h.2.2.2.2.1
theorem uA:∀(a b:List Event),rows a=rows b->∀k s,tG k a s=tG k b s
 | [],[],_,_,_=>rfl
 | [],_::_,h,_,_=>by simp[rows]at h
 | _::_,[],h,_,_=>by simp[rows]at h
 | x::a,y::b,h,k,s=>by
  simp only[rows,List.map_cons,List.cons.injEq]at h;simp only[tG,Fj _ _ (E9 h.1),uA a b h.2]
theorem AE {α:Type} [bz α] {a b:List α} (h:rows a=rows b):a.length=b.length:=by
 have:=congrArg List.length h;simpa [rows]using this
theorem FH:∀(a b:List Event),rows a=rows b->(a.all λe=>mP e.assign.l.length)=b.all λe=>mP e.assign.l.length
 | [],[],_=>rfl
 | [],_::_,h=>by simp[rows]at h
 | _::_,[],h=>by simp[rows]at h
 | x::a,y::b,h=>by
  simp only[rows,List.map_cons,List.cons.injEq]at h;simp only[List.all_cons,AE (E9 h.1),FH a b h.2]
def tj (f:FuncId) (g:FuncId) (a b:List V) (xs:List (List V)):Prop:=∃(p:bQ) (u:List (Int×Sl Int)),g=f/\a=[]/\b=[.fptr (cells p)]/\hG p=some u/\xs=u.map eI
theorem tj.uniq {f g:FuncId} {a b:List V} {xs ys:List (List V)} (h:tj f g a b xs) (k:tj f g a b ys):xs=ys:=by
 obtain⟨p,B,rfl,rfl,rfl,h1,rfl⟩:=h;obtain⟨w,z,_,_,u,A,rfl⟩:=k;simp only[List.cons.injEq,V.fptr.injEq,and_true]at u;change [V.str p.name,bZ p.vars,bZ p.events]=[V.str w.name,bZ w.vars,bZ w.events]at u;simp only[List.cons.injEq]at u;have r1:=tQ u.2.1;have r2:=tQ u.2.2.1;unfold hG at h1 A;rw[AE r1,AE r2,FH _ _ r2,EI _ _ r1,funext (λs=>uA _ _ r2 0 s)]at h1
 have e:=h1.symm.trans A;cases e;rfl
end IST
end Go.VE
namespace Go.VE
open Go.Proofs.YtlmckmkfopljoaaGreatDoor
noncomputable section
def Fu (f:FuncId) (a b:List V) (xs:List (List V)):Prop:=trace_events_c1.tj 184 f a b xs\/IST.tj 179 f a b xs
noncomputable def Sy:Sys:=⟨E,λn=>n,v_ Fu,v7 E,DX⟩
abbrev cL:bO:=dx Sy Tx
theorem Q5:∃fi,E.ft 184=some fi/\uW E some fi trace_events_c1.text:=Qc (by kernel_rfl)
theorem N_:th Sy Tx where
 fn f rf h:=let ⟨u,h1,w⟩:=Ay h;⟨u,some,h1,wm,w⟩
 uU f z y h:=CY h
 prm:=Gb
theorem E0 (p:bQ) (B:List (Int×Sl Int)) (h1:hG p=some B):eD Sy 179 [] [.fptr (cells p)] (B.map IST.eI):=by
 have w:Tx 179=some (oR (Tx 179)):=xO (by kernel_rfl)
 obtain⟨D,z,A⟩:=Ay w;have e1:Nat.ble (([]:List V).length+1+[V.fptr (cells p)].length) (oR (Tx 179)).na=true:=by kernel_rfl
 have e2:(oR (Tx 179)).rs=[]:=by kernel_rfl
 have e3:Sy.E=Sb.E:=rfl;exact Nn e3 Gb (rU P7 JQ) JQ z wm A (Nat.le_of_ble_eq_true e1) e2 λu more C y=>IB.vT more y u p [] (by rw[IST.all p B h1 u more C];rfl)
theorem Hj:∀f a b xs,Sy.items f a b=some xs->eD Sy f a b xs:=by
 intro f a b xs h;have h:Fu f a b xs:=Ib h;rcases h with h|h
 .obtain⟨t,u,rfl,rfl,rfl,h1,rfl⟩:=h;obtain⟨C,w,z⟩:=Q5;exact Ms Sy w wm z (Nat.le_of_ble_eq_true rfl) rfl λA more B y=>trace_events_c1.all t u h1 A more B y
 .obtain⟨p,u,rfl,rfl,rfl,h1,rfl⟩:=h;exact E0 p u h1
theorem wQ (t:Trace) (B:List (aY×Event)) (h:h_ t=some B):Sy.items 184 [] [.fptr (cells t)]=some (B.map λx:aY×Event=>[enc x.1,enc x.2]):=
 BL (.inl ⟨t,B,rfl,rfl,rfl,h,rfl⟩) (λu hy=>by rcases hy with hy|hy <;> first|exact hy.uniq ⟨t,B,rfl,rfl,rfl,h,rfl⟩|(obtain⟨_,_,hy,_⟩:=hy;exact absurd hy (by decide)))
theorem Dx (p:bQ) (B:List (Int×Sl Int)) (h:hG p=some B):Sy.items 179 [] [.fptr (cells p)]=some (B.map λx:Int×Sl Int=>[enc x.1,enc x.2]):=
 BL (.inr ⟨p,B,rfl,rfl,rfl,h,rfl⟩) (λu hy=>by rcases hy with hy|hy <;> first|exact hy.uniq ⟨p,B,rfl,rfl,rfl,h,rfl⟩|(obtain⟨_,_,hy,_⟩:=hy;exact absurd hy (by decide)))
theorem KW:Sy.uU 10 []=some (.bool true):=CZ (GU rfl ⟨1,[],by kernel_rfl⟩)
end
end Go.VE
namespace Go.VE
noncomputable section
def sM (D:Trace) (B:aY):Option Event:=
 (idx D.procs B.proc).bind λu=>
 (idx u.events (IntKind.wrap .i64 (B.index-1))).bind λw=>
 some w
instance Rj (B:Trace) (D:aY):Fc Sy cL (sM B D):=Fc.N 115 [enc B,enc D] (cE 2 2 B (b8 10 λw _=>b8 5 λu _=>lT 1 4 0 u aZ))
namespace dA
def cq (B G p7:Int) (D:Trace) (J:aY) (i8:Int):Option (Fw Int Unit aY):=
 (idx D.procs p7).bind λw=>
 bl (decide (i8<(len w.events)))
 ((idx D.procs p7).bind λz=>
 (idx z.events i8).bind λu=>
 (bl (u.kind==B)
 (some (u.message==G))
 (some false):Option Bool).bind λA=>
 bl A
 (some (.r (⟨p7,IntKind.wrap .i64 (i8+1)⟩:aY)))
 (some (.n (IntKind.wrap .i64 (i8+1)))))
 (some (.x ()))
def W2 (B J p7 i8:Int) (D:Trace) (G:aY):Option (Fw Int Unit aY):=
 (bX (λq:Int=>cq B J p7 D G q) i8).bind (Fw.elim
 (λe=>some (.n (IntKind.wrap .i64 (p7+1))))
 (λe=>some (.r e)))
def bF (B J:Int) (D:Trace) (G:aY) (p7:Int):Option (Fw Int Unit aY):=
 bl (decide (p7<(len D.procs)))
 (W2 B J p7 0 D G)
 (some (.x ()))
def W1 (B J p7:Int) (D:Trace) (G:aY):Option aY:=
 (bX (λq:Int=>bF B J D G q) p7).bind (Fw.elim
 (λe=>some ⟨0,0⟩)
 (λe=>some e))
end dA
def dA (D:Trace) (B G:Int):Option aY:=
 dA.W1 B G 0 D (⟨0,0⟩:aY)
open dA in
instance P4 (D:Trace) (B G:Int):Fc Sy cL (dA D B G):=Fc.M 54 [enc D,.int .i64 B,.int .i64 G] (cE 2 3 D (eu 11 (λu=>(bU [Iv 1 B,Iv 2 G,Pv 3,Pv 6,Iv 7 u] [Xb 3 D,Xb 6 (⟨0,0⟩:aY)])) (λw=>(0,(bU [Pv 6] [Xb 6 (⟨0,0⟩:aY)]))) (λw=>(bU [Pv 6] [Xb 6 w])) (λu=>cF 7 D.procs (bA 3 14 (eu 12 (λA=>(bU [Iv 1 B,Iv 2 G,Pv 3,Pv 6,Iv 7 u,Iv 8 A] [Xb 3 D,Xb 6 (⟨0,0⟩:aY)])) (λz=>(2,(bU [Iv 1 B,Iv 2 G,Pv 3,Pv 6,Iv 7 u] [Xb 3 D,Xb 6 (⟨0,0⟩:aY)]))) (λz=>(bU [Pv 6] [Xb 6 z])) (λA=>b8 8 λC _=>cF 2 C.events (bA 3 25 (b8 10 λJ _=>b8 3 λI _=>lT 2 9 0 I (bP 9 5 [9,41] 46 (bA 9 41 (bt 5) (bt 5)) λL=>bA 2 46 aZ aZ)) aZ)) (λz=>aZ) (λz=>aZ)) aZ)) (λw=>aZ) (λw=>aZ)))
namespace dy
def J1 (B:Sl aY) (D:Trace) (G:aY):Option (Sl aY):=
 (sM D G).bind λu=>
 bl (u.kind==3)
 ((dA D 2 u.message).bind λw=>
 (iU B (w:aY)).bind λz=>
 some z)
 (some B)
end dy
def dy (D:Trace) (B:aY):Option (Sl aY):=
 bl (decide (B.index>1))
 (dy.J1 (Sl.row [⟨B.proc,IntKind.wrap .i64 (B.index-1)⟩]:Sl aY) D B)
 (dy.J1 (Sl.nil:Sl aY) D B)
open dy in
theorem xF (D:Trace) (B:aY):Le ((dy D B).bind λr=>some (cS r)) (b_ Sy cL (za (tr Tx 116)) (.rc (tb Tx 116),[],start ([enc D,enc B].map .v) [])):=
 cE 2 2 D (bA 17 9 (NO 10 17 18 .bL (⟨B.proc,IntKind.wrap .i64 (B.index-1)⟩:aY) (qI 5 (bE 4 λu _=>lT 1 6 0 u (bA 10 24 (bE 6 λw _=>wK 1 2005 30 31 λz _=>aZ) aZ)))) (qI 5 (bE 4 λu _=>lT 1 6 0 u (bA 10 24 (bE 6 λw _=>wK 1 2005 30 31 λz _=>aZ) aZ))))
def mQ (dir:aY->Option (Sl aY)):List (List Bool)×List aY->Option (Fw (List (List Bool)×List aY) (List (List Bool)) Empty)
 | (out,[])=>some (.x out)
 | (out,y::rest)=>if 0<=y.proc/\0<=y.index then(out[y.proc.toNat]?).bind λrow=>(row[y.index.toNat]?).bind λb=>
  bl b (some (.n (out,rest))) ((dir y).bind λmore=>if rest.length+more.l.length<=2147483648 then some (.n (out.set y.proc.toNat (row.set y.index.toNat true),rest++more.l))else none)else none
def fL (t:Trace):List (List Bool):=t.procs.l.map λP=>List.replicate (P.events.l.length+1) false
def yz (t:Trace):Bool:=decide (t.procs.l.length<=2147483648)&&t.procs.l.all λP=>decide (P.events.l.length+1<=2147483648)
def nested (out:List (List Bool)):Sl (Sl Bool):=if out=[]then .nil else .row (out.map .row)
def lR (t:Trace) (x:aY):Option (Sl (Sl Bool)):=
 if yz t then(dy t x).bind λs=>(bX (mQ (dy t)) (fL t,s.l)).bind (Fw.elim (λout=>some (nested out)) (λe=>Empty.elim e))else none
end
end Go.VE
namespace Go.VE
namespace pastX
abbrev uM:Nat->FuncId:=λn=>n
def r1:List RO:=[o2 2 (.a .box) [0] [],o2 3 (.a .box) [1] [],o1 4 (.k (.bL)) []]
def r2:List RO:=[o1 5 (.k (.bL)) []]
def r3:List RO:=[o1 6 (.k (.int .i64 0)) []]
def r4:List RO:=[o1 11 6 [],o2 12 (fa 0) [2] [],o2 13 (ld 1) [12] [],o2 14 ln [13] [],o2 15 (bI .lss) [11,14] []]
def r5:List RO:=[o1 18 5 [],o2 19 (fa 0) [2] [],o2 20 (ld 1) [19] [],o1 21 6 [],o2 22 (ix 3) [20,21] [],o2 23 (fa 2) [22] [],o2 24 (ld 1) [23] [],o2 25 ln [24] [],o2 26 (bI .add) [25,.k (.int .i64 1)] [],o2 27 (.a (.makeSl 1 [.bool false])) [26,26] [],o2 28 (.a (.buildSl 1 1 [.bL] [0])) [27] [],o2 29 (.l (.append 1)) [18,28] [],o1 5 29 []]
def r6:List RO:=[o1 16 6 [],o2 17 (bI .add) [16,.k (.int .i64 1)] [],o1 6 17 []]
def L1:RC:=.seq (.seq (.ops r4) (.cond (.s 15) (.skip) (.exit 0))) (.seq (.block 1 (.ops r5)) (.ops r6))
def r7:List RO:=[o2 30 (lD 1) [2] [],o2 31 (lD 2) [3] [],o2 32 .c [.f 116,30,31] [],o1 7 32 []]
def r8:List RO:=[o1 33 7 [],o2 34 ln [33] [],o2 35 (bI .gtr) [34,.k (.int .i64 0)] []]
def r9:List RO:=[o1 36 7 [],o2 37 (ix 2) [36,.k (.int .i64 0)] [],o2 38 (lD 2) [37] [],o2 8 (.a (.alloc 2 [.int .i64 0,.int .i64 0])) [] [],oz (su 2) [8,38] []]
def EP:List RO:=[o1 39 7 [],o2 40 (.p (.slice 2 true false)) [39,.k (.int .i64 1)] [],o1 7 40 []]
def FO:List RO:=[o1 41 5 [],o2 42 (fa 0) [8] [],o2 43 (ld 1) [42] [],o2 44 (ix 1) [41,43] [],o2 45 (ld 1) [44] [],o2 46 (fa 1) [8] [],o2 47 (ld 1) [46] [],on 48 (ix 1) [45,47] [],on 49 (ld 1) [48] []]
def E7:List RO:=[o1 50 5 [],o2 51 (fa 0) [8] [],o2 52 (ld 1) [51] [],o2 53 (ix 1) [50,52] [],o2 54 (ld 1) [53] [],o2 55 (fa 1) [8] [],o2 56 (ld 1) [55] [],on 57 (ix 1) [54,56] [],oy (su 1) [57,.k (.bool true)] []]
def Fa:List RO:=[o2 58 (lD 1) [2] [],o2 59 (lD 2) [8] [],o2 60 .c [.f 116,58,59] [],o1 9 60 []]
def Ey:List RO:=[o1 10 (.k (.int .i64 0)) []]
def G9:List RO:=[o1 61 10 [],o1 62 9 [],o2 63 ln [62] [],o2 64 (bI .lss) [61,63] []]
def r16:List RO:=[o1 67 7 [],o1 68 9 [],o1 69 10 [],o2 70 (ix 2) [68,69] [],o2 71 (lD 2) [70] [],o2 72 (.a (.buildSl 2 1 [.int .i64 0,.int .i64 0] [0])) [71] [],o2 73 (.l (.append 2)) [67,72] [],o1 7 73 []]
def KN:List RO:=[o1 65 10 [],o2 66 (bI .add) [65,.k (.int .i64 1)] [],o1 10 66 []]
def L3:RC:=.seq (.seq (.ops G9) (.cond (.s 64) (.skip) (.exit 4))) (.seq (.block 5 (.ops r16)) (.ops KN))
def L2:RC:=.seq (.seq (.ops r8) (.cond (.s 35) (.skip) (.exit 2))) (.block 3 (.seq (.ops r9) (.seq (.ops EP) (.seq (.seq (.ny FO) (.cond (.s 49) (.exit 3) (.skip))) (.seq (.ny E7) (.seq (.ops Fa) (.seq (.ops Ey) (.block 4 (.loop L3)))))))))
def Sc:List RO:=[o1 74 5 [],o1 4 74 []]
def code:RC:=.seq (.ops r1) (.seq (.ops r2) (.seq (.seq (.ops r3) (.block 0 (.loop L1))) (.seq (.ops r7) (.seq (.block 2 (.loop L2)) (.seq (.ops Sc) (.ret))))))
noncomputable abbrev uj:=Go.Proofs.YtlmckmkfopljoaaGreatDoor.E
def iZ (out:List (List Bool)):List (List V):=out.map λr=>r.map V.bool
theorem shape:∃fi,uj.ft (uM 81)=some fi/\bH ⟨uj,some,fi.ntmps⟩ false fi.body=some code/\2<=fi.ntmps/\fi.results=[.tmp 4]:=by
 have h:((uj.ft (uM 81)).map λfi=>(bH ⟨uj,some,fi.ntmps⟩ false fi.body,Nat.ble 2 fi.ntmps,fi.results))=some (some code,true,[.tmp 4]):=by kernel_rfl
 obtain⟨fi,h1,u⟩:=ζf.1 h;simp only[ζc]at u;exact⟨fi,h1,u.1,Nat.le_of_ble_eq_true u.2.1,u.2.2⟩
section
variable {E:Env} {N:Nat->FuncId} {t:Trace} {x:aY} {k:Nat} {F:Frame} {H H1:bf} {call:c_} {b:Option Nat}
theorem jy {o:RO} {l:List RO} {v:V} {r:Frame×bf} (hg:o.gd=none) (hv:bK E N call b o.now o.k (o.az.map (bu N F)) H=some (v,H1)) (h:cT E N call b l (br F o.dst v) H1=some r):cT E N call b (o::l) F H=some r:=by
 simp[cT,hg,hv];omega
theorem vp {o:RO} {l:List RO} {v:V} {r:Frame×bf} (hg:o.gd=none) (hv:bK E N call b o.now o.k (o.az.map (bu N F)) H=some (v,H)) (h:cT E N call b l (br F o.dst v) H=some r):cT E N call b (o::l) F H=some r:=jy hg hv h
theorem eS:cT E N call b [] F H=some (F,H):=rfl
theorem ld1 (h:H[0]? = some (.row 1 [cells t])):eC H (.load 1 false) [.hptr 0 0 0]=some (bZ t.procs):=by
 simp[eC,dJ,h];rfl
theorem Sz {s:Sl bQ} {p:bQ} {i:Nat} (h:s.l[i]? = some p):kj 3 (bZ s) (i:Int)=some (.fptr (cells p)):=by
 have:=B_ (N:=λn=>n) s .i64 i 3 rfl
 simp[bn]at this;rw[this,show idx s i=some p from by unfold idx;grind];rfl
theorem x4 (f2:get F 2=.hptr 0 0 0) (f6:get F 6=.int .i64 k) (h0:H[0]? = some (.row 1 [cells t])) :
 ∃F',cT E N call none r4 F H=some (F',H)/\get F' 15=.bool (decide (k<t.procs.l.length))/\(∀s,s<11->get F' s=get F s):=by
 refine⟨_,vp (v:=.int .i64 k) rfl ?_ <| vp (v:=.hptr 0 0 0) rfl ?_ <| vp (v:=bZ t.procs) rfl ?_ <| vp (v:=.int .i64 t.procs.l.length) rfl ?_ <| vp (v:=.bool (decide (k<t.procs.l.length))) rfl ?_ eS,?_,?_⟩
 .simp[bK,bu,bn,f6]
 .simp[bK,bu,bn,br,f2,f_]
 .simp only[bK,List.map_cons,List.map_nil,bu,br,bq,if_true];rw[ld1 h0];rfl
 .simp only[bK,List.map_cons,List.map_nil,bu,br,bq,if_true];rw[wU];rfl
 .simp[bK,bu,bn,br,iJ,o4]
 .simp[br]
 .simp[br,bq]
  grind
theorem xV {n:Nat} (h:n<=2147483648):IntKind.wrap .i64 ((n:Int)+1)=((n+1:Nat):Int):=by
 simp[IntKind.wrap,IntKind.bits];omega
theorem x5 {P:bQ} {o:Nat} {ids:List Nat} {rows:List (List V)} (f2:get F 2=.hptr 0 0 0) (f6:get F 6=.int .i64 k) (h0:H[0]? = some (.row 1 [cells t])) (B:t.procs.l[k]? = some P) (G:P.events.l.length+1<=2147483648)
 (D:kO H (get F 5) o ids rows) (hr:rows.length+1<=2147483648) :
 ∃F' H',cT E N call none r5 F H=some (F',H')/\kO H' (get F' 5) (H.length+2) (ids++[H.length]) (rows++[List.replicate (P.events.l.length+1) (.bool false)])/\H.length<=H'.length/\(∀id,id<H.length->id≠o\/rows=[]->H'[id]? = H[id]?)/\(∀s,s<11->s≠5->get F' s=get F s):=by
 obtain⟨H',p1,p2,p3,p4⟩:=D.push (List.replicate (P.events.l.length+1) (.bool false)) hr;have u:hU (List.replicate (P.events.l.length+1) (V.bool false))=List.replicate (P.events.l.length+1) [.bool false]:=by simp[hU]
 rw[u,List.length_replicate]at p1;have w:=xV (n:=P.events.l.length) (by omega)
 refine⟨_,H',vp (v:=get F 5) rfl ?_ <| vp (v:=.hptr 0 0 0) rfl ?_ <| vp (v:=bZ t.procs) rfl ?_ <| vp (v:=.int .i64 k) rfl ?_ <| vp (v:=.fptr (cells P)) rfl ?_ <| vp (v:=.fptr [bZ P.events]) rfl ?_ <| vp (v:=bZ P.events) rfl ?_ <|
  vp (v:=.int .i64 P.events.l.length) rfl ?_ <| vp (v:=.int .i64 (P.events.l.length+1:Nat)) rfl ?_ <| jy (v:=.hsl H.length 1 0 (P.events.l.length+1)) (H1:=H++[.row 1 (List.replicate (P.events.l.length+1) [.bool false])]) rfl ?_ <|
  jy (v:=.hsl (H.length+1) 1 0 1) (H1:=H++[.row 1 (List.replicate (P.events.l.length+1) [.bool false])]++[.row 1 [[.hsl H.length 1 0 (P.events.l.length+1)]]]) rfl ?_ <|
  jy (v:=.hsl (H.length+2) 1 0 (rows.length+1))  rfl ?_ <| vp (v:=.hsl (H.length+2) 1 0 (rows.length+1)) rfl ?_ eS,?_,p3,p4,?_⟩
 .simp[bK,bu,bn]
 .simp[bK,bu,bn,br,f2,f_]
 .simp only[bK,List.map_cons,List.map_nil,bu,br,bq,if_true];rw[ld1 h0];rfl
 .simp[bK,bu,bn,br,f6]
 .simp only[bK,List.map_cons,List.map_nil,bu,br,bq,Nat.reduceEqDiff,if_true,if_false,bn];rw[Sz B];rfl
 .simp[bK,bu,br,bq,bn];rfl
 .simp[bK,bu,br,bq];rfl
 .simp only[bK,List.map_cons,List.map_nil,bu,br,bq,if_true];rw[wU];rfl
 .simp[bK,bu,br,bq,bn,iJ];grind
 .simp only[bK,List.map_cons,List.map_nil,bu,br,bq,if_true,gV];rw[if_pos ⟨trivial,trivial,by omega,by omega,by omega⟩]
  simp[Mk.val]
 .simp[bK,bu,br,bq,gV];simp[fN,V.cells,V.one,Mk.val]
 .simp only[bK,List.map_cons,List.map_nil,bu,br,bq,Nat.reduceEqDiff,if_true,if_false];omega
 .simp[bK,bu,bn,br]
 .simp[br,bq];omega
 .intro s z A;simp[br,bq]
  repeat (rw[if_neg (by omega)])
theorem x6 (f6:get F 6=.int .i64 k) (hk:k<=2147483648):∃F',cT E N call none r6 F H=some (F',H)/\get F' 6=.int .i64 ((k+1:Nat):Int)/\(∀s,s<11->s≠6->get F' s=get F s):=by
 have u:=xV hk;refine⟨_,vp (v:=.int .i64 k) rfl ?_ <| vp (v:=.int .i64 (k+1:Nat)) rfl ?_ <| vp (v:=.int .i64 (k+1:Nat)) rfl ?_ eS,?_,?_⟩
 .simp[bK,bu,bn,f6]
 .simp[bK,bu,br,bq,bn,iJ];grind
 .simp[bK,bu,bn,br]
 .simp[br]
 .simp[br,bq]
  grind
end
structure P1 (t:Trace) (x:aY) (k:Nat) (F:Frame) (H:bf):Prop where
 f2:get F 2=.hptr 0 0 0
 f3:get F 3=.hptr 1 0 0
 f6:get F 6=.int .i64 k
 h0:H[0]? = some (.row 1 [cells t])
 h1:H[1]? = some (.row 2 [cells x])
 ns:∃o ids,kO H (get F 5) o ids (iZ ((fL t).take k))/\(k≠0->2<=o)/\∀id∈ids,2<=id
theorem um (out:List (List Bool)):(iZ out).length=out.length:=by simp[iZ]
theorem I_ {E:Env} {N:Nat->FuncId} {t:Trace} {x:aY} (G:yz t=true):∀(m k:Nat) (F:Frame) (H:bf),k+m=t.procs.l.length->P1 t x k F H->∃F' H',mz E N L1 F H (.exit 0) F' H'/\P1 t x t.procs.l.length F' H':=by
 have A:t.procs.l.length<=2147483648/\∀P∈t.procs.l,P.events.l.length+1<=2147483648:=by
  simpa [yz]using G
 intro m
 induction m with
 | zero=>
  intro k F H hk p;have B:k=t.procs.l.length:=by omega
  obtain⟨F1,e1,e2,e3⟩:=x4 (E:=E)  (call:=⟨0,λ_ _ _=>none⟩) p.f2 p.f6 p.h0
  refine⟨F1,H,mz.stop (Ex.vm (Ex.seq (Ex.ey λc=>?_) (Ex.tK ?_ Ex.exit)) (by simp)) (by simp),?_⟩
  .have:cT E N c none r4 F H=cT E N ⟨0,λ_ _ _=>none⟩ none r4 F H:=rfl
   exact e1
  .show get F1 15=_;rw[e2];simp[B]
  .subst B;exact⟨by rw[e3 2 (by omega)];exact p.f2,by rw[e3 3 (by omega)];exact p.f3,by rw[e3 6 (by omega)];exact p.f6,p.h0,p.h1,by rw[e3 5 (by omega)];exact p.ns⟩
 | succ m Y=>
  intro k F H hk p;have w:k<t.procs.l.length:=by omega
  obtain⟨o,ids,T,Z,n3⟩:=p.ns;obtain⟨F1,e1,e2,e3⟩:=x4 (E:=E) (N:=N) (call:=⟨0,λ_ _ _=>none⟩) p.f2 p.f6 p.h0
  have U:=ζd w;have C:((fL t).take k).length=k:=by simp[fL];omega
  have I:kO H (get F1 5) o ids (iZ ((fL t).take k)):=by rw[e3 5 (by omega)];exact T
  obtain⟨F2,H2,g1,g2,g3,g4,g5⟩:=x5 (E:=E) (N:=N) (call:=⟨0,λ_ _ _=>none⟩) (by rw[e3 2 (by omega)];exact p.f2) (by rw[e3 6 (by omega)];exact p.f6) p.h0 U (A.2 _ (List.getElem_mem w)) I (by rw[um,C];omega)
  obtain⟨W,q1,q2,J⟩:=x6 (E:=E) (N:=N) (call:=⟨0,λ_ _ _=>none⟩) (H:=H2)   (by rw[g5 6 (by omega) (by omega),e3 6 (by omega)];exact p.f6) (by omega)
  have X:=T.lt;have L:=(ζe.1 p.h0).1;have O:=(ζe.1 p.h1).1;have u:∀i,i<2->i<H.length->H2[i]? = H[i]? := λi hi X=>g4 i X (by
   by_cases D:k=0
   .subst D;right;simp[iZ]
   .left;have:=Z D;omega)
  have Q:P1 t x (k+1) W H2:=by
   refine⟨by rw[J 2 (by omega) (by omega),g5 2 (by omega) (by omega),e3 2 (by omega)];exact p.f2,by rw[J 3 (by omega) (by omega),g5 3 (by omega) (by omega),e3 3 (by omega)];exact p.f3,q2,
    by rw[u 0 (by omega) L];exact p.h0,by rw[u 1 (by omega) O];exact p.h1,H.length+2,ids++[H.length],?_,λ_=>by omega,λid S=>?_⟩
   .rw[J 5 (by omega) (by omega)]
    have z:iZ ((fL t).take (k+1))=iZ ((fL t).take k)++[List.replicate (t.procs.l[k].events.l.length+1) (.bool false)]:=by
     rw[List.take_add_one];have:(fL t)[k]? = some (List.replicate (t.procs.l[k].events.l.length+1) false):=by simp[fL,U]
     rw[this];simp[iZ]
    rw[z];exact g2
   .rcases List.mem_append.1 S with h|h
    .exact n3 id h
    .simp at h;omega
  obtain⟨F',H',r1,r2⟩:=Y (k+1) W H2 (by omega) Q
  refine⟨F',H',mz.step (Ex.seq (Ex.seq (Ex.ey λc=>e1) (Ex.oF ?_ Ex.skip)) (Ex.seq (Ex.block (Ex.ey λc=>g1)) (Ex.ey λc=>q1))) r1,r2⟩
  show get F1 15=_;rw[e2];simp[w]
section
variable {E:Env} {N:Nat->FuncId} {t:Trace} {x y:aY} {F:Frame} {H:bf} {call:c_}
theorem x8 {l:List (List V)} {id:Nat} (h:je H (get F 7) l id):∃F',cT E N call none r8 F H=some (F',H)/\get F' 35=.bool (decide (0<l.length))/\(∀s,s<11->get F' s=get F s):=by
 refine⟨_,vp (v:=get F 7) rfl ?_ <| vp (v:=.int .i64 l.length) rfl ?_ <| vp (v:=.bool (decide (0<l.length))) rfl ?_ eS,?_,?_⟩
 .simp[bK,bu,bn]
 .simp[bK,bu,br,bq,bn,h.len]
 .simp[bK,bu,bn,br,iJ,o4]
 .simp[br]
 .simp[br,bq]
  grind
theorem x9 {l:List (List V)} {id:Nat} (h:je H (get F 7) (cells y::l) id):∃F',cT E N call none r9 F H=some (F',H++[.row 2 [cells y]])/\get F' 8=.hptr H.length 0 0/\(∀s,s<11->s≠8->get F' s=get F s):=by
 obtain⟨p,p1,p2⟩:=h.get (i:=0)  rfl;refine⟨_,vp (v:=get F 7) rfl ?_ <| vp (v:=p) rfl ?_ <| vp (v:=.agg (cells y)) rfl ?_ <| jy (v:=.hptr H.length 0 0) (H1:=H++[.row 2 [[.int .i64 0,.int .i64 0]]]) rfl ?_ <| jy (v:=.undef)  rfl ?_ eS,?_,?_⟩
 .simp[bK,bu,bn]
 .simp[bK,bu,br,bq,bn]
  grind
 .simp only[bK,List.map_cons,bu,br,bq,if_false]
  grind
 .simp[bK,bu,br,bq,gV,Mk.val]
 .simp[bK,bu,br,bq];simp[eX,V.cells,V.one]
 .simp[br]
 .simp[br,bq]
  grind
theorem S3 {c:List V} {l:List (List V)} {id:Nat} (h:je H (get F 7) (c::l) id):∃F',cT E N call none EP F H=some (F',H)/\je H (get F' 7) l id/\(∃off m B,get F 7=.hsl id 2 off m/\get F' 7=.hsl id 2 B l.length)/\(∀s,s<11->s≠7->get F' s=get F s):=by
 obtain⟨w',p1,p2,off,m,B,p3,p4⟩:=h.tail;refine⟨_,vp (v:=get F 7) rfl ?_ <| vp (v:=w') rfl ?_ <| vp (v:=w') rfl ?_ eS,?_,⟨off,m,B,p3,?_⟩,?_⟩
 .simp[bK,bu,bn]
 .simp[bK,bu,br,bq,bn,kS,p1]
 .simp[bK,bu,bn,br]
 .simp[br,bq];omega
 .simp[br,bq];omega
 .simp[br,bq]
  grind
theorem iS (H:bf):H.take H.length=H:=List.take_length ..
theorem QT {c:Nat} (hc:H[c]? = some (.row 2 [cells y])):eC H (.load 1 false) [.hptr c 0 0]=some (.int .i64 y.proc)/\eC H (.load 1 false) [.hptr c 0 1]=some (.int .i64 y.index)/\eC H (.load 2 true) [.hptr c 0 0]=some (enc y):=by
 refine⟨?_,?_,?_⟩ <;> simp[eC,dJ,hc,cut] <;> rfl
theorem QL {c o:Nat} {ids:List Nat} {rows:List (List V)} {p j:Nat} {r:List V} {u:V} (B:get F 8=.hptr c 0 0) (hc:H[c]? = some (.row 2 [cells y])) (D:kO H (get F 5) o ids rows) (hp:y.proc=p) (G:y.index=j) (hr:rows[p]? = some r) (hu:r[j]? = some u) :
 ∃F',cT E N call (some H.length) FO F H=some (F',H)/\get F' 49=u/\(∀s,s<11->get F' s=get F s):=by
 obtain⟨id,w,z,A,C,I⟩:=D.cell hr hu;obtain⟨J,L,_⟩:=QT hc;refine⟨_,vp (v:=get F 5) rfl ?_ <| vp (v:=.hptr c 0 0) rfl ?_ <| vp (v:=.int .i64 p) rfl ?_ <| vp (v:=.hptr o p 0) rfl ?_ <| vp (v:=.hsl id 1 0 r.length) rfl ?_ <| vp (v:=.hptr c 0 1) rfl ?_ <| vp (v:=.int .i64 j) rfl ?_ <| vp (v:=.hptr id j 0) rfl ?_ <| vp (v:=u) rfl ?_ eS,?_,?_⟩
 .simp[bK,bu,bn]
 .simp[bK,bu,bn,br,B,f_]
 .simp[bK,bu,br,bq,iS];grind
 .simp[bK,bu,br,bq,bn];grind
 .simp[bK,bu,br,bq,iS];grind
 .simp[bK,bu,bn,br,B,f_]
 .simp[bK,bu,br,bq,iS];grind
 .simp[bK,bu,br,bq,bn];grind
 .simp[bK,bu,br,bq,iS];simp_all
 .simp[br]
 .simp[br,bq]
  grind
theorem Th {c o:Nat} {ids:List Nat} {rows:List (List V)} {p j:Nat} {r:List V} {u:V} (B:get F 8=.hptr c 0 0) (hc:H[c]? = some (.row 2 [cells y])) (D:kO H (get F 5) o ids rows) (hp:y.proc=p) (J:y.index=j) (hr:rows[p]? = some r) (hu:r[j]? = some u) :
 ∃F' H',cT E N call (some H.length) E7 F H=some (F',H')/\kO H' (get F' 5) o ids (rows.set p (r.set j (.bool true)))/\H'.length=H.length/\(∀i,i∉ids->H'[i]? = H[i]?)/\(∀s,s<11->get F' s=get F s):=by
 obtain⟨id,w,I,L,z,O⟩:=D.cell hr hu;obtain⟨Q,S,_⟩:=QT hc;obtain⟨H',s1,T,A,C⟩:=D.set hr (ζe.1 hu).1 w (u:=.bool true) rfl rfl;refine⟨_,H',vp (v:=get F 5) rfl ?_ <| vp (v:=.hptr c 0 0) rfl ?_ <| vp (v:=.int .i64 p) rfl ?_ <| vp (v:=.hptr o p 0) rfl ?_ <| vp (v:=.hsl id 1 0 r.length) rfl ?_ <| vp (v:=.hptr c 0 1) rfl ?_ <| vp (v:=.int .i64 j) rfl ?_ <| vp (v:=.hptr id j 0) rfl ?_ <| jy (v:=.undef)  rfl ?_ eS,?_,A,λi G=>C i λe=>G (e▸List.mem_of_getElem? w),?_⟩
 .simp[bK,bu,bn]
 .simp[bK,bu,bn,br,B,f_]
 .simp[bK,bu,br,bq,iS];grind
 .simp[bK,bu,br,bq,bn];grind
 .simp[bK,bu,br,bq,iS];grind
 .simp[bK,bu,bn,br,B,f_]
 .simp[bK,bu,br,bq,iS];grind
 .simp only[bK,List.map_cons,List.map_nil,bu,br,bq,Nat.reduceEqDiff,if_true,if_false,bn];rw[z];rfl
 .simp[bK,bu,br,bq,s1]
 .simp[br,bq];omega
 .simp[br,bq]
  grind
def DQ (E:Env) (N:Nat->FuncId) (t:Trace) (dir:aY->Option (Sl aY)):Prop:=∀(y:aY) (s:Sl aY) (H:bf),dir y=some s ->
 ∃w X id,(∃n,∀k,n<=k->eN E (run E k) (N 116) [enc t,enc y] H=some (w,H++X))/\je (H++X) w (s.l.map cells) id/\(∀off m,w=.hsl id 2 off m->id=H.length)
theorem Ss {a d:Nat} (hd:E.keep (N 116)=true) {dir:aY->Option (Sl aY)} (D:DQ E N t dir) {s:Sl aY} (B:dir y=some s) (f2:get F 2=.hptr 0 0 0) (h0:H[0]? = some (.row 1 [cells t])) {c:Nat} (hc:H[c]? = some (.row 2 [cells y])) :
 ∃w X id,je (H++X) w (s.l.map cells) id/\(∀off m,w=.hsl id 2 off m->id=H.length) /\
  (get F 8=.hptr c 0 0->∃F',(∃n,∀k,n<=k->cT E N (run E k) none Fa F H=some (F',H++X))/\get F' 9=w/\(∀s,s<11->s≠9->get F' s=get F s)) /\
  (get F 3=.hptr c 0 0->∃F',(∃n,∀k,n<=k->cT E N (run E k) none r7 F H=some (F',H++X))/\get F' 7=w/\(∀s,s<11->s≠7->get F' s=get F s)):=by
 obtain⟨w,X,id,⟨n,e1⟩,e2,e3⟩:=D y s H B;have z:eC H (.load 1 true) [.hptr 0 0 0]=some (enc t):=by
  simp[eC,dJ,h0,Ob.rows,cut];rfl
 obtain⟨_,_,A⟩:=QT hc;refine⟨w,X,id,e2,e3,λC=>⟨_,⟨n,λk hk=>vp (v:=enc t) rfl ?_ <| vp (v:=enc y) rfl ?_ <| jy (v:=w) (H1:=H++X) rfl ?_ <| vp (v:=w) rfl ?_ eS⟩,?_,?_⟩,λf3=>⟨_,⟨n,λk hk=>vp (v:=enc t) rfl ?_ <| vp (v:=enc y) rfl ?_ <| jy (v:=w) (H1:=H++X) rfl ?_ <| vp (v:=w) rfl ?_ eS⟩,?_,?_⟩⟩
 .simp only[bK,List.map_cons,List.map_nil,bu,f2];rw[z];rfl
 .simp only[bK,List.map_cons,List.map_nil,bu,br,bq,Nat.reduceEqDiff,if_true,if_false,C];rw[A];rfl
 .simp only[bK,List.map_cons,List.map_nil,bu,br,bq,Nat.reduceEqDiff,if_true,if_false,hd,List.nil_append,List.append_nil];exact e1 k hk
 .simp[bK,bu,bn,br]
 .simp[br]
 .intro s B u;simp only[br,bq];rw[if_neg (Ne.symm u)]
  repeat (rw[if_neg (by omega)])
 .simp only[bK,List.map_cons,List.map_nil,bu,f2];rw[z];rfl
 .simp only[bK,List.map_cons,List.map_nil,bu,br,bq,Nat.reduceEqDiff,if_true,if_false,f3];rw[A];rfl
 .simp only[bK,List.map_cons,List.map_nil,bu,br,bq,Nat.reduceEqDiff,if_true,if_false,hd,List.nil_append,List.append_nil];exact e1 k hk
 .simp[bK,bu,bn,br]
 .simp[br]
 .intro s B u;simp only[br,bq];rw[if_neg (Ne.symm u)]
  repeat (rw[if_neg (by omega)])
end
section
variable {E:Env} {N:Nat->FuncId} {F:Frame} {H:bf} {call:c_} {i:Nat}
theorem Ny {l:List (List V)} {id:Nat} (f10:get F 10=.int .i64 i) (h:je H (get F 9) l id):∃F',cT E N call none G9 F H=some (F',H)/\get F' 64=.bool (decide (i<l.length))/\(∀s,s<11->get F' s=get F s):=by
 refine⟨_,vp (v:=.int .i64 i) rfl ?_ <| vp (v:=get F 9) rfl ?_ <| vp (v:=.int .i64 l.length) rfl ?_ <| vp (v:=.bool (decide (i<l.length))) rfl ?_ eS,?_,?_⟩
 .simp[bK,bu,bn,f10]
 .simp[bK,bu,bn,br]
 .simp[bK,bu,br,bq,bn,h.len]
 .simp[bK,bu,bn,br,iJ,o4]
 .simp[br]
 .simp[br,bq]
  grind
theorem Te {l D:List (List V)} {id B:Nat} {c:List V} (f10:get F 10=.int .i64 i) (h:je H (get F 7) l id) (G:je H (get F 9) D B) (hc:D[i]? = some c) (J:l.length+1<=2147483648) :
 ∃F' H',cT E N call none r16 F H=some (F',H')/\je H' (get F' 7) (l++[c]) (H.length+1)/\H'.length=H.length+2/\(∀i,i<H.length->(∀off m,get F 7=.hsl id 2 off m->i≠id)->H'[i]? = H[i]?)/\(∀s,s<11->s≠7->get F' s=get F s):=by
 have u:=G.c c (List.mem_of_getElem? hc);obtain⟨p,p1,p2⟩:=G.get hc;obtain⟨H',A,C,w,z⟩:=h.push u J;refine⟨_,H',vp (v:=get F 7) rfl ?_ <| vp (v:=get F 9) rfl ?_ <| vp (v:=.int .i64 i) rfl ?_ <| vp (v:=p) rfl ?_ <| vp (v:=.agg c) rfl ?_ <| jy (v:=.hsl H.length 2 0 1) (H1:=H++[.row 2 [c]]) rfl ?_ <| jy (v:=.hsl (H.length+1) 2 0 (l.length+1))  rfl ?_ <| vp (v:=.hsl (H.length+1) 2 0 (l.length+1)) rfl ?_ eS,?_,w,z,?_⟩
 .simp[bK,bu,bn]
 .simp[bK,bu,bn,br]
 .simp[bK,bu,bn,br,f10]
 .simp[bK,bu,br,bq,bn];grind
 .simp[bK,bu,br,bq];grind
 .simp[bK,bu,br,bq,gV];simp[fN,V.cells,Mk.val]
  grind
 .simp[bK,bu,br,bq];omega
 .simp[bK,bu,bn,br]
 .simp[br,bq];omega
 .simp[br,bq]
  grind
theorem Tf (f10:get F 10=.int .i64 i) (hk:i<=2147483648):∃F',cT E N call none KN F H=some (F',H)/\get F' 10=.int .i64 ((i+1:Nat):Int)/\(∀s,s<11->s≠10->get F' s=get F s):=by
 have u:=xV hk;refine⟨_,vp (v:=.int .i64 i) rfl ?_ <| vp (v:=.int .i64 (i+1:Nat)) rfl ?_ <| vp (v:=.int .i64 (i+1:Nat)) rfl ?_ eS,?_,?_⟩
 .simp[bK,bu,bn,f10]
 .simp[bK,bu,br,bq,bn,iJ];grind
 .simp[bK,bu,bn,br]
 .simp[br]
 .simp[br,bq]
  grind
structure P3 (l l9:List (List V)) (B i:Nat) (F:Frame) (H:bf):Prop where
 f10:get F 10=.int .i64 i
 t9:∃id9,je H (get F 9) l9 id9/\∃id,je H (get F 7) l id/\(∀off m,get F 7=.hsl id 2 off m->B<=id/\∀off' m',get F 9=.hsl id9 2 off' m'->id≠id9)
 len:B<=H.length
theorem Rs (D:List (List V)) (B:Nat) (Y:D.length<=2147483648):∀(m i:Nat) (l:List (List V)) (F:Frame) (H:bf),i+m=D.length->l.length+m<=2147483648->P3 l D B i F H ->
 ∃F' H',mz E N L3 F H (.exit 4) F' H'/\(∃id,je H' (get F' 7) (l++D.drop i) id/\∀off m,get F' 7=.hsl id 2 off m->B<=id)/\(∀s,s<7->get F' s=get F s)/\(∀j,j<B->H'[j]? = H[j]?)/\H.length<=H'.length:=by
 intro m
 induction m with
 | zero=>
  intro i l F H X Z p;obtain⟨u,t9,id,t7,A⟩:=p.t9;obtain⟨F1,e1,e2,e3⟩:=Ny (E:=E)  (call:=⟨0,λ_ _ _=>none⟩) p.f10 t9
  refine⟨F1,H,mz.stop (Ex.vm (Ex.seq (Ex.ey λc=>e1) (Ex.tK ?_ Ex.exit)) (by simp)) (by simp),⟨id,?_,λoff m h=>?_⟩,λs S=>e3 s (by omega),λ_ _=>rfl,Nat.le_refl _⟩
  .show get F1 64=_
   grind
  .grind
  grind
 | succ m ih=>
  intro i l F H X Z p;have z:i<D.length:=by omega
  obtain⟨u,t9,id,t7,A⟩:=p.t9;obtain⟨F1,e1,e2,e3⟩:=Ny (E:=E)  (call:=⟨0,λ_ _ _=>none⟩) p.f10 t9
  have hc:=ζd z;have C:je H (get F1 7) l id:=by grind
  have G:je H (get F1 9) D u:=by grind
  obtain⟨F2,H2,g1,g2,g3,g4,g5⟩:=Te (E:=E)  (call:=⟨0,λ_ _ _=>none⟩) (by rw[e3 10 (by omega)];exact p.f10) C G hc (by omega)
  obtain⟨T,q1,q2,I⟩:=Tf (E:=E)  (call:=⟨0,λ_ _ _=>none⟩)    (by rw[g5 10 (by omega) (by omega),e3 10 (by omega)];exact p.f10) (by omega)
  have keep:∀j,j<H.length->(∀off m,get F 7=.hsl id 2 off m->j≠id)->H2[j]? = H[j]? := λj J h=>g4 j J (by grind)
  have L:P3 (l++[D[i]]) D B (i+1) T H2:=by
   refine⟨q2,⟨u,?_,H.length+1,by grind,λoff m h=>⟨by have:=p.len;omega,λw m' U=>?_⟩⟩,by have:=p.len;omega⟩
   .rw[I 9 (by omega) (by omega),g5 9 (by omega) (by omega),e3 9 (by omega)]
    exact t9.heap λoff n W=>keep u (t9.lt W) λw m' O=>Ne.symm ((A w m' O).2 off n W)
   .rw[I 9 (by omega) (by omega),g5 9 (by omega) (by omega),e3 9 (by omega)]at U
    have:=t9.lt U;omega
  obtain⟨F',H',r1,⟨Q,r2,r3⟩,r4,r5,r6⟩:=ih (i+1) (l++[D[i]]) T H2 (by omega) (by simp;omega) L
  refine⟨F',H',mz.step (Ex.seq (Ex.seq (Ex.ey λc=>e1) (Ex.oF ?_ Ex.skip)) (Ex.seq (Ex.block (Ex.ey λc=>g1)) (Ex.ey λc=>q1))) r1,⟨Q,?_,r3⟩,λs S=>?_,λj J=>?_,by omega⟩
  .show get F1 64=_
   grind
  .rw[List.append_assoc]at r2;rw[List.drop_eq_getElem_cons z];exact r2
  .rw[r4 s S,I s (by omega) (by omega),g5 s (by omega) (by omega),e3 s (by omega)]
  .have:=p.len;rw[r5 j J,keep j (by omega) λoff m h=>by have:=(A off m h).1;omega]
end
structure P2 (t:Trace) (out:List (List Bool)) (l:List aY) (F:Frame) (H:bf):Prop where
 f2:get F 2=.hptr 0 0 0
 h0:H[0]? = some (.row 1 [cells t])
 ns:∃B o ids id,kO H (get F 5) o ids (iZ out)/\(out≠[]->1<=o/\o<B)/\(∀id∈ids,1<=id/\id<B)/\1<=B/\B<=H.length/\je H (get F 7) (l.map cells) id/\∀off m,get F 7=.hsl id 2 off m->B<=id
theorem M1 (out:List (List Bool)) (p j:Nat) (row:List Bool):iZ (out.set p (row.set j true))=(iZ out).set p ((row.map V.bool).set j (.bool true)):=by
 simp[iZ]
theorem EU {out:List (List Bool)}:iZ out=[]↔out=[]:=by simp[iZ]
theorem Lx {dir:aY->Option (Sl aY)} {out:List (List Bool)} {y:aY} {rest:List aY} {w:Fw (List (List Bool)×List aY) (List (List Bool)) Empty} (h:mQ dir (out,y::rest)=some w) :
 ∃(p j:Nat) (row:List Bool) (b:Bool),y.proc=p/\y.index=j/\out[p]? = some row/\row[j]? = some b/\((b=true/\w=.n (out,rest))\/(b=false/\∃more,dir y=some more/\rest.length+more.l.length<=2147483648/\w=.n (out.set p (row.set j true),rest++more.l))):=by
 simp only[mQ]at h;split at h
 .obtain⟨row,h1,h⟩:=ζg.1 h;obtain⟨b,u,h⟩:=ζg.1 h;refine⟨y.proc.toNat,y.index.toNat,row,b,by omega,by omega,h1,u,?_⟩
  cases b with
  | true=>simp[bl]at h;grind
  | false=>
   obtain⟨more,z,h⟩:=ζg.1 h
   grind
 simp_all
theorem IL {E:Env} {N:Nat->FuncId} {t:Trace} {dir:aY->Option (Sl aY)} (hd:E.keep (N 116)=true) (hD:DQ E N t dir):∀(k:Nat) (out:List (List Bool)) (l:List aY) (D:List (List Bool)) (F:Frame) (H:bf),
 iE (mQ dir) k (out,l)=some (.x D)->P2 t out l F H->∃F' H',mz E N L2 F H (.exit 2) F' H'/\P2 t D [] F' H':=by
 intro k
 induction k with
 | zero=>intro out l D F H h;simp[iE]at h
 | succ k ih=>
  intro out l D F H h p;obtain⟨B,o,ids,id,n1,n2,W,n4,n5,t7,t8⟩:=p.ns;obtain⟨F1,e1,e2,e3⟩:=x8 (E:=E) (N:=N) (call:=⟨0,λ_ _ _=>none⟩) t7
  rw[List.length_map]at e2
  cases l with
  | nil=>
   simp only[iE,mQ]at h;cases h;refine⟨F1,H,mz.stop (Ex.vm (Ex.seq (Ex.ey λc=>e1) (Ex.tK ?_ Ex.exit)) (by simp)) (by simp),?_⟩
   .show get F1 35=_;rw[e2];simp
   .exact⟨by rw[e3 2 (by omega)];exact p.f2,p.h0,B,o,ids,id,by rw[e3 5 (by omega)];exact n1,n2,W,n4,n5,by rw[e3 7 (by omega)];exact t7,by rw[e3 7 (by omega)];exact t8⟩
  | cons y rest=>
   simp only[iE]at h
   cases I:mQ dir (out,y::rest)with
   | none=>rw[I]at h;cases h
   | some w=>
   rw[I]at h;obtain⟨q,j,row,b,hq,hj,u,hb,J⟩:=Lx I;have L:je H (get F1 7) (cells y::rest.map cells) id:=by rw[e3 7 (by omega)];exact t7
   obtain⟨F2,g1,g2,g3⟩:=x9 (E:=E) (N:=N) (call:=⟨0,λ_ _ _=>none⟩) L
   have aa:je (H++[.row 2 [cells y]]) (get F2 7) (cells y::rest.map cells) id:=by rw[g3 7 (by omega) (by omega)];exact L.more _
   obtain⟨F3,i1,i2,⟨C,m1,ab,i3,i4⟩,i5⟩:=S3 (E:=E) (N:=N) (call:=⟨0,λ_ _ _=>none⟩) aa
   have O:(H++[Ob.row 2 [cells y]])[H.length]? = some (.row 2 [cells y]):=by simp
   have f8:get F3 8=.hptr H.length 0 0:=by rw[i5 8 (by omega) (by omega)];exact g2
   have f5:get F3 5=get F 5:=by rw[i5 5 (by omega) (by omega),g3 5 (by omega) (by omega),e3 5 (by omega)]
   have f2:get F3 2=.hptr 0 0 0:=by rw[i5 2 (by omega) (by omega),g3 2 (by omega) (by omega),e3 2 (by omega)];exact p.f2
   have Q:kO (H++[.row 2 [cells y]]) (get F3 5) o ids (iZ out):=by rw[f5];exact n1.more _
   have hr:(iZ out)[q]? = some (row.map V.bool):=by simp[iZ,u]
   have hu:(row.map V.bool)[j]? = some (.bool b):=by simp[hb]
   have S:B<=id:=by
    have:get F 7=.hsl id 2 C m1:=by rw[<-i3,g3 7 (by omega) (by omega),e3 7 (by omega)]
    exact t8 _ _ this
   obtain⟨F4,j1,j2,z⟩:=QL (E:=E) (N:=N) (call:=⟨0,λ_ _ _=>none⟩) f8 O Q hq hj hr hu
   have ad:bu N F1 (.s 35)=.bool true:=by show get F1 35=_;rw[e2];simp
   rcases J with⟨rfl,rfl⟩|⟨rfl,more,hm,aq,rfl⟩
   .simp only at h;have T:P2 t out rest F4 (H++[.row 2 [cells y]]):=by
     refine⟨by rw[z 2 (by omega)];exact f2,by rw[List.getElem?_append_left (ζe.1 p.h0).1];exact p.h0,B,o,ids,id,by rw[z 5 (by omega)];exact Q,n2,W,n4,by simp;omega,by rw[z 7 (by omega)];exact i2,λoff m _=>S⟩
    obtain⟨F',H',r1,r2⟩:=ih out rest D F4 _ h T;exact⟨F',H',mz.step (Ex.seq (Ex.seq (Ex.ey λc=>e1) (Ex.oF ad Ex.skip)) (Ex.vJ (Ex.seq (Ex.ey λc=>g1) (Ex.seq (Ex.ey λc=>i1) (Ex.vm (Ex.seq (Ex.ny rfl λc=>j1) (Ex.oF j2 Ex.exit)) (by simp)))))) r1,r2⟩
   .simp only at h;have n6:kO (H++[.row 2 [cells y]]) (get F4 5) o ids (iZ out):=by rw[z 5 (by omega)];exact Q
    obtain⟨F5,A,k1,k2,k3,k4,k5⟩:=Th (E:=E) (N:=N) (call:=⟨0,λ_ _ _=>none⟩) (by rw[z 8 (by omega)];exact f8) O n6 hq hj hr hu
    have G:∀i,B<=i->i∉ids:=λi hi hm=>by have:=(W i hm).2;omega
    have ah:A[H.length]? = some (.row 2 [cells y]):=by rw[k4 _ (G _ n5)];exact O
    have U:A[0]? = some (.row 1 [cells t]):=by
     rw[k4 0 (λhm=>by have:=(W 0 hm).1;omega),List.getElem?_append_left (ζe.1 p.h0).1];exact p.h0
    obtain⟨w9,X,ai,aj,m2,m3,_⟩:=Ss (a:=0) (d:=0) (F:=F5) hd hD hm (by rw[k5 2 (by omega),z 2 (by omega)];exact f2) U ah
    obtain⟨Y,⟨nn,ak⟩,ae,o3⟩:=m3 (by rw[k5 8 (by omega),z 8 (by omega)];exact f8)
    have au:A.length=H.length+1:=by rw[k3];simp
    have i7:get Y 7=.hsl id 2 ab (rest.map cells).length:=by rw[o3 7 (by omega) (by omega),k5 7 (by omega),z 7 (by omega)];exact i4
    have ar:id<H.length:=by
     have:=L.lt (off:=C) (m:=m1) (by rw[<-i3,g3 7 (by omega) (by omega)])
     exact this
    have t6:je (A++X) (get Y 7) (rest.map cells) id:=by
     have:get Y 7=get F3 7:=by rw[o3 7 (by omega) (by omega),k5 7 (by omega),z 7 (by omega)]
     rw[this];refine(i2.heap (H':=A) λoff n _=>k4 id (G id S)).more X
    have al:∃Z,(∀c,cT E N c none Ey Y (A++X)=some (Z,A++X))/\get Z 10=.int .i64 ((0:Nat):Int)/\∀s,s<10->get Z s=get Y s:=
     ⟨set Y 10 (.int .i64 0),λc=>by simp[Ey,cT,bK,bu,bn,br],by simp,λs hs=>by rw[bq,if_neg (by omega)]⟩
    obtain⟨Z,u1,u2,u3⟩:=al;have am:P3 (rest.map cells) (more.l.map cells) B 0 Z (A++X):=by
     refine⟨u2,⟨ai,by rw[u3 9 (by omega),ae];exact aj,id,by rw[u3 7 (by omega)];exact t6,λoff m hh=>⟨S,λaf m' h'=>?_⟩⟩,by simp;omega⟩
     rw[u3 9 (by omega),ae]at h'
     have:=m2 af m' h';omega
    obtain⟨F8,H8,v1,⟨an,v2,v3⟩,v4,v5,v6⟩:=Rs (E:=E) (N:=N) (more.l.map cells) B (by simp;omega) (more.l.map cells).length 0 (rest.map cells) Z (A++X) (by omega) (by simp;omega) am
    have ao:kO H8 (get F8 5) o ids (iZ (out.set q (row.set j true))):=by
     have h5:get F8 5=get F5 5:=by rw[v4 5 (by omega),u3 5 (by omega),o3 5 (by omega) (by omega)]
     rw[h5,M1];refine(k2.more X).heap (λap=>v5 o ?_) λi hi=>v5 i (W i hi).2
     have:out≠[]:=by intro e;subst e;simp at u
     exact(n2 this).2
    have T:P2 t (out.set q (row.set j true)) (rest++more.l) F8 H8:=by
     refine⟨by rw[v4 2 (by omega),u3 2 (by omega),o3 2 (by omega) (by omega),k5 2 (by omega),z 2 (by omega)];exact f2,?_,B,o,ids,an,ao,λap=>n2 (by intro e;subst e;simp at u),W,n4,by simp at v6;omega,?_,v3⟩
     .rw[v5 0 (by omega),List.getElem?_append_left (ζe.1 U).1];exact U
     .rw[List.drop_zero]at v2;rw[List.map_append];exact v2
    obtain⟨F',H',w1,w2⟩:=ih _ _ D F8 H8 h T;exact⟨F',H',mz.step (Ex.seq (Ex.seq (Ex.ey λc=>e1) (Ex.oF ad Ex.skip)) (Ex.block (Ex.seq (Ex.ey λc=>g1) (Ex.seq (Ex.ey λc=>i1) (Ex.seq (Ex.seq (Ex.ny rfl λc=>j1) (Ex.tK j2 Ex.skip)) (Ex.seq (Ex.ny rfl λc=>k1)
     (Ex.seq (Ex.ops ⟨nn,ak⟩) (Ex.seq (Ex.ey u1) (Ex.vJ (Ex.loop v1))))))))) ) w1,w2⟩
theorem NH {H:bf} {Z:Nat->Prop} {id:Nat} {r:List Bool} (B:Z id) (h:H[id]? = some (.row 1 (hU (r.map V.bool)))):FR H Z (enc (Sl.row r)) (.hsl id 1 0 r.length):=by
 have hr:bp H id=some (1,hU (r.map V.bool)):=by simp[bp,h,Ob.rows]
 have C:enc (Sl.row r)=.fsl 1 (rows r):=rfl;have D:(rows r).length=r.length:=by simp[rows]
 have hc:hU (r.map V.bool)=rows r:=by simp[hU,rows,Function.comp_def]
 rw[hc]at hr;rw[C,<-D];refine .fsl 1 (rows r) id 0 (rows r) B hr (by omega) (λi a b h1 w=>?_) (λi j a b u v h1 w z A=>?_)
 .grind
 .rw[Nat.zero_add,h1]at w;cases w;rw[z]at A;cases A;refine .same u ?_;obtain⟨c,G,rfl⟩:∃c∈r,a=[V.bool c]:=by
   have:=List.mem_of_getElem? h1;simp only[rows,List.mem_map]at this;obtain⟨c,hc,rfl⟩:=this;simp_all
  have:=List.mem_of_getElem? z;simp at this;subst this;rfl
theorem Nh {H:bf} {w:V} {o:Nat} {ids:List Nat} {out:List (List Bool)} (n:kO H w o ids (iZ out)):∃Z,FR H Z (enc (nested out)) w/\(∀id,Z id->(bp H id).isSome=true)/\Deep H Z:=by
 have hv:=n.v
 by_cases O:out=[]
 .subst O;rw[if_pos (show iZ []=[]from rfl)]at hv;subst hv;exact⟨λ_=>False,.same _ rfl,λ_ h=>h.elim,⟨λ_ _ _ h=>h.elim⟩⟩
 .have G:iZ out≠[]:=λh=>O (EU.1 h)
  rw[if_neg G,um]at hv;subst hv;have Q:=n.ob G;have I:=n.len;rw[um]at I;have A:∀(i id:Nat) (r:List Bool),ids[i]? = some id->out[i]? = some r->H[id]? = some (.row 1 (hU (r.map V.bool))):=λi id r h1 C=>n.r i id _ h1 (by simp[iZ,C])
  have B:∀(i:Nat) (c:List V),(refs ids (iZ out))[i]? = some c->∃id r,ids[i]? = some id/\out[i]? = some r/\c=[.hsl id 1 0 r.length]:=λi c h=>by
   have D:=(ζe.1 h).1;rw[qY n.len,um]at D;have h1:=ζd (show i<ids.length from by omega)
   have C:=ζd D;have S:=Ae (rows:=iZ out) (r:=out[i].map V.bool) h1 (by simp[iZ,C])
   grind
  have J:bp H o=some (1,refs ids (iZ out)):=by simp[bp,Q,Ob.rows]
  have L:∀id∈ids,∃(r:List Bool),H[id]? = some (.row 1 (hU (r.map V.bool))):=λid z=>by
   obtain⟨i,D⟩:=List.getElem?_of_mem z;have T:=(ζe.1 D).1;exact⟨_,A i id _ D (ζd (show i<out.length from by omega))⟩
  refine⟨λid=>id=o\/id∈ids,?_,λid h=>?_,⟨λid es ys h hr c hc u hu=>?_⟩⟩
  .have Y:enc (nested out)=.fsl 1 (rows (out.map Sl.row)):=by rw[nested,if_neg O];rfl
   have T:(rows (out.map Sl.row)).length=out.length:=by simp[rows]
   rw[Y,<-T];refine .fsl 1 _ o 0 (refs ids (iZ out)) (.inl rfl) J (by rw[T,qY n.len,um];omega) (λi a b h1 C=>?_) (λi j a b u v h1 C S X=>?_)
   .rw[Nat.zero_add]at C;obtain⟨id,r,_,hr,rfl⟩:=B i b C;simp[rows,hr]at h1;subst h1;rfl
   .rw[Nat.zero_add]at C;obtain⟨id,r,z,hr,rfl⟩:=B i b C;have ha:a=[enc (Sl.row r)]:=by simp[rows,hr]at h1;exact h1.symm
    subst ha
    cases j with
    | zero=>
     simp at S X;subst S X;exact NH (.inr (List.mem_of_getElem? z)) (A i id r z hr)
    | succ j=>simp_all
  .rcases h with rfl|h
   .simp_all
   .obtain⟨r,hr⟩:=L id h;simp[bp,hr,Ob.rows]
  .rcases h with rfl|h
   .rw[J]at hr;cases hr;obtain⟨i,D⟩:=List.getElem?_of_mem hc;obtain⟨id,r,z,U,rfl⟩:=B i c D;simp at hu;subst hu;exact⟨_,NH (.inr (List.mem_of_getElem? z)) (A i id r z U)⟩
   .obtain⟨r,W⟩:=L id h;have:bp H id=some (1,hU (r.map V.bool)):=by simp[bp,W,Ob.rows]
    rw[this]at hr;cases hr;simp only[hU,List.mem_map]at hc;obtain⟨_,⟨c',_,rfl⟩,rfl⟩:=hc;simp at hu;subst hu;exact⟨_,.same _ rfl⟩
theorem OT {t:Trace} {x:aY} {out:List (List Bool)} {s:Sl aY} {dir:aY->Option (Sl aY)} (hd:uj.keep (uM 116)=true) (W:DQ uj uM t dir) (U:yz t=true) (hs:dir x=some s) (hw:bX (mQ dir) (fL t,s.l)=some (.x out)) :
 Ah uj (uM 81) [enc t,enc x] (enc (nested out)):=by
 obtain⟨fi,g1,g2,g3,g4⟩:=shape;obtain⟨k,hk⟩:=mD.1 hw;have b1:∃F1,(∀c,cT uj uM c none r1 [enc t,enc x] []=some (F1,[.row 1 [cells t],.row 2 [cells x]]))/\get F1 2=.hptr 0 0 0/\get F1 3=.hptr 1 0 0:=by
  refine⟨_,λc=>jy (v:=.hptr 0 0 0) (H1:=[.row 1 [cells t]]) rfl ?_ <| jy (v:=.hptr 1 0 0) (H1:=[.row 1 [cells t],.row 2 [cells x]]) rfl ?_ <| vp (v:=.bL) rfl ?_ eS,?_,?_⟩
  .show (gV .box [enc t]).map _=_;simp only[gV,gQ,oC,if_true,Option.map_some,fG];rfl
  .simp only[bK,List.map_cons,List.map_nil,bu,br,bq,Nat.reduceEqDiff,if_false];show (gV .box [enc x]).map _=_;simp only[gV,gQ,oC,if_true,Option.map_some,fG];rfl
  .simp[bK,bu,bn]
  .simp[br]
  .simp[br]
 obtain⟨F1,c1,c2,c3⟩:=b1;have b3:∃G,(∀c,cT uj uM c none r2 F1 [.row 1 [cells t],.row 2 [cells x]]=some (set F1 5 .bL,[.row 1 [cells t],.row 2 [cells x]]))/\(∀c,cT uj uM c none r3 (set F1 5 .bL) [.row 1 [cells t],.row 2 [cells x]]=some (G,[.row 1 [cells t],.row 2 [cells x]]))/\P1 t x 0 G [.row 1 [cells t],.row 2 [cells x]]:=by
  refine⟨set (set F1 5 .bL) 6 (.int .i64 0),λc=>by simp[r2,cT,bK,bu,bn,br],λc=>by simp[r3,cT,bK,bu,bn,br],by simp[c2],by simp[c3],by simp,rfl,rfl,0,[],?_,λh=>absurd rfl h,λid h=>by simp at h⟩
  have:get (set (set F1 5 .bL) 6 (.int .i64 0)) 5=.bL:=by simp
  rw[this,List.take_zero];exact kO.nil _ 0
 obtain⟨G,d1,d2,d3⟩:=b3;obtain⟨F4,O,e1,e2⟩:=I_ (E:=uj) (N:=uM) U t.procs.l.length 0 G _ (by omega) d3
 obtain⟨o,ids,I,n2,n3⟩:=e2.ns;have Q:(fL t).length=t.procs.l.length:=by simp[fL]
 rw[List.take_of_length_le (by omega)]at I
 obtain⟨w,X,id,m1,m2,_,m4⟩:=Ss (a:=0) (d:=0) (F:=F4) (E:=uj) (N:=uM) hd W hs e2.f2 e2.h0 (c:=1) e2.h1;obtain⟨S,o1,o2,o3⟩:=m4 e2.f3;have L:P2 t (fL t) s.l S (O++X):=by
  refine⟨by rw[o3 2 (by omega) (by omega)];exact e2.f2,by rw[List.getElem?_append_left (ζe.1 e2.h0).1];exact e2.h0,O.length,o,ids,id,by rw[o3 5 (by omega) (by omega)];exact I.more X,λu=>?_,λi T=>⟨by have:=n3 i T;omega,I.lt.2 i T⟩,?_,by simp,by rw[o2];exact m1,λoff m h=>?_⟩
  .have z:iZ (fL t)≠[]:=λh=>u (EU.1 h)
   have:t.procs.l.length≠0:=by intro h;apply u;exact List.eq_nil_of_length_eq_zero (by omega)
   have:=n2 this;exact⟨by omega,I.lt.1 z⟩
  .have:=(ζe.1 e2.h0).1;omega
  .rw[o2]at h;have:=m2 off m h;omega
 obtain⟨A,J,p1,p2⟩:=IL hd W k _ _ out S _ hk L;obtain⟨B,o',Y,aa,q1,_⟩:=p2.ns;have l1:∃C,(∀c,cT uj uM c none Sc A J=some (C,J))/\get C 4=get A 5:=by
  refine⟨_,λc=>vp (v:=get A 5) rfl ?_ <| vp (v:=get A 5) rfl ?_ eS,?_⟩
  .simp[bK,bu,bn]
  .simp[bK,bu,bn,br]
  .simp[br]
 obtain⟨C,y1,y2⟩:=l1;have hex:Ex uj uM code [enc t,enc x] [] .ret C J:=
  Ex.seq (Ex.ey c1) (Ex.seq (Ex.ey d1) (Ex.seq (Ex.seq (Ex.ey d2) (Ex.vJ (Ex.loop e1))) (Ex.seq (Ex.ops o1) (Ex.seq (Ex.vJ (Ex.loop p1)) (Ex.seq (Ex.ey y1) Ex.ret)))))
 obtain⟨n,D⟩:=hex.run (nm:=some) wm g1 g2 (show [enc t,enc x].length<=fi.ntmps from g3) (vs:=[get C 4]) (by rw[g4];rfl)
 obtain⟨Z,z1,z2,z3⟩:=Nh q1;exact⟨n,get A 5,J,Z,by rw[D,y2];rfl,z1,z2,z3⟩
theorem Qu (l:List aY):∀c∈l.map (cells (α:=aY)),c.length=2/\c.all V.one=true/\c.all V.scalar=true:=λc hc=>by
 obtain⟨e,_,rfl⟩:=List.mem_map.1 hc;exact⟨rfl,rfl,rfl⟩
theorem RN (t:Trace):DQ uj uM t (dy t):=by
 intro y s H A;have h1:=xF t y;have G:=h1 (cS s) (by rw[A];rfl)
 have hg:V.cu [enc t,enc y]=true:=by simp only[V.cu,kK,Bool.and_self]
 have w:s.k=.row\/s.k=.nil/\rows s.l=[]:=by
  have C:∀o z,(∃l,o=.row l)\/o=.nil->dy.J1 o t y=some z->(∃l,z=.row l)\/z=.nil:=λo z I u=>by
   unfold dy.J1 at u;obtain⟨e,_,u⟩:=ζg.1 u
   cases D:e.kind==3 with
   | true=>
    rw[D]at u;obtain⟨f,_,u⟩:=ζg.1 u;obtain⟨q,B,u⟩:=ζg.1 u;cases u;unfold iU at B;split at B
    .cases B;exact .inl ⟨_,rfl⟩
    .cases B
   | false=>rw[D]at u;cases u;exact I
  have:(∃l,s=.row l)\/s=.nil:=by
   unfold dy at A
   cases hc:decide (y.index>1)with
   | true=>rw[hc]at A;exact C _ s (.inl ⟨_,rfl⟩) A
   | false=>rw[hc]at A;exact C _ s (.inr rfl) A
  rcases this with⟨l,rfl⟩|rfl
  .exact .inl rfl
  .exact .inr ⟨rfl,rfl⟩
 obtain⟨n,z,H',r1,r2⟩:=QF N_ Hj (T:=Tx) (f:=uM 116) (rf:=oR (Tx 116)) (by kernel_rfl) hg (Nat.le_of_ble_eq_true (by kernel_rfl)) (k:=s.k) (es:=2) (xs:=rows s.l) (λc hc=>(Qu s.l c hc).2.2) w G
 refine Eo (l:=s.l.map cells) (y:=z) (H1:=H') (by kernel_rfl) hg (Qu s.l) ⟨n,λk hk=>(sH _ hk).go _ _ _ _ r1⟩ ?_ H
 rcases r2 with⟨J,rfl⟩|⟨id,rfl,L⟩
 .left;cases s <;> simp[Sl.k]at J;exact⟨rfl,rfl⟩
 .right;exact⟨id,by simp[rows],L⟩
end pastX
theorem LN (t:Trace) (x:aY) (r:Sl (Sl Bool)) (h:lR t x=some r):Sy.uU 81 [enc t,enc x]=some (enc r):=by
 unfold lR at h;split at h
 .rename_i u;obtain⟨s,z,h⟩:=ζg.1 h;obtain⟨w,A,h⟩:=ζg.1 h
  cases w with
  | n a=>exact Empty.elim a
  | r e=>exact Empty.elim e
  | x out=>
   cases h;exact CZ (pastX.OT (by kernel_rfl) (pastX.RN t) u z A)
 .cases h
end Go.VE
namespace Go.VE
noncomputable section
def uo:Option Bool:=some true
instance OB:Fc Sy cL uo:=⟨10,[],λr:Bool=>[.bool r],true,iI.uU (by kernel_rfl) (by kernel_rfl) KW⟩
namespace fc
def bF (s0:Sl bQ) (D:Int) (B:Int) (p1:bQ->Option Bool):Option (Fw Int Unit Int):=
 bl (decide (B<D))
 ((idx s0 B).bind λu=>
 (p1 u).bind λw=>
 bl w
 (some (.r B))
 (some (.n (IntKind.wrap .i64 (B+1)))))
 (some (.x ()))
def W1 (s0:Sl bQ) (B D:Int) (p1:bQ->Option Bool):Option Int:=
 (bX (λq:Int=>bF s0 B q p1) D).bind (Fw.elim
 (λe=>some (-1))
 (λe=>some e))
end fc
def fc (s0:Sl bQ) (p1:bQ->Option Bool):Option Int:=
 fc.W1 s0 (len s0) 0 p1
open fc in
abbrev uF (g1:FuncId) (e1:List V) (p1:bQ->Option Bool) (h1:kA Sy cL g1 [] e1 (λz:bQ=>[enc z]) (λr:Bool=>[.bool r]) p1 true) (s0:Sl bQ):Fc Sy cL (fc s0 p1):=Fc.M 66 [enc s0,.clo g1 [] e1] (cF 9 s0 (eu 5 (λw=>(bU [Cv 0 s0,(1,.v (.clo g1 [] e1)),Iv 7 (len s0),Iv 8 w] [])) (λu=>(0,(bU [] []))) (λu=>(bU [Iv 4 u] [])) (λw=>bA 7 9 (b8 16 λA _=>wF 1 h1.f A λB _=>bA 2 16 aZ aZ) aZ) (λu=>aZ) (λu=>aZ)))
def e_ (s0:Sl bQ) (p1:bQ->Option Bool):Option Bool:=
 (fc s0 p1).bind λu=>
 some (decide (u>=0))
abbrev mS (g1:FuncId) (e1:List V) (p1:bQ->Option Bool) (h1:kA Sy cL g1 [] e1 (λz:bQ=>[enc z]) (λr:Bool=>[.bool r]) p1 true) (s0:Sl bQ):Fc Sy cL (e_ s0 p1):=Fc.M 40 [enc s0,.clo g1 [] e1] (bE (F:=uF g1 e1 p1 h1 s0) 9 λu _=>aZ)
namespace eV
def bF (s0:Sl Event) (D:Int) (B:Int) (p1:Event->Option Bool):Option (Fw Int Unit Int):=
 bl (decide (B<D))
 ((idx s0 B).bind λu=>
 (p1 u).bind λw=>
 bl w
 (some (.r B))
 (some (.n (IntKind.wrap .i64 (B+1)))))
 (some (.x ()))
def W1 (s0:Sl Event) (B D:Int) (p1:Event->Option Bool):Option Int:=
 (bX (λq:Int=>bF s0 B q p1) D).bind (Fw.elim
 (λe=>some (-1))
 (λe=>some e))
end eV
def eV (s0:Sl Event) (p1:Event->Option Bool):Option Int:=
 eV.W1 s0 (len s0) 0 p1
open eV in
abbrev uh (g1:FuncId) (e1:List V) (p1:Event->Option Bool) (h1:kA Sy cL g1 [] e1 (λz:Event=>[enc z]) (λr:Bool=>[.bool r]) p1 true) (s0:Sl Event):Fc Sy cL (eV s0 p1):=Fc.M 67 [enc s0,.clo g1 [] e1] (cF 9 s0 (eu 5 (λw=>(bU [Cv 0 s0,(1,.v (.clo g1 [] e1)),Iv 7 (len s0),Iv 8 w] [])) (λu=>(0,(bU [] []))) (λu=>(bU [Iv 4 u] [])) (λw=>bA 7 9 (b8 16 λA _=>wF 1 h1.f A λB _=>bA 2 16 aZ aZ) aZ) (λu=>aZ) (λu=>aZ)))
def gb (s0:Sl Event) (p1:Event->Option Bool):Option Bool:=
 (eV s0 p1).bind λu=>
 some (decide (u>=0))
abbrev mC (g1:FuncId) (e1:List V) (p1:Event->Option Bool) (h1:kA Sy cL g1 [] e1 (λz:Event=>[enc z]) (λr:Bool=>[.bool r]) p1 true) (s0:Sl Event):Fc Sy cL (gb s0 p1):=Fc.M 42 [enc s0,.clo g1 [] e1] (bE (F:=uh g1 e1 p1 h1 s0) 9 λu _=>aZ)
def mF (B:Event):Option Bool:=
 some (decide ((len B.assign)>20))
instance KD (B:Event):Fc Sy cL (mF B):=Fc.M 43 [enc B] (cE 2 1 B (cF 7 B.assign aZ))
def jW (B:bQ):Option Bool:=
 (bl (decide ((len B.events)>70))
 (some true)
 (some (decide ((len B.vars)>20))):Option Bool).bind λu=>
 (bl u
 (some true)
 ((gb B.events (λz=>mF z)).bind λw=>
 some w):Option Bool).bind λA=>
 some A
instance Nx (B:bQ):Fc Sy cL (jW B):=Fc.M 41 [enc B] (cE 2 1 B (cF 7 B.events (bP 2 5 [7] 12 (bA 2 7 (bt 5) (cF 2 B.vars (bt 2))) λu=>bP 1 4 [1,13] 17 (bA 1 13 (bt 4) (bE (F:=mC 43 [] (λz=>mF z) kA.qT B.events) 2 λw _=>bt 1)) λA=>aZ)))
def tE (B:Trace):Option Bool:=
 (bl (decide ((len B.procs)>10))
 (some true)
 ((e_ B.procs (λz=>jW z)).bind λu=>
 some u):Option Bool).bind λw=>
 some w
instance Qy (B:Trace):Fc Sy cL (tE B):=Fc.M 11 [enc B] (cE 2 1 B (cF 7 B.procs (bP 2 4 [1,7] 11 (bA 2 7 (bt 4) (bE (F:=mS 41 [] (λz=>jW z) kA.qT B.procs) 2 λu _=>bt 1)) λw=>aZ)))
def mR (B:Int):Option Bool:=
 (bl (decide (B>=65))
 (some (decide (B<=90)))
 (some false):Option Bool).bind λu=>
 (bl u
 (some true)
 ((bl (decide (B>=97))
 (some (decide (B<=122)))
 (some false):Option Bool).bind λw=>
 some w):Option Bool).bind λz=>
 some z
instance NA (B:Int):Fc Sy cL (mR B):=Fc.M 151 [.int .u8 B] (bP 10 3 [5] 8 (bA 10 5 (bt 3) (bt 3)) λu=>bP 1 7 [0,9] 16 (bA 1 9 (bt 7) (bP 3 3 [0,12] 15 (bA 3 12 (bt 3) (bt 3)) λw=>bt 1)) λz=>aZ)
def qE (B:Int):Option Bool:=
 (bl (decide (B>=48))
 (some (decide (B<=57)))
 (some false):Option Bool).bind λu=>
 some u
instance Px (B:Int):Fc Sy cL (qE B):=Fc.M 152 [.int .u8 B] (bP 10 3 [0,5] 8 (bA 10 5 (bt 3) (bt 3)) λu=>aZ)
namespace fV
def bF (s0:ByteArray) (i3:Int):Option (Fw Int Unit Unit):=
 bl (decide (i3<((ByteArray.size s0:Nat):Int)))
 ((jE s0 i3).bind λz=>
 (mR z).bind λA=>
 (bl A
 (some false)
 ((jE s0 i3).bind λB=>
 (qE B).bind λC=>
 some (!C)):Option Bool).bind λD=>
 (bl D
 ((jE s0 i3).bind λu=>
 some (!(u==95)))
 (some false):Option Bool).bind λw=>
 bl w
 (some (.r ()))
 (some (.n (IntKind.wrap .i64 (i3+1)))))
 (some (.x ()))
def W1 (s0:ByteArray) (i3:Int):Option Bool:=
 (bX (λq:Int=>bF s0 q) i3).bind (Fw.elim
 (λe=>some true)
 (λe=>some false))
end fV
def fV (s0:ByteArray):Option Bool:=
 (bl (decide (((ByteArray.size s0:Nat):Int)<1))
 (some true)
 (some (decide (((ByteArray.size s0:Nat):Int)>16))):Option Bool).bind λu=>
 (bl u
 (some true)
 ((jE s0 0).bind λw=>
 (mR w).bind λz=>
 some (!z)):Option Bool).bind λA=>
 bl A
 (some false)
 (fV.W1 s0 1)
open fV in
instance PL (s0:ByteArray):Fc Sy cL (fV s0):=Fc.M 113 [.str s0] (bP 12 4 [7] 11 (bA 12 7 (bt 4) (bt 4)) λB=>bP 1 5 [12] 17 (bA 1 12 (bt 5) (ym 1 .i64 λC _=>bE 0 λD _=>bt 2)) λG=>bA 2 17 aZ (eu 11 (λw=>(bU [(0,.v (.str s0)),Iv 3 w] [])) (λu=>(0,(bU [] []))) (λu=>(bU [Bv 2 false] [])) (λw=>bA 10 21 (ym 9 .i64 λI _=>bE 0 λJ _=>bP 2 6 [29] 35 (dH 2 29 (bt 6) (ym 2 .i64 λL _=>bE 0 λO _=>bt 2)) λQ=>bP 1 5 [36] 41 (bA 1 36 (ym 2 .i64 λz _=>bt 2) (bt 5)) λA=>bA 2 41 aZ aZ) aZ) (λu=>aZ) (λu=>aZ)))
def nP (B:Int):Option Bool:=
 (bl (decide (B>=(-1073741824)))
 (some (decide (B<=1073741824)))
 (some false):Option Bool).bind λu=>
 some u
instance Pk (B:Int):Fc Sy cL (nP B):=Fc.M 114 [.int .i64 B] (bP 10 3 [0,5] 8 (bA 10 5 (bt 3) (bt 3)) λu=>aZ)
namespace dL
def dZ (G:Int) (B:bQ) (D:Int):Option (Fw Int Unit Unit):=
 bl (decide (D<G))
 ((idx B.vars D).bind λu=>
 (idx B.vars G).bind λw=>
 bl (ByteArray.toList u.name==ByteArray.toList w.name)
 (some (.r ()))
 (some (.n (IntKind.wrap .i64 (D+1)))))
 (some (.x ()))
def W3 (D G:Int) (B:bQ):Option (Fw Int Unit Int):=
 (bX (λq:Int=>dZ D B q) G).bind (Fw.elim
 (λe=>(idx B.vars D).bind λu=>
 (nP u.init_).bind λw=>
 bl w
 (some (.n (IntKind.wrap .i64 (D+1))))
 (some (.r 2)))
 (λe=>some (.r 13)))
def cq (B:bQ) (D:Int):Option (Fw Int Unit Int):=
 bl (decide (D<(len B.vars)))
 ((idx B.vars D).bind λu=>
 (fV u.name).bind λw=>
 bl w
 (W3 D 0 B)
 (some (.r 13)))
 (some (.x ()))
def W2 (D:Int) (B:bQ):Option Int:=
 (bX (λq:Int=>cq B q) D).bind (Fw.elim
 (λe=>bl (decide ((len B.events)>64))
 (some 5)
 (some 0))
 (λe=>some e))
def bF (p1:Int) (B:Trace) (D:bQ) (G:Int):Option (Fw Int Unit Unit):=
 bl (decide (G<p1))
 ((idx B.procs G).bind λu=>
 bl (ByteArray.toList u.name==ByteArray.toList D.name)
 (some (.r ()))
 (some (.n (IntKind.wrap .i64 (G+1)))))
 (some (.x ()))
def W1 (p1 G:Int) (D:Trace) (B:bQ):Option Int:=
 (bX (λq:Int=>bF p1 D B q) G).bind (Fw.elim
 (λe=>bl (decide ((len B.vars)>8))
 (some 5)
 (dL.W2 0 B))
 (λe=>some 13))
end dL
def dL (B:Trace) (p1:Int):Option Int:=
 (idx B.procs p1).bind λu=>
 (fV u.name).bind λw=>
 bl w
 (dL.W1 p1 0 B u)
 (some 13)
open dL in
instance PN (G:Trace) (p1:Int):Fc Sy cL (dL G p1):=Fc.M 77 [enc G,.int .i64 p1] (cE 2 2 G (b8 8 λu _=>lT 2 5 0 u (bE 7 λI _=>dH 3 17 (eu 11 (λC=>(bU [Iv 1 p1,Pv 2,Pv 5,Iv 6 C] [Xb 2 G,Xb 5 u])) (λA=>(0,(bU [Pv 5] [Xb 5 u]))) (λA=>(bU [Iv 4 13] [])) (λC=>bA 9 20 (b8 10 λJ _=>bA 7 31 aZ aZ) aZ) (λA=>cF 7 u.vars (bA 3 35 aZ (eu 11 (λw=>(bU [Pv 5,Iv 7 w] [Xb 5 u])) (λz=>(2,(bU [Pv 5] [Xb 5 u]))) (λz=>(bU [Iv 4 z] [])) (λw=>cF 7 u.vars (bA 3 40 (b8 11 λL _=>bE 2 λO _=>dH 3 50 (eu 11 (λD=>(bU [Pv 5,Iv 7 w,Iv 8 D] [Xb 5 u])) (λB=>(4,(bU [Pv 5,Iv 7 w] [Xb 5 u]))) (λB=>(bU [Iv 4 13] [])) (λD=>bA 9 53 (b8 10 λQ _=>b8 5 λS _=>bA 5 68 aZ aZ) aZ) (λB=>b8 7 λT _=>bE 2 λU _=>dH 3 76 aZ aZ) (λB=>aZ)) aZ) aZ)) (λz=>cF 7 u.events (bA 3 80 aZ aZ)) (λz=>aZ)))) (λA=>aZ)) aZ)))
namespace dK
def dZ (p1 J:Int) (U:Trace) (D:Event) (G:Assign) (B:Int):Option (Fw Int Unit Unit):=
 bl (decide (B<J))
 ((idx D.assign B).bind λu=>
 bl (u.var==G.var)
 (some (.r ()))
 (some (.n (IntKind.wrap .i64 (B+1)))))
 (some (.x ()))
def W3 (p1 U B:Int) (D:Trace) (G:Event) (J:Assign):Option (Fw Int Unit Int):=
 (bX (λq:Int=>dZ p1 U D G J q) B).bind (Fw.elim
 (λe=>some (.n (IntKind.wrap .i64 (U+1))))
 (λe=>some (.r 8)))
def cq (p1:Int) (D:Trace) (B:Event) (G:Int):Option (Fw Int Unit Int):=
 bl (decide (G<(len B.assign)))
 ((idx B.assign G).bind λu=>
 (bl (decide (u.var<0))
 (some true)
 ((idx D.procs p1).bind λw=>
 some (decide (u.var>=(len w.vars)))):Option Bool).bind λz=>
 (bl z
 (some true)
 ((nP u.value).bind λA=>
 some (!A)):Option Bool).bind λC=>
 bl C
 (some (.r 2))
 (W3 p1 G 0 D B u))
 (some (.x ()))
def W2 (p1 G:Int) (B:Trace) (D:Event):Option Int:=
 (bX (λq:Int=>cq p1 B D q) G).bind (Fw.elim
 (λe=>some 0)
 (λe=>some e))
def J1 (p1 i2:Int) (D:Trace) (B:Event):Option Int:=
 (bl (decide (B.time<0))
 (some true)
 (some (decide (B.time>1099511627776))):Option Bool).bind λu=>
 (bl u
 (some true)
 ((bl (decide (i2>0))
 ((idx D.procs p1).bind λw=>
 (idx w.events (IntKind.wrap .i64 (i2-1))).bind λz=>
 some (decide (B.time<z.time)))
 (some false):Option Bool).bind λA=>
 some A):Option Bool).bind λC=>
 bl C
 (some 11)
 (bl (decide ((len B.assign)>8))
 (some 5)
 (dK.W2 p1 0 D B))
theorem nJ (p1 i2:Int) (D:Trace) (B:Event):Le ((J1 p1 i2 D B).bind (λr=>some [.int .i64 r])) (b_ Sy cL (n_ (tr Tx 78)) (qG (tb Tx 78) [1,1,1,0] [] (bU [Iv 1 p1,Iv 2 i2,Pv 3,Pv 7] [Xb 3 D,Xb 7 B]))):=
 bP 7 4 [71] 75 (bA 7 71 (bt 4) (bt 4)) λJ=>bP 1 19 [2,76] 95 (bA 1 76 (bt 19) (bP 3 15 [2,79] 94 (bA 3 79 (b8 5 λL _=>b8 4 λO _=>bt 4) (bt 15)) λQ=>bt 1)) λS=>bA 2 95 aZ (cF 8 B.assign (bA 3 99 aZ (eu 11 (λu=>(bU [Iv 1 p1,Pv 3,Pv 7,Iv 8 u] [Xb 3 D,Xb 7 B])) (λw=>(0,(bU [] []))) (λw=>(bU [Iv 6 w] [])) (λu=>cF 7 B.assign (bA 3 104 (b8 10 λz _=>bP 12 11 [115] 126 (bA 12 115 (bt 11) (b8 5 λG _=>cF 2 G.vars (bt 2))) λT=>NU 1 5 [130] (λA=>(bU [Iv 1 p1,Pv 3,Pv 7,Iv 8 u,Bv 104 true,Pv 9,Bv 132 A] [Xb 3 D,Xb 7 B,Xb 9 z])) (bA 1 127 (bt 5) (ei 2 λU _=>bt 2)) λA=>bA 2 132 aZ (eu 10 (λI=>(bU [Iv 1 p1,Pv 3,Pv 7,Iv 8 u,Pv 9,Iv 10 I] [Xb 3 D,Xb 7 B,Xb 9 z])) (λC=>(2,(bU [Iv 1 p1,Pv 3,Pv 7,Iv 8 u] [Xb 3 D,Xb 7 B]))) (λC=>(bU [Iv 6 8] [])) (λI=>bA 9 135 (b8 10 λW _=>bA 7 146 aZ aZ) aZ) (λC=>aZ) (λC=>aZ))) aZ)) (λw=>aZ) (λw=>aZ))))
end dK
def dK (B:Trace) (p1 i2:Int):Option Int:=
 (idx B.procs p1).bind λw=>
 (idx w.events i2).bind λu=>
 bl (u.kind==1)
 ((bl (u.peer==0)
 (some (!(u.message==0)))
 (some true):Option Bool).bind λz=>
 bl z
 (some 3)
 (dK.J1 p1 i2 B u))
 ((bl (u.kind==2)
 (some false)
 (some (!(u.kind==3))):Option Bool).bind λA=>
 (bl A
 (some true)
 (some (decide (u.peer<0))):Option Bool).bind λC=>
 (bl C
 (some true)
 (some (decide (u.peer>=(len B.procs)))):Option Bool).bind λD=>
 (bl D
 (some true)
 (some (u.peer==p1)):Option Bool).bind λG=>
 (bl G
 (some true)
 (some (decide (u.message<0))):Option Bool).bind λI=>
 (bl I
 (some true)
 (some (decide (u.message>199))):Option Bool).bind λJ=>
 bl J
 (some 3)
 (dK.J1 p1 i2 B u))
open dK in
instance PM (B:Trace) (p1 i2:Int):Fc Sy cL (dK B p1 i2):=Fc.M 78 [enc B,.int .i64 p1,.int .i64 i2] (cE 2 3 B (b8 8 λw _=>b8 3 λu _=>lT 2 7 0 u (bA 10 22 (bP 7 4 [26] 30 (dH 7 26 (bt 4) (bt 4)) λz=>bA 2 30 aZ (vi 4 (nJ p1 i2 B u))) (bP 7 4 [34] 38 (dH 7 34 (bt 4) (bt 4)) λA=>bP 1 4 [39] 43 (bA 1 39 (bt 4) (bt 4)) λC=>bP 1 7 [44] 51 (bA 1 44 (bt 7) (cF 4 B.procs (bt 2))) λD=>bP 1 5 [52] 57 (bA 1 52 (bt 5) (bt 5)) λG=>bP 1 4 [58] 62 (bA 1 58 (bt 4) (bt 4)) λI=>bP 1 4 [63] 67 (bA 1 63 (bt 4) (bt 4)) λJ=>bA 2 67 aZ (vi 4 (nJ p1 i2 B u))))))
namespace gx
def bF (G:Trace) (J:aY) (D:Event) (B:Bool) (U:Int):Option (Fw (Bool×Int) Bool Empty):=
 (idx G.procs D.peer).bind λw=>
 bl (decide (U<(len w.events)))
 ((idx G.procs D.peer).bind λz=>
 (idx z.events U).bind λu=>
 (bl B
 (some true)
 ((bl (u.kind==2)
 (some (u.message==D.message))
 (some false):Option Bool).bind λA=>
 (bl A
 (some (u.peer==J.proc))
 (some false):Option Bool).bind λC=>
 some C):Option Bool).bind λI=>
 some (.n (I,IntKind.wrap .i64 (U+1))))
 (some (.x B))
def W1 (B:Bool) (U:Int) (D:Trace) (G:aY) (J:Event):Option Int:=
 (bX (λq:Bool×Int=>bF D G J q.1 q.2) (B,U)).bind (Fw.elim
 (λe=>bl e
 (some 0)
 (some 7))
 (λe=>Empty.elim e))
end gx
def gx (B:Trace) (D:aY):Option Int:=
 (sM B D).bind λu=>
 bl (u.kind==1)
 (some 0)
 ((dA B u.kind u.message).bind λw=>
 bl (He w D)
 (bl (u.kind==3)
 (gx.W1 false 0 B D u)
 (some 0))
 (some 8))
open gx in
instance Nt (B:Trace) (D:aY):Fc Sy cL (gx B D):=Fc.M 79 [enc B,enc D] (cE 2 2 B (bE 8 λw _=>lT 1 5 0 w (bA 10 14 aZ (ei 11 λG _=>dH 4 22 (bA 11 25 (lg 14 (λu=>(bU [Pv 2,Pv 3,Pv 5,Bv 6 u.1,Iv 7 u.2] [Xb 2 B,Xb 3 D,Xb 5 w])) (λz=>(0,(bU [Bv 6 z] []))) (λu=>b8 9 λA _=>cF 2 A.events (bA 3 35 (b8 11 λI _=>b8 3 λC _=>lT 2 8 0 C (bP 5 18 [8,49] 67 (bA 5 49 (bt 18) (bP 4 6 [53] 59 (bA 4 53 (bt 6) (bt 6)) λJ=>bP 1 6 [8,60] 66 (bA 1 60 (bt 6) (bt 6)) λL=>bt 1)) λO=>aZ)) aZ)) (λz=>dH 8 69 aZ aZ)) aZ) aZ))))
namespace dS
def J4 (B:Sl Int) (p5:Int) (D:Trace):Option (Fw ((Sl Int)×Bool) ((Sl Int)×Bool) Empty):=
 (Sl.qw B p5).bind λu=>
 (Sl.get B u).bind λw=>
 (Sl.qw B p5).bind λz=>
 (Sl.put B z (IntKind.wrap .i64 (w+1):Int)).bind λA=>
 some (.n (A,true))
def dZ (p5:Int) (G:Trace) (B:Sl Int) (D:Bool):Option (Fw ((Sl Int)×Bool) ((Sl Int)×Bool) Empty):=
 (Sl.qw B p5).bind λC=>
 (Sl.get B C).bind λI=>
 (idx G.procs p5).bind λJ=>
 bl (decide (I<(len J.events)))
 ((idx G.procs p5).bind λL=>
 (Sl.qw B p5).bind λO=>
 (Sl.get B O).bind λQ=>
 (idx L.events Q).bind λu=>
 bl (u.kind==3)
 ((dA G 2 u.message).bind λw=>
 (Sl.qw B w.proc).bind λz=>
 (Sl.get B z).bind λA=>
 bl (decide (A<w.index))
 (some (.x (B,D)))
 (J4 B p5 G))
 (J4 B p5 G))
 (some (.x (B,D)))
def W3 (D:Sl Int) (B:Bool) (p5:Int) (G:Trace):Option (Fw ((Sl Int)×Bool×Int) ((Sl Int)×Bool) Empty):=
 (bX (λq:(Sl Int)×Bool=>dZ p5 G q.1 q.2) (D,B)).bind (Fw.elim
 (λe=>some (.n (e.1,e.2,IntKind.wrap .i64 (p5+1))))
 (λe=>Empty.elim e))
def cq (G:Trace) (D:Sl Int) (B:Bool) (p5:Int):Option (Fw ((Sl Int)×Bool×Int) ((Sl Int)×Bool) Empty):=
 bl (decide (p5<(len G.procs)))
 (W3 D B p5 G)
 (some (.x (D,B)))
def W2 (D:Sl Int) (B:Bool) (p5:Int) (G:Trace):Option (Fw (Sl Int) (Sl Int) Empty):=
 (bX (λq:(Sl Int)×Bool×Int=>cq G q.1 q.2.1 q.2.2) (D,B,p5)).bind (Fw.elim
 (λe=>bl e.2
 (some (.n e.1))
 (some (.x e.1)))
 (λe=>Empty.elim e))
def wu (B:Sl Int) (D:Trace) (G:Int):Option (Fw Int Unit Unit):=
 bl (decide (G<(len D.procs)))
 ((Sl.qw B G).bind λu=>
 (Sl.get B u).bind λw=>
 (idx D.procs G).bind λz=>
 bl (decide (w<(len z.events)))
 (some (.r ()))
 (some (.n (IntKind.wrap .i64 (G+1)))))
 (some (.x ()))
def W5 (B:Sl Int) (G:Int) (D:Trace):Option Bool:=
 (bX (λq:Int=>wu B D q) G).bind (Fw.elim
 (λe=>some true)
 (λe=>some false))
def bF (D:Trace) (B:Sl Int):Option (Fw (Sl Int) (Sl Int) Empty):=
 W2 B false 0 D
def W1 (B:Sl Int) (D:Trace):Option Bool:=
 (bX (λq:Sl Int=>bF D q) B).bind (Fw.elim
 (λe=>dS.W5 e 0 D)
 (λe=>Empty.elim e))
end dS
def dS (B:Trace):Option Bool:=
 (Au (len B.procs) (0:Int)).bind λu=>
 dS.W1 u B
open dS in
instance LQ (B:Trace):Fc Sy cL (dS B):=Fc.M 80 [enc B] (cE 2 1 B (cF 7 B.procs (Ta 0 12 λad _=>lg 7 (λL=>(bU [Pv 1,Ov 3] [Xb 1 B,Lb 2003 L])) (λC=>(0,(bU [Pv 1,Ov 3] [Xb 1 B,Lb 2003 C]))) (λL=>lg 17 (λw=>(bU [Pv 1,Ov 3,Bv 4 w.2.1,Iv 5 w.2.2] [Xb 1 B,Lb 2003 w.1])) (λD=>(2,(bU [Pv 1,Ov 3,Bv 4 D.2] [Xb 1 B,Lb 2003 D.1]))) (λw=>cF 8 B.procs (bA 3 17 (lg 8 (λG=>(bU [Pv 1,Ov 3,Bv 4 G.2,Iv 5 w.2.2] [Xb 1 B,Lb 2003 G.1])) (λI=>(4,(bU [Pv 1,Ov 3,Bv 4 I.2,Iv 5 w.2.2] [Xb 1 B,Lb 2003 I.1]))) (λG=>vf .i64 7 2003 λae _=>Aa 0 2003 0 1 false (λO=>.int .i64 O) λO _=>b8 3 λY _=>cF 2 Y.events (bA 3 31 (b8 9 λaf _=>vf .i64 4 2003 λah _=>Aa 0 2003 0 1 false (λQ=>.int .i64 Q) λQ _=>b8 0 λZ _=>lT 2 6 0 Z (bA 10 46 (bE 6 λai _=>vf .i64 9 2003 λaa _=>Aa 0 2003 0 1 false (λz=>.int .i64 z) λz _=>bA 5 58 aZ (qI 5 (vf .i64 4 2003 λS _=>Aa 0 2003 0 1 false (λu=>.int .i64 u) λu _=>vf .i64 1 2003 λT _=>L7 0 2003 (.int .i64 (IntKind.wrap .i64 (u+1))) λU _=>aZ))) (qI 5 (vf .i64 4 2003 λS _=>Aa 0 2003 0 1 false (λu=>.int .i64 u) λu _=>vf .i64 1 2003 λT _=>L7 0 2003 (.int .i64 (IntKind.wrap .i64 (u+1))) λU _=>aZ)))) aZ)) (λI=>aZ)) aZ)) (λD=>dH 8 66 aZ aZ)) (λC=>eu 11 (λW=>(bU [Pv 1,Ov 3,Iv 8 W] [Xb 1 B,Lb 2003 C])) (λJ=>(6,(bU [] []))) (λJ=>(bU [Bv 2 false] [])) (λW=>cF 8 B.procs (bA 3 71 (vf .i64 9 2003 λab _=>Aa 0 2003 0 1 false (λA=>.int .i64 A) λA _=>b8 3 λX _=>cF 2 X.events (bA 3 85 aZ aZ)) aZ)) (λJ=>aZ) (λJ=>aZ)))))
instance PX (t:Trace) (x:aY):Fc Sy cL (lR t x):=Fc.of (A:=λz:Trace×aY=>[enc z.1,enc z.2]) (E:=λr:Sl (Sl Bool)=>[enc r]) (p:=λz=>lR z.1 z.2) (n:=81) (z:=(t,x)) (iI.SB (by kernel_rfl) (by kernel_rfl) (λz r hr=>LN z.1 z.2 r hr))
namespace cN
def dZ (p6:Int) (B:Trace) (G:aY) (D:Int):Option (Fw Int Unit (Int×aY)):=
 (idx B.procs p6).bind λw=>
 bl (decide (D<(len w.events)))
 ((dK B p6 D).bind λu=>
 bl (u==0)
 (some (.n (IntKind.wrap .i64 (D+1))))
 (some (.r (u,(⟨p6,IntKind.wrap .i64 (D+1)⟩:aY)))))
 (some (.x ()))
def W3 (p6 G:Int) (B:Trace) (D:aY):Option (Fw Int Unit (Int×aY)):=
 (bX (λq:Int=>dZ p6 B D q) G).bind (Fw.elim
 (λe=>some (.n (IntKind.wrap .i64 (p6+1))))
 (λe=>some (.r (e.1,e.2))))
def wu (G:Int) (D:Trace) (J:aY) (B:Int):Option (Fw Int Unit (Int×aY)):=
 (idx D.procs G).bind λw=>
 bl (decide (B<(len w.events)))
 ((gx D (⟨G,IntKind.wrap .i64 (B+1)⟩:aY)).bind λu=>
 bl (u==0)
 (some (.n (IntKind.wrap .i64 (B+1))))
 (some (.r (u,(⟨G,IntKind.wrap .i64 (B+1)⟩:aY)))))
 (some (.x ()))
def W5 (J B:Int) (D:Trace) (G:aY):Option (Fw Int Unit (Int×aY)):=
 (bX (λq:Int=>wu J D G q) B).bind (Fw.elim
 (λe=>some (.n (IntKind.wrap .i64 (J+1))))
 (λe=>some (.r (e.1,e.2))))
def Hx (D:Int) (G:Trace) (J:aY) (B:Int):Option (Fw Int Unit aY):=
 (idx G.procs D).bind λw=>
 bl (decide (B<(len w.events)))
 ((lR G (⟨D,IntKind.wrap .i64 (B+1)⟩:aY)).bind λz=>
 (idx z D).bind λA=>
 (idx A (IntKind.wrap .i64 (B+1))).bind λu=>
 bl u
 (some (.r (⟨D,IntKind.wrap .i64 (B+1)⟩:aY)))
 (some (.n (IntKind.wrap .i64 (B+1)))))
 (some (.x ()))
def W7 (B D:Int) (G:Trace) (J:aY):Option (Fw Int Unit aY):=
 (bX (λq:Int=>Hx B G J q) D).bind (Fw.elim
 (λe=>some (.n (IntKind.wrap .i64 (B+1))))
 (λe=>some (.r e)))
def Ht (B:Trace) (G:aY) (D:Int):Option (Fw Int Unit aY):=
 bl (decide (D<(len B.procs)))
 (W7 D 0 B G)
 (some (.x ()))
def W6 (B:Int) (D:Trace) (G:aY):Option (aY×Int):=
 (bX (λq:Int=>Ht D G q) B).bind (Fw.elim
 (λe=>some (⟨0,0⟩,0))
 (λe=>some (e,10)))
def tU (B:Trace) (D:aY) (G:Int):Option (Fw Int Unit (Int×aY)):=
 bl (decide (G<(len B.procs)))
 (W5 G 0 B D)
 (some (.x ()))
def W4 (G:Int) (B:Trace) (D:aY):Option (aY×Int):=
 (bX (λq:Int=>tU B D q) G).bind (Fw.elim
 (λe=>(dS B).bind λu=>
 bl u
 (some (⟨0,0⟩,0))
 (cN.W6 0 B D))
 (λe=>some (e.2,e.1)))
def cq (B:Trace) (D:aY) (p6:Int):Option (Fw Int Unit (Int×aY)):=
 bl (decide (p6<(len B.procs)))
 (W3 p6 0 B D)
 (some (.x ()))
def W2 (p6:Int) (B:Trace) (D:aY):Option (aY×Int):=
 (bX (λq:Int=>cq B D q) p6).bind (Fw.elim
 (λe=>cN.W4 0 B D)
 (λe=>some (e.2,e.1)))
def bF (B:Trace) (D:aY) (p4:Int):Option (Fw Int Unit (Int×aY)):=
 bl (decide (p4<(len B.procs)))
 ((dL B p4).bind λu=>
 bl (u==0)
 (some (.n (IntKind.wrap .i64 (p4+1))))
 (some (.r (u,(⟨p4,0⟩:aY)))))
 (some (.x ()))
def W1 (p4:Int) (B:Trace) (D:aY):Option (aY×Int):=
 (bX (λq:Int=>bF B D q) p4).bind (Fw.elim
 (λe=>cN.W2 0 B D)
 (λe=>some (e.2,e.1)))
end cN
def cN (B:Trace):Option (aY×Int):=
 (bl (decide ((len B.procs)<1))
 (some true)
 (some (decide ((len B.procs)>8))):Option Bool).bind λu=>
 bl u
 (some (⟨0,0⟩,1))
 (cN.W1 0 B (⟨0,0⟩:aY))
open cN in
instance O2 (B:Trace):Fc Sy cL (cN B):=Fc.M 53 [enc B] (cE 2 1 B (cF 9 B.procs (bP 2 5 [20] 25 (bA 2 20 (bt 5) (cF 2 B.procs (bt 2))) λaa=>bA 2 25 aZ (eu 11 (λO=>(bU [Pv 1,Pv 2,Iv 4 O] [Xb 1 B,Xb 2 (⟨0,0⟩:aY)])) (λu=>(0,(bU [Pv 1,Pv 2] [Xb 1 B,Xb 2 (⟨0,0⟩:aY)]))) (λu=>(bU [Pv 2,Iv 3 u.1] [Xb 2 u.2])) (λO=>cF 7 B.procs (bA 3 31 (bE 9 λab _=>dH 9 38 aZ aZ) aZ)) (λu=>eu 10 (λD=>(bU [Pv 1,Pv 2,Iv 6 D] [Xb 1 B,Xb 2 (⟨0,0⟩:aY)])) (λw=>(2,(bU [Pv 1,Pv 2] [Xb 1 B,Xb 2 (⟨0,0⟩:aY)]))) (λw=>(bU [Pv 2,Iv 3 w.1] [Xb 2 w.2])) (λD=>cF 7 B.procs (bA 3 46 (eu 12 (λQ=>(bU [Pv 1,Pv 2,Iv 6 D,Iv 7 Q] [Xb 1 B,Xb 2 (⟨0,0⟩:aY)])) (λz=>(4,(bU [Pv 1,Pv 2,Iv 6 D] [Xb 1 B,Xb 2 (⟨0,0⟩:aY)]))) (λz=>(bU [Pv 2,Iv 3 z.1] [Xb 2 z.2])) (λQ=>b8 8 λU _=>cF 2 U.events (bA 3 57 (bE 10 λad _=>dH 9 65 aZ aZ) aZ)) (λz=>aZ) (λz=>aZ)) aZ)) (λw=>eu 10 (λG=>(bU [Pv 1,Pv 2,Iv 9 G] [Xb 1 B,Xb 2 (⟨0,0⟩:aY)])) (λA=>(6,(bU [Pv 1,Pv 2] [Xb 1 B,Xb 2 (⟨0,0⟩:aY)]))) (λA=>(bU [Pv 2,Iv 3 A.1] [Xb 2 A.2])) (λG=>cF 7 B.procs (bA 3 75 (eu 12 (λS=>(bU [Pv 1,Pv 2,Iv 9 G,Iv 10 S] [Xb 1 B,Xb 2 (⟨0,0⟩:aY)])) (λC=>(8,(bU [Pv 1,Pv 2,Iv 9 G] [Xb 1 B,Xb 2 (⟨0,0⟩:aY)]))) (λC=>(bU [Pv 2,Iv 3 C.1] [Xb 2 C.2])) (λS=>b8 8 λW _=>cF 2 W.events (bA 3 86 (bE 19 λae _=>dH 9 97 aZ aZ) aZ)) (λC=>aZ) (λC=>aZ)) aZ)) (λA=>bE 6 λY _=>bA 2 101 aZ (eu 11 (λI=>(bU [Pv 1,Pv 2,Iv 13 I] [Xb 1 B,Xb 2 (⟨0,0⟩:aY)])) (λJ=>(10,(bU [Pv 2] [Xb 2 (⟨0,0⟩:aY)]))) (λJ=>(bU [Pv 2,Iv 3 10] [Xb 2 J])) (λI=>cF 7 B.procs (bA 3 107 (eu 12 (λT=>(bU [Pv 1,Pv 2,Iv 13 I,Iv 14 T] [Xb 1 B,Xb 2 (⟨0,0⟩:aY)])) (λL=>(12,(bU [Pv 1,Pv 2,Iv 13 I] [Xb 1 B,Xb 2 (⟨0,0⟩:aY)]))) (λL=>(bU [Pv 2,Iv 3 10] [Xb 2 L])) (λT=>b8 8 λX _=>cF 2 X.events (bA 3 118 (bE 19 λaf _=>b8 1 λah _=>b8 3 λZ _=>bA 3 134 aZ aZ) aZ)) (λL=>aZ) (λL=>aZ)) aZ)) (λJ=>aZ) (λJ=>aZ))) (λA=>aZ)) (λw=>aZ)) (λu=>aZ)))))
def qM (B:Trace):Option Bool:=
 (cN B).bind λu=>
 some (u.2==0)
instance PK (B:Trace):Fc Sy cL (qM B):=Fc.M 21 [enc B] (cE 2 1 B (bE 6 λu _=>aZ))
namespace jt
def bF (B:Sl Int) (D:Trace) (p5:Int):Option (Fw Int Unit Unit):=
 bl (decide (p5<(len B)))
 ((idx B p5).bind λu=>
 (bl (decide (u<0))
 (some true)
 ((idx B p5).bind λw=>
 (idx D.procs p5).bind λz=>
 some (decide (w>(len z.events)))):Option Bool).bind λA=>
 bl A
 (some (.r ()))
 (some (.n (IntKind.wrap .i64 (p5+1)))))
 (some (.x ()))
def W1 (B:Sl Int) (p5:Int) (D:Trace):Option Bool:=
 (bX (λq:Int=>bF B D q) p5).bind (Fw.elim
 (λe=>some true)
 (λe=>some false))
end jt
def jt (D:Trace) (B:Sl Int):Option Bool:=
 bl ((len B)==(len D.procs))
 (jt.W1 B 0 D)
 (some false)
open jt in
instance Qh (D:Trace) (B:Sl Int):Fc Sy cL (jt D B):=Fc.M 22 [enc D,enc B] (cE 2 2 D (cF 7 B (cF 2 D.procs (dH 3 11 (eu 11 (λw=>(bU [Cv 1 B,Pv 2,Iv 5 w] [Xb 2 D])) (λu=>(0,(bU [] []))) (λu=>(bU [Bv 4 false] [])) (λw=>cF 6 B (bA 3 15 (b8 9 λA _=>bP 3 13 [23] 36 (bA 3 23 (bt 13) (b8 2 λC _=>b8 4 λz _=>cF 2 z.events (bt 2))) λG=>bA 2 36 aZ aZ) aZ)) (λu=>aZ) (λu=>aZ)) aZ))))
namespace dz
def cq (B:Sl Int) (p5:Int) (D:Trace) (G:Int):Option (Fw Int Unit Unit):=
 (idx B p5).bind λz=>
 bl (decide (G<z))
 ((idx D.procs p5).bind λA=>
 (idx A.events G).bind λu=>
 bl (u.kind==3)
 ((dA D 2 u.message).bind λw=>
 (idx B w.proc).bind λC=>
 bl (decide (w.index>C))
 (some (.r ()))
 (some (.n (IntKind.wrap .i64 (G+1)))))
 (some (.n (IntKind.wrap .i64 (G+1)))))
 (some (.x ()))
def W2 (B:Sl Int) (p5 G:Int) (D:Trace):Option (Fw Int Unit Unit):=
 (bX (λq:Int=>cq B p5 D q) G).bind (Fw.elim
 (λe=>some (.n (IntKind.wrap .i64 (p5+1))))
 (λe=>some (.r ())))
def bF (B:Sl Int) (D:Trace) (p5:Int):Option (Fw Int Unit Unit):=
 bl (decide (p5<(len B)))
 (W2 B p5 0 D)
 (some (.x ()))
def W1 (B:Sl Int) (p5:Int) (D:Trace):Option Bool:=
 (bX (λq:Int=>bF B D q) p5).bind (Fw.elim
 (λe=>some true)
 (λe=>some false))
end dz
def dz (D:Trace) (B:Sl Int):Option Bool:=
 dz.W1 B 0 D
open dz in
instance Ju (D:Trace) (B:Sl Int):Fc Sy cL (dz D B):=Fc.M 23 [enc D,enc B] (cE 2 2 D (eu 11 (λu=>(bU [Cv 1 B,Pv 2,Iv 5 u] [Xb 2 D])) (λw=>(0,(bU [] []))) (λw=>(bU [Bv 4 false] [])) (λu=>cF 6 B (bA 3 12 (eu 12 (λA=>(bU [Cv 1 B,Pv 2,Iv 5 u,Iv 6 A] [Xb 2 D])) (λz=>(2,(bU [Cv 1 B,Pv 2,Iv 5 u] [Xb 2 D]))) (λz=>(bU [Bv 4 false] [])) (λA=>b8 7 λG _=>bA 4 20 (b8 10 λI _=>b8 3 λC _=>lT 2 7 0 C (bA 9 34 (bE 6 λJ _=>b8 11 λL _=>bA 4 46 aZ aZ) aZ)) aZ) (λz=>aZ) (λz=>aZ)) aZ)) (λw=>aZ) (λw=>aZ)))
def lI (G D B:Int):Option Bool:=
 (bl (decide (G>=D))
 (some (decide (G<=B)))
 (some false):Option Bool).bind λu=>
 some u
instance R5 (G D B:Int):Fc Sy cL (lI G D B):=Fc.M 153 [.int .i64 G,.int .i64 D,.int .i64 B] (bP 11 4 [0,2,10] 14 (bA 11 10 (bt 4) (bt 4)) λu=>aZ)
def nR (B:Int):Option Bool:=
 (bl (decide (B>=97))
 (some (decide (B<=122)))
 (some false):Option Bool).bind λu=>
 (bl u
 (some true)
 ((bl (decide (B>=65))
 (some (decide (B<=90)))
 (some false):Option Bool).bind λw=>
 some w):Option Bool).bind λz=>
 some z
instance Pn (B:Int):Fc Sy cL (nR B):=Fc.M 197 [.int .u8 B] (bP 10 3 [5] 8 (bA 10 5 (bt 3) (bt 3)) λu=>bP 1 7 [0,9] 16 (bA 1 9 (bt 7) (bP 3 3 [0,12] 15 (bA 3 12 (bt 3) (bt 3)) λw=>bt 1)) λz=>aZ)
def rN (B:Int):Option Bool:=
 (bl (decide (B>=48))
 (some (decide (B<=57)))
 (some false):Option Bool).bind λu=>
 some u
instance PZ (B:Int):Fc Sy cL (rN B):=Fc.M 198 [.int .u8 B] (bP 10 3 [0,5] 8 (bA 10 5 (bt 3) (bt 3)) λu=>aZ)
namespace fm
def bF (s0:ByteArray) (D:Int) (B:Int):Option (Fw Int Unit Unit):=
 bl (decide (B<D))
 ((jE s0 B).bind λz=>
 (nR z).bind λA=>
 (bl A
 (some false)
 ((jE s0 B).bind λC=>
 (rN C).bind λG=>
 some (!G)):Option Bool).bind λI=>
 (bl I
 ((jE s0 B).bind λu=>
 some (!(u==95)))
 (some false):Option Bool).bind λw=>
 bl w
 (some (.r ()))
 (some (.n (IntKind.wrap .i64 (B+1)))))
 (some (.x ()))
def W1 (s0:ByteArray) (B D:Int):Option Bool:=
 (bX (λq:Int=>bF s0 B q) D).bind (Fw.elim
 (λe=>some true)
 (λe=>some false))
end fm
def fm (s0:ByteArray):Option Bool:=
 (bl (ByteArray.toList s0==ByteArray.toList ByteArray.empty)
 (some true)
 (some (decide (((ByteArray.size s0:Nat):Int)>16))):Option Bool).bind λu=>
 (bl u
 (some true)
 ((jE s0 0).bind λw=>
 (nR w).bind λz=>
 some (!z)):Option Bool).bind λA=>
 bl A
 (some false)
 (fm.W1 s0 ((ByteArray.size s0:Nat):Int) 0)
open fm in
instance Ou (s0:ByteArray):Fc Sy cL (fm s0):=Fc.M 181 [.str s0] (bP 11 4 [6] 10 (bA 11 6 (bt 4) (bt 4)) λB=>bP 1 5 [11] 16 (bA 1 11 (bt 5) (ym 1 .i64 λC _=>bE 0 λD _=>bt 2)) λG=>bA 2 16 aZ (eu 13 (λw=>(bU [(0,.v (.str s0)),Iv 18 ((ByteArray.size s0:Nat):Int),Iv 19 w] [])) (λu=>(0,(bU [] []))) (λu=>(bU [Bv 2 false] [])) (λw=>bA 7 20 (ym 15 .i64 λI _=>bE 0 λJ _=>bP 2 6 [27] 33 (dH 2 27 (bt 6) (ym 2 .i64 λL _=>bE 0 λO _=>bt 2)) λQ=>bP 1 5 [3,34] 39 (bA 1 34 (ym 2 .i64 λz _=>bt 2) (bt 5)) λA=>bA 2 39 aZ aZ) aZ) (λu=>aZ) (λu=>aZ)))
def iD (B D:bQ):Option Bool:=
 some (ByteArray.toList B.name==ByteArray.toList D.name)
instance Gc (B D:bQ):Fc Sy cL (iD B D):=Fc.M 182 [enc B,.fptr (cells D)] (cE 2 2 B aZ)
def iB (B D:Var):Option Bool:=
 some (ByteArray.toList B.name==ByteArray.toList D.name)
instance Ge (B D:Var):Fc Sy cL (iB B D):=Fc.M 183 [enc B,.fptr (cells D)] (aZ)
namespace eA
def bF (s0:Sl Var) (D:Int) (B:Int) (p1:Var->Option Bool):Option (Fw Int Unit Int):=
 bl (decide (B<D))
 ((idx s0 B).bind λu=>
 (p1 u).bind λw=>
 bl w
 (some (.r B))
 (some (.n (IntKind.wrap .i64 (B+1)))))
 (some (.x ()))
def W1 (s0:Sl Var) (B D:Int) (p1:Var->Option Bool):Option Int:=
 (bX (λq:Int=>bF s0 B q p1) D).bind (Fw.elim
 (λe=>some (-1))
 (λe=>some e))
end eA
def eA (s0:Sl Var) (p1:Var->Option Bool):Option Int:=
 eA.W1 s0 (len s0) 0 p1
open eA in
abbrev lS (g1:FuncId) (e1:List V) (p1:Var->Option Bool) (h1:kA Sy cL g1 [] e1 (λz:Var=>[enc z]) (λr:Bool=>[.bool r]) p1 true) (s0:Sl Var):Fc Sy cL (eA s0 p1):=Fc.M 106 [enc s0,.clo g1 [] e1] (cF 9 s0 (eu 5 (λw=>(bU [Cv 0 s0,(1,.v (.clo g1 [] e1)),Iv 7 (len s0),Iv 8 w] [])) (λu=>(0,(bU [] []))) (λu=>(bU [Iv 4 u] [])) (λw=>bA 7 9 (b8 16 λA _=>wF 1 h1.f A λB _=>bA 2 16 aZ aZ) aZ) (λu=>aZ) (λu=>aZ)))
def fH (s0:Sl Var) (p1:Var->Option Bool):Option Bool:=
 (eA s0 p1).bind λu=>
 some (decide (u>=0))
abbrev nv (g1:FuncId) (e1:List V) (p1:Var->Option Bool) (h1:kA Sy cL g1 [] e1 (λz:Var=>[enc z]) (λr:Bool=>[.bool r]) p1 true) (s0:Sl Var):Fc Sy cL (fH s0 p1):=Fc.M 161 [enc s0,.clo g1 [] e1] (bE (F:=lS g1 e1 p1 h1 s0) 9 λu _=>aZ)
namespace d_
def bF (D:Sl Var) (G:Int) (J:bQ) (B:Int):Option (Fw Int Unit Int):=
 bl (decide (B<G))
 ((idx D B).bind λu=>
 (fm u.name).bind λC=>
 (bl C
 ((ij J.vars none (some B)).bind λI=>
 (fH I (λz=>iB z u)).bind λL=>
 some L)
 (some true):Option Bool).bind λw=>
 bl w
 (some (.r 13))
 ((lI u.init_ (-1073741824) 1073741824).bind λA=>
 bl A
 (some (.n (IntKind.wrap .i64 (B+1))))
 (some (.r 2))))
 (some (.x ()))
def W1 (D:Sl Var) (G J:Int) (B:bQ):Option Int:=
 (bX (λq:Int=>bF D G B q) J).bind (Fw.elim
 (λe=>bl (decide ((len B.events)>64))
 (some 5)
 (some 0))
 (λe=>some e))
end d_
def d_ (D:Trace) (p1:Int):Option Int:=
 (idx D.procs p1).bind λu=>
 (fm u.name).bind λw=>
 (bl w
 ((ij D.procs none (some p1)).bind λA=>
 (e_ A (λz=>iD z u)).bind λB=>
 some B)
 (some true):Option Bool).bind λC=>
 bl C
 (some 13)
 (bl (decide ((len u.vars)>8))
 (some 5)
 (d_.W1 u.vars (len u.vars) 0 u))
open d_ in
instance Ic (D:Trace) (p1:Int):Fc Sy cL (d_ D p1):=Fc.M 154 [enc D,.int .i64 p1] (cE 2 2 D (b8 8 λu _=>lT 2 5 0 u (bE 8 λL _=>bP 2 7 [1,2,18] 25 (dH 2 18 (Aj 3 false true [.int .i64 p1] λC _=>ei (F:=mS 182 [.fptr (cells u)] (λz=>iD z u) kA.qT C) 1 λO _=>bt 1) (bt 7)) λQ=>bA 3 13 aZ (cF 5 u.vars (bA 4 26 aZ (cF 9 u.vars (eu 5 (λA=>(bU [Pv 5,Cv 32 u.vars,Iv 33 (len u.vars),Iv 34 A] [Xb 5 u])) (λw=>(1,(bU [Pv 5] [Xb 5 u]))) (λw=>(bU [Iv 4 w] [])) (λA=>bA 7 35 (b8 8 λB _=>bE 11 λS _=>bP 2 7 [6,44] 51 (dH 2 44 (Aj 3 false true [.int .i64 A] λG _=>ei (F:=nv 183 [.fptr (cells B)] (λz=>iB z B) kA.qT G) 1 λT _=>bt 1) (bt 7)) λI=>bA 3 39 aZ (bE 5 λJ _=>dH 4 52 aZ aZ)) aZ) (λw=>cF 7 u.events (bA 3 61 aZ aZ)) (λw=>aZ))))))))
def gZ (B:Trace):Option Trace:=
 some B
instance OP (B:Trace):Fc Sy cL (gZ B):=Fc.NE (λr:Trace=>[(.clo 184 [] [.fptr (cells r)])]) 155 [enc B] (cE 2 1 B aZ)
namespace gq
def J1 (p1:Int) (D:Bool) (G:Trace) (B:Event):Option Bool:=
 bl D
 ((lI B.peer 0 (IntKind.wrap .i64 ((len G.procs)-1))).bind λu=>
 (bl u
 (some (!(B.peer==p1)))
 (some false):Option Bool).bind λw=>
 (bl w
 ((lI B.message 0 199).bind λz=>
 some z)
 (some false):Option Bool).bind λA=>
 some A)
 (some false)
end gq
def gq (B:Trace) (p1:Int) (e2:Event):Option Bool:=
 bl (e2.kind==1)
 ((bl (e2.peer==0)
 (some (e2.message==0))
 (some false):Option Bool).bind λu=>
 some u)
 (bl (e2.kind==2)
 (gq.J1 p1 true B e2)
 (gq.J1 p1 (e2.kind==3) B e2))
open gq in
instance OG (B:Trace) (p1:Int) (e2:Event):Fc Sy cL (gq B p1 e2):=Fc.M 185 [enc B,.int .i64 p1,enc e2] (cE 2 3 B (cE 0 5 e2 (bA 17 9 (bP 7 4 [5,14] 18 (bA 7 14 (bt 4) (bt 4)) λC=>aZ) (bA 8 19 (qI 4 (bA 0 19 (cF 7 B.procs (bE 1 λu _=>bP 1 5 [1,29] 34 (bA 1 29 (bt 5) (bt 5)) λw=>bP 1 4 [5,35] 39 (bA 1 35 (bE 2 λz _=>bt 1) (bt 4)) λA=>aZ)) aZ)) (qI 7 (bA 0 19 (cF 7 B.procs (bE 1 λu _=>bP 1 5 [1,29] 34 (bA 1 29 (bt 5) (bt 5)) λw=>bP 1 4 [5,35] 39 (bA 1 35 (bE 2 λz _=>bt 1) (bt 4)) λA=>aZ)) aZ))))))
def jm (B D:Assign):Option Bool:=
 some (B.var==D.var)
instance G3 (B D:Assign):Fc Sy cL (jm B D):=Fc.M 187 [enc B,.fptr (cells D)] (aZ)
namespace eG
def bF (s0:Sl Assign) (D:Int) (B:Int) (p1:Assign->Option Bool):Option (Fw Int Unit Int):=
 bl (decide (B<D))
 ((idx s0 B).bind λu=>
 (p1 u).bind λw=>
 bl w
 (some (.r B))
 (some (.n (IntKind.wrap .i64 (B+1)))))
 (some (.x ()))
def W1 (s0:Sl Assign) (B D:Int) (p1:Assign->Option Bool):Option Int:=
 (bX (λq:Int=>bF s0 B q p1) D).bind (Fw.elim
 (λe=>some (-1))
 (λe=>some e))
end eG
def eG (s0:Sl Assign) (p1:Assign->Option Bool):Option Int:=
 eG.W1 s0 (len s0) 0 p1
open eG in
abbrev tu (g1:FuncId) (e1:List V) (p1:Assign->Option Bool) (h1:kA Sy cL g1 [] e1 (λz:Assign=>[enc z]) (λr:Bool=>[.bool r]) p1 true) (s0:Sl Assign):Fc Sy cL (eG s0 p1):=Fc.M 199 [enc s0,.clo g1 [] e1] (cF 9 s0 (eu 5 (λw=>(bU [Cv 0 s0,(1,.v (.clo g1 [] e1)),Iv 7 (len s0),Iv 8 w] [])) (λu=>(0,(bU [] []))) (λu=>(bU [Iv 4 u] [])) (λw=>bA 7 9 (b8 16 λA _=>wF 1 h1.f A λB _=>bA 2 16 aZ aZ) aZ) (λu=>aZ) (λu=>aZ)))
def fQ (s0:Sl Assign) (p1:Assign->Option Bool):Option Bool:=
 (eG s0 p1).bind λu=>
 some (decide (u>=0))
abbrev q9 (g1:FuncId) (e1:List V) (p1:Assign->Option Bool) (h1:kA Sy cL g1 [] e1 (λz:Assign=>[enc z]) (λr:Bool=>[.bool r]) p1 true) (s0:Sl Assign):Fc Sy cL (fQ s0 p1):=Fc.M 186 [enc s0,.clo g1 [] e1] (bE (F:=tu g1 e1 p1 h1 s0) 9 λu _=>aZ)
namespace dm
def cq (D:Sl Assign) (G:Int) (J:Event) (U:bQ) (B:Int):Option (Fw Int Unit Int):=
 bl (decide (B<G))
 ((idx D B).bind λu=>
 (lI u.var 0 (IntKind.wrap .i64 ((len U.vars)-1))).bind λC=>
 (bl C
 ((lI u.value (-1073741824) 1073741824).bind λI=>
 some (!I))
 (some true):Option Bool).bind λL=>
 bl L
 (some (.r 2))
 ((ij J.assign none (some B)).bind λw=>
 (fQ w (λz=>jm z u)).bind λA=>
 bl A
 (some (.r 8))
 (some (.n (IntKind.wrap .i64 (B+1))))))
 (some (.x ()))
def W2 (B:Sl Assign) (D G:Int) (J:Event) (U:bQ):Option Int:=
 (bX (λq:Int=>cq B D J U q) G).bind (Fw.elim
 (λe=>some 0)
 (λe=>some e))
def J1 (D:Int) (J:Trace) (G:aY) (B:Event) (U:bQ):Option Int:=
 (gq J G.proc B).bind λu=>
 bl u
 ((lI B.time 0 1099511627776).bind λw=>
 (bl w
 (some (decide (B.time<D)))
 (some true):Option Bool).bind λz=>
 bl z
 (some 11)
 (bl (decide ((len B.assign)>8))
 (some 5)
 (dm.W2 B.assign (len B.assign) 0 B U)))
 (some 3)
theorem nJ (D:Int) (U:Trace) (J:aY) (B:Event) (G:bQ):Le ((J1 D U J B G).bind (λr=>some [.int .i64 r])) (b_ Sy cL (n_ (tr Tx 156)) (qG (tb Tx 156) [1,1,1,1,0] [] (bU [Pv 3,Pv 4,Pv 5,Pv 7,Iv 8 D] [Xb 3 U,Xb 4 J,Xb 5 B,Xb 7 G]))):=
 bE 8 λL _=>dH 4 28 (bE 5 λO _=>bP 2 5 [8,40] 45 (dH 2 40 (bt 5) (bt 5)) λQ=>bA 3 35 aZ (cF 5 B.assign (bA 4 46 aZ (cF 9 B.assign (eu 5 (λw=>(bU [Pv 5,Pv 7,Cv 52 B.assign,Iv 53 (len B.assign),Iv 54 w] [Xb 5 B,Xb 7 G])) (λu=>(1,(bU [] []))) (λu=>(bU [Iv 6 u] [])) (λw=>bA 7 55 (b8 8 λA _=>cF 13 G.vars (bE 1 λS _=>bP 2 5 [68] 73 (dH 2 68 (bE 2 λT _=>bt 2) (bt 5)) λW=>bA 3 59 aZ (Aj 6 false true [.int .i64 w] λC _=>ei (F:=q9 187 [.fptr (cells A)] (λz=>jm z A) kA.qT C) 1 λI _=>bA 3 74 aZ aZ))) aZ) (λu=>aZ) (λu=>aZ)))))) aZ
end dm
def dm (D:Trace) (B:aY) (e2:Event):Option Int:=
 (idx D.procs B.proc).bind λu=>
 bl (decide (B.index>1))
 ((idx u.events (IntKind.wrap .i64 (B.index-2))).bind λw=>
 dm.J1 w.time D B e2 u)
 (dm.J1 0 D B e2 u)
open dm in
instance Ki (D:Trace) (B:aY) (e2:Event):Fc Sy cL (dm D B e2):=Fc.M 156 [enc D,enc B,enc e2] (cE 2 3 D (cE 1 5 e2 (b8 9 λu _=>lT 2 7 0 u (bA 15 19 (b8 7 λw _=>vi 6 (nJ w.time D B e2 u)) (vi 4 (nJ 0 D B e2 u))))))
def oJ (B:Event) (D G:Int):Option Bool:=
 (bl (B.kind==2)
 (some (B.message==D))
 (some false):Option Bool).bind λu=>
 (bl u
 (some (B.peer==G))
 (some false):Option Bool).bind λw=>
 some w
instance MT (B:Event) (D G:Int):Fc Sy cL (oJ B D G):=Fc.M 200 [enc B,.fptr (cells D),.fptr (cells G)] (cE 2 3 B (bP 9 5 [1,8] 13 (bA 9 8 (bt 5) (bt 5)) λu=>bP 1 5 [2,3,14] 19 (bA 1 14 (bt 5) (bt 5)) λw=>aZ))
def rW (D:Trace) (p1 G B:Int):Option Bool:=
 (idx D.procs p1).bind λu=>
 (gb u.events (λz=>oJ z G B)).bind λw=>
 some w
instance PV (G:Trace) (p1 D B:Int):Fc Sy cL (rW G p1 D B):=Fc.M 188 [enc G,.int .i64 p1,.int .i64 D,.int .i64 B] (cE 2 4 G (b8 10 λu _=>ei (F:=mC 200 [.fptr (cells D),.fptr (cells B)] (λz=>oJ z D B) kA.qT u.events) 3 λw _=>aZ))
namespace ec
def js (D G:Trace) (J:Option (cC 200 bG)) (U:aY) (W:Int) (x:aY×Event) (B:cC 200 bG):Option (Fw (cC 200 bG) Empty (aY×Int×(cC 200 bG))):=
 bl (x.2.kind==2)
 ((cC.at B x.2.message).bind λu=>
 bl (decide (u.from_.index>0))
 (some (.r (x.1,8,B)))
 ((cC.at B x.2.message).bind λw=>
 some (.n (cC.set B x.2.message (⟨x.1,w.to_⟩:bG)))))
 (bl (x.2.kind==3)
 ((cC.at B x.2.message).bind λz=>
 bl (decide (z.to_.index>0))
 (some (.r (x.1,8,B)))
 ((rW G x.2.peer x.2.message x.1.proc).bind λA=>
 bl A
 ((cC.at B x.2.message).bind λC=>
 some (.n (cC.set B x.2.message (⟨C.from_,x.1⟩:bG))))
 (some (.r (x.1,7,B)))))
 (some (.n B)))
def E1 (B G:Trace) (J:Option (cC 200 bG)) (U:aY) (W:Int) (D:cC 200 bG):Option ((Option (cC 200 bG))×aY×Int):=
 (h_ B).bind λu=>(jO (λ(x:aY×Event) (q:cC 200 bG)=>js B G J U W x q) u D).bind (Fw.pR
 (λq=>some (some q,⟨0,0⟩,0))
 (λe=>Empty.elim e)
 (λe=>some ((none:Option (cC 200 bG)),e.1,e.2.1)))
end ec
def ec (B:Trace):Option ((Option (cC 200 bG))×aY×Int):=
 (gZ B).bind λu=>
 ec.E1 u B (none:Option (cC 200 bG)) (⟨0,0⟩:aY) 0 (cC.JL 200 (⟨⟨0,0⟩,⟨0,0⟩⟩:bG))
open ec in
instance HX (B:Trace):Fc Sy cL (ec B):=Fc.N 157 [enc B] (cE 2 1 B (cE 8 10 (cC.JL 200 (⟨⟨0,0⟩,⟨0,0⟩⟩:bG)) (Rf 0 5 (bU [Pv 1,Pv 2,Pv 3,Pv 4,Pv 10] [Xb 1 B,(2,.box [cv (none:Option (cC 200 bG))]),Xb 3 (⟨0,0⟩:aY),(4,.box [iv 0]),Xb 10 (cC.JL 200 (⟨⟨0,0⟩,⟨0,0⟩⟩:bG))]) [cv (none:Option (cC 200 bG))] (by simp only[bU,vQ,oO,qx,ow,qg,rJ,qn,ri,oI,qa,vP,qV,rj,rC,rH,tW,tR,qd,ru];rfl) (bE 7 λA _=>Ct λL C=>zf 4 [Pv 1,Pv 2,Pv 3,Pv 4,Pv 5,(12,.v (.clo 184 [] [.fptr (cells A)]))] (λw=>[Xb 1 B,(2,.box [cv (none:Option (cC 200 bG))]),Xb 3 (⟨0,0⟩:aY),(4,.box [iv 0]),(5,.box [.ptr 10 0]),Xb 10 w]) (λz=>Empty.elim z) (λz=>[Xb 1 B,(2,.box [cv (none:Option (cC 200 bG))]),Xb 3 z.1,(4,.box [iv z.2.1]),(5,.box [.ptr 10 0]),Xb 10 z.2.2]) (wQ A L C) (λu w=>Rf 2 6 ⟨[Pv 1,Pv 2,Pv 3,Pv 4,Pv 5,(12,.v (.clo 184 [] [.fptr (cells A)])),Cv 13 u.1,Cv 14 u.2],[Xb 1 B,(2,.box [cv (none:Option (cC 200 bG))]),Xb 3 (⟨0,0⟩:aY),(4,.box [iv 0]),(5,.box [.ptr 10 0]),Xb 10 w],[1,2,3,4,5],[],true,0⟩ [iv 0,iv 0] (by simp only[bU,vQ,oO,qx,ow,qg,rJ,qn,ri,oI,qa,vP,qV,rj,rC,rH,tW,tR,qd,ru];rfl) (Rf 4 7 ⟨[Pv 1,Pv 2,Pv 3,Pv 4,Pv 5,(12,.v (.clo 184 [] [.fptr (cells A)])),Cv 14 u.2,Pv 6],[Xb 1 B,(2,.box [cv (none:Option (cC 200 bG))]),Xb 3 (⟨0,0⟩:aY),(4,.box [iv 0]),(5,.box [.ptr 10 0]),Xb 10 w,Xb 6 u.1],[1,2,3,4,5],[],true,0⟩ [iv 0,iv 0,iv 0,iv 0,.v .bL] (by simp only[bU,vQ,oO,qx,ow,qg,rJ,qn,ri,oI,qa,vP,qV,rj,rC,rH,tW,tR,qd,ru];rfl) (lT 0 7 0 u.2 (vH 1 (bA 22 19 (DM 7 .i64 10 λD O=>Ns 2 1 false 10 w u.2.message 1 D O (.int .i64 D.from_.index) (by rfl) (bA 3 28 aZ (DM 8 .i64 10 λG Q=>NK 1 10 w u.2.message 0 G Q (⟨u.1,G.to_⟩:bG) u.1 rfl aZ))) (bA 7 36 (DM 7 .i64 10 λI S=>Ns 2 1 false 10 w u.2.message 3 I S (.int .i64 I.to_.index) (by rfl) (bA 3 45 aZ (bE 12 λU _=>dH 3 54 (DM 8 .i64 10 λJ T=>NK 1 10 w u.2.message 2 J T (⟨J.from_,u.1⟩:bG) u.1 rfl aZ) aZ))) aZ)))))) (λw=>R_ 13 (bU [Pv 2,Pv 3,Pv 4] [(2,.box [.ptr 10 0]),Xb 3 (⟨0,0⟩:aY),(4,.box [iv 0]),Xb 10 w]) [.ptr 10 0,cv (⟨0,0⟩:aY),iv 0] (PE (d:=10) (x:=w) (vs:=[enc (⟨0,0⟩:aY),.int .i64 0]) (by kernel_rfl)) (by kernel_rfl)) (λx=>Empty.elim x) (λz=>aZ)))))
namespace g_
def J1 (D:cC 200 bG) (B:Sl aY) (J:Sl Event) (G:aY):Option (Sl aY):=
 (idx J (IntKind.wrap .i64 (G.index-1))).bind λu=>
 (bl (u.kind==2)
 ((cC.at D u.message).bind λw=>
 some (decide (w.to_.index>0)))
 (some false):Option Bool).bind λz=>
 bl z
 ((cC.at D u.message).bind λA=>
 (iU B (A.to_:aY)).bind λC=>
 some C)
 (some B)
theorem nJ (B:cC 200 bG) (D:Sl aY) (J:Sl Event) (G:aY):Le ((J1 B D J G).bind (λr=>some [enc r])) (b_ Sy cL (n_ (tr Tx 189)) (qG (tb Tx 189) [1,1,1,1,0,0] [] (bU [Kv 1 B,Pv 5,Ov 7,Cv 8 J] [Xb 5 G,Lb 2007 D]))):=
 b8 7 λu _=>lT 2 9 0 u (bP 8 10 [40] 50 (bA 8 40 (Iu 4 .i64 λw z=>Me 0 2 B u.message 0 w z (Me 0 1 B u.message 2 w z (HL 0 1 false B u.message 3 w z (.int .i64 w.to_.index) (by rfl) (bt 2)))) (bt 10)) λI=>bA 2 50 (Iu 7 .i64 λA C=>Me 0 2 B u.message 0 A C (HL 0 2 true B u.message 2 A C (enc A.to_) (by rfl) (wK 1 2007 59 60 λL _=>aZ))) aZ)
end g_
def g_ (D:Trace) (B:cC 200 bG) (x2:aY):Option (Sl aY):=
 (idx D.procs x2.proc).bind λu=>
 bl (decide (x2.index<(len u.events)))
 (g_.J1 B (Sl.row [⟨x2.proc,IntKind.wrap .i64 (x2.index+1)⟩]:Sl aY) u.events x2)
 (g_.J1 B (Sl.nil:Sl aY) u.events x2)
open g_ in
instance PU (D:Trace) (B:cC 200 bG) (x2:aY):Fc Sy cL (g_ D B x2):=Fc.N 189 [enc D,.fptr (cells B),enc x2] (cE 2 3 D (b8 15 λu _=>cF 11 u.events (bA 3 21 (NO 10 29 30 .bL (⟨x2.proc,IntKind.wrap .i64 (x2.index+1)⟩:aY) (vi 5 (nJ B (Sl.row [⟨x2.proc,IntKind.wrap .i64 (x2.index+1)⟩]:Sl aY) u.events x2))) (vi 5 (nJ B (Sl.nil:Sl aY) u.events x2)))))
namespace gw
def dZ (U:Trace) (W:Sl aY) (Y:Int) (aa:Trace) (ab:cC 200 bG) (ad:aY) (ae:Bool) (J:aY) (B:Sl aY) (G:Int) (D:Mo aY Bool):Option (Fw ((Sl aY)×Int×(Mo aY Bool)) ((Sl aY)×(Mo aY Bool)) Unit):=
 bl (decide (G<Y))
 ((idx W G).bind λu=>
 bl (He u J)
 (some (.r ()))
 (bl (Cu D u false)
 (some (.n (B,IntKind.wrap .i64 (G+1),D)))
 ((iU B (u:aY)).bind λw=>
 some (.n (w,IntKind.wrap .i64 (G+1),p_ D u true)))))
 (some (.x (B,D)))
def W3 (D:Sl aY) (B:Trace) (U:Sl aY) (W Y:Int) (aa:Trace) (ab:cC 200 bG) (ad:aY) (ae:Bool) (G:aY) (J:Mo aY Bool):Option (Fw ((Sl aY)×(Mo aY Bool)) Unit Unit):=
 (bX (λq:(Sl aY)×Int×(Mo aY Bool)=>dZ B U W aa ab ad ae G q.1 q.2.1 q.2.2) (D,Y,J)).bind (Fw.elim
 (λe=>some (.n (e.1,e.2)))
 (λe=>some (.r ())))
def cq (D G:Trace) (J:cC 200 bG) (Y:aY) (aa:Bool) (U:aY) (B:Sl aY) (W:Mo aY Bool):Option (Fw ((Sl aY)×(Mo aY Bool)) Unit Unit):=
 bl (decide ((len B)>0))
 ((Sl.qw B (IntKind.wrap .i64 ((len B)-1))).bind λw=>
 (Sl.get B w).bind λz=>
 (mV B none (some (IntKind.wrap .i64 ((len B)-1)))).bind λA=>
 (g_ G J z).bind λu=>
 W3 A D u (len u) 0 G J Y aa U W)
 (some (.x ()))
def W2 (G:Sl aY) (B U:Trace) (W:cC 200 bG) (Y:aY) (aa:Bool) (D:aY) (J:Mo aY Bool):Option (Fw Unit Empty aY):=
 (bX (λq:(Sl aY)×(Mo aY Bool)=>cq B U W Y aa D q.1 q.2) (G,J)).bind (Fw.elim
 (λe=>some (.n ()))
 (λe=>some (.r D)))
def js (B D:Trace) (G:cC 200 bG) (J:aY) (U:Bool) (x:aY×Event):Option (Fw Unit Empty aY):=
 W2 (Sl.row [x.1]:Sl aY) B D G J U x.1 []
def E1 (B D:Trace) (G:cC 200 bG) (J:aY) (U:Bool):Option (aY×Bool):=
 (h_ B).bind λu=>(jO (λ(x:aY×Event) (q:Unit)=>js B D G J U x) u ()).bind (Fw.pR
 (λq=>some (⟨0,0⟩,false))
 (λe=>Empty.elim e)
 (λe=>some (e,true)))
end gw
def gw (B:Trace) (D:cC 200 bG):Option (aY×Bool):=
 (gZ B).bind λu=>
 gw.E1 u B D (⟨0,0⟩:aY) false
open gw in
instance Oc (B:Trace) (D:cC 200 bG):Fc Sy cL (gw B D):=Fc.M 158 [enc B,.fptr (cells D)] (cE 2 2 B (bE 9 λw _=>Ct λT O=>zf 4 [Pv 2,Pv 3,Pv 4,Pv 5,(13,.v (.clo 184 [] [.fptr (cells w)]))] (λQ=>[Xb 2 B,(3,.box [cp D]),Xb 4 (⟨0,0⟩:aY),(5,.box [bv false])]) (λG=>Empty.elim G) (λG=>[Xb 2 B,(3,.box [cp D]),Xb 4 G,(5,.box [bv true])]) (wQ w T O) (λA Q=>vH 4 (eu 18 (λu=>⟨[Pv 2,Pv 3,Pv 4,Pv 5,Pv 6,(7,.mp 16),Ov 8,(13,.v (.clo 184 [] [.fptr (cells w)]))],[Xb 2 B,(3,.box [cp D]),Xb 4 (⟨0,0⟩:aY),(5,.box [bv false]),Xb 6 A.1,(16,ud u.2),Lb 2008 u.1],[2,3,4,5],[],true,0⟩) (λI=>(2,⟨[Pv 2,Pv 3,Pv 4,Pv 5,(13,.v (.clo 184 [] [.fptr (cells w)]))],[Xb 2 B,(3,.box [cp D]),Xb 4 (⟨0,0⟩:aY),(5,.box [bv false])],[2,3,4,5],[],true,0⟩)) (λI=>⟨[],[Xb 2 B,(3,.box [cp D]),Xb 4 A.1,(5,.box [bv true])],[2,3,4,5],[],true,0⟩) (λu=>HJ 6 2008 u.1 (bA 3 21 (HJ 8 2008 u.1 (vf .i64 1 2008 λU _=>Aa 0 2008 0 2 true (λJ=>.agg [.int .i64 J.proc,.int .i64 J.index]) λJ _=>HJ 8 2008 u.1 (Rx 1 false true 2008 32 [.int .i64 (IntKind.wrap .i64 ((len u.1)-1))] λW _=>bE 8 λL _=>cF 0 L (eu 6 (λz=>⟨[Pv 2,Pv 3,Pv 4,Pv 5,Pv 6,(7,.mp 16),Ov 8,(13,.v (.clo 184 [] [.fptr (cells w)])),Cv 36 L,Iv 37 (len L),Iv 38 z.2.1],[Xb 2 B,(3,.box [cp D]),Xb 4 (⟨0,0⟩:aY),(5,.box [bv false]),Xb 6 A.1,(16,ud z.2.2),Lb 2008 z.1],[2,3,4,5],[],true,0⟩) (λC=>(4,⟨[Pv 2,Pv 3,Pv 4,Pv 5,Pv 6,(7,.mp 16),Ov 8,(13,.v (.clo 184 [] [.fptr (cells w)]))],[Xb 2 B,(3,.box [cp D]),Xb 4 (⟨0,0⟩:aY),(5,.box [bv false]),Xb 6 A.1,(16,ud C.2),Lb 2008 C.1],[2,3,4,5],[],true,0⟩)) (λC=>⟨[],[Xb 2 B,(3,.box [cp D]),Xb 4 A.1,(5,.box [bv true])],[2,3,4,5],[],true,0⟩) (λz=>bA 8 39 (b8 7 λS _=>bA 13 44 aZ (Rw 7 16 z.2.2 S false (dH 3 49 aZ (SL 5 16 z.2.2 S true (wK 6 2008 54 55 λX _=>aZ))))) aZ) (λC=>aZ) (λC=>aZ))))) aZ)) (λI=>aZ) (λI=>aZ))) (λQ=>aZ) (λx=>Empty.elim x) (λG=>aZ)))
namespace fW
def Hu (B D:Trace) (G:aY) (J:Int) (x:aY×Event):Option (Fw Unit Empty (aY×Int)):=
 (dm D x.1 x.2).bind λu=>
 bl (u==0)
 (some (.n ()))
 (some (.r (x.1,u)))
def E2 (B D:Trace) (G:aY) (J:Int):Option (aY×Int):=
 (h_ B).bind λz=>(jO (λ(x:aY×Event) (q:Unit)=>Hu B D G J x) z ()).bind (Fw.pR
 (λq=>(ec D).bind λu=>
 bl (u.2.2==0)
 ((u.1).bind λA=>
 (gw D A).bind λw=>
 bl w.2
 (some (w.1,10))
 (some (⟨0,0⟩,0)))
 (some (u.2.1,u.2.2)))
 (λe=>Empty.elim e)
 (λe=>some (e.1,e.2)))
def bF (D:Int) (G:Trace) (J:aY) (U:Int) (B:Int):Option (Fw Int Unit (aY×Int)):=
 bl (decide (B<D))
 ((d_ G B).bind λu=>
 bl (u==0)
 (some (.n (IntKind.wrap .i64 (B+1))))
 (some (.r ((⟨B,0⟩:aY),u))))
 (some (.x ()))
def W1 (J U:Int) (B:Trace) (D:aY) (G:Int):Option (aY×Int):=
 (bX (λq:Int=>bF J B D G q) U).bind (Fw.elim
 (λe=>(gZ B).bind λu=>
 fW.E2 u B D G)
 (λe=>some (e.1,e.2)))
end fW
def fW (B:Trace):Option (aY×Int):=
 (lI (len B.procs) 1 8).bind λu=>
 bl u
 (fW.W1 (len B.procs) 0 B (⟨0,0⟩:aY) 0)
 (some (⟨0,0⟩,1))
open fW in
instance PW (B:Trace):Fc Sy cL (fW B):=Fc.M 117 [enc B] (cE 2 1 B (cF 9 B.procs (bE 0 λL _=>dH 3 18 (cF 8 B.procs (eu 5 (λA=>(bU [Pv 1,Pv 2,Pv 3,Iv 22 (len B.procs),Iv 23 A] [Xb 1 B,Xb 2 (⟨0,0⟩:aY),(3,.box [iv 0])])) (λu=>(0,(bU [Pv 1,Pv 2,Pv 3] [Xb 1 B,Xb 2 (⟨0,0⟩:aY),(3,.box [iv 0])]))) (λu=>(bU [Pv 2,Pv 3] [Xb 2 u.1,(3,.box [iv u.2])])) (λA=>bA 7 24 (bE 15 λO _=>dH 9 30 aZ aZ) aZ) (λu=>bE 6 λz _=>Ct λI C=>zf 4 [Pv 1,Pv 2,Pv 3,(36,.v (.clo 184 [] [.fptr (cells z)]))] (λD=>[Xb 1 B,Xb 2 (⟨0,0⟩:aY),(3,.box [iv 0])]) (λw=>Empty.elim w) (λw=>[Xb 1 B,Xb 2 w.1,(3,.box [iv w.2])]) (wQ z I C) (λJ D=>lT 8 7 0 J.2 (vH 1 (bE 7 λQ _=>dH 9 44 aZ aZ))) (λD=>bE 5 λG _=>dH 17 54 (SN 8 (λS=>(bU [Pv 2,Pv 3,(36,.v (.clo 184 [] [.fptr (cells z)])),Pv 10,Iv 11 G.2.2,Bv 54 false,Cv 58 B,Cv 59 S] [Xb 1 B,Xb 2 (⟨0,0⟩:aY),(3,.box [iv 0]),Xb 10 G.2.1])) λT _=>bE 0 λU _=>bA 13 63 aZ aZ) aZ) (λx=>Empty.elim x) (λw=>aZ)) (λu=>aZ))) aZ)))
def dN (B:Trace):Option Bool:=
 (fW B).bind λu=>
 some (u.2==0)
instance PS (B:Trace):Fc Sy cL (dN B):=Fc.M 82 [enc B] (cE 2 1 B (bE 6 λu _=>aZ))
def vK (B:Int):Option Bool:=
 (bl (B==2)
 (some true)
 (some (B==3)):Option Bool).bind λu=>
 (bl u
 (some true)
 (some (B==4)):Option Bool).bind λw=>
 some w
instance M0 (B:Int):Fc Sy cL (vK B):=Fc.M 159 [.int .i64 B] (bP 10 3 [5] 8 (bA 10 5 (bt 3) (bt 3)) λu=>bP 1 3 [0,9] 12 (bA 1 9 (bt 3) (bt 3)) λw=>aZ)
def fR (B:Pred):Option Bool:=
 (bl (decide (B.kind<1))
 (some true)
 (some (decide (B.kind>=22))):Option Bool).bind λz=>
 (bl z
 (some true)
 ((cC.at DK B.kind).bind λA=>
 some (!((len B.l)==A))):Option Bool).bind λC=>
 (bl C
 (some true)
 (some (decide (B.n<0))):Option Bool).bind λD=>
 (bl D
 (some true)
 (some (decide (B.n>1125899906842624))):Option Bool).bind λG=>
 (bl G
 (some true)
 ((bl (B.n==0)
 (some false)
 (some (!(B.kind==1))):Option Bool).bind λI=>
 some I):Option Bool).bind λJ=>
 bl J
 (some false)
 ((vK B.kind).bind λL=>
 (bl L
 (some true)
 ((bl (B.proc==0)
 (some (B.peer==0))
 (some false):Option Bool).bind λO=>
 (bl O
 (some (ByteArray.toList B.name==ByteArray.toList ByteArray.empty))
 (some false):Option Bool).bind λu=>
 some u):Option Bool).bind λw=>
 some w)
instance NB (B:Pred):Fc Sy cL (fR B):=Fc.M 119 [enc B] (cE 2 1 B (bP 10 4 [6] 10 (bA 10 6 (bt 4) (bt 4)) λC=>bP 1 9 [11] 20 (bA 1 11 (bt 9) (oW 2 13 (Pred.s8 B.l) (cF 0 B.l (Iu 2 .i64 λu w=>HL 0 1 false DK B.kind 0 u w (.int .i64 u) (by rfl) (bt 2))))) λD=>bP 1 4 [21] 25 (bA 1 21 (bt 4) (bt 4)) λG=>bP 1 4 [26] 30 (bA 1 26 (bt 4) (bt 4)) λI=>bP 1 9 [31] 40 (bA 1 31 (bt 9) (bP 4 4 [35] 39 (dH 4 35 (bt 4) (bt 4)) λJ=>bt 1)) λL=>bA 2 40 aZ (bE 7 λO _=>bP 1 14 [1,44] 58 (bA 1 44 (bt 14) (bP 4 4 [48] 52 (bA 4 48 (bt 4) (bt 4)) λQ=>bP 1 4 [1,53] 57 (bA 1 53 (bt 4) (bt 4)) λz=>bt 1)) λA=>aZ)))
def mh (D:Pred) (G B:Int) (r:(Pred×Int×Int)->Option (Bool×Int)):Option (Bool×Int):=
 (r (D,IntKind.wrap .i64 (G+1),B)).bind λu=>
 some ((!u.1),u.2)
abbrev uG (r:(Pred×Int×Int)->Option (Bool×Int)) (hr:yD Sy cL 118 (λz:Pred×Int×Int=>[cv z.1,iv z.2.1,.ptr 9004 0,.ptr 9003 0]) (λz:Pred×Int×Int=>[(9004,bx (z.2.2:Int)),(9003,.box [.clo 118 [] [.ptr 9004 0,.ptr 9003 0]])]) (λr:Bool×Int=>[.bool r.1]) (λ(z:Pred×Int×Int) (r:Bool×Int)=>[(9004,bx (r.2:Int)),(9003,.box [.clo 118 [] [.ptr 9004 0,.ptr 9003 0]])]) r) (D:Pred) (G B:Int):oT Sy cL (mh D G B r):=oT.mk' 121 [cv D,.ptr 9003 0,.v (.fptr (cells G))] [(9003,.box [.clo 118 [] [.ptr 9004 0,.ptr 9003 0]]),(9004,bx (B:Int))] (λr:Bool×Int=>[.bool r.1]) (λr:Bool×Int=>[(9003,.box [.clo 118 [] [.ptr 9004 0,.ptr 9003 0]]),(9004,bx (r.2:Int))]) (cE 2 3 D (we 9 (oT.of (D,IntKind.wrap .i64 (G+1),B) hr) λu _=>aZ))
section
variable {σ:Type} {gf:FuncId} {ex:List SV} {os:σ->c6} {p:Pred->σ->Option (Bool×σ)} (h:wk Sy cL (.clo gf [] ex) gf ex os p) (s0:Sl Pred) (x:σ)
abbrev sK:oT Sy cL (Mb s0 p x):=oT.mk' 160 [cv s0,(.clo gf [] ex)] (os x) (λr=>[.int .i64 r.1]) (λr=>os r.2)
 (cF 9 s0 (eu 5 (λq=>⟨[Cv 0 s0,(1,(.clo gf [] ex)),Iv 7 (len s0),Iv 8 q.1],os q.2,(os x).map (·.1),[],true,0⟩) (λe=>(0,⟨[],os e,(os x).map (·.1),[],true,0⟩)) (λe=>⟨[Iv 4 e.1],os e.2,(os x).map (·.1),[],true,0⟩)
  (λq=>bA 7 9 (b8 16 λy _=>Kr 1 h y q.2 λr _=>bA 2 16 aZ aZ) aZ) (λe=>DL 9 h [.int .i64 (-1)] rfl) (λe=>Le.of_eq (Ea h (ys:=[.int .i64 e.1]) (by kernel_rfl) rfl)))) (hp:=λr=>h.wi x r.2)
abbrev sO:oT Sy cL (yT s0 p x):=oT.mk' 120 [cv s0,(.clo gf [] ex)] (os x) (λr=>[.bool r.1]) (λr=>os r.2)
 (G_ 9 (sK h s0 x) (h.hd x (enc s0)) (λr=>h.put x r.2) λy _=>DL 5 h [.bool (decide (y.1>=0))] rfl) (hp:=λr=>h.wi x r.2)
end
section
variable {σ:Type} {gf:FuncId} {ex:List V} {os:σ->c6} {p:Pred->σ->Option (Bool×σ)} (h:wk Sy cL (.v (.clo gf [] ex)) gf (ex.map .v) os p) (s0:Sl Pred) (x:σ)
abbrev sE:oT Sy cL (Mb s0 p x):=oT.mk' 160 [cv s0,(.v (.clo gf [] ex))] (os x) (λr=>[.int .i64 r.1]) (λr=>os r.2)
 (cF 9 s0 (eu 5 (λq=>⟨[Cv 0 s0,(1,(.v (.clo gf [] ex))),Iv 7 (len s0),Iv 8 q.1],os q.2,(os x).map (·.1),[],true,0⟩) (λe=>(0,⟨[],os e,(os x).map (·.1),[],true,0⟩)) (λe=>⟨[Iv 4 e.1],os e.2,(os x).map (·.1),[],true,0⟩)
  (λq=>bA 7 9 (b8 16 λy _=>Kr 1 h y q.2 λr _=>bA 2 16 aZ aZ) aZ) (λe=>DL 9 h [.int .i64 (-1)] rfl) (λe=>Le.of_eq (Ea h (ys:=[.int .i64 e.1]) (by kernel_rfl) rfl)))) (hp:=λr=>h.wi x r.2)
abbrev jX:oT Sy cL (yT s0 p x):=oT.mk' 120 [cv s0,(.v (.clo gf [] ex))] (os x) (λr=>[.bool r.1]) (λr=>os r.2)
 (G_ 9 (sE h s0 x) (h.hd x (enc s0)) (λr=>h.put x r.2) λy _=>DL 5 h [.bool (decide (y.1>=0))] rfl) (hp:=λr=>h.wi x r.2)
end
def gG (G:Pred) (B D:Int) (r:(Pred×Int×Int)->Option (Bool×Int)):Option (Bool×Int):=
 (bl (decide ((IntKind.wrap .i64 (D-1))<0))
 (some true)
 (some (decide (B>20))):Option Bool).bind λw=>
 (bl w
 (some true)
 ((fR G).bind λz=>
 some (!z)):Option Bool).bind λA=>
 bl A
 (some (false,IntKind.wrap .i64 (D-1)))
 ((yT G.l (λx s=>mh x B s r) (IntKind.wrap .i64 (D-1))).bind λu=>
 some ((!u.1),u.2))
theorem uE (r:(Pred×Int×Int)->Option (Bool×Int)) (hr:yD Sy cL 118 (λz:Pred×Int×Int=>[cv z.1,iv z.2.1,.ptr 9004 0,.ptr 9003 0]) (λz:Pred×Int×Int=>[(9004,bx (z.2.2:Int)),(9003,.box [.clo 118 [] [.ptr 9004 0,.ptr 9003 0]])]) (λr:Bool×Int=>[.bool r.1]) (λ(z:Pred×Int×Int) (r:Bool×Int)=>[(9004,bx (r.2:Int)),(9003,.box [.clo 118 [] [.ptr 9004 0,.ptr 9003 0]])]) r) (D:Pred) (B G:Int):∀J,gG D B G r=some J->∃m',cL 118 [cv D,iv B,.ptr 9004 0,.ptr 9003 0] [(9004,bx (G:Int)),(9003,.box [.clo 118 [] [.ptr 9004 0,.ptr 9003 0]])]=some (((λr:Bool×Int=>[.bool r.1]) J).map .v,m')/\∀U,jY m' ([(9004,bx (G:Int)),(9003,.box [.clo 118 [] [.ptr 9004 0,.ptr 9003 0]])].map (·.1)) U=some (nM U ((λr:Bool×Int=>[(9004,bx (r.2:Int)),(9003,.box [.clo 118 [] [.ptr 9004 0,.ptr 9003 0]])]) J)):=
 (oT.mk' 118 [cv D,iv B,.ptr 9004 0,.ptr 9003 0] [(9004,bx (G:Int)),(9003,.box [.clo 118 [] [.ptr 9004 0,.ptr 9003 0]])] (λr:Bool×Int=>[.bool r.1]) (λr:Bool×Int=>[(9004,bx (r.2:Int)),(9003,.box [.clo 118 [] [.ptr 9004 0,.ptr 9003 0]])]) (cE 2 4 D (bP 17 3 [11] 14 (bA 17 11 (bt 3) (bt 3)) λu=>bP 1 4 [15] 19 (bA 1 15 (bt 4) (bE 1 λw _=>bt 2)) λA=>bA 2 19 aZ (oW 7 21 (Pred.s8 D.l) (we 2 (sO (wk.Tc (σ:=Int) (g:=121) (e:=[.ptr 9003 0,cp B]) (os:=λs=>[(9003,.box [.clo 118 [] [.ptr 9004 0,.ptr 9003 0]]),(9004,bx (s:Int))]) (p:=(λx s=>mh x B s r)) (λx s=>uG r hr x B s)) D.l (IntKind.wrap .i64 (G-1))) λC _=>aZ)))):oT Sy cL (gG D B G r)).h
def nV (D:Pred) (B G:Int):Option (Bool×Int):=vB (λr (z:Pred×Int×Int)=>gG z.1 z.2.1 z.2.2 r) 100000 (D,B,G)
abbrev xm (D:Pred) (B G:Int):oT Sy cL (nV D B G):=oT.of (D,B,G) (yD.fix (A:=λz:Pred×Int×Int=>[cv z.1,iv z.2.1,.ptr 9004 0,.ptr 9003 0]) (O:=λz:Pred×Int×Int=>[(9004,bx (z.2.2:Int)),(9003,.box [.clo 118 [] [.ptr 9004 0,.ptr 9003 0]])]) (E:=λr:Bool×Int=>[.bool r.1]) (M:=λ(z:Pred×Int×Int) (r:Bool×Int)=>[(9004,bx (r.2:Int)),(9003,.box [.clo 118 [] [.ptr 9004 0,.ptr 9003 0]])]) (b:=(λr (z:Pred×Int×Int)=>gG z.1 z.2.1 z.2.2 r)) (by kernel_rfl) (by kernel_rfl) (by kernel_rfl) (λr hr z=>uE r hr z.1 z.2.1 z.2.2) 100000)
def jR (B:Pred):Option Bool:=
 (nV B 1 200).bind λu=>
 some u.1
instance Li (B:Pred):Fc Sy cL (jR B):=Fc.M 83 [enc B] (cE 2 1 B (we 26 (xm B 1 200) λu _=>aZ))
def fA (B:Trace) (p1:Int):Option Bool:=
 (bl (decide (p1>=0))
 (some (decide (p1<(len B.procs))))
 (some false):Option Bool).bind λu=>
 some u
instance Ln (B:Trace) (p1:Int):Fc Sy cL (fA B p1):=Fc.M 123 [enc B,.int .i64 p1] (cE 2 2 B (bP 8 6 [1,2,7] 13 (bA 8 7 (cF 3 B.procs (bt 2)) (bt 6)) λu=>aZ))
def o6 (B:Var) (D:ByteArray):Option Bool:=
 some (ByteArray.toList B.name==ByteArray.toList D)
instance Jt (B:Var) (D:ByteArray):Fc Sy cL (o6 B D):=Fc.M 162 [enc B,.fptr (cells D)] (aZ)
def wo (D:Trace) (p1:Int) (B:ByteArray):Option Bool:=
 (idx D.procs p1).bind λu=>
 (fH u.vars (λz=>o6 z B)).bind λw=>
 some w
instance LO (D:Trace) (p1:Int) (B:ByteArray):Fc Sy cL (wo D p1 B):=Fc.M 124 [enc D,.int .i64 p1,.str B] (cE 2 3 D (b8 9 λu _=>ei (F:=nv 162 [.fptr (cells B)] (λz=>o6 z B) kA.qT u.vars) 3 λw _=>aZ))
def eB (B:Pred) (D:Trace):Option Bool:=
 bl (B.kind==2)
 ((fA D B.proc).bind λA=>
 (bl A
 (some (B.peer==0))
 (some false):Option Bool).bind λC=>
 (bl C
 ((wo D B.proc B.name).bind λG=>
 some G)
 (some false):Option Bool).bind λI=>
 some I)
 (bl (B.kind==3)
 ((fA D B.proc).bind λJ=>
 (bl J
 (some (B.peer==0))
 (some false):Option Bool).bind λL=>
 (bl L
 (some (ByteArray.toList B.name==ByteArray.toList ByteArray.empty))
 (some false):Option Bool).bind λO=>
 some O)
 (bl (B.kind==4)
 ((fA D B.proc).bind λQ=>
 (bl Q
 ((fA D B.peer).bind λS=>
 some S)
 (some false):Option Bool).bind λu=>
 (bl u
 (some (!(B.proc==B.peer)))
 (some false):Option Bool).bind λw=>
 (bl w
 (some (ByteArray.toList B.name==ByteArray.toList ByteArray.empty))
 (some false):Option Bool).bind λz=>
 some z)
 (some true)))
instance Gp (B:Pred) (D:Trace):Fc Sy cL (eB B D):=Fc.M 122 [enc B,.fptr (cells D)] (cE 2 2 B (bA 17 6 (bE 6 λA _=>bP 1 4 [12] 16 (bA 1 12 (bt 4) (bt 4)) λC=>bP 1 7 [1,2,17] 24 (bA 1 17 (bE 5 λG _=>bt 1) (bt 7)) λI=>aZ) (bA 7 25 (bE 6 λJ _=>bP 1 4 [31] 35 (bA 1 31 (bt 4) (bt 4)) λL=>bP 1 4 [2,36] 40 (bA 1 36 (bt 4) (bt 4)) λO=>aZ) (bA 7 41 (bE 6 λQ _=>bP 1 5 [1,47] 52 (bA 1 47 (bE 3 λS _=>bt 1) (bt 5)) λu=>bP 1 6 [53] 59 (bA 1 53 (bt 6) (bt 6)) λw=>bP 1 4 [2,60] 64 (bA 1 60 (bt 4) (bt 4)) λz=>aZ) aZ))))
def pW (B:Pred) (p1:Pred->Option Bool) (r:Pred->Option Bool):Option Bool:=
 (r B).bind λu=>
 some (!u)
abbrev yP (g1:FuncId) (e1:List V) (p1:Pred->Option Bool) (h1:kA Sy cL g1 [] e1 (λz:Pred=>[enc z]) (λr:Bool=>[.bool r]) p1 true) (r:Pred->Option Bool) (hr:iI Sy cL 103 (λz:Pred=>[enc z,.clo g1 [] e1]) (λr:Bool=>[.bool r]) r true) (B:Pred):Fc Sy cL (pW B p1 r):=Fc.M 146 [enc B,.fptr [.clo g1 [] e1]] (cE 2 2 B (bE (F:=Fc.of B hr) 7 λu _=>aZ))
def jS (D:Pred) (p1:Pred->Option Bool) (r:Pred->Option Bool):Option Bool:=
 (p1 D).bind λw=>
 (bl w
 ((yT D.l (λx u=>((λz=>pW z p1 r) x).map λb=>(b,u)) ()).bind λA=>
 some (!A.1))
 (some false):Option Bool).bind λB=>
 some B
theorem y8 (g1:FuncId) (e1:List V) (p1:Pred->Option Bool) (h1:kA Sy cL g1 [] e1 (λz:Pred=>[enc z]) (λr:Bool=>[.bool r]) p1 true) (r:Pred->Option Bool) (hr:iI Sy cL 103 (λz:Pred=>[enc z,.clo g1 [] e1]) (λr:Bool=>[.bool r]) r true) (B:Pred):Le ((jS B p1 r).bind λr=>some [.bool r]) (iL cL 103 [enc B,.clo g1 [] e1]):=
 (Fc.M 103 [enc B,.clo g1 [] e1] (cE 2 2 B (wF 8 h1.f B λw _=>NU 1 6 [] (λu=>(bU [Bv 14 u] [Xb 2 B])) (bA 1 8 (oW 2 10 (Pred.s8 B.l) (we 2 (jX (wk.Qo (g:=146) (e:=[.fptr [.clo g1 [] e1]]) (p:=(λz=>pW z p1 r)) (kA.qT (F:=λz=>yP g1 e1 p1 h1 r hr z))) B.l ()) λA _=>bt 2)) (bt 7)) λu=>aZ)):Fc Sy cL (jS B p1 r)).F.h ()
def k8 (B:Pred) (p1:Pred->Option Bool):Option Bool:=vB (λr (z:Pred)=>jS z p1 r) 100000 B
abbrev qC (g1:FuncId) (e1:List V) (p1:Pred->Option Bool) (h1:kA Sy cL g1 [] e1 (λz:Pred=>[enc z]) (λr:Bool=>[.bool r]) p1 true) (B:Pred):Fc Sy cL (k8 B p1):=Fc.of B (iI.fix (A:=λz:Pred=>[enc z,.clo g1 [] e1]) (E:=λr:Bool=>[.bool r]) (sc:=true) (b:=(λr (z:Pred)=>jS z p1 r)) (by kernel_rfl) (λ_ _=>rfl) (λr hr z=>y8 g1 e1 p1 h1 r hr z) 100000)
def o7 (B:Trace) (p1:Pred):Option Bool:=
 (k8 p1 (λz=>eB z B)).bind λu=>
 some u
instance Jv (B:Trace) (p1:Pred):Fc Sy cL (o7 B p1):=Fc.M 84 [enc B,enc p1] (cE 2 2 B (cE 0 3 p1 (ei (F:=qC 122 [.fptr (cells B)] (λz=>eB z B) kA.qT p1) 7 λu _=>aZ)))
def jL (B:Int):Option Int:=
 bl (decide (B<=8))
 (some 1)
 (some 2)
instance Lj (B:Int):Fc Sy cL (jL B):=Fc.M 56 [.int .i64 B] (bA 12 4 aZ aZ)
def xz (B:Int):Option Int:=
 bl (decide (B<=12))
 (some 1)
 (some 2)
instance NW (B:Int):Fc Sy cL (xz B):=Fc.M 127 [.int .i64 B] (bA 12 4 aZ aZ)
def mE (B D:Pred):Option Bool:=
 (jL B.kind).bind λu=>
 (xz D.kind).bind λw=>
 some (!(u==w))
instance Gm (B D:Pred):Fc Sy cL (mE B D):=Fc.M 126 [enc B,.fptr (cells D)] (cE 2 2 B (ei 7 λu _=>ei 2 λw _=>aZ))
def lV (B:Pred):Option Bool:=
 (yT B.l (λx u=>((λz=>mE z B) x).map λb=>(b,u)) ()).bind λw=>
 some (!w.1)
instance Js (B:Pred):Fc Sy cL (lV B):=Fc.M 125 [enc B] (cE 2 1 B (oW 7 4 (Pred.s8 B.l) (we 2 (jX (wk.Qo (g:=126) (e:=[.fptr (cells B)]) (p:=(λz=>mE z B)) kA.qT) B.l ()) λu _=>aZ)))
def mb (B:Pred):Option Bool:=
 (k8 B (λz=>lV z)).bind λu=>
 some u
instance LR (B:Pred):Fc Sy cL (mb B):=Fc.M 85 [enc B] (cE 2 1 B (bE (F:=qC 125 [] (λz=>lV z) kA.qT B) 6 λu _=>aZ))
namespace iH
def cq (D:Sl Int) (B i4:Int):Option (Fw (Int×Int) Int Empty):=
 bl (decide (i4<(len D)))
 ((idx D i4).bind λu=>
 some (.n ((if u<B then u else B),IntKind.wrap .i64 (i4+1))))
 (some (.x B))
def W2 (B:Sl Int) (D i4:Int):Option Int:=
 (bX (λq:Int×Int=>cq B q.1 q.2) (D,i4)).bind (Fw.elim
 (λe=>some e)
 (λe=>Empty.elim e))
def J1 (B:Sl Int):Option Int:=
 (idx B 0).bind λu=>
 iH.W2 B u 1
end iH
def iH (B:Sl Int):Option Int:=
 bl (decide ((len B)<1))
 (none)
 (iH.J1 B)
open iH in
instance MX (B:Sl Int):Fc Sy cL (iH B):=Fc.M 131 [enc B] (cF 9 B (bA 3 7 ((Le.none _)) (qI 4 (b8 3 λz _=>lg 12 (λu=>(bU [Cv 0 B,Iv 3 u.1,Iv 4 u.2] [])) (λw=>(0,(bU [Iv 3 w] []))) (λu=>cF 6 B (bA 3 15 (b8 9 λA _=>aZ) aZ)) (λw=>aZ)))))
namespace iG
def cq (D:Sl Int) (B i4:Int):Option (Fw (Int×Int) Int Empty):=
 bl (decide (i4<(len D)))
 ((idx D i4).bind λu=>
 some (.n ((if u>B then u else B),IntKind.wrap .i64 (i4+1))))
 (some (.x B))
def W2 (B:Sl Int) (D i4:Int):Option Int:=
 (bX (λq:Int×Int=>cq B q.1 q.2) (D,i4)).bind (Fw.elim
 (λe=>some e)
 (λe=>Empty.elim e))
def J1 (B:Sl Int):Option Int:=
 (idx B 0).bind λu=>
 iG.W2 B u 1
end iG
def iG (B:Sl Int):Option Int:=
 bl (decide ((len B)<1))
 (none)
 (iG.J1 B)
open iG in
instance Mx (B:Sl Int):Fc Sy cL (iG B):=Fc.M 132 [enc B] (cF 9 B (bA 3 7 ((Le.none _)) (qI 4 (b8 3 λz _=>lg 12 (λu=>(bU [Cv 0 B,Iv 3 u.1,Iv 4 u.2] [])) (λw=>(0,(bU [Iv 3 w] []))) (λu=>cF 6 B (bA 3 15 (b8 9 λA _=>aZ) aZ)) (λw=>aZ)))))
def sR (B:Sl Int):Option bT:=
 (iH B).bind λu=>
 (iG B).bind λw=>
 some ⟨u,w⟩
instance Nz (B:Sl Int):Fc Sy cL (sR B):=Fc.M 89 [enc B] (bE 8 λu _=>bE 1 λw _=>aZ)
namespace dV
def bF (U:Int) (D:Sl Event) (G:Int) (J B:Int):Option (Fw (Int×Int) Int Empty):=
 bl (decide (B<G))
 ((idx D B).bind λu=>
 (bl (u.kind==2)
 (some (u.peer==U))
 (some false):Option Bool).bind λw=>
 bl w
 (some (.n (IntKind.wrap .i64 (J+1),IntKind.wrap .i64 (B+1))))
 (some (.n (J,IntKind.wrap .i64 (B+1)))))
 (some (.x J))
def W1 (J U:Int) (B:Sl Event) (D G:Int):Option Int:=
 (bX (λq:Int×Int=>bF J B D q.1 q.2) (U,G)).bind (Fw.elim
 (λe=>some e)
 (λe=>Empty.elim e))
end dV
def dV (B:Trace) (p1 D:Int):Option Int:=
 (idx B.procs p1).bind λu=>
 dV.W1 D 0 u.events (len u.events) 0
open dV in
instance Jw (B:Trace) (p1 D:Int):Fc Sy cL (dV B p1 D):=Fc.M 129 [enc B,.int .i64 p1,.int .i64 D] (cE 2 3 B (b8 14 λu _=>cF 2 u.events (lg 5 (λw=>(bU [Iv 2 D,Iv 7 w.1,Cv 15 u.events,Iv 16 (len u.events),Iv 17 w.2] [])) (λz=>(0,(bU [Iv 7 z] []))) (λw=>bA 7 18 (b8 7 λA _=>lT 2 9 0 A (bP 8 5 [9,24] 29 (bA 8 24 (bt 5) (bt 5)) λC=>bA 2 29 aZ aZ)) aZ) (λz=>aZ))))
def oZ (B:Var) (D:ByteArray):Option Bool:=
 some (ByteArray.toList B.name==ByteArray.toList D)
instance Jq (B:Var) (D:ByteArray):Fc Sy cL (oZ B D):=Fc.M 201 [enc B,.fptr (cells D)] (aZ)
def vW (D:bQ) (B:ByteArray):Option Int:=
 (eA D.vars (λz=>oZ z B)).bind λu=>
 some u
instance Ng (D:bQ) (B:ByteArray):Fc Sy cL (vW D B):=Fc.M 190 [enc D,.str B] (cE 2 2 D (ei (F:=lS 201 [.fptr (cells B)] (λz=>oZ z B) kA.qT D.vars) 9 λu _=>aZ))
def xA (D:Trace) (p1:Int) (B:ByteArray):Option (Int×Int):=
 (dN D).bind λw=>
 bl w
 ((bl (decide (p1<0))
 (some true)
 (some (decide (p1>=(len D.procs)))):Option Bool).bind λz=>
 bl z
 (some (0,2))
 ((idx D.procs p1).bind λA=>
 (vW A B).bind λu=>
 bl (decide (u<0))
 (some (0,13))
 (some (u,0))))
 (some (0,1))
instance Nw (D:Trace) (p1:Int) (B:ByteArray):Fc Sy cL (xA D p1 B):=Fc.M 163 [enc D,.int .i64 p1,.str B] (cE 2 3 D (bE 9 λu _=>dH 4 9 (bP 6 6 [16] 22 (bA 6 16 (bt 6) (cF 3 D.procs (bt 2))) λw=>bA 3 13 aZ (b8 9 λz _=>bE 2 λA _=>bA 10 31 aZ aZ)) aZ))
def fM (s0:Sl Int):Option (Sl Int):=
 (Sl.isNil s0).bind λu=>
 bl u
 (some Sl.nil)
 ((wN (Sl.row []:Sl Int) s0).bind λw=>
 some w)
theorem l_:Av Sy cL 168 (λs0:Sl Int=>[enc s0]) (λz=>fM z):=Av.mk' (oR (Tx 168)) (λs0=>Qj 9 λu _=>bA 2 4 aZ (Lc 7 5 7 λw _=>aZ))
def nH (B:bQ):Option bQ:=
 some B
instance Lm (B:bQ):Fc Sy cL (nH B):=Fc.NE (λr:bQ=>[(.clo 179 [] [.fptr (cells r)])]) 145 [enc B] (cE 2 1 B aZ)
namespace jT
def js (D:bQ) (G:Int) (x:Int×(Sl Int)) (B:Sl Int):Option (Fw (Sl Int) Empty Empty):=
 (idx x.2 G).bind λu=>
 (iU B (u:Int)).bind λw=>
 some (.n w)
def E1 (B:bQ) (G:Int) (D:Sl Int):Option (Sl Int):=
 (hG B).bind λu=>(jO (λ(x:Int×(Sl Int)) (q:Sl Int)=>js B G x q) u D).bind (Fw.pR
 (λq=>some q)
 (λe=>Empty.elim e)
 (λe=>Empty.elim e))
end jT
def jT (B:bQ) (i1:Int):Option (Sl Int):=
 (nH B).bind λu=>
 jT.E1 u i1 (Sl.nil:Sl Int)
open jT in
instance Ll (B:bQ) (i1:Int):Fc Sy cL (jT B i1):=Fc.N 164 [enc B,.int .i64 i1] (cE 2 2 B (bE 13 λz _=>Ct λC A=>zf 5 [Pv 3,Pv 5,(9,.v (.clo 179 [] [.fptr (cells z)]))] (λu=>[(3,.box [iv i1]),(5,.box [.own 4100]),Lb 4100 u]) (λw=>Empty.elim w) (λw=>Empty.elim w) (Dx z C A) (λD u=>vH 3 (b8 7 λG _=>wK 2 4100 17 18 λI _=>aZ)) (λu=>aZ) (λx=>Empty.elim x) (λx=>Empty.elim x)))
def vL (D:Trace) (p1:Int) (B:ByteArray):Option (Int×Int×Int):=
 (xA D p1 B).bind λu=>
 bl (u.2==0)
 ((idx D.procs p1).bind λz=>
 (jT z u.1).bind λw=>
 (iH w).bind λA=>
 (iG w).bind λC=>
 some (A,C,0))
 (some (0,0,u.2))
instance MU (D:Trace) (p1:Int) (B:ByteArray):Fc Sy cL (vL D p1 B):=Fc.M 130 [enc D,.int .i64 p1,.str B] (cE 2 3 D (bE 10 λu _=>dH 14 19 (b8 8 λw _=>bE 2 λz _=>bE 6 λA _=>bE 1 λC _=>aZ) aZ))
def mU (B:Trace) (p1:Pred):Option bT:=
 bl (p1.kind==1)
 ((sR (Sl.row [p1.n]:Sl Int)).bind λw=>
 some w)
 (bl (p1.kind==3)
 ((idx B.procs p1.proc).bind λz=>
 some ⟨0,len z.events⟩)
 (bl (p1.kind==4)
 ((dV B p1.proc p1.peer).bind λA=>
 some ⟨0,A⟩)
 ((vL B p1.proc p1.name).bind λu=>
 some ⟨u.1,u.2.1⟩)))
instance NP (B:Trace) (p1:Pred):Fc Sy cL (mU B p1):=Fc.M 87 [enc B,enc p1] (cE 2 2 B (cE 0 3 p1 (bA 17 10 (ei 6 λw _=>aZ) (bA 7 16 (b8 7 λu _=>cF 2 u.events aZ) (bA 7 27 (bE 8 λz _=>aZ) (bE 11 λA _=>aZ))))))
def jh (B:bT):Option Bool:=
 (bl (decide (B.low<(-1125899906842624)))
 (some true)
 (some (decide (B.high>1125899906842624))):Option Bool).bind λu=>
 some u
instance DJ (B:bT):Fc Sy cL (jh B):=Fc.M 88 [enc B] (bP 12 4 [1,6] 10 (bA 12 6 (bt 4) (bt 4)) λu=>aZ)
def uv (a0:Int):Option Int:=
 some (if(IntKind.wrap .i64 (0-a0))>a0 then(IntKind.wrap .i64 (0-a0))else a0)
instance Pr (a0:Int):Fc Sy cL (uv a0):=Fc.M 133 [.int .i64 a0] (aZ)
def kM (a0 B:Int):Option Int:=
 (bl (a0==0)
 (some true)
 (some (B==0)):Option Bool).bind λu=>
 bl u
 (some 0)
 ((uv a0).bind λw=>
 (uv B).bind λz=>
 (Cj .i64 1125899906842624 z).bind λA=>
 bl (decide (w>A))
 (bl ((decide (a0<0))==(decide (B<0)))
 (some 1125899906842625)
 (some (IntKind.wrap .i64 (0-1125899906842625))))
 (some (IntKind.wrap .i64 (a0*B))))
instance KF (a0 B:Int):Fc Sy cL (kM a0 B):=Fc.M 90 [.int .i64 a0,.int .i64 B] (bP 11 3 [8] 11 (bA 11 8 (bt 3) (bt 3)) λu=>bA 2 11 aZ (bE 15 λw _=>bE 1 λz _=>SH 0 λA _=>bA 3 20 (dH 15 25 aZ aZ) aZ))
namespace en
def J2 (D B:bT) (r:(Trace×Pred)->Option (bT×Bool)):Option (bT×Bool):=
 (jh B).bind λu=>
 some (B,(!u))
def J1 (W U:Bool) (J:Pred) (G B D:bT) (r:(Trace×Pred)->Option (bT×Bool)):Option (bT×Bool):=
 (bl W
 (some (!U))
 (some true):Option Bool).bind λA=>
 bl A
 (some (⟨0,0⟩,false))
 (bl (J.kind==5)
 (en.J2 G (⟨IntKind.wrap .i64 (0-B.high),IntKind.wrap .i64 (0-B.low)⟩:bT) r)
 (bl (J.kind==6)
 (en.J2 G (⟨IntKind.wrap .i64 (B.low+D.low),IntKind.wrap .i64 (B.high+D.high)⟩:bT) r)
 (bl (J.kind==7)
 (en.J2 G (⟨IntKind.wrap .i64 (B.low-D.high),IntKind.wrap .i64 (B.high-D.low)⟩:bT) r)
 ((kM B.low D.low).bind λC=>
 (kM B.low D.high).bind λI=>
 (kM B.high D.low).bind λu=>
 (kM B.high D.high).bind λw=>
 (sR (Sl.row [C,I,u,w]:Sl Int)).bind λz=>
 en.J2 G z r))))
theorem nJ (r:(Trace×Pred)->Option (bT×Bool)) (hr:iI Sy cL 57 (λz:Trace×Pred=>[enc z.1,enc z.2]) (λr:bT×Bool=>[enc r.1,.bool r.2]) r true) (D B:Bool) (G:Pred) (J U W:bT):Le ((J1 D B G J U W r).bind (λr=>some [enc r.1,.bool r.2])) (b_ Sy cL (n_ (tr Tx 57)) (qG (tb Tx 57) [1,1,1,1,1,0] [] (bU [Pv 3,Pv 4,Pv 7,Bv 8 D,Pv 9,Bv 10 B] [Xb 3 G,Xb 4 J,Xb 7 U,Xb 9 W]))):=
 bP 6 3 [10,48] 51 (dH 6 48 (bt 3) (bt 3)) λI=>bA 2 51 aZ (bA 22 77 (qI 14 (ei 4 λu _=>aZ)) (bA 7 86 (qI 18 (ei 4 λu _=>aZ)) (bA 7 99 (qI 18 (ei 4 λu _=>aZ)) (ei 6 λL _=>ei 4 λO _=>ei 4 λw _=>ei 4 λA _=>ei 1 λC _=>qI 5 (ei 4 λu _=>aZ)))))
end en
def i_ (B:Trace) (p1:Pred) (r:(Trace×Pred)->Option (bT×Bool)):Option (bT×Bool):=
 bl ((len p1.l)==0)
 ((mU B p1).bind λw=>
 (jh w).bind λA=>
 some (w,(!A)))
 ((idx p1.l 0).bind λC=>
 (r (B,C)).bind λu=>
 bl ((len p1.l)==2)
 ((idx p1.l 1).bind λD=>
 (r (B,D)).bind λz=>
 en.J1 u.2 z.2 p1 (⟨0,0⟩:bT) u.1 z.1 r)
 (en.J1 u.2 true p1 (⟨0,0⟩:bT) u.1 u.1 r))
open en in
theorem wZ (r:(Trace×Pred)->Option (bT×Bool)) (hr:iI Sy cL 57 (λz:Trace×Pred=>[enc z.1,enc z.2]) (λr:bT×Bool=>[enc r.1,.bool r.2]) r true) (B:Trace) (p1:Pred):Le ((i_ B p1 r).bind λr=>some [enc r.1,.bool r.2]) (iL cL 57 [enc B,enc p1]):=
 (Fc.M 57 [enc B,enc p1] (cE 2 2 B (cE 0 3 p1 (oW 9 13 (Pred.s8 p1.l) (cF 0 p1.l (bA 3 15 (bE 5 λD _=>ei 8 λG _=>aZ) (oW 8 26 (Pred.s8 p1.l) (b8 0 λA _=>ei (F:=Fc.of (B,A) hr) 1 λu _=>oW 21 34 (Pred.s8 p1.l) (cF 0 p1.l (bA 3 36 (oW 5 40 (Pred.s8 p1.l) (b8 0 λC _=>ei (F:=Fc.of (B,C) hr) 1 λw _=>vi 8 (nJ r hr u.2 w.2 p1 (⟨0,0⟩:bT) u.1 w.1))) (vi 4 (nJ r hr u.2 true p1 (⟨0,0⟩:bT) u.1 u.1))))))))))):Fc Sy cL (i_ B p1 r)).F.h ()
def en (B:Trace) (p1:Pred):Option (bT×Bool):=vB (λr (z:Trace×Pred)=>i_ z.1 z.2 r) 100000 (B,p1)
instance Lh (B:Trace) (p1:Pred):Fc Sy cL (en B p1):=Fc.of (B,p1) (iI.fix (A:=λz:Trace×Pred=>[enc z.1,enc z.2]) (E:=λr:bT×Bool=>[enc r.1,.bool r.2]) (sc:=true) (b:=(λr (z:Trace×Pred)=>i_ z.1 z.2 r)) (by kernel_rfl) (λ_ _=>rfl) (λr hr z=>wZ r hr z.1 z.2) 100000)
def oU (B:Pred) (D:Trace) (r:(Trace×Pred)->Option Bool):Option Bool:=
 (r (D,B)).bind λu=>
 some (!u)
abbrev xG (r:(Trace×Pred)->Option Bool) (hr:iI Sy cL 86 (λz:Trace×Pred=>[enc z.1,enc z.2]) (λr:Bool=>[.bool r]) r true) (B:Pred) (D:Trace):Fc Sy cL (oU B D r):=Fc.M 128 [enc B,.fptr (cells D)] (cE 2 2 B (bE (F:=Fc.of (D,B) hr) 7 λu _=>aZ))
def jr (D:Trace) (p1:Pred) (r:(Trace×Pred)->Option Bool):Option Bool:=
 (jL p1.kind).bind λw=>
 bl (w==1)
 ((en D p1).bind λA=>
 some A.2)
 ((yT p1.l (λx u=>((λz=>oU z D r) x).map λb=>(b,u)) ()).bind λB=>
 some (!B.1))
theorem xH (r:(Trace×Pred)->Option Bool) (hr:iI Sy cL 86 (λz:Trace×Pred=>[enc z.1,enc z.2]) (λr:Bool=>[.bool r]) r true) (B:Trace) (p1:Pred):Le ((jr B p1 r).bind λr=>some [.bool r]) (iL cL 86 [enc B,enc p1]):=
 (Fc.M 86 [enc B,enc p1] (cE 2 2 B (cE 0 3 p1 (bE 8 λu _=>bA 3 10 (bE 5 λw _=>aZ) (oW 7 19 (Pred.s8 p1.l) (we 2 (jX (wk.Qo (g:=128) (e:=[.fptr (cells B)]) (p:=(λz=>oU z B r)) (kA.qT (F:=λz=>xG r hr z B))) p1.l ()) λA _=>aZ))))):Fc Sy cL (jr B p1 r)).F.h ()
def oH (B:Trace) (p1:Pred):Option Bool:=vB (λr (z:Trace×Pred)=>jr z.1 z.2 r) 100000 (B,p1)
instance MQ (B:Trace) (p1:Pred):Fc Sy cL (oH B p1):=Fc.of (B,p1) (iI.fix (A:=λz:Trace×Pred=>[enc z.1,enc z.2]) (E:=λr:Bool=>[.bool r]) (sc:=true) (b:=(λr (z:Trace×Pred)=>jr z.1 z.2 r)) (by kernel_rfl) (λ_ _=>rfl) (λr hr z=>xH r hr z.1 z.2) 100000)
def oK (B:Trace) (p1:Pred):Option Int:=
 (dN B).bind λu=>
 (bl u
 ((jR p1).bind λw=>
 some (!w))
 (some true):Option Bool).bind λz=>
 bl z
 (some 1)
 ((o7 B p1).bind λA=>
 bl A
 ((mb p1).bind λC=>
 bl C
 ((oH B p1).bind λD=>
 bl D
 (some 0)
 (some 9))
 (some 14))
 (some 13))
instance Ma (B:Trace) (p1:Pred):Fc Sy cL (oK B p1):=Fc.M 55 [enc B,enc p1] (cE 2 2 B (cE 0 3 p1 (bE 8 λu _=>bP 2 4 [9] 13 (dH 2 9 (bE 1 λw _=>bt 2) (bt 4)) λz=>bA 3 5 aZ (bE 5 λA _=>dH 4 14 (bE 4 λC _=>dH 4 19 (bE 5 λD _=>dH 4 23 aZ aZ) aZ) aZ))))
def iQ (B:Sl Int) (D:Trace):Option Bool:=
 some (!((len B)==(len D.procs)))
instance Po (B:Sl Int) (D:Trace):Fc Sy cL (iQ B D):=Fc.M 195 [enc B,.fptr (cells D)] (cF 8 B (cF 2 D.procs aZ))
namespace fu
def bF (s0:Sl (Sl Int)) (D:Int) (B:Int) (p1:(Sl Int)->Option Bool):Option (Fw Int Unit Int):=
 bl (decide (B<D))
 ((idx s0 B).bind λu=>
 (p1 u).bind λw=>
 bl w
 (some (.r B))
 (some (.n (IntKind.wrap .i64 (B+1)))))
 (some (.x ()))
def W1 (s0:Sl (Sl Int)) (B D:Int) (p1:(Sl Int)->Option Bool):Option Int:=
 (bX (λq:Int=>bF s0 B q p1) D).bind (Fw.elim
 (λe=>some (-1))
 (λe=>some e))
end fu
def fu (s0:Sl (Sl Int)) (p1:(Sl Int)->Option Bool):Option Int:=
 fu.W1 s0 (len s0) 0 p1
open fu in
abbrev uH (g1:FuncId) (e1:List V) (p1:(Sl Int)->Option Bool) (h1:kA Sy cL g1 [] e1 (λz:Sl Int=>[enc z]) (λr:Bool=>[.bool r]) p1 true) (s0:Sl (Sl Int)):Fc Sy cL (fu s0 p1):=Fc.M 213 [enc s0,.clo g1 [] e1] (cF 9 s0 (eu 5 (λw=>(bU [Cv 0 s0,(1,.v (.clo g1 [] e1)),Iv 7 (len s0),Iv 8 w] [])) (λu=>(0,(bU [] []))) (λu=>(bU [Iv 4 u] [])) (λw=>bA 7 9 (b8 16 λA _=>wF 1 h1.f A λB _=>bA 2 16 aZ aZ) aZ) (λu=>aZ) (λu=>aZ)))
def iN (s0:Sl (Sl Int)) (p1:(Sl Int)->Option Bool):Option Bool:=
 (fu s0 p1).bind λu=>
 some (decide (u>=0))
abbrev sV (g1:FuncId) (e1:List V) (p1:(Sl Int)->Option Bool) (h1:kA Sy cL g1 [] e1 (λz:Sl Int=>[enc z]) (λr:Bool=>[.bool r]) p1 true) (s0:Sl (Sl Int)):Fc Sy cL (iN s0 p1):=Fc.M 194 [enc s0,.clo g1 [] e1] (bE (F:=uH g1 e1 p1 h1 s0) 9 λu _=>aZ)
def uJ (B:Trace) (D:Sl (Sl Int)):Option Bool:=
 (dN B).bind λu=>
 (bl u
 ((iN D (λz=>iQ z B)).bind λw=>
 some (!w))
 (some false):Option Bool).bind λA=>
 some A
instance Rh (B:Trace) (D:Sl (Sl Int)):Fc Sy cL (uJ B D):=Fc.M 175 [enc B,enc D] (cE 2 2 B (bE 6 λu _=>bP 1 5 [1,2,7] 12 (bA 1 7 (ei (F:=sV 195 [.fptr (cells B)] (λz=>iQ z B) kA.qT D) 2 λw _=>bt 2) (bt 5)) λA=>aZ))
namespace iK
def bF (G:Sl Int) (J:Int) (D:Trace) (B:Int):Option (Fw Int Unit Unit):=
 bl (decide (B<J))
 ((idx G B).bind λu=>
 (bl (decide (u<0))
 (some true)
 ((idx D.procs B).bind λw=>
 some (decide (u>(len w.events)))):Option Bool).bind λz=>
 bl z
 (some (.r ()))
 (some (.n (IntKind.wrap .i64 (B+1)))))
 (some (.x ()))
def W1 (D:Sl Int) (G J:Int) (B:Trace):Option Bool:=
 (bX (λq:Int=>bF D G B q) J).bind (Fw.elim
 (λe=>some true)
 (λe=>some false))
end iK
def iK (D:Trace) (B:Sl Int):Option Bool:=
 iK.W1 B (len B) 0 D
open iK in
instance PY (D:Trace) (B:Sl Int):Fc Sy cL (iK D B):=Fc.M 176 [enc D,enc B] (cE 2 2 D (cF 7 B (eu 5 (λw=>(bU [Pv 2,Cv 7 B,Iv 8 (len B),Iv 9 w] [Xb 2 D])) (λu=>(0,(bU [] []))) (λu=>(bU [Bv 4 false] [])) (λw=>bA 7 10 (b8 8 λA _=>bP 10 10 [5,6,16] 26 (bA 10 16 (bt 10) (b8 4 λz _=>cF 2 z.events (bt 2))) λC=>bA 2 26 aZ aZ) aZ) (λu=>aZ) (λu=>aZ))))
def rL (B:Trace) (p1:Int):Option Bool:=
 (bl (decide (p1>=0))
 (some (decide (p1<(len B.procs))))
 (some false):Option Bool).bind λu=>
 some u
instance P0 (B:Trace) (p1:Int):Fc Sy cL (rL B p1):=Fc.M 177 [enc B,.int .i64 p1] (cE 2 2 B (bP 8 6 [1,2,7] 13 (bA 8 7 (cF 3 B.procs (bt 2)) (bt 6)) λu=>aZ))
namespace gi
def js (D:Trace) (B G:Int) (J:aY) (U:Bool) (x:aY×Event):Option (Fw Unit Empty aY):=
 (bl (x.2.kind==B)
 (some (x.2.message==G))
 (some false):Option Bool).bind λu=>
 bl u
 (some (.r x.1))
 (some (.n ()))
def E1 (B:Trace) (D G:Int) (J:aY) (U:Bool):Option (aY×Bool):=
 (h_ B).bind λu=>(jO (λ(x:aY×Event) (q:Unit)=>js B D G J U x) u ()).bind (Fw.pR
 (λq=>some (⟨0,0⟩,false))
 (λe=>Empty.elim e)
 (λe=>some (e,true)))
end gi
def gi (D:Trace) (B G:Int):Option (aY×Bool):=
 (dN D).bind λu=>
 bl u
 ((gZ D).bind λw=>
 gi.E1 w B G (⟨0,0⟩:aY) false)
 (some (⟨0,0⟩,false))
open gi in
instance QA (G:Trace) (B D:Int):Fc Sy cL (gi G B D):=Fc.M 180 [enc G,.int .i64 B,.int .i64 D] (cE 2 3 G (bE 10 λJ _=>dH 3 12 (bE 7 λw _=>Ct λC z=>zf 4 [Pv 4,Pv 5,Pv 6,Pv 7,(15,.v (.clo 184 [] [.fptr (cells w)]))] (λA=>[(4,.box [iv B]),(5,.box [iv D]),Xb 6 (⟨0,0⟩:aY),(7,.box [bv false])]) (λu=>Empty.elim u) (λu=>[(4,.box [iv B]),(5,.box [iv D]),Xb 6 u,(7,.box [bv true])]) (wQ w C z) (λI A=>lT 8 9 0 I.2 (vH 1 (bP 9 5 [9,22] 27 (bA 9 22 (bt 5) (bt 5)) λL=>bA 2 27 aZ aZ))) (λA=>aZ) (λx=>Empty.elim x) (λu=>aZ)) aZ))
def qA (B:Trace) (m1:Int):Option (aY×Bool):=
 (gi B 2 m1).bind λu=>
 some (u.1,u.2)
instance Pd (B:Trace) (m1:Int):Fc Sy cL (qA B m1):=Fc.M 166 [enc B,.int .i64 m1] (cE 2 2 B (bE 8 λu _=>aZ))
namespace fT
def cq (Y:Sl Int) (p7:Int) (aa:Sl Int) (ab ad:Int) (J:Sl Event) (U:Int) (W:Trace) (G D:aY) (B:Int):Option (Fw Int Unit (aY×aY)):=
 bl (decide (B<U))
 ((idx J B).bind λw=>
 bl (w.kind==3)
 ((qA W w.message).bind λu=>
 (idx Y u.1.proc).bind λz=>
 bl (decide (u.1.index>z))
 (some (.r (u.1,(⟨p7,IntKind.wrap .i64 (B+1)⟩:aY))))
 (some (.n (IntKind.wrap .i64 (B+1)))))
 (some (.n (IntKind.wrap .i64 (B+1)))))
 (some (.x ()))
def W2 (c1:Sl Int) (p7:Int) (J:Sl Int) (U G:Int) (W:Sl Event) (Y aa:Int) (ab:Trace) (D B:aY):Option (Fw Int Unit (aY×aY)):=
 (bX (λq:Int=>cq c1 p7 J U G W Y ab D B q) aa).bind (Fw.elim
 (λe=>some (.n (IntKind.wrap .i64 (G+1))))
 (λe=>some (.r (e.1,e.2))))
def bF (Y J:Sl Int) (U:Int) (W:Trace) (G B:aY) (D:Int):Option (Fw Int Unit (aY×aY)):=
 bl (decide (D<U))
 ((idx J D).bind λw=>
 (idx W.procs D).bind λz=>
 (ij z.events none (some w)).bind λu=>
 W2 Y D J U D u (len u) 0 W G B)
 (some (.x ()))
def W1 (Y G:Sl Int) (J U:Int) (W:Trace) (D B:aY):Option (aY×aY×Bool):=
 (bX (λq:Int=>bF Y G J W D B q) U).bind (Fw.elim
 (λe=>some (⟨0,0⟩,⟨0,0⟩,false))
 (λe=>some (e.1,e.2,true)))
end fT
def fT (D:Trace) (B:Sl Int):Option (aY×aY×Bool):=
 fT.W1 B B (len B) 0 D (⟨0,0⟩:aY) (⟨0,0⟩:aY)
open fT in
instance PO (D:Trace) (B:Sl Int):Fc Sy cL (fT D B):=Fc.M 196 [enc D,enc B] (cE 2 2 D (cF 9 B (eu 5 (λu=>(bU [Cv 1 B,Pv 2,Pv 4,Pv 5,Cv 13 B,Iv 14 (len B),Iv 15 u] [Xb 2 D,Xb 4 (⟨0,0⟩:aY),Xb 5 (⟨0,0⟩:aY)])) (λw=>(0,(bU [Pv 4,Pv 5] [Xb 4 (⟨0,0⟩:aY),Xb 5 (⟨0,0⟩:aY)]))) (λw=>(bU [Pv 4,Pv 5,Bv 6 true] [Xb 4 w.1,Xb 5 w.2])) (λu=>bA 7 16 (b8 8 λG _=>b8 10 λJ _=>Aj 3 false true [.int .i64 G] λA _=>cF 0 A (eu 5 (λC=>(bU [Cv 1 B,Pv 2,Pv 4,Pv 5,Iv 7 u,Cv 13 B,Iv 14 (len B),Iv 15 u,Cv 27 A,Iv 28 (len A),Iv 29 C] [Xb 2 D,Xb 4 (⟨0,0⟩:aY),Xb 5 (⟨0,0⟩:aY)])) (λz=>(2,(bU [Cv 1 B,Pv 2,Pv 4,Pv 5,Cv 13 B,Iv 14 (len B),Iv 15 u] [Xb 2 D,Xb 4 (⟨0,0⟩:aY),Xb 5 (⟨0,0⟩:aY)]))) (λz=>(bU [Pv 4,Pv 5,Bv 6 true] [Xb 4 z.1,Xb 5 z.2])) (λC=>bA 7 30 (b8 8 λI _=>lT 3 10 0 I (dH 10 36 (bE 8 λL _=>b8 15 λO _=>bA 4 51 aZ aZ) aZ)) aZ) (λz=>aZ) (λz=>aZ))) aZ) (λw=>aZ) (λw=>aZ))))
def tf (B:Trace) (D:Sl Int):Option Bool:=
 (fT B D).bind λu=>
 some (!u.2.2)
instance QO (B:Trace) (D:Sl Int):Fc Sy cL (tf B D):=Fc.M 178 [enc B,enc D] (cE 2 2 B (bE 7 λu _=>aZ))
namespace cW
def dZ (D:Sl (Sl Int)) (G:Int) (J:Trace) (B:Int):Option (Fw Int Unit Unit):=
 bl (decide (B<G))
 ((idx D B).bind λu=>
 (tf J u).bind λw=>
 bl w
 (some (.n (IntKind.wrap .i64 (B+1))))
 (some (.r ())))
 (some (.x ()))
def W3 (B:Sl (Sl Int)) (D G:Int) (J:Trace):Option Int:=
 (bX (λq:Int=>dZ B D J q) G).bind (Fw.elim
 (λe=>some 0)
 (λe=>some 18))
def cq (U:Sl (Sl Int)) (D:Sl Int) (G:Int) (J:Trace) (B:Int):Option (Fw Int Unit Unit):=
 bl (decide (B<G))
 ((idx D B).bind λu=>
 (rL J u).bind λw=>
 bl w
 (some (.n (IntKind.wrap .i64 (B+1))))
 (some (.r ())))
 (some (.x ()))
def W2 (D:Sl (Sl Int)) (G:Sl Int) (J U:Int) (B:Trace):Option Int:=
 (bX (λq:Int=>cq D G J B q) U).bind (Fw.elim
 (λe=>cW.W3 D (len D) 0 B)
 (λe=>some 2))
def bF (W:Sl (Sl Int)) (D:Sl Int) (G:Sl (Sl Int)) (J:Int) (U:Trace) (B:Int):Option (Fw Int Unit Unit):=
 bl (decide (B<J))
 ((idx G B).bind λu=>
 (iK U u).bind λw=>
 bl w
 (some (.n (IntKind.wrap .i64 (B+1))))
 (some (.r ())))
 (some (.x ()))
def W1 (W:Sl (Sl Int)) (B:Sl Int) (G:Sl (Sl Int)) (J U:Int) (D:Trace):Option Int:=
 (bX (λq:Int=>bF W B G J D q) U).bind (Fw.elim
 (λe=>cW.W2 W B (len B) 0 D)
 (λe=>some 2))
end cW
def cW (G:Trace) (D:Sl (Sl Int)) (B:Sl Int):Option Int:=
 (uJ G D).bind λu=>
 bl u
 (cW.W1 D B D (len D) 0 G)
 (some 1)
open cW in
instance Rk (G:Trace) (D:Sl (Sl Int)) (B:Sl Int):Fc Sy cL (cW G D B):=Fc.M 144 [enc G,enc D,enc B] (cE 2 3 G (bE 8 λJ _=>dH 3 16 (cF 7 D (eu 5 (λA=>(bU [Cv 1 D,Cv 2 B,Pv 3,Cv 17 D,Iv 18 (len D),Iv 19 A] [Xb 3 G])) (λu=>(0,(bU [Cv 1 D,Cv 2 B,Pv 3] [Xb 3 G]))) (λu=>(bU [Iv 6 2] [])) (λA=>bA 7 20 (b8 7 λL _=>bE 8 λO _=>dH 3 26 aZ aZ) aZ) (λu=>cF 6 B (eu 5 (λC=>(bU [Cv 1 D,Pv 3,Cv 28 B,Iv 29 (len B),Iv 30 C] [Xb 3 G])) (λw=>(2,(bU [Cv 1 D,Pv 3] [Xb 3 G]))) (λw=>(bU [Iv 6 2] [])) (λC=>bA 7 31 (b8 7 λQ _=>bE 8 λS _=>dH 3 37 aZ aZ) aZ) (λw=>cF 6 D (eu 5 (λI=>(bU [Pv 3,Cv 39 D,Iv 40 (len D),Iv 41 I] [Xb 3 G])) (λz=>(4,(bU [] []))) (λz=>(bU [Iv 6 18] [])) (λI=>bA 7 42 (b8 7 λT _=>bE 8 λU _=>dH 3 48 aZ aZ) aZ) (λz=>aZ) (λz=>aZ))) (λw=>aZ))) (λu=>aZ))) aZ))
namespace gY
def bF (G:Sl Int) (J:Int) (B:Sl aY) (D:Int):Option (Fw ((Sl aY)×Int) (Sl aY) Empty):=
 bl (decide (D<J))
 ((idx G D).bind λu=>
 bl (decide (u>0))
 ((iU B (⟨D,u⟩:aY)).bind λw=>
 some (.n (w,IntKind.wrap .i64 (D+1))))
 (some (.n (B,IntKind.wrap .i64 (D+1)))))
 (some (.x B))
def W1 (B:Sl aY) (D:Sl Int) (G J:Int):Option ((Sl aY)×Int):=
 (bX (λq:(Sl aY)×Int=>bF D G q.1 q.2) (B,J)).bind (Fw.elim
 (λe=>some (e,0))
 (λe=>Empty.elim e))
end gY
def gY (D:Trace) (B:Sl Int):Option ((Sl aY)×Int):=
 (cW D (Sl.row [B]:Sl (Sl Int)) (Sl.nil:Sl Int)).bind λu=>
 bl (u==0)
 (gY.W1 (Sl.nil:Sl aY) B (len B) 0)
 (some (Sl.nil,u))
open gY in
instance OK (D:Trace) (B:Sl Int):Fc Sy cL (gY D B):=Fc.N 100 [enc D,enc B] (cE 2 2 D (Ql 9 12 ([B]:List (Sl Int)) (ei 0 λz _=>dH 9 15 (cF 12 B (lg 6 (λu=>(bU [Ov 7,Cv 17 B,Iv 18 (len B),Iv 19 u.2] [Lb 2007 u.1])) (λw=>(0,(bU [Ov 7] [Lb 2007 w]))) (λu=>bA 8 20 (b8 8 λA _=>bA 11 25 (wK 7 2007 30 31 λC _=>aZ) aZ) aZ) (λw=>aZ))) aZ)))
namespace eM
def js (B:bQ) (D:Int) (x:Int×(Sl Int)) (G:Sl Int):Option (Fw (Sl Int) Empty (Sl Int)):=
 bl (x.1==D)
 (some (.r x.2))
 (some (.n (Sl.nil:Sl Int)))
def E1 (B:bQ) (D:Int) (G:Sl Int):Option (Sl Int):=
 (hG B).bind λu=>(jO (λ(x:Int×(Sl Int)) (q:Sl Int)=>js B D x q) u G).bind (Fw.pR
 (λq=>some Sl.nil)
 (λe=>Empty.elim e)
 (λe=>some e))
end eM
def eM (B:bQ) (k1:Int):Option (Sl Int):=
 (nH B).bind λu=>
 eM.E1 u k1 (Sl.nil:Sl Int)
open eM in
instance MS (B:bQ) (k1:Int):Fc Sy cL (eM B k1):=Fc.N 101 [enc B,.int .i64 k1] (cE 2 2 B (bE 8 λw _=>Ct λC z=>zf 4 [Pv 3,Pv 4,(8,.v (.clo 179 [] [.fptr (cells w)]))] (λA=>[(3,.box [iv k1]),(4,.box [.v .bL])]) (λu=>Empty.elim u) (λu=>[(3,.box [iv k1]),(4,.box [cv u])]) (Dx w C z) (λD A=>vH 8 (bA 9 13 (lT 4 4 0 D.2 aZ) aZ)) (λA=>aZ) (λx=>Empty.elim x) (λu=>aZ)))
namespace gz
def bF (G:Sl Int) (J:Int) (U:Trace) (D:Sl (Sl Int)) (B:Int):Option (Fw ((Sl (Sl Int))×Int) (Sl (Sl Int)) Empty):=
 bl (decide (B<J))
 ((idx G B).bind λu=>
 (idx U.procs B).bind λw=>
 (eM w u).bind λz=>
 (iU D (z:Sl Int)).bind λA=>
 some (.n (A,IntKind.wrap .i64 (B+1))))
 (some (.x D))
def W1 (B:Sl (Sl Int)) (D:Sl Int) (G J:Int) (U:Trace):Option ((Sl (Sl Int))×Int):=
 (bX (λq:(Sl (Sl Int))×Int=>bF D G U q.1 q.2) (B,J)).bind (Fw.elim
 (λe=>some (e,0))
 (λe=>Empty.elim e))
end gz
def gz (D:Trace) (B:Sl Int):Option ((Sl (Sl Int))×Int):=
 (gY D B).bind λu=>
 bl (u.2==0)
 (gz.W1 (Sl.nil:Sl (Sl Int)) B (len B) 0 D)
 (some (Sl.nil,u.2))
open gz in
instance PT (D:Trace) (B:Sl Int):Fc Sy cL (gz D B):=Fc.N 68 [enc D,enc B] (cE 2 2 D (bE 9 λA _=>dH 13 18 (cF 12 B (lg 6 (λu=>(bU [Pv 2,Ov 8,Cv 20 B,Iv 21 (len B),Iv 22 u.2] [Xb 2 D,Lb 2008 u.1])) (λw=>(0,(bU [Ov 8] [Lb 2008 w]))) (λu=>bA 8 23 (b8 8 λC _=>b8 10 λG _=>bE 2 λz _=>Ql 0 35 ([z]:List (Sl Int)) (wK 0 2008 35 36 λI _=>aZ)) aZ) (λw=>aZ))) aZ))
def sW (B:Pred):Option (Int×Int):=
 (jR B).bind λu=>
 bl u
 ((mb B).bind λw=>
 bl w
 ((jL B.kind).bind λz=>
 some (z,0))
 (some (0,14)))
 (some (0,1))
instance NY (B:Pred):Fc Sy cL (sW B):=Fc.M 102 [enc B] (cE 2 1 B (bE 9 λu _=>dH 4 4 (bE 4 λw _=>dH 4 8 (bE 8 λz _=>aZ) aZ) aZ))
def oA (D:Pred) (B:Int):Option Int:=
 (sW D).bind λu=>
 (bl (u.2==0)
 (some (!(u.1==B)))
 (some true):Option Bool).bind λw=>
 bl w
 (some 14)
 (some 0)
instance Mr (D:Pred) (B:Int):Fc Sy cL (oA D B):=Fc.M 69 [enc D,.int .i64 B] (cE 2 2 D (bE 7 λu _=>bP 12 4 [1,5,14] 18 (dH 12 14 (bt 4) (bt 4)) λw=>bA 2 18 aZ aZ))
def oV (B:Int):Option Bool:=
 (bl (decide (B>=18))
 (some (decide (B<=21)))
 (some false):Option Bool).bind λu=>
 some u
instance Jr (B:Int):Fc Sy cL (oV B):=Fc.M 105 [.int .i64 B] (bP 10 3 [0,5] 8 (bA 10 5 (bt 3) (bt 3)) λu=>aZ)
def j_ (B:Pred):Option Bool:=
 (oV B.kind).bind λu=>
 some (!u)
instance GB (B:Pred):Fc Sy cL (j_ B):=Fc.M 104 [enc B] (cE 2 1 B (bE 7 λu _=>aZ))
def lX (B:Pred):Option Bool:=
 (jR B).bind λu=>
 (bl u
 ((k8 B (λz=>j_ z)).bind λw=>
 some (!w))
 (some false):Option Bool).bind λA=>
 some A
instance Jx (B:Pred):Fc Sy cL (lX B):=Fc.M 70 [enc B] (cE 2 1 B (bE 6 λu _=>bP 1 4 [1,5] 9 (bA 1 5 (bE (F:=qC 104 [] (λz=>j_ z) kA.qT B) 1 λw _=>bt 2) (bt 4)) λA=>aZ))
namespace gy
def J2 (J:Sl Int) (B:Int) (D:Sl (Sl Int)) (G:Trace) (U:bY):Option (bY×Int):=
 some (⟨G,J,D⟩,B)
def J1 (U:Sl Int) (B G:Int) (D:Trace) (J:Pred) (W:bY):Option (bY×Int):=
 bl (G==0)
 ((gz D U).bind λu=>
 bl (u.2==0)
 ((oA J B).bind λw=>
 (bl (w==0)
 ((lX J).bind λz=>
 some z)
 (some false):Option Bool).bind λA=>
 bl A
 (gy.J2 U 15 u.1 D (⟨⟨Sl.nil⟩,Sl.nil,Sl.nil⟩:bY))
 (gy.J2 U w u.1 D (⟨⟨Sl.nil⟩,Sl.nil,Sl.nil⟩:bY)))
 (some (⟨⟨Sl.nil⟩,Sl.nil,Sl.nil⟩,u.2)))
 (some (⟨⟨Sl.nil⟩,Sl.nil,Sl.nil⟩,G))
theorem nJ (G:Sl Int) (D J:Int) (B:Trace) (U:Pred) (W:bY):Le ((J1 G D J B U W).bind (λr=>some [enc r.1,.int .i64 r.2])) (b_ Sy cL (n_ (tr Tx 45)) (qG (tb Tx 45) [1,1,1,0] [] (bU [Cv 1 G,Iv 3 D,Pv 4,Pv 6,Pv 8,Iv 10 J] [Xb 4 B,Xb 6 U,Xb 8 (⟨⟨Sl.nil⟩,Sl.nil,Sl.nil⟩:bY)]))):=
 dH 7 26 (bE 7 λu _=>dH 14 36 (bE 8 λw _=>bP 8 3 [6,44] 47 (bA 8 44 (bE 1 λz _=>bt 1) (bt 3)) λA=>bA 2 47 (qI 6 (Cx 5 (⟨B,G,u.1⟩:bY) [enc B,enc G,enc u.1] [.bL,.bL,.bL] [(0,1),(1,1),(2,1)] (by simp only[oN,ql,gQ,vS,tT,vN,vZ];rfl) rfl (lT 1 8 0 (⟨B,G,u.1⟩:bY) aZ))) (qI 4 (Cx 5 (⟨B,G,u.1⟩:bY) [enc B,enc G,enc u.1] [.bL,.bL,.bL] [(0,1),(1,1),(2,1)] (by simp only[oN,ql,gQ,vS,tT,vN,vZ];rfl) rfl (lT 1 8 0 (⟨B,G,u.1⟩:bY) aZ)))) (Cx 3 (⟨⟨Sl.nil⟩,Sl.nil,Sl.nil⟩:bY) [] [.bL,.bL,.bL] [] (by simp only[oN,ql,gQ,vS,tT,vN,vZ];rfl) rfl (lT 1 8 0 (⟨⟨Sl.nil⟩,Sl.nil,Sl.nil⟩:bY) aZ))) (Cx 3 (⟨⟨Sl.nil⟩,Sl.nil,Sl.nil⟩:bY) [] [.bL,.bL,.bL] [] (by simp only[oN,ql,gQ,vS,tT,vN,vZ];rfl) rfl (lT 1 8 0 (⟨⟨Sl.nil⟩,Sl.nil,Sl.nil⟩:bY) aZ))
end gy
def gy (D:Trace) (G:Sl Int) (p2:Pred) (B:Int):Option (bY×Int):=
 (oK D p2).bind λu=>
 (bl (u==1)
 (some false)
 (some (!((len G)==(len D.procs)))):Option Bool).bind λw=>
 bl w
 (gy.J1 G B 1 D p2 (⟨⟨Sl.nil⟩,Sl.nil,Sl.nil⟩:bY))
 (gy.J1 G B u D p2 (⟨⟨Sl.nil⟩,Sl.nil,Sl.nil⟩:bY))
open gy in
instance PR (D:Trace) (G:Sl Int) (p2:Pred) (B:Int):Fc Sy cL (gy D G p2 B):=Fc.N 45 [enc D,enc G,enc p2,.int .i64 B] (cE 2 4 D (cE 0 6 p2 (bE 8 λu _=>bP 9 7 [17] 24 (dH 9 17 (bt 7) (cF 1 G (cF 2 D.procs (bt 2)))) λw=>bA 2 24 (vi 6 (nJ G B 1 D p2 (⟨⟨Sl.nil⟩,Sl.nil,Sl.nil⟩:bY))) (vi 4 (nJ G B u D p2 (⟨⟨Sl.nil⟩,Sl.nil,Sl.nil⟩:bY))))))
def ko (B:Var) (D:Pred):Option Bool:=
 some (ByteArray.toList B.name==ByteArray.toList D.name)
instance C9 (B:Var) (D:Pred):Fc Sy cL (ko B D):=Fc.M 107 [enc B,.fptr (cells D)] (aZ)
def pq (D:bY) (p1:Pred):Option Int:=
 (idx D.t.procs p1.proc).bind λu=>
 (eA u.vars (λz=>ko z p1)).bind λw=>
 (idx D.values p1.proc).bind λA=>
 (idx A w).bind λB=>
 some B
instance FT (B:bY) (p1:Pred):Fc Sy cL (pq B p1):=Fc.M 71 [enc B,enc p1] (cE 2 2 B (cE 0 3 p1 (b8 10 λu _=>ei (F:=lS 107 [.fptr (cells p1)] (λz=>ko z p1) kA.qT u.vars) 3 λw _=>b8 9 λA _=>b8 2 λC _=>aZ)))
def qZ (B:Trace) (m1:Int):Option (aY×Bool):=
 (gi B 3 m1).bind λu=>
 some (u.1,u.2)
instance MC (B:Trace) (m1:Int):Fc Sy cL (qZ B m1):=Fc.M 147 [enc B,.int .i64 m1] (cE 2 2 B (bE 8 λu _=>aZ))
namespace fS
def bF (W:Sl Int) (Y:Int) (J:Sl Event) (U:Trace) (B:Sl Int) (G D:Int):Option (Fw ((Sl Int)×Int×Int) (Sl Int) Empty):=
 bl (decide (D<G))
 ((idx J D).bind λu=>
 (bl (u.kind==2)
 (some (!(u.peer==Y)))
 (some true):Option Bool).bind λA=>
 bl A
 (some (.n (B,G,IntKind.wrap .i64 (D+1))))
 ((qZ U u.message).bind λw=>
 (bl w.2
 ((idx W w.1.proc).bind λC=>
 some (decide (w.1.index>C)))
 (some true):Option Bool).bind λI=>
 bl I
 ((iU B (u.message:Int)).bind λz=>
 some (.n (z,G,IntKind.wrap .i64 (D+1))))
 (some (.n (B,G,IntKind.wrap .i64 (D+1))))))
 (some (.x B))
def W1 (W:Sl Int) (Y:Int) (B:Sl Int) (D:Sl Event) (G J:Int) (U:Trace):Option ((Sl Int)×Int):=
 (bX (λq:(Sl Int)×Int×Int=>bF W Y D U q.1 q.2.1 q.2.2) (B,G,J)).bind (Fw.elim
 (λe=>some (e,0))
 (λe=>Empty.elim e))
end fS
def fS (B:Trace) (D:Sl Int) (p2 G:Int):Option ((Sl Int)×Int):=
 (cW B (Sl.row [D]:Sl (Sl Int)) (Sl.row [p2,G]:Sl Int)).bind λu=>
 bl (u==0)
 ((idx B.procs p2).bind λz=>
 (idx D p2).bind λA=>
 (ij z.events none (some A)).bind λw=>
 fS.W1 D G (Sl.nil:Sl Int) w (len w) 0 B)
 (some (Sl.nil,u))
open fS in
instance Pt (B:Trace) (D:Sl Int) (p2 G:Int):Fc Sy cL (fS B D p2 G):=Fc.N 108 [enc B,enc D,.int .i64 p2,.int .i64 G] (cE 2 4 B (Ql 9 18 ([D]:List (Sl Int)) (ei 3 λJ _=>dH 9 24 (b8 14 λL _=>b8 4 λA _=>Aj 1 false true [.int .i64 A] λw _=>cF 0 w (lg 6 (λu=>(bU [Cv 1 D,Iv 3 G,Pv 4,Ov 11,Cv 36 w,Iv 37 u.2.1,Iv 38 u.2.2] [Xb 4 B,Lb 2011 u.1])) (λz=>(0,(bU [Ov 11] [Lb 2011 z]))) (λu=>bA 8 39 (b8 7 λC _=>lT 2 13 0 C (bP 9 5 [45] 50 (dH 9 45 (bt 5) (bt 5)) λO=>bA 2 50 aZ (bE 8 λQ _=>bP 13 9 [14,60] 69 (dH 13 60 (b8 5 λS _=>bt 3) (bt 9)) λT=>bA 2 69 (wK 6 2011 73 74 λI _=>aZ) aZ))) aZ) (λz=>aZ))) aZ)))
def jJ (B:bY) (p1:Pred):Option Int:=
 (fS B.t B.counts p1.proc p1.peer).bind λu=>
 some (len u.1)
instance Gd (B:bY) (p1:Pred):Fc Sy cL (jJ B p1):=Fc.M 72 [enc B,enc p1] (cE 2 2 B (cE 0 3 p1 (bE 13 λu _=>cF 10 u.1 aZ)))
def gX (B:bY) (p1:Pred) (r:(bY×Pred)->Option Int):Option Int:=
 bl (p1.kind==1)
 (some p1.n)
 (bl (p1.kind==2)
 ((pq B p1).bind λJ=>
 some J)
 (bl (p1.kind==3)
 ((idx B.counts p1.proc).bind λL=>
 some L)
 (bl (p1.kind==4)
 ((jJ B p1).bind λO=>
 some O)
 (bl (p1.kind==5)
 ((idx p1.l 0).bind λQ=>
 (r (B,Q)).bind λS=>
 some (IntKind.wrap .i64 (0-S)))
 (bl (p1.kind==6)
 ((idx p1.l 0).bind λT=>
 (r (B,T)).bind λU=>
 (idx p1.l 1).bind λW=>
 (r (B,W)).bind λX=>
 some (IntKind.wrap .i64 (U+X)))
 (bl (p1.kind==7)
 ((idx p1.l 0).bind λu=>
 (r (B,u)).bind λw=>
 (idx p1.l 1).bind λz=>
 (r (B,z)).bind λA=>
 some (IntKind.wrap .i64 (w-A)))
 ((idx p1.l 0).bind λC=>
 (r (B,C)).bind λD=>
 (idx p1.l 1).bind λG=>
 (r (B,G)).bind λI=>
 some (IntKind.wrap .i64 (D*I)))))))))
theorem tJ (r:(bY×Pred)->Option Int) (hr:iI Sy cL 46 (λz:bY×Pred=>[enc z.1,enc z.2]) (λr:Int=>[.int .i64 r]) r true) (B:bY) (p1:Pred):Le ((gX B p1 r).bind λr=>some [.int .i64 r]) (iL cL 46 [enc B,enc p1]):=
 (Fc.M 46 [enc B,enc p1] (cE 2 2 B (cE 0 3 p1 (bA 17 7 aZ (bA 7 11 (bE 5 λS _=>aZ) (bA 7 16 (b8 7 λT _=>aZ) (bA 7 24 (bE 5 λU _=>aZ) (bA 7 29 (oW 6 33 (Pred.s8 p1.l) (b8 0 λD _=>ei (F:=Fc.of (B,D) hr) 1 λW _=>aZ)) (bA 7 38 (oW 6 42 (Pred.s8 p1.l) (b8 0 λG _=>ei (F:=Fc.of (B,G) hr) 1 λX _=>oW 3 48 (Pred.s8 p1.l) (b8 0 λI _=>ei (F:=Fc.of (B,I) hr) 1 λY _=>aZ))) (bA 7 53 (oW 6 57 (Pred.s8 p1.l) (b8 0 λu _=>ei (F:=Fc.of (B,u) hr) 1 λJ _=>oW 3 63 (Pred.s8 p1.l) (b8 0 λw _=>ei (F:=Fc.of (B,w) hr) 1 λL _=>aZ))) (oW 9 70 (Pred.s8 p1.l) (b8 0 λA _=>ei (F:=Fc.of (B,A) hr) 1 λO _=>oW 3 76 (Pred.s8 p1.l) (b8 0 λC _=>ei (F:=Fc.of (B,C) hr) 1 λQ _=>aZ)))))))))))):Fc Sy cL (gX B p1 r)).F.h ()
def mL (B:bY) (p1:Pred):Option Int:=vB (λr (z:bY×Pred)=>gX z.1 z.2 r) 100000 (B,p1)
instance Gx (B:bY) (p1:Pred):Fc Sy cL (mL B p1):=Fc.of (B,p1) (iI.fix (A:=λz:bY×Pred=>[enc z.1,enc z.2]) (E:=λr:Int=>[.int .i64 r]) (sc:=true) (b:=(λr (z:bY×Pred)=>gX z.1 z.2 r)) (by kernel_rfl) (λ_ _=>rfl) (λr hr z=>tJ r hr z.1 z.2) 100000)
def iW (B:Trace) (D:Sl Int) (p2:Pred):Option (Int×Int):=
 (gy B D p2 1).bind λu=>
 bl (u.2==0)
 ((mL u.1 p2).bind λw=>
 some (w,0))
 (some (0,u.2))
instance O6 (B:Trace) (D:Sl Int) (p2:Pred):Fc Sy cL (iW B D p2):=Fc.M 13 [enc B,enc D,enc p2] (cE 2 3 B (cE 0 5 p2 (bE 9 λu _=>lT 4 8 0 u.1 (dH 10 18 (bE 7 λw _=>aZ) aZ))))
namespace bS
def tU (c1:Sl Int) (p5 q8 U W Y aa:Int) (G:Sl Event) (J:Int) (ab:Trace) (B D:Int):Option (Fw (Int×Int) Int Empty):=
 bl (decide (D<J))
 ((idx G D).bind λu=>
 (bl (u.kind==3)
 (some (u.peer==p5))
 (some false):Option Bool).bind λw=>
 bl w
 (some (.n (IntKind.wrap .i64 (B-1),IntKind.wrap .i64 (D+1))))
 (some (.n (B,IntKind.wrap .i64 (D+1)))))
 (some (.x B))
def W4 (c1:Sl Int) (p5 Y B aa ab ad D:Int) (G:Sl Event) (J U:Int) (W:Trace):Option (Fw Int Unit Unit):=
 (bX (λq:Int×Int=>tU c1 p5 Y aa ab ad D G J W q.1 q.2) (B,U)).bind (Fw.elim
 (λe=>(iW W c1 (⟨4,0,p5,Y,ByteArray.empty,Sl.nil⟩:Pred)).bind λu=>
 bl (p5==Y)
 ((bl (u.2==13)
 (some (!(u.1==0)))
 (some true):Option Bool).bind λw=>
 bl w
 (some (.r ()))
 (some (.n (IntKind.wrap .i64 (D+1)))))
 ((bl (u.2==0)
 (some (!(u.1==e)))
 (some true):Option Bool).bind λz=>
 bl z
 (some (.r ()))
 (some (.n (IntKind.wrap .i64 (D+1))))))
 (λe=>Empty.elim e))
def dZ (c1:Sl Int) (p5 U W Y aa ab:Int) (G:Sl Event) (J:Int) (ad:Trace) (B D:Int):Option (Fw (Int×Int) Int Empty):=
 bl (decide (D<J))
 ((idx G D).bind λu=>
 (bl (u.kind==2)
 (some (u.peer==U))
 (some false):Option Bool).bind λw=>
 bl w
 (some (.n (IntKind.wrap .i64 (B+1),IntKind.wrap .i64 (D+1))))
 (some (.n (B,IntKind.wrap .i64 (D+1)))))
 (some (.x B))
def W3 (c1:Sl Int) (p5 Y B G J U W:Int) (aa:Sl Event) (ab ad:Int) (D:Trace):Option (Fw Int Unit Unit):=
 (bX (λq:Int×Int=>dZ c1 p5 Y G J U W aa ab D q.1 q.2) (B,ad)).bind (Fw.elim
 (λe=>(idx D.procs Y).bind λw=>
 (idx c1 Y).bind λz=>
 (ij w.events none (some z)).bind λu=>
 W4 c1 p5 Y e G J U W u (len u) 0 D)
 (λe=>Empty.elim e))
def cq (W:Sl Int) (p5 J U D:Int) (G:Trace) (B:Int):Option (Fw Int Unit Unit):=
 bl (decide (B<D))
 ((idx G.procs p5).bind λw=>
 (idx W p5).bind λz=>
 (ij w.events none (some z)).bind λu=>
 W3 W p5 B 0 J U D B u (len u) 0 G)
 (some (.x ()))
def W2 (W:Sl Int) (p5 D B G J:Int) (U:Trace):Option (Fw Int Unit Unit):=
 (bX (λq:Int=>cq W p5 D B G U q) J).bind (Fw.elim
 (λe=>some (.n (IntKind.wrap .i64 (B+1))))
 (λe=>some (.r ())))
def bF (J:Sl Int) (G:Int) (D:Trace) (B:Int):Option (Fw Int Unit Unit):=
 bl (decide (B<G))
 ((iW D J (⟨3,0,B,0,ByteArray.empty,Sl.nil⟩:Pred)).bind λu=>
 (bl (u.2==0)
 ((idx J B).bind λw=>
 some (!(u.1==w)))
 (some true):Option Bool).bind λz=>
 bl z
 (some (.r ()))
 (W2 J B G B (len D.procs) 0 D))
 (some (.x ()))
def W1 (J:Sl Int) (B D:Int) (G:Trace):Option Bool:=
 (bX (λq:Int=>bF J B G q) D).bind (Fw.elim
 (λe=>some true)
 (λe=>some false))
end bS
def bS (B:Trace) (D:Sl Int):Option Bool:=
 (uo).bind λu=>
 bl u
 ((tE B).bind λw=>
 (bl w
 (some true)
 ((qM B).bind λz=>
 some (!z)):Option Bool).bind λA=>
 (bl A
 (some true)
 ((jt B D).bind λC=>
 some (!C)):Option Bool).bind λG=>
 (bl G
 (some true)
 ((dz B D).bind λI=>
 some (!I)):Option Bool).bind λJ=>
 bl J
 (some true)
 (bS.W1 D (len B.procs) 0 B))
 (some false)
open bS in
instance tn (B:Trace) (D:Sl Int):Fc Sy cL (bS B D):=Fc.M 5 [enc B,enc D] (cE 2 2 B (bE 6 λah _=>dH 3 17 (bE 7 λai _=>bP 1 4 [20] 24 (bA 1 20 (bt 4) (bE 1 λaj _=>bt 2)) λak=>bP 1 5 [25] 30 (bA 1 25 (bt 5) (bE 2 λal _=>bt 2)) λam=>bP 1 5 [31] 36 (bA 1 31 (bt 5) (bE 2 λan _=>bt 2)) λao=>bA 2 36 aZ (cF 8 B.procs (eu 5 (λu=>(bU [Cv 1 D,Pv 2,Iv 39 (len B.procs),Iv 40 u] [Xb 2 B])) (λC=>(0,(bU [] []))) (λC=>(bU [Bv 4 false] [])) (λu=>bA 7 41 (Cx 16 (⟨3,0,u,0,ByteArray.empty,Sl.nil⟩:Pred) [.int .i64 3,.int .i64 u] [.int .i64 0,.int .i64 0,.int .i64 0,.int .i64 0,.str ByteArray.empty,.bL] [(0,1),(2,1)] (by simp only[oN,ql,gQ,vS,tT,vN,vZ];rfl) rfl (bE 0 λap _=>bP 13 7 [6,53] 60 (dH 13 53 (b8 3 λW _=>bt 3) (bt 7)) λX=>bA 2 60 aZ (cF 7 B.procs (eu 5 (λw=>(bU [Cv 1 D,Pv 2,Iv 5 u,Iv 39 (len B.procs),Iv 40 u,Iv 63 (len B.procs),Iv 64 w] [Xb 2 B])) (λG=>(2,(bU [Cv 1 D,Pv 2,Iv 39 (len B.procs),Iv 40 u] [Xb 2 B]))) (λG=>(bU [Bv 4 false] [])) (λw=>bA 7 65 (b8 22 λY _=>b8 4 λL _=>Aj 1 false true [.int .i64 L] λz _=>cF 0 z (lg 5 (λI=>(bU [Cv 1 D,Pv 2,Iv 5 u,Iv 8 w,Iv 9 I.1,Iv 39 (len B.procs),Iv 40 u,Iv 63 (len B.procs),Iv 64 w,Cv 77 z,Iv 78 (len z),Iv 79 I.2] [Xb 2 B])) (λO=>(4,(bU [Cv 1 D,Pv 2,Iv 5 u,Iv 8 w,Iv 9 O,Iv 39 (len B.procs),Iv 40 u,Iv 63 (len B.procs),Iv 64 w] [Xb 2 B]))) (λI=>bA 7 80 (b8 7 λQ _=>lT 2 11 0 Q (bP 8 5 [11,86] 91 (bA 8 86 (bt 5) (bt 5)) λZ=>bA 2 91 aZ aZ)) aZ) (λO=>b8 8 λaa _=>b8 4 λS _=>Aj 1 false true [.int .i64 S] λA _=>cF 0 A (lg 5 (λJ=>(bU [Cv 1 D,Pv 2,Iv 5 u,Iv 8 w,Iv 9 J.1,Iv 39 (len B.procs),Iv 40 u,Iv 63 (len B.procs),Iv 64 w,Cv 105 A,Iv 106 (len A),Iv 107 J.2] [Xb 2 B])) (λT=>(6,(bU [Cv 1 D,Pv 2,Iv 5 u,Iv 8 w,Iv 9 T,Iv 39 (len B.procs),Iv 40 u,Iv 63 (len B.procs),Iv 64 w] [Xb 2 B]))) (λJ=>bA 7 108 (b8 7 λU _=>lT 2 13 0 U (bP 8 5 [13,114] 119 (bA 8 114 (bt 5) (bt 5)) λab=>bA 2 119 aZ aZ)) aZ) (λT=>Cx 8 (⟨4,0,u,w,ByteArray.empty,Sl.nil⟩:Pred) [.int .i64 4,.int .i64 u,.int .i64 w] [.int .i64 0,.int .i64 0,.int .i64 0,.int .i64 0,.str ByteArray.empty,.bL] [(0,1),(2,1),(3,1)] (by simp only[oN,ql,gQ,vS,tT,vN,vZ];rfl) rfl (bE 0 λad _=>bA 14 134 (bP 6 3 [14,137] 140 (dH 6 137 (bt 3) (bt 3)) λae=>bA 2 140 aZ aZ) (bP 6 4 [9,14,143] 147 (dH 6 143 (bt 4) (bt 4)) λaf=>bA 2 147 aZ aZ))))))) aZ) (λG=>aZ) (λG=>aZ))))) aZ) (λC=>aZ) (λC=>aZ)))) aZ))
end
end Go.VE
