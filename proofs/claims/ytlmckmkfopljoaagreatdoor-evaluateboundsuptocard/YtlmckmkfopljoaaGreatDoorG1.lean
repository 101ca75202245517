/-
 Each function of the program that the law reaches: its plain form, and that it comes to that.
-/
import Derived.Test.YtlmckmkfopljoaaGreatDoorK1
import Derived.Test.YtlmckmkfopljoaaGreatDoorT1
set_option linter.all false
namespace Go.VE
structure Pred where
 kind:Int
 n:Int
 proc:Int
 peer:Int
 name:ByteArray
 l:Sl Pred
mutual
def Pred.QF:Pred->List V
 | ⟨f0,f1,f2,f3,B,f5⟩=>[.int .i64 f0,.int .i64 f1,.int .i64 f2,.int .i64 f3,.str B,Pred.Ft f5]
def Pred.Ft:Sl Pred->V
 | .nil=>.bX
 | .emp=>.dB
 | .row l=>.fsl 6 (Pred.DC l)
 | .part l=>.fsl 6 (Pred.DC l)
def Pred.DC:List Pred->List (List V)
 | []=>[]
 | x::r=>Pred.QF x::Pred.DC r
end
instance:Inhabited Pred:=⟨⟨default,default,default,default,default,Sl.nil⟩⟩
mutual
theorem Pred.SM:∀x:Pred,V.cI x.QF=true
 | ⟨f0,f1,f2,f3,B,f5⟩=>by simp only[Pred.QF,V.cI,V.good,Pred.HV,Bool.and_self]
theorem Pred.HV:∀x:Sl Pred,V.good (Pred.Ft x)=true
 | .nil=>rfl
 | .emp=>rfl
 | .row l=>by simp only[Pred.Ft,V.good,Pred.BX]
 | .part l=>by simp only[Pred.Ft,V.good,Pred.BX]
theorem Pred.BX:∀x:List Pred,V.mO (Pred.DC x)=true
 | []=>rfl
 | x::r=>by simp only[Pred.DC,V.mO,Pred.SM,Pred.BX,Bool.and_self]
end
theorem Pred.SD (s:Sl Pred):V.one (Pred.Ft s)=true:=by cases s <;> simp[Pred.Ft,V.one]
instance:bC Pred where
 cells x:=[.int .i64 x.kind,.int .i64 x.n,.int .i64 x.proc,.int .i64 x.peer,.str x.name,Pred.Ft x.l]
 agg:=true
 size:=6
 len _:=rfl
 good x:=by simp only[V.cI,V.good,Pred.HV,Bool.and_self]
 one x:=by simp only[List.all_cons,List.all_nil,qp,oF,qg,Pred.SD,Bool.and_self]
 plain h:=by cases h
theorem Pred.N2 (x:Pred):Pred.QF x=cells x:=by cases x;rfl
theorem Pred.Cl:∀l:List Pred,Pred.DC l=rows l
 | []=>rfl
 | x::r=>by rw[Pred.DC,Pred.Cl r,Pred.N2];rfl
theorem Pred.ei (s:Sl Pred):Pred.Ft s=enc s:=by
 cases s with
 | nil=>rfl
 | emp=>rfl
 | row l=>show V.fsl 6 (Pred.DC l)=V.fsl 6 (rows l);rw[Pred.Cl]
 | part l=>show V.fsl 6 (Pred.DC l)=V.fsl 6 (rows l);rw[Pred.Cl]
structure Var where
 name:ByteArray
 init_:Int
 deriving Inhabited
instance:bC Var where
 cells x:=[.str x.name,.int .i64 x.init_]
 agg:=true
 size:=2
 len _:=rfl
 good x:=by simp only[V.cI,V.good,mA,Bool.and_self]
 one x:=by simp only[List.all_cons,List.all_nil,qp,oF,qg,pY,Bool.and_self]
 plain h:=by cases h
structure Assign where
 var:Int
 value:Int
 deriving Inhabited
instance:bC Assign where
 cells x:=[.int .i64 x.var,.int .i64 x.value]
 agg:=true
 size:=2
 len _:=rfl
 good x:=by simp only[V.cI,V.good,mA,Bool.and_self]
 one x:=by simp only[List.all_cons,List.all_nil,qp,oF,qg,pY,Bool.and_self]
 plain h:=by cases h
structure Event where
 kind:Int
 peer:Int
 message:Int
 time:Int
 assign:Sl Assign
 deriving Inhabited
instance:bC Event where
 cells x:=[.int .i64 x.kind,.int .i64 x.peer,.int .i64 x.message,.int .i64 x.time,enc x.assign]
 agg:=true
 size:=5
 len _:=rfl
 good x:=by simp only[V.cI,V.good,mA,Bool.and_self]
 one x:=by simp only[List.all_cons,List.all_nil,qp,oF,qg,pY,Bool.and_self]
 plain h:=by cases h
structure bT where
 name:ByteArray
 vars:Sl Var
 events:Sl Event
 deriving Inhabited
instance:bC bT where
 cells x:=[.str x.name,enc x.vars,enc x.events]
 agg:=true
 size:=3
 len _:=rfl
 good x:=by simp only[V.cI,V.good,mA,Bool.and_self]
 one x:=by simp only[List.all_cons,List.all_nil,qp,oF,qg,pY,Bool.and_self]
 plain h:=by cases h
structure Trace where
 procs:Sl bT
 deriving Inhabited
instance:bC Trace where
 cells x:=[enc x.procs]
 agg:=true
 size:=1
 len _:=rfl
 good x:=by simp only[V.cI,V.good,mA,Bool.and_self]
 one x:=by simp only[List.all_cons,List.all_nil,qp,oF,qg,pY,Bool.and_self]
 plain h:=by cases h
structure bK where
 from_:aY
 to_:aY
 deriving Inhabited
instance:bC bK where
 cells x:=[.int .i64 x.from_.proc,.int .i64 x.from_.index,.int .i64 x.to_.proc,.int .i64 x.to_.index]
 agg:=true
 size:=4
 len _:=rfl
 good x:=by simp only[V.cI,V.good,mA,Bool.and_self]
 one x:=by simp only[List.all_cons,List.all_nil,qp,oF,qg,pY,Bool.and_self]
 plain h:=by cases h
structure bN where
 low:Int
 high:Int
 deriving Inhabited
instance:bC bN where
 cells x:=[.int .i64 x.low,.int .i64 x.high]
 agg:=true
 size:=2
 len _:=rfl
 good x:=by simp only[V.cI,V.good,mA,Bool.and_self]
 one x:=by simp only[List.all_cons,List.all_nil,qp,oF,qg,pY,Bool.and_self]
 plain h:=by cases h
structure bD where
 t:Trace
 counts:Sl Int
 values:Sl (Sl Int)
 deriving Inhabited
instance:bC bD where
 cells x:=[enc x.t.procs,enc x.counts,enc x.values]
 agg:=true
 size:=3
 len _:=rfl
 good x:=by simp only[V.cI,V.good,mA,Bool.and_self]
 one x:=by simp only[List.all_cons,List.all_nil,qp,oF,qg,pY,Bool.and_self]
 plain h:=by cases h
def iC (p:Int):Int->List Event->List (aY×Event)
 | _,[]=>[]
 | j,e::r=>(⟨p,j+1⟩,e)::iC p (j+1) r
def fJ:Int->List bT->List (aY×Event)
 | _,[]=>[]
 | i,p::r=>iC i 0 p.events.l++fJ (i+1) r
def oD (n:Nat):Bool:=decide (n<9223372036854775807)
def ja (t:Trace):Option (List (aY×Event)):=
 if oD t.procs.l.length&&t.procs.l.all λp=>oD p.events.l.length then some (fJ 0 t.procs.l)else none
def wK:cE 22 Int:=⟨Go.Proofs.YtlmckmkfopljoaaGreatDoor.DU,rfl⟩
end Go.VE
namespace Go.VE
def Ku:List (Nat×GD):=[
 (66,⟨0x22226260002000201,[],[(6,[.keep [0,1,7,8] []],[.keep [0,1,7,8] []]),(12,[.keep [] []],[]),(22,[.keep [4] []],[]),(27,[.keep [4] []],[])]⟩),
 (40,⟨0x226221,[],[]⟩),
 (67,⟨0x22226260002000201,[],[(6,[.keep [0,1,7,8] []],[.keep [0,1,7,8] []]),(12,[.keep [] []],[]),(22,[.keep [4] []],[]),(27,[.keep [4] []],[])]⟩),
 (42,⟨0x226221,[],[]⟩),
 (43,⟨0x2222212,[],[]⟩),
 (41,⟨0x264442644402222012,[],[]⟩),
 (11,⟨0x264442222012,[],[]⟩),
 (44,⟨0x222000ff2026020064026220000202202,[],[(10,[.keep [1,2,3,4] [4,9001,9002]],[]),(13,[.keep [1,2,3,4,6] [4,9001,9002]],[.keep [1,2,3,4,6] [4,9001,9002]]),(19,[.keep [] [9001,9002]],[])]⟩),
 (12,⟨0x2227222000012,[(5,[.canon (.s 3) 9001 0,.canon (.s 4) 9002 0])],[]⟩),
 (153,⟨0x26c4426201,[],[]⟩),
 (197,⟨0x26c4444026402201,[],[]⟩),
 (198,⟨0x26442201,[],[]⟩),
 (181,⟨0x22064c402644c00222600200020064440264402201,[],[(8,[.keep [2] []],[]),(14,[.keep [0,18,19] []],[.keep [0,18,19] []]),(20,[.keep [] []],[]),(30,[.keep [2] []],[]),(35,[.keep [2] []],[])]⟩),
 (182,⟨0x26222212,[],[]⟩),
 (183,⟨0x26222212,[],[]⟩),
 (106,⟨0x22226260002000201,[],[(6,[.keep [0,1,7,8] []],[.keep [0,1,7,8] []]),(12,[.keep [] []],[]),(22,[.keep [4] []],[]),(27,[.keep [4] []],[])]⟩),
 (161,⟨0x226221,[],[]⟩),
 (154,⟨0x222222022222026c0c4402222022020000020022220026c0c44422220202602012,[],[(11,[.keep [4] []],[]),(17,[.keep [4] []],[]),(23,[.keep [5,32,33,34] [5]],[.keep [5,32,33,34] [5]]),(29,[.keep [5] [5]],[]),(40,[.keep [4] []],[]),(46,[.keep [4] []],[]),(55,[.keep [4] []],[]),(59,[.keep [4] []],[])]⟩),
 (155,⟨0x2212,[],[]⟩),
 (185,⟨0x2644426c4402622222022202644422202020122,[],[(18,[.keep [1,3,5,19] [3,5]],[])]⟩),
 (187,⟨0x26222212,[],[]⟩),
 (199,⟨0x22226260002000201,[],[(6,[.keep [0,1,7,8] []],[.keep [0,1,7,8] []]),(12,[.keep [] []],[]),(22,[.keep [4] []],[]),(27,[.keep [4] []],[])]⟩),
 (186,⟨0x226221,[],[]⟩),
 (156,⟨0x2202626220026444022622202022020000020022220026c44022220022e02222226220202200202620201222,[],[(12,[.keep [3,4,5,7,8] [3,4,5,7]],[]),(19,[.keep [6] []],[]),(25,[.keep [6] []],[]),(31,[.keep [6] []],[]),(37,[.keep [5,7,52,53,54] [5,7]],[.keep [5,7,52,53,54] [5,7]]),(43,[.keep [] []],[]),(54,[.keep [6] []],[]),(60,[.keep [6] []],[]),(65,[.keep [6] []],[])]⟩),
 (200,⟨0x26c44426c440222012,[],[]⟩),
 (188,⟨0x2662262221222,[],[]⟩),
 (157,⟨0x2202326222002202001ef200220022022226200223262220022022226200202022020202020200002,[],[(8,[.keep [1,2,3,4,5,12] [1,2,3,4,5,10]],[.keep [] [1,2,3,4,5,10]]),(27,[.keep [] [1,2,3,4,5,10]],[]),(39,[.keep [] [1,2,3,4,5,10]],[]),(47,[.keep [] [1,2,3,4,5,10]],[]),(53,[.keep [2,3,4] [2,3,4,10]],[])]⟩),
 (189,⟨0x222622262222264444c4400222020262222262622020262020222620220122,[],[(12,[.canon (.s 7) 2007 2,.keep [1,5,7,8] [5,2007]],[])]⟩),
 (158,⟨0x20222622230026000226002020000e200262220202622002202202020200022,[],[(6,[.keep [2,3,4,5,13] [2,3,4,5]],[.keep [] [2,3,4,5]]),(14,[.canon (.s 8) 2008 2,.keep [2,3,4,5,6,7,8,13] [2,3,4,5,6,16,2008]],[.canon (.s 8) 2008 2,.keep [2,3,4,5,6,7,8,13] [2,3,4,5,6,16,2008]]),(20,[.keep [2,3,4,5,13] [2,3,4,5]],[]),(29,[.canon (.s 8) 2008 2,.keep [2,3,4,5,6,7,8,13,36,37,38] [2,3,4,5,6,16,2008]],[.canon (.s 8) 2008 2,.keep [2,3,4,5,6,7,8,13,36,37,38] [2,3,4,5,6,16,2008]]),(35,[.canon (.s 8) 2008 2,.keep [2,3,4,5,6,7,8,13] [2,3,4,5,6,16,2008]],[]),(46,[.keep [] [2,3,4,5]],[]),(58,[.keep [4,5] [4,5]],[])]⟩),
 (117,⟨0x20022222020262222222022202002202222202e2002020202222222202600200022002022220002,[],[(8,[.keep [2,3] [2,3]],[]),(14,[.keep [1,2,3,22,23] [1,2,3]],[.keep [1,2,3,22,23] [1,2,3]]),(20,[.keep [1,2,3] [1,2,3]],[]),(32,[.keep [2,3] [2,3]],[]),(39,[.keep [1,2,3,36] [1,2,3]],[.keep [] [1,2,3]]),(51,[.keep [] [1,2,3]],[]),(61,[.keep [2,3] [2,3]],[]),(71,[.keep [2,3] [2,3]],[]),(75,[.keep [2,3] [2,3]],[])]⟩),
 (82,⟨0x2222302022212,[],[]⟩),
 (159,⟨0x264426402201,[],[]⟩),
 (119,⟨0x26c4444c4404440222006c4404440264402644026c444044026440222012,[],[]⟩),
 (121,⟨0x22e222212,[],[]⟩),
 (120,⟨0x226221,[],[]⟩),
 (160,⟨0x22226260002000201,[],[(6,[.drop [2,3,4,5,6,9,10,11,12,13,14,15,16,17,18]],[.drop [2,3,4,5,6,9,10,11,12,13,14,15,16,17,18]]),(12,[.drop [0,1,2,3,4,5,6,7,8,9,10,11,12,13,14,15,16,17,18]],[]),(22,[.drop [0,1,2,3,5,6,7,8,9,10,11,12,13,14,15,16,17,18]],[]),(27,[.drop [0,1,2,3,5,6,7,8,9,10,11,12,13,14,15,16,17,18]],[])]⟩),
 (118,⟨0x226622064402640222220122,[(20,[.closeB 5])],[]⟩),
 (83,⟨0x26222200012,[(5,[.canon (.s 3) 9004 0,.canon (.s 4) 9003 0])],[]⟩),
 (123,⟨0x26c444422012,[],[]⟩),
 (162,⟨0x2622212,[],[]⟩),
 (124,⟨0x262226222122,[],[]⟩),
 (122,⟨0x2644426c404026c40426200222644426440262022026001cf444042644026200202012,[],[]⟩),
 (146,⟨0x2262212,[],[]⟩),
 (103,⟨0x264c4442600122,[(10,[.closeB 3])],[]⟩),
 (84,⟨0x2622122,[],[]⟩),
 (56,⟨0x221,[],[]⟩),
 (127,⟨0x221,[],[]⟩),
 (126,⟨0x2622222212,[],[]⟩),
 (125,⟨0x22622012,[(5,[.closeB 1])],[]⟩),
 (85,⟨0x22212,[],[]⟩),
 (131,⟨0x222222626002620002220012201,[],[(8,[.keep [0] []],[]),(14,[.keep [0,3,4] []],[.keep [0,3,4] []]),(20,[.keep [3] []],[])]⟩),
 (132,⟨0x222222626002620002220012201,[],[(8,[.keep [0] []],[]),(14,[.keep [0,3,4] []],[.keep [0,3,4] []]),(20,[.keep [3] []],[])]⟩),
 (89,⟨0x2622200,[],[]⟩),
 (129,⟨0x22222226c04422202020000226222012,[],[(8,[.keep [2,7,15,16,17] []],[.keep [2,7,15,16,17] []]),(14,[.keep [7] []],[])]⟩),
 (201,⟨0x2622212,[],[]⟩),
 (190,⟨0x26222122,[],[]⟩),
 (163,⟨0x220020262262220026c4400220002220112,[],[]⟩),
 (168,⟨0x26200201,[],[(8,[.canon (.s 2) 4004 1],[]),(12,[.canon (.s 2) 4004 1],[])]⟩),
 (179,⟨0x222e202202236222002020000222202000002226200222622222020000200,[(21,[.closeS (.s 25)]),(57,[.closeS (.s 54)])],[(6,[.canon (.s 3) 2003 1,.keep [0,1,3,11,12,13] [2003]],[.canon (.s 3) 2003 1,.keep [0,1,3,11,12,13] [2003]]),(12,[.canon (.s 3) 2003 1,.keep [0,1,3] [2003]],[]),(23,[.keep [] []],[]),(28,[.canon (.s 3) 2003 1,.keep [0,3,29,30,31] [2003]],[.canon (.s 3) 2003 1,.keep [0,3,29,30,31] [2003]]),(34,[.keep [] []],[]),(43,[.canon (.s 3) 2003 1,.keep [0,3,6,29,30,31,37,38,39] [2003]],[.canon (.s 3) 2003 1,.keep [0,3,6,29,30,31,37,38,39] [2003]]),(49,[.canon (.s 3) 2003 1,.keep [0,3,6,29,30,31] [2003]],[]),(59,[.keep [] []],[])]⟩),
 (145,⟨0x2212,[],[]⟩),
 (164,⟨0x22262260202220122,[],[(8,[.canon (.c 5 0) 4100 1,.keep [3,5,9] [3,5,4100]],[.canon (.c 5 0) 4100 1,.keep [] [3,5,4100]])]⟩),
 (130,⟨0x2222202622622220022022202e2001112,[],[]⟩),
 (87,⟨0x26223222002e2220222e2220222222226222220222222020022,[],[]⟩),
 (88,⟨0x26444222012,[],[]⟩),
 (133,⟨0x262201,[],[]⟩),
 (90,⟨0x22222622220622020260006402201,[],[]⟩),
 (57,⟨0x22222022001ef622226202062020620202662222620202226622226202020262222202022002064422222202622202222002002202026222002222202062222201022,[],[(22,[.keep [3,4,7,8,9,10] [3,4,7,9]],[]),(49,[.keep [4,11] [4,11]],[])]⟩),
 (128,⟨0x2262212,[],[]⟩),
 (86,⟨0x226222222302026222220122,[(21,[.closeB 2])],[]⟩),
 (55,⟨0x22622022200226000264402220122,[],[]⟩),
 (195,⟨0x26222221,[],[]⟩),
 (213,⟨0x22226260002000201,[],[(6,[.keep [0,1,7,8] []],[.keep [0,1,7,8] []]),(12,[.keep [] []],[]),(22,[.keep [4] []],[]),(27,[.keep [4] []],[])]⟩),
 (194,⟨0x226221,[],[]⟩),
 (175,⟨0x264c4422012,[],[]⟩),
 (176,⟨0x2206c444c440422022200000212,[],[(6,[.keep [2,7,8,9] [2]],[.keep [2,7,8,9] [2]]),(12,[.keep [] []],[]),(22,[.keep [4] []],[]),(27,[.keep [4] []],[])]⟩),
 (177,⟨0x26c444422012,[],[]⟩),
 (180,⟨0x200226c0442602020202202022000222,[],[(8,[.keep [6,7] [6,7]],[]),(14,[.keep [4,5,6,7,15] [4,5,6,7]],[.keep [] [4,5,6,7]]),(24,[.keep [] [4,5,6,7]],[]),(28,[.keep [6,7] [6,7]],[])]⟩),
 (166,⟨0x2220622102,[],[]⟩),
 (196,⟨0x2200222202262222626200203202026220220220200000622260202220000001002,[],[(6,[.keep [1,2,4,5,13,14,15] [2,4,5]],[.keep [1,2,4,5,13,14,15] [2,4,5]]),(12,[.keep [4,5] [4,5]],[]),(20,[.keep [1,2,4,5,7,13,14,15,27,28,29] [2,4,5]],[.keep [1,2,4,5,7,13,14,15,27,28,29] [2,4,5]]),(26,[.keep [1,2,4,5,13,14,15] [2,4,5]],[]),(44,[.keep [4,5,6] [4,5]],[]),(50,[.keep [4,5,6] [4,5]],[])]⟩),
 (178,⟨0x22223300200262212,[],[]⟩),
 (144,⟨0x2202620220000222026202200002220262022000000260012,[],[(8,[.keep [6] []],[]),(14,[.keep [1,2,3,17,18,19] [3]],[.keep [1,2,3,17,18,19] [3]]),(20,[.keep [1,2,3] [3]],[]),(30,[.keep [6] []],[]),(37,[.keep [1,3,28,29,30] [3]],[.keep [1,3,28,29,30] [3]]),(43,[.keep [1,3] [3]],[]),(53,[.keep [6] []],[]),(60,[.keep [3,39,40,41] [3]],[.keep [3,39,40,41] [3]]),(66,[.keep [] []],[]),(76,[.keep [6] []],[]),(81,[.keep [6] []],[])]⟩),
 (100,⟨0x222226262222022200000202022026202112,[],[(18,[.canon (.s 7) 2007 2,.keep [7,17,18,19] [2007]],[.canon (.s 7) 2007 2,.keep [7,17,18,19] [2007]]),(24,[.canon (.s 7) 2007 2,.keep [7] [2007]],[])]⟩),
 (101,⟨0x226022222022,[],[(6,[.keep [3,4,8] [3,4]],[.keep [] [3,4]]),(16,[.keep [] [3,4]],[]),(20,[.keep [4] [4]],[])]⟩),
 (68,⟨0x22222626226220222200000202022023202600112,[],[(18,[.canon (.s 8) 2008 1,.keep [2,8,20,21,22] [2,2008]],[.canon (.s 8) 2008 1,.keep [2,8,20,21,22] [2,2008]]),(24,[.canon (.s 8) 2008 1,.keep [8] [2008]],[])]⟩),
 (102,⟨0x2222002220002220112,[],[]⟩),
 (69,⟨0x6c44222222022212,[],[]⟩),
 (105,⟨0x26442201,[],[]⟩),
 (104,⟨0x2222212,[],[]⟩),
 (70,⟨0x2644422012,[],[]⟩),
 (45,⟨0x222e222064422026202220202220260022202006c4404022026001022,[],[(10,[.keep [1,3,4,6,8,10] [4,6,8]],[]),(36,[.keep [1,4,8,10,11] [4,8]],[])]⟩),
 (107,⟨0x26222212,[],[]⟩),
 (71,⟨0x226226222226022620220122,[],[]⟩),
 (147,⟨0x2220622102,[],[]⟩),
 (108,⟨0x22222622226c4c4404022222020262006c04022202020000626202260200202202e600200112,[],[(18,[.canon (.s 11) 2011 1,.keep [1,3,4,11,36,37,38] [4,2011]],[.canon (.s 11) 2011 1,.keep [1,3,4,11,36,37,38] [4,2011]]),(24,[.canon (.s 11) 2011 1,.keep [11] [2011]],[])]⟩),
 (72,⟨0x22232202001ef22202220122,[],[]⟩),
 (46,⟨0x266222226222002662222262220022266222226222002022622222202622202262222202622202222020122,[],[]⟩),
 (13,⟨0x262220220220202e0221122,[],[]⟩),
 (47,⟨0x26c44444262220026c44444262220022226222222022222020266222226222002026622222622200202662222262220020266222226222002020122,[],[(36,[.keep [2,3,6,67] [2,3]],[])]⟩),
 (14,⟨0x262220220220202e0221122,[],[]⟩),
 (151,⟨0x26c4444026402201,[],[]⟩),
 (152,⟨0x26442201,[],[]⟩),
 (113,⟨0x222064c002644c00222600620000644402644022201,[],[(8,[.keep [2] []],[]),(14,[.keep [0,3] []],[.keep [0,3] []]),(20,[.keep [] []],[]),(28,[.keep [2] []],[]),(33,[.keep [2] []],[])]⟩),
 (114,⟨0x26442201,[],[]⟩),
 (77,⟨0x2222222022226020222062260202260206000022226020622000022202220620226020600002220202602012,[],[(10,[.keep [4] []],[]),(16,[.keep [1,2,5,6] [2,5]],[.keep [1,2,5,6] [2,5]]),(22,[.keep [5] [5]],[]),(30,[.keep [4] []],[]),(39,[.keep [4] []],[]),(45,[.keep [5,7] [5]],[.keep [5,7] [5]]),(51,[.keep [5] [5]],[]),(60,[.keep [4] []],[]),(66,[.keep [5,7,8] [5]],[.keep [5,7,8] [5]]),(72,[.keep [5,7] [5]],[]),(80,[.keep [4] []],[]),(88,[.keep [4] []],[]),(97,[.keep [4] []],[]),(101,[.keep [4] []],[])]⟩),
 (78,⟨0x2222220620226020600006444026c444c04040222020260206220000222006cc44c4444c04040440264402220064402644026c04026c44040264402644022200644022202202026022602012,[],[(13,[.keep [6] []],[]),(20,[.keep [6] []],[]),(22,[.keep [1,2,3,7] [3,7]],[]),(28,[.keep [6] []],[]),(36,[.keep [6] []],[]),(42,[.keep [1,3,7,8] [3,7]],[.keep [1,3,7,8] [3,7]]),(48,[.keep [] []],[]),(59,[.keep [6] []],[]),(64,[.keep [1,3,7,8,9,10] [3,7,9]],[.keep [1,3,7,8,9,10] [3,7,9]]),(70,[.keep [1,3,7,8] [3,7]],[]),(78,[.keep [6] []],[]),(84,[.keep [6] []],[])]⟩),
 (115,⟨0x2262222262022022,[],[]⟩),
 (54,⟨0x20222222262226c0442602020260226020622260200062200002,[],[(6,[.keep [1,2,3,6,7] [3,6]],[.keep [1,2,3,6,7] [3,6]]),(12,[.keep [6] [6]],[]),(18,[.keep [1,2,3,6,7,8] [3,6]],[.keep [1,2,3,6,7,8] [3,6]]),(24,[.keep [1,2,3,6,7] [3,6]],[]),(34,[.keep [6] [6]],[]),(40,[.keep [6] [6]],[])]⟩),
 (79,⟨0x2222226cc40444cc4040444022202602262020622262020000220060e20200022020600122,[],[(30,[.keep [2,3,5,6,7] [2,3,5]],[.keep [2,3,5,6,7] [2,3,5]]),(36,[.keep [6] []],[])]⟩),
 (80,⟨0x22206222602026006220002222203622000622262002062202202026260022602062226020260062200002222012,[],[(6,[.canon (.s 3) 2003 1,.keep [1,3] [1,2003]],[.canon (.s 3) 2003 1,.keep [1,3] [1,2003]]),(14,[.canon (.s 3) 2003 1,.keep [1,3,4,5] [1,2003]],[.canon (.s 3) 2003 1,.keep [1,3,4,5] [1,2003]]),(20,[.canon (.s 3) 2003 1,.keep [1,3,4] [1,2003]],[]),(24,[.canon (.s 3) 2003 1,.keep [1,3,4,5] [1,2003]],[.canon (.s 3) 2003 1,.keep [1,3,4,5] [1,2003]]),(30,[.canon (.s 3) 2003 1,.keep [1,3,4,5] [1,2003]],[]),(43,[.canon (.s 3) 2003 1,.keep [1,3,4,5] [1,2003]],[]),(46,[.canon (.s 3) 2003 1,.keep [1,3,5] [1,2003]],[]),(53,[.canon (.s 3) 2003 1,.keep [1,3] [1,2003]],[]),(59,[.canon (.s 3) 2003 1,.keep [1,3,8] [1,2003]],[.canon (.s 3) 2003 1,.keep [1,3,8] [1,2003]]),(65,[.keep [] []],[]),(73,[.keep [2] []],[]),(78,[.keep [2] []],[])]⟩),
 (116,⟨0x22262622222202062026262202022200122,[],[(10,[.canon (.s 5) 2005 2,.keep [2,3,5] [2,3,2005]],[])]⟩),
 (53,⟨0x202222220222620260600206200622260200062200002020222222222220260020620062226020006220002222222226222202e0006222602000622000222222222026006220000206444022220102,[],[(8,[.keep [2,3] [2]],[]),(14,[.keep [1,2,4] [1,2]],[.keep [1,2,4] [1,2]]),(20,[.keep [1,2] [1,2]],[]),(30,[.keep [2,3] [2]],[]),(37,[.keep [1,2,6] [1,2]],[.keep [1,2,6] [1,2]]),(43,[.keep [1,2] [1,2]],[]),(49,[.keep [1,2,6,7] [1,2]],[.keep [1,2,6,7] [1,2]]),(55,[.keep [1,2,6] [1,2]],[]),(65,[.keep [2,3] [2]],[]),(73,[.keep [1,2,9] [1,2]],[.keep [1,2,9] [1,2]]),(79,[.keep [1,2] [1,2]],[]),(85,[.keep [1,2,9,10] [1,2]],[.keep [1,2,9,10] [1,2]]),(91,[.keep [1,2,9] [1,2]],[]),(103,[.keep [2,3] [2]],[]),(113,[.keep [2,3] [2]],[]),(119,[.keep [1,2,13] [1,2]],[.keep [1,2,13] [1,2]]),(125,[.keep [2] [2]],[]),(131,[.keep [1,2,13,14] [1,2]],[.keep [1,2,13,14] [1,2]]),(137,[.keep [1,2,13] [1,2]],[]),(147,[.keep [2,3] [2]],[]),(153,[.keep [2,3] [2]],[])]⟩),
 (21,⟨0x2222302022212,[],[]⟩),
 (134,⟨0x222222666202602006c002622000012,[],[(8,[.keep [1,2,5,6] [2]],[.keep [1,2,5,6] [2]]),(14,[.keep [5] []],[])]⟩),
 (91,⟨0x222212,[],[]⟩),
 (92,⟨0x22222226620260202622000020012,[],[(16,[.keep [1,2,5,6] [2]],[.keep [1,2,5,6] [2]]),(22,[.keep [5] []],[])]⟩),
 (135,⟨0x6442640264022006c4044026402200640264026402201,[],[]⟩),
 (93,⟨0x2220222602062200006c4404c440444026440222002200644022202200622022012,[],[(8,[.keep [2] []],[]),(19,[.keep [2] []],[]),(26,[.keep [2] []],[]),(28,[.keep [1] [1]],[]),(34,[.keep [2] []],[]),(40,[.keep [1,3] [1]],[.keep [1,3] [1]]),(46,[.keep [] []],[]),(54,[.keep [2] []],[]),(59,[.keep [2] []],[])]⟩),
 (58,⟨0x264426440222012,[],[]⟩),
 (109,⟨0x26c444422012,[],[]⟩),
 (110,⟨0x22222602260226020622260200012,[],[(6,[.keep [1,2,3,7] [3]],[.keep [1,2,3,7] [3]]),(12,[.keep [] []],[]),(20,[.keep [6] []],[]),(25,[.keep [6] []],[])]⟩),
 (73,⟨0x22202626020062200006c4404cc40404c4c40044c400222006c4404c44044c400222006c4001cf404004c44044c4002220122,[],[(8,[.keep [4] []],[]),(16,[.keep [4] []],[]),(24,[.keep [4] []],[]),(30,[.keep [2,3,5] [2,3]],[.keep [2,3,5] [2,3]]),(36,[.keep [] []],[]),(44,[.keep [4] []],[]),(49,[.keep [4] []],[])]⟩),
 (111,⟨0x22212,[],[]⟩),
 (74,⟨0x22206444c0402622260200220062200012,[],[(6,[.keep [1,3] [1]],[.keep [1,3] [1]]),(12,[.keep [] []],[]),(23,[.keep [1,3,4] [1]],[]),(28,[.keep [2] []],[]),(33,[.keep [2] []],[])]⟩),
 (148,⟨0x222222222222622600262260026022600620002226022602062226020002022260226020112,[],[(10,[.keep [1,2,3,8,9,10] [3]],[.keep [1,2,3,8,9,10] [3]]),(16,[.keep [8,9] []],[]),(24,[.keep [1,2,3,8,9,10,11,12] [3]],[.keep [1,2,3,8,9,10,11,12] [3]]),(30,[.keep [1,2,3,8,9,10] [3]],[])]⟩),
 (149,⟨0x222222226c0442220202602260206222602000012,[],[(8,[.keep [1,2,3,7,8] [3]],[.keep [1,2,3,7,8] [3]]),(14,[.keep [7] []],[])]⟩),
 (150,⟨0x26220062222622222620062006402201,[],[(24,[.keep [0,1] []],[])]⟩),
 (112,⟨0x222644222002666226206602600266600600660060022622622222226226222202222222202e2220222022226222222022202ee2220220022022222022010000644222222200262220022202222002622200222000000011122,[],[(12,[.keep [2,3,7,8,9,10,11,12] [2,3]],[]),(18,[.keep [2,3,7,8,9,10,11,12] [2,3]],[]),(60,[.keep [13,14] []],[])]⟩),
 (75,⟨0x222026260200622000222332002622220122,[],[(10,[.keep [4] []],[]),(16,[.keep [2,3,8] [2,3]],[.keep [2,3,8] [2,3]]),(22,[.keep [] []],[]),(30,[.keep [4] []],[]),(35,[.keep [4] []],[])]⟩),
 (48,⟨0x2622022002600064402220122,[],[]⟩),
 (22,⟨0x22206c444c0404c0022260062000062202012,[],[(8,[.keep [4] []],[]),(14,[.keep [1,2,5] [2]],[.keep [1,2,5] [2]]),(20,[.keep [] []],[]),(28,[.keep [4] []],[]),(33,[.keep [4] []],[])]⟩),
 (23,⟨0x2222220626220202062202202026022602062600006200012,[],[(6,[.keep [1,2,5] [2]],[.keep [1,2,5] [2]]),(12,[.keep [] []],[]),(18,[.keep [1,2,5,6] [2]],[.keep [1,2,5,6] [2]]),(24,[.keep [1,2,5] [2]],[]),(39,[.keep [4] []],[]),(46,[.keep [4] []],[])]⟩),
 (76,⟨0x2220022000220112,[],[]⟩),
 (49,⟨0x622322022222202602122,[],[]⟩),
 (59,⟨0x222022602062200006440222012,[],[(8,[.keep [2] []],[]),(14,[.keep [1,3] [1]],[.keep [1,3] [1]]),(20,[.keep [] []],[]),(28,[.keep [2] []],[]),(33,[.keep [2] []],[])]⟩),
 (25,⟨0x264422012,[],[]⟩),
 (15,⟨0x2222202e20202620026002220260006c440402220122,[],[]⟩),
 (51,⟨0x22222602260062000222622212,[],[(8,[.keep [2,7,8] []],[.keep [2,7,8] []]),(14,[.keep [] []],[]),(22,[.keep [6] []],[]),(27,[.keep [6] []],[])]⟩),
 (50,⟨0x22262226222222222222622602260062000222602260202022212,[],[(6,[.keep [1,2,4,9] [4]],[.keep [1,2,4,9] [4]]),(12,[.keep [1,2,4] [4]],[]),(20,[.keep [1,2,4,9,10,11] [4]],[.keep [1,2,4,9,10,11] [4]]),(26,[.keep [1,2,4,9] [4]],[]),(34,[.keep [8] []],[]),(40,[.keep [8] []],[])]⟩),
 (52,⟨0x222222622226c4c4404022202062006c0402220202602260206260000012,[],[(8,[.canon (.s 9) 2009 1,.keep [1,2,3,4,9,10] [4,2009]],[.canon (.s 9) 2009 1,.keep [1,2,3,4,9,10] [4,2009]]),(14,[.canon (.s 9) 2009 1,.keep [9] [2009]],[])]⟩),
 (16,⟨0x26e222222e22200026e222222e2220002226e222222e2220002022e2222222022001ef22202220226222202001ef26222e20202200202222020122,[],[]⟩),
 (17,⟨0x26001cf4444442e2220002226001cf4444442e2220002022e2222222002026e222222e2220002026e222222e2220002026e222222e2220002026e222222e2220002020122,[],[]⟩),
 (3,⟨0x26c001cf444422226442622202e00006c001cf000422206442622202e00022202e00022202e000064402640220020122,[],[(42,[.keep [1,3,5,9,10] [3,5]],[])]⟩),
 (24,⟨0x2222203202026220002220200220260011122,[],[]⟩),
 (6,⟨0x2644426c4426c0422222222222200260222202e020064402640220020122,[],[]⟩)]
end Go.VE
namespace Go.VE
namespace trace_events_c1
def BO:List RO:=[o1 20 (.s 18) [],o2 21 (ix 5) [.s 16,.s 18] [],o2 22 (lD 5) [.s 21] [21],o2 6 (.a (.alloc 5 [.int .i64 0,.int .i64 0,.int .i64 0,.int .i64 0,.bX])) [] [],o1 5 (.s 20) [20],oz (.l (.store 5)) [.s 6,.s 22] [22]]
def zu:List RO:=[o1 23 (.s 0) [],o1 24 (.s 3) [],o1 25 (.s 5) [5],o2 26 (bI .add) [.s 25,.k (.int .i64 1)] [25],o2 27 (.p (.build [.int .i64 0,.int .i64 0] [(0,1),(1,1)])) [.s 24,.s 26] [24,26],o2 28 (lD 5) [.s 6] [6],
 o2 29 .c [.s 23,.s 27,.s 28] [23,27,28],o2 30 (.p .not) [.s 29] [29]]
def w_:List RO:=[o2 31 (bI .add) [.s 18,.k (.int .i64 1)] [],o1 18 (.s 31) [31]]
def EL:RC:=.hg (.seq (.ops [o2 19 (bI .lss) [.s 18,.s 17] []]) (.seq (.cond (.s 19) .skip (.exit 2)) (.seq (.block 3 (.seq (.ops BO) (.seq (.ops zu) (.cond (.s 30) .ret .skip)))) (.ops w_)))) (.keep [0,3,8,9,10,16,17,18] [])
def JH:List RO:=[o1 12 (.s 10) [],o2 13 (ix 3) [.s 8,.s 10] [],o2 14 (lD 3) [.s 13] [13],o2 4 (.a (.alloc 3 [.str ByteArray.empty,.bX,.bX])) [] [],o1 3 (.s 12) [12],oz (.l (.store 3)) [.s 4,.s 14] [14]]
def Hg:List RO:=[o2 15 (fa 2) [.s 4] [],o2 16 (ld 1) [.s 15] [15],o2 17 ln [.s 16] [],o1 18 (.k (.int .i64 0)) []]
def E5:List RO:=[o2 32 (bI .add) [.s 10,.k (.int .i64 1)] [],o1 10 (.s 32) [32]]
def U2:RC:=.block 2 (.gh (.keep [0,3,8,9,10,16,17,18] []) (.loop EL))
def NV:RC:=.hg (.seq (.ops [o2 11 (bI .lss) [.s 10,.s 9] []]) (.seq (.cond (.s 11) .skip (.exit 0)) (.seq (.block 1 (.seq (.ops JH) (.seq (.ops Hg) U2))) (.ops E5)))) (.keep [0,8,9,10] [])
def Qa:List RO:=[o2 7 (fa 0) [.s 1] [1],o2 8 (ld 1) [.s 7] [7],o2 9 ln [.s 8] [],o1 10 (.k (.int .i64 0)) []]
def U1:RC:=.block 0 (.gh (.keep [0,8,9,10] []) (.loop NV))
def text:RF:=⟨33,[],.seq (.ops Qa) U1⟩
section
variable {S:Sys}
abbrev I1 (ps:Sl bT) (i:Int) (B:List (List V)) (more:Bool) (y:Nat):St:=⟨[(0,.yl y),Cv 8 ps,Iv 9 (len ps),Iv 10 i],[],[],B,more,y⟩
abbrev I2 (ps:Sl bT) (i:Int) (es:Sl Event) (j:Int) (B:List (List V)) (more:Bool) (y:Nat):St:=⟨[(0,.yl y),Iv 3 i,Cv 8 ps,Iv 9 (len ps),Iv 10 i,Cv 16 es,Iv 17 (len es),Iv 18 j],[],[],B,more,y⟩
abbrev S2 (ps:Sl bT) (i:Int) (es:Sl Event) (j:Int) (b:Bool) (B:List (List V)) (more:Bool) (y:Nat):St:=⟨[(0,.yl y),Iv 3 i,Cv 8 ps,Iv 9 (len ps),Iv 10 i,Cv 16 es,Iv 17 (len es),Iv 18 j,Bv 19 b],[],[],B,more,y⟩
theorem UO (ps:Sl bT) (i:Int) (es:Sl Event) (j:Int) (B:List (List V)) (more:Bool) (y:Nat) (D:decide (j<len es)=false) :
 rn S.bare nO some (.rc EL) [] (I2 ps i es j B more y)=some (.exit 2,S2 ps i es j false B more y):=by
 refine Le.get ?_;refine Kf (n:=7) (fo':=.rc (.cond (.s 19) .skip (.exit 2))) (fs':=[.seq (.seq (.block 3 (.seq (.ops BO) (.seq (.ops zu) (.cond (.s 30) .ret .skip)))) (.ops w_)),.gst (.keep [0,3,8,9,10,16,17,18] [])]) (λb=>S2 ps i es j b B more y) D (by kernel_rfl) ?_
 exact Le.of_eq (by kernel_rfl)
theorem VF (ps:Sl bT) (i:Int) (es:Sl Event) (j:Int) (e:Event) (B:List (List V)) (more:Bool) (y:Nat) (G:decide (j<len es)=true) (D:idx es j=some e) (J:(!(more || !B.isEmpty))=false) :
 rn S.bare nO some (.rc EL) [] (I2 ps i es j ([enc (⟨i,IntKind.wrap .i64 (j+1)⟩:aY),enc e]::B) more y)=some (.norm,I2 ps i es (IntKind.wrap .i64 (j+1)) B more y):=by
 refine Le.get ?_;refine Kt (n:=7) (fo':=.rc (.cond (.s 19) .skip (.exit 2))) (fs':=[.seq (.seq (.block 3 (.seq (.ops BO) (.seq (.ops zu) (.cond (.s 30) .ret .skip)))) (.ops w_)),.gst (.keep [0,3,8,9,10,16,17,18] [])]) (λb=>S2 ps i es j b ([enc (⟨i,IntKind.wrap .i64 (j+1)⟩:aY),enc e]::B) more y) G (by kernel_rfl) ?_
 refine OF D ?_;refine Pa 8 false [] (BO.drop 1) [.seq (.seq (.ops zu) (.cond (.s 30) .ret .skip)),.blk 3,.seq (.ops w_),.gst (.keep [0,3,8,9,10,16,17,18] [])] ⟨[(0,.yl y),Iv 3 i,Cv 8 ps,Iv 9 (len ps),Iv 10 i,Cv 16 es,Iv 17 (len es),Iv 18 j,Bv 19 true,Iv 20 j],[],[],([enc (⟨i,IntKind.wrap .i64 (j+1)⟩:aY),enc e]::B),more,y⟩ .i64 rfl (by kernel_rfl) λx h1=>?_
 obtain rfl:x=e:=by rw[D]at h1;cases h1;rfl
 refine Ue 1 false [] (BO.drop 3) [.seq (.seq (.ops zu) (.cond (.s 30) .ret .skip)),.blk 3,.seq (.ops w_),.gst (.keep [0,3,8,9,10,16,17,18] [])] ⟨[(0,.yl y),Iv 3 i,Cv 8 ps,Iv 9 (len ps),Iv 10 i,Cv 16 es,Iv 17 (len es),Iv 18 j,Bv 19 true,Iv 20 j,Cv 22 x],[],[],([enc (⟨i,IntKind.wrap .i64 (j+1)⟩:aY),enc x]::B),more,y⟩ [iv 0,iv 0,iv 0,iv 0,.v .bX] rfl (by simp only[bO,xQ,qh,rY,qz,rV,tg,rQ,tj,qy,sx,xU,tu,tM,s_,tq,vE,vM,rU,tA,SV.cQ];rfl) (by kernel_rfl) ?_
 refine Ast 1 false [] (BO.drop 5) [.seq (.seq (.ops zu) (.cond (.s 30) .ret .skip)),.blk 3,.seq (.ops w_),.gst (.keep [0,3,8,9,10,16,17,18] [])] ⟨[(0,.yl y),Iv 3 i,Cv 8 ps,Iv 9 (len ps),Iv 10 i,Cv 16 es,Iv 17 (len es),Iv 18 j,Bv 19 true,Cv 22 x,Pv 6,Iv 5 j],[Xb 6 (⟨0,0,0,0,.nil⟩:Event)],[],([enc (⟨i,IntKind.wrap .i64 (j+1)⟩:aY),enc x]::B),more,y⟩ 6 0 x [iv 0,iv 0,iv 0,iv 0,.v .bX] ((cells x).map .v) rfl (by kernel_rfl) ?_
 refine Wl (n:=10) (q:=zu.drop 6) (fs':=[.seq (.cond (.s 30) .ret .skip),.blk 3,.seq (.ops w_),.gst (.keep [0,3,8,9,10,16,17,18] [])]) (st:=⟨[(0,.yl y),Iv 3 i,Cv 8 ps,Iv 9 (len ps),Iv 10 i,Cv 16 es,Iv 17 (len es),Iv 18 j,Bv 19 true,(23,.yl y),Cv 27 (⟨i,IntKind.wrap .i64 (j+1)⟩:aY),Cv 28 x],[Xb 6 x],[],([enc (⟨i,IntKind.wrap .i64 (j+1)⟩:aY),enc x]::B),more,y⟩) (vs:=[cv (⟨i,IntKind.wrap .i64 (j+1)⟩:aY),cv x]) (by kernel_rfl) rfl (by kernel_rfl) (by kernel_rfl) rfl rfl ?_
 refine Kf (n:=3) (fo':=.rc (.cond (.s 30) .ret .skip)) (fs':=[.blk 3,.seq (.ops w_),.gst (.keep [0,3,8,9,10,16,17,18] [])]) (λb=>⟨[(0,.yl y),Iv 3 i,Cv 8 ps,Iv 9 (len ps),Iv 10 i,Cv 16 es,Iv 17 (len es),Iv 18 j,Bv 19 true,Bv 30 b],[Xb 6 x],[],B,more,y⟩) J (by kernel_rfl) ?_
 exact Le.of_eq (by kernel_rfl)
theorem Tp (ps:Sl bT) (i:Int) (es:Sl Event) (j:Int) (e:Event) (B:List (List V)) (more:Bool) (y:Nat) (G:decide (j<len es)=true) (D:idx es j=some e) (J:(!(more || !B.isEmpty))=true) :
 rn S.bare nO some (.rc EL) [] (I2 ps i es j ([enc (⟨i,IntKind.wrap .i64 (j+1)⟩:aY),enc e]::B) more y)=some (.ret,⟨[(0,.yl y),Iv 3 i,Cv 8 ps,Iv 9 (len ps),Iv 10 i,Cv 16 es,Iv 17 (len es),Iv 18 j,Bv 19 true,Bv 30 true],[Xb 6 e],[],B,more,y⟩):=by
 refine Le.get ?_;refine Kt (n:=7) (fo':=.rc (.cond (.s 19) .skip (.exit 2))) (fs':=[.seq (.seq (.block 3 (.seq (.ops BO) (.seq (.ops zu) (.cond (.s 30) .ret .skip)))) (.ops w_)),.gst (.keep [0,3,8,9,10,16,17,18] [])]) (λb=>S2 ps i es j b ([enc (⟨i,IntKind.wrap .i64 (j+1)⟩:aY),enc e]::B) more y) G (by kernel_rfl) ?_
 refine OF D ?_;refine Pa 8 false [] (BO.drop 1) [.seq (.seq (.ops zu) (.cond (.s 30) .ret .skip)),.blk 3,.seq (.ops w_),.gst (.keep [0,3,8,9,10,16,17,18] [])] ⟨[(0,.yl y),Iv 3 i,Cv 8 ps,Iv 9 (len ps),Iv 10 i,Cv 16 es,Iv 17 (len es),Iv 18 j,Bv 19 true,Iv 20 j],[],[],([enc (⟨i,IntKind.wrap .i64 (j+1)⟩:aY),enc e]::B),more,y⟩ .i64 rfl (by kernel_rfl) λx h1=>?_
 obtain rfl:x=e:=by rw[D]at h1;cases h1;rfl
 refine Ue 1 false [] (BO.drop 3) [.seq (.seq (.ops zu) (.cond (.s 30) .ret .skip)),.blk 3,.seq (.ops w_),.gst (.keep [0,3,8,9,10,16,17,18] [])] ⟨[(0,.yl y),Iv 3 i,Cv 8 ps,Iv 9 (len ps),Iv 10 i,Cv 16 es,Iv 17 (len es),Iv 18 j,Bv 19 true,Iv 20 j,Cv 22 x],[],[],([enc (⟨i,IntKind.wrap .i64 (j+1)⟩:aY),enc x]::B),more,y⟩ [iv 0,iv 0,iv 0,iv 0,.v .bX] rfl (by simp only[bO,xQ,qh,rY,qz,rV,tg,rQ,tj,qy,sx,xU,tu,tM,s_,tq,vE,vM,rU,tA,SV.cQ];rfl) (by kernel_rfl) ?_
 refine Ast 1 false [] (BO.drop 5) [.seq (.seq (.ops zu) (.cond (.s 30) .ret .skip)),.blk 3,.seq (.ops w_),.gst (.keep [0,3,8,9,10,16,17,18] [])] ⟨[(0,.yl y),Iv 3 i,Cv 8 ps,Iv 9 (len ps),Iv 10 i,Cv 16 es,Iv 17 (len es),Iv 18 j,Bv 19 true,Cv 22 x,Pv 6,Iv 5 j],[Xb 6 (⟨0,0,0,0,.nil⟩:Event)],[],([enc (⟨i,IntKind.wrap .i64 (j+1)⟩:aY),enc x]::B),more,y⟩ 6 0 x [iv 0,iv 0,iv 0,iv 0,.v .bX] ((cells x).map .v) rfl (by kernel_rfl) ?_
 refine Wl (n:=10) (q:=zu.drop 6) (fs':=[.seq (.cond (.s 30) .ret .skip),.blk 3,.seq (.ops w_),.gst (.keep [0,3,8,9,10,16,17,18] [])]) (st:=⟨[(0,.yl y),Iv 3 i,Cv 8 ps,Iv 9 (len ps),Iv 10 i,Cv 16 es,Iv 17 (len es),Iv 18 j,Bv 19 true,(23,.yl y),Cv 27 (⟨i,IntKind.wrap .i64 (j+1)⟩:aY),Cv 28 x],[Xb 6 x],[],([enc (⟨i,IntKind.wrap .i64 (j+1)⟩:aY),enc x]::B),more,y⟩) (vs:=[cv (⟨i,IntKind.wrap .i64 (j+1)⟩:aY),cv x]) (by kernel_rfl) rfl (by kernel_rfl) (by kernel_rfl) rfl rfl ?_
 refine Kt (n:=3) (fo':=.rc (.cond (.s 30) .ret .skip)) (fs':=[.blk 3,.seq (.ops w_),.gst (.keep [0,3,8,9,10,16,17,18] [])]) (λb=>⟨[(0,.yl y),Iv 3 i,Cv 8 ps,Iv 9 (len ps),Iv 10 i,Cv 16 es,Iv 17 (len es),Iv 18 j,Bv 19 true,Bv 30 b],[Xb 6 x],[],B,more,y⟩) J (by kernel_rfl) ?_
 exact Le.of_eq (by kernel_rfl)
abbrev S1 (ps:Sl bT) (i:Int) (b:Bool) (B:List (List V)) (more:Bool) (y:Nat):St:=⟨[(0,.yl y),Cv 8 ps,Iv 9 (len ps),Iv 10 i,Bv 11 b],[],[],B,more,y⟩
theorem UA (ps:Sl bT) (i:Int) (B:List (List V)) (more:Bool) (y:Nat) (D:decide (i<len ps)=false) :
 rn S.bare nO some (.rc NV) [] (I1 ps i B more y)=some (.exit 0,S1 ps i false B more y):=by
 refine Le.get ?_;refine Kf (n:=7) (fo':=.rc (.cond (.s 11) .skip (.exit 0))) (fs':=[.seq (.seq (.block 1 (.seq (.ops JH) (.seq (.ops Hg) U2))) (.ops E5)),.gst (.keep [0,8,9,10] [])]) (λb=>S1 ps i b B more y) D (by kernel_rfl) ?_
 exact Le.of_eq (by kernel_rfl)
def QB:List Fm:=[.blk 2,.blk 1,.seq (.ops E5),.gst (.keep [0,8,9,10] [])]
theorem Ri (ps:Sl bT) (i:Int) (p:bT) (B:List (List V)) (more:Bool) (y:Nat) (r:Out×St) (G:decide (i<len ps)=true) (D:idx ps i=some p)
 (h:rn S.bare nO some (.rc (.loop EL)) QB (I2 ps i p.events 0 B more y)=some r):rn S.bare nO some (.rc NV) [] (I1 ps i B more y)=some r:=by
 refine Le.get ?_;refine Kt (n:=7) (fo':=.rc (.cond (.s 11) .skip (.exit 0))) (fs':=[.seq (.seq (.block 1 (.seq (.ops JH) (.seq (.ops Hg) U2))) (.ops E5)),.gst (.keep [0,8,9,10] [])]) (λb=>S1 ps i b B more y) G (by kernel_rfl) ?_
 refine OF D ?_;refine Pa 8 false [] (JH.drop 1) [.seq (.seq (.ops Hg) U2),.blk 1,.seq (.ops E5),.gst (.keep [0,8,9,10] [])] ⟨[(0,.yl y),Cv 8 ps,Iv 9 (len ps),Iv 10 i,Bv 11 true,Iv 12 i],[],[],B,more,y⟩ .i64 rfl (by kernel_rfl) λx h1=>?_
 obtain rfl:x=p:=by rw[D]at h1;cases h1;rfl
 refine Ue 1 false [] (JH.drop 3) [.seq (.seq (.ops Hg) U2),.blk 1,.seq (.ops E5),.gst (.keep [0,8,9,10] [])] ⟨[(0,.yl y),Cv 8 ps,Iv 9 (len ps),Iv 10 i,Bv 11 true,Iv 12 i,Cv 14 x],[],[],B,more,y⟩ [.v (.str ByteArray.empty),.v .bX,.v .bX] rfl (by simp only[bO,xQ,qh,rY,qz,rV,tg,rQ,tj,qy,sx,xU,tu,tM,s_,tq,vE,vM,rU,tA,SV.cQ];rfl) (by kernel_rfl) ?_
 refine Ast 1 false [] (JH.drop 5) [.seq (.seq (.ops Hg) U2),.blk 1,.seq (.ops E5),.gst (.keep [0,8,9,10] [])] ⟨[(0,.yl y),Cv 8 ps,Iv 9 (len ps),Iv 10 i,Bv 11 true,Cv 14 x,Pv 4,Iv 3 i],[Xb 4 (⟨ByteArray.empty,.nil,.nil⟩:bT)],[],B,more,y⟩ 4 0 x [.v (.str ByteArray.empty),.v .bX,.v .bX] ((cells x).map .v) rfl (by kernel_rfl) ?_
 refine UI 6 false [] (Hg.drop 2) [.seq U2,.blk 1,.seq (.ops E5),.gst (.keep [0,8,9,10] [])] ⟨[(0,.yl y),Cv 8 ps,Iv 9 (len ps),Iv 10 i,Bv 11 true,Pv 4,Iv 3 i,Cv 16 x.events],[Xb 4 x],[],B,more,y⟩ x.events rfl (by kernel_rfl) ?_
 refine Ak (n:=5) (fo':=.rc (.loop EL)) (fs':=QB) (st':=I2 ps i x.events 0 B more y) (by kernel_rfl) (Le.of_eq h)
theorem R2 (ps:Sl bT) (i:Int) (es:Sl Event) (j:Int) (B:List (List V)) (more:Bool) (y:Nat) :
 rn S.bare nO some (.ex 2) QB (S2 ps i es j false B more y)=some (.norm,I1 ps (IntKind.wrap .i64 (i+1)) B more y):=by kernel_rfl
theorem wrap_small (n:Nat) (h:n<9223372036854775807):IntKind.wrap .i64 ((n:Int)+1)=((n+1:Nat):Int):=by
 simp[IntKind.wrap,IntKind.bits,IntKind.signed];omega
abbrev eI (x:aY×Event):List V:=[enc x.1,enc x.2]
theorem uj.step {x:List V} {D rest:List (List V)} {more:Bool} (h:uj D (x::rest) more):∃B,D=x::B/\((!(more || !B.isEmpty))=false/\uj B rest more\/(!(more || !B.isEmpty))=true/\B=[]):=by
 rcases h with⟨rfl,rfl⟩|⟨rfl,u,r,hr⟩
 .exact⟨rest,rfl,.inl ⟨rfl,.inl ⟨rfl,rfl⟩⟩⟩
 .cases D with
  | nil=>exact absurd rfl u
  | cons w D=>
   simp only[List.cons_append,List.cons.injEq]at hr;obtain⟨rfl,rfl⟩:=hr;refine⟨D,rfl,?_⟩
   cases D with
   | nil=>exact .inr ⟨rfl,rfl⟩
   | cons z A=>exact .inl ⟨rfl,.inr ⟨rfl,by simp,r,rfl⟩⟩
theorem ta {α:Type} {s:Sl α} {j:Nat} {x:α} {r:List α} (h:s.l.drop j=x::r):idx s (j:Int)=some x/\decide ((j:Int)<len s)=true/\s.l.drop (j+1)=r:=by
 have h1:j<s.l.length:=by
  apply Classical.byContradiction;intro w;rw[List.drop_eq_nil_of_le (by omega)]at h;cases h
 have u:=List.drop_eq_getElem_cons h1;rw[u]at h;simp only[List.cons.injEq]at h;refine⟨?_,by simp[len,h1],h.2⟩
 unfold idx;rw[if_pos (by omega)]
 simp[ζd h1,h.1]
variable {Q:Out×St->Option (Out×St)} {fs:List Fm}
theorem inner (ps:Sl bT) (i:Int) (es:Sl Event) (U:es.l.length<9223372036854775807) (more:Bool) (y:Nat) (R:List (List V)):∀(rem:List Event) (j:Nat),es.l.drop j=rem->∀D,uj D ((iC i j rem).map eI++R) more ->
 (∃(B:List (List V)) (W:Int),uj B R more/\rn S.bare nO Q (.rc (.loop EL)) fs (I2 ps i es j D more y)=rn S.bare nO Q (.ex 2) fs (S2 ps i es W false B more y)) \/
 (∃st':St,st'.want=[]/\rn S.bare nO Q (.rc (.loop EL)) fs (I2 ps i es j D more y)=Q (.ret,st'))
 | [],j,hd,D,G=>by
  have h1:decide ((j:Int)<len es)=false:=by
   have:es.l.length<=j:=by simpa using hd
   simp[len];omega
  exact .inl ⟨D,j,by simpa [iC]using G,FU (UO ps i es j D more y h1)⟩
 | e::rem,j,hd,D,G=>by
  obtain⟨h1,z,O⟩:=ta hd;have X:j<es.l.length:=by simpa [len]using z
  simp only[iC,List.map_cons,List.cons_append]at G;obtain⟨B,rfl,u⟩:=uj.step G;have A:=wrap_small j (by omega)
  have w:((j:Int)+1)=IntKind.wrap .i64 ((j:Int)+1):=by rw[A];simp
  rcases u with⟨u,C⟩|⟨u,rfl⟩
  .have k:=VF (S:=S) ps i es j e B more y z h1 u;rw[<-w]at k;have J:=FB (Q:=Q) (fs:=fs) k;have L:=inner ps i es U more y R rem (j+1) O B (by push_cast;exact C)
   rw[show ((j+1:Nat):Int)=(j:Int)+1 from rfl]at L;rcases L with⟨I,T,g1,g2⟩|⟨st',g1,g2⟩
   .exact .inl ⟨I,T,g1,J.trans g2⟩
   .exact .inr ⟨st',g1,J.trans g2⟩
  .have k:=Tp (S:=S) ps i es j e [] more y z h1 u;rw[<-w]at k;exact .inr ⟨_,by rfl,E8 k⟩
theorem outer (ps:Sl bT) (J:ps.l.length<9223372036854775807) (D:∀p∈ps.l,p.events.l.length<9223372036854775807) (more:Bool) (y:Nat):∀(rem:List bT) (i:Nat),ps.l.drop i=rem->∀B,uj B ((fJ i rem).map eI) more ->
 rn S.bare nO Qi (.rc (.loop NV)) [.blk 0] (I1 ps i B more y)=some ()
 | [],i,hd,B,G=>by
  have h1:decide ((i:Int)<len ps)=false:=by
   have:ps.l.length<=i:=by simpa using hd
   simp[len];omega
  rw[FU (UA ps i B more y h1)];have:B=[]:=by
   rcases G with⟨_,rfl⟩|⟨_,A,r,hr⟩
   .rfl
   .have:B=[]:=by cases B with
     | nil=>rfl
     | cons=>simp[fJ]at hr
    exact absurd this A
  subst this;rfl
 | p::rem,i,hd,B,G=>by
  obtain⟨h1,u,C⟩:=ta hd;have hi:i<ps.l.length:=by simpa [len]using u
  have I:p∈ps.l:=List.mem_of_mem_drop (i:=i) (by rw[hd];exact List.mem_cons_self ..)
  simp only[fJ,List.map_append]at G;have w:=wrap_small i (by omega)
  rcases inner (S:=S) (Q:=some) (fs:=QB) ps i p.events (D p I) more y _ p.events.l 0 rfl B G with⟨z,L,g1,g2⟩|⟨st',g1,g2⟩
  .rw[R2,w]at g2;rw[FB (Ri ps i p B more y _ u h1 g2)];exact outer ps J D more y rem (i+1) C z g1
  .rw[E8 (Ri ps i p B more y _ u h1 g2)];simp[Qi,g1]
theorem all (t:Trace) (B:List (aY×Event)) (h:ja t=some B) (D:List (List V)) (more:Bool) (G:uj D (B.map eI) more) (y:Nat) :
 rn S.bare nO Qi (.rc text.body) [] ⟨uW 0 (([]:List V).map .v++.yl y::[V.fptr (cells t)].map .v),[],[],D,more,y⟩=some ():=by
 unfold ja at h;split at h
 .rename_i hk;cases h;simp only[ζh,List.all_eq_true,oD,decide_eq_true_eq]at hk;refine Le.get ?_;refine UI 4 false [] (Qa.drop 2) [.seq U1] ⟨[(0,.yl y),Cv 8 t.procs],[],[],D,more,y⟩ t.procs rfl (by kernel_rfl) ?_
  refine Ak (n:=5) (fo':=.rc (.loop NV)) (fs':=[.blk 0]) (st':=I1 t.procs 0 D more y) (by kernel_rfl) (Le.of_eq ?_)
  exact outer t.procs hk.1 hk.2 more y t.procs.l 0 rfl D G
 .cases h
end
theorem vJ {α:Type} [bC α] {a b:Sl α} (h:cq a=cq b):rows a.l=rows b.l:=by
 cases a <;> cases b <;> first|rfl|(simp only[cq,Sl.k,ox,V.fsl.injEq,true_and,reduceCtorEq]at h;done)|(simp only[cq,Sl.k,ox,V.fsl.injEq,true_and,reduceCtorEq]at h;exact h)
theorem vT (p:Int):∀(es B:List Event) (j:Int),rows es=rows B->(iC p j es).map eI=(iC p j B).map eI
 | [],[],_,_=>rfl
 | [],_::_,_,h=>by simp[rows]at h
 | _::_,[],_,h=>by simp[rows]at h
 | e::es,D::B,j,h=>by
  simp only[rows,List.map_cons,List.cons.injEq]at h;have h1:enc e=enc D:=by show V.agg (cells e)=V.agg (cells D);rw[h.1]
  simp only[iC,List.map_cons,eI,h1,vT p es B (j+1) h.2]
theorem DD:∀(ps B:List bT) (i:Int),rows ps=rows B->(fJ i ps).map eI=(fJ i B).map eI
 | [],[],_,_=>rfl
 | [],_::_,_,h=>by simp[rows]at h
 | _::_,[],_,h=>by simp[rows]at h
 | p::ps,p'::B,i,h=>by
  simp only[rows,List.map_cons,List.cons.injEq]at h;have h1:cq p.events=cq p'.events:=by
   have:=h.1;change [V.str p.name,cq p.vars,cq p.events]=[V.str p'.name,cq p'.vars,cq p'.events]at this;simp only[List.cons.injEq]at this;exact this.2.2.1
  simp only[fJ,List.map_append,vT i _ _ 0 (vJ h1),DD ps B (i+1) h.2]
def vj (f:FuncId) (g:FuncId) (a b:List V) (xs:List (List V)):Prop:=∃(t:Trace) (u:List (aY×Event)),g=f/\a=[]/\b=[.fptr (cells t)]/\ja t=some u/\xs=u.map eI
theorem vj.uniq {f g:FuncId} {a b:List V} {xs ys:List (List V)} (h:vj f g a b xs) (k:vj f g a b ys):xs=ys:=by
 obtain⟨t,B,rfl,rfl,rfl,h1,rfl⟩:=h;obtain⟨z,A,_,_,w,u,rfl⟩:=k;simp only[List.cons.injEq,V.fptr.injEq,and_true]at w;have C:cq t.procs=cq z.procs:=by
  change [cq t.procs]=[cq z.procs]at w;simpa using w
 unfold ja at h1 u;split at h1 <;> split at u <;> simp only[ζa,reduceCtorEq]at h1 u;subst h1 u;exact DD _ _ 0 (vJ C)
end trace_events_c1
end Go.VE
namespace Go.VE
open Go.Proofs.YtlmckmkfopljoaaGreatDoor
noncomputable section
noncomputable def Gt (f:FuncId):Option JD:=none
noncomputable def Sb:Sys:=⟨E,λn=>n,λ_ _ _=>none,yb E,Gt⟩
theorem GA:∀f q,Gt f=some q->pL E f q:=by
 intro f q h;unfold Gt at h;cases h
def Tx:qb:=Pw E some (lk Ku)
abbrev cB:bZ:=dO Sb Tx
theorem Vb:u6 Sb Tx where
 fn f rf h:=let ⟨u,h1,w⟩:=B8 h;⟨u,some,h1,xR,w⟩
 wX f z y h:=E9 h
 prm:=GA
theorem NL:∀f a b xs,Sb.items f a b=some xs->e_ Sb f a b xs:=λf a b xs h=>by cases h
end
end Go.VE
namespace Go.VE
noncomputable section
namespace IB
def gE (s0:Sl Int):Option (Sl Int):=
 (Sl.isNil s0).bind λu=>
 a_ u
 (some Sl.nil)
 ((zg (Sl.row []:Sl Int) s0).bind λw=>
 some w)
theorem oe:BU Sb cB 168 (λs0:Sl Int=>[enc s0]) (λz=>gE z):=BU.mk' (qG (Tx 168)) (λs0=>Ug 9 λu _=>bp 2 4 aZ (M8 7 5 7 λw _=>aZ))
namespace cr
def fe (k6:Int) (U:Sl Event) (W Y:Int) (G:Sl Assign) (J:Int) (ws:List (List V)) (B:Sl Int) (D:Int) (more:Bool):Option (Fw ((Sl Int)×Int) (Sl Int) Empty):=
 a_ (decide (D<J))
 ((idx G D).bind λu=>
 (Sl.rT B u.var).bind λw=>
 (Sl.put B w (u.value:Int)).bind λz=>
 some (.n (z,IntKind.wrap .i64 (D+1))))
 (some (.x B))
def W3 (B:Sl Int) (k6:Int) (J:Sl Event) (D G:Int) (U:Sl Assign) (W Y:Int) (ws:List (List V)) (more:Bool):Option (Fw ((Sl Int)×Int×Int×(List (List V))) (List (List V)) (List (List V))):=
 (bV (λq:(Sl Int)×Int=>fe k6 J D G U W ws q.1 q.2 more) (B,Y)).bind (Fw.elim
 (λe=>((gE e).bind Sl.whole).bind λw=>
 (yl ws more [.int .i64 (IntKind.wrap .i64 (k6+1)),enc w]).bind λu=>
 a_ u.1
 (some (.n (e,D,IntKind.wrap .i64 (G+1),u.2)))
 (some (.r u.2)))
 (λe=>Empty.elim e))
def b9 (D:Sl Event) (G:Sl Int) (J B:Int) (U:List (List V)) (more:Bool):Option (Fw ((Sl Int)×Int×Int×(List (List V))) (List (List V)) (List (List V))):=
 a_ (decide (B<J))
 ((idx D B).bind λu=>
 W3 G B D J B u.assign (len u.assign) 0 U more)
 (some (.x U))
def W2 (B:Sl Int) (D:Sl Event) (G J:Int) (U:List (List V)) (more:Bool):Option (List (List V)):=
 (bV (λq:(Sl Int)×Int×Int×(List (List V))=>b9 D q.1 q.2.1 q.2.2.1 q.2.2.2 more) (B,G,J,U)).bind (Fw.elim
 (λe=>some e)
 (λe=>some e))
def bu (U:bT) (G:Sl Var) (J:Int) (W:List (List V)) (B:Sl Int) (D:Int) (more:Bool):Option (Fw ((Sl Int)×Int) (Sl Int) Empty):=
 a_ (decide (D<J))
 ((idx G D).bind λu=>
 (jf B (u.init_:Int)).bind λw=>
 some (.n (w,IntKind.wrap .i64 (D+1))))
 (some (.x B))
def W1 (B:bT) (D:Sl Int) (G:Sl Var) (J U:Int) (W:List (List V)) (more:Bool):Option (List (List V)):=
 (bV (λq:(Sl Int)×Int=>bu B G J W q.1 q.2 more) (D,U)).bind (Fw.elim
 (λe=>((gE e).bind Sl.whole).bind λw=>
 (yl W more [.int .i64 0,enc w]).bind λu=>
 a_ u.1
 (cr.W2 e B.events (len B.events) 0 u.2 more)
 (some u.2))
 (λe=>Empty.elim e))
end cr
def cr (D:List (List V)) (B:bT) (more:Bool):Option (List (List V)):=
 cr.W1 B (Sl.nil:Sl Int) B.vars (len B.vars) 0 D more
open cr in
theorem xS (more:Bool) (y:Nat) (J:List (List V)) (B:bT):Le ((cr J B more).bind λr=>some r) (cn Sb cB Qw (.rc (tb Tx 179),[],⟨uW 0 (.yl y::[V.fptr (cells B)].map .v),[],[],J,more,y⟩)):=
 ct 10 B.vars (jM 6 (λA=>⟨[(0,.yl y),Kv 1 B,Ov 3,Cv 11 B.vars,Iv 12 (len B.vars),Iv 13 A.2],[Lb 2003 A.1],[],J,more,y⟩) (λC=>(0,⟨[(0,.yl y),Kv 1 B,Ov 3],[Lb 2003 C],[],J,more,y⟩)) (λA=>bp 8 14 (bG 7 λS _=>xB 10 2003 20 21 λT _=>aZ) aZ) (λC=>QW 7 25 oe C λI _=>Wr 1 [.int .i64 0,enc I] λQ _=>cF 3 27 (ct 7 B.events (dS 6 (λu=>⟨[(0,.yl y),Ov 3,Cv 29 B.events,Iv 30 u.2.1,Iv 31 u.2.2.1],[Lb 2003 u.1],[],u.2.2.2,more,y⟩) (λw=>(2,⟨[],[],[],w,more,y⟩)) (λw=>⟨[],[],[],w,more,y⟩) (λu=>bp 8 32 (bG 8 λz _=>mS 3 7 0 z (ct 7 z.assign (jM 6 (λD=>⟨[(0,.yl y),Ov 3,Iv 6 u.2.2.1,Cv 29 B.events,Iv 30 u.2.1,Iv 31 u.2.2.1,Cv 37 z.assign,Iv 38 (len z.assign),Iv 39 D.2],[Lb 2003 D.1],[],u.2.2.2,more,y⟩) (λG=>(4,⟨[(0,.yl y),Ov 3,Iv 6 u.2.2.1,Cv 29 B.events,Iv 30 u.2.1,Iv 31 u.2.2.1],[Lb 2003 G],[],u.2.2.2,more,y⟩)) (λD=>bp 8 40 (bG 7 λL _=>xG .i64 11 2003 λU _=>OK 0 2003 (.int .i64 L.value) λW _=>aZ) aZ) (λG=>QW 8 54 oe G λO _=>Wr 1 [.int .i64 (IntKind.wrap .i64 (u.2.2.1+1)),enc O] λX _=>cF 3 56 aZ aZ)))) aZ) (λw=>aZ) (λw=>aZ))) aZ))
end IB
end
end Go.VE
namespace Go.VE
open IB
def vz:List Assign->Sl Int->Option (Sl Int)
 | [],s=>some s
 | a::r,s=>(Sl.rT s a.var).bind λj=>(Sl.put s j a.value).bind (vz r)
def vk:List Var->Sl Int->Option (Sl Int)
 | [],s=>some s
 | v::r,s=>(jf s v.init_).bind (vk r)
def Li (s:Sl Int):Option (Sl Int):=(gE s).bind Sl.whole
def vf:Int->List Event->Sl Int->Option (List (Int×Sl Int))
 | _,[],_=>some []
 | k,e::r,s=>(vz e.assign.l s).bind λn=>(Li n).bind λc=>(vf (k+1) r n).map ((k+1,c)::·)
def iY (p:bT):Option (List (Int×Sl Int)):=
 if oD p.vars.l.length&&(oD p.events.l.length&&p.events.l.all λe=>oD e.assign.l.length)then
  (vk p.vars.l .nil).bind λs=>(Li s).bind λc=>(vf 0 p.events.l s).map ((0,c)::·)
 else none
namespace IST
abbrev eI (x:Int×Sl Int):List V:=[enc x.1,enc x.2]
theorem B0 {n:Nat} (h:oD n=true):n<9223372036854775807:=by simpa [oD]using h
theorem wrap_small (n:Nat) (h:n<9223372036854775807):IntKind.wrap .i64 ((n:Int)+1)=((n+1:Nat):Int):=by
 simp[IntKind.wrap,IntKind.bits,IntKind.signed];omega
theorem ta {α:Type} {s:Sl α} {j:Nat} {x:α} {r:List α} (h:s.l.drop j=x::r):idx s (j:Int)=some x/\decide ((j:Int)<len s)=true/\s.l.drop (j+1)=r:=by
 have h1:j<s.l.length:=by
  apply Classical.byContradiction;intro w;rw[List.drop_eq_nil_of_le (by omega)]at h;cases h
 have u:=List.drop_eq_getElem_cons h1;rw[u]at h;simp only[List.cons.injEq]at h;refine⟨?_,by simp[len,h1],h.2⟩
 unfold idx;rw[if_pos (by omega)]
 simp[ζd h1,h.1]
theorem GR {α:Type} {s:Sl α} {j:Nat} (h:s.l.drop j=[]):decide ((j:Int)<len s)=false:=by
 have:s.l.length<=j:=by simpa using h
 simp[len];omega
theorem Wo (p:bT) (v:Sl Var) (J:v.l.length<9223372036854775807) (D:List (List V)) (more:Bool):∀(rem:List Var) (j:Nat),v.l.drop j=rem->∀s B,vk rem s=some B ->
 bV (λq:Sl Int×Int=>cr.bu p v (len v) D q.1 q.2 more) (s,(j:Int))=some (.x B)
 | [],j,hd,s,B,h=>by
  cases h;rw[eH];simp only[cr.bu,GR hd,a_,ζb,Bool.false_eq_true,if_false]
 | x::rem,j,hd,s,B,h=>by
  obtain⟨h1,G,U⟩:=ta hd;have w:j<v.l.length:=by simpa [len]using G
  simp only[vk,ζg]at h;obtain⟨n,u,h⟩:=h;rw[eH];simp only[cr.bu,h1,G,u,a_,ζb,if_true,wrap_small j (by omega)]
  exact Wo p v J D more rem (j+1) U n B h
theorem set (k:Int) (es:Sl Event) (a b:Int) (v:Sl Assign) (J:v.l.length<9223372036854775807) (D:List (List V)) (more:Bool):∀(rem:List Assign) (j:Nat),v.l.drop j=rem->∀s B,vz rem s=some B ->
 bV (λq:Sl Int×Int=>cr.fe k es a b v (len v) D q.1 q.2 more) (s,(j:Int))=some (.x B)
 | [],j,hd,s,B,h=>by
  cases h;rw[eH];simp only[cr.fe,GR hd,a_,ζb,Bool.false_eq_true,if_false]
 | x::rem,j,hd,s,B,h=>by
  obtain⟨h1,G,U⟩:=ta hd;have w:j<v.l.length:=by simpa [len]using G
  simp only[vz,ζg]at h;obtain⟨i,hi,n,u,h⟩:=h;rw[eH];simp only[cr.fe,h1,G,hi,u,a_,ζb,if_true,wrap_small j (by omega)]
  exact set k es a b v J D more rem (j+1) U n B h
theorem uj.step {x:List V} {D rest:List (List V)} {more:Bool} (h:uj D (x::rest) more):∃B,yl D more x=some ((more || !B.isEmpty),B)/\((more || !B.isEmpty)=true/\uj B rest more\/(more || !B.isEmpty)=false/\B=[]):=by
 rcases h with⟨rfl,rfl⟩|⟨rfl,u,r,hr⟩
 .exact⟨rest,by simp[yl],.inl ⟨rfl,.inl ⟨rfl,rfl⟩⟩⟩
 .cases D with
  | nil=>exact absurd rfl u
  | cons w D=>
   simp only[List.cons_append,List.cons.injEq]at hr;obtain⟨rfl,rfl⟩:=hr;refine⟨D,by simp[yl],?_⟩
   cases D with
   | nil=>exact .inr ⟨rfl,rfl⟩
   | cons z A=>exact .inl ⟨rfl,.inr ⟨rfl,by simp,r,rfl⟩⟩
theorem e8 (es:Sl Event) (W:es.l.length<9223372036854775807) (G:∀e∈es.l,e.assign.l.length<9223372036854775807) (more:Bool):∀(rem:List Event) (j:Nat),es.l.drop j=rem->∀s B,vf (j:Int) rem s=some B->∀D,uj D (B.map eI) more ->
 ∃J:List (List V),J=[]/\(bV (λq:Sl Int×Int×Int×List (List V)=>cr.b9 es q.1 q.2.1 q.2.2.1 q.2.2.2 more) (s,len es,(j:Int),D)=some (.x J)\/bV (λq:Sl Int×Int×Int×List (List V)=>cr.b9 es q.1 q.2.1 q.2.2.1 q.2.2.2 more) (s,len es,(j:Int),D)=some (.r J))
 | [],j,hd,s,B,h,D,U=>by
  cases h;have:D=[]:=by
   rcases U with⟨_,rfl⟩|⟨_,I,r,hr⟩
   .rfl
   .cases D with
    | nil=>rfl
    | cons=>simp at hr
  subst this;refine⟨[],rfl,.inl ?_⟩;rw[eH];simp only[cr.b9,GR hd,a_,ζb,Bool.false_eq_true,if_false]
 | e::rem,j,hd,s,B,h,D,U=>by
  obtain⟨h1,C,L⟩:=ta hd;have Y:j<es.l.length:=by simpa [len]using C
  have O:e∈es.l:=List.mem_of_mem_drop (i:=j) (by rw[hd];exact List.mem_cons_self ..)
  simp only[vf,ζg,ζf]at h;obtain⟨n,I,c,hc,r,hr,rfl⟩:=h;have hc:(gE n).bind Sl.whole=some c:=hc;obtain⟨w,z,Q⟩:=uj.step U;have A:=wrap_small j (by omega)
  have z:yl D more [.int .i64 ((j+1:Nat):Int),enc c]=some ((more || !w.isEmpty),w):=z;rw[eH];have u:=set j es (len es) j e.assign (G e O) D more e.assign.l 0 rfl s n I;rw[show ((0:Nat):Int)=0 from rfl]at u;rcases Q with⟨g1,g2⟩|⟨g1,rfl⟩
  .obtain⟨S,T,X⟩:=e8 es W G more rem (j+1) L n r hr w g2;refine⟨S,T,?_⟩;rw[g1]at z;simp only[cr.b9,cr.W3,h1,C,u,hc,z,a_,ζb,if_true,Fw.elim,A];exact X
  .refine⟨[],rfl,.inr ?_⟩;rw[g1]at z;simp only[cr.b9,cr.W3,h1,C,u,hc,A,z,a_,ζb,if_true,if_false,Bool.false_eq_true,Fw.elim]
theorem all (p:bT) (B:List (Int×Sl Int)) (h:iY p=some B) (D:List (List V)) (more:Bool) (G:uj D (B.map eI) more):cr D p more=some []:=by
 unfold iY at h;split at h
 .rename_i hk;simp only[ζh,List.all_eq_true]at hk;obtain⟨k1,A,C⟩:=hk;simp only[ζg,ζf]at h;obtain⟨s,I,c,hc,r,hr,rfl⟩:=h;have hc:(gE s).bind Sl.whole=some c:=hc;obtain⟨u,w,J⟩:=uj.step G;have hi:=Wo p p.vars (B0 k1) D more p.vars.l 0 rfl .nil s I;rw[show ((0:Nat):Int)=0 from rfl]at hi;have w:yl D more [.int .i64 0,enc c]=some ((more || !u.isEmpty),u):=w;unfold cr cr.W1;simp only[hi,ζb,Fw.elim,hc,w];rcases J with⟨g1,g2⟩|⟨g1,rfl⟩
  .obtain⟨O,rfl,z⟩:=e8 p.events (B0 A) (λe L=>B0 (C e L)) more p.events.l 0 rfl s r hr u g2
   rw[show ((0:Nat):Int)=0 from rfl]at z;rw[g1];simp only[a_,if_true,cr.W2];rcases z with q|q <;> (rw[q];rfl)
  .rw[g1];rfl
 .cases h
theorem vJ {α:Type} [bC α] {a b:Sl α} (h:cq a=cq b):rows a.l=rows b.l:=by
 cases a <;> cases b <;> first|rfl|(simp only[cq,Sl.k,ox,V.fsl.injEq,true_and,reduceCtorEq]at h;done)|(simp only[cq,Sl.k,ox,V.fsl.injEq,true_and,reduceCtorEq]at h;exact h)
theorem G9:∀(a b:List Var),rows a=rows b->∀s,vk a s=vk b s
 | [],[],_,_=>rfl
 | [],_::_,h,_=>by simp[rows]at h
 | _::_,[],h,_=>by simp[rows]at h
 | x::a,y::b,h,s=>by
  simp only[rows,List.map_cons,List.cons.injEq]at h;have h1:x.init_=y.init_:=by
   have:=h.1;change [V.str x.name,V.int .i64 x.init_]=[V.str y.name,V.int .i64 y.init_]at this;simpa using (List.cons.inj (List.cons.inj this).2).1
  simp only[vk,h1,funext (G9 a b h.2)]
theorem HM:∀(a b:List Assign),rows a=rows b->∀s,vz a s=vz b s
 | [],[],_,_=>rfl
 | [],_::_,h,_=>by simp[rows]at h
 | _::_,[],h,_=>by simp[rows]at h
 | x::a,y::b,h,s=>by
  simp only[rows,List.map_cons,List.cons.injEq]at h;have h1:=h.1;change [V.int .i64 x.var,V.int .i64 x.value]=[V.int .i64 y.var,V.int .i64 y.value]at h1;simp only[List.cons.injEq,V.int.injEq,true_and,and_true]at h1;simp only[vz,h1.1,h1.2,funext (HM a b h.2)]
theorem GM {x y:Event} (h:cells x=cells y):rows x.assign.l=rows y.assign.l:=by
 change [V.int .i64 x.kind,V.int .i64 x.peer,V.int .i64 x.message,V.int .i64 x.time,cq x.assign]=[V.int .i64 y.kind,V.int .i64 y.peer,V.int .i64 y.message,V.int .i64 y.time,cq y.assign]at h;simp only[List.cons.injEq]at h;exact vJ h.2.2.2.2.1
theorem vT:∀(a b:List Event),rows a=rows b->∀k s,vf k a s=vf k b s
 | [],[],_,_,_=>rfl
 | [],_::_,h,_,_=>by simp[rows]at h
 | _::_,[],h,_,_=>by simp[rows]at h
 | x::a,y::b,h,k,s=>by
  simp only[rows,List.map_cons,List.cons.injEq]at h;simp only[vf,HM _ _ (GM h.1),vT a b h.2]
theorem Cz {α:Type} [bC α] {a b:List α} (h:rows a=rows b):a.length=b.length:=by
 have:=congrArg List.length h;simpa [rows]using this
theorem He:∀(a b:List Event),rows a=rows b->(a.all λe=>oD e.assign.l.length)=b.all λe=>oD e.assign.l.length
 | [],[],_=>rfl
 | [],_::_,h=>by simp[rows]at h
 | _::_,[],h=>by simp[rows]at h
 | x::a,y::b,h=>by
  simp only[rows,List.map_cons,List.cons.injEq]at h;simp only[List.all_cons,Cz (GM h.1),He a b h.2]
def vj (f:FuncId) (g:FuncId) (a b:List V) (xs:List (List V)):Prop:=∃(p:bT) (u:List (Int×Sl Int)),g=f/\a=[]/\b=[.fptr (cells p)]/\iY p=some u/\xs=u.map eI
theorem vj.uniq {f g:FuncId} {a b:List V} {xs ys:List (List V)} (h:vj f g a b xs) (k:vj f g a b ys):xs=ys:=by
 obtain⟨p,B,rfl,rfl,rfl,h1,rfl⟩:=h;obtain⟨w,z,_,_,u,A,rfl⟩:=k;simp only[List.cons.injEq,V.fptr.injEq,and_true]at u;change [V.str p.name,cq p.vars,cq p.events]=[V.str w.name,cq w.vars,cq w.events]at u;simp only[List.cons.injEq]at u;have r1:=vJ u.2.1;have r2:=vJ u.2.2.1;unfold iY at h1 A;rw[Cz r1,Cz r2,He _ _ r2,G9 _ _ r1,funext (λs=>vT _ _ r2 0 s)]at h1
 have e:=h1.symm.trans A;cases e;rfl
end IST
end Go.VE
namespace Go.VE
open Go.Proofs.YtlmckmkfopljoaaGreatDoor
noncomputable section
def G4 (f:FuncId) (a b:List V) (xs:List (List V)):Prop:=trace_events_c1.vj 184 f a b xs\/IST.vj 179 f a b xs
noncomputable def Sy:Sys:=⟨E,λn=>n,xY G4,yb E,Gt⟩
abbrev cL:bZ:=dO Sy Tx
theorem Uc:∃fi,E.ft 184=some fi/\wH E some fi trace_events_c1.text:=Up (by kernel_rfl)
theorem QT:u6 Sy Tx where
 fn f rf h:=let ⟨u,h1,w⟩:=B8 h;⟨u,some,h1,xR,w⟩
 wX f z y h:=E9 h
 prm:=GA
theorem Hq (p:bT) (B:List (Int×Sl Int)) (h1:iY p=some B):e_ Sy 179 [] [.fptr (cells p)] (B.map IST.eI):=by
 have w:Tx 179=some (qG (Tx 179)):=Aw (by kernel_rfl)
 obtain⟨D,z,A⟩:=B8 w;have e1:Nat.ble (([]:List V).length+1+[V.fptr (cells p)].length) (qG (Tx 179)).na=true:=by kernel_rfl
 have e2:(qG (Tx 179)).rs=[]:=by kernel_rfl
 have e3:Sy.E=Sb.E:=rfl;exact O_ e3 GA (tV Vb NL) NL z xR A (Nat.le_of_ble_eq_true e1) e2 λu more C y=>IB.xS more y u p [] (by rw[IST.all p B h1 u more C];rfl)
theorem JZ:∀f a b xs,Sy.items f a b=some xs->e_ Sy f a b xs:=by
 intro f a b xs h;have h:G4 f a b xs:=LG h;rcases h with h|h
 .obtain⟨t,u,rfl,rfl,rfl,h1,rfl⟩:=h;obtain⟨C,w,z⟩:=Uc;exact OQ Sy w xR z (Nat.le_of_ble_eq_true rfl) rfl λA more B y=>trace_events_c1.all t u h1 A more B y
 .obtain⟨p,u,rfl,rfl,rfl,h1,rfl⟩:=h;exact Hq p u h1
theorem yM (t:Trace) (B:List (aY×Event)) (h:ja t=some B):Sy.items 184 [] [.fptr (cells t)]=some (B.map λx:aY×Event=>[enc x.1,enc x.2]):=
 Dn (.inl ⟨t,B,rfl,rfl,rfl,h,rfl⟩) (λu hy=>by rcases hy with hy|hy <;> first|exact hy.uniq ⟨t,B,rfl,rfl,rfl,h,rfl⟩|(obtain⟨_,_,hy,_⟩:=hy;exact absurd hy (by decide)))
theorem FH (p:bT) (B:List (Int×Sl Int)) (h:iY p=some B):Sy.items 179 [] [.fptr (cells p)]=some (B.map λx:Int×Sl Int=>[enc x.1,enc x.2]):=
 Dn (.inr ⟨p,B,rfl,rfl,rfl,h,rfl⟩) (λu hy=>by rcases hy with hy|hy <;> first|exact hy.uniq ⟨p,B,rfl,rfl,rfl,h,rfl⟩|(obtain⟨_,_,hy,_⟩:=hy;exact absurd hy (by decide)))
theorem Nz:Sy.wX 10 []=some (.bool true):=ET (Jk rfl ⟨1,[],by kernel_rfl⟩)
end
end Go.VE
namespace Go.VE
noncomputable section
def uJ (D:Trace) (B:aY):Option Event:=
 (idx D.procs B.proc).bind λu=>
 (idx u.events (IntKind.wrap .i64 (B.index-1))).bind λw=>
 some w
instance Vk (B:Trace) (D:aY):Fc Sy cL (uJ B D):=Fc.N 115 [enc B,enc D] (bY 2 2 B (bG 10 λw _=>bG 5 λu _=>mS 1 4 0 u aZ))
namespace dL
def b9 (B G p7:Int) (D:Trace) (J:aY) (i8:Int):Option (Fw Int Unit aY):=
 (idx D.procs p7).bind λw=>
 a_ (decide (i8<(len w.events)))
 ((idx D.procs p7).bind λz=>
 (idx z.events i8).bind λu=>
 (a_ (u.kind==B)
 (some (u.message==G))
 (some false):Option Bool).bind λA=>
 a_ A
 (some (.r (⟨p7,IntKind.wrap .i64 (i8+1)⟩:aY)))
 (some (.n (IntKind.wrap .i64 (i8+1)))))
 (some (.x ()))
def W2 (B J p7 i8:Int) (D:Trace) (G:aY):Option (Fw Int Unit aY):=
 (bV (λq:Int=>b9 B J p7 D G q) i8).bind (Fw.elim
 (λe=>some (.n (IntKind.wrap .i64 (p7+1))))
 (λe=>some (.r e)))
def bu (B J:Int) (D:Trace) (G:aY) (p7:Int):Option (Fw Int Unit aY):=
 a_ (decide (p7<(len D.procs)))
 (W2 B J p7 0 D G)
 (some (.x ()))
def W1 (B J p7:Int) (D:Trace) (G:aY):Option aY:=
 (bV (λq:Int=>bu B J D G q) p7).bind (Fw.elim
 (λe=>some ⟨0,0⟩)
 (λe=>some e))
end dL
def dL (D:Trace) (B G:Int):Option aY:=
 dL.W1 B G 0 D (⟨0,0⟩:aY)
open dL in
instance TS (D:Trace) (B G:Int):Fc Sy cL (dL D B G):=Fc.M 54 [enc D,.int .i64 B,.int .i64 G] (bY 2 3 D (dS 11 (λu=>(bO [Iv 1 B,Iv 2 G,Pv 3,Pv 6,Iv 7 u] [Xb 3 D,Xb 6 (⟨0,0⟩:aY)])) (λw=>(0,(bO [Pv 6] [Xb 6 (⟨0,0⟩:aY)]))) (λw=>(bO [Pv 6] [Xb 6 w])) (λu=>ct 7 D.procs (bp 3 14 (dS 12 (λA=>(bO [Iv 1 B,Iv 2 G,Pv 3,Pv 6,Iv 7 u,Iv 8 A] [Xb 3 D,Xb 6 (⟨0,0⟩:aY)])) (λz=>(2,(bO [Iv 1 B,Iv 2 G,Pv 3,Pv 6,Iv 7 u] [Xb 3 D,Xb 6 (⟨0,0⟩:aY)]))) (λz=>(bO [Pv 6] [Xb 6 z])) (λA=>bG 8 λC _=>ct 2 C.events (bp 3 25 (bG 10 λJ _=>bG 3 λI _=>mS 2 9 0 I (bF 9 5 [9,41] 46 (bp 9 41 (bl 5) (bl 5)) λL=>bp 2 46 aZ aZ)) aZ)) (λz=>aZ) (λz=>aZ)) aZ)) (λw=>aZ) (λw=>aZ)))
namespace dN
def J1 (B:Sl aY) (D:Trace) (G:aY):Option (Sl aY):=
 (uJ D G).bind λu=>
 a_ (u.kind==3)
 ((dL D 2 u.message).bind λw=>
 (jf B (w:aY)).bind λz=>
 some z)
 (some B)
end dN
def dN (D:Trace) (B:aY):Option (Sl aY):=
 a_ (decide (B.index>1))
 (dN.J1 (Sl.row [⟨B.proc,IntKind.wrap .i64 (B.index-1)⟩]:Sl aY) D B)
 (dN.J1 (Sl.nil:Sl aY) D B)
open dN in
theorem zC (D:Trace) (B:aY):Le ((dN D B).bind λr=>some (c6 r)) (cn Sy cL (Aq (tr Tx 116)) (.rc (tb Tx 116),[],start ([enc D,enc B].map .v) [])):=
 bY 2 2 D (bp 17 9 (QM 10 17 18 .bX (⟨B.proc,IntKind.wrap .i64 (B.index-1)⟩:aY) (n_ 5 (br 4 λu _=>mS 1 6 0 u (bp 10 24 (br 6 λw _=>xB 1 2005 30 31 λz _=>aZ) aZ)))) (n_ 5 (br 4 λu _=>mS 1 6 0 u (bp 10 24 (br 6 λw _=>xB 1 2005 30 31 λz _=>aZ) aZ))))
def oG (dir:aY->Option (Sl aY)):List (List Bool)×List aY->Option (Fw (List (List Bool)×List aY) (List (List Bool)) Empty)
 | (out,[])=>some (.x out)
 | (out,y::rest)=>if 0<=y.proc/\0<=y.index then(out[y.proc.toNat]?).bind λrow=>(row[y.index.toNat]?).bind λb=>
  a_ b (some (.n (out,rest))) ((dir y).bind λmore=>if rest.length+more.l.length<=2147483648 then some (.n (out.set y.proc.toNat (row.set y.index.toNat true),rest++more.l))else none)else none
def gF (t:Trace):List (List Bool):=t.procs.l.map λP=>List.replicate (P.events.l.length+1) false
def AQ (t:Trace):Bool:=decide (t.procs.l.length<=2147483648)&&t.procs.l.all λP=>decide (P.events.l.length+1<=2147483648)
def nested (out:List (List Bool)):Sl (Sl Bool):=if out=[]then .nil else .row (out.map .row)
def nk (t:Trace) (x:aY):Option (Sl (Sl Bool)):=
 if AQ t then(dN t x).bind λs=>(bV (oG (dN t)) (gF t,s.l)).bind (Fw.elim (λout=>some (nested out)) (λe=>Empty.elim e))else none
end
end Go.VE
namespace Go.VE
namespace pastX
abbrev wY:Nat->FuncId:=λn=>n
def r1:List RO:=[o2 2 (.a .box) [0] [],o2 3 (.a .box) [1] [],o1 4 (.k (.bX)) []]
def r2:List RO:=[o1 5 (.k (.bX)) []]
def r3:List RO:=[o1 6 (.k (.int .i64 0)) []]
def r4:List RO:=[o1 11 6 [],o2 12 (fa 0) [2] [],o2 13 (ld 1) [12] [],o2 14 ln [13] [],o2 15 (bI .lss) [11,14] []]
def r5:List RO:=[o1 18 5 [],o2 19 (fa 0) [2] [],o2 20 (ld 1) [19] [],o1 21 6 [],o2 22 (ix 3) [20,21] [],o2 23 (fa 2) [22] [],o2 24 (ld 1) [23] [],o2 25 ln [24] [],o2 26 (bI .add) [25,.k (.int .i64 1)] [],o2 27 (.a (.makeSl 1 [.bool false])) [26,26] [],o2 28 (.a (.buildSl 1 1 [.bX] [0])) [27] [],o2 29 (.l (.append 1)) [18,28] [],o1 5 29 []]
def r6:List RO:=[o1 16 6 [],o2 17 (bI .add) [16,.k (.int .i64 1)] [],o1 6 17 []]
def L1:RC:=.seq (.seq (.ops r4) (.cond (.s 15) (.skip) (.exit 0))) (.seq (.block 1 (.ops r5)) (.ops r6))
def r7:List RO:=[o2 30 (lD 1) [2] [],o2 31 (lD 2) [3] [],o2 32 .c [.f 116,30,31] [],o1 7 32 []]
def r8:List RO:=[o1 33 7 [],o2 34 ln [33] [],o2 35 (bI .gtr) [34,.k (.int .i64 0)] []]
def r9:List RO:=[o1 36 7 [],o2 37 (ix 2) [36,.k (.int .i64 0)] [],o2 38 (lD 2) [37] [],o2 8 (.a (.alloc 2 [.int .i64 0,.int .i64 0])) [] [],oz (su 2) [8,38] []]
def IE:List RO:=[o1 39 7 [],o2 40 (.p (.slice 2 true false)) [39,.k (.int .i64 1)] [],o1 7 40 []]
def HC:List RO:=[o1 41 5 [],o2 42 (fa 0) [8] [],o2 43 (ld 1) [42] [],o2 44 (ix 1) [41,43] [],o2 45 (ld 1) [44] [],o2 46 (fa 1) [8] [],o2 47 (ld 1) [46] [],on 48 (ix 1) [45,47] [],on 49 (ld 1) [48] []]
def IL:List RO:=[o1 50 5 [],o2 51 (fa 0) [8] [],o2 52 (ld 1) [51] [],o2 53 (ix 1) [50,52] [],o2 54 (ld 1) [53] [],o2 55 (fa 1) [8] [],o2 56 (ld 1) [55] [],on 57 (ix 1) [54,56] [],oy (su 1) [57,.k (.bool true)] []]
def GW:List RO:=[o2 58 (lD 1) [2] [],o2 59 (lD 2) [8] [],o2 60 .c [.f 116,58,59] [],o1 9 60 []]
def Ia:List RO:=[o1 10 (.k (.int .i64 0)) []]
def GX:List RO:=[o1 61 10 [],o1 62 9 [],o2 63 ln [62] [],o2 64 (bI .lss) [61,63] []]
def r16:List RO:=[o1 67 7 [],o1 68 9 [],o1 69 10 [],o2 70 (ix 2) [68,69] [],o2 71 (lD 2) [70] [],o2 72 (.a (.buildSl 2 1 [.int .i64 0,.int .i64 0] [0])) [71] [],o2 73 (.l (.append 2)) [67,72] [],o1 7 73 []]
def M3:List RO:=[o1 65 10 [],o2 66 (bI .add) [65,.k (.int .i64 1)] [],o1 10 66 []]
def L3:RC:=.seq (.seq (.ops GX) (.cond (.s 64) (.skip) (.exit 4))) (.seq (.block 5 (.ops r16)) (.ops M3))
def L2:RC:=.seq (.seq (.ops r8) (.cond (.s 35) (.skip) (.exit 2))) (.block 3 (.seq (.ops r9) (.seq (.ops IE) (.seq (.seq (.pe HC) (.cond (.s 49) (.exit 3) (.skip))) (.seq (.pe IL) (.seq (.ops GW) (.seq (.ops Ia) (.block 4 (.loop L3)))))))))
def Wj:List RO:=[o1 74 5 [],o1 4 74 []]
def code:RC:=.seq (.ops r1) (.seq (.ops r2) (.seq (.seq (.ops r3) (.block 0 (.loop L1))) (.seq (.ops r7) (.seq (.block 2 (.loop L2)) (.seq (.ops Wj) (.ret))))))
noncomputable abbrev wo:=Go.Proofs.YtlmckmkfopljoaaGreatDoor.E
def jR (out:List (List Bool)):List (List V):=out.map λr=>r.map V.bool
theorem shape:∃fi,wo.ft (wY 81)=some fi/\bP ⟨wo,some,fi.ntmps⟩ false fi.body=some code/\2<=fi.ntmps/\fi.results=[.tmp 4]:=by
 have h:((wo.ft (wY 81)).map λfi=>(bP ⟨wo,some,fi.ntmps⟩ false fi.body,Nat.ble 2 fi.ntmps,fi.results))=some (some code,true,[.tmp 4]):=by kernel_rfl
 obtain⟨fi,h1,u⟩:=ζf.1 h;simp only[ζc]at u;exact⟨fi,h1,u.1,Nat.le_of_ble_eq_true u.2.1,u.2.2⟩
section
variable {E:Env} {N:Nat->FuncId} {t:Trace} {x:aY} {k:Nat} {F:Frame} {H H1:bh} {call:dx} {b:Option Nat}
theorem kJ {o:RO} {l:List RO} {v:V} {r:Frame×bh} (hg:o.gd=none) (hv:bS E N call b o.now o.k (o.az.map (bB N F)) H=some (v,H1)) (h:c7 E N call b l (bz F o.dst v) H1=some r):c7 E N call b (o::l) F H=some r:=by
 simp[c7,hg,hv];omega
theorem vp {o:RO} {l:List RO} {v:V} {r:Frame×bh} (hg:o.gd=none) (hv:bS E N call b o.now o.k (o.az.map (bB N F)) H=some (v,H)) (h:c7 E N call b l (bz F o.dst v) H=some r):c7 E N call b (o::l) F H=some r:=kJ hg hv h
theorem fh:c7 E N call b [] F H=some (F,H):=rfl
theorem ld1 (h:H[0]? = some (.row 1 [cells t])):eV H (.load 1 false) [.hptr 0 0 0]=some (cq t.procs):=by
 simp[eV,dX,h];rfl
theorem WH {s:Sl bT} {p:bT} {i:Nat} (h:s.l[i]? = some p):lR 3 (cq s) (i:Int)=some (.fptr (cells p)):=by
 have:=DZ (N:=λn=>n) s .i64 i 3 rfl
 simp[bn]at this;rw[this,show idx s i=some p from by unfold idx;grind];rfl
theorem x4 (f2:get F 2=.hptr 0 0 0) (f6:get F 6=.int .i64 k) (h0:H[0]? = some (.row 1 [cells t])) :
 ∃F',c7 E N call none r4 F H=some (F',H)/\get F' 15=.bool (decide (k<t.procs.l.length))/\(∀s,s<11->get F' s=get F s):=by
 refine⟨_,vp (v:=.int .i64 k) rfl ?_ <| vp (v:=.hptr 0 0 0) rfl ?_ <| vp (v:=cq t.procs) rfl ?_ <| vp (v:=.int .i64 t.procs.l.length) rfl ?_ <| vp (v:=.bool (decide (k<t.procs.l.length))) rfl ?_ fh,?_,?_⟩
 .simp[bS,bB,bn,f6]
 .simp[bS,bB,bn,bz,f2,gQ]
 .simp only[bS,List.map_cons,List.map_nil,bB,bz,bt,if_true];rw[ld1 h0];rfl
 .simp only[bS,List.map_cons,List.map_nil,bB,bz,bt,if_true];rw[yL];rfl
 .simp[bS,bB,bn,bz,jr,qK]
 .simp[bz]
 .simp[bz,bt]
  grind
theorem yd {n:Nat} (h:n<=2147483648):IntKind.wrap .i64 ((n:Int)+1)=((n+1:Nat):Int):=by
 simp[IntKind.wrap,IntKind.bits];omega
theorem x5 {P:bT} {o:Nat} {ids:List Nat} {rows:List (List V)} (f2:get F 2=.hptr 0 0 0) (f6:get F 6=.int .i64 k) (h0:H[0]? = some (.row 1 [cells t])) (B:t.procs.l[k]? = some P) (G:P.events.l.length+1<=2147483648)
 (D:mm H (get F 5) o ids rows) (hr:rows.length+1<=2147483648) :
 ∃F' H',c7 E N call none r5 F H=some (F',H')/\mm H' (get F' 5) (H.length+2) (ids++[H.length]) (rows++[List.replicate (P.events.l.length+1) (.bool false)])/\H.length<=H'.length/\(∀id,id<H.length->id≠o\/rows=[]->H'[id]? = H[id]?)/\(∀s,s<11->s≠5->get F' s=get F s):=by
 obtain⟨H',p1,p2,p3,p4⟩:=D.push (List.replicate (P.events.l.length+1) (.bool false)) hr;have u:jc (List.replicate (P.events.l.length+1) (V.bool false))=List.replicate (P.events.l.length+1) [.bool false]:=by simp[jc]
 rw[u,List.length_replicate]at p1;have w:=yd (n:=P.events.l.length) (by omega)
 refine⟨_,H',vp (v:=get F 5) rfl ?_ <| vp (v:=.hptr 0 0 0) rfl ?_ <| vp (v:=cq t.procs) rfl ?_ <| vp (v:=.int .i64 k) rfl ?_ <| vp (v:=.fptr (cells P)) rfl ?_ <| vp (v:=.fptr [cq P.events]) rfl ?_ <| vp (v:=cq P.events) rfl ?_ <|
  vp (v:=.int .i64 P.events.l.length) rfl ?_ <| vp (v:=.int .i64 (P.events.l.length+1:Nat)) rfl ?_ <| kJ (v:=.hsl H.length 1 0 (P.events.l.length+1)) (H1:=H++[.row 1 (List.replicate (P.events.l.length+1) [.bool false])]) rfl ?_ <|
  kJ (v:=.hsl (H.length+1) 1 0 1) (H1:=H++[.row 1 (List.replicate (P.events.l.length+1) [.bool false])]++[.row 1 [[.hsl H.length 1 0 (P.events.l.length+1)]]]) rfl ?_ <|
  kJ (v:=.hsl (H.length+2) 1 0 (rows.length+1))  rfl ?_ <| vp (v:=.hsl (H.length+2) 1 0 (rows.length+1)) rfl ?_ fh,?_,p3,p4,?_⟩
 .simp[bS,bB,bn]
 .simp[bS,bB,bn,bz,f2,gQ]
 .simp only[bS,List.map_cons,List.map_nil,bB,bz,bt,if_true];rw[ld1 h0];rfl
 .simp[bS,bB,bn,bz,f6]
 .simp only[bS,List.map_cons,List.map_nil,bB,bz,bt,Nat.reduceEqDiff,if_true,if_false,bn];rw[WH B];rfl
 .simp[bS,bB,bz,bt,bn];rfl
 .simp[bS,bB,bz,bt];rfl
 .simp only[bS,List.map_cons,List.map_nil,bB,bz,bt,if_true];rw[yL];rfl
 .simp[bS,bB,bz,bt,bn,jr];grind
 .simp only[bS,List.map_cons,List.map_nil,bB,bz,bt,if_true,iV];rw[if_pos ⟨trivial,trivial,by omega,by omega,by omega⟩]
  simp[Mk.val]
 .simp[bS,bB,bz,bt,iV];simp[gG,V.cells,V.one,Mk.val]
 .simp only[bS,List.map_cons,List.map_nil,bB,bz,bt,Nat.reduceEqDiff,if_true,if_false];omega
 .simp[bS,bB,bn,bz]
 .simp[bz,bt];omega
 .intro s z A;simp[bz,bt]
  repeat (rw[if_neg (by omega)])
theorem x6 (f6:get F 6=.int .i64 k) (hk:k<=2147483648):∃F',c7 E N call none r6 F H=some (F',H)/\get F' 6=.int .i64 ((k+1:Nat):Int)/\(∀s,s<11->s≠6->get F' s=get F s):=by
 have u:=yd hk;refine⟨_,vp (v:=.int .i64 k) rfl ?_ <| vp (v:=.int .i64 (k+1:Nat)) rfl ?_ <| vp (v:=.int .i64 (k+1:Nat)) rfl ?_ fh,?_,?_⟩
 .simp[bS,bB,bn,f6]
 .simp[bS,bB,bz,bt,bn,jr];grind
 .simp[bS,bB,bn,bz]
 .simp[bz]
 .simp[bz,bt]
  grind
end
structure P1 (t:Trace) (x:aY) (k:Nat) (F:Frame) (H:bh):Prop where
 f2:get F 2=.hptr 0 0 0
 f3:get F 3=.hptr 1 0 0
 f6:get F 6=.int .i64 k
 h0:H[0]? = some (.row 1 [cells t])
 h1:H[1]? = some (.row 2 [cells x])
 ns:∃o ids,mm H (get F 5) o ids (jR ((gF t).take k))/\(k≠0->2<=o)/\∀id∈ids,2<=id
theorem wv (out:List (List Bool)):(jR out).length=out.length:=by simp[jR]
theorem K6 {E:Env} {N:Nat->FuncId} {t:Trace} {x:aY} (G:AQ t=true):∀(m k:Nat) (F:Frame) (H:bh),k+m=t.procs.l.length->P1 t x k F H->∃F' H',ou E N L1 F H (.exit 0) F' H'/\P1 t x t.procs.l.length F' H':=by
 have A:t.procs.l.length<=2147483648/\∀P∈t.procs.l,P.events.l.length+1<=2147483648:=by
  simpa [AQ]using G
 intro m
 induction m with
 | zero=>
  intro k F H hk p;have B:k=t.procs.l.length:=by omega
  obtain⟨F1,e1,e2,e3⟩:=x4 (E:=E)  (call:=⟨0,λ_ _ _=>none⟩) p.f2 p.f6 p.h0
  refine⟨F1,H,ou.stop (Ex.xu (Ex.seq (Ex.eP λc=>?_) (Ex.u7 ?_ Ex.exit)) (by simp)) (by simp),?_⟩
  .have:c7 E N c none r4 F H=c7 E N ⟨0,λ_ _ _=>none⟩ none r4 F H:=rfl
   exact e1
  .show get F1 15=_;rw[e2];simp[B]
  .subst B;exact⟨by rw[e3 2 (by omega)];exact p.f2,by rw[e3 3 (by omega)];exact p.f3,by rw[e3 6 (by omega)];exact p.f6,p.h0,p.h1,by rw[e3 5 (by omega)];exact p.ns⟩
 | succ m Y=>
  intro k F H hk p;have w:k<t.procs.l.length:=by omega
  obtain⟨o,ids,T,Z,n3⟩:=p.ns;obtain⟨F1,e1,e2,e3⟩:=x4 (E:=E) (N:=N) (call:=⟨0,λ_ _ _=>none⟩) p.f2 p.f6 p.h0
  have U:=ζd w;have C:((gF t).take k).length=k:=by simp[gF];omega
  have I:mm H (get F1 5) o ids (jR ((gF t).take k)):=by rw[e3 5 (by omega)];exact T
  obtain⟨F2,H2,g1,g2,g3,g4,g5⟩:=x5 (E:=E) (N:=N) (call:=⟨0,λ_ _ _=>none⟩) (by rw[e3 2 (by omega)];exact p.f2) (by rw[e3 6 (by omega)];exact p.f6) p.h0 U (A.2 _ (List.getElem_mem w)) I (by rw[wv,C];omega)
  obtain⟨W,q1,q2,J⟩:=x6 (E:=E) (N:=N) (call:=⟨0,λ_ _ _=>none⟩) (H:=H2)   (by rw[g5 6 (by omega) (by omega),e3 6 (by omega)];exact p.f6) (by omega)
  have X:=T.lt;have L:=(ζe.1 p.h0).1;have O:=(ζe.1 p.h1).1;have u:∀i,i<2->i<H.length->H2[i]? = H[i]? := λi hi X=>g4 i X (by
   by_cases D:k=0
   .subst D;right;simp[jR]
   .left;have:=Z D;omega)
  have Q:P1 t x (k+1) W H2:=by
   refine⟨by rw[J 2 (by omega) (by omega),g5 2 (by omega) (by omega),e3 2 (by omega)];exact p.f2,by rw[J 3 (by omega) (by omega),g5 3 (by omega) (by omega),e3 3 (by omega)];exact p.f3,q2,
    by rw[u 0 (by omega) L];exact p.h0,by rw[u 1 (by omega) O];exact p.h1,H.length+2,ids++[H.length],?_,λ_=>by omega,λid S=>?_⟩
   .rw[J 5 (by omega) (by omega)]
    have z:jR ((gF t).take (k+1))=jR ((gF t).take k)++[List.replicate (t.procs.l[k].events.l.length+1) (.bool false)]:=by
     rw[List.take_add_one];have:(gF t)[k]? = some (List.replicate (t.procs.l[k].events.l.length+1) false):=by simp[gF,U]
     rw[this];simp[jR]
    rw[z];exact g2
   .rcases List.mem_append.1 S with h|h
    .exact n3 id h
    .simp at h;omega
  obtain⟨F',H',r1,r2⟩:=Y (k+1) W H2 (by omega) Q
  refine⟨F',H',ou.step (Ex.seq (Ex.seq (Ex.eP λc=>e1) (Ex.qA ?_ Ex.skip)) (Ex.seq (Ex.block (Ex.eP λc=>g1)) (Ex.eP λc=>q1))) r1,r2⟩
  show get F1 15=_;rw[e2];simp[w]
section
variable {E:Env} {N:Nat->FuncId} {t:Trace} {x y:aY} {F:Frame} {H:bh} {call:dx}
theorem x8 {l:List (List V)} {id:Nat} (h:kf H (get F 7) l id):∃F',c7 E N call none r8 F H=some (F',H)/\get F' 35=.bool (decide (0<l.length))/\(∀s,s<11->get F' s=get F s):=by
 refine⟨_,vp (v:=get F 7) rfl ?_ <| vp (v:=.int .i64 l.length) rfl ?_ <| vp (v:=.bool (decide (0<l.length))) rfl ?_ fh,?_,?_⟩
 .simp[bS,bB,bn]
 .simp[bS,bB,bz,bt,bn,h.len]
 .simp[bS,bB,bn,bz,jr,qK]
 .simp[bz]
 .simp[bz,bt]
  grind
theorem x9 {l:List (List V)} {id:Nat} (h:kf H (get F 7) (cells y::l) id):∃F',c7 E N call none r9 F H=some (F',H++[.row 2 [cells y]])/\get F' 8=.hptr H.length 0 0/\(∀s,s<11->s≠8->get F' s=get F s):=by
 obtain⟨p,p1,p2⟩:=h.get (i:=0)  rfl;refine⟨_,vp (v:=get F 7) rfl ?_ <| vp (v:=p) rfl ?_ <| vp (v:=.agg (cells y)) rfl ?_ <| kJ (v:=.hptr H.length 0 0) (H1:=H++[.row 2 [[.int .i64 0,.int .i64 0]]]) rfl ?_ <| kJ (v:=.undef)  rfl ?_ fh,?_,?_⟩
 .simp[bS,bB,bn]
 .simp[bS,bB,bz,bt,bn]
  grind
 .simp only[bS,List.map_cons,bB,bz,bt,if_false]
  grind
 .simp[bS,bB,bz,bt,iV,Mk.val]
 .simp[bS,bB,bz,bt];simp[fR,V.cells,V.one]
 .simp[bz]
 .simp[bz,bt]
  grind
theorem Xi {c:List V} {l:List (List V)} {id:Nat} (h:kf H (get F 7) (c::l) id):∃F',c7 E N call none IE F H=some (F',H)/\kf H (get F' 7) l id/\(∃off m B,get F 7=.hsl id 2 off m/\get F' 7=.hsl id 2 B l.length)/\(∀s,s<11->s≠7->get F' s=get F s):=by
 obtain⟨w',p1,p2,off,m,B,p3,p4⟩:=h.tail;refine⟨_,vp (v:=get F 7) rfl ?_ <| vp (v:=w') rfl ?_ <| vp (v:=w') rfl ?_ fh,?_,⟨off,m,B,p3,?_⟩,?_⟩
 .simp[bS,bB,bn]
 .simp[bS,bB,bz,bt,bn,mE,p1]
 .simp[bS,bB,bn,bz]
 .simp[bz,bt];omega
 .simp[bz,bt];omega
 .simp[bz,bt]
  grind
theorem jI (H:bh):H.take H.length=H:=List.take_length ..
theorem Vg {c:Nat} (hc:H[c]? = some (.row 2 [cells y])):eV H (.load 1 false) [.hptr c 0 0]=some (.int .i64 y.proc)/\eV H (.load 1 false) [.hptr c 0 1]=some (.int .i64 y.index)/\eV H (.load 2 true) [.hptr c 0 0]=some (enc y):=by
 refine⟨?_,?_,?_⟩ <;> simp[eV,dX,hc,cut] <;> rfl
theorem Uw {c o:Nat} {ids:List Nat} {rows:List (List V)} {p j:Nat} {r:List V} {u:V} (B:get F 8=.hptr c 0 0) (hc:H[c]? = some (.row 2 [cells y])) (D:mm H (get F 5) o ids rows) (hp:y.proc=p) (G:y.index=j) (hr:rows[p]? = some r) (hu:r[j]? = some u) :
 ∃F',c7 E N call (some H.length) HC F H=some (F',H)/\get F' 49=u/\(∀s,s<11->get F' s=get F s):=by
 obtain⟨id,w,z,A,C,I⟩:=D.cell hr hu;obtain⟨J,L,_⟩:=Vg hc;refine⟨_,vp (v:=get F 5) rfl ?_ <| vp (v:=.hptr c 0 0) rfl ?_ <| vp (v:=.int .i64 p) rfl ?_ <| vp (v:=.hptr o p 0) rfl ?_ <| vp (v:=.hsl id 1 0 r.length) rfl ?_ <| vp (v:=.hptr c 0 1) rfl ?_ <| vp (v:=.int .i64 j) rfl ?_ <| vp (v:=.hptr id j 0) rfl ?_ <| vp (v:=u) rfl ?_ fh,?_,?_⟩
 .simp[bS,bB,bn]
 .simp[bS,bB,bn,bz,B,gQ]
 .simp[bS,bB,bz,bt,jI];grind
 .simp[bS,bB,bz,bt,bn];grind
 .simp[bS,bB,bz,bt,jI];grind
 .simp[bS,bB,bn,bz,B,gQ]
 .simp[bS,bB,bz,bt,jI];grind
 .simp[bS,bB,bz,bt,bn];grind
 .simp[bS,bB,bz,bt,jI];simp_all
 .simp[bz]
 .simp[bz,bt]
  grind
theorem Xm {c o:Nat} {ids:List Nat} {rows:List (List V)} {p j:Nat} {r:List V} {u:V} (B:get F 8=.hptr c 0 0) (hc:H[c]? = some (.row 2 [cells y])) (D:mm H (get F 5) o ids rows) (hp:y.proc=p) (G:y.index=j) (hr:rows[p]? = some r) (hu:r[j]? = some u) :
 ∃F' H',c7 E N call (some H.length) IL F H=some (F',H')/\mm H' (get F' 5) o ids (rows.set p (r.set j (.bool true)))/\H'.length=H.length/\(∀i,i∉ids->H'[i]? = H[i]?)/\(∀s,s<11->get F' s=get F s):=by
 obtain⟨id,w,I,J,z,L⟩:=D.cell hr hu;obtain⟨O,Q,_⟩:=Vg hc;obtain⟨H',s1,S,A,C⟩:=D.set hr (ζe.1 hu).1 w (u:=.bool true) rfl rfl;refine⟨_,H',vp (v:=get F 5) rfl ?_ <| vp (v:=.hptr c 0 0) rfl ?_ <| vp (v:=.int .i64 p) rfl ?_ <| vp (v:=.hptr o p 0) rfl ?_ <| vp (v:=.hsl id 1 0 r.length) rfl ?_ <| vp (v:=.hptr c 0 1) rfl ?_ <| vp (v:=.int .i64 j) rfl ?_ <| vp (v:=.hptr id j 0) rfl ?_ <| kJ (v:=.undef)  rfl ?_ fh,?_,A,λi hi=>C i λe=>hi (e▸List.mem_of_getElem? w),?_⟩
 .simp[bS,bB,bn]
 .simp[bS,bB,bn,bz,B,gQ]
 .simp[bS,bB,bz,bt,jI];grind
 .simp[bS,bB,bz,bt,bn];grind
 .simp[bS,bB,bz,bt,jI];grind
 .simp[bS,bB,bn,bz,B,gQ]
 .simp[bS,bB,bz,bt,jI];grind
 .simp only[bS,List.map_cons,List.map_nil,bB,bz,bt,Nat.reduceEqDiff,if_true,if_false,bn];rw[z];rfl
 .simp[bS,bB,bz,bt,s1]
 .simp[bz,bt];omega
 .simp[bz,bt]
  grind
def Gf (E:Env) (N:Nat->FuncId) (t:Trace) (dir:aY->Option (Sl aY)):Prop:=∀(y:aY) (s:Sl aY) (H:bh),dir y=some s ->
 ∃w X id,(∃n,∀k,n<=k->fD E (run E k) (N 116) [enc t,enc y] H=some (w,H++X))/\kf (H++X) w (s.l.map cells) id/\(∀off m,w=.hsl id 2 off m->id=H.length)
theorem Ww {a d:Nat} (hd:E.keep (N 116)=true) {dir:aY->Option (Sl aY)} (D:Gf E N t dir) {s:Sl aY} (B:dir y=some s) (f2:get F 2=.hptr 0 0 0) (h0:H[0]? = some (.row 1 [cells t])) {c:Nat} (hc:H[c]? = some (.row 2 [cells y])) :
 ∃w X id,kf (H++X) w (s.l.map cells) id/\(∀off m,w=.hsl id 2 off m->id=H.length) /\
  (get F 8=.hptr c 0 0->∃F',(∃n,∀k,n<=k->c7 E N (run E k) none GW F H=some (F',H++X))/\get F' 9=w/\(∀s,s<11->s≠9->get F' s=get F s)) /\
  (get F 3=.hptr c 0 0->∃F',(∃n,∀k,n<=k->c7 E N (run E k) none r7 F H=some (F',H++X))/\get F' 7=w/\(∀s,s<11->s≠7->get F' s=get F s)):=by
 obtain⟨w,X,id,⟨n,e1⟩,e2,e3⟩:=D y s H B;have z:eV H (.load 1 true) [.hptr 0 0 0]=some (enc t):=by
  simp[eV,dX,h0,Ob.rows,cut];rfl
 obtain⟨_,_,A⟩:=Vg hc;refine⟨w,X,id,e2,e3,λC=>⟨_,⟨n,λk hk=>vp (v:=enc t) rfl ?_ <| vp (v:=enc y) rfl ?_ <| kJ (v:=w) (H1:=H++X) rfl ?_ <| vp (v:=w) rfl ?_ fh⟩,?_,?_⟩,λf3=>⟨_,⟨n,λk hk=>vp (v:=enc t) rfl ?_ <| vp (v:=enc y) rfl ?_ <| kJ (v:=w) (H1:=H++X) rfl ?_ <| vp (v:=w) rfl ?_ fh⟩,?_,?_⟩⟩
 .simp only[bS,List.map_cons,List.map_nil,bB,f2];rw[z];rfl
 .simp only[bS,List.map_cons,List.map_nil,bB,bz,bt,Nat.reduceEqDiff,if_true,if_false,C];rw[A];rfl
 .simp only[bS,List.map_cons,List.map_nil,bB,bz,bt,Nat.reduceEqDiff,if_true,if_false,hd,List.nil_append,List.append_nil];exact e1 k hk
 .simp[bS,bB,bn,bz]
 .simp[bz]
 .intro s B u;simp only[bz,bt];rw[if_neg (Ne.symm u)]
  repeat (rw[if_neg (by omega)])
 .simp only[bS,List.map_cons,List.map_nil,bB,f2];rw[z];rfl
 .simp only[bS,List.map_cons,List.map_nil,bB,bz,bt,Nat.reduceEqDiff,if_true,if_false,f3];rw[A];rfl
 .simp only[bS,List.map_cons,List.map_nil,bB,bz,bt,Nat.reduceEqDiff,if_true,if_false,hd,List.nil_append,List.append_nil];exact e1 k hk
 .simp[bS,bB,bn,bz]
 .simp[bz]
 .intro s B u;simp only[bz,bt];rw[if_neg (Ne.symm u)]
  repeat (rw[if_neg (by omega)])
end
section
variable {E:Env} {N:Nat->FuncId} {F:Frame} {H:bh} {call:dx} {i:Nat}
theorem Rg {l:List (List V)} {id:Nat} (f10:get F 10=.int .i64 i) (h:kf H (get F 9) l id):∃F',c7 E N call none GX F H=some (F',H)/\get F' 64=.bool (decide (i<l.length))/\(∀s,s<11->get F' s=get F s):=by
 refine⟨_,vp (v:=.int .i64 i) rfl ?_ <| vp (v:=get F 9) rfl ?_ <| vp (v:=.int .i64 l.length) rfl ?_ <| vp (v:=.bool (decide (i<l.length))) rfl ?_ fh,?_,?_⟩
 .simp[bS,bB,bn,f10]
 .simp[bS,bB,bn,bz]
 .simp[bS,bB,bz,bt,bn,h.len]
 .simp[bS,bB,bn,bz,jr,qK]
 .simp[bz]
 .simp[bz,bt]
  grind
theorem WY {l D:List (List V)} {id B:Nat} {c:List V} (f10:get F 10=.int .i64 i) (h:kf H (get F 7) l id) (G:kf H (get F 9) D B) (hc:D[i]? = some c) (J:l.length+1<=2147483648) :
 ∃F' H',c7 E N call none r16 F H=some (F',H')/\kf H' (get F' 7) (l++[c]) (H.length+1)/\H'.length=H.length+2/\(∀i,i<H.length->(∀off m,get F 7=.hsl id 2 off m->i≠id)->H'[i]? = H[i]?)/\(∀s,s<11->s≠7->get F' s=get F s):=by
 have u:=G.c c (List.mem_of_getElem? hc);obtain⟨p,p1,p2⟩:=G.get hc;obtain⟨H',A,C,w,z⟩:=h.push u J;refine⟨_,H',vp (v:=get F 7) rfl ?_ <| vp (v:=get F 9) rfl ?_ <| vp (v:=.int .i64 i) rfl ?_ <| vp (v:=p) rfl ?_ <| vp (v:=.agg c) rfl ?_ <| kJ (v:=.hsl H.length 2 0 1) (H1:=H++[.row 2 [c]]) rfl ?_ <| kJ (v:=.hsl (H.length+1) 2 0 (l.length+1))  rfl ?_ <| vp (v:=.hsl (H.length+1) 2 0 (l.length+1)) rfl ?_ fh,?_,w,z,?_⟩
 .simp[bS,bB,bn]
 .simp[bS,bB,bn,bz]
 .simp[bS,bB,bn,bz,f10]
 .simp[bS,bB,bz,bt,bn];grind
 .simp[bS,bB,bz,bt];grind
 .simp[bS,bB,bz,bt,iV];simp[gG,V.cells,Mk.val]
  grind
 .simp[bS,bB,bz,bt];omega
 .simp[bS,bB,bn,bz]
 .simp[bz,bt];omega
 .simp[bz,bt]
  grind
theorem Xj (f10:get F 10=.int .i64 i) (hk:i<=2147483648):∃F',c7 E N call none M3 F H=some (F',H)/\get F' 10=.int .i64 ((i+1:Nat):Int)/\(∀s,s<11->s≠10->get F' s=get F s):=by
 have u:=yd hk;refine⟨_,vp (v:=.int .i64 i) rfl ?_ <| vp (v:=.int .i64 (i+1:Nat)) rfl ?_ <| vp (v:=.int .i64 (i+1:Nat)) rfl ?_ fh,?_,?_⟩
 .simp[bS,bB,bn,f10]
 .simp[bS,bB,bz,bt,bn,jr];grind
 .simp[bS,bB,bn,bz]
 .simp[bz]
 .simp[bz,bt]
  grind
structure P3 (l l9:List (List V)) (B i:Nat) (F:Frame) (H:bh):Prop where
 f10:get F 10=.int .i64 i
 t9:∃id9,kf H (get F 9) l9 id9/\∃id,kf H (get F 7) l id/\(∀off m,get F 7=.hsl id 2 off m->B<=id/\∀off' m',get F 9=.hsl id9 2 off' m'->id≠id9)
 len:B<=H.length
theorem VK (D:List (List V)) (B:Nat) (Y:D.length<=2147483648):∀(m i:Nat) (l:List (List V)) (F:Frame) (H:bh),i+m=D.length->l.length+m<=2147483648->P3 l D B i F H ->
 ∃F' H',ou E N L3 F H (.exit 4) F' H'/\(∃id,kf H' (get F' 7) (l++D.drop i) id/\∀off m,get F' 7=.hsl id 2 off m->B<=id)/\(∀s,s<7->get F' s=get F s)/\(∀j,j<B->H'[j]? = H[j]?)/\H.length<=H'.length:=by
 intro m
 induction m with
 | zero=>
  intro i l F H hi X p;obtain⟨u,t9,id,t7,A⟩:=p.t9;obtain⟨F1,e1,e2,e3⟩:=Rg (E:=E)  (call:=⟨0,λ_ _ _=>none⟩) p.f10 t9
  refine⟨F1,H,ou.stop (Ex.xu (Ex.seq (Ex.eP λc=>e1) (Ex.u7 ?_ Ex.exit)) (by simp)) (by simp),⟨id,?_,λoff m h=>?_⟩,λs S=>e3 s (by omega),λ_ _=>rfl,Nat.le_refl _⟩
  .show get F1 64=_
   grind
  .grind
  grind
 | succ m Z=>
  intro i l F H hi X p;have z:i<D.length:=by omega
  obtain⟨u,t9,id,t7,A⟩:=p.t9;obtain⟨F1,e1,e2,e3⟩:=Rg (E:=E)  (call:=⟨0,λ_ _ _=>none⟩) p.f10 t9
  have hc:=ζd z;have C:kf H (get F1 7) l id:=by grind
  have G:kf H (get F1 9) D u:=by grind
  obtain⟨F2,H2,g1,g2,g3,g4,g5⟩:=WY (E:=E)  (call:=⟨0,λ_ _ _=>none⟩) (by rw[e3 10 (by omega)];exact p.f10) C G hc (by omega)
  obtain⟨T,q1,q2,I⟩:=Xj (E:=E)  (call:=⟨0,λ_ _ _=>none⟩)    (by rw[g5 10 (by omega) (by omega),e3 10 (by omega)];exact p.f10) (by omega)
  have keep:∀j,j<H.length->(∀off m,get F 7=.hsl id 2 off m->j≠id)->H2[j]? = H[j]? := λj J h=>g4 j J (by grind)
  have L:P3 (l++[D[i]]) D B (i+1) T H2:=by
   refine⟨q2,⟨u,?_,H.length+1,by grind,λoff m h=>⟨by have:=p.len;omega,λw m' U=>?_⟩⟩,by have:=p.len;omega⟩
   .rw[I 9 (by omega) (by omega),g5 9 (by omega) (by omega),e3 9 (by omega)]
    exact t9.heap λoff n W=>keep u (t9.lt W) λw m' O=>Ne.symm ((A w m' O).2 off n W)
   .rw[I 9 (by omega) (by omega),g5 9 (by omega) (by omega),e3 9 (by omega)]at U
    have:=t9.lt U;omega
  obtain⟨F',H',r1,⟨Q,r2,r3⟩,r4,r5,r6⟩:=Z (i+1) (l++[D[i]]) T H2 (by omega) (by simp;omega) L
  refine⟨F',H',ou.step (Ex.seq (Ex.seq (Ex.eP λc=>e1) (Ex.qA ?_ Ex.skip)) (Ex.seq (Ex.block (Ex.eP λc=>g1)) (Ex.eP λc=>q1))) r1,⟨Q,?_,r3⟩,λs S=>?_,λj J=>?_,by omega⟩
  .show get F1 64=_
   grind
  .rw[List.append_assoc]at r2;rw[List.drop_eq_getElem_cons z];exact r2
  .rw[r4 s S,I s (by omega) (by omega),g5 s (by omega) (by omega),e3 s (by omega)]
  .have:=p.len;rw[r5 j J,keep j (by omega) λoff m h=>by have:=(A off m h).1;omega]
end
structure P2 (t:Trace) (out:List (List Bool)) (l:List aY) (F:Frame) (H:bh):Prop where
 f2:get F 2=.hptr 0 0 0
 h0:H[0]? = some (.row 1 [cells t])
 ns:∃B o ids id,mm H (get F 5) o ids (jR out)/\(out≠[]->1<=o/\o<B)/\(∀id∈ids,1<=id/\id<B)/\1<=B/\B<=H.length/\kf H (get F 7) (l.map cells) id/\∀off m,get F 7=.hsl id 2 off m->B<=id
theorem Qn (out:List (List Bool)) (p j:Nat) (row:List Bool):jR (out.set p (row.set j true))=(jR out).set p ((row.map V.bool).set j (.bool true)):=by
 simp[jR]
theorem ID {out:List (List Bool)}:jR out=[]↔out=[]:=by simp[jR]
theorem O5 {dir:aY->Option (Sl aY)} {out:List (List Bool)} {y:aY} {rest:List aY} {w:Fw (List (List Bool)×List aY) (List (List Bool)) Empty} (h:oG dir (out,y::rest)=some w) :
 ∃(p j:Nat) (row:List Bool) (b:Bool),y.proc=p/\y.index=j/\out[p]? = some row/\row[j]? = some b/\((b=true/\w=.n (out,rest))\/(b=false/\∃more,dir y=some more/\rest.length+more.l.length<=2147483648/\w=.n (out.set p (row.set j true),rest++more.l))):=by
 simp only[oG]at h;split at h
 .obtain⟨row,h1,h⟩:=ζg.1 h;obtain⟨b,u,h⟩:=ζg.1 h;refine⟨y.proc.toNat,y.index.toNat,row,b,by omega,by omega,h1,u,?_⟩
  cases b with
  | true=>simp[a_]at h;grind
  | false=>
   obtain⟨more,z,h⟩:=ζg.1 h
   grind
 simp_all
theorem KR {E:Env} {N:Nat->FuncId} {t:Trace} {dir:aY->Option (Sl aY)} (hd:E.keep (N 116)=true) (hD:Gf E N t dir):∀(k:Nat) (out:List (List Bool)) (l:List aY) (D:List (List Bool)) (F:Frame) (H:bh),
 jv (oG dir) k (out,l)=some (.x D)->P2 t out l F H->∃F' H',ou E N L2 F H (.exit 2) F' H'/\P2 t D [] F' H':=by
 intro k
 induction k with
 | zero=>intro out l D F H h;simp[jv]at h
 | succ k ih=>
  intro out l D F H h p;obtain⟨B,o,ids,id,n1,n2,W,n4,n5,t7,t8⟩:=p.ns;obtain⟨F1,e1,e2,e3⟩:=x8 (E:=E) (N:=N) (call:=⟨0,λ_ _ _=>none⟩) t7
  rw[List.length_map]at e2
  cases l with
  | nil=>
   simp only[jv,oG]at h;cases h;refine⟨F1,H,ou.stop (Ex.xu (Ex.seq (Ex.eP λc=>e1) (Ex.u7 ?_ Ex.exit)) (by simp)) (by simp),?_⟩
   .show get F1 35=_;rw[e2];simp
   .exact⟨by rw[e3 2 (by omega)];exact p.f2,p.h0,B,o,ids,id,by rw[e3 5 (by omega)];exact n1,n2,W,n4,n5,by rw[e3 7 (by omega)];exact t7,by rw[e3 7 (by omega)];exact t8⟩
  | cons y rest=>
   simp only[jv]at h
   cases I:oG dir (out,y::rest)with
   | none=>rw[I]at h;cases h
   | some w=>
   rw[I]at h;obtain⟨q,j,row,b,hq,hj,u,hb,J⟩:=O5 I;have L:kf H (get F1 7) (cells y::rest.map cells) id:=by rw[e3 7 (by omega)];exact t7
   obtain⟨F2,g1,g2,g3⟩:=x9 (E:=E) (N:=N) (call:=⟨0,λ_ _ _=>none⟩) L
   have aa:kf (H++[.row 2 [cells y]]) (get F2 7) (cells y::rest.map cells) id:=by rw[g3 7 (by omega) (by omega)];exact L.more _
   obtain⟨F3,i1,i2,⟨C,m1,ab,i3,i4⟩,i5⟩:=Xi (E:=E) (N:=N) (call:=⟨0,λ_ _ _=>none⟩) aa
   have O:(H++[Ob.row 2 [cells y]])[H.length]? = some (.row 2 [cells y]):=by simp
   have f8:get F3 8=.hptr H.length 0 0:=by rw[i5 8 (by omega) (by omega)];exact g2
   have f5:get F3 5=get F 5:=by rw[i5 5 (by omega) (by omega),g3 5 (by omega) (by omega),e3 5 (by omega)]
   have f2:get F3 2=.hptr 0 0 0:=by rw[i5 2 (by omega) (by omega),g3 2 (by omega) (by omega),e3 2 (by omega)];exact p.f2
   have Q:mm (H++[.row 2 [cells y]]) (get F3 5) o ids (jR out):=by rw[f5];exact n1.more _
   have hr:(jR out)[q]? = some (row.map V.bool):=by simp[jR,u]
   have hu:(row.map V.bool)[j]? = some (.bool b):=by simp[hb]
   have S:B<=id:=by
    have:get F 7=.hsl id 2 C m1:=by rw[<-i3,g3 7 (by omega) (by omega),e3 7 (by omega)]
    exact t8 _ _ this
   obtain⟨F4,j1,j2,z⟩:=Uw (E:=E) (N:=N) (call:=⟨0,λ_ _ _=>none⟩) f8 O Q hq hj hr hu
   have ad:bB N F1 (.s 35)=.bool true:=by show get F1 35=_;rw[e2];simp
   rcases J with⟨rfl,rfl⟩|⟨rfl,more,hm,aq,rfl⟩
   .simp only at h;have T:P2 t out rest F4 (H++[.row 2 [cells y]]):=by
     refine⟨by rw[z 2 (by omega)];exact f2,by rw[List.getElem?_append_left (ζe.1 p.h0).1];exact p.h0,B,o,ids,id,by rw[z 5 (by omega)];exact Q,n2,W,n4,by simp;omega,by rw[z 7 (by omega)];exact i2,λoff m _=>S⟩
    obtain⟨F',H',r1,r2⟩:=ih out rest D F4 _ h T;exact⟨F',H',ou.step (Ex.seq (Ex.seq (Ex.eP λc=>e1) (Ex.qA ad Ex.skip)) (Ex.xX (Ex.seq (Ex.eP λc=>g1) (Ex.seq (Ex.eP λc=>i1) (Ex.xu (Ex.seq (Ex.pe rfl λc=>j1) (Ex.qA j2 Ex.exit)) (by simp)))))) r1,r2⟩
   .simp only at h;have n6:mm (H++[.row 2 [cells y]]) (get F4 5) o ids (jR out):=by rw[z 5 (by omega)];exact Q
    obtain⟨F5,A,k1,k2,k3,k4,k5⟩:=Xm (E:=E) (N:=N) (call:=⟨0,λ_ _ _=>none⟩) (by rw[z 8 (by omega)];exact f8) O n6 hq hj hr hu
    have G:∀i,B<=i->i∉ids:=λi hi hm=>by have:=(W i hm).2;omega
    have ah:A[H.length]? = some (.row 2 [cells y]):=by rw[k4 _ (G _ n5)];exact O
    have U:A[0]? = some (.row 1 [cells t]):=by
     rw[k4 0 (λhm=>by have:=(W 0 hm).1;omega),List.getElem?_append_left (ζe.1 p.h0).1];exact p.h0
    obtain⟨w9,X,ai,aj,m2,m3,_⟩:=Ww (a:=0) (d:=0) (F:=F5) hd hD hm (by rw[k5 2 (by omega),z 2 (by omega)];exact f2) U ah
    obtain⟨Y,⟨nn,ak⟩,ae,o3⟩:=m3 (by rw[k5 8 (by omega),z 8 (by omega)];exact f8)
    have au:A.length=H.length+1:=by rw[k3];simp
    have i7:get Y 7=.hsl id 2 ab (rest.map cells).length:=by rw[o3 7 (by omega) (by omega),k5 7 (by omega),z 7 (by omega)];exact i4
    have ar:id<H.length:=by
     have:=L.lt (off:=C) (m:=m1) (by rw[<-i3,g3 7 (by omega) (by omega)])
     exact this
    have t6:kf (A++X) (get Y 7) (rest.map cells) id:=by
     have:get Y 7=get F3 7:=by rw[o3 7 (by omega) (by omega),k5 7 (by omega),z 7 (by omega)]
     rw[this];refine(i2.heap (H':=A) λoff n _=>k4 id (G id S)).more X
    have al:∃Z,(∀c,c7 E N c none Ia Y (A++X)=some (Z,A++X))/\get Z 10=.int .i64 ((0:Nat):Int)/\∀s,s<10->get Z s=get Y s:=
     ⟨set Y 10 (.int .i64 0),λc=>by simp[Ia,c7,bS,bB,bn,bz],by simp,λs hs=>by rw[bt,if_neg (by omega)]⟩
    obtain⟨Z,u1,u2,u3⟩:=al;have am:P3 (rest.map cells) (more.l.map cells) B 0 Z (A++X):=by
     refine⟨u2,⟨ai,by rw[u3 9 (by omega),ae];exact aj,id,by rw[u3 7 (by omega)];exact t6,λoff m hh=>⟨S,λaf m' h'=>?_⟩⟩,by simp;omega⟩
     rw[u3 9 (by omega),ae]at h'
     have:=m2 af m' h';omega
    obtain⟨F8,H8,v1,⟨an,v2,v3⟩,v4,v5,v6⟩:=VK (E:=E) (N:=N) (more.l.map cells) B (by simp;omega) (more.l.map cells).length 0 (rest.map cells) Z (A++X) (by omega) (by simp;omega) am
    have ao:mm H8 (get F8 5) o ids (jR (out.set q (row.set j true))):=by
     have h5:get F8 5=get F5 5:=by rw[v4 5 (by omega),u3 5 (by omega),o3 5 (by omega) (by omega)]
     rw[h5,Qn];refine(k2.more X).heap (λap=>v5 o ?_) λi hi=>v5 i (W i hi).2
     have:out≠[]:=by intro e;subst e;simp at u
     exact(n2 this).2
    have T:P2 t (out.set q (row.set j true)) (rest++more.l) F8 H8:=by
     refine⟨by rw[v4 2 (by omega),u3 2 (by omega),o3 2 (by omega) (by omega),k5 2 (by omega),z 2 (by omega)];exact f2,?_,B,o,ids,an,ao,λap=>n2 (by intro e;subst e;simp at u),W,n4,by simp at v6;omega,?_,v3⟩
     .rw[v5 0 (by omega),List.getElem?_append_left (ζe.1 U).1];exact U
     .rw[List.drop_zero]at v2;rw[List.map_append];exact v2
    obtain⟨F',H',w1,w2⟩:=ih _ _ D F8 H8 h T;exact⟨F',H',ou.step (Ex.seq (Ex.seq (Ex.eP λc=>e1) (Ex.qA ad Ex.skip)) (Ex.block (Ex.seq (Ex.eP λc=>g1) (Ex.seq (Ex.eP λc=>i1) (Ex.seq (Ex.seq (Ex.pe rfl λc=>j1) (Ex.u7 j2 Ex.skip)) (Ex.seq (Ex.pe rfl λc=>k1)
     (Ex.seq (Ex.ops ⟨nn,ak⟩) (Ex.seq (Ex.eP u1) (Ex.xX (Ex.loop v1))))))))) ) w1,w2⟩
theorem Ru {H:bh} {Z:Nat->Prop} {id:Nat} {r:List Bool} (B:Z id) (h:H[id]? = some (.row 1 (jc (r.map V.bool)))):FR H Z (enc (Sl.row r)) (.hsl id 1 0 r.length):=by
 have hr:bq H id=some (1,jc (r.map V.bool)):=by simp[bq,h,Ob.rows]
 have C:enc (Sl.row r)=.fsl 1 (rows r):=rfl;have D:(rows r).length=r.length:=by simp[rows]
 have hc:jc (r.map V.bool)=rows r:=by simp[jc,rows,Function.comp_def]
 rw[hc]at hr;rw[C,<-D];refine .fsl 1 (rows r) id 0 (rows r) B hr (by omega) (λi a b h1 w=>?_) (λi j a b u v h1 w z A=>?_)
 .grind
 .rw[Nat.zero_add,h1]at w;cases w;rw[z]at A;cases A;refine .same u ?_;obtain⟨c,G,rfl⟩:∃c∈r,a=[V.bool c]:=by
   have:=List.mem_of_getElem? h1;simp only[rows,List.mem_map]at this;obtain⟨c,hc,rfl⟩:=this;simp_all
  have:=List.mem_of_getElem? z;simp at this;subst this;rfl
theorem P0 {H:bh} {w:V} {o:Nat} {ids:List Nat} {out:List (List Bool)} (n:mm H w o ids (jR out)):∃Z,FR H Z (enc (nested out)) w/\(∀id,Z id->(bq H id).isSome=true)/\Deep H Z:=by
 have hv:=n.v
 by_cases L:out=[]
 .subst L;rw[if_pos (show jR []=[]from rfl)]at hv;subst hv;exact⟨λ_=>False,.same _ rfl,λ_ h=>h.elim,⟨λ_ _ _ h=>h.elim⟩⟩
 .have D:jR out≠[]:=λh=>L (ID.1 h)
  rw[if_neg D,wv]at hv;subst hv;have O:=n.ob D;have G:=n.len;rw[wv]at G;have A:∀(i id:Nat) (r:List Bool),ids[i]? = some id->out[i]? = some r->H[id]? = some (.row 1 (jc (r.map V.bool))):=λi id r h1 C=>n.r i id _ h1 (by simp[jR,C])
  have B:∀(i:Nat) (c:List V),(refs ids (jR out))[i]? = some c->∃id r,ids[i]? = some id/\out[i]? = some r/\c=[.hsl id 1 0 r.length]:=λi c h=>by
   have hi:=(ζe.1 h).1;rw[tI n.len,wv]at hi;have h1:=ζd (show i<ids.length from by omega)
   have C:=ζd hi;have Q:=BW (rows:=jR out) (r:=out[i].map V.bool) h1 (by simp[jR,C])
   grind
  have I:bq H o=some (1,refs ids (jR out)):=by simp[bq,O,Ob.rows]
  have J:∀id∈ids,∃(r:List Bool),H[id]? = some (.row 1 (jc (r.map V.bool))):=λid z=>by
   obtain⟨i,hi⟩:=List.getElem?_of_mem z;have S:=(ζe.1 hi).1;exact⟨_,A i id _ hi (ζd (show i<out.length from by omega))⟩
  refine⟨λid=>id=o\/id∈ids,?_,λid h=>?_,⟨λid es ys h hr c hc u hu=>?_⟩⟩
  .have X:enc (nested out)=.fsl 1 (rows (out.map Sl.row)):=by rw[nested,if_neg L];rfl
   have S:(rows (out.map Sl.row)).length=out.length:=by simp[rows]
   rw[X,<-S];refine .fsl 1 _ o 0 (refs ids (jR out)) (.inl rfl) I (by rw[S,tI n.len,wv];omega) (λi a b h1 C=>?_) (λi j a b u v h1 C Q W=>?_)
   .rw[Nat.zero_add]at C;obtain⟨id,r,_,hr,rfl⟩:=B i b C;simp[rows,hr]at h1;subst h1;rfl
   .rw[Nat.zero_add]at C;obtain⟨id,r,z,hr,rfl⟩:=B i b C;have Y:a=[enc (Sl.row r)]:=by simp[rows,hr]at h1;exact h1.symm
    subst Y
    cases j with
    | zero=>
     simp at Q W;subst Q W;exact Ru (.inr (List.mem_of_getElem? z)) (A i id r z hr)
    | succ j=>simp_all
  .rcases h with rfl|h
   .simp_all
   .obtain⟨r,hr⟩:=J id h;simp[bq,hr,Ob.rows]
  .rcases h with rfl|h
   .rw[I]at hr;cases hr;obtain⟨i,hi⟩:=List.getElem?_of_mem hc;obtain⟨id,r,z,T,rfl⟩:=B i c hi;simp at hu;subst hu;exact⟨_,Ru (.inr (List.mem_of_getElem? z)) (A i id r z T)⟩
   .obtain⟨r,U⟩:=J id h;have:bq H id=some (1,jc (r.map V.bool)):=by simp[bq,U,Ob.rows]
    rw[this]at hr;cases hr;simp only[jc,List.mem_map]at hc;obtain⟨_,⟨c',_,rfl⟩,rfl⟩:=hc;simp at hu;subst hu;exact⟨_,.same _ rfl⟩
theorem S9 {t:Trace} {x:aY} {out:List (List Bool)} {s:Sl aY} {dir:aY->Option (Sl aY)} (hd:wo.keep (wY 116)=true) (W:Gf wo wY t dir) (U:AQ t=true) (Y:dir x=some s) (hw:bV (oG dir) (gF t,s.l)=some (.x out)) :
 Ch wo (wY 81) [enc t,enc x] (enc (nested out)):=by
 obtain⟨fi,g1,g2,g3,g4⟩:=shape;obtain⟨k,hk⟩:=oq.1 hw;have b1:∃F1,(∀c,c7 wo wY c none r1 [enc t,enc x] []=some (F1,[.row 1 [cells t],.row 2 [cells x]]))/\get F1 2=.hptr 0 0 0/\get F1 3=.hptr 1 0 0:=by
  refine⟨_,λc=>kJ (v:=.hptr 0 0 0) (H1:=[.row 1 [cells t]]) rfl ?_ <| kJ (v:=.hptr 1 0 0) (H1:=[.row 1 [cells t],.row 2 [cells x]]) rfl ?_ <| vp (v:=.bX) rfl ?_ fh,?_,?_⟩
  .show (iV .box [enc t]).map _=_;simp only[iV,j_,qx,if_true,Option.map_some,gB];rfl
  .simp only[bS,List.map_cons,List.map_nil,bB,bz,bt,Nat.reduceEqDiff,if_false];show (iV .box [enc x]).map _=_;simp only[iV,j_,qx,if_true,Option.map_some,gB];rfl
  .simp[bS,bB,bn]
  .simp[bz]
  .simp[bz]
 obtain⟨F1,c1,c2,c3⟩:=b1;have b3:∃G,(∀c,c7 wo wY c none r2 F1 [.row 1 [cells t],.row 2 [cells x]]=some (set F1 5 .bX,[.row 1 [cells t],.row 2 [cells x]]))/\(∀c,c7 wo wY c none r3 (set F1 5 .bX) [.row 1 [cells t],.row 2 [cells x]]=some (G,[.row 1 [cells t],.row 2 [cells x]]))/\P1 t x 0 G [.row 1 [cells t],.row 2 [cells x]]:=by
  refine⟨set (set F1 5 .bX) 6 (.int .i64 0),λc=>by simp[r2,c7,bS,bB,bn,bz],λc=>by simp[r3,c7,bS,bB,bn,bz],by simp[c2],by simp[c3],by simp,rfl,rfl,0,[],?_,λh=>absurd rfl h,λid h=>by simp at h⟩
  have:get (set (set F1 5 .bX) 6 (.int .i64 0)) 5=.bX:=by simp
  rw[this,List.take_zero];exact mm.nil _ 0
 obtain⟨G,d1,d2,d3⟩:=b3;obtain⟨F4,O,e1,e2⟩:=K6 (E:=wo) (N:=wY) U t.procs.l.length 0 G _ (by omega) d3
 obtain⟨o,ids,I,n2,n3⟩:=e2.ns;have Q:(gF t).length=t.procs.l.length:=by simp[gF]
 rw[List.take_of_length_le (by omega)]at I
 obtain⟨w,X,id,m1,m2,_,m4⟩:=Ww (a:=0) (d:=0) (F:=F4) (E:=wo) (N:=wY) hd W Y e2.f2 e2.h0 (c:=1) e2.h1;obtain⟨S,o1,o2,o3⟩:=m4 e2.f3;have L:P2 t (gF t) s.l S (O++X):=by
  refine⟨by rw[o3 2 (by omega) (by omega)];exact e2.f2,by rw[List.getElem?_append_left (ζe.1 e2.h0).1];exact e2.h0,O.length,o,ids,id,by rw[o3 5 (by omega) (by omega)];exact I.more X,λu=>?_,λi hi=>⟨by have:=n3 i hi;omega,I.lt.2 i hi⟩,?_,by simp,by rw[o2];exact m1,λoff m h=>?_⟩
  .have z:jR (gF t)≠[]:=λh=>u (ID.1 h)
   have:t.procs.l.length≠0:=by intro h;apply u;exact List.eq_nil_of_length_eq_zero (by omega)
   have:=n2 this;exact⟨by omega,I.lt.1 z⟩
  .have:=(ζe.1 e2.h0).1;omega
  .rw[o2]at h;have:=m2 off m h;omega
 obtain⟨A,J,p1,p2⟩:=KR hd W k _ _ out S _ hk L;obtain⟨B,o',T,aa,q1,_⟩:=p2.ns;have l1:∃C,(∀c,c7 wo wY c none Wj A J=some (C,J))/\get C 4=get A 5:=by
  refine⟨_,λc=>vp (v:=get A 5) rfl ?_ <| vp (v:=get A 5) rfl ?_ fh,?_⟩
  .simp[bS,bB,bn]
  .simp[bS,bB,bn,bz]
  .simp[bz]
 obtain⟨C,y1,y2⟩:=l1;have hex:Ex wo wY code [enc t,enc x] [] .ret C J:=
  Ex.seq (Ex.eP c1) (Ex.seq (Ex.eP d1) (Ex.seq (Ex.seq (Ex.eP d2) (Ex.xX (Ex.loop e1))) (Ex.seq (Ex.ops o1) (Ex.seq (Ex.xX (Ex.loop p1)) (Ex.seq (Ex.eP y1) Ex.ret)))))
 obtain⟨n,D⟩:=hex.run (nm:=some) xR g1 g2 (show [enc t,enc x].length<=fi.ntmps from g3) (vs:=[get C 4]) (by rw[g4];rfl)
 obtain⟨Z,z1,z2,z3⟩:=P0 q1;exact⟨n,get A 5,J,Z,by rw[D,y2];rfl,z1,z2,z3⟩
theorem UM (l:List aY):∀c∈l.map (cells (α:=aY)),c.length=2/\c.all V.one=true/\c.all V.scalar=true:=λc hc=>by
 obtain⟨e,_,rfl⟩:=List.mem_map.1 hc;exact⟨rfl,rfl,rfl⟩
theorem V3 (t:Trace):Gf wo wY t (dN t):=by
 intro y s H A;have h1:=zC t y;have G:=h1 (c6 s) (by rw[A];rfl)
 have hg:V.cI [enc t,enc y]=true:=by simp only[V.cI,mA,Bool.and_self]
 have w:s.k=.row\/s.k=.nil/\rows s.l=[]:=by
  have C:∀o z,(∃l,o=.row l)\/o=.nil->dN.J1 o t y=some z->(∃l,z=.row l)\/z=.nil:=λo z I u=>by
   unfold dN.J1 at u;obtain⟨e,_,u⟩:=ζg.1 u
   cases D:e.kind==3 with
   | true=>
    rw[D]at u;obtain⟨f,_,u⟩:=ζg.1 u;obtain⟨q,B,u⟩:=ζg.1 u;cases u;unfold jf at B;split at B
    .cases B;exact .inl ⟨_,rfl⟩
    .cases B
   | false=>rw[D]at u;cases u;exact I
  have:(∃l,s=.row l)\/s=.nil:=by
   unfold dN at A
   cases hc:decide (y.index>1)with
   | true=>rw[hc]at A;exact C _ s (.inl ⟨_,rfl⟩) A
   | false=>rw[hc]at A;exact C _ s (.inr rfl) A
  rcases this with⟨l,rfl⟩|rfl
  .exact .inl rfl
  .exact .inr ⟨rfl,rfl⟩
 obtain⟨n,z,H',r1,r2⟩:=Ur QT JZ (T:=Tx) (f:=wY 116) (rf:=qG (Tx 116)) (by kernel_rfl) hg (Nat.le_of_ble_eq_true (by kernel_rfl)) (k:=s.k) (es:=2) (xs:=rows s.l) (λc hc=>(UM s.l c hc).2.2) w G
 refine GZ (l:=s.l.map cells) (y:=z) (H1:=H') (by kernel_rfl) hg (UM s.l) ⟨n,λk hk=>(uK _ hk).go _ _ _ _ r1⟩ ?_ H
 rcases r2 with⟨J,rfl⟩|⟨id,rfl,L⟩
 .left;cases s <;> simp[Sl.k]at J;exact⟨rfl,rfl⟩
 .right;exact⟨id,by simp[rows],L⟩
end pastX
theorem PO (t:Trace) (x:aY) (r:Sl (Sl Bool)) (h:nk t x=some r):Sy.wX 81 [enc t,enc x]=some (enc r):=by
 unfold nk at h;split at h
 .rename_i u;obtain⟨s,z,h⟩:=ζg.1 h;obtain⟨w,A,h⟩:=ζg.1 h
  cases w with
  | n a=>exact Empty.elim a
  | r e=>exact Empty.elim e
  | x out=>
   cases h;exact ET (pastX.S9 (by kernel_rfl) (pastX.V3 t) u z A)
 .cases h
end Go.VE
namespace Go.VE
noncomputable section
def sO:Option Bool:=some true
instance RG:Fc Sy cL sO:=⟨10,[],λr:Bool=>[.bool r],true,eS.wX (by kernel_rfl) (by kernel_rfl) Nz⟩
namespace gi
def bu (s0:Sl bT) (D:Int) (B:Int) (p1:bT->Option Bool):Option (Fw Int Unit Int):=
 a_ (decide (B<D))
 ((idx s0 B).bind λu=>
 (p1 u).bind λw=>
 a_ w
 (some (.r B))
 (some (.n (IntKind.wrap .i64 (B+1)))))
 (some (.x ()))
def W1 (s0:Sl bT) (B D:Int) (p1:bT->Option Bool):Option Int:=
 (bV (λq:Int=>bu s0 B q p1) D).bind (Fw.elim
 (λe=>some (-1))
 (λe=>some e))
end gi
def gi (s0:Sl bT) (p1:bT->Option Bool):Option Int:=
 gi.W1 s0 (len s0) 0 p1
open gi in
abbrev wB (g1:FuncId) (e1:List V) (p1:bT->Option Bool) (h1:lW Sy cL g1 [] e1 (λz:bT=>[enc z]) (λr:Bool=>[.bool r]) p1 true) (s0:Sl bT):Fc Sy cL (gi s0 p1):=Fc.M 66 [enc s0,.clo g1 [] e1] (ct 9 s0 (dS 5 (λw=>(bO [Cv 0 s0,(1,.v (.clo g1 [] e1)),Iv 7 (len s0),Iv 8 w] [])) (λu=>(0,(bO [] []))) (λu=>(bO [Iv 4 u] [])) (λw=>bp 7 9 (bG 16 λA _=>y8 1 h1.f A λB _=>bp 2 16 aZ aZ) aZ) (λu=>aZ) (λu=>aZ)))
def gq (s0:Sl bT) (p1:bT->Option Bool):Option Bool:=
 (gi s0 p1).bind λu=>
 some (decide (u>=0))
abbrev oO (g1:FuncId) (e1:List V) (p1:bT->Option Bool) (h1:lW Sy cL g1 [] e1 (λz:bT=>[enc z]) (λr:Bool=>[.bool r]) p1 true) (s0:Sl bT):Fc Sy cL (gq s0 p1):=Fc.M 40 [enc s0,.clo g1 [] e1] (br (F:=wB g1 e1 p1 h1 s0) 9 λu _=>aZ)
namespace fN
def bu (s0:Sl Event) (D:Int) (B:Int) (p1:Event->Option Bool):Option (Fw Int Unit Int):=
 a_ (decide (B<D))
 ((idx s0 B).bind λu=>
 (p1 u).bind λw=>
 a_ w
 (some (.r B))
 (some (.n (IntKind.wrap .i64 (B+1)))))
 (some (.x ()))
def W1 (s0:Sl Event) (B D:Int) (p1:Event->Option Bool):Option Int:=
 (bV (λq:Int=>bu s0 B q p1) D).bind (Fw.elim
 (λe=>some (-1))
 (λe=>some e))
end fN
def fN (s0:Sl Event) (p1:Event->Option Bool):Option Int:=
 fN.W1 s0 (len s0) 0 p1
open fN in
abbrev wm (g1:FuncId) (e1:List V) (p1:Event->Option Bool) (h1:lW Sy cL g1 [] e1 (λz:Event=>[enc z]) (λr:Bool=>[.bool r]) p1 true) (s0:Sl Event):Fc Sy cL (fN s0 p1):=Fc.M 67 [enc s0,.clo g1 [] e1] (ct 9 s0 (dS 5 (λw=>(bO [Cv 0 s0,(1,.v (.clo g1 [] e1)),Iv 7 (len s0),Iv 8 w] [])) (λu=>(0,(bO [] []))) (λu=>(bO [Iv 4 u] [])) (λw=>bp 7 9 (bG 16 λA _=>y8 1 h1.f A λB _=>bp 2 16 aZ aZ) aZ) (λu=>aZ) (λu=>aZ)))
def gU (s0:Sl Event) (p1:Event->Option Bool):Option Bool:=
 (fN s0 p1).bind λu=>
 some (decide (u>=0))
abbrev ow (g1:FuncId) (e1:List V) (p1:Event->Option Bool) (h1:lW Sy cL g1 [] e1 (λz:Event=>[enc z]) (λr:Bool=>[.bool r]) p1 true) (s0:Sl Event):Fc Sy cL (gU s0 p1):=Fc.M 42 [enc s0,.clo g1 [] e1] (br (F:=wm g1 e1 p1 h1 s0) 9 λu _=>aZ)
def oB (B:Event):Option Bool:=
 some (decide ((len B.assign)>20))
instance MJ (B:Event):Fc Sy cL (oB B):=Fc.M 43 [enc B] (bY 2 1 B (ct 7 B.assign aZ))
def lp (B:bT):Option Bool:=
 (a_ (decide ((len B.events)>70))
 (some true)
 (some (decide ((len B.vars)>20))):Option Bool).bind λu=>
 (a_ u
 (some true)
 ((gU B.events (λz=>oB z)).bind λw=>
 some w):Option Bool).bind λA=>
 some A
instance Q1 (B:bT):Fc Sy cL (lp B):=Fc.M 41 [enc B] (bY 2 1 B (ct 7 B.events (bF 2 5 [7] 12 (bp 2 7 (bl 5) (ct 2 B.vars (bl 2))) λu=>bF 1 4 [1,13] 17 (bp 1 13 (bl 4) (br (F:=ow 43 [] (λz=>oB z) lW.s8 B.events) 2 λw _=>bl 1)) λA=>aZ)))
def sR (B:Trace):Option Bool:=
 (a_ (decide ((len B.procs)>10))
 (some true)
 ((gq B.procs (λz=>lp z)).bind λu=>
 some u):Option Bool).bind λw=>
 some w
instance T3 (B:Trace):Fc Sy cL (sR B):=Fc.M 11 [enc B] (bY 2 1 B (ct 7 B.procs (bF 2 4 [1,7] 11 (bp 2 7 (bl 4) (br (F:=oO 41 [] (λz=>lp z) lW.s8 B.procs) 2 λu _=>bl 1)) λw=>aZ)))
namespace eG
def b9 (D:Int) (G:Pred) (J B:Int) (r:(Pred×Int×Int)->Option Int):Option (Fw (Int×Int) Int Empty):=
 (a_ (decide (J<(len G.l)))
 (some (decide (B<=300)))
 (some false):Option Bool).bind λu=>
 a_ u
 ((idx G.l J).bind λw=>
 (r (w,IntKind.wrap .i64 (D+1),B)).bind λz=>
 some (.n (IntKind.wrap .i64 (J+1),z)))
 (some (.x B))
def W2 (B J:Int) (G:Pred) (D:Int) (r:(Pred×Int×Int)->Option Int):Option Int:=
 (bV (λq:Int×Int=>b9 B G q.1 q.2 r) (J,D)).bind (Fw.elim
 (λe=>some e)
 (λe=>Empty.elim e))
def J1 (B:Int) (G:Pred) (D:Int) (r:(Pred×Int×Int)->Option Int):Option Int:=
 eG.W2 B 0 G D r
theorem iP (r:(Pred×Int×Int)->Option Int) (hr:v8 Sy cL 44 (λz:Pred×Int×Int=>[cv z.1,iv z.2.1,.ptr 9001 0,.ptr 9002 0]) (λz:Pred×Int×Int=>[(9001,bx (z.2.2:Int)),(9002,.box [.clo 44 [] [.ptr 9001 0,.ptr 9002 0]])]) (λr:Int=>[]) (λ(z:Pred×Int×Int) (r:Int)=>[(9001,bx (r:Int)),(9002,.box [.clo 44 [] [.ptr 9001 0,.ptr 9002 0]])]) r) (B:Int) (G:Pred) (D:Int):Le ((J1 B G D r).bind (λr=>some ([],[(9001,bx (r:Int)),(9002,.box [.clo 44 [] [.ptr 9001 0,.ptr 9002 0]])]))) (cn Sy cL (Cu (tr Tx 44) [9001,9002]) (oa (tb Tx 44) [1,1,1,0] [] ⟨[Iv 1 B,(2,.ptr 9001 0),(3,.ptr 9002 0),Pv 4],[Xb 4 G,(9001,.box [iv D]),(9002,.box [.clo 44 [] [.ptr 9001 0,.ptr 9002 0]])],[9001,9002],[],true,0⟩)):=
 jM 7 (λu=>⟨[Iv 1 B,(2,.ptr 9001 0),(3,.ptr 9002 0),Pv 4,Iv 6 u.1],[Xb 4 G,(9001,.box [iv u.2]),(9002,.box [.clo 44 [] [.ptr 9001 0,.ptr 9002 0]])],[9001,9002],[],true,0⟩) (λw=>(0,⟨[],[(9001,.box [iv w]),(9002,.box [.clo 44 [] [.ptr 9001 0,.ptr 9002 0]])],[9001,9002],[],true,0⟩)) (λu=>dh 7 13 (Pred.ei G.l) (ct 0 G.l (bF 2 3 [16] 19 (bp 2 16 (bl 3) (bl 3)) λC=>bp 2 19 (dh 9 24 (Pred.ei G.l) (bG 1 λA _=>Sq 3 (nE.of (A,IntKind.wrap .i64 (B+1),u.2) hr) λI _=>aZ)) aZ))) (λw=>aZ)
end eG
def gH (D:Pred) (B G:Int) (r:(Pred×Int×Int)->Option Int):Option Int:=
 a_ (decide (B>40))
 (eG.J1 B D 1000 r)
 (eG.J1 B D (IntKind.wrap .i64 (G+1)) r)
open eG in
theorem zB (r:(Pred×Int×Int)->Option Int) (hr:v8 Sy cL 44 (λz:Pred×Int×Int=>[cv z.1,iv z.2.1,.ptr 9001 0,.ptr 9002 0]) (λz:Pred×Int×Int=>[(9001,bx (z.2.2:Int)),(9002,.box [.clo 44 [] [.ptr 9001 0,.ptr 9002 0]])]) (λr:Int=>[]) (λ(z:Pred×Int×Int) (r:Int)=>[(9001,bx (r:Int)),(9002,.box [.clo 44 [] [.ptr 9001 0,.ptr 9002 0]])]) r) (D:Pred) (B G:Int):∀J,gH D B G r=some J->∃m',cL 44 [cv D,iv B,.ptr 9001 0,.ptr 9002 0] [(9001,bx (G:Int)),(9002,.box [.clo 44 [] [.ptr 9001 0,.ptr 9002 0]])]=some (((λr:Int=>[]) J).map .v,m')/\∀U,kD m' ([(9001,bx (G:Int)),(9002,.box [.clo 44 [] [.ptr 9001 0,.ptr 9002 0]])].map (·.1)) U=some (mB U ((λr:Int=>[(9001,bx (r:Int)),(9002,.box [.clo 44 [] [.ptr 9001 0,.ptr 9002 0]])]) J)):=
 (nE.mk' 44 [cv D,iv B,.ptr 9001 0,.ptr 9002 0] [(9001,bx (G:Int)),(9002,.box [.clo 44 [] [.ptr 9001 0,.ptr 9002 0]])] (λr:Int=>[]) (λr:Int=>[(9001,bx (r:Int)),(9002,.box [.clo 44 [] [.ptr 9001 0,.ptr 9002 0]])]) (bY 2 4 D (bp 16 10 (ki 6 (iP r hr B D 1000)) (ki 4 (iP r hr B D (IntKind.wrap .i64 (G+1)))))):nE Sy cL (gH D B G r)).h
def eG (D:Pred) (B G:Int):Option Int:=dz (λr (z:Pred×Int×Int)=>gH z.1 z.2.1 z.2.2 r) 100000 (D,B,G)
abbrev B2 (D:Pred) (B G:Int):nE Sy cL (eG D B G):=nE.of (D,B,G) (v8.fix (A:=λz:Pred×Int×Int=>[cv z.1,iv z.2.1,.ptr 9001 0,.ptr 9002 0]) (O:=λz:Pred×Int×Int=>[(9001,bx (z.2.2:Int)),(9002,.box [.clo 44 [] [.ptr 9001 0,.ptr 9002 0]])]) (E:=λr:Int=>[]) (M:=λ(z:Pred×Int×Int) (r:Int)=>[(9001,bx (r:Int)),(9002,.box [.clo 44 [] [.ptr 9001 0,.ptr 9002 0]])]) (b:=(λr (z:Pred×Int×Int)=>gH z.1 z.2.1 z.2.2 r)) (by kernel_rfl) (by kernel_rfl) (by kernel_rfl) (λr hr z=>zB r hr z.1 z.2.1 z.2.2) 100000)
def qQ (B:Pred):Option Bool:=
 (eG B 0 0).bind λu=>
 some (decide (u>300))
instance TQ (B:Pred):Fc Sy cL (qQ B):=Fc.M 12 [enc B] (bY 2 1 B (wu 26 (B2 B 0 0) λu _=>aZ))
def nu (G D B:Int):Option Bool:=
 (a_ (decide (G>=D))
 (some (decide (G<=B)))
 (some false):Option Bool).bind λu=>
 some u
instance VI (G D B:Int):Fc Sy cL (nu G D B):=Fc.M 153 [.int .i64 G,.int .i64 D,.int .i64 B] (bF 11 4 [0,2,10] 14 (bp 11 10 (bl 4) (bl 4)) λu=>aZ)
def p9 (B:Int):Option Bool:=
 (a_ (decide (B>=97))
 (some (decide (B<=122)))
 (some false):Option Bool).bind λu=>
 (a_ u
 (some true)
 ((a_ (decide (B>=65))
 (some (decide (B<=90)))
 (some false):Option Bool).bind λw=>
 some w):Option Bool).bind λz=>
 some z
instance R6 (B:Int):Fc Sy cL (p9 B):=Fc.M 197 [.int .u8 B] (bF 10 3 [5] 8 (bp 10 5 (bl 3) (bl 3)) λu=>bF 1 7 [0,9] 16 (bp 1 9 (bl 7) (bF 3 3 [0,12] 15 (bp 3 12 (bl 3) (bl 3)) λw=>bl 1)) λz=>aZ)
def tS (B:Int):Option Bool:=
 (a_ (decide (B>=48))
 (some (decide (B<=57)))
 (some false):Option Bool).bind λu=>
 some u
instance TU (B:Int):Fc Sy cL (tS B):=Fc.M 198 [.int .u8 B] (bF 10 3 [0,5] 8 (bp 10 5 (bl 3) (bl 3)) λu=>aZ)
namespace gm
def bu (s0:ByteArray) (D:Int) (B:Int):Option (Fw Int Unit Unit):=
 a_ (decide (B<D))
 ((kR s0 B).bind λz=>
 (p9 z).bind λA=>
 (a_ A
 (some false)
 ((kR s0 B).bind λC=>
 (tS C).bind λG=>
 some (!G)):Option Bool).bind λI=>
 (a_ I
 ((kR s0 B).bind λu=>
 some (!(u==95)))
 (some false):Option Bool).bind λw=>
 a_ w
 (some (.r ()))
 (some (.n (IntKind.wrap .i64 (B+1)))))
 (some (.x ()))
def W1 (s0:ByteArray) (B D:Int):Option Bool:=
 (bV (λq:Int=>bu s0 B q) D).bind (Fw.elim
 (λe=>some true)
 (λe=>some false))
end gm
def gm (s0:ByteArray):Option Bool:=
 (a_ (ByteArray.toList s0==ByteArray.toList ByteArray.empty)
 (some true)
 (some (decide (((ByteArray.size s0:Nat):Int)>16))):Option Bool).bind λu=>
 (a_ u
 (some true)
 ((kR s0 0).bind λw=>
 (p9 w).bind λz=>
 some (!z)):Option Bool).bind λA=>
 a_ A
 (some false)
 (gm.W1 s0 ((ByteArray.size s0:Nat):Int) 0)
open gm in
instance R1 (s0:ByteArray):Fc Sy cL (gm s0):=Fc.M 181 [.str s0] (bF 11 4 [6] 10 (bp 11 6 (bl 4) (bl 4)) λB=>bF 1 5 [11] 16 (bp 1 11 (bl 5) (Az 1 .i64 λC _=>br 0 λD _=>bl 2)) λG=>bp 2 16 aZ (dS 13 (λw=>(bO [(0,.v (.str s0)),Iv 18 ((ByteArray.size s0:Nat):Int),Iv 19 w] [])) (λu=>(0,(bO [] []))) (λu=>(bO [Bv 2 false] [])) (λw=>bp 7 20 (Az 15 .i64 λI _=>br 0 λJ _=>bF 2 6 [27] 33 (cF 2 27 (bl 6) (Az 2 .i64 λL _=>br 0 λO _=>bl 2)) λQ=>bF 1 5 [3,34] 39 (bp 1 34 (Az 2 .i64 λz _=>bl 2) (bl 5)) λA=>bp 2 39 aZ aZ) aZ) (λu=>aZ) (λu=>aZ)))
def jy (B D:bT):Option Bool:=
 some (ByteArray.toList B.name==ByteArray.toList D.name)
instance IZ (B D:bT):Fc Sy cL (jy B D):=Fc.M 182 [enc B,.fptr (cells D)] (bY 2 2 B aZ)
def jA (B D:Var):Option Bool:=
 some (ByteArray.toList B.name==ByteArray.toList D.name)
instance IY (B D:Var):Fc Sy cL (jA B D):=Fc.M 183 [enc B,.fptr (cells D)] (aZ)
namespace eU
def bu (s0:Sl Var) (D:Int) (B:Int) (p1:Var->Option Bool):Option (Fw Int Unit Int):=
 a_ (decide (B<D))
 ((idx s0 B).bind λu=>
 (p1 u).bind λw=>
 a_ w
 (some (.r B))
 (some (.n (IntKind.wrap .i64 (B+1)))))
 (some (.x ()))
def W1 (s0:Sl Var) (B D:Int) (p1:Var->Option Bool):Option Int:=
 (bV (λq:Int=>bu s0 B q p1) D).bind (Fw.elim
 (λe=>some (-1))
 (λe=>some e))
end eU
def eU (s0:Sl Var) (p1:Var->Option Bool):Option Int:=
 eU.W1 s0 (len s0) 0 p1
open eU in
abbrev nh (g1:FuncId) (e1:List V) (p1:Var->Option Bool) (h1:lW Sy cL g1 [] e1 (λz:Var=>[enc z]) (λr:Bool=>[.bool r]) p1 true) (s0:Sl Var):Fc Sy cL (eU s0 p1):=Fc.M 106 [enc s0,.clo g1 [] e1] (ct 9 s0 (dS 5 (λw=>(bO [Cv 0 s0,(1,.v (.clo g1 [] e1)),Iv 7 (len s0),Iv 8 w] [])) (λu=>(0,(bO [] []))) (λu=>(bO [Iv 4 u] [])) (λw=>bp 7 9 (bG 16 λA _=>y8 1 h1.f A λB _=>bp 2 16 aZ aZ) aZ) (λu=>aZ) (λu=>aZ)))
def gC (s0:Sl Var) (p1:Var->Option Bool):Option Bool:=
 (eU s0 p1).bind λu=>
 some (decide (u>=0))
abbrev pz (g1:FuncId) (e1:List V) (p1:Var->Option Bool) (h1:lW Sy cL g1 [] e1 (λz:Var=>[enc z]) (λr:Bool=>[.bool r]) p1 true) (s0:Sl Var):Fc Sy cL (gC s0 p1):=Fc.M 161 [enc s0,.clo g1 [] e1] (br (F:=nh g1 e1 p1 h1 s0) 9 λu _=>aZ)
namespace eE
def bu (D:Sl Var) (G:Int) (J:bT) (B:Int):Option (Fw Int Unit Int):=
 a_ (decide (B<G))
 ((idx D B).bind λu=>
 (gm u.name).bind λC=>
 (a_ C
 ((jJ J.vars none (some B)).bind λI=>
 (gC I (λz=>jA z u)).bind λL=>
 some L)
 (some true):Option Bool).bind λw=>
 a_ w
 (some (.r 13))
 ((nu u.init_ (-1073741824) 1073741824).bind λA=>
 a_ A
 (some (.n (IntKind.wrap .i64 (B+1))))
 (some (.r 2))))
 (some (.x ()))
def W1 (D:Sl Var) (G J:Int) (B:bT):Option Int:=
 (bV (λq:Int=>bu D G B q) J).bind (Fw.elim
 (λe=>a_ (decide ((len B.events)>64))
 (some 5)
 (some 0))
 (λe=>some e))
end eE
def eE (D:Trace) (p1:Int):Option Int:=
 (idx D.procs p1).bind λu=>
 (gm u.name).bind λw=>
 (a_ w
 ((jJ D.procs none (some p1)).bind λA=>
 (gq A (λz=>jy z u)).bind λB=>
 some B)
 (some true):Option Bool).bind λC=>
 a_ C
 (some 13)
 (a_ (decide ((len u.vars)>8))
 (some 5)
 (eE.W1 u.vars (len u.vars) 0 u))
open eE in
instance K_ (D:Trace) (p1:Int):Fc Sy cL (eE D p1):=Fc.M 154 [enc D,.int .i64 p1] (bY 2 2 D (bG 8 λu _=>mS 2 5 0 u (br 8 λL _=>bF 2 7 [1,2,18] 25 (cF 2 18 (IJ 3 false true [.int .i64 p1] λC _=>cg (F:=oO 182 [.fptr (cells u)] (λz=>jy z u) lW.s8 C) 1 λO _=>bl 1) (bl 7)) λQ=>bp 3 13 aZ (ct 5 u.vars (bp 4 26 aZ (ct 9 u.vars (dS 5 (λA=>(bO [Pv 5,Cv 32 u.vars,Iv 33 (len u.vars),Iv 34 A] [Xb 5 u])) (λw=>(1,(bO [Pv 5] [Xb 5 u]))) (λw=>(bO [Iv 4 w] [])) (λA=>bp 7 35 (bG 8 λB _=>br 11 λS _=>bF 2 7 [6,44] 51 (cF 2 44 (IJ 3 false true [.int .i64 A] λG _=>cg (F:=pz 183 [.fptr (cells B)] (λz=>jA z B) lW.s8 G) 1 λT _=>bl 1) (bl 7)) λI=>bp 3 39 aZ (br 5 λJ _=>cF 4 52 aZ aZ)) aZ) (λw=>ct 7 u.events (bp 3 61 aZ aZ)) (λw=>aZ))))))))
def je (B:Trace):Option Trace:=
 some B
instance RH (B:Trace):Fc Sy cL (je B):=Fc.NE (λr:Trace=>[(.clo 184 [] [.fptr (cells r)])]) 155 [enc B] (bY 2 1 B aZ)
namespace ij
def J1 (p1:Int) (D:Bool) (G:Trace) (B:Event):Option Bool:=
 a_ D
 ((nu B.peer 0 (IntKind.wrap .i64 ((len G.procs)-1))).bind λu=>
 (a_ u
 (some (!(B.peer==p1)))
 (some false):Option Bool).bind λw=>
 (a_ w
 ((nu B.message 0 199).bind λz=>
 some z)
 (some false):Option Bool).bind λA=>
 some A)
 (some false)
end ij
def ij (B:Trace) (p1:Int) (e2:Event):Option Bool:=
 a_ (e2.kind==1)
 ((a_ (e2.peer==0)
 (some (e2.message==0))
 (some false):Option Bool).bind λu=>
 some u)
 (a_ (e2.kind==2)
 (ij.J1 p1 true B e2)
 (ij.J1 p1 (e2.kind==3) B e2))
open ij in
instance Sx (B:Trace) (p1:Int) (e2:Event):Fc Sy cL (ij B p1 e2):=Fc.M 185 [enc B,.int .i64 p1,enc e2] (bY 2 3 B (bY 0 5 e2 (bp 17 9 (bF 7 4 [5,14] 18 (bp 7 14 (bl 4) (bl 4)) λC=>aZ) (bp 8 19 (n_ 4 (bp 0 19 (ct 7 B.procs (br 1 λu _=>bF 1 5 [1,29] 34 (bp 1 29 (bl 5) (bl 5)) λw=>bF 1 4 [5,35] 39 (bp 1 35 (br 2 λz _=>bl 1) (bl 4)) λA=>aZ)) aZ)) (n_ 7 (bp 0 19 (ct 7 B.procs (br 1 λu _=>bF 1 5 [1,29] 34 (bp 1 29 (bl 5) (bl 5)) λw=>bF 1 4 [5,35] 39 (bp 1 35 (br 2 λz _=>bl 1) (bl 4)) λA=>aZ)) aZ))))))
def kq (B D:Assign):Option Bool:=
 some (B.var==D.var)
instance JG (B D:Assign):Fc Sy cL (kq B D):=Fc.M 187 [enc B,.fptr (cells D)] (aZ)
namespace fq
def bu (s0:Sl Assign) (D:Int) (B:Int) (p1:Assign->Option Bool):Option (Fw Int Unit Int):=
 a_ (decide (B<D))
 ((idx s0 B).bind λu=>
 (p1 u).bind λw=>
 a_ w
 (some (.r B))
 (some (.n (IntKind.wrap .i64 (B+1)))))
 (some (.x ()))
def W1 (s0:Sl Assign) (B D:Int) (p1:Assign->Option Bool):Option Int:=
 (bV (λq:Int=>bu s0 B q p1) D).bind (Fw.elim
 (λe=>some (-1))
 (λe=>some e))
end fq
def fq (s0:Sl Assign) (p1:Assign->Option Bool):Option Int:=
 fq.W1 s0 (len s0) 0 p1
open fq in
abbrev vq (g1:FuncId) (e1:List V) (p1:Assign->Option Bool) (h1:lW Sy cL g1 [] e1 (λz:Assign=>[enc z]) (λr:Bool=>[.bool r]) p1 true) (s0:Sl Assign):Fc Sy cL (fq s0 p1):=Fc.M 199 [enc s0,.clo g1 [] e1] (ct 9 s0 (dS 5 (λw=>(bO [Cv 0 s0,(1,.v (.clo g1 [] e1)),Iv 7 (len s0),Iv 8 w] [])) (λu=>(0,(bO [] []))) (λu=>(bO [Iv 4 u] [])) (λw=>bp 7 9 (bG 16 λA _=>y8 1 h1.f A λB _=>bp 2 16 aZ aZ) aZ) (λu=>aZ) (λu=>aZ)))
def gI (s0:Sl Assign) (p1:Assign->Option Bool):Option Bool:=
 (fq s0 p1).bind λu=>
 some (decide (u>=0))
abbrev tK (g1:FuncId) (e1:List V) (p1:Assign->Option Bool) (h1:lW Sy cL g1 [] e1 (λz:Assign=>[enc z]) (λr:Bool=>[.bool r]) p1 true) (s0:Sl Assign):Fc Sy cL (gI s0 p1):=Fc.M 186 [enc s0,.clo g1 [] e1] (br (F:=vq g1 e1 p1 h1 s0) 9 λu _=>aZ)
namespace dH
def b9 (D:Sl Assign) (G:Int) (J:Event) (U:bT) (B:Int):Option (Fw Int Unit Int):=
 a_ (decide (B<G))
 ((idx D B).bind λu=>
 (nu u.var 0 (IntKind.wrap .i64 ((len U.vars)-1))).bind λC=>
 (a_ C
 ((nu u.value (-1073741824) 1073741824).bind λI=>
 some (!I))
 (some true):Option Bool).bind λL=>
 a_ L
 (some (.r 2))
 ((jJ J.assign none (some B)).bind λw=>
 (gI w (λz=>kq z u)).bind λA=>
 a_ A
 (some (.r 8))
 (some (.n (IntKind.wrap .i64 (B+1))))))
 (some (.x ()))
def W2 (B:Sl Assign) (D G:Int) (J:Event) (U:bT):Option Int:=
 (bV (λq:Int=>b9 B D J U q) G).bind (Fw.elim
 (λe=>some 0)
 (λe=>some e))
def J1 (D:Int) (J:Trace) (G:aY) (B:Event) (U:bT):Option Int:=
 (ij J G.proc B).bind λu=>
 a_ u
 ((nu B.time 0 1099511627776).bind λw=>
 (a_ w
 (some (decide (B.time<D)))
 (some true):Option Bool).bind λz=>
 a_ z
 (some 11)
 (a_ (decide ((len B.assign)>8))
 (some 5)
 (dH.W2 B.assign (len B.assign) 0 B U)))
 (some 3)
theorem iP (D:Int) (U:Trace) (J:aY) (B:Event) (G:bT):Le ((J1 D U J B G).bind (λr=>some [.int .i64 r])) (cn Sy cL (mF (tr Tx 156)) (oa (tb Tx 156) [1,1,1,1,0] [] (bO [Pv 3,Pv 4,Pv 5,Pv 7,Iv 8 D] [Xb 3 U,Xb 4 J,Xb 5 B,Xb 7 G]))):=
 br 8 λL _=>cF 4 28 (br 5 λO _=>bF 2 5 [8,40] 45 (cF 2 40 (bl 5) (bl 5)) λQ=>bp 3 35 aZ (ct 5 B.assign (bp 4 46 aZ (ct 9 B.assign (dS 5 (λw=>(bO [Pv 5,Pv 7,Cv 52 B.assign,Iv 53 (len B.assign),Iv 54 w] [Xb 5 B,Xb 7 G])) (λu=>(1,(bO [] []))) (λu=>(bO [Iv 6 u] [])) (λw=>bp 7 55 (bG 8 λA _=>ct 13 G.vars (br 1 λS _=>bF 2 5 [68] 73 (cF 2 68 (br 2 λT _=>bl 2) (bl 5)) λW=>bp 3 59 aZ (IJ 6 false true [.int .i64 w] λC _=>cg (F:=tK 187 [.fptr (cells A)] (λz=>kq z A) lW.s8 C) 1 λI _=>bp 3 74 aZ aZ))) aZ) (λu=>aZ) (λu=>aZ)))))) aZ
end dH
def dH (D:Trace) (B:aY) (e2:Event):Option Int:=
 (idx D.procs B.proc).bind λu=>
 a_ (decide (B.index>1))
 ((idx u.events (IntKind.wrap .i64 (B.index-2))).bind λw=>
 dH.J1 w.time D B e2 u)
 (dH.J1 0 D B e2 u)
open dH in
instance NX (D:Trace) (B:aY) (e2:Event):Fc Sy cL (dH D B e2):=Fc.M 156 [enc D,enc B,enc e2] (bY 2 3 D (bY 1 5 e2 (bG 9 λu _=>mS 2 7 0 u (bp 15 19 (bG 7 λw _=>ki 6 (iP w.time D B e2 u)) (ki 4 (iP 0 D B e2 u))))))
def qn (B:Event) (D G:Int):Option Bool:=
 (a_ (B.kind==2)
 (some (B.message==D))
 (some false):Option Bool).bind λu=>
 (a_ u
 (some (B.peer==G))
 (some false):Option Bool).bind λw=>
 some w
instance OL (B:Event) (D G:Int):Fc Sy cL (qn B D G):=Fc.M 200 [enc B,.fptr (cells D),.fptr (cells G)] (bY 2 3 B (bF 9 5 [1,8] 13 (bp 9 8 (bl 5) (bl 5)) λu=>bF 1 5 [2,3,14] 19 (bp 1 14 (bl 5) (bl 5)) λw=>aZ))
def uf (D:Trace) (p1 G B:Int):Option Bool:=
 (idx D.procs p1).bind λu=>
 (gU u.events (λz=>qn z G B)).bind λw=>
 some w
instance TP (G:Trace) (p1 D B:Int):Fc Sy cL (uf G p1 D B):=Fc.M 188 [enc G,.int .i64 p1,.int .i64 D,.int .i64 B] (bY 2 4 G (bG 10 λu _=>cg (F:=ow 200 [.fptr (cells D),.fptr (cells B)] (λz=>qn z D B) lW.s8 u.events) 3 λw _=>aZ))
namespace eD
def jt (D G:Trace) (J:Option (cE 200 bK)) (U:aY) (W:Int) (x:aY×Event) (B:cE 200 bK):Option (Fw (cE 200 bK) Empty (aY×Int×(cE 200 bK))):=
 a_ (x.2.kind==2)
 ((cE.at B x.2.message).bind λu=>
 a_ (decide (u.from_.index>0))
 (some (.r (x.1,8,B)))
 ((cE.at B x.2.message).bind λw=>
 some (.n (cE.set B x.2.message (⟨x.1,w.to_⟩:bK)))))
 (a_ (x.2.kind==3)
 ((cE.at B x.2.message).bind λz=>
 a_ (decide (z.to_.index>0))
 (some (.r (x.1,8,B)))
 ((uf G x.2.peer x.2.message x.1.proc).bind λA=>
 a_ A
 ((cE.at B x.2.message).bind λC=>
 some (.n (cE.set B x.2.message (⟨C.from_,x.1⟩:bK))))
 (some (.r (x.1,7,B)))))
 (some (.n B)))
def E1 (B G:Trace) (J:Option (cE 200 bK)) (U:aY) (W:Int) (D:cE 200 bK):Option ((Option (cE 200 bK))×aY×Int):=
 (ja B).bind λu=>(kj (λ(x:aY×Event) (q:cE 200 bK)=>jt B G J U W x q) u D).bind (Fw.qt
 (λq=>some (some q,⟨0,0⟩,0))
 (λe=>Empty.elim e)
 (λe=>some ((none:Option (cE 200 bK)),e.1,e.2.1)))
end eD
def eD (B:Trace):Option ((Option (cE 200 bK))×aY×Int):=
 (je B).bind λu=>
 eD.E1 u B (none:Option (cE 200 bK)) (⟨0,0⟩:aY) 0 (cE.Na 200 (⟨⟨0,0⟩,⟨0,0⟩⟩:bK))
open eD in
instance KC (B:Trace):Fc Sy cL (eD B):=Fc.N 157 [enc B] (bY 2 1 B (bY 8 10 (cE.Na 200 (⟨⟨0,0⟩,⟨0,0⟩⟩:bK)) (UR 0 5 (bO [Pv 1,Pv 2,Pv 3,Pv 4,Pv 10] [Xb 1 B,(2,.box [cv (none:Option (cE 200 bK))]),Xb 3 (⟨0,0⟩:aY),(4,.box [iv 0]),Xb 10 (cE.Na 200 (⟨⟨0,0⟩,⟨0,0⟩⟩:bK))]) [cv (none:Option (cE 200 bK))] (by simp only[bO,xQ,qh,rY,qz,rV,tg,rQ,tj,qy,sx,xU,tu,tM,s_,tq,vE,vM,rU,tA];rfl) (br 7 λA _=>Em λL C=>A7 4 [Pv 1,Pv 2,Pv 3,Pv 4,Pv 5,(12,.v (.clo 184 [] [.fptr (cells A)]))] (λw=>[Xb 1 B,(2,.box [cv (none:Option (cE 200 bK))]),Xb 3 (⟨0,0⟩:aY),(4,.box [iv 0]),(5,.box [.ptr 10 0]),Xb 10 w]) (λz=>Empty.elim z) (λz=>[Xb 1 B,(2,.box [cv (none:Option (cE 200 bK))]),Xb 3 z.1,(4,.box [iv z.2.1]),(5,.box [.ptr 10 0]),Xb 10 z.2.2]) (yM A L C) (λu w=>UR 2 6 ⟨[Pv 1,Pv 2,Pv 3,Pv 4,Pv 5,(12,.v (.clo 184 [] [.fptr (cells A)])),Cv 13 u.1,Cv 14 u.2],[Xb 1 B,(2,.box [cv (none:Option (cE 200 bK))]),Xb 3 (⟨0,0⟩:aY),(4,.box [iv 0]),(5,.box [.ptr 10 0]),Xb 10 w],[1,2,3,4,5],[],true,0⟩ [iv 0,iv 0] (by simp only[bO,xQ,qh,rY,qz,rV,tg,rQ,tj,qy,sx,xU,tu,tM,s_,tq,vE,vM,rU,tA];rfl) (UR 4 7 ⟨[Pv 1,Pv 2,Pv 3,Pv 4,Pv 5,(12,.v (.clo 184 [] [.fptr (cells A)])),Cv 14 u.2,Pv 6],[Xb 1 B,(2,.box [cv (none:Option (cE 200 bK))]),Xb 3 (⟨0,0⟩:aY),(4,.box [iv 0]),(5,.box [.ptr 10 0]),Xb 10 w,Xb 6 u.1],[1,2,3,4,5],[],true,0⟩ [iv 0,iv 0,iv 0,iv 0,.v .bX] (by simp only[bO,xQ,qh,rY,qz,rV,tg,rQ,tj,qy,sx,xU,tu,tM,s_,tq,vE,vM,rU,tA];rfl) (mS 0 7 0 u.2 (xV 1 (bp 22 19 (Gq 7 .i64 10 λD O=>QX 2 1 false 10 w u.2.message 1 D O (.int .i64 D.from_.index) (by rfl) (bp 3 28 aZ (Gq 8 .i64 10 λG Q=>QS 1 10 w u.2.message 0 G Q (⟨u.1,G.to_⟩:bK) u.1 rfl aZ))) (bp 7 36 (Gq 7 .i64 10 λI S=>QX 2 1 false 10 w u.2.message 3 I S (.int .i64 I.to_.index) (by rfl) (bp 3 45 aZ (br 12 λU _=>cF 3 54 (Gq 8 .i64 10 λJ T=>QS 1 10 w u.2.message 2 J T (⟨J.from_,u.1⟩:bK) u.1 rfl aZ) aZ))) aZ)))))) (λw=>Vy 13 (bO [Pv 2,Pv 3,Pv 4] [(2,.box [.ptr 10 0]),Xb 3 (⟨0,0⟩:aY),(4,.box [iv 0]),Xb 10 w]) [.ptr 10 0,cv (⟨0,0⟩:aY),iv 0] (S6 (d:=10) (x:=w) (vs:=[enc (⟨0,0⟩:aY),.int .i64 0]) (by kernel_rfl)) (by kernel_rfl)) (λx=>Empty.elim x) (λz=>aZ)))))
namespace jd
def J1 (D:cE 200 bK) (B:Sl aY) (J:Sl Event) (G:aY):Option (Sl aY):=
 (idx J (IntKind.wrap .i64 (G.index-1))).bind λu=>
 (a_ (u.kind==2)
 ((cE.at D u.message).bind λw=>
 some (decide (w.to_.index>0)))
 (some false):Option Bool).bind λz=>
 a_ z
 ((cE.at D u.message).bind λA=>
 (jf B (A.to_:aY)).bind λC=>
 some C)
 (some B)
theorem iP (B:cE 200 bK) (D:Sl aY) (J:Sl Event) (G:aY):Le ((J1 B D J G).bind (λr=>some [enc r])) (cn Sy cL (mF (tr Tx 189)) (oa (tb Tx 189) [1,1,1,1,0,0] [] (bO [Kv 1 B,Pv 5,Ov 7,Cv 8 J] [Xb 5 G,Lb 2007 D]))):=
 bG 7 λu _=>mS 2 9 0 u (bF 8 10 [40] 50 (bp 8 40 (Ky 4 .i64 λw z=>Qf 0 2 B u.message 0 w z (Qf 0 1 B u.message 2 w z (KH 0 1 false B u.message 3 w z (.int .i64 w.to_.index) (by rfl) (bl 2)))) (bl 10)) λI=>bp 2 50 (Ky 7 .i64 λA C=>Qf 0 2 B u.message 0 A C (KH 0 2 true B u.message 2 A C (enc A.to_) (by rfl) (xB 1 2007 59 60 λL _=>aZ))) aZ)
end jd
def jd (D:Trace) (B:cE 200 bK) (x2:aY):Option (Sl aY):=
 (idx D.procs x2.proc).bind λu=>
 a_ (decide (x2.index<(len u.events)))
 (jd.J1 B (Sl.row [⟨x2.proc,IntKind.wrap .i64 (x2.index+1)⟩]:Sl aY) u.events x2)
 (jd.J1 B (Sl.nil:Sl aY) u.events x2)
open jd in
instance TC (D:Trace) (B:cE 200 bK) (x2:aY):Fc Sy cL (jd D B x2):=Fc.N 189 [enc D,.fptr (cells B),enc x2] (bY 2 3 D (bG 15 λu _=>ct 11 u.events (bp 3 21 (QM 10 29 30 .bX (⟨x2.proc,IntKind.wrap .i64 (x2.index+1)⟩:aY) (ki 5 (iP B (Sl.row [⟨x2.proc,IntKind.wrap .i64 (x2.index+1)⟩]:Sl aY) u.events x2))) (ki 5 (iP B (Sl.nil:Sl aY) u.events x2)))))
namespace h_
def fe (U:Trace) (W:Sl aY) (Y:Int) (aa:Trace) (ab:cE 200 bK) (ad:aY) (ae:Bool) (J:aY) (B:Sl aY) (G:Int) (D:Mo aY Bool):Option (Fw ((Sl aY)×Int×(Mo aY Bool)) ((Sl aY)×(Mo aY Bool)) Unit):=
 a_ (decide (G<Y))
 ((idx W G).bind λu=>
 a_ (J6 u J)
 (some (.r ()))
 (a_ (Eu D u false)
 (some (.n (B,IntKind.wrap .i64 (G+1),D)))
 ((jf B (u:aY)).bind λw=>
 some (.n (w,IntKind.wrap .i64 (G+1),rF D u true)))))
 (some (.x (B,D)))
def W3 (D:Sl aY) (B:Trace) (U:Sl aY) (W Y:Int) (aa:Trace) (ab:cE 200 bK) (ad:aY) (ae:Bool) (G:aY) (J:Mo aY Bool):Option (Fw ((Sl aY)×(Mo aY Bool)) Unit Unit):=
 (bV (λq:(Sl aY)×Int×(Mo aY Bool)=>fe B U W aa ab ad ae G q.1 q.2.1 q.2.2) (D,Y,J)).bind (Fw.elim
 (λe=>some (.n (e.1,e.2)))
 (λe=>some (.r ())))
def b9 (D G:Trace) (J:cE 200 bK) (Y:aY) (aa:Bool) (U:aY) (B:Sl aY) (W:Mo aY Bool):Option (Fw ((Sl aY)×(Mo aY Bool)) Unit Unit):=
 a_ (decide ((len B)>0))
 ((Sl.rT B (IntKind.wrap .i64 ((len B)-1))).bind λw=>
 (Sl.get B w).bind λz=>
 (oP B none (some (IntKind.wrap .i64 ((len B)-1)))).bind λA=>
 (jd G J z).bind λu=>
 W3 A D u (len u) 0 G J Y aa U W)
 (some (.x ()))
def W2 (G:Sl aY) (B U:Trace) (W:cE 200 bK) (Y:aY) (aa:Bool) (D:aY) (J:Mo aY Bool):Option (Fw Unit Empty aY):=
 (bV (λq:(Sl aY)×(Mo aY Bool)=>b9 B U W Y aa D q.1 q.2) (G,J)).bind (Fw.elim
 (λe=>some (.n ()))
 (λe=>some (.r D)))
def jt (B D:Trace) (G:cE 200 bK) (J:aY) (U:Bool) (x:aY×Event):Option (Fw Unit Empty aY):=
 W2 (Sl.row [x.1]:Sl aY) B D G J U x.1 []
def E1 (B D:Trace) (G:cE 200 bK) (J:aY) (U:Bool):Option (aY×Bool):=
 (ja B).bind λu=>(kj (λ(x:aY×Event) (q:Unit)=>jt B D G J U x) u ()).bind (Fw.qt
 (λq=>some (⟨0,0⟩,false))
 (λe=>Empty.elim e)
 (λe=>some (e,true)))
end h_
def h_ (B:Trace) (D:cE 200 bK):Option (aY×Bool):=
 (je B).bind λu=>
 h_.E1 u B D (⟨0,0⟩:aY) false
open h_ in
instance RZ (B:Trace) (D:cE 200 bK):Fc Sy cL (h_ B D):=Fc.M 158 [enc B,.fptr (cells D)] (bY 2 2 B (br 9 λw _=>Em λT O=>A7 4 [Pv 2,Pv 3,Pv 4,Pv 5,(13,.v (.clo 184 [] [.fptr (cells w)]))] (λQ=>[Xb 2 B,(3,.box [cp D]),Xb 4 (⟨0,0⟩:aY),(5,.box [bv false])]) (λG=>Empty.elim G) (λG=>[Xb 2 B,(3,.box [cp D]),Xb 4 G,(5,.box [bv true])]) (yM w T O) (λA Q=>xV 4 (dS 18 (λu=>⟨[Pv 2,Pv 3,Pv 4,Pv 5,Pv 6,(7,.mp 16),Ov 8,(13,.v (.clo 184 [] [.fptr (cells w)]))],[Xb 2 B,(3,.box [cp D]),Xb 4 (⟨0,0⟩:aY),(5,.box [bv false]),Xb 6 A.1,(16,we u.2),Lb 2008 u.1],[2,3,4,5],[],true,0⟩) (λI=>(2,⟨[Pv 2,Pv 3,Pv 4,Pv 5,(13,.v (.clo 184 [] [.fptr (cells w)]))],[Xb 2 B,(3,.box [cp D]),Xb 4 (⟨0,0⟩:aY),(5,.box [bv false])],[2,3,4,5],[],true,0⟩)) (λI=>⟨[],[Xb 2 B,(3,.box [cp D]),Xb 4 A.1,(5,.box [bv true])],[2,3,4,5],[],true,0⟩) (λu=>K7 6 2008 u.1 (bp 3 21 (K7 8 2008 u.1 (xG .i64 1 2008 λU _=>Ca 0 2008 0 2 true (λJ=>.agg [.int .i64 J.proc,.int .i64 J.index]) λJ _=>K7 8 2008 u.1 (V4 1 false true 2008 32 [.int .i64 (IntKind.wrap .i64 ((len u.1)-1))] λW _=>br 8 λL _=>ct 0 L (dS 6 (λz=>⟨[Pv 2,Pv 3,Pv 4,Pv 5,Pv 6,(7,.mp 16),Ov 8,(13,.v (.clo 184 [] [.fptr (cells w)])),Cv 36 L,Iv 37 (len L),Iv 38 z.2.1],[Xb 2 B,(3,.box [cp D]),Xb 4 (⟨0,0⟩:aY),(5,.box [bv false]),Xb 6 A.1,(16,we z.2.2),Lb 2008 z.1],[2,3,4,5],[],true,0⟩) (λC=>(4,⟨[Pv 2,Pv 3,Pv 4,Pv 5,Pv 6,(7,.mp 16),Ov 8,(13,.v (.clo 184 [] [.fptr (cells w)]))],[Xb 2 B,(3,.box [cp D]),Xb 4 (⟨0,0⟩:aY),(5,.box [bv false]),Xb 6 A.1,(16,we C.2),Lb 2008 C.1],[2,3,4,5],[],true,0⟩)) (λC=>⟨[],[Xb 2 B,(3,.box [cp D]),Xb 4 A.1,(5,.box [bv true])],[2,3,4,5],[],true,0⟩) (λz=>bp 8 39 (bG 7 λS _=>bp 13 44 aZ (Vv 7 16 z.2.2 S false (cF 3 49 aZ (WK 5 16 z.2.2 S true (xB 6 2008 54 55 λX _=>aZ))))) aZ) (λC=>aZ) (λC=>aZ))))) aZ)) (λI=>aZ) (λI=>aZ))) (λQ=>aZ) (λx=>Empty.elim x) (λG=>aZ)))
namespace gL
def J5 (B D:Trace) (G:aY) (J:Int) (x:aY×Event):Option (Fw Unit Empty (aY×Int)):=
 (dH D x.1 x.2).bind λu=>
 a_ (u==0)
 (some (.n ()))
 (some (.r (x.1,u)))
def E2 (B D:Trace) (G:aY) (J:Int):Option (aY×Int):=
 (ja B).bind λz=>(kj (λ(x:aY×Event) (q:Unit)=>J5 B D G J x) z ()).bind (Fw.qt
 (λq=>(eD D).bind λu=>
 a_ (u.2.2==0)
 ((u.1).bind λA=>
 (h_ D A).bind λw=>
 a_ w.2
 (some (w.1,10))
 (some (⟨0,0⟩,0)))
 (some (u.2.1,u.2.2)))
 (λe=>Empty.elim e)
 (λe=>some (e.1,e.2)))
def bu (D:Int) (G:Trace) (J:aY) (U:Int) (B:Int):Option (Fw Int Unit (aY×Int)):=
 a_ (decide (B<D))
 ((eE G B).bind λu=>
 a_ (u==0)
 (some (.n (IntKind.wrap .i64 (B+1))))
 (some (.r ((⟨B,0⟩:aY),u))))
 (some (.x ()))
def W1 (J U:Int) (B:Trace) (D:aY) (G:Int):Option (aY×Int):=
 (bV (λq:Int=>bu J B D G q) U).bind (Fw.elim
 (λe=>(je B).bind λu=>
 gL.E2 u B D G)
 (λe=>some (e.1,e.2)))
end gL
def gL (B:Trace):Option (aY×Int):=
 (nu (len B.procs) 1 8).bind λu=>
 a_ u
 (gL.W1 (len B.procs) 0 B (⟨0,0⟩:aY) 0)
 (some (⟨0,0⟩,1))
open gL in
instance Ty (B:Trace):Fc Sy cL (gL B):=Fc.M 117 [enc B] (bY 2 1 B (ct 9 B.procs (br 0 λL _=>cF 3 18 (ct 8 B.procs (dS 5 (λA=>(bO [Pv 1,Pv 2,Pv 3,Iv 22 (len B.procs),Iv 23 A] [Xb 1 B,Xb 2 (⟨0,0⟩:aY),(3,.box [iv 0])])) (λu=>(0,(bO [Pv 1,Pv 2,Pv 3] [Xb 1 B,Xb 2 (⟨0,0⟩:aY),(3,.box [iv 0])]))) (λu=>(bO [Pv 2,Pv 3] [Xb 2 u.1,(3,.box [iv u.2])])) (λA=>bp 7 24 (br 15 λO _=>cF 9 30 aZ aZ) aZ) (λu=>br 6 λz _=>Em λI C=>A7 4 [Pv 1,Pv 2,Pv 3,(36,.v (.clo 184 [] [.fptr (cells z)]))] (λD=>[Xb 1 B,Xb 2 (⟨0,0⟩:aY),(3,.box [iv 0])]) (λw=>Empty.elim w) (λw=>[Xb 1 B,Xb 2 w.1,(3,.box [iv w.2])]) (yM z I C) (λJ D=>mS 8 7 0 J.2 (xV 1 (br 7 λQ _=>cF 9 44 aZ aZ))) (λD=>br 5 λG _=>cF 17 54 (WL 8 (λS=>(bO [Pv 2,Pv 3,(36,.v (.clo 184 [] [.fptr (cells z)])),Pv 10,Iv 11 G.2.2,Bv 54 false,Cv 58 B,Cv 59 S] [Xb 1 B,Xb 2 (⟨0,0⟩:aY),(3,.box [iv 0]),Xb 10 G.2.1])) λT _=>br 0 λU _=>bp 13 63 aZ aZ) aZ) (λx=>Empty.elim x) (λw=>aZ)) (λu=>aZ))) aZ)))
def dK (B:Trace):Option Bool:=
 (gL B).bind λu=>
 some (u.2==0)
instance TI (B:Trace):Fc Sy cL (dK B):=Fc.M 82 [enc B] (bY 2 1 B (br 6 λu _=>aZ))
def tF (B:Int):Option Bool:=
 (a_ (B==2)
 (some true)
 (some (B==3)):Option Bool).bind λu=>
 (a_ u
 (some true)
 (some (B==4)):Option Bool).bind λw=>
 some w
instance Qt (B:Int):Fc Sy cL (tF B):=Fc.M 159 [.int .i64 B] (bF 10 3 [5] 8 (bp 10 5 (bl 3) (bl 3)) λu=>bF 1 3 [0,9] 12 (bp 1 9 (bl 3) (bl 3)) λw=>aZ)
def j9 (B:Pred):Option Bool:=
 (a_ (decide (B.kind<1))
 (some true)
 (some (decide (B.kind>=22))):Option Bool).bind λz=>
 (a_ z
 (some true)
 ((cE.at wK B.kind).bind λA=>
 some (!((len B.l)==A))):Option Bool).bind λC=>
 (a_ C
 (some true)
 (some (decide (B.n<0))):Option Bool).bind λD=>
 (a_ D
 (some true)
 (some (decide (B.n>1125899906842624))):Option Bool).bind λG=>
 (a_ G
 (some true)
 ((a_ (B.n==0)
 (some false)
 (some (!(B.kind==1))):Option Bool).bind λI=>
 some I):Option Bool).bind λJ=>
 a_ J
 (some false)
 ((tF B.kind).bind λL=>
 (a_ L
 (some true)
 ((a_ (B.proc==0)
 (some (B.peer==0))
 (some false):Option Bool).bind λO=>
 (a_ O
 (some (ByteArray.toList B.name==ByteArray.toList ByteArray.empty))
 (some false):Option Bool).bind λu=>
 some u):Option Bool).bind λw=>
 some w)
instance Rl (B:Pred):Fc Sy cL (j9 B):=Fc.M 119 [enc B] (bY 2 1 B (bF 10 4 [6] 10 (bp 10 6 (bl 4) (bl 4)) λC=>bF 1 9 [11] 20 (bp 1 11 (bl 9) (dh 2 13 (Pred.ei B.l) (ct 0 B.l (Ky 2 .i64 λu w=>KH 0 1 false wK B.kind 0 u w (.int .i64 u) (by rfl) (bl 2))))) λD=>bF 1 4 [21] 25 (bp 1 21 (bl 4) (bl 4)) λG=>bF 1 4 [26] 30 (bp 1 26 (bl 4) (bl 4)) λI=>bF 1 9 [31] 40 (bp 1 31 (bl 9) (bF 4 4 [35] 39 (cF 4 35 (bl 4) (bl 4)) λJ=>bl 1)) λL=>bp 2 40 aZ (br 7 λO _=>bF 1 14 [1,44] 58 (bp 1 44 (bl 14) (bF 4 4 [48] 52 (bp 4 48 (bl 4) (bl 4)) λQ=>bF 1 4 [1,53] 57 (bp 1 53 (bl 4) (bl 4)) λz=>bl 1)) λA=>aZ)))
def gY (D:Pred) (G B:Int) (r:(Pred×Int×Int)->Option (Bool×Int)):Option (Bool×Int):=
 (r (D,IntKind.wrap .i64 (G+1),B)).bind λu=>
 some ((!u.1),u.2)
abbrev wA (r:(Pred×Int×Int)->Option (Bool×Int)) (hr:v8 Sy cL 118 (λz:Pred×Int×Int=>[cv z.1,iv z.2.1,.ptr 9004 0,.ptr 9003 0]) (λz:Pred×Int×Int=>[(9004,bx (z.2.2:Int)),(9003,.box [.clo 118 [] [.ptr 9004 0,.ptr 9003 0]])]) (λr:Bool×Int=>[.bool r.1]) (λ(z:Pred×Int×Int) (r:Bool×Int)=>[(9004,bx (r.2:Int)),(9003,.box [.clo 118 [] [.ptr 9004 0,.ptr 9003 0]])]) r) (D:Pred) (G B:Int):nE Sy cL (gY D G B r):=nE.mk' 121 [cv D,.ptr 9003 0,.v (.fptr (cells G))] [(9003,.box [.clo 118 [] [.ptr 9004 0,.ptr 9003 0]]),(9004,bx (B:Int))] (λr:Bool×Int=>[.bool r.1]) (λr:Bool×Int=>[(9003,.box [.clo 118 [] [.ptr 9004 0,.ptr 9003 0]]),(9004,bx (r.2:Int))]) (bY 2 3 D (wu 9 (nE.of (D,IntKind.wrap .i64 (G+1),B) hr) λu _=>aZ))
section
variable {σ:Type} {gf:FuncId} {ex:List SV} {os:σ->dm} {p:Pred->σ->Option (Bool×σ)} (h:yf Sy cL (.clo gf [] ex) gf ex os p) (s0:Sl Pred) (x:σ)
abbrev uB:nE Sy cL (Qm s0 p x):=nE.mk' 160 [cv s0,(.clo gf [] ex)] (os x) (λr=>[.int .i64 r.1]) (λr=>os r.2)
 (ct 9 s0 (dS 5 (λq=>⟨[Cv 0 s0,(1,(.clo gf [] ex)),Iv 7 (len s0),Iv 8 q.1],os q.2,(os x).map (·.1),[],true,0⟩) (λe=>(0,⟨[],os e,(os x).map (·.1),[],true,0⟩)) (λe=>⟨[Iv 4 e.1],os e.2,(os x).map (·.1),[],true,0⟩)
  (λq=>bp 7 9 (bG 16 λy _=>MG 1 h y q.2 λr _=>bp 2 16 aZ aZ) aZ) (λe=>Gn 9 h [.int .i64 (-1)] rfl) (λe=>Le.of_eq (II h (ys:=[.int .i64 e.1]) (by kernel_rfl) rfl)))) (hp:=λr=>h.wi x r.2)
abbrev uU:nE Sy cL (Ar s0 p x):=nE.mk' 120 [cv s0,(.clo gf [] ex)] (os x) (λr=>[.bool r.1]) (λr=>os r.2)
 (JO 9 (uB h s0 x) (h.hd x (enc s0)) (λr=>h.put x r.2) λy _=>Gn 5 h [.bool (decide (y.1>=0))] rfl) (hp:=λr=>h.wi x r.2)
end
section
variable {σ:Type} {gf:FuncId} {ex:List V} {os:σ->dm} {p:Pred->σ->Option (Bool×σ)} (h:yf Sy cL (.v (.clo gf [] ex)) gf (ex.map .v) os p) (s0:Sl Pred) (x:σ)
abbrev uG:nE Sy cL (Qm s0 p x):=nE.mk' 160 [cv s0,(.v (.clo gf [] ex))] (os x) (λr=>[.int .i64 r.1]) (λr=>os r.2)
 (ct 9 s0 (dS 5 (λq=>⟨[Cv 0 s0,(1,(.v (.clo gf [] ex))),Iv 7 (len s0),Iv 8 q.1],os q.2,(os x).map (·.1),[],true,0⟩) (λe=>(0,⟨[],os e,(os x).map (·.1),[],true,0⟩)) (λe=>⟨[Iv 4 e.1],os e.2,(os x).map (·.1),[],true,0⟩)
  (λq=>bp 7 9 (bG 16 λy _=>MG 1 h y q.2 λr _=>bp 2 16 aZ aZ) aZ) (λe=>Gn 9 h [.int .i64 (-1)] rfl) (λe=>Le.of_eq (II h (ys:=[.int .i64 e.1]) (by kernel_rfl) rfl)))) (hp:=λr=>h.wi x r.2)
abbrev lq:nE Sy cL (Ar s0 p x):=nE.mk' 120 [cv s0,(.v (.clo gf [] ex))] (os x) (λr=>[.bool r.1]) (λr=>os r.2)
 (JO 9 (uG h s0 x) (h.hd x (enc s0)) (λr=>h.put x r.2) λy _=>Gn 5 h [.bool (decide (y.1>=0))] rfl) (hp:=λr=>h.wi x r.2)
end
def eB (G:Pred) (B D:Int) (r:(Pred×Int×Int)->Option (Bool×Int)):Option (Bool×Int):=
 (a_ (decide ((IntKind.wrap .i64 (D-1))<0))
 (some true)
 (some (decide (B>20))):Option Bool).bind λw=>
 (a_ w
 (some true)
 ((j9 G).bind λz=>
 some (!z)):Option Bool).bind λA=>
 a_ A
 (some (false,IntKind.wrap .i64 (D-1)))
 ((Ar G.l (λx s=>gY x B s r) (IntKind.wrap .i64 (D-1))).bind λu=>
 some ((!u.1),u.2))
theorem wC (r:(Pred×Int×Int)->Option (Bool×Int)) (hr:v8 Sy cL 118 (λz:Pred×Int×Int=>[cv z.1,iv z.2.1,.ptr 9004 0,.ptr 9003 0]) (λz:Pred×Int×Int=>[(9004,bx (z.2.2:Int)),(9003,.box [.clo 118 [] [.ptr 9004 0,.ptr 9003 0]])]) (λr:Bool×Int=>[.bool r.1]) (λ(z:Pred×Int×Int) (r:Bool×Int)=>[(9004,bx (r.2:Int)),(9003,.box [.clo 118 [] [.ptr 9004 0,.ptr 9003 0]])]) r) (D:Pred) (B G:Int):∀J,eB D B G r=some J->∃m',cL 118 [cv D,iv B,.ptr 9004 0,.ptr 9003 0] [(9004,bx (G:Int)),(9003,.box [.clo 118 [] [.ptr 9004 0,.ptr 9003 0]])]=some (((λr:Bool×Int=>[.bool r.1]) J).map .v,m')/\∀U,kD m' ([(9004,bx (G:Int)),(9003,.box [.clo 118 [] [.ptr 9004 0,.ptr 9003 0]])].map (·.1)) U=some (mB U ((λr:Bool×Int=>[(9004,bx (r.2:Int)),(9003,.box [.clo 118 [] [.ptr 9004 0,.ptr 9003 0]])]) J)):=
 (nE.mk' 118 [cv D,iv B,.ptr 9004 0,.ptr 9003 0] [(9004,bx (G:Int)),(9003,.box [.clo 118 [] [.ptr 9004 0,.ptr 9003 0]])] (λr:Bool×Int=>[.bool r.1]) (λr:Bool×Int=>[(9004,bx (r.2:Int)),(9003,.box [.clo 118 [] [.ptr 9004 0,.ptr 9003 0]])]) (bY 2 4 D (bF 17 3 [11] 14 (bp 17 11 (bl 3) (bl 3)) λu=>bF 1 4 [15] 19 (bp 1 15 (bl 4) (br 1 λw _=>bl 2)) λA=>bp 2 19 aZ (dh 7 21 (Pred.ei D.l) (wu 2 (uU (yf.W0 (σ:=Int) (g:=121) (e:=[.ptr 9003 0,cp B]) (os:=λs=>[(9003,.box [.clo 118 [] [.ptr 9004 0,.ptr 9003 0]]),(9004,bx (s:Int))]) (p:=(λx s=>gY x B s r)) (λx s=>wA r hr x B s)) D.l (IntKind.wrap .i64 (G-1))) λC _=>aZ)))):nE Sy cL (eB D B G r)).h
def pO (D:Pred) (B G:Int):Option (Bool×Int):=dz (λr (z:Pred×Int×Int)=>eB z.1 z.2.1 z.2.2 r) 100000 (D,B,G)
abbrev zo (D:Pred) (B G:Int):nE Sy cL (pO D B G):=nE.of (D,B,G) (v8.fix (A:=λz:Pred×Int×Int=>[cv z.1,iv z.2.1,.ptr 9004 0,.ptr 9003 0]) (O:=λz:Pred×Int×Int=>[(9004,bx (z.2.2:Int)),(9003,.box [.clo 118 [] [.ptr 9004 0,.ptr 9003 0]])]) (E:=λr:Bool×Int=>[.bool r.1]) (M:=λ(z:Pred×Int×Int) (r:Bool×Int)=>[(9004,bx (r.2:Int)),(9003,.box [.clo 118 [] [.ptr 9004 0,.ptr 9003 0]])]) (b:=(λr (z:Pred×Int×Int)=>eB z.1 z.2.1 z.2.2 r)) (by kernel_rfl) (by kernel_rfl) (by kernel_rfl) (λr hr z=>wC r hr z.1 z.2.1 z.2.2) 100000)
def kU (B:Pred):Option Bool:=
 (pO B 1 200).bind λu=>
 some u.1
instance Oe (B:Pred):Fc Sy cL (kU B):=Fc.M 83 [enc B] (bY 2 1 B (wu 26 (zo B 1 200) λu _=>aZ))
def jL (B:Trace) (p1:Int):Option Bool:=
 (a_ (decide (p1>=0))
 (some (decide (p1<(len B.procs))))
 (some false):Option Bool).bind λu=>
 some u
instance Oa (B:Trace) (p1:Int):Fc Sy cL (jL B p1):=Fc.M 123 [enc B,.int .i64 p1] (bY 2 2 B (bF 8 6 [1,2,7] 13 (bp 8 7 (ct 3 B.procs (bl 2)) (bl 6)) λu=>aZ))
def nG (B:Var) (D:ByteArray):Option Bool:=
 some (ByteArray.toList B.name==ByteArray.toList D)
instance Mi (B:Var) (D:ByteArray):Fc Sy cL (nG B D):=Fc.M 162 [enc B,.fptr (cells D)] (aZ)
def qD (D:Trace) (p1:Int) (B:ByteArray):Option Bool:=
 (idx D.procs p1).bind λu=>
 (gC u.vars (λz=>nG z B)).bind λw=>
 some w
instance PN (D:Trace) (p1:Int) (B:ByteArray):Fc Sy cL (qD D p1 B):=Fc.M 124 [enc D,.int .i64 p1,.str B] (bY 2 3 D (bG 9 λu _=>cg (F:=pz 162 [.fptr (cells B)] (λz=>nG z B) lW.s8 u.vars) 3 λw _=>aZ))
def jQ (B:Pred) (D:Trace):Option Bool:=
 a_ (B.kind==2)
 ((jL D B.proc).bind λA=>
 (a_ A
 (some (B.peer==0))
 (some false):Option Bool).bind λC=>
 (a_ C
 ((qD D B.proc B.name).bind λG=>
 some G)
 (some false):Option Bool).bind λI=>
 some I)
 (a_ (B.kind==3)
 ((jL D B.proc).bind λJ=>
 (a_ J
 (some (B.peer==0))
 (some false):Option Bool).bind λL=>
 (a_ L
 (some (ByteArray.toList B.name==ByteArray.toList ByteArray.empty))
 (some false):Option Bool).bind λO=>
 some O)
 (a_ (B.kind==4)
 ((jL D B.proc).bind λQ=>
 (a_ Q
 ((jL D B.peer).bind λS=>
 some S)
 (some false):Option Bool).bind λu=>
 (a_ u
 (some (!(B.proc==B.peer)))
 (some false):Option Bool).bind λw=>
 (a_ w
 (some (ByteArray.toList B.name==ByteArray.toList ByteArray.empty))
 (some false):Option Bool).bind λz=>
 some z)
 (some true)))
instance Jb (B:Pred) (D:Trace):Fc Sy cL (jQ B D):=Fc.M 122 [enc B,.fptr (cells D)] (bY 2 2 B (bp 17 6 (br 6 λA _=>bF 1 4 [12] 16 (bp 1 12 (bl 4) (bl 4)) λC=>bF 1 7 [1,2,17] 24 (bp 1 17 (br 5 λG _=>bl 1) (bl 7)) λI=>aZ) (bp 7 25 (br 6 λJ _=>bF 1 4 [31] 35 (bp 1 31 (bl 4) (bl 4)) λL=>bF 1 4 [2,36] 40 (bp 1 36 (bl 4) (bl 4)) λO=>aZ) (bp 7 41 (br 6 λQ _=>bF 1 5 [1,47] 52 (bp 1 47 (br 3 λS _=>bl 1) (bl 5)) λu=>bF 1 6 [53] 59 (bp 1 53 (bl 6) (bl 6)) λw=>bF 1 4 [2,60] 64 (bp 1 60 (bl 4) (bl 4)) λz=>aZ) aZ))))
def rH (B:Pred) (p1:Pred->Option Bool) (r:Pred->Option Bool):Option Bool:=
 (r B).bind λu=>
 some (!u)
abbrev Av (g1:FuncId) (e1:List V) (p1:Pred->Option Bool) (h1:lW Sy cL g1 [] e1 (λz:Pred=>[enc z]) (λr:Bool=>[.bool r]) p1 true) (r:Pred->Option Bool) (hr:eS Sy cL 103 (λz:Pred=>[enc z,.clo g1 [] e1]) (λr:Bool=>[.bool r]) r true) (B:Pred):Fc Sy cL (rH B p1 r):=Fc.M 146 [enc B,.fptr [.clo g1 [] e1]] (bY 2 2 B (br (F:=Fc.of B hr) 7 λu _=>aZ))
def iR (D:Pred) (p1:Pred->Option Bool) (r:Pred->Option Bool):Option Bool:=
 (p1 D).bind λw=>
 (a_ w
 ((Ar D.l (λx u=>((λz=>rH z p1 r) x).map λb=>(b,u)) ()).bind λA=>
 some (!A.1))
 (some false):Option Bool).bind λB=>
 some B
theorem zO (g1:FuncId) (e1:List V) (p1:Pred->Option Bool) (h1:lW Sy cL g1 [] e1 (λz:Pred=>[enc z]) (λr:Bool=>[.bool r]) p1 true) (r:Pred->Option Bool) (hr:eS Sy cL 103 (λz:Pred=>[enc z,.clo g1 [] e1]) (λr:Bool=>[.bool r]) r true) (B:Pred):Le ((iR B p1 r).bind λr=>some [.bool r]) (fQ cL 103 [enc B,.clo g1 [] e1]):=
 (Fc.M 103 [enc B,.clo g1 [] e1] (bY 2 2 B (y8 8 h1.f B λw _=>AY 1 6 [] (λu=>(bO [Bv 14 u] [Xb 2 B])) (bp 1 8 (dh 2 10 (Pred.ei B.l) (wu 2 (lq (yf.UC (g:=146) (e:=[.fptr [.clo g1 [] e1]]) (p:=(λz=>rH z p1 r)) (lW.s8 (F:=λz=>Av g1 e1 p1 h1 r hr z))) B.l ()) λA _=>bl 2)) (bl 7)) λu=>aZ)):Fc Sy cL (iR B p1 r)).F.h ()
def mG (B:Pred) (p1:Pred->Option Bool):Option Bool:=dz (λr (z:Pred)=>iR z p1 r) 100000 B
abbrev sV (g1:FuncId) (e1:List V) (p1:Pred->Option Bool) (h1:lW Sy cL g1 [] e1 (λz:Pred=>[enc z]) (λr:Bool=>[.bool r]) p1 true) (B:Pred):Fc Sy cL (mG B p1):=Fc.of B (eS.fix (A:=λz:Pred=>[enc z,.clo g1 [] e1]) (E:=λr:Bool=>[.bool r]) (sc:=true) (b:=(λr (z:Pred)=>iR z p1 r)) (by kernel_rfl) (λ_ _=>rfl) (λr hr z=>zO g1 e1 p1 h1 r hr z) 100000)
def nM (B:Trace) (p1:Pred):Option Bool:=
 (mG p1 (λz=>jQ z B)).bind λu=>
 some u
instance Mm (B:Trace) (p1:Pred):Fc Sy cL (nM B p1):=Fc.M 84 [enc B,enc p1] (bY 2 2 B (bY 0 3 p1 (cg (F:=sV 122 [.fptr (cells B)] (λz=>jQ z B) lW.s8 p1) 7 λu _=>aZ)))
def jH (B:Int):Option Int:=
 a_ (decide (B<=8))
 (some 1)
 (some 2)
instance Od (B:Int):Fc Sy cL (jH B):=Fc.M 56 [.int .i64 B] (bp 12 4 aZ aZ)
def rj (B:Int):Option Int:=
 a_ (decide (B<=12))
 (some 1)
 (some 2)
instance QK (B:Int):Fc Sy cL (rj B):=Fc.M 127 [.int .i64 B] (bp 12 4 aZ aZ)
def lI (B D:Pred):Option Bool:=
 (jH B.kind).bind λu=>
 (rj D.kind).bind λw=>
 some (!(u==w))
instance Ja (B D:Pred):Fc Sy cL (lI B D):=Fc.M 126 [enc B,.fptr (cells D)] (bY 2 2 B (cg 7 λu _=>cg 2 λw _=>aZ))
def iJ (B:Pred):Option Bool:=
 (Ar B.l (λx u=>((λz=>lI z B) x).map λb=>(b,u)) ()).bind λw=>
 some (!w.1)
instance Mg (B:Pred):Fc Sy cL (iJ B):=Fc.M 125 [enc B] (bY 2 1 B (dh 7 4 (Pred.ei B.l) (wu 2 (lq (yf.UC (g:=126) (e:=[.fptr (cells B)]) (p:=(λz=>lI z B)) lW.s8) B.l ()) λu _=>aZ)))
def nY (B:Pred):Option Bool:=
 (mG B (λz=>iJ z)).bind λu=>
 some u
instance O3 (B:Pred):Fc Sy cL (nY B):=Fc.M 85 [enc B] (bY 2 1 B (br (F:=sV 125 [] (λz=>iJ z) lW.s8 B) 6 λu _=>aZ))
namespace eF
def b9 (D:Sl Int) (B i4:Int):Option (Fw (Int×Int) Int Empty):=
 a_ (decide (i4<(len D)))
 ((idx D i4).bind λu=>
 some (.n ((if u<B then u else B),IntKind.wrap .i64 (i4+1))))
 (some (.x B))
def W2 (B:Sl Int) (D i4:Int):Option Int:=
 (bV (λq:Int×Int=>b9 B q.1 q.2) (D,i4)).bind (Fw.elim
 (λe=>some e)
 (λe=>Empty.elim e))
def J1 (B:Sl Int):Option Int:=
 (idx B 0).bind λu=>
 eF.W2 B u 1
end eF
def eF (B:Sl Int):Option Int:=
 a_ (decide ((len B)<1))
 (none)
 (eF.J1 B)
open eF in
instance Pg (B:Sl Int):Fc Sy cL (eF B):=Fc.M 131 [enc B] (ct 9 B (bp 3 7 ((Le.none _)) (n_ 4 (bG 3 λz _=>jM 12 (λu=>(bO [Cv 0 B,Iv 3 u.1,Iv 4 u.2] [])) (λw=>(0,(bO [Iv 3 w] []))) (λu=>ct 6 B (bp 3 15 (bG 9 λA _=>aZ) aZ)) (λw=>aZ)))))
namespace eM
def b9 (D:Sl Int) (B i4:Int):Option (Fw (Int×Int) Int Empty):=
 a_ (decide (i4<(len D)))
 ((idx D i4).bind λu=>
 some (.n ((if u>B then u else B),IntKind.wrap .i64 (i4+1))))
 (some (.x B))
def W2 (B:Sl Int) (D i4:Int):Option Int:=
 (bV (λq:Int×Int=>b9 B q.1 q.2) (D,i4)).bind (Fw.elim
 (λe=>some e)
 (λe=>Empty.elim e))
def J1 (B:Sl Int):Option Int:=
 (idx B 0).bind λu=>
 eM.W2 B u 1
end eM
def eM (B:Sl Int):Option Int:=
 a_ (decide ((len B)<1))
 (none)
 (eM.J1 B)
open eM in
instance Qr (B:Sl Int):Fc Sy cL (eM B):=Fc.M 132 [enc B] (ct 9 B (bp 3 7 ((Le.none _)) (n_ 4 (bG 3 λz _=>jM 12 (λu=>(bO [Cv 0 B,Iv 3 u.1,Iv 4 u.2] [])) (λw=>(0,(bO [Iv 3 w] []))) (λu=>ct 6 B (bp 3 15 (bG 9 λA _=>aZ) aZ)) (λw=>aZ)))))
def lz (B:Sl Int):Option bN:=
 (eF B).bind λu=>
 (eM B).bind λw=>
 some ⟨u,w⟩
instance Ra (B:Sl Int):Fc Sy cL (lz B):=Fc.M 89 [enc B] (br 8 λu _=>br 1 λw _=>aZ)
namespace eT
def bu (U:Int) (D:Sl Event) (G:Int) (J B:Int):Option (Fw (Int×Int) Int Empty):=
 a_ (decide (B<G))
 ((idx D B).bind λu=>
 (a_ (u.kind==2)
 (some (u.peer==U))
 (some false):Option Bool).bind λw=>
 a_ w
 (some (.n (IntKind.wrap .i64 (J+1),IntKind.wrap .i64 (B+1))))
 (some (.n (J,IntKind.wrap .i64 (B+1)))))
 (some (.x J))
def W1 (J U:Int) (B:Sl Event) (D G:Int):Option Int:=
 (bV (λq:Int×Int=>bu J B D q.1 q.2) (U,G)).bind (Fw.elim
 (λe=>some e)
 (λe=>Empty.elim e))
end eT
def eT (B:Trace) (p1 D:Int):Option Int:=
 (idx B.procs p1).bind λu=>
 eT.W1 D 0 u.events (len u.events) 0
open eT in
instance Mj (B:Trace) (p1 D:Int):Fc Sy cL (eT B p1 D):=Fc.M 129 [enc B,.int .i64 p1,.int .i64 D] (bY 2 3 B (bG 14 λu _=>ct 2 u.events (jM 5 (λw=>(bO [Iv 2 D,Iv 7 w.1,Cv 15 u.events,Iv 16 (len u.events),Iv 17 w.2] [])) (λz=>(0,(bO [Iv 7 z] []))) (λw=>bp 7 18 (bG 7 λA _=>mS 2 9 0 A (bF 8 5 [9,24] 29 (bp 8 24 (bl 5) (bl 5)) λC=>bp 2 29 aZ aZ)) aZ) (λz=>aZ))))
def nL (B:Var) (D:ByteArray):Option Bool:=
 some (ByteArray.toList B.name==ByteArray.toList D)
instance Mh (B:Var) (D:ByteArray):Fc Sy cL (nL B D):=Fc.M 201 [enc B,.fptr (cells D)] (aZ)
def tD (D:bT) (B:ByteArray):Option Int:=
 (eU D.vars (λz=>nL z B)).bind λu=>
 some u
instance P9 (D:bT) (B:ByteArray):Fc Sy cL (tD D B):=Fc.M 190 [enc D,.str B] (bY 2 2 D (cg (F:=nh 201 [.fptr (cells B)] (λz=>nL z B) lW.s8 D.vars) 9 λu _=>aZ))
def qZ (D:Trace) (p1:Int) (B:ByteArray):Option (Int×Int):=
 (dK D).bind λw=>
 a_ w
 ((a_ (decide (p1<0))
 (some true)
 (some (decide (p1>=(len D.procs)))):Option Bool).bind λz=>
 a_ z
 (some (0,2))
 ((idx D.procs p1).bind λA=>
 (tD A B).bind λu=>
 a_ (decide (u<0))
 (some (0,13))
 (some (u,0))))
 (some (0,1))
instance Q7 (D:Trace) (p1:Int) (B:ByteArray):Fc Sy cL (qZ D p1 B):=Fc.M 163 [enc D,.int .i64 p1,.str B] (bY 2 3 D (br 9 λu _=>cF 4 9 (bF 6 6 [16] 22 (bp 6 16 (bl 6) (ct 3 D.procs (bl 2))) λw=>bp 3 13 aZ (bG 9 λz _=>br 2 λA _=>bp 10 31 aZ aZ)) aZ))
def gE (s0:Sl Int):Option (Sl Int):=
 (Sl.isNil s0).bind λu=>
 a_ u
 (some Sl.nil)
 ((zg (Sl.row []:Sl Int) s0).bind λw=>
 some w)
theorem oe:BU Sy cL 168 (λs0:Sl Int=>[enc s0]) (λz=>gE z):=BU.mk' (qG (Tx 168)) (λs0=>Ug 9 λu _=>bp 2 4 aZ (M8 7 5 7 λw _=>aZ))
def mW (B:bT):Option bT:=
 some B
instance N9 (B:bT):Fc Sy cL (mW B):=Fc.NE (λr:bT=>[(.clo 179 [] [.fptr (cells r)])]) 145 [enc B] (bY 2 1 B aZ)
namespace fI
def jt (D:bT) (G:Int) (x:Int×(Sl Int)) (B:Sl Int):Option (Fw (Sl Int) Empty Empty):=
 (idx x.2 G).bind λu=>
 (jf B (u:Int)).bind λw=>
 some (.n w)
def E1 (B:bT) (G:Int) (D:Sl Int):Option (Sl Int):=
 (iY B).bind λu=>(kj (λ(x:Int×(Sl Int)) (q:Sl Int)=>jt B G x q) u D).bind (Fw.qt
 (λq=>some q)
 (λe=>Empty.elim e)
 (λe=>Empty.elim e))
end fI
def fI (B:bT) (i1:Int):Option (Sl Int):=
 (mW B).bind λu=>
 fI.E1 u i1 (Sl.nil:Sl Int)
open fI in
instance N7 (B:bT) (i1:Int):Fc Sy cL (fI B i1):=Fc.N 164 [enc B,.int .i64 i1] (bY 2 2 B (br 13 λz _=>Em λC A=>A7 5 [Pv 3,Pv 5,(9,.v (.clo 179 [] [.fptr (cells z)]))] (λu=>[(3,.box [iv i1]),(5,.box [.own 4100]),Lb 4100 u]) (λw=>Empty.elim w) (λw=>Empty.elim w) (FH z C A) (λD u=>xV 3 (bG 7 λG _=>xB 2 4100 17 18 λI _=>aZ)) (λu=>aZ) (λx=>Empty.elim x) (λx=>Empty.elim x)))
def qj (D:Trace) (p1:Int) (B:ByteArray):Option (Int×Int×Int):=
 (qZ D p1 B).bind λu=>
 a_ (u.2==0)
 ((idx D.procs p1).bind λz=>
 (fI z u.1).bind λw=>
 (eF w).bind λA=>
 (eM w).bind λC=>
 some (A,C,0))
 (some (0,0,u.2))
instance O7 (D:Trace) (p1:Int) (B:ByteArray):Fc Sy cL (qj D p1 B):=Fc.M 130 [enc D,.int .i64 p1,.str B] (bY 2 3 D (br 10 λu _=>cF 14 19 (bG 8 λw _=>br 2 λz _=>br 6 λA _=>br 1 λC _=>aZ) aZ))
def ga (B:Trace) (p1:Pred):Option bN:=
 a_ (p1.kind==1)
 ((lz (Sl.row [p1.n]:Sl Int)).bind λw=>
 some w)
 (a_ (p1.kind==3)
 ((idx B.procs p1.proc).bind λz=>
 some ⟨0,len z.events⟩)
 (a_ (p1.kind==4)
 ((eT B p1.proc p1.peer).bind λA=>
 some ⟨0,A⟩)
 ((qj B p1.proc p1.name).bind λu=>
 some ⟨u.1,u.2.1⟩)))
instance QN (B:Trace) (p1:Pred):Fc Sy cL (ga B p1):=Fc.M 87 [enc B,enc p1] (bY 2 2 B (bY 0 3 p1 (bp 17 10 (cg 6 λw _=>aZ) (bp 7 16 (bG 7 λu _=>ct 2 u.events aZ) (bp 7 27 (br 8 λz _=>aZ) (br 11 λA _=>aZ))))))
def iG (B:bN):Option Bool:=
 (a_ (decide (B.low<(-1125899906842624)))
 (some true)
 (some (decide (B.high>1125899906842624))):Option Bool).bind λu=>
 some u
instance Gs (B:bN):Fc Sy cL (iG B):=Fc.M 88 [enc B] (bF 12 4 [1,6] 10 (bp 12 6 (bl 4) (bl 4)) λu=>aZ)
def sW (a0:Int):Option Int:=
 some (if(IntKind.wrap .i64 (0-a0))>a0 then(IntKind.wrap .i64 (0-a0))else a0)
instance S4 (a0:Int):Fc Sy cL (sW a0):=Fc.M 133 [.int .i64 a0] (aZ)
def js (a0 B:Int):Option Int:=
 (a_ (a0==0)
 (some true)
 (some (B==0)):Option Bool).bind λu=>
 a_ u
 (some 0)
 ((sW a0).bind λw=>
 (sW B).bind λz=>
 (xD .i64 1125899906842624 z).bind λA=>
 a_ (decide (w>A))
 (a_ ((decide (a0<0))==(decide (B<0)))
 (some 1125899906842625)
 (some (IntKind.wrap .i64 (0-1125899906842625))))
 (some (IntKind.wrap .i64 (a0*B))))
instance NS (a0 B:Int):Fc Sy cL (js a0 B):=Fc.M 90 [.int .i64 a0,.int .i64 B] (bF 11 3 [8] 11 (bp 11 8 (bl 3) (bl 3)) λu=>bp 2 11 aZ (br 15 λw _=>br 1 λz _=>T_ 0 λA _=>bp 3 20 (cF 15 25 aZ aZ) aZ))
namespace cD
def J2 (D B:bN) (r:(Trace×Pred)->Option (bN×Bool)):Option (bN×Bool):=
 (iG B).bind λu=>
 some (B,(!u))
def J1 (W U:Bool) (J:Pred) (G B D:bN) (r:(Trace×Pred)->Option (bN×Bool)):Option (bN×Bool):=
 (a_ W
 (some (!U))
 (some true):Option Bool).bind λA=>
 a_ A
 (some (⟨0,0⟩,false))
 (a_ (J.kind==5)
 (cD.J2 G (⟨IntKind.wrap .i64 (0-B.high),IntKind.wrap .i64 (0-B.low)⟩:bN) r)
 (a_ (J.kind==6)
 (cD.J2 G (⟨IntKind.wrap .i64 (B.low+D.low),IntKind.wrap .i64 (B.high+D.high)⟩:bN) r)
 (a_ (J.kind==7)
 (cD.J2 G (⟨IntKind.wrap .i64 (B.low-D.high),IntKind.wrap .i64 (B.high-D.low)⟩:bN) r)
 ((js B.low D.low).bind λC=>
 (js B.low D.high).bind λI=>
 (js B.high D.low).bind λu=>
 (js B.high D.high).bind λw=>
 (lz (Sl.row [C,I,u,w]:Sl Int)).bind λz=>
 cD.J2 G z r))))
theorem iP (r:(Trace×Pred)->Option (bN×Bool)) (hr:eS Sy cL 57 (λz:Trace×Pred=>[enc z.1,enc z.2]) (λr:bN×Bool=>[enc r.1,.bool r.2]) r true) (D B:Bool) (G:Pred) (J U W:bN):Le ((J1 D B G J U W r).bind (λr=>some [enc r.1,.bool r.2])) (cn Sy cL (mF (tr Tx 57)) (oa (tb Tx 57) [1,1,1,1,1,0] [] (bO [Pv 3,Pv 4,Pv 7,Bv 8 D,Pv 9,Bv 10 B] [Xb 3 G,Xb 4 J,Xb 7 U,Xb 9 W]))):=
 bF 6 3 [10,48] 51 (cF 6 48 (bl 3) (bl 3)) λI=>bp 2 51 aZ (bp 22 77 (n_ 14 (cg 4 λu _=>aZ)) (bp 7 86 (n_ 18 (cg 4 λu _=>aZ)) (bp 7 99 (n_ 18 (cg 4 λu _=>aZ)) (cg 6 λL _=>cg 4 λO _=>cg 4 λw _=>cg 4 λA _=>cg 1 λC _=>n_ 5 (cg 4 λu _=>aZ)))))
end cD
def dF (B:Trace) (p1:Pred) (r:(Trace×Pred)->Option (bN×Bool)):Option (bN×Bool):=
 a_ ((len p1.l)==0)
 ((ga B p1).bind λw=>
 (iG w).bind λA=>
 some (w,(!A)))
 ((idx p1.l 0).bind λC=>
 (r (B,C)).bind λu=>
 a_ ((len p1.l)==2)
 ((idx p1.l 1).bind λD=>
 (r (B,D)).bind λz=>
 cD.J1 u.2 z.2 p1 (⟨0,0⟩:bN) u.1 z.1 r)
 (cD.J1 u.2 true p1 (⟨0,0⟩:bN) u.1 u.1 r))
open cD in
theorem yI (r:(Trace×Pred)->Option (bN×Bool)) (hr:eS Sy cL 57 (λz:Trace×Pred=>[enc z.1,enc z.2]) (λr:bN×Bool=>[enc r.1,.bool r.2]) r true) (B:Trace) (p1:Pred):Le ((dF B p1 r).bind λr=>some [enc r.1,.bool r.2]) (fQ cL 57 [enc B,enc p1]):=
 (Fc.M 57 [enc B,enc p1] (bY 2 2 B (bY 0 3 p1 (dh 9 13 (Pred.ei p1.l) (ct 0 p1.l (bp 3 15 (br 5 λD _=>cg 8 λG _=>aZ) (dh 8 26 (Pred.ei p1.l) (bG 0 λA _=>cg (F:=Fc.of (B,A) hr) 1 λu _=>dh 21 34 (Pred.ei p1.l) (ct 0 p1.l (bp 3 36 (dh 5 40 (Pred.ei p1.l) (bG 0 λC _=>cg (F:=Fc.of (B,C) hr) 1 λw _=>ki 8 (iP r hr u.2 w.2 p1 (⟨0,0⟩:bN) u.1 w.1))) (ki 4 (iP r hr u.2 true p1 (⟨0,0⟩:bN) u.1 u.1))))))))))):Fc Sy cL (dF B p1 r)).F.h ()
def cD (B:Trace) (p1:Pred):Option (bN×Bool):=dz (λr (z:Trace×Pred)=>dF z.1 z.2 r) 100000 (B,p1)
instance N_ (B:Trace) (p1:Pred):Fc Sy cL (cD B p1):=Fc.of (B,p1) (eS.fix (A:=λz:Trace×Pred=>[enc z.1,enc z.2]) (E:=λr:bN×Bool=>[enc r.1,.bool r.2]) (sc:=true) (b:=(λr (z:Trace×Pred)=>dF z.1 z.2 r)) (by kernel_rfl) (λ_ _=>rfl) (λr hr z=>yI r hr z.1 z.2) 100000)
def nP (B:Pred) (D:Trace) (r:(Trace×Pred)->Option Bool):Option Bool:=
 (r (D,B)).bind λu=>
 some (!u)
abbrev zA (r:(Trace×Pred)->Option Bool) (hr:eS Sy cL 86 (λz:Trace×Pred=>[enc z.1,enc z.2]) (λr:Bool=>[.bool r]) r true) (B:Pred) (D:Trace):Fc Sy cL (nP B D r):=Fc.M 128 [enc B,.fptr (cells D)] (bY 2 2 B (br (F:=Fc.of (D,B) hr) 7 λu _=>aZ))
def eO (D:Trace) (p1:Pred) (r:(Trace×Pred)->Option Bool):Option Bool:=
 (jH p1.kind).bind λw=>
 a_ (w==1)
 ((cD D p1).bind λA=>
 some A.2)
 ((Ar p1.l (λx u=>((λz=>nP z D r) x).map λb=>(b,u)) ()).bind λB=>
 some (!B.1))
theorem zD (r:(Trace×Pred)->Option Bool) (hr:eS Sy cL 86 (λz:Trace×Pred=>[enc z.1,enc z.2]) (λr:Bool=>[.bool r]) r true) (B:Trace) (p1:Pred):Le ((eO B p1 r).bind λr=>some [.bool r]) (fQ cL 86 [enc B,enc p1]):=
 (Fc.M 86 [enc B,enc p1] (bY 2 2 B (bY 0 3 p1 (br 8 λu _=>bp 3 10 (br 5 λw _=>aZ) (dh 7 19 (Pred.ei p1.l) (wu 2 (lq (yf.UC (g:=128) (e:=[.fptr (cells B)]) (p:=(λz=>nP z B r)) (lW.s8 (F:=λz=>zA r hr z B))) p1.l ()) λA _=>aZ))))):Fc Sy cL (eO B p1 r)).F.h ()
def qu (B:Trace) (p1:Pred):Option Bool:=dz (λr (z:Trace×Pred)=>eO z.1 z.2 r) 100000 (B,p1)
instance P8 (B:Trace) (p1:Pred):Fc Sy cL (qu B p1):=Fc.of (B,p1) (eS.fix (A:=λz:Trace×Pred=>[enc z.1,enc z.2]) (E:=λr:Bool=>[.bool r]) (sc:=true) (b:=(λr (z:Trace×Pred)=>eO z.1 z.2 r)) (by kernel_rfl) (λ_ _=>rfl) (λr hr z=>zD r hr z.1 z.2) 100000)
def kA (B:Trace) (p1:Pred):Option Int:=
 (dK B).bind λu=>
 (a_ u
 ((kU p1).bind λw=>
 some (!w))
 (some true):Option Bool).bind λz=>
 a_ z
 (some 1)
 ((nM B p1).bind λA=>
 a_ A
 ((nY p1).bind λC=>
 a_ C
 ((qu B p1).bind λD=>
 a_ D
 (some 0)
 (some 9))
 (some 14))
 (some 13))
instance PX (B:Trace) (p1:Pred):Fc Sy cL (kA B p1):=Fc.M 55 [enc B,enc p1] (bY 2 2 B (bY 0 3 p1 (br 8 λu _=>bF 2 4 [9] 13 (cF 2 9 (br 1 λw _=>bl 2) (bl 4)) λz=>bp 3 5 aZ (br 5 λA _=>cF 4 14 (br 4 λC _=>cF 4 19 (br 5 λD _=>cF 4 23 aZ aZ) aZ) aZ))))
def jU (B:Sl Int) (D:Trace):Option Bool:=
 some (!((len B)==(len D.procs)))
instance Ss (B:Sl Int) (D:Trace):Fc Sy cL (jU B D):=Fc.M 195 [enc B,.fptr (cells D)] (ct 8 B (ct 2 D.procs aZ))
namespace gp
def bu (s0:Sl (Sl Int)) (D:Int) (B:Int) (p1:(Sl Int)->Option Bool):Option (Fw Int Unit Int):=
 a_ (decide (B<D))
 ((idx s0 B).bind λu=>
 (p1 u).bind λw=>
 a_ w
 (some (.r B))
 (some (.n (IntKind.wrap .i64 (B+1)))))
 (some (.x ()))
def W1 (s0:Sl (Sl Int)) (B D:Int) (p1:(Sl Int)->Option Bool):Option Int:=
 (bV (λq:Int=>bu s0 B q p1) D).bind (Fw.elim
 (λe=>some (-1))
 (λe=>some e))
end gp
def gp (s0:Sl (Sl Int)) (p1:(Sl Int)->Option Bool):Option Int:=
 gp.W1 s0 (len s0) 0 p1
open gp in
abbrev wD (g1:FuncId) (e1:List V) (p1:(Sl Int)->Option Bool) (h1:lW Sy cL g1 [] e1 (λz:Sl Int=>[enc z]) (λr:Bool=>[.bool r]) p1 true) (s0:Sl (Sl Int)):Fc Sy cL (gp s0 p1):=Fc.M 213 [enc s0,.clo g1 [] e1] (ct 9 s0 (dS 5 (λw=>(bO [Cv 0 s0,(1,.v (.clo g1 [] e1)),Iv 7 (len s0),Iv 8 w] [])) (λu=>(0,(bO [] []))) (λu=>(bO [Iv 4 u] [])) (λw=>bp 7 9 (bG 16 λA _=>y8 1 h1.f A λB _=>bp 2 16 aZ aZ) aZ) (λu=>aZ) (λu=>aZ)))
def jV (s0:Sl (Sl Int)) (p1:(Sl Int)->Option Bool):Option Bool:=
 (gp s0 p1).bind λu=>
 some (decide (u>=0))
abbrev uV (g1:FuncId) (e1:List V) (p1:(Sl Int)->Option Bool) (h1:lW Sy cL g1 [] e1 (λz:Sl Int=>[enc z]) (λr:Bool=>[.bool r]) p1 true) (s0:Sl (Sl Int)):Fc Sy cL (jV s0 p1):=Fc.M 194 [enc s0,.clo g1 [] e1] (br (F:=wD g1 e1 p1 h1 s0) 9 λu _=>aZ)
def wI (B:Trace) (D:Sl (Sl Int)):Option Bool:=
 (dK B).bind λu=>
 (a_ u
 ((jV D (λz=>jU z B)).bind λw=>
 some (!w))
 (some false):Option Bool).bind λA=>
 some A
instance Vj (B:Trace) (D:Sl (Sl Int)):Fc Sy cL (wI B D):=Fc.M 175 [enc B,enc D] (bY 2 2 B (br 6 λu _=>bF 1 5 [1,2,7] 12 (bp 1 7 (cg (F:=uV 195 [.fptr (cells B)] (λz=>jU z B) lW.s8 D) 2 λw _=>bl 2) (bl 5)) λA=>aZ))
namespace jD
def bu (G:Sl Int) (J:Int) (D:Trace) (B:Int):Option (Fw Int Unit Unit):=
 a_ (decide (B<J))
 ((idx G B).bind λu=>
 (a_ (decide (u<0))
 (some true)
 ((idx D.procs B).bind λw=>
 some (decide (u>(len w.events)))):Option Bool).bind λz=>
 a_ z
 (some (.r ()))
 (some (.n (IntKind.wrap .i64 (B+1)))))
 (some (.x ()))
def W1 (D:Sl Int) (G J:Int) (B:Trace):Option Bool:=
 (bV (λq:Int=>bu D G B q) J).bind (Fw.elim
 (λe=>some true)
 (λe=>some false))
end jD
def jD (D:Trace) (B:Sl Int):Option Bool:=
 jD.W1 B (len B) 0 D
open jD in
instance TA (D:Trace) (B:Sl Int):Fc Sy cL (jD D B):=Fc.M 176 [enc D,enc B] (bY 2 2 D (ct 7 B (dS 5 (λw=>(bO [Pv 2,Cv 7 B,Iv 8 (len B),Iv 9 w] [Xb 2 D])) (λu=>(0,(bO [] []))) (λu=>(bO [Bv 4 false] [])) (λw=>bp 7 10 (bG 8 λA _=>bF 10 10 [5,6,16] 26 (bp 10 16 (bl 10) (bG 4 λz _=>ct 2 z.events (bl 2))) λC=>bp 2 26 aZ aZ) aZ) (λu=>aZ) (λu=>aZ))))
def uc (B:Trace) (p1:Int):Option Bool:=
 (a_ (decide (p1>=0))
 (some (decide (p1<(len B.procs))))
 (some false):Option Bool).bind λu=>
 some u
instance TH (B:Trace) (p1:Int):Fc Sy cL (uc B p1):=Fc.M 177 [enc B,.int .i64 p1] (bY 2 2 B (bF 8 6 [1,2,7] 13 (bp 8 7 (ct 3 B.procs (bl 2)) (bl 6)) λu=>aZ))
namespace gW
def jt (D:Trace) (B G:Int) (J:aY) (U:Bool) (x:aY×Event):Option (Fw Unit Empty aY):=
 (a_ (x.2.kind==B)
 (some (x.2.message==G))
 (some false):Option Bool).bind λu=>
 a_ u
 (some (.r x.1))
 (some (.n ()))
def E1 (B:Trace) (D G:Int) (J:aY) (U:Bool):Option (aY×Bool):=
 (ja B).bind λu=>(kj (λ(x:aY×Event) (q:Unit)=>jt B D G J U x) u ()).bind (Fw.qt
 (λq=>some (⟨0,0⟩,false))
 (λe=>Empty.elim e)
 (λe=>some (e,true)))
end gW
def gW (D:Trace) (B G:Int):Option (aY×Bool):=
 (dK D).bind λu=>
 a_ u
 ((je D).bind λw=>
 gW.E1 w B G (⟨0,0⟩:aY) false)
 (some (⟨0,0⟩,false))
open gW in
instance U3 (G:Trace) (B D:Int):Fc Sy cL (gW G B D):=Fc.M 180 [enc G,.int .i64 B,.int .i64 D] (bY 2 3 G (br 10 λJ _=>cF 3 12 (br 7 λw _=>Em λC z=>A7 4 [Pv 4,Pv 5,Pv 6,Pv 7,(15,.v (.clo 184 [] [.fptr (cells w)]))] (λA=>[(4,.box [iv B]),(5,.box [iv D]),Xb 6 (⟨0,0⟩:aY),(7,.box [bv false])]) (λu=>Empty.elim u) (λu=>[(4,.box [iv B]),(5,.box [iv D]),Xb 6 u,(7,.box [bv true])]) (yM w C z) (λI A=>mS 8 9 0 I.2 (xV 1 (bF 9 5 [9,22] 27 (bp 9 22 (bl 5) (bl 5)) λL=>bp 2 27 aZ aZ))) (λA=>aZ) (λx=>Empty.elim x) (λu=>aZ)) aZ))
def sB (B:Trace) (m1:Int):Option (aY×Bool):=
 (gW B 2 m1).bind λu=>
 some (u.1,u.2)
instance Sc (B:Trace) (m1:Int):Fc Sy cL (sB B m1):=Fc.M 166 [enc B,.int .i64 m1] (bY 2 2 B (br 8 λu _=>aZ))
namespace gM
def b9 (Y:Sl Int) (p7:Int) (aa:Sl Int) (ab ad:Int) (J:Sl Event) (U:Int) (W:Trace) (G D:aY) (B:Int):Option (Fw Int Unit (aY×aY)):=
 a_ (decide (B<U))
 ((idx J B).bind λw=>
 a_ (w.kind==3)
 ((sB W w.message).bind λu=>
 (idx Y u.1.proc).bind λz=>
 a_ (decide (u.1.index>z))
 (some (.r (u.1,(⟨p7,IntKind.wrap .i64 (B+1)⟩:aY))))
 (some (.n (IntKind.wrap .i64 (B+1)))))
 (some (.n (IntKind.wrap .i64 (B+1)))))
 (some (.x ()))
def W2 (c1:Sl Int) (p7:Int) (J:Sl Int) (U G:Int) (W:Sl Event) (Y aa:Int) (ab:Trace) (D B:aY):Option (Fw Int Unit (aY×aY)):=
 (bV (λq:Int=>b9 c1 p7 J U G W Y ab D B q) aa).bind (Fw.elim
 (λe=>some (.n (IntKind.wrap .i64 (G+1))))
 (λe=>some (.r (e.1,e.2))))
def bu (Y J:Sl Int) (U:Int) (W:Trace) (G B:aY) (D:Int):Option (Fw Int Unit (aY×aY)):=
 a_ (decide (D<U))
 ((idx J D).bind λw=>
 (idx W.procs D).bind λz=>
 (jJ z.events none (some w)).bind λu=>
 W2 Y D J U D u (len u) 0 W G B)
 (some (.x ()))
def W1 (Y G:Sl Int) (J U:Int) (W:Trace) (D B:aY):Option (aY×aY×Bool):=
 (bV (λq:Int=>bu Y G J W D B q) U).bind (Fw.elim
 (λe=>some (⟨0,0⟩,⟨0,0⟩,false))
 (λe=>some (e.1,e.2,true)))
end gM
def gM (D:Trace) (B:Sl Int):Option (aY×aY×Bool):=
 gM.W1 B B (len B) 0 D (⟨0,0⟩:aY) (⟨0,0⟩:aY)
open gM in
instance TM (D:Trace) (B:Sl Int):Fc Sy cL (gM D B):=Fc.M 196 [enc D,enc B] (bY 2 2 D (ct 9 B (dS 5 (λu=>(bO [Cv 1 B,Pv 2,Pv 4,Pv 5,Cv 13 B,Iv 14 (len B),Iv 15 u] [Xb 2 D,Xb 4 (⟨0,0⟩:aY),Xb 5 (⟨0,0⟩:aY)])) (λw=>(0,(bO [Pv 4,Pv 5] [Xb 4 (⟨0,0⟩:aY),Xb 5 (⟨0,0⟩:aY)]))) (λw=>(bO [Pv 4,Pv 5,Bv 6 true] [Xb 4 w.1,Xb 5 w.2])) (λu=>bp 7 16 (bG 8 λG _=>bG 10 λJ _=>IJ 3 false true [.int .i64 G] λA _=>ct 0 A (dS 5 (λC=>(bO [Cv 1 B,Pv 2,Pv 4,Pv 5,Iv 7 u,Cv 13 B,Iv 14 (len B),Iv 15 u,Cv 27 A,Iv 28 (len A),Iv 29 C] [Xb 2 D,Xb 4 (⟨0,0⟩:aY),Xb 5 (⟨0,0⟩:aY)])) (λz=>(2,(bO [Cv 1 B,Pv 2,Pv 4,Pv 5,Cv 13 B,Iv 14 (len B),Iv 15 u] [Xb 2 D,Xb 4 (⟨0,0⟩:aY),Xb 5 (⟨0,0⟩:aY)]))) (λz=>(bO [Pv 4,Pv 5,Bv 6 true] [Xb 4 z.1,Xb 5 z.2])) (λC=>bp 7 30 (bG 8 λI _=>mS 3 10 0 I (cF 10 36 (br 8 λL _=>bG 15 λO _=>bp 4 51 aZ aZ) aZ)) aZ) (λz=>aZ) (λz=>aZ))) aZ) (λw=>aZ) (λw=>aZ))))
def vw (B:Trace) (D:Sl Int):Option Bool:=
 (gM B D).bind λu=>
 some (!u.2.2)
instance Uf (B:Trace) (D:Sl Int):Fc Sy cL (vw B D):=Fc.M 178 [enc B,enc D] (bY 2 2 B (br 7 λu _=>aZ))
namespace dc
def fe (D:Sl (Sl Int)) (G:Int) (J:Trace) (B:Int):Option (Fw Int Unit Unit):=
 a_ (decide (B<G))
 ((idx D B).bind λu=>
 (vw J u).bind λw=>
 a_ w
 (some (.n (IntKind.wrap .i64 (B+1))))
 (some (.r ())))
 (some (.x ()))
def W3 (B:Sl (Sl Int)) (D G:Int) (J:Trace):Option Int:=
 (bV (λq:Int=>fe B D J q) G).bind (Fw.elim
 (λe=>some 0)
 (λe=>some 18))
def b9 (U:Sl (Sl Int)) (D:Sl Int) (G:Int) (J:Trace) (B:Int):Option (Fw Int Unit Unit):=
 a_ (decide (B<G))
 ((idx D B).bind λu=>
 (uc J u).bind λw=>
 a_ w
 (some (.n (IntKind.wrap .i64 (B+1))))
 (some (.r ())))
 (some (.x ()))
def W2 (D:Sl (Sl Int)) (G:Sl Int) (J U:Int) (B:Trace):Option Int:=
 (bV (λq:Int=>b9 D G J B q) U).bind (Fw.elim
 (λe=>dc.W3 D (len D) 0 B)
 (λe=>some 2))
def bu (W:Sl (Sl Int)) (D:Sl Int) (G:Sl (Sl Int)) (J:Int) (U:Trace) (B:Int):Option (Fw Int Unit Unit):=
 a_ (decide (B<J))
 ((idx G B).bind λu=>
 (jD U u).bind λw=>
 a_ w
 (some (.n (IntKind.wrap .i64 (B+1))))
 (some (.r ())))
 (some (.x ()))
def W1 (W:Sl (Sl Int)) (B:Sl Int) (G:Sl (Sl Int)) (J U:Int) (D:Trace):Option Int:=
 (bV (λq:Int=>bu W B G J D q) U).bind (Fw.elim
 (λe=>dc.W2 W B (len B) 0 D)
 (λe=>some 2))
end dc
def dc (G:Trace) (D:Sl (Sl Int)) (B:Sl Int):Option Int:=
 (wI G D).bind λu=>
 a_ u
 (dc.W1 D B D (len D) 0 G)
 (some 1)
open dc in
instance Vl (G:Trace) (D:Sl (Sl Int)) (B:Sl Int):Fc Sy cL (dc G D B):=Fc.M 144 [enc G,enc D,enc B] (bY 2 3 G (br 8 λJ _=>cF 3 16 (ct 7 D (dS 5 (λA=>(bO [Cv 1 D,Cv 2 B,Pv 3,Cv 17 D,Iv 18 (len D),Iv 19 A] [Xb 3 G])) (λu=>(0,(bO [Cv 1 D,Cv 2 B,Pv 3] [Xb 3 G]))) (λu=>(bO [Iv 6 2] [])) (λA=>bp 7 20 (bG 7 λL _=>br 8 λO _=>cF 3 26 aZ aZ) aZ) (λu=>ct 6 B (dS 5 (λC=>(bO [Cv 1 D,Pv 3,Cv 28 B,Iv 29 (len B),Iv 30 C] [Xb 3 G])) (λw=>(2,(bO [Cv 1 D,Pv 3] [Xb 3 G]))) (λw=>(bO [Iv 6 2] [])) (λC=>bp 7 31 (bG 7 λQ _=>br 8 λS _=>cF 3 37 aZ aZ) aZ) (λw=>ct 6 D (dS 5 (λI=>(bO [Pv 3,Cv 39 D,Iv 40 (len D),Iv 41 I] [Xb 3 G])) (λz=>(4,(bO [] []))) (λz=>(bO [Iv 6 18] [])) (λI=>bp 7 42 (bG 7 λT _=>br 8 λU _=>cF 3 48 aZ aZ) aZ) (λz=>aZ) (λz=>aZ))) (λw=>aZ))) (λu=>aZ))) aZ))
namespace i_
def bu (G:Sl Int) (J:Int) (B:Sl aY) (D:Int):Option (Fw ((Sl aY)×Int) (Sl aY) Empty):=
 a_ (decide (D<J))
 ((idx G D).bind λu=>
 a_ (decide (u>0))
 ((jf B (⟨D,u⟩:aY)).bind λw=>
 some (.n (w,IntKind.wrap .i64 (D+1))))
 (some (.n (B,IntKind.wrap .i64 (D+1)))))
 (some (.x B))
def W1 (B:Sl aY) (D:Sl Int) (G J:Int):Option ((Sl aY)×Int):=
 (bV (λq:(Sl aY)×Int=>bu D G q.1 q.2) (B,J)).bind (Fw.elim
 (λe=>some (e,0))
 (λe=>Empty.elim e))
end i_
def i_ (D:Trace) (B:Sl Int):Option ((Sl aY)×Int):=
 (dc D (Sl.row [B]:Sl (Sl Int)) (Sl.nil:Sl Int)).bind λu=>
 a_ (u==0)
 (i_.W1 (Sl.nil:Sl aY) B (len B) 0)
 (some (Sl.nil,u))
open i_ in
instance Tg (D:Trace) (B:Sl Int):Fc Sy cL (i_ D B):=Fc.N 100 [enc D,enc B] (bY 2 2 D (T5 9 12 ([B]:List (Sl Int)) (cg 0 λz _=>cF 9 15 (ct 12 B (jM 6 (λu=>(bO [Ov 7,Cv 17 B,Iv 18 (len B),Iv 19 u.2] [Lb 2007 u.1])) (λw=>(0,(bO [Ov 7] [Lb 2007 w]))) (λu=>bp 8 20 (bG 8 λA _=>bp 11 25 (xB 7 2007 30 31 λC _=>aZ) aZ) aZ) (λw=>aZ))) aZ)))
namespace fA
def jt (B:bT) (D:Int) (x:Int×(Sl Int)) (G:Sl Int):Option (Fw (Sl Int) Empty (Sl Int)):=
 a_ (x.1==D)
 (some (.r x.2))
 (some (.n (Sl.nil:Sl Int)))
def E1 (B:bT) (D:Int) (G:Sl Int):Option (Sl Int):=
 (iY B).bind λu=>(kj (λ(x:Int×(Sl Int)) (q:Sl Int)=>jt B D x q) u G).bind (Fw.qt
 (λq=>some Sl.nil)
 (λe=>Empty.elim e)
 (λe=>some e))
end fA
def fA (B:bT) (k1:Int):Option (Sl Int):=
 (mW B).bind λu=>
 fA.E1 u k1 (Sl.nil:Sl Int)
open fA in
instance Ph (B:bT) (k1:Int):Fc Sy cL (fA B k1):=Fc.N 101 [enc B,.int .i64 k1] (bY 2 2 B (br 8 λw _=>Em λC z=>A7 4 [Pv 3,Pv 4,(8,.v (.clo 179 [] [.fptr (cells w)]))] (λA=>[(3,.box [iv k1]),(4,.box [.v .bX])]) (λu=>Empty.elim u) (λu=>[(3,.box [iv k1]),(4,.box [cv u])]) (FH w C z) (λD A=>xV 8 (bp 9 13 (mS 4 4 0 D.2 aZ) aZ)) (λA=>aZ) (λx=>Empty.elim x) (λu=>aZ)))
namespace iu
def bu (G:Sl Int) (J:Int) (U:Trace) (D:Sl (Sl Int)) (B:Int):Option (Fw ((Sl (Sl Int))×Int) (Sl (Sl Int)) Empty):=
 a_ (decide (B<J))
 ((idx G B).bind λu=>
 (idx U.procs B).bind λw=>
 (fA w u).bind λz=>
 (jf D (z:Sl Int)).bind λA=>
 some (.n (A,IntKind.wrap .i64 (B+1))))
 (some (.x D))
def W1 (B:Sl (Sl Int)) (D:Sl Int) (G J:Int) (U:Trace):Option ((Sl (Sl Int))×Int):=
 (bV (λq:(Sl (Sl Int))×Int=>bu D G U q.1 q.2) (B,J)).bind (Fw.elim
 (λe=>some (e,0))
 (λe=>Empty.elim e))
end iu
def iu (D:Trace) (B:Sl Int):Option ((Sl (Sl Int))×Int):=
 (i_ D B).bind λu=>
 a_ (u.2==0)
 (iu.W1 (Sl.nil:Sl (Sl Int)) B (len B) 0 D)
 (some (Sl.nil,u.2))
open iu in
instance TB (D:Trace) (B:Sl Int):Fc Sy cL (iu D B):=Fc.N 68 [enc D,enc B] (bY 2 2 D (br 9 λA _=>cF 13 18 (ct 12 B (jM 6 (λu=>(bO [Pv 2,Ov 8,Cv 20 B,Iv 21 (len B),Iv 22 u.2] [Xb 2 D,Lb 2008 u.1])) (λw=>(0,(bO [Ov 8] [Lb 2008 w]))) (λu=>bp 8 23 (bG 8 λC _=>bG 10 λG _=>br 2 λz _=>T5 0 35 ([z]:List (Sl Int)) (xB 0 2008 35 36 λI _=>aZ)) aZ) (λw=>aZ))) aZ))
def qW (B:Pred):Option (Int×Int):=
 (kU B).bind λu=>
 a_ u
 ((nY B).bind λw=>
 a_ w
 ((jH B.kind).bind λz=>
 some (z,0))
 (some (0,14)))
 (some (0,1))
instance QU (B:Pred):Fc Sy cL (qW B):=Fc.M 102 [enc B] (bY 2 1 B (br 9 λu _=>cF 4 4 (br 4 λw _=>cF 4 8 (br 8 λz _=>aZ) aZ) aZ))
def tn (D:Pred) (B:Int):Option Int:=
 (qW D).bind λu=>
 (a_ (u.2==0)
 (some (!(u.1==B)))
 (some true):Option Bool).bind λw=>
 a_ w
 (some 14)
 (some 0)
instance OW (D:Pred) (B:Int):Fc Sy cL (tn D B):=Fc.M 69 [enc D,.int .i64 B] (bY 2 2 D (br 7 λu _=>bF 12 4 [1,5,14] 18 (cF 12 14 (bl 4) (bl 4)) λw=>bp 2 18 aZ aZ))
def qI (B:Int):Option Bool:=
 (a_ (decide (B>=18))
 (some (decide (B<=21)))
 (some false):Option Bool).bind λu=>
 some u
instance Ml (B:Int):Fc Sy cL (qI B):=Fc.M 105 [.int .i64 B] (bF 10 3 [0,5] 8 (bp 10 5 (bl 3) (bl 3)) λu=>aZ)
def lQ (B:Pred):Option Bool:=
 (qI B.kind).bind λu=>
 some (!u)
instance Jm (B:Pred):Fc Sy cL (lQ B):=Fc.M 104 [enc B] (bY 2 1 B (br 7 λu _=>aZ))
def nK (B:Pred):Option Bool:=
 (kU B).bind λu=>
 (a_ u
 ((mG B (λz=>lQ z)).bind λw=>
 some (!w))
 (some false):Option Bool).bind λA=>
 some A
instance Me (B:Pred):Fc Sy cL (nK B):=Fc.M 70 [enc B] (bY 2 1 B (br 6 λu _=>bF 1 4 [1,5] 9 (bp 1 5 (br (F:=sV 104 [] (λz=>lQ z) lW.s8 B) 1 λw _=>bl 2) (bl 4)) λA=>aZ))
namespace ey
def J2 (J:Sl Int) (B:Int) (D:Sl (Sl Int)) (G:Trace) (U:bD):Option (bD×Int):=
 some (⟨G,J,D⟩,B)
def J1 (U:Sl Int) (B G:Int) (D:Trace) (J:Pred) (W:bD):Option (bD×Int):=
 a_ (G==0)
 ((iu D U).bind λu=>
 a_ (u.2==0)
 ((tn J B).bind λw=>
 (a_ (w==0)
 ((nK J).bind λz=>
 some z)
 (some false):Option Bool).bind λA=>
 a_ A
 (ey.J2 U 15 u.1 D (⟨⟨Sl.nil⟩,Sl.nil,Sl.nil⟩:bD))
 (ey.J2 U w u.1 D (⟨⟨Sl.nil⟩,Sl.nil,Sl.nil⟩:bD)))
 (some (⟨⟨Sl.nil⟩,Sl.nil,Sl.nil⟩,u.2)))
 (some (⟨⟨Sl.nil⟩,Sl.nil,Sl.nil⟩,G))
theorem iP (G:Sl Int) (D J:Int) (B:Trace) (U:Pred) (W:bD):Le ((J1 G D J B U W).bind (λr=>some [enc r.1,.int .i64 r.2])) (cn Sy cL (mF (tr Tx 45)) (oa (tb Tx 45) [1,1,1,0] [] (bO [Cv 1 G,Iv 3 D,Pv 4,Pv 6,Pv 8,Iv 10 J] [Xb 4 B,Xb 6 U,Xb 8 (⟨⟨Sl.nil⟩,Sl.nil,Sl.nil⟩:bD)]))):=
 cF 7 26 (br 7 λu _=>cF 14 36 (br 8 λw _=>bF 8 3 [6,44] 47 (bp 8 44 (br 1 λz _=>bl 1) (bl 3)) λA=>bp 2 47 (n_ 6 (Kx 5 (⟨B,G,u.1⟩:bD) [enc B,enc G,enc u.1] [.bX,.bX,.bX] [(0,1),(1,1),(2,1)] (by simp only[vi,wM,j_,CT,Bj,DL,CZ];rfl) rfl (mS 1 8 0 (⟨B,G,u.1⟩:bD) aZ))) (n_ 4 (Kx 5 (⟨B,G,u.1⟩:bD) [enc B,enc G,enc u.1] [.bX,.bX,.bX] [(0,1),(1,1),(2,1)] (by simp only[vi,wM,j_,CT,Bj,DL,CZ];rfl) rfl (mS 1 8 0 (⟨B,G,u.1⟩:bD) aZ)))) (Kx 3 (⟨⟨Sl.nil⟩,Sl.nil,Sl.nil⟩:bD) [] [.bX,.bX,.bX] [] (by simp only[vi,wM,j_,CT,Bj,DL,CZ];rfl) rfl (mS 1 8 0 (⟨⟨Sl.nil⟩,Sl.nil,Sl.nil⟩:bD) aZ))) (Kx 3 (⟨⟨Sl.nil⟩,Sl.nil,Sl.nil⟩:bD) [] [.bX,.bX,.bX] [] (by simp only[vi,wM,j_,CT,Bj,DL,CZ];rfl) rfl (mS 1 8 0 (⟨⟨Sl.nil⟩,Sl.nil,Sl.nil⟩:bD) aZ))
end ey
def ey (D:Trace) (G:Sl Int) (p2:Pred) (B:Int):Option (bD×Int):=
 (kA D p2).bind λu=>
 (a_ (u==1)
 (some false)
 (some (!((len G)==(len D.procs)))):Option Bool).bind λw=>
 a_ w
 (ey.J1 G B 1 D p2 (⟨⟨Sl.nil⟩,Sl.nil,Sl.nil⟩:bD))
 (ey.J1 G B u D p2 (⟨⟨Sl.nil⟩,Sl.nil,Sl.nil⟩:bD))
open ey in
instance TF (D:Trace) (G:Sl Int) (p2:Pred) (B:Int):Fc Sy cL (ey D G p2 B):=Fc.N 45 [enc D,enc G,enc p2,.int .i64 B] (bY 2 4 D (bY 0 6 p2 (br 8 λu _=>bF 9 7 [17] 24 (cF 9 17 (bl 7) (ct 1 G (ct 2 D.procs (bl 2)))) λw=>bp 2 24 (ki 6 (iP G B 1 D p2 (⟨⟨Sl.nil⟩,Sl.nil,Sl.nil⟩:bD))) (ki 4 (iP G B u D p2 (⟨⟨Sl.nil⟩,Sl.nil,Sl.nil⟩:bD))))))
def jC (B:Var) (D:Pred):Option Bool:=
 some (ByteArray.toList B.name==ByteArray.toList D.name)
instance EX (B:Var) (D:Pred):Fc Sy cL (jC B D):=Fc.M 107 [enc B,.fptr (cells D)] (aZ)
def ni (D:bD) (p1:Pred):Option Int:=
 (idx D.t.procs p1.proc).bind λu=>
 (eU u.vars (λz=>jC z p1)).bind λw=>
 (idx D.values p1.proc).bind λA=>
 (idx A w).bind λB=>
 some B
instance HG (B:bD) (p1:Pred):Fc Sy cL (ni B p1):=Fc.M 71 [enc B,enc p1] (bY 2 2 B (bY 0 3 p1 (bG 10 λu _=>cg (F:=nh 107 [.fptr (cells p1)] (λz=>jC z p1) lW.s8 u.vars) 3 λw _=>bG 9 λA _=>bG 2 λC _=>aZ)))
def tG (B:Trace) (m1:Int):Option (aY×Bool):=
 (gW B 3 m1).bind λu=>
 some (u.1,u.2)
instance Qe (B:Trace) (m1:Int):Fc Sy cL (tG B m1):=Fc.M 147 [enc B,.int .i64 m1] (bY 2 2 B (br 8 λu _=>aZ))
namespace ig
def bu (W:Sl Int) (Y:Int) (J:Sl Event) (U:Trace) (B:Sl Int) (G D:Int):Option (Fw ((Sl Int)×Int×Int) (Sl Int) Empty):=
 a_ (decide (D<G))
 ((idx J D).bind λu=>
 (a_ (u.kind==2)
 (some (!(u.peer==Y)))
 (some true):Option Bool).bind λA=>
 a_ A
 (some (.n (B,G,IntKind.wrap .i64 (D+1))))
 ((tG U u.message).bind λw=>
 (a_ w.2
 ((idx W w.1.proc).bind λC=>
 some (decide (w.1.index>C)))
 (some true):Option Bool).bind λI=>
 a_ I
 ((jf B (u.message:Int)).bind λz=>
 some (.n (z,G,IntKind.wrap .i64 (D+1))))
 (some (.n (B,G,IntKind.wrap .i64 (D+1))))))
 (some (.x B))
def W1 (W:Sl Int) (Y:Int) (B:Sl Int) (D:Sl Event) (G J:Int) (U:Trace):Option ((Sl Int)×Int):=
 (bV (λq:(Sl Int)×Int×Int=>bu W Y D U q.1 q.2.1 q.2.2) (B,G,J)).bind (Fw.elim
 (λe=>some (e,0))
 (λe=>Empty.elim e))
end ig
def ig (B:Trace) (D:Sl Int) (p2 G:Int):Option ((Sl Int)×Int):=
 (dc B (Sl.row [D]:Sl (Sl Int)) (Sl.row [p2,G]:Sl Int)).bind λu=>
 a_ (u==0)
 ((idx B.procs p2).bind λz=>
 (idx D p2).bind λA=>
 (jJ z.events none (some A)).bind λw=>
 ig.W1 D G (Sl.nil:Sl Int) w (len w) 0 B)
 (some (Sl.nil,u))
open ig in
instance SO (B:Trace) (D:Sl Int) (p2 G:Int):Fc Sy cL (ig B D p2 G):=Fc.N 108 [enc B,enc D,.int .i64 p2,.int .i64 G] (bY 2 4 B (T5 9 18 ([D]:List (Sl Int)) (cg 3 λJ _=>cF 9 24 (bG 14 λL _=>bG 4 λA _=>IJ 1 false true [.int .i64 A] λw _=>ct 0 w (jM 6 (λu=>(bO [Cv 1 D,Iv 3 G,Pv 4,Ov 11,Cv 36 w,Iv 37 u.2.1,Iv 38 u.2.2] [Xb 4 B,Lb 2011 u.1])) (λz=>(0,(bO [Ov 11] [Lb 2011 z]))) (λu=>bp 8 39 (bG 7 λC _=>mS 2 13 0 C (bF 9 5 [45] 50 (cF 9 45 (bl 5) (bl 5)) λO=>bp 2 50 aZ (br 8 λQ _=>bF 13 9 [14,60] 69 (cF 13 60 (bG 5 λS _=>bl 3) (bl 9)) λT=>bp 2 69 (xB 6 2011 73 74 λI _=>aZ) aZ))) aZ) (λz=>aZ))) aZ)))
def nU (B:bD) (p1:Pred):Option Int:=
 (ig B.t B.counts p1.proc p1.peer).bind λu=>
 some (len u.1)
instance IX (B:bD) (p1:Pred):Fc Sy cL (nU B p1):=Fc.M 72 [enc B,enc p1] (bY 2 2 B (bY 0 3 p1 (br 13 λu _=>ct 10 u.1 aZ)))
def cS (B:bD) (p1:Pred) (r:(bD×Pred)->Option Int):Option Int:=
 a_ (p1.kind==1)
 (some p1.n)
 (a_ (p1.kind==2)
 ((ni B p1).bind λJ=>
 some J)
 (a_ (p1.kind==3)
 ((idx B.counts p1.proc).bind λL=>
 some L)
 (a_ (p1.kind==4)
 ((nU B p1).bind λO=>
 some O)
 (a_ (p1.kind==5)
 ((idx p1.l 0).bind λQ=>
 (r (B,Q)).bind λS=>
 some (IntKind.wrap .i64 (0-S)))
 (a_ (p1.kind==6)
 ((idx p1.l 0).bind λT=>
 (r (B,T)).bind λU=>
 (idx p1.l 1).bind λW=>
 (r (B,W)).bind λX=>
 some (IntKind.wrap .i64 (U+X)))
 (a_ (p1.kind==7)
 ((idx p1.l 0).bind λu=>
 (r (B,u)).bind λw=>
 (idx p1.l 1).bind λz=>
 (r (B,z)).bind λA=>
 some (IntKind.wrap .i64 (w-A)))
 ((idx p1.l 0).bind λC=>
 (r (B,C)).bind λD=>
 (idx p1.l 1).bind λG=>
 (r (B,G)).bind λI=>
 some (IntKind.wrap .i64 (D*I)))))))))
theorem vA (r:(bD×Pred)->Option Int) (hr:eS Sy cL 46 (λz:bD×Pred=>[enc z.1,enc z.2]) (λr:Int=>[.int .i64 r]) r true) (B:bD) (p1:Pred):Le ((cS B p1 r).bind λr=>some [.int .i64 r]) (fQ cL 46 [enc B,enc p1]):=
 (Fc.M 46 [enc B,enc p1] (bY 2 2 B (bY 0 3 p1 (bp 17 7 aZ (bp 7 11 (br 5 λS _=>aZ) (bp 7 16 (bG 7 λT _=>aZ) (bp 7 24 (br 5 λU _=>aZ) (bp 7 29 (dh 6 33 (Pred.ei p1.l) (bG 0 λD _=>cg (F:=Fc.of (B,D) hr) 1 λW _=>aZ)) (bp 7 38 (dh 6 42 (Pred.ei p1.l) (bG 0 λG _=>cg (F:=Fc.of (B,G) hr) 1 λX _=>dh 3 48 (Pred.ei p1.l) (bG 0 λI _=>cg (F:=Fc.of (B,I) hr) 1 λY _=>aZ))) (bp 7 53 (dh 6 57 (Pred.ei p1.l) (bG 0 λu _=>cg (F:=Fc.of (B,u) hr) 1 λJ _=>dh 3 63 (Pred.ei p1.l) (bG 0 λw _=>cg (F:=Fc.of (B,w) hr) 1 λL _=>aZ))) (dh 9 70 (Pred.ei p1.l) (bG 0 λA _=>cg (F:=Fc.of (B,A) hr) 1 λO _=>dh 3 76 (Pred.ei p1.l) (bG 0 λC _=>cg (F:=Fc.of (B,C) hr) 1 λQ _=>aZ)))))))))))):Fc Sy cL (cS B p1 r)).F.h ()
def dU (B:bD) (p1:Pred):Option Int:=dz (λr (z:bD×Pred)=>cS z.1 z.2 r) 100000 (B,p1)
instance I4 (B:bD) (p1:Pred):Fc Sy cL (dU B p1):=Fc.of (B,p1) (eS.fix (A:=λz:bD×Pred=>[enc z.1,enc z.2]) (E:=λr:Int=>[.int .i64 r]) (sc:=true) (b:=(λr (z:bD×Pred)=>cS z.1 z.2 r)) (by kernel_rfl) (λ_ _=>rfl) (λr hr z=>vA r hr z.1 z.2) 100000)
def sU (B:Trace) (D:Sl Int) (p2:Pred):Option (Int×Int):=
 (ey B D p2 1).bind λu=>
 a_ (u.2==0)
 ((dU u.1 p2).bind λw=>
 some (w,0))
 (some (0,u.2))
instance RX (B:Trace) (D:Sl Int) (p2:Pred):Fc Sy cL (sU B D p2):=Fc.M 13 [enc B,enc D,enc p2] (bY 2 3 B (bY 0 5 p2 (br 9 λu _=>mS 4 8 0 u.1 (cF 10 18 (br 7 λw _=>aZ) aZ))))
namespace gP
def J1 (W:Int) (U:Bool) (D:bD) (B:Pred) (r:(bD×Pred)->Option Bool):Option Bool:=
 a_ U
 (some (B.kind==13))
 (a_ (W==15)
 ((idx B.l 0).bind λu=>
 (r (D,u)).bind λw=>
 some (!w))
 (a_ (W==16)
 ((idx B.l 0).bind λz=>
 (r (D,z)).bind λA=>
 (a_ A
 ((idx B.l 1).bind λC=>
 (r (D,C)).bind λG=>
 some G)
 (some false):Option Bool).bind λI=>
 some I)
 ((idx B.l 0).bind λJ=>
 (r (D,J)).bind λL=>
 (a_ L
 (some true)
 ((idx B.l 1).bind λO=>
 (r (D,O)).bind λQ=>
 some Q):Option Bool).bind λS=>
 some S)))
theorem iP (r:(bD×Pred)->Option Bool) (hr:eS Sy cL 47 (λz:bD×Pred=>[enc z.1,enc z.2]) (λr:Bool=>[.bool r]) r true) (U:Int) (G:Bool) (B:bD) (D:Pred):Le ((J1 U G B D r).bind (λr=>some [.bool r])) (cn Sy cL (mF (tr Tx 47)) (oa (tb Tx 47) [1,0,1,0,1,1,1,1,1,1,1,1,1,0] [] (bO [Pv 2,Pv 3,Iv 6 U,Bv 67 G] [Xb 2 B,Xb 3 D]))):=
 bp 0 67 aZ (bp 7 73 (dh 6 77 (Pred.ei D.l) (bG 0 λA _=>cg (F:=Fc.of (B,A) hr) 1 λO _=>aZ)) (bp 7 82 (dh 6 86 (Pred.ei D.l) (bG 0 λC _=>cg (F:=Fc.of (B,C) hr) 1 λQ _=>AY 1 7 [96,89] (λu=>(bO [Bv 67 false,Bv 73 false,Bv 82 true,Bv 97 u] [Xb 2 B,Xb 3 D])) (bp 1 90 (dh 3 93 (Pred.ei D.l) (bG 0 λI _=>cg (F:=Fc.of (B,I) hr) 1 λS _=>bl 1)) (bl 7)) λu=>aZ)) (dh 9 100 (Pred.ei D.l) (bG 0 λJ _=>cg (F:=Fc.of (B,J) hr) 1 λT _=>AY 1 7 [110,103] (λw=>(bO [Bv 67 false,Bv 73 false,Bv 82 false,Bv 111 w] [Xb 2 B,Xb 3 D])) (bp 1 104 (bl 7) (dh 3 107 (Pred.ei D.l) (bG 0 λL _=>cg (F:=Fc.of (B,L) hr) 1 λW _=>bl 1))) λw=>aZ))))
end gP
def kX (B:bD) (p1:Pred) (r:(bD×Pred)->Option Bool):Option Bool:=
 a_ (p1.kind==9)
 ((idx p1.l 0).bind λI=>
 (dU B I).bind λJ=>
 (idx p1.l 1).bind λL=>
 (dU B L).bind λO=>
 some (J==O))
 (a_ (p1.kind==10)
 ((idx p1.l 0).bind λQ=>
 (dU B Q).bind λS=>
 (idx p1.l 1).bind λT=>
 (dU B T).bind λU=>
 some (!(S==U)))
 (a_ (p1.kind==11)
 ((idx p1.l 0).bind λW=>
 (dU B W).bind λu=>
 (idx p1.l 1).bind λw=>
 (dU B w).bind λz=>
 some (decide (u<z)))
 (a_ (p1.kind==12)
 ((idx p1.l 0).bind λA=>
 (dU B A).bind λC=>
 (idx p1.l 1).bind λD=>
 (dU B D).bind λG=>
 some (decide (C<=G)))
 (a_ (p1.kind==13)
 (gP.J1 p1.kind true B p1 r)
 (gP.J1 p1.kind (p1.kind==14) B p1 r)))))
open gP in
theorem vZ (r:(bD×Pred)->Option Bool) (hr:eS Sy cL 47 (λz:bD×Pred=>[enc z.1,enc z.2]) (λr:Bool=>[.bool r]) r true) (B:bD) (p1:Pred):Le ((kX B p1 r).bind λr=>some [.bool r]) (fQ cL 47 [enc B,enc p1]):=
 (Fc.M 47 [enc B,enc p1] (bY 2 2 B (bY 0 3 p1 (bp 17 7 (dh 6 11 (Pred.ei p1.l) (bG 0 λJ _=>cg 1 λL _=>dh 3 17 (Pred.ei p1.l) (bG 0 λO _=>cg 1 λQ _=>aZ))) (bp 7 22 (dh 6 26 (Pred.ei p1.l) (bG 0 λS _=>cg 1 λT _=>dh 3 32 (Pred.ei p1.l) (bG 0 λU _=>cg 1 λW _=>aZ))) (bp 7 37 (dh 6 41 (Pred.ei p1.l) (bG 0 λX _=>cg 1 λu _=>dh 3 47 (Pred.ei p1.l) (bG 0 λw _=>cg 1 λA _=>aZ))) (bp 7 52 (dh 6 56 (Pred.ei p1.l) (bG 0 λC _=>cg 1 λD _=>dh 3 62 (Pred.ei p1.l) (bG 0 λG _=>cg 1 λI _=>aZ))) (bp 8 67 (ki 4 (iP r hr p1.kind true B p1)) (ki 7 (iP r hr p1.kind (p1.kind==14) B p1))))))))):Fc Sy cL (kX B p1 r)).F.h ()
def gP (B:bD) (p1:Pred):Option Bool:=dz (λr (z:bD×Pred)=>kX z.1 z.2 r) 100000 (B,p1)
instance Kq (B:bD) (p1:Pred):Fc Sy cL (gP B p1):=Fc.of (B,p1) (eS.fix (A:=λz:bD×Pred=>[enc z.1,enc z.2]) (E:=λr:Bool=>[.bool r]) (sc:=true) (b:=(λr (z:bD×Pred)=>kX z.1 z.2 r)) (by kernel_rfl) (λ_ _=>rfl) (λr hr z=>vZ r hr z.1 z.2) 100000)
def zp (B:Trace) (D:Sl Int) (p2:Pred):Option (Bool×Int):=
 (ey B D p2 2).bind λu=>
 a_ (u.2==0)
 ((gP u.1 p2).bind λw=>
 some (w,0))
 (some (false,u.2))
instance QH (B:Trace) (D:Sl Int) (p2:Pred):Fc Sy cL (zp B D p2):=Fc.M 14 [enc B,enc D,enc p2] (bY 2 3 B (bY 0 5 p2 (br 9 λu _=>mS 4 8 0 u.1 (cF 10 18 (br 7 λw _=>aZ) aZ))))
def oN (B:Int):Option Bool:=
 (a_ (decide (B>=65))
 (some (decide (B<=90)))
 (some false):Option Bool).bind λu=>
 (a_ u
 (some true)
 ((a_ (decide (B>=97))
 (some (decide (B<=122)))
 (some false):Option Bool).bind λw=>
 some w):Option Bool).bind λz=>
 some z
instance Rj (B:Int):Fc Sy cL (oN B):=Fc.M 151 [.int .u8 B] (bF 10 3 [5] 8 (bp 10 5 (bl 3) (bl 3)) λu=>bF 1 7 [0,9] 16 (bp 1 9 (bl 7) (bF 3 3 [0,12] 15 (bp 3 12 (bl 3) (bl 3)) λw=>bl 1)) λz=>aZ)
def sF (B:Int):Option Bool:=
 (a_ (decide (B>=48))
 (some (decide (B<=57)))
 (some false):Option Bool).bind λu=>
 some u
instance RM (B:Int):Fc Sy cL (sF B):=Fc.M 152 [.int .u8 B] (bF 10 3 [0,5] 8 (bp 10 5 (bl 3) (bl 3)) λu=>aZ)
namespace gK
def bu (s0:ByteArray) (i3:Int):Option (Fw Int Unit Unit):=
 a_ (decide (i3<((ByteArray.size s0:Nat):Int)))
 ((kR s0 i3).bind λz=>
 (oN z).bind λA=>
 (a_ A
 (some false)
 ((kR s0 i3).bind λB=>
 (sF B).bind λC=>
 some (!C)):Option Bool).bind λD=>
 (a_ D
 ((kR s0 i3).bind λu=>
 some (!(u==95)))
 (some false):Option Bool).bind λw=>
 a_ w
 (some (.r ()))
 (some (.n (IntKind.wrap .i64 (i3+1)))))
 (some (.x ()))
def W1 (s0:ByteArray) (i3:Int):Option Bool:=
 (bV (λq:Int=>bu s0 q) i3).bind (Fw.elim
 (λe=>some true)
 (λe=>some false))
end gK
def gK (s0:ByteArray):Option Bool:=
 (a_ (decide (((ByteArray.size s0:Nat):Int)<1))
 (some true)
 (some (decide (((ByteArray.size s0:Nat):Int)>16))):Option Bool).bind λu=>
 (a_ u
 (some true)
 ((kR s0 0).bind λw=>
 (oN w).bind λz=>
 some (!z)):Option Bool).bind λA=>
 a_ A
 (some false)
 (gK.W1 s0 1)
open gK in
instance TG (s0:ByteArray):Fc Sy cL (gK s0):=Fc.M 113 [.str s0] (bF 12 4 [7] 11 (bp 12 7 (bl 4) (bl 4)) λB=>bF 1 5 [12] 17 (bp 1 12 (bl 5) (Az 1 .i64 λC _=>br 0 λD _=>bl 2)) λG=>bp 2 17 aZ (dS 11 (λw=>(bO [(0,.v (.str s0)),Iv 3 w] [])) (λu=>(0,(bO [] []))) (λu=>(bO [Bv 2 false] [])) (λw=>bp 10 21 (Az 9 .i64 λI _=>br 0 λJ _=>bF 2 6 [29] 35 (cF 2 29 (bl 6) (Az 2 .i64 λL _=>br 0 λO _=>bl 2)) λQ=>bF 1 5 [36] 41 (bp 1 36 (Az 2 .i64 λz _=>bl 2) (bl 5)) λA=>bp 2 41 aZ aZ) aZ) (λu=>aZ) (λu=>aZ)))
def qa (B:Int):Option Bool:=
 (a_ (decide (B>=(-1073741824)))
 (some (decide (B<=1073741824)))
 (some false):Option Bool).bind λu=>
 some u
instance RJ (B:Int):Fc Sy cL (qa B):=Fc.M 114 [.int .i64 B] (bF 10 3 [0,5] 8 (bp 10 5 (bl 3) (bl 3)) λu=>aZ)
namespace dY
def fe (G:Int) (B:bT) (D:Int):Option (Fw Int Unit Unit):=
 a_ (decide (D<G))
 ((idx B.vars D).bind λu=>
 (idx B.vars G).bind λw=>
 a_ (ByteArray.toList u.name==ByteArray.toList w.name)
 (some (.r ()))
 (some (.n (IntKind.wrap .i64 (D+1)))))
 (some (.x ()))
def W3 (D G:Int) (B:bT):Option (Fw Int Unit Int):=
 (bV (λq:Int=>fe D B q) G).bind (Fw.elim
 (λe=>(idx B.vars D).bind λu=>
 (qa u.init_).bind λw=>
 a_ w
 (some (.n (IntKind.wrap .i64 (D+1))))
 (some (.r 2)))
 (λe=>some (.r 13)))
def b9 (B:bT) (D:Int):Option (Fw Int Unit Int):=
 a_ (decide (D<(len B.vars)))
 ((idx B.vars D).bind λu=>
 (gK u.name).bind λw=>
 a_ w
 (W3 D 0 B)
 (some (.r 13)))
 (some (.x ()))
def W2 (D:Int) (B:bT):Option Int:=
 (bV (λq:Int=>b9 B q) D).bind (Fw.elim
 (λe=>a_ (decide ((len B.events)>64))
 (some 5)
 (some 0))
 (λe=>some e))
def bu (p1:Int) (B:Trace) (D:bT) (G:Int):Option (Fw Int Unit Unit):=
 a_ (decide (G<p1))
 ((idx B.procs G).bind λu=>
 a_ (ByteArray.toList u.name==ByteArray.toList D.name)
 (some (.r ()))
 (some (.n (IntKind.wrap .i64 (G+1)))))
 (some (.x ()))
def W1 (p1 G:Int) (D:Trace) (B:bT):Option Int:=
 (bV (λq:Int=>bu p1 D B q) G).bind (Fw.elim
 (λe=>a_ (decide ((len B.vars)>8))
 (some 5)
 (dY.W2 0 B))
 (λe=>some 13))
end dY
def dY (B:Trace) (p1:Int):Option Int:=
 (idx B.procs p1).bind λu=>
 (gK u.name).bind λw=>
 a_ w
 (dY.W1 p1 0 B u)
 (some 13)
open dY in
instance TE (G:Trace) (p1:Int):Fc Sy cL (dY G p1):=Fc.M 77 [enc G,.int .i64 p1] (bY 2 2 G (bG 8 λu _=>mS 2 5 0 u (br 7 λI _=>cF 3 17 (dS 11 (λC=>(bO [Iv 1 p1,Pv 2,Pv 5,Iv 6 C] [Xb 2 G,Xb 5 u])) (λA=>(0,(bO [Pv 5] [Xb 5 u]))) (λA=>(bO [Iv 4 13] [])) (λC=>bp 9 20 (bG 10 λJ _=>bp 7 31 aZ aZ) aZ) (λA=>ct 7 u.vars (bp 3 35 aZ (dS 11 (λw=>(bO [Pv 5,Iv 7 w] [Xb 5 u])) (λz=>(2,(bO [Pv 5] [Xb 5 u]))) (λz=>(bO [Iv 4 z] [])) (λw=>ct 7 u.vars (bp 3 40 (bG 11 λL _=>br 2 λO _=>cF 3 50 (dS 11 (λD=>(bO [Pv 5,Iv 7 w,Iv 8 D] [Xb 5 u])) (λB=>(4,(bO [Pv 5,Iv 7 w] [Xb 5 u]))) (λB=>(bO [Iv 4 13] [])) (λD=>bp 9 53 (bG 10 λQ _=>bG 5 λS _=>bp 5 68 aZ aZ) aZ) (λB=>bG 7 λT _=>br 2 λU _=>cF 3 76 aZ aZ) (λB=>aZ)) aZ) aZ)) (λz=>ct 7 u.events (bp 3 80 aZ aZ)) (λz=>aZ)))) (λA=>aZ)) aZ)))
namespace dZ
def fe (p1 J:Int) (U:Trace) (D:Event) (G:Assign) (B:Int):Option (Fw Int Unit Unit):=
 a_ (decide (B<J))
 ((idx D.assign B).bind λu=>
 a_ (u.var==G.var)
 (some (.r ()))
 (some (.n (IntKind.wrap .i64 (B+1)))))
 (some (.x ()))
def W3 (p1 U B:Int) (D:Trace) (G:Event) (J:Assign):Option (Fw Int Unit Int):=
 (bV (λq:Int=>fe p1 U D G J q) B).bind (Fw.elim
 (λe=>some (.n (IntKind.wrap .i64 (U+1))))
 (λe=>some (.r 8)))
def b9 (p1:Int) (D:Trace) (B:Event) (G:Int):Option (Fw Int Unit Int):=
 a_ (decide (G<(len B.assign)))
 ((idx B.assign G).bind λu=>
 (a_ (decide (u.var<0))
 (some true)
 ((idx D.procs p1).bind λw=>
 some (decide (u.var>=(len w.vars)))):Option Bool).bind λz=>
 (a_ z
 (some true)
 ((qa u.value).bind λA=>
 some (!A)):Option Bool).bind λC=>
 a_ C
 (some (.r 2))
 (W3 p1 G 0 D B u))
 (some (.x ()))
def W2 (p1 G:Int) (B:Trace) (D:Event):Option Int:=
 (bV (λq:Int=>b9 p1 B D q) G).bind (Fw.elim
 (λe=>some 0)
 (λe=>some e))
def J1 (p1 i2:Int) (D:Trace) (B:Event):Option Int:=
 (a_ (decide (B.time<0))
 (some true)
 (some (decide (B.time>1099511627776))):Option Bool).bind λu=>
 (a_ u
 (some true)
 ((a_ (decide (i2>0))
 ((idx D.procs p1).bind λw=>
 (idx w.events (IntKind.wrap .i64 (i2-1))).bind λz=>
 some (decide (B.time<z.time)))
 (some false):Option Bool).bind λA=>
 some A):Option Bool).bind λC=>
 a_ C
 (some 11)
 (a_ (decide ((len B.assign)>8))
 (some 5)
 (dZ.W2 p1 0 D B))
theorem iP (p1 i2:Int) (D:Trace) (B:Event):Le ((J1 p1 i2 D B).bind (λr=>some [.int .i64 r])) (cn Sy cL (mF (tr Tx 78)) (oa (tb Tx 78) [1,1,1,0] [] (bO [Iv 1 p1,Iv 2 i2,Pv 3,Pv 7] [Xb 3 D,Xb 7 B]))):=
 bF 7 4 [71] 75 (bp 7 71 (bl 4) (bl 4)) λJ=>bF 1 19 [2,76] 95 (bp 1 76 (bl 19) (bF 3 15 [2,79] 94 (bp 3 79 (bG 5 λL _=>bG 4 λO _=>bl 4) (bl 15)) λQ=>bl 1)) λS=>bp 2 95 aZ (ct 8 B.assign (bp 3 99 aZ (dS 11 (λu=>(bO [Iv 1 p1,Pv 3,Pv 7,Iv 8 u] [Xb 3 D,Xb 7 B])) (λw=>(0,(bO [] []))) (λw=>(bO [Iv 6 w] [])) (λu=>ct 7 B.assign (bp 3 104 (bG 10 λz _=>bF 12 11 [115] 126 (bp 12 115 (bl 11) (bG 5 λG _=>ct 2 G.vars (bl 2))) λT=>AY 1 5 [130] (λA=>(bO [Iv 1 p1,Pv 3,Pv 7,Iv 8 u,Bv 104 true,Pv 9,Bv 132 A] [Xb 3 D,Xb 7 B,Xb 9 z])) (bp 1 127 (bl 5) (cg 2 λU _=>bl 2)) λA=>bp 2 132 aZ (dS 10 (λI=>(bO [Iv 1 p1,Pv 3,Pv 7,Iv 8 u,Pv 9,Iv 10 I] [Xb 3 D,Xb 7 B,Xb 9 z])) (λC=>(2,(bO [Iv 1 p1,Pv 3,Pv 7,Iv 8 u] [Xb 3 D,Xb 7 B]))) (λC=>(bO [Iv 6 8] [])) (λI=>bp 9 135 (bG 10 λW _=>bp 7 146 aZ aZ) aZ) (λC=>aZ) (λC=>aZ))) aZ)) (λw=>aZ) (λw=>aZ))))
end dZ
def dZ (B:Trace) (p1 i2:Int):Option Int:=
 (idx B.procs p1).bind λw=>
 (idx w.events i2).bind λu=>
 a_ (u.kind==1)
 ((a_ (u.peer==0)
 (some (!(u.message==0)))
 (some true):Option Bool).bind λz=>
 a_ z
 (some 3)
 (dZ.J1 p1 i2 B u))
 ((a_ (u.kind==2)
 (some false)
 (some (!(u.kind==3))):Option Bool).bind λA=>
 (a_ A
 (some true)
 (some (decide (u.peer<0))):Option Bool).bind λC=>
 (a_ C
 (some true)
 (some (decide (u.peer>=(len B.procs)))):Option Bool).bind λD=>
 (a_ D
 (some true)
 (some (u.peer==p1)):Option Bool).bind λG=>
 (a_ G
 (some true)
 (some (decide (u.message<0))):Option Bool).bind λI=>
 (a_ I
 (some true)
 (some (decide (u.message>199))):Option Bool).bind λJ=>
 a_ J
 (some 3)
 (dZ.J1 p1 i2 B u))
open dZ in
instance Tz (B:Trace) (p1 i2:Int):Fc Sy cL (dZ B p1 i2):=Fc.M 78 [enc B,.int .i64 p1,.int .i64 i2] (bY 2 3 B (bG 8 λw _=>bG 3 λu _=>mS 2 7 0 u (bp 10 22 (bF 7 4 [26] 30 (cF 7 26 (bl 4) (bl 4)) λz=>bp 2 30 aZ (ki 4 (iP p1 i2 B u))) (bF 7 4 [34] 38 (cF 7 34 (bl 4) (bl 4)) λA=>bF 1 4 [39] 43 (bp 1 39 (bl 4) (bl 4)) λC=>bF 1 7 [44] 51 (bp 1 44 (bl 7) (ct 4 B.procs (bl 2))) λD=>bF 1 5 [52] 57 (bp 1 52 (bl 5) (bl 5)) λG=>bF 1 4 [58] 62 (bp 1 58 (bl 4) (bl 4)) λI=>bF 1 4 [63] 67 (bp 1 63 (bl 4) (bl 4)) λJ=>bp 2 67 aZ (ki 4 (iP p1 i2 B u))))))
namespace iq
def bu (G:Trace) (J:aY) (D:Event) (B:Bool) (U:Int):Option (Fw (Bool×Int) Bool Empty):=
 (idx G.procs D.peer).bind λw=>
 a_ (decide (U<(len w.events)))
 ((idx G.procs D.peer).bind λz=>
 (idx z.events U).bind λu=>
 (a_ B
 (some true)
 ((a_ (u.kind==2)
 (some (u.message==D.message))
 (some false):Option Bool).bind λA=>
 (a_ A
 (some (u.peer==J.proc))
 (some false):Option Bool).bind λC=>
 some C):Option Bool).bind λI=>
 some (.n (I,IntKind.wrap .i64 (U+1))))
 (some (.x B))
def W1 (B:Bool) (U:Int) (D:Trace) (G:aY) (J:Event):Option Int:=
 (bV (λq:Bool×Int=>bu D G J q.1 q.2) (B,U)).bind (Fw.elim
 (λe=>a_ e
 (some 0)
 (some 7))
 (λe=>Empty.elim e))
end iq
def iq (B:Trace) (D:aY):Option Int:=
 (uJ B D).bind λu=>
 a_ (u.kind==1)
 (some 0)
 ((dL B u.kind u.message).bind λw=>
 a_ (J6 w D)
 (a_ (u.kind==3)
 (iq.W1 false 0 B D u)
 (some 0))
 (some 8))
open iq in
instance Rt (B:Trace) (D:aY):Fc Sy cL (iq B D):=Fc.M 79 [enc B,enc D] (bY 2 2 B (br 8 λw _=>mS 1 5 0 w (bp 10 14 aZ (cg 11 λG _=>cF 4 22 (bp 11 25 (jM 14 (λu=>(bO [Pv 2,Pv 3,Pv 5,Bv 6 u.1,Iv 7 u.2] [Xb 2 B,Xb 3 D,Xb 5 w])) (λz=>(0,(bO [Bv 6 z] []))) (λu=>bG 9 λA _=>ct 2 A.events (bp 3 35 (bG 11 λI _=>bG 3 λC _=>mS 2 8 0 C (bF 5 18 [8,49] 67 (bp 5 49 (bl 18) (bF 4 6 [53] 59 (bp 4 53 (bl 6) (bl 6)) λJ=>bF 1 6 [8,60] 66 (bp 1 60 (bl 6) (bl 6)) λL=>bl 1)) λO=>aZ)) aZ)) (λz=>cF 8 69 aZ aZ)) aZ) aZ))))
namespace eo
def J4 (B:Sl Int) (p5:Int) (D:Trace):Option (Fw ((Sl Int)×Bool) ((Sl Int)×Bool) Empty):=
 (Sl.rT B p5).bind λu=>
 (Sl.get B u).bind λw=>
 (Sl.rT B p5).bind λz=>
 (Sl.put B z (IntKind.wrap .i64 (w+1):Int)).bind λA=>
 some (.n (A,true))
def fe (p5:Int) (G:Trace) (B:Sl Int) (D:Bool):Option (Fw ((Sl Int)×Bool) ((Sl Int)×Bool) Empty):=
 (Sl.rT B p5).bind λC=>
 (Sl.get B C).bind λI=>
 (idx G.procs p5).bind λJ=>
 a_ (decide (I<(len J.events)))
 ((idx G.procs p5).bind λL=>
 (Sl.rT B p5).bind λO=>
 (Sl.get B O).bind λQ=>
 (idx L.events Q).bind λu=>
 a_ (u.kind==3)
 ((dL G 2 u.message).bind λw=>
 (Sl.rT B w.proc).bind λz=>
 (Sl.get B z).bind λA=>
 a_ (decide (A<w.index))
 (some (.x (B,D)))
 (J4 B p5 G))
 (J4 B p5 G))
 (some (.x (B,D)))
def W3 (D:Sl Int) (B:Bool) (p5:Int) (G:Trace):Option (Fw ((Sl Int)×Bool×Int) ((Sl Int)×Bool) Empty):=
 (bV (λq:(Sl Int)×Bool=>fe p5 G q.1 q.2) (D,B)).bind (Fw.elim
 (λe=>some (.n (e.1,e.2,IntKind.wrap .i64 (p5+1))))
 (λe=>Empty.elim e))
def b9 (G:Trace) (D:Sl Int) (B:Bool) (p5:Int):Option (Fw ((Sl Int)×Bool×Int) ((Sl Int)×Bool) Empty):=
 a_ (decide (p5<(len G.procs)))
 (W3 D B p5 G)
 (some (.x (D,B)))
def W2 (D:Sl Int) (B:Bool) (p5:Int) (G:Trace):Option (Fw (Sl Int) (Sl Int) Empty):=
 (bV (λq:(Sl Int)×Bool×Int=>b9 G q.1 q.2.1 q.2.2) (D,B,p5)).bind (Fw.elim
 (λe=>a_ e.2
 (some (.n e.1))
 (some (.x e.1)))
 (λe=>Empty.elim e))
def xO (B:Sl Int) (D:Trace) (G:Int):Option (Fw Int Unit Unit):=
 a_ (decide (G<(len D.procs)))
 ((Sl.rT B G).bind λu=>
 (Sl.get B u).bind λw=>
 (idx D.procs G).bind λz=>
 a_ (decide (w<(len z.events)))
 (some (.r ()))
 (some (.n (IntKind.wrap .i64 (G+1)))))
 (some (.x ()))
def W5 (B:Sl Int) (G:Int) (D:Trace):Option Bool:=
 (bV (λq:Int=>xO B D q) G).bind (Fw.elim
 (λe=>some true)
 (λe=>some false))
def bu (D:Trace) (B:Sl Int):Option (Fw (Sl Int) (Sl Int) Empty):=
 W2 B false 0 D
def W1 (B:Sl Int) (D:Trace):Option Bool:=
 (bV (λq:Sl Int=>bu D q) B).bind (Fw.elim
 (λe=>eo.W5 e 0 D)
 (λe=>Empty.elim e))
end eo
def eo (B:Trace):Option Bool:=
 (B3 (len B.procs) (0:Int)).bind λu=>
 eo.W1 u B
open eo in
instance PE (B:Trace):Fc Sy cL (eo B):=Fc.M 80 [enc B] (bY 2 1 B (ct 7 B.procs (Xk 0 12 λad _=>jM 7 (λL=>(bO [Pv 1,Ov 3] [Xb 1 B,Lb 2003 L])) (λC=>(0,(bO [Pv 1,Ov 3] [Xb 1 B,Lb 2003 C]))) (λL=>jM 17 (λw=>(bO [Pv 1,Ov 3,Bv 4 w.2.1,Iv 5 w.2.2] [Xb 1 B,Lb 2003 w.1])) (λD=>(2,(bO [Pv 1,Ov 3,Bv 4 D.2] [Xb 1 B,Lb 2003 D.1]))) (λw=>ct 8 B.procs (bp 3 17 (jM 8 (λG=>(bO [Pv 1,Ov 3,Bv 4 G.2,Iv 5 w.2.2] [Xb 1 B,Lb 2003 G.1])) (λI=>(4,(bO [Pv 1,Ov 3,Bv 4 I.2,Iv 5 w.2.2] [Xb 1 B,Lb 2003 I.1]))) (λG=>xG .i64 7 2003 λae _=>Ca 0 2003 0 1 false (λO=>.int .i64 O) λO _=>bG 3 λY _=>ct 2 Y.events (bp 3 31 (bG 9 λaf _=>xG .i64 4 2003 λah _=>Ca 0 2003 0 1 false (λQ=>.int .i64 Q) λQ _=>bG 0 λZ _=>mS 2 6 0 Z (bp 10 46 (br 6 λai _=>xG .i64 9 2003 λaa _=>Ca 0 2003 0 1 false (λz=>.int .i64 z) λz _=>bp 5 58 aZ (n_ 5 (xG .i64 4 2003 λS _=>Ca 0 2003 0 1 false (λu=>.int .i64 u) λu _=>xG .i64 1 2003 λT _=>OK 0 2003 (.int .i64 (IntKind.wrap .i64 (u+1))) λU _=>aZ))) (n_ 5 (xG .i64 4 2003 λS _=>Ca 0 2003 0 1 false (λu=>.int .i64 u) λu _=>xG .i64 1 2003 λT _=>OK 0 2003 (.int .i64 (IntKind.wrap .i64 (u+1))) λU _=>aZ)))) aZ)) (λI=>aZ)) aZ)) (λD=>cF 8 66 aZ aZ)) (λC=>dS 11 (λW=>(bO [Pv 1,Ov 3,Iv 8 W] [Xb 1 B,Lb 2003 C])) (λJ=>(6,(bO [] []))) (λJ=>(bO [Bv 2 false] [])) (λW=>ct 8 B.procs (bp 3 71 (xG .i64 9 2003 λab _=>Ca 0 2003 0 1 false (λA=>.int .i64 A) λA _=>bG 3 λX _=>ct 2 X.events (bp 3 85 aZ aZ)) aZ)) (λJ=>aZ) (λJ=>aZ)))))
instance TT (t:Trace) (x:aY):Fc Sy cL (nk t x):=Fc.of (A:=λz:Trace×aY=>[enc z.1,enc z.2]) (E:=λr:Sl (Sl Bool)=>[enc r]) (p:=λz=>nk z.1 z.2) (n:=81) (z:=(t,x)) (eS.WG (by kernel_rfl) (by kernel_rfl) (λz r hr=>PO z.1 z.2 r hr))
namespace cU
def fe (p6:Int) (B:Trace) (G:aY) (D:Int):Option (Fw Int Unit (Int×aY)):=
 (idx B.procs p6).bind λw=>
 a_ (decide (D<(len w.events)))
 ((dZ B p6 D).bind λu=>
 a_ (u==0)
 (some (.n (IntKind.wrap .i64 (D+1))))
 (some (.r (u,(⟨p6,IntKind.wrap .i64 (D+1)⟩:aY)))))
 (some (.x ()))
def W3 (p6 G:Int) (B:Trace) (D:aY):Option (Fw Int Unit (Int×aY)):=
 (bV (λq:Int=>fe p6 B D q) G).bind (Fw.elim
 (λe=>some (.n (IntKind.wrap .i64 (p6+1))))
 (λe=>some (.r (e.1,e.2))))
def xO (G:Int) (D:Trace) (J:aY) (B:Int):Option (Fw Int Unit (Int×aY)):=
 (idx D.procs G).bind λw=>
 a_ (decide (B<(len w.events)))
 ((iq D (⟨G,IntKind.wrap .i64 (B+1)⟩:aY)).bind λu=>
 a_ (u==0)
 (some (.n (IntKind.wrap .i64 (B+1))))
 (some (.r (u,(⟨G,IntKind.wrap .i64 (B+1)⟩:aY)))))
 (some (.x ()))
def W5 (J B:Int) (D:Trace) (G:aY):Option (Fw Int Unit (Int×aY)):=
 (bV (λq:Int=>xO J D G q) B).bind (Fw.elim
 (λe=>some (.n (IntKind.wrap .i64 (J+1))))
 (λe=>some (.r (e.1,e.2))))
def Kj (D:Int) (G:Trace) (J:aY) (B:Int):Option (Fw Int Unit aY):=
 (idx G.procs D).bind λw=>
 a_ (decide (B<(len w.events)))
 ((nk G (⟨D,IntKind.wrap .i64 (B+1)⟩:aY)).bind λz=>
 (idx z D).bind λA=>
 (idx A (IntKind.wrap .i64 (B+1))).bind λu=>
 a_ u
 (some (.r (⟨D,IntKind.wrap .i64 (B+1)⟩:aY)))
 (some (.n (IntKind.wrap .i64 (B+1)))))
 (some (.x ()))
def W7 (B D:Int) (G:Trace) (J:aY):Option (Fw Int Unit aY):=
 (bV (λq:Int=>Kj B G J q) D).bind (Fw.elim
 (λe=>some (.n (IntKind.wrap .i64 (B+1))))
 (λe=>some (.r e)))
def JE (B:Trace) (G:aY) (D:Int):Option (Fw Int Unit aY):=
 a_ (decide (D<(len B.procs)))
 (W7 D 0 B G)
 (some (.x ()))
def W6 (B:Int) (D:Trace) (G:aY):Option (aY×Int):=
 (bV (λq:Int=>JE D G q) B).bind (Fw.elim
 (λe=>some (⟨0,0⟩,0))
 (λe=>some (e,10)))
def JF (B:Trace) (D:aY) (G:Int):Option (Fw Int Unit (Int×aY)):=
 a_ (decide (G<(len B.procs)))
 (W5 G 0 B D)
 (some (.x ()))
def W4 (G:Int) (B:Trace) (D:aY):Option (aY×Int):=
 (bV (λq:Int=>JF B D q) G).bind (Fw.elim
 (λe=>(eo B).bind λu=>
 a_ u
 (some (⟨0,0⟩,0))
 (cU.W6 0 B D))
 (λe=>some (e.2,e.1)))
def b9 (B:Trace) (D:aY) (p6:Int):Option (Fw Int Unit (Int×aY)):=
 a_ (decide (p6<(len B.procs)))
 (W3 p6 0 B D)
 (some (.x ()))
def W2 (p6:Int) (B:Trace) (D:aY):Option (aY×Int):=
 (bV (λq:Int=>b9 B D q) p6).bind (Fw.elim
 (λe=>cU.W4 0 B D)
 (λe=>some (e.2,e.1)))
def bu (B:Trace) (D:aY) (p4:Int):Option (Fw Int Unit (Int×aY)):=
 a_ (decide (p4<(len B.procs)))
 ((dY B p4).bind λu=>
 a_ (u==0)
 (some (.n (IntKind.wrap .i64 (p4+1))))
 (some (.r (u,(⟨p4,0⟩:aY)))))
 (some (.x ()))
def W1 (p4:Int) (B:Trace) (D:aY):Option (aY×Int):=
 (bV (λq:Int=>bu B D q) p4).bind (Fw.elim
 (λe=>cU.W2 0 B D)
 (λe=>some (e.2,e.1)))
end cU
def cU (B:Trace):Option (aY×Int):=
 (a_ (decide ((len B.procs)<1))
 (some true)
 (some (decide ((len B.procs)>8))):Option Bool).bind λu=>
 a_ u
 (some (⟨0,0⟩,1))
 (cU.W1 0 B (⟨0,0⟩:aY))
open cU in
instance Sd (B:Trace):Fc Sy cL (cU B):=Fc.M 53 [enc B] (bY 2 1 B (ct 9 B.procs (bF 2 5 [20] 25 (bp 2 20 (bl 5) (ct 2 B.procs (bl 2))) λaa=>bp 2 25 aZ (dS 11 (λO=>(bO [Pv 1,Pv 2,Iv 4 O] [Xb 1 B,Xb 2 (⟨0,0⟩:aY)])) (λu=>(0,(bO [Pv 1,Pv 2] [Xb 1 B,Xb 2 (⟨0,0⟩:aY)]))) (λu=>(bO [Pv 2,Iv 3 u.1] [Xb 2 u.2])) (λO=>ct 7 B.procs (bp 3 31 (br 9 λab _=>cF 9 38 aZ aZ) aZ)) (λu=>dS 10 (λD=>(bO [Pv 1,Pv 2,Iv 6 D] [Xb 1 B,Xb 2 (⟨0,0⟩:aY)])) (λw=>(2,(bO [Pv 1,Pv 2] [Xb 1 B,Xb 2 (⟨0,0⟩:aY)]))) (λw=>(bO [Pv 2,Iv 3 w.1] [Xb 2 w.2])) (λD=>ct 7 B.procs (bp 3 46 (dS 12 (λQ=>(bO [Pv 1,Pv 2,Iv 6 D,Iv 7 Q] [Xb 1 B,Xb 2 (⟨0,0⟩:aY)])) (λz=>(4,(bO [Pv 1,Pv 2,Iv 6 D] [Xb 1 B,Xb 2 (⟨0,0⟩:aY)]))) (λz=>(bO [Pv 2,Iv 3 z.1] [Xb 2 z.2])) (λQ=>bG 8 λU _=>ct 2 U.events (bp 3 57 (br 10 λad _=>cF 9 65 aZ aZ) aZ)) (λz=>aZ) (λz=>aZ)) aZ)) (λw=>dS 10 (λG=>(bO [Pv 1,Pv 2,Iv 9 G] [Xb 1 B,Xb 2 (⟨0,0⟩:aY)])) (λA=>(6,(bO [Pv 1,Pv 2] [Xb 1 B,Xb 2 (⟨0,0⟩:aY)]))) (λA=>(bO [Pv 2,Iv 3 A.1] [Xb 2 A.2])) (λG=>ct 7 B.procs (bp 3 75 (dS 12 (λS=>(bO [Pv 1,Pv 2,Iv 9 G,Iv 10 S] [Xb 1 B,Xb 2 (⟨0,0⟩:aY)])) (λC=>(8,(bO [Pv 1,Pv 2,Iv 9 G] [Xb 1 B,Xb 2 (⟨0,0⟩:aY)]))) (λC=>(bO [Pv 2,Iv 3 C.1] [Xb 2 C.2])) (λS=>bG 8 λW _=>ct 2 W.events (bp 3 86 (br 19 λae _=>cF 9 97 aZ aZ) aZ)) (λC=>aZ) (λC=>aZ)) aZ)) (λA=>br 6 λY _=>bp 2 101 aZ (dS 11 (λI=>(bO [Pv 1,Pv 2,Iv 13 I] [Xb 1 B,Xb 2 (⟨0,0⟩:aY)])) (λJ=>(10,(bO [Pv 2] [Xb 2 (⟨0,0⟩:aY)]))) (λJ=>(bO [Pv 2,Iv 3 10] [Xb 2 J])) (λI=>ct 7 B.procs (bp 3 107 (dS 12 (λT=>(bO [Pv 1,Pv 2,Iv 13 I,Iv 14 T] [Xb 1 B,Xb 2 (⟨0,0⟩:aY)])) (λL=>(12,(bO [Pv 1,Pv 2,Iv 13 I] [Xb 1 B,Xb 2 (⟨0,0⟩:aY)]))) (λL=>(bO [Pv 2,Iv 3 10] [Xb 2 L])) (λT=>bG 8 λX _=>ct 2 X.events (bp 3 118 (br 19 λaf _=>bG 1 λah _=>bG 3 λZ _=>bp 3 134 aZ aZ) aZ)) (λL=>aZ) (λL=>aZ)) aZ)) (λJ=>aZ) (λJ=>aZ))) (λA=>aZ)) (λw=>aZ)) (λu=>aZ)))))
def pN (B:Trace):Option Bool:=
 (cU B).bind λu=>
 some (u.2==0)
instance RE (B:Trace):Fc Sy cL (pN B):=Fc.M 21 [enc B] (bY 2 1 B (br 6 λu _=>aZ))
namespace jO
def bu (B:Int) (D:Pred) (G J:Int) (r:(Pred×Int)->Option Int):Option (Fw (Int×Int) Int Empty):=
 (a_ (decide (J<(len D.l)))
 (some (decide (G<=B)))
 (some false):Option Bool).bind λu=>
 a_ u
 ((idx D.l J).bind λw=>
 (r (w,IntKind.wrap .i64 (B-G))).bind λz=>
 some (.n (IntKind.wrap .i64 (G+z),IntKind.wrap .i64 (J+1))))
 (some (.x G))
def W1 (B G J:Int) (D:Pred) (r:(Pred×Int)->Option Int):Option Int:=
 (bV (λq:Int×Int=>bu B D q.1 q.2 r) (G,J)).bind (Fw.elim
 (λe=>some e)
 (λe=>Empty.elim e))
end jO
def gJ (D:Pred) (B:Int) (r:(Pred×Int)->Option Int):Option Int:=
 jO.W1 B 1 0 D r
open jO in
theorem Bl (r:(Pred×Int)->Option Int) (hr:eS Sy cL 134 (λz:Pred×Int=>[enc z.1,.int .i64 z.2]) (λr:Int=>[.int .i64 r]) r true) (D:Pred) (B:Int):Le ((gJ D B r).bind λr=>some [.int .i64 r]) (fQ cL 134 [enc D,.int .i64 B]):=
 (Fc.M 134 [enc D,.int .i64 B] (bY 2 2 D (jM 16 (λu=>(bO [Iv 1 B,Pv 2,Iv 5 u.1,Iv 6 u.2] [Xb 2 D])) (λw=>(0,(bO [Iv 5 w] []))) (λu=>dh 7 9 (Pred.ei D.l) (ct 0 D.l (bF 2 4 [12] 16 (bp 2 12 (bl 4) (bl 4)) λC=>bp 2 16 (dh 9 21 (Pred.ei D.l) (bG 1 λA _=>br (F:=Fc.of (A,IntKind.wrap .i64 (B-u.1)) hr) 4 λG _=>aZ)) aZ))) (λw=>aZ))):Fc Sy cL (gJ D B r)).F.h ()
def jO (D:Pred) (B:Int):Option Int:=dz (λr (z:Pred×Int)=>gJ z.1 z.2 r) 100000 (D,B)
instance Tj (D:Pred) (B:Int):Fc Sy cL (jO D B):=Fc.of (D,B) (eS.fix (A:=λz:Pred×Int=>[enc z.1,.int .i64 z.2]) (E:=λr:Int=>[.int .i64 r]) (sc:=true) (b:=(λr (z:Pred×Int)=>gJ z.1 z.2 r)) (by kernel_rfl) (λ_ _=>rfl) (λr hr z=>Bl r hr z.1 z.2) 100000)
def xk (B:Pred):Option Int:=
 (jO B 200).bind λu=>
 some (if 201<u then 201 else u)
instance TJ (B:Pred):Fc Sy cL (xk B):=Fc.M 91 [enc B] (bY 2 1 B (br 6 λu _=>aZ))
namespace jg
def bu (B:Int) (D:Pred) (G J:Int) (r:(Pred×Int)->Option Int):Option (Fw (Int×Int) Int Empty):=
 a_ (decide (J<(len D.l)))
 ((idx D.l J).bind λw=>
 (r (w,IntKind.wrap .i64 (B-1))).bind λu=>
 some (.n ((if u>G then u else G),IntKind.wrap .i64 (J+1))))
 (some (.x G))
def W1 (B G J:Int) (D:Pred) (r:(Pred×Int)->Option Int):Option Int:=
 (bV (λq:Int×Int=>bu B D q.1 q.2 r) (G,J)).bind (Fw.elim
 (λe=>some (IntKind.wrap .i64 (e+1)))
 (λe=>Empty.elim e))
end jg
def gO (D:Pred) (B:Int) (r:(Pred×Int)->Option Int):Option Int:=
 a_ (B==0)
 (some 1)
 (jg.W1 B 0 0 D r)
open jg in
theorem Bm (r:(Pred×Int)->Option Int) (hr:eS Sy cL 92 (λz:Pred×Int=>[enc z.1,.int .i64 z.2]) (λr:Int=>[.int .i64 r]) r true) (D:Pred) (B:Int):Le ((gO D B r).bind λr=>some [.int .i64 r]) (fQ cL 92 [enc D,.int .i64 B]):=
 (Fc.M 92 [enc D,.int .i64 B] (bY 2 2 D (bp 15 8 aZ (jM 11 (λu=>(bO [Iv 1 B,Pv 2,Iv 5 u.1,Iv 6 u.2] [Xb 2 D])) (λw=>(0,(bO [Iv 5 w] []))) (λu=>dh 7 11 (Pred.ei D.l) (ct 0 D.l (bp 3 13 (dh 9 18 (Pred.ei D.l) (bG 1 λA _=>br (F:=Fc.of (A,IntKind.wrap .i64 (B-1)) hr) 3 λC _=>aZ)) aZ))) (λw=>aZ)))):Fc Sy cL (gO D B r)).F.h ()
def jg (D:Pred) (B:Int):Option Int:=dz (λr (z:Pred×Int)=>gO z.1 z.2 r) 100000 (D,B)
instance R7 (D:Pred) (B:Int):Fc Sy cL (jg D B):=Fc.of (D,B) (eS.fix (A:=λz:Pred×Int=>[enc z.1,.int .i64 z.2]) (E:=λr:Int=>[.int .i64 r]) (sc:=true) (b:=(λr (z:Pred×Int)=>gO z.1 z.2 r)) (by kernel_rfl) (λ_ _=>rfl) (λr hr z=>Bm r hr z.1 z.2) 100000)
def kP (B:Int):Option Int:=
 (a_ (decide (B>=1))
 (some (decide (B<=4)))
 (some false):Option Bool).bind λu=>
 (a_ u
 (some true)
 (some (B==13)):Option Bool).bind λw=>
 (a_ w
 (some true)
 (some (B==14)):Option Bool).bind λz=>
 a_ z
 (some 0)
 ((a_ (B==5)
 (some true)
 (some (B==15)):Option Bool).bind λA=>
 (a_ A
 (some true)
 ((a_ (decide (B>=18))
 (some (decide (B<=21)))
 (some false):Option Bool).bind λC=>
 some C):Option Bool).bind λD=>
 a_ D
 (some 1)
 ((a_ (decide (B>=6))
 (some (decide (B<=12)))
 (some false):Option Bool).bind λG=>
 (a_ G
 (some true)
 (some (B==16)):Option Bool).bind λI=>
 (a_ I
 (some true)
 (some (B==17)):Option Bool).bind λJ=>
 a_ J
 (some 2)
 (some (-1))))
instance R5 (B:Int):Fc Sy cL (kP B):=Fc.M 135 [.int .i64 B] (bF 11 3 [5] 8 (bp 11 5 (bl 3) (bl 3)) λu=>bF 1 3 [9] 12 (bp 1 9 (bl 3) (bl 3)) λw=>bF 1 3 [13] 16 (bp 1 13 (bl 3) (bl 3)) λz=>bp 2 16 aZ (bF 9 3 [19] 22 (bp 9 19 (bl 3) (bl 3)) λA=>bF 1 7 [23] 30 (bp 1 23 (bl 7) (bF 3 3 [26] 29 (bp 3 26 (bl 3) (bl 3)) λC=>bl 1)) λD=>bp 2 30 aZ (bF 9 3 [33] 36 (bp 9 33 (bl 3) (bl 3)) λG=>bF 1 3 [37] 40 (bp 1 37 (bl 3) (bl 3)) λI=>bF 1 3 [0,41] 44 (bp 1 41 (bl 3) (bl 3)) λJ=>bp 2 44 aZ aZ)))
namespace e9
def b9 (B:Pred) (i3:Int) (r:Pred->Option Bool):Option (Fw Int Unit Unit):=
 a_ (decide (i3<(len B.l)))
 ((idx B.l i3).bind λu=>
 (r u).bind λw=>
 a_ w
 (some (.n (IntKind.wrap .i64 (i3+1))))
 (some (.r ())))
 (some (.x ()))
def W2 (i3:Int) (B:Pred) (r:Pred->Option Bool):Option Bool:=
 (bV (λq:Int=>b9 B q r) i3).bind (Fw.elim
 (λe=>some true)
 (λe=>some false))
def J1 (B:Pred) (r:Pred->Option Bool):Option Bool:=
 (a_ (decide (B.kind<2))
 (some true)
 (some (decide (B.kind>4))):Option Bool).bind λu=>
 (a_ u
 ((a_ (B.proc==0)
 (some (!(B.peer==0)))
 (some true):Option Bool).bind λw=>
 (a_ w
 (some true)
 (some (!(ByteArray.toList B.name==ByteArray.toList ByteArray.empty))):Option Bool).bind λz=>
 some z)
 (some false):Option Bool).bind λA=>
 a_ A
 (some false)
 (e9.W2 0 B r)
theorem iP (r:Pred->Option Bool) (hr:eS Sy cL 93 (λz:Pred=>[enc z]) (λr:Bool=>[.bool r]) r true) (B:Pred):Le ((J1 B r).bind (λr=>some [.bool r])) (cn Sy cL (mF (tr Tx 93)) (oa (tb Tx 93) [1,1,1,0] [] (bO [Pv 1] [Xb 1 B]))):=
 bF 7 4 [28] 32 (bp 7 28 (bl 4) (bl 4)) λC=>bF 1 14 [33] 47 (bp 1 33 (bF 4 4 [37] 41 (cF 4 37 (bl 4) (bl 4)) λD=>bF 1 4 [42] 46 (bp 1 42 (bl 4) (bl 4)) λG=>bl 1) (bl 14)) λI=>bp 2 47 aZ (dS 11 (λw=>(bO [Pv 1,Iv 3 w] [Xb 1 B])) (λu=>(0,(bO [] []))) (λu=>(bO [Bv 2 false] [])) (λw=>dh 7 50 (Pred.ei B.l) (ct 0 B.l (bp 3 52 (dh 9 56 (Pred.ei B.l) (bG 1 λA _=>br (F:=Fc.of A hr) 1 λJ _=>cF 3 61 aZ aZ)) aZ))) (λu=>aZ) (λu=>aZ))
end e9
def fE (B:Pred) (r:Pred->Option Bool):Option Bool:=
 (kP B.kind).bind λu=>
 a_ (u==(len B.l))
 (a_ (B.kind==1)
 ((a_ (decide (B.n<0))
 (some true)
 (some (decide (B.n>1125899906842624))):Option Bool).bind λw=>
 a_ w
 (some false)
 (e9.J1 B r))
 (a_ (B.n==0)
 (e9.J1 B r)
 (some false)))
 (some false)
open e9 in
theorem Bo (r:Pred->Option Bool) (hr:eS Sy cL 93 (λz:Pred=>[enc z]) (λr:Bool=>[.bool r]) r true) (B:Pred):Le ((fE B r).bind λr=>some [.bool r]) (fQ cL 93 [enc B]):=
 (Fc.M 93 [enc B] (bY 2 1 B (cg 8 λu _=>dh 2 8 (Pred.ei B.l) (ct 0 B.l (cF 3 10 (bp 11 13 (bF 7 4 [17] 21 (bp 7 17 (bl 4) (bl 4)) λw=>bp 2 21 aZ (ki 4 (iP r hr B))) (cF 8 24 (ki 4 (iP r hr B)) aZ)) aZ)))):Fc Sy cL (fE B r)).F.h ()
def e9 (B:Pred):Option Bool:=dz (λr (z:Pred)=>fE z r) 100000 B
instance Tq (B:Pred):Fc Sy cL (e9 B):=Fc.of B (eS.fix (A:=λz:Pred=>[enc z]) (E:=λr:Bool=>[.bool r]) (sc:=true) (b:=(λr (z:Pred)=>fE z r)) (by kernel_rfl) (λ_ _=>rfl) (λr hr z=>Bo r hr z) 100000)
def mJ (B:Pred):Option Bool:=
 (xk B).bind λu=>
 (a_ (decide (u<=200))
 ((jg B 21).bind λw=>
 some (decide (w<=20)))
 (some false):Option Bool).bind λz=>
 (a_ z
 ((e9 B).bind λA=>
 some A)
 (some false):Option Bool).bind λC=>
 some C
instance Rs (B:Pred):Fc Sy cL (mJ B):=Fc.M 58 [enc B] (bY 2 1 B (br 6 λu _=>bF 2 4 [6] 10 (bp 2 6 (br 1 λw _=>bl 2) (bl 4)) λz=>bF 1 3 [1,11] 14 (bp 1 11 (br 1 λA _=>bl 1) (bl 3)) λC=>aZ))
def nq (B:Trace) (p1:Int):Option Bool:=
 (a_ (decide (p1>=0))
 (some (decide (p1<(len B.procs))))
 (some false):Option Bool).bind λu=>
 some u
instance TR (B:Trace) (p1:Int):Fc Sy cL (nq B p1):=Fc.M 109 [enc B,.int .i64 p1] (bY 2 2 B (bF 8 6 [1,2,7] 13 (bp 8 7 (ct 3 B.procs (bl 2)) (bl 6)) λu=>aZ))
namespace iB
def bu (p1:Int) (B:ByteArray) (D:Trace) (G:Int):Option (Fw Int Unit Int):=
 (idx D.procs p1).bind λu=>
 a_ (decide (G<(len u.vars)))
 ((idx D.procs p1).bind λw=>
 (idx w.vars G).bind λz=>
 a_ (ByteArray.toList z.name==ByteArray.toList B)
 (some (.r G))
 (some (.n (IntKind.wrap .i64 (G+1)))))
 (some (.x ()))
def W1 (p1:Int) (B:ByteArray) (G:Int) (D:Trace):Option Int:=
 (bV (λq:Int=>bu p1 B D q) G).bind (Fw.elim
 (λe=>some (-1))
 (λe=>some e))
end iB
def iB (D:Trace) (p1:Int) (B:ByteArray):Option Int:=
 iB.W1 p1 B 0 D
open iB in
instance Ux (D:Trace) (p1:Int) (B:ByteArray):Fc Sy cL (iB D p1 B):=Fc.M 110 [enc D,.int .i64 p1,.str B] (bY 2 3 D (dS 11 (λw=>(bO [Iv 1 p1,(2,.v (.str B)),Pv 3,Iv 7 w] [Xb 3 D])) (λu=>(0,(bO [] []))) (λu=>(bO [Iv 6 u] [])) (λw=>bG 8 λz _=>ct 2 z.vars (bp 3 16 (bG 10 λA _=>bG 3 λC _=>bp 6 30 aZ aZ) aZ)) (λu=>aZ) (λu=>aZ)))
namespace fG
def bu (D:Trace) (B:Pred) (G:Int) (r:(Trace×Pred)->Option Bool):Option (Fw Int Unit Unit):=
 a_ (decide (G<(len B.l)))
 ((idx B.l G).bind λu=>
 (r (D,u)).bind λw=>
 a_ w
 (some (.n (IntKind.wrap .i64 (G+1))))
 (some (.r ())))
 (some (.x ()))
def W1 (G:Int) (B:Trace) (D:Pred) (r:(Trace×Pred)->Option Bool):Option Bool:=
 (bV (λq:Int=>bu B D q r) G).bind (Fw.elim
 (λe=>some true)
 (λe=>some false))
end fG
def fm (B:Trace) (p1:Pred) (r:(Trace×Pred)->Option Bool):Option Bool:=
 (a_ (p1.kind==2)
 ((nq B p1.proc).bind λG=>
 (a_ G
 (some (!(p1.peer==0)))
 (some true):Option Bool).bind λI=>
 (a_ I
 (some true)
 ((iB B p1.proc p1.name).bind λJ=>
 some (decide (J<0))):Option Bool).bind λL=>
 some L)
 (some false):Option Bool).bind λO=>
 a_ O
 (some false)
 ((a_ (p1.kind==3)
 ((nq B p1.proc).bind λQ=>
 (a_ Q
 (some (!(p1.peer==0)))
 (some true):Option Bool).bind λS=>
 (a_ S
 (some true)
 (some (!(ByteArray.toList p1.name==ByteArray.toList ByteArray.empty))):Option Bool).bind λT=>
 some T)
 (some false):Option Bool).bind λU=>
 a_ U
 (some false)
 ((a_ (p1.kind==4)
 ((nq B p1.proc).bind λu=>
 (a_ u
 ((nq B p1.peer).bind λw=>
 some (!w))
 (some true):Option Bool).bind λz=>
 (a_ z
 (some true)
 (some (p1.proc==p1.peer)):Option Bool).bind λA=>
 (a_ A
 (some true)
 (some (!(ByteArray.toList p1.name==ByteArray.toList ByteArray.empty))):Option Bool).bind λC=>
 some C)
 (some false):Option Bool).bind λD=>
 a_ D
 (some false)
 (fG.W1 0 B p1 r)))
open fG in
theorem yu (r:(Trace×Pred)->Option Bool) (hr:eS Sy cL 73 (λz:Trace×Pred=>[enc z.1,enc z.2]) (λr:Bool=>[.bool r]) r true) (B:Trace) (p1:Pred):Le ((fm B p1 r).bind λr=>some [.bool r]) (fQ cL 73 [enc B,enc p1]):=
 (Fc.M 73 [enc B,enc p1] (bY 2 2 B (bY 0 3 p1 (bF 10 20 [9] 29 (bp 10 9 (br 3 λQ _=>bF 2 4 [15] 19 (cF 2 15 (bl 4) (bl 4)) λS=>bF 1 8 [20] 28 (bp 1 20 (bl 8) (br 5 λT _=>bl 2)) λU=>bl 1) (bl 20)) λW=>bp 2 29 aZ (bF 10 16 [33] 49 (bp 10 33 (br 3 λX _=>bF 2 4 [39] 43 (cF 2 39 (bl 4) (bl 4)) λY=>bF 1 4 [44] 48 (bp 1 44 (bl 4) (bl 4)) λZ=>bl 1) (bl 16)) λaa=>bp 2 49 aZ (bF 10 25 [53] 78 (bp 10 53 (br 3 λC _=>bF 2 6 [59] 65 (cF 2 59 (br 3 λD _=>bl 2) (bl 6)) λG=>bF 1 6 [66] 72 (bp 1 66 (bl 6) (bl 6)) λI=>bF 1 4 [73] 77 (bp 1 73 (bl 4) (bl 4)) λJ=>bl 1) (bl 25)) λL=>bp 2 78 aZ (dS 11 (λw=>(bO [Pv 2,Pv 3,Iv 5 w] [Xb 2 B,Xb 3 p1])) (λu=>(0,(bO [] []))) (λu=>(bO [Bv 4 false] [])) (λw=>dh 7 81 (Pred.ei p1.l) (ct 0 p1.l (bp 3 83 (dh 10 88 (Pred.ei p1.l) (bG 1 λA _=>cg (F:=Fc.of (B,A) hr) 1 λO _=>cF 3 93 aZ aZ)) aZ))) (λu=>aZ) (λu=>aZ))))))):Fc Sy cL (fm B p1 r)).F.h ()
def fG (B:Trace) (p1:Pred):Option Bool:=dz (λr (z:Trace×Pred)=>fm z.1 z.2 r) 100000 (B,p1)
instance Og (B:Trace) (p1:Pred):Fc Sy cL (fG B p1):=Fc.of (B,p1) (eS.fix (A:=λz:Trace×Pred=>[enc z.1,enc z.2]) (E:=λr:Bool=>[.bool r]) (sc:=true) (b:=(λr (z:Trace×Pred)=>fm z.1 z.2 r)) (by kernel_rfl) (λ_ _=>rfl) (λr hr z=>yu r hr z.1 z.2) 100000)
def o6 (B:Pred):Option Int:=
 a_ (decide (B.kind<=8))
 (some 1)
 (some 2)
instance TW (B:Pred):Fc Sy cL (o6 B):=Fc.M 111 [enc B] (bY 2 1 B (bp 11 5 aZ aZ))
namespace fH
def J2 (i3 B:Int) (D:Pred) (r:Pred->Option Bool):Option (Fw Int Unit Unit):=
 (idx D.l i3).bind λu=>
 (o6 u).bind λw=>
 (a_ (w==B)
 ((idx D.l i3).bind λz=>
 (r z).bind λA=>
 some (!A))
 (some true):Option Bool).bind λC=>
 a_ C
 (some (.r ()))
 (some (.n (IntKind.wrap .i64 (i3+1))))
def bu (B:Pred) (i3:Int) (r:Pred->Option Bool):Option (Fw Int Unit Unit):=
 a_ (decide (i3<(len B.l)))
 (a_ (decide (B.kind>=15))
 (J2 i3 2 B r)
 (J2 i3 1 B r))
 (some (.x ()))
def W1 (i3:Int) (B:Pred) (r:Pred->Option Bool):Option Bool:=
 (bV (λq:Int=>bu B q r) i3).bind (Fw.elim
 (λe=>some true)
 (λe=>some false))
end fH
def iA (B:Pred) (r:Pred->Option Bool):Option Bool:=
 fH.W1 0 B r
open fH in
theorem Bq (r:Pred->Option Bool) (hr:eS Sy cL 74 (λz:Pred=>[enc z]) (λr:Bool=>[.bool r]) r true) (B:Pred):Le ((iA B r).bind λr=>some [.bool r]) (fQ cL 74 [enc B]):=
 (Fc.M 74 [enc B] (bY 2 1 B (dS 11 (λA=>(bO [Pv 1,Iv 3 A] [Xb 1 B])) (λu=>(0,(bO [] []))) (λu=>(bO [Bv 2 false] [])) (λA=>dh 7 7 (Pred.ei B.l) (ct 0 B.l (bp 3 9 (bp 18 14 (n_ 6 (dh 4 16 (Pred.ei B.l) (bG 1 λC _=>br 1 λD _=>bF 3 8 [23] 31 (cF 3 23 (dh 2 25 (Pred.ei B.l) (bG 1 λw _=>br (F:=Fc.of w hr) 1 λG _=>bl 2)) (bl 8)) λI=>bp 2 31 aZ aZ))) (n_ 4 (dh 4 16 (Pred.ei B.l) (bG 1 λC _=>br 1 λD _=>bF 3 8 [23] 31 (cF 3 23 (dh 2 25 (Pred.ei B.l) (bG 1 λw _=>br (F:=Fc.of w hr) 1 λG _=>bl 2)) (bl 8)) λI=>bp 2 31 aZ aZ)))) aZ))) (λu=>aZ) (λu=>aZ))):Fc Sy cL (iA B r)).F.h ()
def fH (B:Pred):Option Bool:=dz (λr (z:Pred)=>iA z r) 100000 B
instance R3 (B:Pred):Fc Sy cL (fH B):=Fc.of B (eS.fix (A:=λz:Pred=>[enc z]) (E:=λr:Bool=>[.bool r]) (sc:=true) (b:=(λr (z:Pred)=>iA z r)) (by kernel_rfl) (λ_ _=>rfl) (λr hr z=>Bq r hr z) 100000)
namespace eZ
def b9 (p1 U W:Int) (J:Sl Assign) (Y:Trace) (D B G:Int):Option (Fw (Int×Int×Int) (Int×Int) Empty):=
 a_ (decide (G<(len J)))
 ((idx J G).bind λz=>
 a_ (z.var==U)
 ((idx J G).bind λu=>
 (idx J G).bind λw=>
 some (.n ((if u.value<D then u.value else D),(if w.value>B then w.value else B),IntKind.wrap .i64 (G+1))))
 (some (.n (D,B,IntKind.wrap .i64 (G+1)))))
 (some (.x (D,B)))
def W2 (p1 Y D B G:Int) (J:Sl Assign) (U:Int) (W:Trace):Option (Fw (Int×Int×Int) (Int×Int) Empty):=
 (bV (λq:Int×Int×Int=>b9 p1 Y G J W q.1 q.2.1 q.2.2) (D,B,U)).bind (Fw.elim
 (λe=>some (.n (e.1,e.2,IntKind.wrap .i64 (G+1))))
 (λe=>Empty.elim e))
def bu (p1 U:Int) (G:Trace) (D B J:Int):Option (Fw (Int×Int×Int) (Int×Int) Empty):=
 (idx G.procs p1).bind λu=>
 a_ (decide (J<(len u.events)))
 ((idx G.procs p1).bind λw=>
 (idx w.events J).bind λz=>
 W2 p1 U D B J z.assign 0 G)
 (some (.x (D,B)))
def W1 (p1 U D B G:Int) (J:Trace):Option (Int×Int):=
 (bV (λq:Int×Int×Int=>bu p1 U J q.1 q.2.1 q.2.2) (D,B,G)).bind (Fw.elim
 (λe=>some (e.1,e.2))
 (λe=>Empty.elim e))
end eZ
def eZ (B:Trace) (p1 D:Int):Option (Int×Int):=
 (idx B.procs p1).bind λw=>
 (idx w.vars D).bind λu=>
 eZ.W1 p1 D u.init_ u.init_ 0 B
open eZ in
instance Sp (B:Trace) (p1 D:Int):Fc Sy cL (eZ B p1 D):=Fc.M 148 [enc B,.int .i64 p1,.int .i64 D] (bY 2 3 B (bG 9 λI _=>bG 3 λJ _=>jM 19 (λu=>(bO [Iv 1 p1,Iv 2 D,Pv 3,Iv 8 u.1,Iv 9 u.2.1,Iv 10 u.2.2] [Xb 3 B])) (λz=>(0,(bO [Iv 8 z.1,Iv 9 z.2] []))) (λu=>bG 8 λG _=>ct 2 G.events (bp 3 32 (bG 10 λL _=>bG 3 λC _=>jM 12 (λw=>(bO [Iv 1 p1,Iv 2 D,Pv 3,Iv 8 w.1,Iv 9 w.2.1,Iv 10 u.2.2,Cv 11 C.assign,Iv 12 w.2.2] [Xb 3 B])) (λA=>(2,(bO [Iv 1 p1,Iv 2 D,Pv 3,Iv 8 A.1,Iv 9 A.2,Iv 10 u.2.2] [Xb 3 B]))) (λw=>ct 6 C.assign (bp 3 48 (bG 9 λO _=>bp 6 57 (bG 5 λQ _=>bG 6 λS _=>aZ) aZ) aZ)) (λA=>aZ)) aZ)) (λz=>aZ)))
namespace iw
def bu (p1 G:Int) (B:Trace) (D i8:Int):Option (Fw (Int×Int) Int Empty):=
 (idx B.procs p1).bind λw=>
 a_ (decide (i8<(len w.events)))
 ((idx B.procs p1).bind λz=>
 (idx z.events i8).bind λu=>
 (a_ (u.kind==2)
 (some (u.peer==G))
 (some false):Option Bool).bind λA=>
 a_ A
 (some (.n (IntKind.wrap .i64 (D+1),IntKind.wrap .i64 (i8+1))))
 (some (.n (D,IntKind.wrap .i64 (i8+1)))))
 (some (.x D))
def W1 (p1 D G i8:Int) (B:Trace):Option Int:=
 (bV (λq:Int×Int=>bu p1 D B q.1 q.2) (G,i8)).bind (Fw.elim
 (λe=>some e)
 (λe=>Empty.elim e))
end iw
def iw (B:Trace) (p1 D:Int):Option Int:=
 iw.W1 p1 D 0 0 B
open iw in
instance TO (B:Trace) (p1 D:Int):Fc Sy cL (iw B p1 D):=Fc.M 149 [enc B,.int .i64 p1,.int .i64 D] (bY 2 3 B (jM 16 (λu=>(bO [Iv 1 p1,Iv 2 D,Pv 3,Iv 7 u.1,Iv 8 u.2] [Xb 3 B])) (λw=>(0,(bO [Iv 7 w] []))) (λu=>bG 8 λz _=>ct 2 z.events (bp 3 18 (bG 10 λC _=>bG 3 λA _=>mS 2 9 0 A (bF 8 5 [9,33] 38 (bp 8 33 (bl 5) (bl 5)) λG=>bp 2 38 aZ aZ)) aZ)) (λw=>aZ)))
namespace cA
def J1 (a0 B:Int):Option Int:=
 some (IntKind.wrap .i64 (a0*B))
end cA
def cA (a0 B:Int):Option Int:=
 (a_ (a0==0)
 (some false)
 (some (!(B==0))):Option Bool).bind λu=>
 a_ u
 ((xD .i64 1125899906842624 (if(IntKind.wrap .i64 (0-B))>B then(IntKind.wrap .i64 (0-B))else B)).bind λw=>
 a_ (decide ((if(IntKind.wrap .i64 (0-a0))>a0 then(IntKind.wrap .i64 (0-a0))else a0)>w))
 (a_ ((decide (a0<0))==(decide (B<0)))
 (some 1125899906842625)
 (some (-1125899906842625)))
 (cA.J1 a0 B))
 (cA.J1 a0 B)
open cA in
instance R_ (a0 B:Int):Fc Sy cL (cA a0 B):=Fc.M 150 [.int .i64 a0,.int .i64 B] (bF 11 3 [9] 12 (cF 11 9 (bl 3) (bl 3)) λu=>bp 2 12 (T_ 19 λw _=>bp 3 24 (cF 11 29 aZ aZ) (n_ 4 (aZ))) (n_ 4 (aZ)))
namespace bM
def J3 (D B:Int) (r:(Trace×Pred)->Option (Int×Int×Bool)):Option (Int×Int×Bool):=
 (a_ (decide (D>=(-1125899906842624)))
 (some (decide (B<=1125899906842624)))
 (some false):Option Bool).bind λu=>
 some (D,B,u)
def J2 (Y b8 c9 J:Int) (aa U:Bool) (W:Trace) (B:Pred) (r:(Trace×Pred)->Option (Int×Int×Bool)):Option (Int×Int×Bool):=
 (a_ aa
 (some (!U))
 (some true):Option Bool).bind λO=>
 a_ O
 (some (0,0,false))
 (a_ (B.kind==1)
 (bM.J3 B.n B.n r)
 (a_ (B.kind==2)
 ((iB W B.proc B.name).bind λQ=>
 (eZ W B.proc Q).bind λL=>
 bM.J3 L.1 L.2 r)
 (a_ (B.kind==3)
 ((idx W.procs B.proc).bind λS=>
 bM.J3 0 (len S.events) r)
 (a_ (B.kind==4)
 ((iw W B.proc B.peer).bind λT=>
 bM.J3 0 T r)
 (a_ (B.kind==5)
 (bM.J3 (IntKind.wrap .i64 (0-b8)) (IntKind.wrap .i64 (0-Y)) r)
 (a_ (B.kind==6)
 (bM.J3 (IntKind.wrap .i64 (Y+c9)) (IntKind.wrap .i64 (b8+J)) r)
 (a_ (B.kind==7)
 (bM.J3 (IntKind.wrap .i64 (Y-J)) (IntKind.wrap .i64 (b8-c9)) r)
 ((cA Y c9).bind λu=>
 (cA Y J).bind λw=>
 (cA b8 c9).bind λz=>
 (cA b8 J).bind λA=>
 (cA Y c9).bind λC=>
 (cA Y J).bind λD=>
 (cA b8 c9).bind λG=>
 (cA b8 J).bind λI=>
 bM.J3 (if(if A<z then A else z)<(if w<u then w else u)then(if A<z then A else z)else(if w<u then w else u)) (if(if I>G then I else G)>(if D>C then D else C)then(if I>G then I else G)else(if D>C then D else C)) r))))))))
def J1 (W Y c9 U:Int) (G B:Bool) (J:Trace) (D:Pred) (r:(Trace×Pred)->Option (Int×Int×Bool)):Option (Int×Int×Bool):=
 a_ (decide ((len D.l)>1))
 ((idx D.l 1).bind λw=>
 (r (J,w)).bind λu=>
 bM.J2 W Y u.1 u.2.1 G u.2.2 J D r)
 (bM.J2 W Y c9 U G B J D r)
theorem wW (r:(Trace×Pred)->Option (Int×Int×Bool)) (hr:eS Sy cL 112 (λz:Trace×Pred=>[enc z.1,enc z.2]) (λr:Int×Int×Bool=>[.int .i64 r.1,.int .i64 r.2.1,.bool r.2.2]) r true) (D B:Int):Le ((J3 D B r).bind (λr=>some [.int .i64 r.1,.int .i64 r.2.1,.bool r.2.2])) (cn Sy cL (mF (tr Tx 112)) (oa (tb Tx 112) [1,1,1,1,0,1,0,1,1,1,0] [] (bO [Iv 13 D,Iv 14 B] []))):=
 bF 7 3 [14,151] 154 (bp 7 151 (bl 3) (bl 3)) λu=>aZ
theorem Rk (r:(Trace×Pred)->Option (Int×Int×Bool)) (hr:eS Sy cL 112 (λz:Trace×Pred=>[enc z.1,enc z.2]) (λr:Int×Int×Bool=>[.int .i64 r.1,.int .i64 r.2.1,.bool r.2.2]) r true) (a7 b8 c9 U:Int) (Y B:Bool) (aa:Trace) (W:Pred):Le ((J2 a7 b8 c9 U Y B aa W r).bind (λr=>some [.int .i64 r.1,.int .i64 r.2.1,.bool r.2.2])) (cn Sy cL (mF (tr Tx 112)) (oa (tb Tx 112) [1,1,1,1,0,1,0] [] (bO [Pv 2,Pv 3,Iv 7 a7,Iv 8 b8,Iv 9 c9,Iv 10 U,Bv 11 Y,Bv 12 B] [Xb 2 aa,Xb 3 W]))):=
 bF 6 3 [12,45] 48 (cF 6 45 (bl 3) (bl 3)) λS=>bp 2 48 aZ (bp 17 51 (ki 11 (wW r hr W.n W.n)) (bp 8 58 (cg 10 λT _=>cg 0 λL _=>ki 8 (wW r hr L.1 L.2)) (bp 8 74 (bG 6 λO _=>ct 2 O.events (ki 4 (wW r hr 0 (len O.events)))) (bp 8 85 (br 7 λQ _=>ki 4 (wW r hr 0 Q)) (bp 8 94 (ki 11 (wW r hr (IntKind.wrap .i64 (0-b8)) (IntKind.wrap .i64 (0-a7)))) (bp 8 101 (ki 13 (wW r hr (IntKind.wrap .i64 (a7+c9)) (IntKind.wrap .i64 (b8+U)))) (bp 8 110 (ki 13 (wW r hr (IntKind.wrap .i64 (a7-U)) (IntKind.wrap .i64 (b8-c9)))) (br 5 λu _=>br 2 λw _=>br 3 λA _=>br 2 λC _=>br 8 λD _=>br 2 λG _=>br 3 λI _=>br 2 λJ _=>ki 6 (wW r hr (if(if C<A then C else A)<(if w<u then w else u)then(if C<A then C else A)else(if w<u then w else u)) (if(if J>I then J else I)>(if G>D then G else D)then(if J>I then J else I)else(if G>D then G else D)))))))))))
theorem iP (r:(Trace×Pred)->Option (Int×Int×Bool)) (hr:eS Sy cL 112 (λz:Trace×Pred=>[enc z.1,enc z.2]) (λr:Int×Int×Bool=>[.int .i64 r.1,.int .i64 r.2.1,.bool r.2.2]) r true) (W Y c9 U:Int) (G B:Bool) (J:Trace) (D:Pred):Le ((J1 W Y c9 U G B J D r).bind (λr=>some [.int .i64 r.1,.int .i64 r.2.1,.bool r.2.2])) (cn Sy cL (mF (tr Tx 112)) (oa (tb Tx 112) [1,1,1,1,0] [] (bO [Pv 2,Pv 3,Iv 7 W,Iv 8 Y,Iv 9 c9,Iv 10 U,Bv 11 G,Bv 12 B] [Xb 2 J,Xb 3 D]))):=
 dh 5 30 (Pred.ei D.l) (ct 0 D.l (bp 3 32 (dh 5 36 (Pred.ei D.l) (bG 0 λw _=>cg (F:=Fc.of (J,w) hr) 1 λu _=>ki 10 (Rk r hr W Y u.1 u.2.1 G u.2.2 J D))) (ki 4 (Rk r hr W Y c9 U G B J D))))
end bM
def fW (B:Trace) (p1:Pred) (r:(Trace×Pred)->Option (Int×Int×Bool)):Option (Int×Int×Bool):=
 a_ (decide ((len p1.l)>0))
 ((idx p1.l 0).bind λw=>
 (r (B,w)).bind λu=>
 bM.J1 u.1 u.2.1 0 0 u.2.2 true B p1 r)
 (bM.J1 0 0 0 0 true true B p1 r)
open bM in
theorem za (r:(Trace×Pred)->Option (Int×Int×Bool)) (hr:eS Sy cL 112 (λz:Trace×Pred=>[enc z.1,enc z.2]) (λr:Int×Int×Bool=>[.int .i64 r.1,.int .i64 r.2.1,.bool r.2.2]) r true) (B:Trace) (p1:Pred):Le ((fW B p1 r).bind λr=>some [.int .i64 r.1,.int .i64 r.2.1,.bool r.2.2]) (fQ cL 112 [enc B,enc p1]):=
 (Fc.M 112 [enc B,enc p1] (bY 2 2 B (bY 0 3 p1 (dh 24 16 (Pred.ei p1.l) (ct 0 p1.l (bp 3 18 (dh 5 22 (Pred.ei p1.l) (bG 0 λw _=>cg (F:=Fc.of (B,w) hr) 1 λu _=>ki 10 (iP r hr u.1 u.2.1 0 0 u.2.2 true B p1))) (ki 4 (iP r hr 0 0 0 0 true true B p1))))))):Fc Sy cL (fW B p1 r)).F.h ()
def bM (B:Trace) (p1:Pred):Option (Int×Int×Bool):=dz (λr (z:Trace×Pred)=>fW z.1 z.2 r) 100000 (B,p1)
instance Oh (B:Trace) (p1:Pred):Fc Sy cL (bM B p1):=Fc.of (B,p1) (eS.fix (A:=λz:Trace×Pred=>[enc z.1,enc z.2]) (E:=λr:Int×Int×Bool=>[.int .i64 r.1,.int .i64 r.2.1,.bool r.2.2]) (sc:=true) (b:=(λr (z:Trace×Pred)=>fW z.1 z.2 r)) (by kernel_rfl) (λ_ _=>rfl) (λr hr z=>za r hr z.1 z.2) 100000)
namespace jE
def bu (D:Trace) (B:Pred) (i8:Int) (r:(Trace×Pred)->Option Bool):Option (Fw Int Unit Unit):=
 a_ (decide (i8<(len B.l)))
 ((idx B.l i8).bind λu=>
 (r (D,u)).bind λw=>
 a_ w
 (some (.n (IntKind.wrap .i64 (i8+1))))
 (some (.r ())))
 (some (.x ()))
def W1 (i8:Int) (B:Trace) (D:Pred) (r:(Trace×Pred)->Option Bool):Option Bool:=
 (bV (λq:Int=>bu B D q r) i8).bind (Fw.elim
 (λe=>some true)
 (λe=>some false))
end jE
def ji (B:Trace) (p1:Pred) (r:(Trace×Pred)->Option Bool):Option Bool:=
 (o6 p1).bind λu=>
 a_ (u==1)
 ((bM B p1).bind λw=>
 some w.2.2)
 (jE.W1 0 B p1 r)
open jE in
theorem CA (r:(Trace×Pred)->Option Bool) (hr:eS Sy cL 75 (λz:Trace×Pred=>[enc z.1,enc z.2]) (λr:Bool=>[.bool r]) r true) (B:Trace) (p1:Pred):Le ((ji B p1 r).bind λr=>some [.bool r]) (fQ cL 75 [enc B,enc p1]):=
 (Fc.M 75 [enc B,enc p1] (bY 2 2 B (bY 0 3 p1 (br 7 λC _=>bp 3 11 (br 5 λD _=>aZ) (dS 11 (λw=>(bO [Pv 2,Pv 3,Iv 8 w] [Xb 2 B,Xb 3 p1])) (λu=>(0,(bO [] []))) (λu=>(bO [Bv 4 false] [])) (λw=>dh 7 22 (Pred.ei p1.l) (ct 0 p1.l (bp 3 24 (dh 10 29 (Pred.ei p1.l) (bG 1 λA _=>cg (F:=Fc.of (B,A) hr) 1 λG _=>cF 3 34 aZ aZ)) aZ))) (λu=>aZ) (λu=>aZ))))):Fc Sy cL (ji B p1 r)).F.h ()
def jE (B:Trace) (p1:Pred):Option Bool:=dz (λr (z:Trace×Pred)=>ji z.1 z.2 r) 100000 (B,p1)
instance TL (B:Trace) (p1:Pred):Fc Sy cL (jE B p1):=Fc.of (B,p1) (eS.fix (A:=λz:Trace×Pred=>[enc z.1,enc z.2]) (E:=λr:Bool=>[.bool r]) (sc:=true) (b:=(λr (z:Trace×Pred)=>ji z.1 z.2 r)) (by kernel_rfl) (λ_ _=>rfl) (λr hr z=>CA r hr z.1 z.2) 100000)
def pX (B:Trace) (p1:Pred):Option Int:=
 (pN B).bind λu=>
 (a_ u
 ((mJ p1).bind λw=>
 some (!w))
 (some true):Option Bool).bind λz=>
 a_ z
 (some 1)
 ((fG B p1).bind λA=>
 a_ A
 ((fH p1).bind λC=>
 a_ C
 ((jE B p1).bind λD=>
 a_ D
 (some 0)
 (some 9))
 (some 14))
 (some 13))
instance SX (B:Trace) (p1:Pred):Fc Sy cL (pX B p1):=Fc.M 48 [enc B,enc p1] (bY 2 2 B (bY 0 3 p1 (br 7 λu _=>bF 2 4 [8] 12 (cF 2 8 (br 1 λw _=>bl 2) (bl 4)) λz=>bp 2 12 aZ (br 8 λA _=>cF 3 16 (br 7 λC _=>cF 3 19 (br 8 λD _=>cF 3 23 aZ aZ) aZ) aZ))))
namespace lJ
def bu (B:Sl Int) (D:Trace) (p5:Int):Option (Fw Int Unit Unit):=
 a_ (decide (p5<(len B)))
 ((idx B p5).bind λu=>
 (a_ (decide (u<0))
 (some true)
 ((idx B p5).bind λw=>
 (idx D.procs p5).bind λz=>
 some (decide (w>(len z.events)))):Option Bool).bind λA=>
 a_ A
 (some (.r ()))
 (some (.n (IntKind.wrap .i64 (p5+1)))))
 (some (.x ()))
def W1 (B:Sl Int) (p5:Int) (D:Trace):Option Bool:=
 (bV (λq:Int=>bu B D q) p5).bind (Fw.elim
 (λe=>some true)
 (λe=>some false))
end lJ
def lJ (D:Trace) (B:Sl Int):Option Bool:=
 a_ ((len B)==(len D.procs))
 (lJ.W1 B 0 D)
 (some false)
open lJ in
instance U4 (D:Trace) (B:Sl Int):Fc Sy cL (lJ D B):=Fc.M 22 [enc D,enc B] (bY 2 2 D (ct 7 B (ct 2 D.procs (cF 3 11 (dS 11 (λw=>(bO [Cv 1 B,Pv 2,Iv 5 w] [Xb 2 D])) (λu=>(0,(bO [] []))) (λu=>(bO [Bv 4 false] [])) (λw=>ct 6 B (bp 3 15 (bG 9 λA _=>bF 3 13 [23] 36 (bp 3 23 (bl 13) (bG 2 λC _=>bG 4 λz _=>ct 2 z.events (bl 2))) λG=>bp 2 36 aZ aZ) aZ)) (λu=>aZ) (λu=>aZ)) aZ))))
namespace dD
def b9 (B:Sl Int) (p5:Int) (D:Trace) (G:Int):Option (Fw Int Unit Unit):=
 (idx B p5).bind λz=>
 a_ (decide (G<z))
 ((idx D.procs p5).bind λA=>
 (idx A.events G).bind λu=>
 a_ (u.kind==3)
 ((dL D 2 u.message).bind λw=>
 (idx B w.proc).bind λC=>
 a_ (decide (w.index>C))
 (some (.r ()))
 (some (.n (IntKind.wrap .i64 (G+1)))))
 (some (.n (IntKind.wrap .i64 (G+1)))))
 (some (.x ()))
def W2 (B:Sl Int) (p5 G:Int) (D:Trace):Option (Fw Int Unit Unit):=
 (bV (λq:Int=>b9 B p5 D q) G).bind (Fw.elim
 (λe=>some (.n (IntKind.wrap .i64 (p5+1))))
 (λe=>some (.r ())))
def bu (B:Sl Int) (D:Trace) (p5:Int):Option (Fw Int Unit Unit):=
 a_ (decide (p5<(len B)))
 (W2 B p5 0 D)
 (some (.x ()))
def W1 (B:Sl Int) (p5:Int) (D:Trace):Option Bool:=
 (bV (λq:Int=>bu B D q) p5).bind (Fw.elim
 (λe=>some true)
 (λe=>some false))
end dD
def dD (D:Trace) (B:Sl Int):Option Bool:=
 dD.W1 B 0 D
open dD in
instance Mf (D:Trace) (B:Sl Int):Fc Sy cL (dD D B):=Fc.M 23 [enc D,enc B] (bY 2 2 D (dS 11 (λu=>(bO [Cv 1 B,Pv 2,Iv 5 u] [Xb 2 D])) (λw=>(0,(bO [] []))) (λw=>(bO [Bv 4 false] [])) (λu=>ct 6 B (bp 3 12 (dS 12 (λA=>(bO [Cv 1 B,Pv 2,Iv 5 u,Iv 6 A] [Xb 2 D])) (λz=>(2,(bO [Cv 1 B,Pv 2,Iv 5 u] [Xb 2 D]))) (λz=>(bO [Bv 4 false] [])) (λA=>bG 7 λG _=>bp 4 20 (bG 10 λI _=>bG 3 λC _=>mS 2 7 0 C (bp 9 34 (br 6 λJ _=>bG 11 λL _=>bp 4 46 aZ aZ) aZ)) aZ) (λz=>aZ) (λz=>aZ)) aZ)) (λw=>aZ) (λw=>aZ)))
def tU (B:Pred):Option (Int×Int):=
 (mJ B).bind λu=>
 a_ u
 ((fH B).bind λw=>
 a_ w
 ((o6 B).bind λz=>
 some (z,0))
 (some (0,14)))
 (some (0,1))
instance TV (B:Pred):Fc Sy cL (tU B):=Fc.M 76 [enc B] (bY 2 1 B (br 8 λu _=>cF 3 6 (br 7 λw _=>cF 3 9 (br 6 λz _=>aZ) aZ) aZ))
def xC (D:Trace) (p1:Pred) (B:Int):Option Int:=
 (pX D p1).bind λu=>
 a_ (u==0)
 ((tU p1).bind λw=>
 a_ (w.1==B)
 (some 0)
 (some 14))
 (some u)
instance TN (D:Trace) (p1:Pred) (B:Int):Fc Sy cL (xC D p1 B):=Fc.M 49 [enc D,enc p1,.int .i64 B] (bY 2 3 D (bY 0 4 p1 (br 8 λu _=>cF 9 14 (br 7 λw _=>cF 14 23 aZ aZ) aZ)))
namespace eX
def bu (B:Pred) (i3:Int) (r:Pred->Option Bool):Option (Fw Int Unit Unit):=
 a_ (decide (i3<(len B.l)))
 ((idx B.l i3).bind λu=>
 (r u).bind λw=>
 a_ w
 (some (.r ()))
 (some (.n (IntKind.wrap .i64 (i3+1)))))
 (some (.x ()))
def W1 (i3:Int) (B:Pred) (r:Pred->Option Bool):Option Bool:=
 (bV (λq:Int=>bu B q r) i3).bind (Fw.elim
 (λe=>some false)
 (λe=>some true))
end eX
def fZ (B:Pred) (r:Pred->Option Bool):Option Bool:=
 (a_ (decide (B.kind>=18))
 (some (decide (B.kind<=21)))
 (some false):Option Bool).bind λu=>
 a_ u
 (some true)
 (eX.W1 0 B r)
open eX in
theorem zc (r:Pred->Option Bool) (hr:eS Sy cL 59 (λz:Pred=>[enc z]) (λr:Bool=>[.bool r]) r true) (B:Pred):Le ((fZ B r).bind λr=>some [.bool r]) (fQ cL 59 [enc B]):=
 (Fc.M 59 [enc B] (bY 2 1 B (bF 10 4 [7] 11 (bp 10 7 (bl 4) (bl 4)) λC=>bp 2 11 aZ (dS 11 (λw=>(bO [Pv 1,Iv 3 w] [Xb 1 B])) (λu=>(0,(bO [] []))) (λu=>(bO [Bv 2 true] [])) (λw=>dh 7 14 (Pred.ei B.l) (ct 0 B.l (bp 3 16 (dh 9 20 (Pred.ei B.l) (bG 1 λA _=>br (F:=Fc.of A hr) 1 λD _=>bp 2 24 aZ aZ)) aZ))) (λu=>aZ) (λu=>aZ)))):Fc Sy cL (fZ B r)).F.h ()
def eX (B:Pred):Option Bool:=dz (λr (z:Pred)=>fZ z r) 100000 B
instance Of (B:Pred):Fc Sy cL (eX B):=Fc.of B (eS.fix (A:=λz:Pred=>[enc z]) (E:=λr:Bool=>[.bool r]) (sc:=true) (b:=(λr (z:Pred)=>fZ z r)) (by kernel_rfl) (λ_ _=>rfl) (λr hr z=>zc r hr z) 100000)
def mX (B:Pred):Option Bool:=
 (mJ B).bind λu=>
 (a_ u
 ((eX B).bind λw=>
 some w)
 (some false):Option Bool).bind λz=>
 some z
instance N8 (B:Pred):Fc Sy cL (mX B):=Fc.M 25 [enc B] (bY 2 1 B (br 6 λu _=>bF 1 3 [1,5] 8 (bp 1 5 (br 1 λw _=>bl 1) (bl 3)) λz=>aZ))
def oh (D:Trace) (G:Sl Int) (p2:Pred) (B:Int):Option Int:=
 (pN D).bind λz=>
 (a_ z
 (some (!((len G)==(len D.procs))))
 (some true):Option Bool).bind λA=>
 a_ A
 (some 1)
 ((pX D p2).bind λu=>
 a_ (u==0)
 ((lJ D G).bind λC=>
 a_ C
 ((dD D G).bind λI=>
 a_ I
 ((xC D p2 B).bind λw=>
 a_ (w==0)
 ((mX p2).bind λJ=>
 a_ J
 (some 15)
 (some 0))
 (some w))
 (some 18))
 (some 2))
 (some u))
instance Si (D:Trace) (G:Sl Int) (p2:Pred) (B:Int):Fc Sy cL (oh D G p2 B):=Fc.M 15 [enc D,enc G,enc p2,.int .i64 B] (bY 2 4 D (bY 0 6 p2 (br 7 λu _=>bF 2 7 [14] 21 (cF 2 14 (ct 1 G (ct 2 D.procs (bl 2))) (bl 7)) λw=>bp 2 21 aZ (br 8 λz _=>cF 9 26 (br 8 λA _=>cF 3 31 (br 8 λC _=>cF 3 35 (br 9 λI _=>cF 9 41 (br 7 λJ _=>bp 2 44 aZ aZ) aZ) aZ) aZ) aZ))))
namespace nW
def bu (B:ByteArray) (D:Sl Var) (i8:Int):Option (Fw Int Unit Int):=
 a_ (decide (i8<(len D)))
 ((idx D i8).bind λu=>
 a_ (ByteArray.toList u.name==ByteArray.toList B)
 (some (.r i8))
 (some (.n (IntKind.wrap .i64 (i8+1)))))
 (some (.x ()))
def W1 (B:ByteArray) (D:Sl Var) (i8:Int):Option Int:=
 (bV (λq:Int=>bu B D q) i8).bind (Fw.elim
 (λe=>some (-1))
 (λe=>some e))
end nW
def nW (D:Trace) (p1:Int) (B:ByteArray):Option Int:=
 (idx D.procs p1).bind λu=>
 nW.W1 B u.vars 0
open nW in
instance Tt (D:Trace) (p1:Int) (B:ByteArray):Fc Sy cL (nW D p1 B):=Fc.M 51 [enc D,.int .i64 p1,.str B] (bY 2 3 D (bG 8 λw _=>dS 13 (λz=>(bO [(2,.v (.str B)),Cv 7 w.vars,Iv 8 z] [])) (λu=>(0,(bO [] []))) (λu=>(bO [Iv 6 u] [])) (λz=>ct 6 w.vars (bp 3 18 (bG 9 λA _=>bp 6 27 aZ aZ) aZ)) (λu=>aZ) (λu=>aZ)))
namespace nT
def b9 (p1 G U:Int) (D:Sl Assign) (J:Trace) (B:Int):Option (Fw Int Unit Int):=
 a_ (decide (B<(len D)))
 ((idx D B).bind λu=>
 a_ (u.var==G)
 ((idx D B).bind λw=>
 some (.r w.value))
 (some (.n (IntKind.wrap .i64 (B+1)))))
 (some (.x ()))
def W2 (p1 U J:Int) (B:Sl Assign) (D:Int) (G:Trace):Option (Fw Int Unit Int):=
 (bV (λq:Int=>b9 p1 U J B G q) D).bind (Fw.elim
 (λe=>some (.n (IntKind.wrap .i64 (J-1))))
 (λe=>some (.r e)))
def bu (p1 G:Int) (B:Trace) (D:Int):Option (Fw Int Unit Int):=
 a_ (decide (D>=0))
 ((idx B.procs p1).bind λu=>
 (idx u.events D).bind λw=>
 W2 p1 G D w.assign 0 B)
 (some (.x ()))
def W1 (p1 D G:Int) (B:Trace):Option Int:=
 (bV (λq:Int=>bu p1 D B q) G).bind (Fw.elim
 (λe=>(idx B.procs p1).bind λu=>
 (idx u.vars D).bind λw=>
 some w.init_)
 (λe=>some e))
end nT
def nT (B:Trace) (p1 D G:Int):Option Int:=
 nT.W1 p1 D (IntKind.wrap .i64 (G-1)) B
open nT in
instance S_ (B:Trace) (p1 D G:Int):Fc Sy cL (nT B p1 D G):=Fc.M 50 [enc B,.int .i64 p1,.int .i64 D,.int .i64 G] (bY 2 4 B (dS 13 (λu=>(bO [Iv 1 p1,Iv 2 D,Pv 4,Iv 9 u] [Xb 4 B])) (λw=>(0,(bO [Iv 1 p1,Iv 2 D,Pv 4] [Xb 4 B]))) (λw=>(bO [Iv 8 w] [])) (λu=>bp 8 15 (bG 10 λI _=>bG 3 λA _=>dS 12 (λC=>(bO [Iv 1 p1,Iv 2 D,Pv 4,Iv 9 u,Cv 10 A.assign,Iv 11 C] [Xb 4 B])) (λz=>(2,(bO [Iv 1 p1,Iv 2 D,Pv 4,Iv 9 u] [Xb 4 B]))) (λz=>(bO [Iv 8 z] [])) (λC=>ct 6 A.assign (bp 3 31 (bG 9 λJ _=>bp 6 40 (bG 5 λL _=>aZ) aZ) aZ)) (λz=>aZ) (λz=>aZ)) aZ) (λw=>bG 7 λO _=>bG 3 λQ _=>aZ) (λw=>aZ)))
namespace k7
def bu (U:Sl Int) (p2 W:Int) (G:Trace) (B:Sl Int) (D:Int):Option (Fw ((Sl Int)×Int) (Sl Int) Empty):=
 (idx U p2).bind λz=>
 a_ (decide (D<z))
 ((idx G.procs p2).bind λA=>
 (idx A.events D).bind λu=>
 (a_ (u.kind==2)
 (some (!(u.peer==W)))
 (some true):Option Bool).bind λC=>
 a_ C
 (some (.n (B,IntKind.wrap .i64 (D+1))))
 ((dL G 3 u.message).bind λw=>
 (a_ (w.index==0)
 (some true)
 ((idx U w.proc).bind λI=>
 some (decide (w.index>I))):Option Bool).bind λJ=>
 a_ J
 ((jf B (u.message:Int)).bind λL=>
 some (.n (L,IntKind.wrap .i64 (D+1))))
 (some (.n (B,IntKind.wrap .i64 (D+1))))))
 (some (.x B))
def W1 (J:Sl Int) (p2 U:Int) (B:Sl Int) (D:Int) (G:Trace):Option (Sl Int):=
 (bV (λq:(Sl Int)×Int=>bu J p2 U G q.1 q.2) (B,D)).bind (Fw.elim
 (λe=>some e)
 (λe=>Empty.elim e))
end k7
def k7 (B:Trace) (D:Sl Int) (p2 G:Int):Option (Sl Int):=
 k7.W1 D p2 G (Sl.nil:Sl Int) 0 B
open k7 in
instance Oc (B:Trace) (D:Sl Int) (p2 G:Int):Fc Sy cL (k7 B D p2 G):=Fc.N 52 [enc B,enc D,.int .i64 p2,.int .i64 G] (bY 2 4 B (jM 17 (λu=>(bO [Cv 1 D,Iv 2 p2,Iv 3 G,Pv 4,Ov 9,Iv 10 u.2] [Xb 4 B,Lb 2009 u.1])) (λw=>(0,(bO [Ov 9] [Lb 2009 w]))) (λu=>bG 8 λA _=>bp 4 18 (bG 10 λC _=>bG 3 λz _=>mS 2 11 0 z (bF 9 5 [33] 38 (cF 9 33 (bl 5) (bl 5)) λI=>bp 2 38 aZ (br 8 λJ _=>bF 10 9 [12,46] 55 (bp 10 46 (bl 9) (bG 5 λL _=>bl 3)) λO=>bp 2 55 (xB 6 2009 59 60 λQ _=>aZ) aZ))) aZ) (λw=>aZ)))
def qq (B:Trace) (D:Sl Int) (p2:Pred) (r:(Trace×(Sl Int)×Pred)->Option Int):Option Int:=
 a_ (p2.kind==1)
 (some p2.n)
 (a_ (p2.kind==2)
 ((nW B p2.proc p2.name).bind λQ=>
 (idx D p2.proc).bind λS=>
 (nT B p2.proc Q S).bind λT=>
 some T)
 (a_ (p2.kind==3)
 ((idx D p2.proc).bind λU=>
 some U)
 (a_ (p2.kind==4)
 ((k7 B D p2.proc p2.peer).bind λW=>
 some (len W))
 (a_ (p2.kind==5)
 ((idx p2.l 0).bind λX=>
 (r (B,D,X)).bind λY=>
 some (IntKind.wrap .i64 (0-Y)))
 (a_ (p2.kind==6)
 ((idx p2.l 0).bind λZ=>
 (r (B,D,Z)).bind λaa=>
 (idx p2.l 1).bind λu=>
 (r (B,D,u)).bind λw=>
 some (IntKind.wrap .i64 (aa+w)))
 (a_ (p2.kind==7)
 ((idx p2.l 0).bind λz=>
 (r (B,D,z)).bind λA=>
 (idx p2.l 1).bind λC=>
 (r (B,D,C)).bind λG=>
 some (IntKind.wrap .i64 (A-G)))
 ((idx p2.l 0).bind λI=>
 (r (B,D,I)).bind λJ=>
 (idx p2.l 1).bind λL=>
 (r (B,D,L)).bind λO=>
 some (IntKind.wrap .i64 (J*O)))))))))
theorem Bn (r:(Trace×(Sl Int)×Pred)->Option Int) (hr:eS Sy cL 16 (λz:Trace×(Sl Int)×Pred=>[enc z.1,enc z.2.1,enc z.2.2]) (λr:Int=>[.int .i64 r]) r true) (B:Trace) (D:Sl Int) (p2:Pred):Le ((qq B D p2 r).bind λr=>some [.int .i64 r]) (fQ cL 16 [enc B,enc D,enc p2]):=
 (Fc.M 16 [enc B,enc D,enc p2] (bY 2 3 B (bY 0 5 p2 (bp 17 9 aZ (bp 7 13 (cg 11 λW _=>bG 3 λX _=>cg 1 λY _=>aZ) (bp 7 30 (bG 6 λZ _=>aZ) (bp 7 37 (br 9 λI _=>ct 0 I aZ) (bp 7 47 (dh 7 52 (Pred.ei p2.l) (bG 0 λJ _=>cg (F:=Fc.of (B,D,J) hr) 1 λaa _=>aZ)) (bp 7 57 (dh 7 62 (Pred.ei p2.l) (bG 0 λL _=>cg (F:=Fc.of (B,D,L) hr) 1 λab _=>dh 4 69 (Pred.ei p2.l) (bG 0 λu _=>cg (F:=Fc.of (B,D,u) hr) 1 λO _=>aZ))) (bp 7 74 (dh 7 79 (Pred.ei p2.l) (bG 0 λw _=>cg (F:=Fc.of (B,D,w) hr) 1 λQ _=>dh 4 86 (Pred.ei p2.l) (bG 0 λA _=>cg (F:=Fc.of (B,D,A) hr) 1 λS _=>aZ))) (dh 10 94 (Pred.ei p2.l) (bG 0 λC _=>cg (F:=Fc.of (B,D,C) hr) 1 λT _=>dh 4 101 (Pred.ei p2.l) (bG 0 λG _=>cg (F:=Fc.of (B,D,G) hr) 1 λU _=>aZ)))))))))))):Fc Sy cL (qq B D p2 r)).F.h ()
def jb (B:Trace) (D:Sl Int) (p2:Pred):Option Int:=dz (λr (z:Trace×(Sl Int)×Pred)=>qq z.1 z.2.1 z.2.2 r) 100000 (B,D,p2)
instance Te (B:Trace) (D:Sl Int) (p2:Pred):Fc Sy cL (jb B D p2):=Fc.of (B,D,p2) (eS.fix (A:=λz:Trace×(Sl Int)×Pred=>[enc z.1,enc z.2.1,enc z.2.2]) (E:=λr:Int=>[.int .i64 r]) (sc:=true) (b:=(λr (z:Trace×(Sl Int)×Pred)=>qq z.1 z.2.1 z.2.2 r)) (by kernel_rfl) (λ_ _=>rfl) (λr hr z=>Bn r hr z.1 z.2.1 z.2.2) 100000)
def qi (B:Trace) (D:Sl Int) (p2:Pred) (r:(Trace×(Sl Int)×Pred)->Option Bool):Option Bool:=
 a_ (p2.kind==9)
 ((idx p2.l 0).bind λab=>
 (jb B D ab).bind λad=>
 (idx p2.l 1).bind λae=>
 (jb B D ae).bind λaf=>
 some (ad==af))
 (a_ (p2.kind==10)
 ((idx p2.l 0).bind λah=>
 (jb B D ah).bind λai=>
 (idx p2.l 1).bind λaj=>
 (jb B D aj).bind λak=>
 some (!(ai==ak)))
 (a_ (p2.kind==11)
 ((idx p2.l 0).bind λal=>
 (jb B D al).bind λu=>
 (idx p2.l 1).bind λw=>
 (jb B D w).bind λz=>
 some (decide (u<z)))
 (a_ (p2.kind==12)
 ((idx p2.l 0).bind λA=>
 (jb B D A).bind λC=>
 (idx p2.l 1).bind λG=>
 (jb B D G).bind λI=>
 some (decide (C<=I)))
 (a_ (p2.kind==13)
 (some true)
 (a_ (p2.kind==15)
 ((idx p2.l 0).bind λJ=>
 (r (B,D,J)).bind λL=>
 some (!L))
 (a_ (p2.kind==16)
 ((idx p2.l 0).bind λO=>
 (r (B,D,O)).bind λQ=>
 (a_ Q
 ((idx p2.l 1).bind λS=>
 (r (B,D,S)).bind λT=>
 some T)
 (some false):Option Bool).bind λU=>
 some U)
 (a_ (p2.kind==17)
 ((idx p2.l 0).bind λW=>
 (r (B,D,W)).bind λX=>
 (a_ X
 (some true)
 ((idx p2.l 1).bind λY=>
 (r (B,D,Y)).bind λZ=>
 some Z):Option Bool).bind λaa=>
 some aa)
 (some false))))))))
theorem Bp (r:(Trace×(Sl Int)×Pred)->Option Bool) (hr:eS Sy cL 17 (λz:Trace×(Sl Int)×Pred=>[enc z.1,enc z.2.1,enc z.2.2]) (λr:Bool=>[.bool r]) r true) (B:Trace) (D:Sl Int) (p2:Pred):Le ((qi B D p2 r).bind λr=>some [.bool r]) (fQ cL 17 [enc B,enc D,enc p2]):=
 (Fc.M 17 [enc B,enc D,enc p2] (bY 2 3 B (bY 0 5 p2 (bp 17 9 (dh 7 14 (Pred.ei p2.l) (bG 0 λad _=>cg 1 λae _=>dh 4 21 (Pred.ei p2.l) (bG 0 λaf _=>cg 1 λah _=>aZ))) (bp 7 26 (dh 7 31 (Pred.ei p2.l) (bG 0 λai _=>cg 1 λaj _=>dh 4 38 (Pred.ei p2.l) (bG 0 λak _=>cg 1 λal _=>aZ))) (bp 7 43 (dh 7 48 (Pred.ei p2.l) (bG 0 λam _=>cg 1 λL _=>dh 4 55 (Pred.ei p2.l) (bG 0 λO _=>cg 1 λQ _=>aZ))) (bp 7 60 (dh 7 65 (Pred.ei p2.l) (bG 0 λS _=>cg 1 λT _=>dh 4 72 (Pred.ei p2.l) (bG 0 λU _=>cg 1 λW _=>aZ))) (bp 7 77 aZ (bp 7 79 (dh 7 84 (Pred.ei p2.l) (bG 0 λA _=>cg (F:=Fc.of (B,D,A) hr) 1 λX _=>aZ)) (bp 7 89 (dh 7 94 (Pred.ei p2.l) (bG 0 λC _=>cg (F:=Fc.of (B,D,C) hr) 1 λY _=>AY 1 8 [105,97] (λu=>(bO [Iv 8 p2.kind,Bv 9 false,Bv 26 false,Bv 43 false,Bv 60 false,Bv 77 false,Bv 79 false,Bv 89 true,Bv 106 u] [Xb 3 B,Xb 5 p2])) (bp 1 98 (dh 4 102 (Pred.ei p2.l) (bG 0 λG _=>cg (F:=Fc.of (B,D,G) hr) 1 λZ _=>bl 1)) (bl 8)) λu=>aZ)) (bp 7 107 (dh 7 112 (Pred.ei p2.l) (bG 0 λI _=>cg (F:=Fc.of (B,D,I) hr) 1 λaa _=>AY 1 8 [123,115] (λw=>(bO [Bv 9 false,Bv 26 false,Bv 43 false,Bv 60 false,Bv 77 false,Bv 79 false,Bv 89 false,Bv 107 true,Bv 124 w] [Xb 3 B,Xb 5 p2])) (bp 1 116 (bl 8) (dh 4 120 (Pred.ei p2.l) (bG 0 λJ _=>cg (F:=Fc.of (B,D,J) hr) 1 λab _=>bl 1))) λw=>aZ)) aZ)))))))))):Fc Sy cL (qi B D p2 r)).F.h ()
def AB (B:Trace) (D:Sl Int) (p2:Pred):Option Bool:=dz (λr (z:Trace×(Sl Int)×Pred)=>qi z.1 z.2.1 z.2.2 r) 100000 (B,D,p2)
instance S3 (B:Trace) (D:Sl Int) (p2:Pred):Fc Sy cL (AB B D p2):=Fc.of (B,D,p2) (eS.fix (A:=λz:Trace×(Sl Int)×Pred=>[enc z.1,enc z.2.1,enc z.2.2]) (E:=λr:Bool=>[.bool r]) (sc:=true) (b:=(λr (z:Trace×(Sl Int)×Pred)=>qi z.1 z.2.1 z.2.2 r)) (by kernel_rfl) (λ_ _=>rfl) (λr hr z=>Bp r hr z.1 z.2.1 z.2.2) 100000)
namespace iX
def J1 (G:Sl Int) (y9:Bool) (f10:Int) (B:Trace) (D:Pred):Option Bool:=
 (oh B G D 2).bind λu=>
 a_ (u==0)
 ((a_ (f10==0)
 ((AB B G D).bind λw=>
 some (y9==w))
 (some false):Option Bool).bind λz=>
 some z)
 ((a_ (f10==u)
 (some (!y9))
 (some false):Option Bool).bind λA=>
 some A)
end iX
def iX (B:Trace) (D:Sl Int) (p2:Pred):Option Bool:=
 (sO).bind λG=>
 a_ G
 ((sR B).bind λI=>
 (a_ I
 (some true)
 ((qQ p2).bind λJ=>
 some J):Option Bool).bind λL=>
 (a_ L
 (some true)
 (some (decide ((len D)>20))):Option Bool).bind λO=>
 a_ O
 (some true)
 ((sU B D p2).bind λu=>
 (zp B D p2).bind λw=>
 (oh B D p2 1).bind λz=>
 a_ (z==0)
 ((a_ (u.2==0)
 ((jb B D p2).bind λQ=>
 some (!(u.1==Q)))
 (some true):Option Bool).bind λA=>
 a_ A
 (some false)
 (iX.J1 D w.1 w.2 B p2))
 ((a_ (u.2==z)
 (some (!(u.1==0)))
 (some true):Option Bool).bind λC=>
 a_ C
 (some false)
 (iX.J1 D w.1 w.2 B p2))))
 (some false)
open iX in
instance Ki (B:Trace) (D:Sl Int) (p2:Pred):Fc Sy cL (iX B D p2):=Fc.M 3 [enc B,enc D,enc p2] (bY 2 3 B (bY 0 5 p2 (br 6 λI _=>cF 3 14 (br 7 λJ _=>bF 1 3 [17] 20 (bp 1 17 (bl 3) (br 1 λL _=>bl 1)) λO=>bF 1 4 [21] 25 (bp 1 21 (bl 4) (ct 1 D (bl 2))) λQ=>bp 2 25 aZ (br 8 λS _=>br 12 λT _=>br 13 λU _=>cF 9 45 (bF 6 7 [7,55] 62 (cF 6 55 (br 4 λW _=>bl 2) (bl 7)) λC=>bp 2 62 aZ (n_ 4 (br 6 λu _=>cF 9 68 (bF 8 7 [1,3,5,9,78] 85 (bp 8 78 (br 4 λw _=>bl 2) (bl 7)) λz=>aZ) (bF 7 3 [9,72] 75 (bp 7 72 (bl 3) (bl 3)) λA=>aZ)))) (bF 7 3 [7,49] 52 (cF 7 49 (bl 3) (bl 3)) λG=>bp 2 52 aZ (n_ 4 (br 6 λu _=>cF 9 68 (bF 8 7 [1,3,5,9,78] 85 (bp 8 78 (br 4 λw _=>bl 2) (bl 7)) λz=>aZ) (bF 7 3 [9,72] 75 (bp 7 72 (bl 3) (bl 3)) λA=>aZ)))))) aZ)))
def me (B:Trace) (p1:Pred):Option (Int×Int×Int):=
 (kA B p1).bind λu=>
 a_ (u==0)
 ((jH p1.kind).bind λz=>
 a_ (z==1)
 ((cD B p1).bind λw=>
 some (w.1.low,w.1.high,0))
 (some (0,0,14)))
 (some (0,0,u))
instance P6 (B:Trace) (p1:Pred):Fc Sy cL (me B p1):=Fc.M 24 [enc B,enc p1] (bY 2 2 B (bY 0 3 p1 (br 10 λu _=>cF 9 14 (br 8 λw _=>cF 3 19 (br 7 λz _=>aZ) aZ) aZ)))
def kZ (B:Trace) (U:Sl Int) (p2:Pred):Option Bool:=
 (sO).bind λC=>
 a_ C
 ((sR B).bind λD=>
 (a_ D
 (some true)
 ((qQ p2).bind λG=>
 some G):Option Bool).bind λI=>
 (a_ I
 (some true)
 (some (decide ((len U)>20))):Option Bool).bind λJ=>
 a_ J
 (some true)
 ((sU B U p2).bind λu=>
 (me B p2).bind λw=>
 a_ (u.2==0)
 ((a_ (w.2.2==0)
 (some (decide (w.1<=u.1)))
 (some false):Option Bool).bind λL=>
 (a_ L
 (some (decide (u.1<=w.2.1)))
 (some false):Option Bool).bind λO=>
 (a_ O
 ((mX p2).bind λz=>
 some (!z))
 (some false):Option Bool).bind λA=>
 some A)
 (some (u.1==0))))
 (some false)
instance wE (B:Trace) (D:Sl Int) (p2:Pred):Fc Sy cL (kZ B D p2):=Fc.M 6 [enc B,enc D,enc p2] (bY 2 3 B (bY 0 5 p2 (br 6 λz _=>cF 3 13 (br 7 λA _=>bF 1 3 [16] 19 (bp 1 16 (bl 3) (br 1 λC _=>bl 1)) λG=>bF 1 4 [20] 24 (bp 1 20 (bl 4) (ct 1 D (bl 2))) λI=>bp 2 24 aZ (br 8 λJ _=>br 11 λL _=>cF 16 40 (bF 8 4 [9,45] 49 (bp 8 45 (bl 4) (bl 4)) λO=>bF 1 4 [7,10,50] 54 (bp 1 50 (bl 4) (bl 4)) λQ=>bF 1 4 [5,55] 59 (bp 1 55 (br 1 λu _=>bl 2) (bl 4)) λw=>aZ) aZ)) aZ)))
end
end Go.VE
