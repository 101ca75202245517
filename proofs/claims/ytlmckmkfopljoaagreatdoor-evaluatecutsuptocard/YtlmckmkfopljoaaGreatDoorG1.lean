/-
 Each function of the program that the law reaches: its plain form, and that it comes to that.
-/
import Derived.Test.YtlmckmkfopljoaaGreatDoorK1
import Derived.Test.YtlmckmkfopljoaaGreatDoorT1
set_option linter.all false
namespace Go.VE
structure Pred where
 kind:Int
 n:Int
 proc:Int
 peer:Int
 name:ByteArray
 l:Sl Pred
mutual
def Pred.Q_:Pred->List V
 | ⟨f0,f1,f2,f3,B,f5⟩=>[.int .i64 f0,.int .i64 f1,.int .i64 f2,.int .i64 f3,.str B,Pred.EL f5]
def Pred.EL:Sl Pred->V
 | .nil=>.bX
 | .emp=>.dA
 | .row l=>.fsl 6 (Pred.Dt l)
 | .part l=>.fsl 6 (Pred.Dt l)
def Pred.Dt:List Pred->List (List V)
 | []=>[]
 | x::r=>Pred.Q_ x::Pred.Dt r
end
instance:Inhabited Pred:=⟨⟨default,default,default,default,default,Sl.nil⟩⟩
mutual
theorem Pred.Sj:∀x:Pred,V.cG x.Q_=true
 | ⟨f0,f1,f2,f3,B,f5⟩=>by simp only[Pred.Q_,V.cG,V.good,Pred.HH,Bool.and_self]
theorem Pred.HH:∀x:Sl Pred,V.good (Pred.EL x)=true
 | .nil=>rfl
 | .emp=>rfl
 | .row l=>by simp only[Pred.EL,V.good,Pred.BK]
 | .part l=>by simp only[Pred.EL,V.good,Pred.BK]
theorem Pred.BK:∀x:List Pred,V.mX (Pred.Dt x)=true
 | []=>rfl
 | x::r=>by simp only[Pred.Dt,V.mX,Pred.Sj,Pred.BK,Bool.and_self]
end
theorem Pred.Se (s:Sl Pred):V.one (Pred.EL s)=true:=by cases s <;> simp[Pred.EL,V.one]
instance:bB Pred where
 cells x:=[.int .i64 x.kind,.int .i64 x.n,.int .i64 x.proc,.int .i64 x.peer,.str x.name,Pred.EL x.l]
 agg:=true
 size:=6
 len _:=rfl
 good x:=by simp only[V.cG,V.good,Pred.HH,Bool.and_self]
 one x:=by simp only[List.all_cons,List.all_nil,qy,oK,qq,Pred.Se,Bool.and_self]
 plain h:=by cases h
theorem Pred.MK (x:Pred):Pred.Q_ x=cells x:=by cases x;rfl
theorem Pred.B8:∀l:List Pred,Pred.Dt l=rows l
 | []=>rfl
 | x::r=>by rw[Pred.Dt,Pred.B8 r,Pred.MK];rfl
theorem Pred.ec (s:Sl Pred):Pred.EL s=enc s:=by
 cases s with
 | nil=>rfl
 | emp=>rfl
 | row l=>show V.fsl 6 (Pred.Dt l)=V.fsl 6 (rows l);rw[Pred.B8]
 | part l=>show V.fsl 6 (Pred.Dt l)=V.fsl 6 (rows l);rw[Pred.B8]
structure Var where
 name:ByteArray
 init_:Int
 deriving Inhabited
instance:bB Var where
 cells x:=[.str x.name,.int .i64 x.init_]
 agg:=true
 size:=2
 len _:=rfl
 good x:=by simp only[V.cG,V.good,mA,Bool.and_self]
 one x:=by simp only[List.all_cons,List.all_nil,qy,oK,qq,pX,Bool.and_self]
 plain h:=by cases h
structure Assign where
 var:Int
 value:Int
 deriving Inhabited
instance:bB Assign where
 cells x:=[.int .i64 x.var,.int .i64 x.value]
 agg:=true
 size:=2
 len _:=rfl
 good x:=by simp only[V.cG,V.good,mA,Bool.and_self]
 one x:=by simp only[List.all_cons,List.all_nil,qy,oK,qq,pX,Bool.and_self]
 plain h:=by cases h
structure Event where
 kind:Int
 peer:Int
 message:Int
 time:Int
 assign:Sl Assign
 deriving Inhabited
instance:bB Event where
 cells x:=[.int .i64 x.kind,.int .i64 x.peer,.int .i64 x.message,.int .i64 x.time,enc x.assign]
 agg:=true
 size:=5
 len _:=rfl
 good x:=by simp only[V.cG,V.good,mA,Bool.and_self]
 one x:=by simp only[List.all_cons,List.all_nil,qy,oK,qq,pX,Bool.and_self]
 plain h:=by cases h
structure bT where
 name:ByteArray
 vars:Sl Var
 events:Sl Event
 deriving Inhabited
instance:bB bT where
 cells x:=[.str x.name,enc x.vars,enc x.events]
 agg:=true
 size:=3
 len _:=rfl
 good x:=by simp only[V.cG,V.good,mA,Bool.and_self]
 one x:=by simp only[List.all_cons,List.all_nil,qy,oK,qq,pX,Bool.and_self]
 plain h:=by cases h
structure Trace where
 procs:Sl bT
 deriving Inhabited
instance:bB Trace where
 cells x:=[enc x.procs]
 agg:=true
 size:=1
 len _:=rfl
 good x:=by simp only[V.cG,V.good,mA,Bool.and_self]
 one x:=by simp only[List.all_cons,List.all_nil,qy,oK,qq,pX,Bool.and_self]
 plain h:=by cases h
structure bL where
 from_:aY
 to_:aY
 deriving Inhabited
instance:bB bL where
 cells x:=[.int .i64 x.from_.proc,.int .i64 x.from_.index,.int .i64 x.to_.proc,.int .i64 x.to_.index]
 agg:=true
 size:=4
 len _:=rfl
 good x:=by simp only[V.cG,V.good,mA,Bool.and_self]
 one x:=by simp only[List.all_cons,List.all_nil,qy,oK,qq,pX,Bool.and_self]
 plain h:=by cases h
structure bS where
 low:Int
 high:Int
 deriving Inhabited
instance:bB bS where
 cells x:=[.int .i64 x.low,.int .i64 x.high]
 agg:=true
 size:=2
 len _:=rfl
 good x:=by simp only[V.cG,V.good,mA,Bool.and_self]
 one x:=by simp only[List.all_cons,List.all_nil,qy,oK,qq,pX,Bool.and_self]
 plain h:=by cases h
structure bC where
 t:Trace
 counts:Sl Int
 values:Sl (Sl Int)
 deriving Inhabited
instance:bB bC where
 cells x:=[enc x.t.procs,enc x.counts,enc x.values]
 agg:=true
 size:=3
 len _:=rfl
 good x:=by simp only[V.cG,V.good,mA,Bool.and_self]
 one x:=by simp only[List.all_cons,List.all_nil,qy,oK,qq,pX,Bool.and_self]
 plain h:=by cases h
def iH (p:Int):Int->List Event->List (aY×Event)
 | _,[]=>[]
 | j,e::r=>(⟨p,j+1⟩,e)::iH p (j+1) r
def fI:Int->List bT->List (aY×Event)
 | _,[]=>[]
 | i,p::r=>iH i 0 p.events.l++fI (i+1) r
def oE (n:Nat):Bool:=decide (n<9223372036854775807)
def jh (t:Trace):Option (List (aY×Event)):=
 if oE t.procs.l.length&&t.procs.l.all λp=>oE p.events.l.length then some (fI 0 t.procs.l)else none
def wP:cC 22 Int:=⟨Go.Proofs.YtlmckmkfopljoaaGreatDoor.CT,rfl⟩
end Go.VE
namespace Go.VE
def Ku:List (Nat×GD):=[
 (66,⟨0x22226260002000201,[],[(6,[.keep [0,1,7,8] []],[.keep [0,1,7,8] []]),(12,[.keep [] []],[]),(22,[.keep [4] []],[]),(27,[.keep [4] []],[])]⟩),
 (40,⟨0x226221,[],[]⟩),
 (67,⟨0x22226260002000201,[],[(6,[.keep [0,1,7,8] []],[.keep [0,1,7,8] []]),(12,[.keep [] []],[]),(22,[.keep [4] []],[]),(27,[.keep [4] []],[])]⟩),
 (42,⟨0x226221,[],[]⟩),
 (43,⟨0x2222212,[],[]⟩),
 (41,⟨0x264442644402222012,[],[]⟩),
 (11,⟨0x264442222012,[],[]⟩),
 (44,⟨0x222000ff2026020064026220000202202,[],[(10,[.keep [1,2,3,4] [4,9001,9002]],[]),(13,[.keep [1,2,3,4,6] [4,9001,9002]],[.keep [1,2,3,4,6] [4,9001,9002]]),(19,[.keep [] [9001,9002]],[])]⟩),
 (12,⟨0x2227222000012,[(5,[.canon (.s 3) 9001 0,.canon (.s 4) 9002 0])],[]⟩),
 (153,⟨0x26c4426201,[],[]⟩),
 (197,⟨0x26c4444026402201,[],[]⟩),
 (198,⟨0x26442201,[],[]⟩),
 (181,⟨0x22064c402644c00222600200020064440264402201,[],[(8,[.keep [2] []],[]),(14,[.keep [0,18,19] []],[.keep [0,18,19] []]),(20,[.keep [] []],[]),(30,[.keep [2] []],[]),(35,[.keep [2] []],[])]⟩),
 (182,⟨0x26222212,[],[]⟩),
 (183,⟨0x26222212,[],[]⟩),
 (106,⟨0x22226260002000201,[],[(6,[.keep [0,1,7,8] []],[.keep [0,1,7,8] []]),(12,[.keep [] []],[]),(22,[.keep [4] []],[]),(27,[.keep [4] []],[])]⟩),
 (161,⟨0x226221,[],[]⟩),
 (154,⟨0x222222022222026c0c4402222022020000020022220026c0c44422220202602012,[],[(11,[.keep [4] []],[]),(17,[.keep [4] []],[]),(23,[.keep [5,32,33,34] [5]],[.keep [5,32,33,34] [5]]),(29,[.keep [5] [5]],[]),(40,[.keep [4] []],[]),(46,[.keep [4] []],[]),(55,[.keep [4] []],[]),(59,[.keep [4] []],[])]⟩),
 (155,⟨0x2212,[],[]⟩),
 (185,⟨0x2644426c4402622222022202644422202020122,[],[(18,[.keep [1,3,5,19] [3,5]],[])]⟩),
 (187,⟨0x26222212,[],[]⟩),
 (199,⟨0x22226260002000201,[],[(6,[.keep [0,1,7,8] []],[.keep [0,1,7,8] []]),(12,[.keep [] []],[]),(22,[.keep [4] []],[]),(27,[.keep [4] []],[])]⟩),
 (186,⟨0x226221,[],[]⟩),
 (156,⟨0x2202626220026444022622202022020000020022220026c44022220022e02222226220202200202620201222,[],[(12,[.keep [3,4,5,7,8] [3,4,5,7]],[]),(19,[.keep [6] []],[]),(25,[.keep [6] []],[]),(31,[.keep [6] []],[]),(37,[.keep [5,7,52,53,54] [5,7]],[.keep [5,7,52,53,54] [5,7]]),(43,[.keep [] []],[]),(54,[.keep [6] []],[]),(60,[.keep [6] []],[]),(65,[.keep [6] []],[])]⟩),
 (200,⟨0x26c44426c440222012,[],[]⟩),
 (188,⟨0x2662262221222,[],[]⟩),
 (157,⟨0x2202326222002202001ef200220022022226200223262220022022226200202022020202020200002,[],[(8,[.keep [1,2,3,4,5,12] [1,2,3,4,5,10]],[.keep [] [1,2,3,4,5,10]]),(27,[.keep [] [1,2,3,4,5,10]],[]),(39,[.keep [] [1,2,3,4,5,10]],[]),(47,[.keep [] [1,2,3,4,5,10]],[]),(53,[.keep [2,3,4] [2,3,4,10]],[])]⟩),
 (189,⟨0x222622262222264444c4400222020262222262622020262020222620220122,[],[(12,[.canon (.s 7) 2007 2,.keep [1,5,7,8] [5,2007]],[])]⟩),
 (158,⟨0x20222622230026000226002020000e200262220202622002202202020200022,[],[(6,[.keep [2,3,4,5,13] [2,3,4,5]],[.keep [] [2,3,4,5]]),(14,[.canon (.s 8) 2008 2,.keep [2,3,4,5,6,7,8,13] [2,3,4,5,6,16,2008]],[.canon (.s 8) 2008 2,.keep [2,3,4,5,6,7,8,13] [2,3,4,5,6,16,2008]]),(20,[.keep [2,3,4,5,13] [2,3,4,5]],[]),(29,[.canon (.s 8) 2008 2,.keep [2,3,4,5,6,7,8,13,36,37,38] [2,3,4,5,6,16,2008]],[.canon (.s 8) 2008 2,.keep [2,3,4,5,6,7,8,13,36,37,38] [2,3,4,5,6,16,2008]]),(35,[.canon (.s 8) 2008 2,.keep [2,3,4,5,6,7,8,13] [2,3,4,5,6,16,2008]],[]),(46,[.keep [] [2,3,4,5]],[]),(58,[.keep [4,5] [4,5]],[])]⟩),
 (117,⟨0x20022222020262222222022202002202222202e2002020202222222202600200022002022220002,[],[(8,[.keep [2,3] [2,3]],[]),(14,[.keep [1,2,3,22,23] [1,2,3]],[.keep [1,2,3,22,23] [1,2,3]]),(20,[.keep [1,2,3] [1,2,3]],[]),(32,[.keep [2,3] [2,3]],[]),(39,[.keep [1,2,3,36] [1,2,3]],[.keep [] [1,2,3]]),(51,[.keep [] [1,2,3]],[]),(61,[.keep [2,3] [2,3]],[]),(71,[.keep [2,3] [2,3]],[]),(75,[.keep [2,3] [2,3]],[])]⟩),
 (82,⟨0x2222302022212,[],[]⟩),
 (159,⟨0x264426402201,[],[]⟩),
 (119,⟨0x26c4444c4404440222006c4404440264402644026c444044026440222012,[],[]⟩),
 (121,⟨0x22e222212,[],[]⟩),
 (120,⟨0x226221,[],[]⟩),
 (160,⟨0x22226260002000201,[],[(6,[.drop [2,3,4,5,6,9,10,11,12,13,14,15,16,17,18]],[.drop [2,3,4,5,6,9,10,11,12,13,14,15,16,17,18]]),(12,[.drop [0,1,2,3,4,5,6,7,8,9,10,11,12,13,14,15,16,17,18]],[]),(22,[.drop [0,1,2,3,5,6,7,8,9,10,11,12,13,14,15,16,17,18]],[]),(27,[.drop [0,1,2,3,5,6,7,8,9,10,11,12,13,14,15,16,17,18]],[])]⟩),
 (118,⟨0x226622064402640222220122,[(20,[.closeB 5])],[]⟩),
 (83,⟨0x26222200012,[(5,[.canon (.s 3) 9004 0,.canon (.s 4) 9003 0])],[]⟩),
 (123,⟨0x26c444422012,[],[]⟩),
 (162,⟨0x2622212,[],[]⟩),
 (124,⟨0x262226222122,[],[]⟩),
 (122,⟨0x2644426c404026c40426200222644426440262022026001cf444042644026200202012,[],[]⟩),
 (146,⟨0x2262212,[],[]⟩),
 (103,⟨0x264c4442600122,[(10,[.closeB 3])],[]⟩),
 (84,⟨0x2622122,[],[]⟩),
 (56,⟨0x221,[],[]⟩),
 (127,⟨0x221,[],[]⟩),
 (126,⟨0x2622222212,[],[]⟩),
 (125,⟨0x22622012,[(5,[.closeB 1])],[]⟩),
 (85,⟨0x22212,[],[]⟩),
 (131,⟨0x222222626002620002220012201,[],[(8,[.keep [0] []],[]),(14,[.keep [0,3,4] []],[.keep [0,3,4] []]),(20,[.keep [3] []],[])]⟩),
 (132,⟨0x222222626002620002220012201,[],[(8,[.keep [0] []],[]),(14,[.keep [0,3,4] []],[.keep [0,3,4] []]),(20,[.keep [3] []],[])]⟩),
 (89,⟨0x2622200,[],[]⟩),
 (129,⟨0x22222226c04422202020000226222012,[],[(8,[.keep [2,7,15,16,17] []],[.keep [2,7,15,16,17] []]),(14,[.keep [7] []],[])]⟩),
 (201,⟨0x2622212,[],[]⟩),
 (190,⟨0x26222122,[],[]⟩),
 (163,⟨0x220020262262220026c4400220002220112,[],[]⟩),
 (168,⟨0x26200201,[],[(8,[.canon (.s 2) 4004 1],[]),(12,[.canon (.s 2) 4004 1],[])]⟩),
 (179,⟨0x222e202202236222002020000222202000002226200222622222020000200,[(21,[.closeS (.s 25)]),(57,[.closeS (.s 54)])],[(6,[.canon (.s 3) 2003 1,.keep [0,1,3,11,12,13] [2003]],[.canon (.s 3) 2003 1,.keep [0,1,3,11,12,13] [2003]]),(12,[.canon (.s 3) 2003 1,.keep [0,1,3] [2003]],[]),(23,[.keep [] []],[]),(28,[.canon (.s 3) 2003 1,.keep [0,3,29,30,31] [2003]],[.canon (.s 3) 2003 1,.keep [0,3,29,30,31] [2003]]),(34,[.keep [] []],[]),(43,[.canon (.s 3) 2003 1,.keep [0,3,6,29,30,31,37,38,39] [2003]],[.canon (.s 3) 2003 1,.keep [0,3,6,29,30,31,37,38,39] [2003]]),(49,[.canon (.s 3) 2003 1,.keep [0,3,6,29,30,31] [2003]],[]),(59,[.keep [] []],[])]⟩),
 (145,⟨0x2212,[],[]⟩),
 (164,⟨0x22262260202220122,[],[(8,[.canon (.c 5 0) 4100 1,.keep [3,5,9] [3,5,4100]],[.canon (.c 5 0) 4100 1,.keep [] [3,5,4100]])]⟩),
 (130,⟨0x2222202622622220022022202e2001112,[],[]⟩),
 (87,⟨0x26223222002e2220222e2220222222226222220222222020022,[],[]⟩),
 (88,⟨0x26444222012,[],[]⟩),
 (133,⟨0x262201,[],[]⟩),
 (90,⟨0x22222622220622020260006402201,[],[]⟩),
 (57,⟨0x22222022001ef622226202062020620202662222620202226622226202020262222202022002064422222202622202222002002202026222002222202062222201022,[],[(22,[.keep [3,4,7,8,9,10] [3,4,7,9]],[]),(49,[.keep [4,11] [4,11]],[])]⟩),
 (128,⟨0x2262212,[],[]⟩),
 (86,⟨0x226222222302026222220122,[(21,[.closeB 2])],[]⟩),
 (55,⟨0x22622022200226000264402220122,[],[]⟩),
 (195,⟨0x26222221,[],[]⟩),
 (213,⟨0x22226260002000201,[],[(6,[.keep [0,1,7,8] []],[.keep [0,1,7,8] []]),(12,[.keep [] []],[]),(22,[.keep [4] []],[]),(27,[.keep [4] []],[])]⟩),
 (194,⟨0x226221,[],[]⟩),
 (175,⟨0x264c4422012,[],[]⟩),
 (176,⟨0x2206c444c440422022200000212,[],[(6,[.keep [2,7,8,9] [2]],[.keep [2,7,8,9] [2]]),(12,[.keep [] []],[]),(22,[.keep [4] []],[]),(27,[.keep [4] []],[])]⟩),
 (177,⟨0x26c444422012,[],[]⟩),
 (180,⟨0x200226c0442602020202202022000222,[],[(8,[.keep [6,7] [6,7]],[]),(14,[.keep [4,5,6,7,15] [4,5,6,7]],[.keep [] [4,5,6,7]]),(24,[.keep [] [4,5,6,7]],[]),(28,[.keep [6,7] [6,7]],[])]⟩),
 (166,⟨0x2220622102,[],[]⟩),
 (196,⟨0x2200222202262222626200203202026220220220200000622260202220000001002,[],[(6,[.keep [1,2,4,5,13,14,15] [2,4,5]],[.keep [1,2,4,5,13,14,15] [2,4,5]]),(12,[.keep [4,5] [4,5]],[]),(20,[.keep [1,2,4,5,7,13,14,15,27,28,29] [2,4,5]],[.keep [1,2,4,5,7,13,14,15,27,28,29] [2,4,5]]),(26,[.keep [1,2,4,5,13,14,15] [2,4,5]],[]),(44,[.keep [4,5,6] [4,5]],[]),(50,[.keep [4,5,6] [4,5]],[])]⟩),
 (178,⟨0x22223300200262212,[],[]⟩),
 (144,⟨0x2202620220000222026202200002220262022000000260012,[],[(8,[.keep [6] []],[]),(14,[.keep [1,2,3,17,18,19] [3]],[.keep [1,2,3,17,18,19] [3]]),(20,[.keep [1,2,3] [3]],[]),(30,[.keep [6] []],[]),(37,[.keep [1,3,28,29,30] [3]],[.keep [1,3,28,29,30] [3]]),(43,[.keep [1,3] [3]],[]),(53,[.keep [6] []],[]),(60,[.keep [3,39,40,41] [3]],[.keep [3,39,40,41] [3]]),(66,[.keep [] []],[]),(76,[.keep [6] []],[]),(81,[.keep [6] []],[])]⟩),
 (100,⟨0x222226262222022200000202022026202112,[],[(18,[.canon (.s 7) 2007 2,.keep [7,17,18,19] [2007]],[.canon (.s 7) 2007 2,.keep [7,17,18,19] [2007]]),(24,[.canon (.s 7) 2007 2,.keep [7] [2007]],[])]⟩),
 (101,⟨0x226022222022,[],[(6,[.keep [3,4,8] [3,4]],[.keep [] [3,4]]),(16,[.keep [] [3,4]],[]),(20,[.keep [4] [4]],[])]⟩),
 (68,⟨0x22222626226220222200000202022023202600112,[],[(18,[.canon (.s 8) 2008 1,.keep [2,8,20,21,22] [2,2008]],[.canon (.s 8) 2008 1,.keep [2,8,20,21,22] [2,2008]]),(24,[.canon (.s 8) 2008 1,.keep [8] [2008]],[])]⟩),
 (102,⟨0x2222002220002220112,[],[]⟩),
 (69,⟨0x6c44222222022212,[],[]⟩),
 (105,⟨0x26442201,[],[]⟩),
 (104,⟨0x2222212,[],[]⟩),
 (70,⟨0x2644422012,[],[]⟩),
 (45,⟨0x222e222064422026202220202220260022202006c4404022026001022,[],[(10,[.keep [1,3,4,6,8,10] [4,6,8]],[]),(36,[.keep [1,4,8,10,11] [4,8]],[])]⟩),
 (107,⟨0x26222212,[],[]⟩),
 (71,⟨0x226226222226022620220122,[],[]⟩),
 (147,⟨0x2220622102,[],[]⟩),
 (108,⟨0x22222622226c4c4404022222020262006c04022202020000626202260200202202e600200112,[],[(18,[.canon (.s 11) 2011 1,.keep [1,3,4,11,36,37,38] [4,2011]],[.canon (.s 11) 2011 1,.keep [1,3,4,11,36,37,38] [4,2011]]),(24,[.canon (.s 11) 2011 1,.keep [11] [2011]],[])]⟩),
 (72,⟨0x22232202001ef22202220122,[],[]⟩),
 (46,⟨0x266222226222002662222262220022266222226222002022622222202622202262222202622202222020122,[],[]⟩),
 (13,⟨0x262220220220202e0221122,[],[]⟩),
 (47,⟨0x26c44444262220026c44444262220022226222222022222020266222226222002026622222622200202662222262220020266222226222002020122,[],[(36,[.keep [2,3,6,67] [2,3]],[])]⟩),
 (14,⟨0x262220220220202e0221122,[],[]⟩),
 (151,⟨0x26c4444026402201,[],[]⟩),
 (152,⟨0x26442201,[],[]⟩),
 (113,⟨0x222064c002644c00222600620000644402644022201,[],[(8,[.keep [2] []],[]),(14,[.keep [0,3] []],[.keep [0,3] []]),(20,[.keep [] []],[]),(28,[.keep [2] []],[]),(33,[.keep [2] []],[])]⟩),
 (114,⟨0x26442201,[],[]⟩),
 (77,⟨0x2222222022226020222062260202260206000022226020622000022202220620226020600002220202602012,[],[(10,[.keep [4] []],[]),(16,[.keep [1,2,5,6] [2,5]],[.keep [1,2,5,6] [2,5]]),(22,[.keep [5] [5]],[]),(30,[.keep [4] []],[]),(39,[.keep [4] []],[]),(45,[.keep [5,7] [5]],[.keep [5,7] [5]]),(51,[.keep [5] [5]],[]),(60,[.keep [4] []],[]),(66,[.keep [5,7,8] [5]],[.keep [5,7,8] [5]]),(72,[.keep [5,7] [5]],[]),(80,[.keep [4] []],[]),(88,[.keep [4] []],[]),(97,[.keep [4] []],[]),(101,[.keep [4] []],[])]⟩),
 (78,⟨0x2222220620226020600006444026c444c04040222020260206220000222006cc44c4444c04040440264402220064402644026c04026c44040264402644022200644022202202026022602012,[],[(13,[.keep [6] []],[]),(20,[.keep [6] []],[]),(22,[.keep [1,2,3,7] [3,7]],[]),(28,[.keep [6] []],[]),(36,[.keep [6] []],[]),(42,[.keep [1,3,7,8] [3,7]],[.keep [1,3,7,8] [3,7]]),(48,[.keep [] []],[]),(59,[.keep [6] []],[]),(64,[.keep [1,3,7,8,9,10] [3,7,9]],[.keep [1,3,7,8,9,10] [3,7,9]]),(70,[.keep [1,3,7,8] [3,7]],[]),(78,[.keep [6] []],[]),(84,[.keep [6] []],[])]⟩),
 (115,⟨0x2262222262022022,[],[]⟩),
 (54,⟨0x20222222262226c0442602020260226020622260200062200002,[],[(6,[.keep [1,2,3,6,7] [3,6]],[.keep [1,2,3,6,7] [3,6]]),(12,[.keep [6] [6]],[]),(18,[.keep [1,2,3,6,7,8] [3,6]],[.keep [1,2,3,6,7,8] [3,6]]),(24,[.keep [1,2,3,6,7] [3,6]],[]),(34,[.keep [6] [6]],[]),(40,[.keep [6] [6]],[])]⟩),
 (79,⟨0x2222226cc40444cc4040444022202602262020622262020000220060e20200022020600122,[],[(30,[.keep [2,3,5,6,7] [2,3,5]],[.keep [2,3,5,6,7] [2,3,5]]),(36,[.keep [6] []],[])]⟩),
 (80,⟨0x22206222602026006220002222203622000622262002062202202026260022602062226020260062200002222012,[],[(6,[.canon (.s 3) 2003 1,.keep [1,3] [1,2003]],[.canon (.s 3) 2003 1,.keep [1,3] [1,2003]]),(14,[.canon (.s 3) 2003 1,.keep [1,3,4,5] [1,2003]],[.canon (.s 3) 2003 1,.keep [1,3,4,5] [1,2003]]),(20,[.canon (.s 3) 2003 1,.keep [1,3,4] [1,2003]],[]),(24,[.canon (.s 3) 2003 1,.keep [1,3,4,5] [1,2003]],[.canon (.s 3) 2003 1,.keep [1,3,4,5] [1,2003]]),(30,[.canon (.s 3) 2003 1,.keep [1,3,4,5] [1,2003]],[]),(43,[.canon (.s 3) 2003 1,.keep [1,3,4,5] [1,2003]],[]),(46,[.canon (.s 3) 2003 1,.keep [1,3,5] [1,2003]],[]),(53,[.canon (.s 3) 2003 1,.keep [1,3] [1,2003]],[]),(59,[.canon (.s 3) 2003 1,.keep [1,3,8] [1,2003]],[.canon (.s 3) 2003 1,.keep [1,3,8] [1,2003]]),(65,[.keep [] []],[]),(73,[.keep [2] []],[]),(78,[.keep [2] []],[])]⟩),
 (116,⟨0x22262622222202062026262202022200122,[],[(10,[.canon (.s 5) 2005 2,.keep [2,3,5] [2,3,2005]],[])]⟩),
 (53,⟨0x202222220222620260600206200622260200062200002020222222222220260020620062226020006220002222222226222202e0006222602000622000222222222026006220000206444022220102,[],[(8,[.keep [2,3] [2]],[]),(14,[.keep [1,2,4] [1,2]],[.keep [1,2,4] [1,2]]),(20,[.keep [1,2] [1,2]],[]),(30,[.keep [2,3] [2]],[]),(37,[.keep [1,2,6] [1,2]],[.keep [1,2,6] [1,2]]),(43,[.keep [1,2] [1,2]],[]),(49,[.keep [1,2,6,7] [1,2]],[.keep [1,2,6,7] [1,2]]),(55,[.keep [1,2,6] [1,2]],[]),(65,[.keep [2,3] [2]],[]),(73,[.keep [1,2,9] [1,2]],[.keep [1,2,9] [1,2]]),(79,[.keep [1,2] [1,2]],[]),(85,[.keep [1,2,9,10] [1,2]],[.keep [1,2,9,10] [1,2]]),(91,[.keep [1,2,9] [1,2]],[]),(103,[.keep [2,3] [2]],[]),(113,[.keep [2,3] [2]],[]),(119,[.keep [1,2,13] [1,2]],[.keep [1,2,13] [1,2]]),(125,[.keep [2] [2]],[]),(131,[.keep [1,2,13,14] [1,2]],[.keep [1,2,13,14] [1,2]]),(137,[.keep [1,2,13] [1,2]],[]),(147,[.keep [2,3] [2]],[]),(153,[.keep [2,3] [2]],[])]⟩),
 (21,⟨0x2222302022212,[],[]⟩),
 (134,⟨0x222222666202602006c002622000012,[],[(8,[.keep [1,2,5,6] [2]],[.keep [1,2,5,6] [2]]),(14,[.keep [5] []],[])]⟩),
 (91,⟨0x222212,[],[]⟩),
 (92,⟨0x22222226620260202622000020012,[],[(16,[.keep [1,2,5,6] [2]],[.keep [1,2,5,6] [2]]),(22,[.keep [5] []],[])]⟩),
 (135,⟨0x6442640264022006c4044026402200640264026402201,[],[]⟩),
 (93,⟨0x2220222602062200006c4404c440444026440222002200644022202200622022012,[],[(8,[.keep [2] []],[]),(19,[.keep [2] []],[]),(26,[.keep [2] []],[]),(28,[.keep [1] [1]],[]),(34,[.keep [2] []],[]),(40,[.keep [1,3] [1]],[.keep [1,3] [1]]),(46,[.keep [] []],[]),(54,[.keep [2] []],[]),(59,[.keep [2] []],[])]⟩),
 (58,⟨0x264426440222012,[],[]⟩),
 (109,⟨0x26c444422012,[],[]⟩),
 (110,⟨0x22222602260226020622260200012,[],[(6,[.keep [1,2,3,7] [3]],[.keep [1,2,3,7] [3]]),(12,[.keep [] []],[]),(20,[.keep [6] []],[]),(25,[.keep [6] []],[])]⟩),
 (73,⟨0x22202626020062200006c4404cc40404c4c40044c400222006c4404c44044c400222006c4001cf404004c44044c4002220122,[],[(8,[.keep [4] []],[]),(16,[.keep [4] []],[]),(24,[.keep [4] []],[]),(30,[.keep [2,3,5] [2,3]],[.keep [2,3,5] [2,3]]),(36,[.keep [] []],[]),(44,[.keep [4] []],[]),(49,[.keep [4] []],[])]⟩),
 (111,⟨0x22212,[],[]⟩),
 (74,⟨0x22206444c0402622260200220062200012,[],[(6,[.keep [1,3] [1]],[.keep [1,3] [1]]),(12,[.keep [] []],[]),(23,[.keep [1,3,4] [1]],[]),(28,[.keep [2] []],[]),(33,[.keep [2] []],[])]⟩),
 (148,⟨0x222222222222622600262260026022600620002226022602062226020002022260226020112,[],[(10,[.keep [1,2,3,8,9,10] [3]],[.keep [1,2,3,8,9,10] [3]]),(16,[.keep [8,9] []],[]),(24,[.keep [1,2,3,8,9,10,11,12] [3]],[.keep [1,2,3,8,9,10,11,12] [3]]),(30,[.keep [1,2,3,8,9,10] [3]],[])]⟩),
 (149,⟨0x222222226c0442220202602260206222602000012,[],[(8,[.keep [1,2,3,7,8] [3]],[.keep [1,2,3,7,8] [3]]),(14,[.keep [7] []],[])]⟩),
 (150,⟨0x26220062222622222620062006402201,[],[(24,[.keep [0,1] []],[])]⟩),
 (112,⟨0x222644222002666226206602600266600600660060022622622222226226222202222222202e2220222022226222222022202ee2220220022022222022010000644222222200262220022202222002622200222000000011122,[],[(12,[.keep [2,3,7,8,9,10,11,12] [2,3]],[]),(18,[.keep [2,3,7,8,9,10,11,12] [2,3]],[]),(60,[.keep [13,14] []],[])]⟩),
 (75,⟨0x222026260200622000222332002622220122,[],[(10,[.keep [4] []],[]),(16,[.keep [2,3,8] [2,3]],[.keep [2,3,8] [2,3]]),(22,[.keep [] []],[]),(30,[.keep [4] []],[]),(35,[.keep [4] []],[])]⟩),
 (48,⟨0x2622022002600064402220122,[],[]⟩),
 (22,⟨0x22206c444c0404c0022260062000062202012,[],[(8,[.keep [4] []],[]),(14,[.keep [1,2,5] [2]],[.keep [1,2,5] [2]]),(20,[.keep [] []],[]),(28,[.keep [4] []],[]),(33,[.keep [4] []],[])]⟩),
 (23,⟨0x2222220626220202062202202026022602062600006200012,[],[(6,[.keep [1,2,5] [2]],[.keep [1,2,5] [2]]),(12,[.keep [] []],[]),(18,[.keep [1,2,5,6] [2]],[.keep [1,2,5,6] [2]]),(24,[.keep [1,2,5] [2]],[]),(39,[.keep [4] []],[]),(46,[.keep [4] []],[])]⟩),
 (76,⟨0x2220022000220112,[],[]⟩),
 (49,⟨0x622322022222202602122,[],[]⟩),
 (59,⟨0x222022602062200006440222012,[],[(8,[.keep [2] []],[]),(14,[.keep [1,3] [1]],[.keep [1,3] [1]]),(20,[.keep [] []],[]),(28,[.keep [2] []],[]),(33,[.keep [2] []],[])]⟩),
 (25,⟨0x264422012,[],[]⟩),
 (15,⟨0x2222202e20202620026002220260006c440402220122,[],[]⟩),
 (51,⟨0x22222602260062000222622212,[],[(8,[.keep [2,7,8] []],[.keep [2,7,8] []]),(14,[.keep [] []],[]),(22,[.keep [6] []],[]),(27,[.keep [6] []],[])]⟩),
 (50,⟨0x22262226222222222222622602260062000222602260202022212,[],[(6,[.keep [1,2,4,9] [4]],[.keep [1,2,4,9] [4]]),(12,[.keep [1,2,4] [4]],[]),(20,[.keep [1,2,4,9,10,11] [4]],[.keep [1,2,4,9,10,11] [4]]),(26,[.keep [1,2,4,9] [4]],[]),(34,[.keep [8] []],[]),(40,[.keep [8] []],[])]⟩),
 (52,⟨0x222222622226c4c4404022202062006c0402220202602260206260000012,[],[(8,[.canon (.s 9) 2009 1,.keep [1,2,3,4,9,10] [4,2009]],[.canon (.s 9) 2009 1,.keep [1,2,3,4,9,10] [4,2009]]),(14,[.canon (.s 9) 2009 1,.keep [9] [2009]],[])]⟩),
 (16,⟨0x26e222222e22200026e222222e2220002226e222222e2220002022e2222222022001ef22202220226222202001ef26222e20202200202222020122,[],[]⟩),
 (17,⟨0x26001cf4444442e2220002226001cf4444442e2220002022e2222222002026e222222e2220002026e222222e2220002026e222222e2220002026e222222e2220002020122,[],[]⟩),
 (3,⟨0x26c001cf444422226442622202e00006c001cf000422206442622202e00022202e00022202e000064402640220020122,[],[(42,[.keep [1,3,5,9,10] [3,5]],[])]⟩)]
end Go.VE
namespace Go.VE
namespace trace_events_c1
def BC:List RO:=[o1 20 (.s 18) [],o2 21 (ix 5) [.s 16,.s 18] [],o2 22 (lD 5) [.s 21] [21],o2 6 (.a (.alloc 5 [.int .i64 0,.int .i64 0,.int .i64 0,.int .i64 0,.bX])) [] [],o1 5 (.s 20) [20],oz (.l (.store 5)) [.s 6,.s 22] [22]]
def zo:List RO:=[o1 23 (.s 0) [],o1 24 (.s 3) [],o1 25 (.s 5) [5],o2 26 (bI .add) [.s 25,.k (.int .i64 1)] [25],o2 27 (.p (.build [.int .i64 0,.int .i64 0] [(0,1),(1,1)])) [.s 24,.s 26] [24,26],o2 28 (lD 5) [.s 6] [6],
 o2 29 .c [.s 23,.s 27,.s 28] [23,27,28],o2 30 (.p .not) [.s 29] [29]]
def wO:List RO:=[o2 31 (bI .add) [.s 18,.k (.int .i64 1)] [],o1 18 (.s 31) [31]]
def Ej:RC:=.hg (.seq (.ops [o2 19 (bI .lss) [.s 18,.s 17] []]) (.seq (.cond (.s 19) .skip (.exit 2)) (.seq (.block 3 (.seq (.ops BC) (.seq (.ops zo) (.cond (.s 30) .ret .skip)))) (.ops wO)))) (.keep [0,3,8,9,10,16,17,18] [])
def Kk:List RO:=[o1 12 (.s 10) [],o2 13 (ix 3) [.s 8,.s 10] [],o2 14 (lD 3) [.s 13] [13],o2 4 (.a (.alloc 3 [.str ByteArray.empty,.bX,.bX])) [] [],o1 3 (.s 12) [12],oz (.l (.store 3)) [.s 4,.s 14] [14]]
def G7:List RO:=[o2 15 (fa 2) [.s 4] [],o2 16 (ld 1) [.s 15] [15],o2 17 ln [.s 16] [],o1 18 (.k (.int .i64 0)) []]
def E0:List RO:=[o2 32 (bI .add) [.s 10,.k (.int .i64 1)] [],o1 10 (.s 32) [32]]
def U2:RC:=.block 2 (.gh (.keep [0,3,8,9,10,16,17,18] []) (.loop Ej))
def M5:RC:=.hg (.seq (.ops [o2 11 (bI .lss) [.s 10,.s 9] []]) (.seq (.cond (.s 11) .skip (.exit 0)) (.seq (.block 1 (.seq (.ops Kk) (.seq (.ops G7) U2))) (.ops E0)))) (.keep [0,8,9,10] [])
def Qa:List RO:=[o2 7 (fa 0) [.s 1] [1],o2 8 (ld 1) [.s 7] [7],o2 9 ln [.s 8] [],o1 10 (.k (.int .i64 0)) []]
def U1:RC:=.block 0 (.gh (.keep [0,8,9,10] []) (.loop M5))
def text:RF:=⟨33,[],.seq (.ops Qa) U1⟩
section
variable {S:Sys}
abbrev I1 (ps:Sl bT) (i:Int) (B:List (List V)) (more:Bool) (y:Nat):St:=⟨[(0,.yl y),Cv 8 ps,Iv 9 (len ps),Iv 10 i],[],[],B,more,y⟩
abbrev I2 (ps:Sl bT) (i:Int) (es:Sl Event) (j:Int) (B:List (List V)) (more:Bool) (y:Nat):St:=⟨[(0,.yl y),Iv 3 i,Cv 8 ps,Iv 9 (len ps),Iv 10 i,Cv 16 es,Iv 17 (len es),Iv 18 j],[],[],B,more,y⟩
abbrev S2 (ps:Sl bT) (i:Int) (es:Sl Event) (j:Int) (b:Bool) (B:List (List V)) (more:Bool) (y:Nat):St:=⟨[(0,.yl y),Iv 3 i,Cv 8 ps,Iv 9 (len ps),Iv 10 i,Cv 16 es,Iv 17 (len es),Iv 18 j,Bv 19 b],[],[],B,more,y⟩
theorem UX (ps:Sl bT) (i:Int) (es:Sl Event) (j:Int) (B:List (List V)) (more:Bool) (y:Nat) (D:decide (j<len es)=false) :
 rn S.bare nN some (.rc Ej) [] (I2 ps i es j B more y)=some (.exit 2,S2 ps i es j false B more y):=by
 refine Le.get ?_;refine Kf (n:=7) (fo':=.rc (.cond (.s 19) .skip (.exit 2))) (fs':=[.seq (.seq (.block 3 (.seq (.ops BC) (.seq (.ops zo) (.cond (.s 30) .ret .skip)))) (.ops wO)),.gst (.keep [0,3,8,9,10,16,17,18] [])]) (λb=>S2 ps i es j b B more y) D (by kernel_rfl) ?_
 exact Le.of_eq (by kernel_rfl)
theorem VQ (ps:Sl bT) (i:Int) (es:Sl Event) (j:Int) (e:Event) (B:List (List V)) (more:Bool) (y:Nat) (G:decide (j<len es)=true) (D:idx es j=some e) (J:(!(more || !B.isEmpty))=false) :
 rn S.bare nN some (.rc Ej) [] (I2 ps i es j ([enc (⟨i,IntKind.wrap .i64 (j+1)⟩:aY),enc e]::B) more y)=some (.norm,I2 ps i es (IntKind.wrap .i64 (j+1)) B more y):=by
 refine Le.get ?_;refine Kt (n:=7) (fo':=.rc (.cond (.s 19) .skip (.exit 2))) (fs':=[.seq (.seq (.block 3 (.seq (.ops BC) (.seq (.ops zo) (.cond (.s 30) .ret .skip)))) (.ops wO)),.gst (.keep [0,3,8,9,10,16,17,18] [])]) (λb=>S2 ps i es j b ([enc (⟨i,IntKind.wrap .i64 (j+1)⟩:aY),enc e]::B) more y) G (by kernel_rfl) ?_
 refine OQ D ?_;refine PC 8 false [] (BC.drop 1) [.seq (.seq (.ops zo) (.cond (.s 30) .ret .skip)),.blk 3,.seq (.ops wO),.gst (.keep [0,3,8,9,10,16,17,18] [])] ⟨[(0,.yl y),Iv 3 i,Cv 8 ps,Iv 9 (len ps),Iv 10 i,Cv 16 es,Iv 17 (len es),Iv 18 j,Bv 19 true,Iv 20 j],[],[],([enc (⟨i,IntKind.wrap .i64 (j+1)⟩:aY),enc e]::B),more,y⟩ .i64 rfl (by kernel_rfl) λx h1=>?_
 obtain rfl:x=e:=by rw[D]at h1;cases h1;rfl
 refine Us 1 false [] (BC.drop 3) [.seq (.seq (.ops zo) (.cond (.s 30) .ret .skip)),.blk 3,.seq (.ops wO),.gst (.keep [0,3,8,9,10,16,17,18] [])] ⟨[(0,.yl y),Iv 3 i,Cv 8 ps,Iv 9 (len ps),Iv 10 i,Cv 16 es,Iv 17 (len es),Iv 18 j,Bv 19 true,Iv 20 j,Cv 22 x],[],[],([enc (⟨i,IntKind.wrap .i64 (j+1)⟩:aY),enc x]::B),more,y⟩ [iv 0,iv 0,iv 0,iv 0,.v .bX] rfl (by simp only[bO,ye,qA,r_,qo,rL,s9,sj,tg,ql,rP,xN,tF,th,tf,s_,vE,vC,sw,s7,SV.cN];rfl) (by kernel_rfl) ?_
 refine Ast 1 false [] (BC.drop 5) [.seq (.seq (.ops zo) (.cond (.s 30) .ret .skip)),.blk 3,.seq (.ops wO),.gst (.keep [0,3,8,9,10,16,17,18] [])] ⟨[(0,.yl y),Iv 3 i,Cv 8 ps,Iv 9 (len ps),Iv 10 i,Cv 16 es,Iv 17 (len es),Iv 18 j,Bv 19 true,Cv 22 x,Pv 6,Iv 5 j],[Xb 6 (⟨0,0,0,0,.nil⟩:Event)],[],([enc (⟨i,IntKind.wrap .i64 (j+1)⟩:aY),enc x]::B),more,y⟩ 6 0 x [iv 0,iv 0,iv 0,iv 0,.v .bX] ((cells x).map .v) rfl (by kernel_rfl) ?_
 refine Wl (n:=10) (q:=zo.drop 6) (fs':=[.seq (.cond (.s 30) .ret .skip),.blk 3,.seq (.ops wO),.gst (.keep [0,3,8,9,10,16,17,18] [])]) (st:=⟨[(0,.yl y),Iv 3 i,Cv 8 ps,Iv 9 (len ps),Iv 10 i,Cv 16 es,Iv 17 (len es),Iv 18 j,Bv 19 true,(23,.yl y),Cv 27 (⟨i,IntKind.wrap .i64 (j+1)⟩:aY),Cv 28 x],[Xb 6 x],[],([enc (⟨i,IntKind.wrap .i64 (j+1)⟩:aY),enc x]::B),more,y⟩) (vs:=[cv (⟨i,IntKind.wrap .i64 (j+1)⟩:aY),cv x]) (by kernel_rfl) rfl (by kernel_rfl) (by kernel_rfl) rfl rfl ?_
 refine Kf (n:=3) (fo':=.rc (.cond (.s 30) .ret .skip)) (fs':=[.blk 3,.seq (.ops wO),.gst (.keep [0,3,8,9,10,16,17,18] [])]) (λb=>⟨[(0,.yl y),Iv 3 i,Cv 8 ps,Iv 9 (len ps),Iv 10 i,Cv 16 es,Iv 17 (len es),Iv 18 j,Bv 19 true,Bv 30 b],[Xb 6 x],[],B,more,y⟩) J (by kernel_rfl) ?_
 exact Le.of_eq (by kernel_rfl)
theorem Sq (ps:Sl bT) (i:Int) (es:Sl Event) (j:Int) (e:Event) (B:List (List V)) (more:Bool) (y:Nat) (G:decide (j<len es)=true) (D:idx es j=some e) (J:(!(more || !B.isEmpty))=true) :
 rn S.bare nN some (.rc Ej) [] (I2 ps i es j ([enc (⟨i,IntKind.wrap .i64 (j+1)⟩:aY),enc e]::B) more y)=some (.ret,⟨[(0,.yl y),Iv 3 i,Cv 8 ps,Iv 9 (len ps),Iv 10 i,Cv 16 es,Iv 17 (len es),Iv 18 j,Bv 19 true,Bv 30 true],[Xb 6 e],[],B,more,y⟩):=by
 refine Le.get ?_;refine Kt (n:=7) (fo':=.rc (.cond (.s 19) .skip (.exit 2))) (fs':=[.seq (.seq (.block 3 (.seq (.ops BC) (.seq (.ops zo) (.cond (.s 30) .ret .skip)))) (.ops wO)),.gst (.keep [0,3,8,9,10,16,17,18] [])]) (λb=>S2 ps i es j b ([enc (⟨i,IntKind.wrap .i64 (j+1)⟩:aY),enc e]::B) more y) G (by kernel_rfl) ?_
 refine OQ D ?_;refine PC 8 false [] (BC.drop 1) [.seq (.seq (.ops zo) (.cond (.s 30) .ret .skip)),.blk 3,.seq (.ops wO),.gst (.keep [0,3,8,9,10,16,17,18] [])] ⟨[(0,.yl y),Iv 3 i,Cv 8 ps,Iv 9 (len ps),Iv 10 i,Cv 16 es,Iv 17 (len es),Iv 18 j,Bv 19 true,Iv 20 j],[],[],([enc (⟨i,IntKind.wrap .i64 (j+1)⟩:aY),enc e]::B),more,y⟩ .i64 rfl (by kernel_rfl) λx h1=>?_
 obtain rfl:x=e:=by rw[D]at h1;cases h1;rfl
 refine Us 1 false [] (BC.drop 3) [.seq (.seq (.ops zo) (.cond (.s 30) .ret .skip)),.blk 3,.seq (.ops wO),.gst (.keep [0,3,8,9,10,16,17,18] [])] ⟨[(0,.yl y),Iv 3 i,Cv 8 ps,Iv 9 (len ps),Iv 10 i,Cv 16 es,Iv 17 (len es),Iv 18 j,Bv 19 true,Iv 20 j,Cv 22 x],[],[],([enc (⟨i,IntKind.wrap .i64 (j+1)⟩:aY),enc x]::B),more,y⟩ [iv 0,iv 0,iv 0,iv 0,.v .bX] rfl (by simp only[bO,ye,qA,r_,qo,rL,s9,sj,tg,ql,rP,xN,tF,th,tf,s_,vE,vC,sw,s7,SV.cN];rfl) (by kernel_rfl) ?_
 refine Ast 1 false [] (BC.drop 5) [.seq (.seq (.ops zo) (.cond (.s 30) .ret .skip)),.blk 3,.seq (.ops wO),.gst (.keep [0,3,8,9,10,16,17,18] [])] ⟨[(0,.yl y),Iv 3 i,Cv 8 ps,Iv 9 (len ps),Iv 10 i,Cv 16 es,Iv 17 (len es),Iv 18 j,Bv 19 true,Cv 22 x,Pv 6,Iv 5 j],[Xb 6 (⟨0,0,0,0,.nil⟩:Event)],[],([enc (⟨i,IntKind.wrap .i64 (j+1)⟩:aY),enc x]::B),more,y⟩ 6 0 x [iv 0,iv 0,iv 0,iv 0,.v .bX] ((cells x).map .v) rfl (by kernel_rfl) ?_
 refine Wl (n:=10) (q:=zo.drop 6) (fs':=[.seq (.cond (.s 30) .ret .skip),.blk 3,.seq (.ops wO),.gst (.keep [0,3,8,9,10,16,17,18] [])]) (st:=⟨[(0,.yl y),Iv 3 i,Cv 8 ps,Iv 9 (len ps),Iv 10 i,Cv 16 es,Iv 17 (len es),Iv 18 j,Bv 19 true,(23,.yl y),Cv 27 (⟨i,IntKind.wrap .i64 (j+1)⟩:aY),Cv 28 x],[Xb 6 x],[],([enc (⟨i,IntKind.wrap .i64 (j+1)⟩:aY),enc x]::B),more,y⟩) (vs:=[cv (⟨i,IntKind.wrap .i64 (j+1)⟩:aY),cv x]) (by kernel_rfl) rfl (by kernel_rfl) (by kernel_rfl) rfl rfl ?_
 refine Kt (n:=3) (fo':=.rc (.cond (.s 30) .ret .skip)) (fs':=[.blk 3,.seq (.ops wO),.gst (.keep [0,3,8,9,10,16,17,18] [])]) (λb=>⟨[(0,.yl y),Iv 3 i,Cv 8 ps,Iv 9 (len ps),Iv 10 i,Cv 16 es,Iv 17 (len es),Iv 18 j,Bv 19 true,Bv 30 b],[Xb 6 x],[],B,more,y⟩) J (by kernel_rfl) ?_
 exact Le.of_eq (by kernel_rfl)
abbrev S1 (ps:Sl bT) (i:Int) (b:Bool) (B:List (List V)) (more:Bool) (y:Nat):St:=⟨[(0,.yl y),Cv 8 ps,Iv 9 (len ps),Iv 10 i,Bv 11 b],[],[],B,more,y⟩
theorem Up (ps:Sl bT) (i:Int) (B:List (List V)) (more:Bool) (y:Nat) (D:decide (i<len ps)=false) :
 rn S.bare nN some (.rc M5) [] (I1 ps i B more y)=some (.exit 0,S1 ps i false B more y):=by
 refine Le.get ?_;refine Kf (n:=7) (fo':=.rc (.cond (.s 11) .skip (.exit 0))) (fs':=[.seq (.seq (.block 1 (.seq (.ops Kk) (.seq (.ops G7) U2))) (.ops E0)),.gst (.keep [0,8,9,10] [])]) (λb=>S1 ps i b B more y) D (by kernel_rfl) ?_
 exact Le.of_eq (by kernel_rfl)
def Q4:List Fm:=[.blk 2,.blk 1,.seq (.ops E0),.gst (.keep [0,8,9,10] [])]
theorem QY (ps:Sl bT) (i:Int) (p:bT) (B:List (List V)) (more:Bool) (y:Nat) (r:Out×St) (G:decide (i<len ps)=true) (D:idx ps i=some p)
 (h:rn S.bare nN some (.rc (.loop Ej)) Q4 (I2 ps i p.events 0 B more y)=some r):rn S.bare nN some (.rc M5) [] (I1 ps i B more y)=some r:=by
 refine Le.get ?_;refine Kt (n:=7) (fo':=.rc (.cond (.s 11) .skip (.exit 0))) (fs':=[.seq (.seq (.block 1 (.seq (.ops Kk) (.seq (.ops G7) U2))) (.ops E0)),.gst (.keep [0,8,9,10] [])]) (λb=>S1 ps i b B more y) G (by kernel_rfl) ?_
 refine OQ D ?_;refine PC 8 false [] (Kk.drop 1) [.seq (.seq (.ops G7) U2),.blk 1,.seq (.ops E0),.gst (.keep [0,8,9,10] [])] ⟨[(0,.yl y),Cv 8 ps,Iv 9 (len ps),Iv 10 i,Bv 11 true,Iv 12 i],[],[],B,more,y⟩ .i64 rfl (by kernel_rfl) λx h1=>?_
 obtain rfl:x=p:=by rw[D]at h1;cases h1;rfl
 refine Us 1 false [] (Kk.drop 3) [.seq (.seq (.ops G7) U2),.blk 1,.seq (.ops E0),.gst (.keep [0,8,9,10] [])] ⟨[(0,.yl y),Cv 8 ps,Iv 9 (len ps),Iv 10 i,Bv 11 true,Iv 12 i,Cv 14 x],[],[],B,more,y⟩ [.v (.str ByteArray.empty),.v .bX,.v .bX] rfl (by simp only[bO,ye,qA,r_,qo,rL,s9,sj,tg,ql,rP,xN,tF,th,tf,s_,vE,vC,sw,s7,SV.cN];rfl) (by kernel_rfl) ?_
 refine Ast 1 false [] (Kk.drop 5) [.seq (.seq (.ops G7) U2),.blk 1,.seq (.ops E0),.gst (.keep [0,8,9,10] [])] ⟨[(0,.yl y),Cv 8 ps,Iv 9 (len ps),Iv 10 i,Bv 11 true,Cv 14 x,Pv 4,Iv 3 i],[Xb 4 (⟨ByteArray.empty,.nil,.nil⟩:bT)],[],B,more,y⟩ 4 0 x [.v (.str ByteArray.empty),.v .bX,.v .bX] ((cells x).map .v) rfl (by kernel_rfl) ?_
 refine UQ 6 false [] (G7.drop 2) [.seq U2,.blk 1,.seq (.ops E0),.gst (.keep [0,8,9,10] [])] ⟨[(0,.yl y),Cv 8 ps,Iv 9 (len ps),Iv 10 i,Bv 11 true,Pv 4,Iv 3 i,Cv 16 x.events],[Xb 4 x],[],B,more,y⟩ x.events rfl (by kernel_rfl) ?_
 refine zN (n:=5) (fo':=.rc (.loop Ej)) (fs':=Q4) (st':=I2 ps i x.events 0 B more y) (by kernel_rfl) (Le.of_eq h)
theorem RG (ps:Sl bT) (i:Int) (es:Sl Event) (j:Int) (B:List (List V)) (more:Bool) (y:Nat) :
 rn S.bare nN some (.ex 2) Q4 (S2 ps i es j false B more y)=some (.norm,I1 ps (IntKind.wrap .i64 (i+1)) B more y):=by kernel_rfl
theorem wrap_small (n:Nat) (h:n<9223372036854775807):IntKind.wrap .i64 ((n:Int)+1)=((n+1:Nat):Int):=by
 simp[IntKind.wrap,IntKind.bits,IntKind.signed];omega
abbrev eI (x:aY×Event):List V:=[enc x.1,enc x.2]
theorem uz.step {x:List V} {D rest:List (List V)} {more:Bool} (h:uz D (x::rest) more):∃B,D=x::B/\((!(more || !B.isEmpty))=false/\uz B rest more\/(!(more || !B.isEmpty))=true/\B=[]):=by
 rcases h with⟨rfl,rfl⟩|⟨rfl,u,r,hr⟩
 .exact⟨rest,rfl,.inl ⟨rfl,.inl ⟨rfl,rfl⟩⟩⟩
 .cases D with
  | nil=>exact absurd rfl u
  | cons w D=>
   simp only[List.cons_append,List.cons.injEq]at hr;obtain⟨rfl,rfl⟩:=hr;refine⟨D,rfl,?_⟩
   cases D with
   | nil=>exact .inr ⟨rfl,rfl⟩
   | cons z A=>exact .inl ⟨rfl,.inr ⟨rfl,by simp,r,rfl⟩⟩
theorem tB {α:Type} {s:Sl α} {j:Nat} {x:α} {r:List α} (h:s.l.drop j=x::r):idx s (j:Int)=some x/\decide ((j:Int)<len s)=true/\s.l.drop (j+1)=r:=by
 have h1:j<s.l.length:=by
  apply Classical.byContradiction;intro w;rw[List.drop_eq_nil_of_le (by omega)]at h;cases h
 have u:=List.drop_eq_getElem_cons h1;rw[u]at h;simp only[List.cons.injEq]at h;refine⟨?_,by simp[len,h1],h.2⟩
 unfold idx;rw[if_pos (by omega)]
 simp[ζd h1,h.1]
variable {Q:Out×St->Option (Out×St)} {fs:List Fm}
theorem inner (ps:Sl bT) (i:Int) (es:Sl Event) (U:es.l.length<9223372036854775807) (more:Bool) (y:Nat) (R:List (List V)):∀(rem:List Event) (j:Nat),es.l.drop j=rem->∀D,uz D ((iH i j rem).map eI++R) more ->
 (∃(B:List (List V)) (W:Int),uz B R more/\rn S.bare nN Q (.rc (.loop Ej)) fs (I2 ps i es j D more y)=rn S.bare nN Q (.ex 2) fs (S2 ps i es W false B more y)) \/
 (∃st':St,st'.want=[]/\rn S.bare nN Q (.rc (.loop Ej)) fs (I2 ps i es j D more y)=Q (.ret,st'))
 | [],j,hd,D,G=>by
  have h1:decide ((j:Int)<len es)=false:=by
   have:es.l.length<=j:=by simpa using hd
   simp[len];omega
  exact .inl ⟨D,j,by simpa [iH]using G,EX (UX ps i es j D more y h1)⟩
 | e::rem,j,hd,D,G=>by
  obtain⟨h1,z,O⟩:=tB hd;have X:j<es.l.length:=by simpa [len]using z
  simp only[iH,List.map_cons,List.cons_append]at G;obtain⟨B,rfl,u⟩:=uz.step G;have A:=wrap_small j (by omega)
  have w:((j:Int)+1)=IntKind.wrap .i64 ((j:Int)+1):=by rw[A];simp
  rcases u with⟨u,C⟩|⟨u,rfl⟩
  .have k:=VQ (S:=S) ps i es j e B more y z h1 u;rw[<-w]at k;have J:=EJ (Q:=Q) (fs:=fs) k;have L:=inner ps i es U more y R rem (j+1) O B (by push_cast;exact C)
   rw[show ((j+1:Nat):Int)=(j:Int)+1 from rfl]at L;rcases L with⟨I,T,g1,g2⟩|⟨st',g1,g2⟩
   .exact .inl ⟨I,T,g1,J.trans g2⟩
   .exact .inr ⟨st',g1,J.trans g2⟩
  .have k:=Sq (S:=S) ps i es j e [] more y z h1 u;rw[<-w]at k;exact .inr ⟨_,by rfl,FA k⟩
theorem outer (ps:Sl bT) (J:ps.l.length<9223372036854775807) (D:∀p∈ps.l,p.events.l.length<9223372036854775807) (more:Bool) (y:Nat):∀(rem:List bT) (i:Nat),ps.l.drop i=rem->∀B,uz B ((fI i rem).map eI) more ->
 rn S.bare nN Qi (.rc (.loop M5)) [.blk 0] (I1 ps i B more y)=some ()
 | [],i,hd,B,G=>by
  have h1:decide ((i:Int)<len ps)=false:=by
   have:ps.l.length<=i:=by simpa using hd
   simp[len];omega
  rw[EX (Up ps i B more y h1)];have:B=[]:=by
   rcases G with⟨_,rfl⟩|⟨_,A,r,hr⟩
   .rfl
   .have:B=[]:=by cases B with
     | nil=>rfl
     | cons=>simp[fI]at hr
    exact absurd this A
  subst this;rfl
 | p::rem,i,hd,B,G=>by
  obtain⟨h1,u,C⟩:=tB hd;have hi:i<ps.l.length:=by simpa [len]using u
  have I:p∈ps.l:=List.mem_of_mem_drop (i:=i) (by rw[hd];exact List.mem_cons_self ..)
  simp only[fI,List.map_append]at G;have w:=wrap_small i (by omega)
  rcases inner (S:=S) (Q:=some) (fs:=Q4) ps i p.events (D p I) more y _ p.events.l 0 rfl B G with⟨z,L,g1,g2⟩|⟨st',g1,g2⟩
  .rw[RG,w]at g2;rw[EJ (QY ps i p B more y _ u h1 g2)];exact outer ps J D more y rem (i+1) C z g1
  .rw[FA (QY ps i p B more y _ u h1 g2)];simp[Qi,g1]
theorem all (t:Trace) (B:List (aY×Event)) (h:jh t=some B) (D:List (List V)) (more:Bool) (G:uz D (B.map eI) more) (y:Nat) :
 rn S.bare nN Qi (.rc text.body) [] ⟨uS 0 (([]:List V).map .v++.yl y::[V.fptr (cells t)].map .v),[],[],D,more,y⟩=some ():=by
 unfold jh at h;split at h
 .rename_i hk;cases h;simp only[ζh,List.all_eq_true,oE,decide_eq_true_eq]at hk;refine Le.get ?_;refine UQ 4 false [] (Qa.drop 2) [.seq U1] ⟨[(0,.yl y),Cv 8 t.procs],[],[],D,more,y⟩ t.procs rfl (by kernel_rfl) ?_
  refine zN (n:=5) (fo':=.rc (.loop M5)) (fs':=[.blk 0]) (st':=I1 t.procs 0 D more y) (by kernel_rfl) (Le.of_eq ?_)
  exact outer t.procs hk.1 hk.2 more y t.procs.l 0 rfl D G
 .cases h
end
theorem vG {α:Type} [bB α] {a b:Sl α} (h:cq a=cq b):rows a.l=rows b.l:=by
 cases a <;> cases b <;> first|rfl|(simp only[cq,Sl.k,ow,V.fsl.injEq,true_and,reduceCtorEq]at h;done)|(simp only[cq,Sl.k,ow,V.fsl.injEq,true_and,reduceCtorEq]at h;exact h)
theorem vI (p:Int):∀(es B:List Event) (j:Int),rows es=rows B->(iH p j es).map eI=(iH p j B).map eI
 | [],[],_,_=>rfl
 | [],_::_,_,h=>by simp[rows]at h
 | _::_,[],_,h=>by simp[rows]at h
 | e::es,D::B,j,h=>by
  simp only[rows,List.map_cons,List.cons.injEq]at h;have h1:enc e=enc D:=by show V.agg (cells e)=V.agg (cells D);rw[h.1]
  simp only[iH,List.map_cons,eI,h1,vI p es B (j+1) h.2]
theorem CF:∀(ps B:List bT) (i:Int),rows ps=rows B->(fI i ps).map eI=(fI i B).map eI
 | [],[],_,_=>rfl
 | [],_::_,_,h=>by simp[rows]at h
 | _::_,[],_,h=>by simp[rows]at h
 | p::ps,p'::B,i,h=>by
  simp only[rows,List.map_cons,List.cons.injEq]at h;have h1:cq p.events=cq p'.events:=by
   have:=h.1;change [V.str p.name,cq p.vars,cq p.events]=[V.str p'.name,cq p'.vars,cq p'.events]at this;simp only[List.cons.injEq]at this;exact this.2.2.1
  simp only[fI,List.map_append,vI i _ _ 0 (vG h1),CF ps B (i+1) h.2]
def uZ (f:FuncId) (g:FuncId) (a b:List V) (xs:List (List V)):Prop:=∃(t:Trace) (u:List (aY×Event)),g=f/\a=[]/\b=[.fptr (cells t)]/\jh t=some u/\xs=u.map eI
theorem uZ.uniq {f g:FuncId} {a b:List V} {xs ys:List (List V)} (h:uZ f g a b xs) (k:uZ f g a b ys):xs=ys:=by
 obtain⟨t,B,rfl,rfl,rfl,h1,rfl⟩:=h;obtain⟨z,A,_,_,w,u,rfl⟩:=k;simp only[List.cons.injEq,V.fptr.injEq,and_true]at w;have C:cq t.procs=cq z.procs:=by
  change [cq t.procs]=[cq z.procs]at w;simpa using w
 unfold jh at h1 u;split at h1 <;> split at u <;> simp only[ζa,reduceCtorEq]at h1 u;subst h1 u;exact CF _ _ 0 (vG C)
end trace_events_c1
end Go.VE
namespace Go.VE
open Go.Proofs.YtlmckmkfopljoaaGreatDoor
noncomputable section
noncomputable def F_ (f:FuncId):Option JR:=none
noncomputable def Sb:Sys:=⟨E,λn=>n,λ_ _ _=>none,xH E,F_⟩
theorem Gg:∀f q,F_ f=some q->pZ E f q:=by
 intro f q h;unfold F_ at h;cases h
def Tx:pT:=PO E some (lk Ku)
abbrev cB:b7:=dM Sb Tx
theorem UM:vq Sb Tx where
 fn f rf h:=let ⟨u,h1,w⟩:=BM h;⟨u,some,h1,x_,w⟩
 wQ f z y h:=FC h
 prm:=Gg
theorem N5:∀f a b xs,Sb.items f a b=some xs->e_ Sb f a b xs:=λf a b xs h=>by cases h
end
end Go.VE
namespace Go.VE
noncomputable section
namespace IB
def gH (s0:Sl Int):Option (Sl Int):=
 (Sl.isNil s0).bind λu=>
 bf u
 (some Sl.nil)
 ((yq (Sl.row []:Sl Int) s0).bind λw=>
 some w)
theorem nT:Ck Sb cB 168 (λs0:Sl Int=>[enc s0]) (λz=>gH z):=Ck.mk' (qE (Tx 168)) (λs0=>T6 9 λu _=>bq 2 4 aZ (Nx 7 5 7 λw _=>aZ))
namespace cr
def fe (k6:Int) (U:Sl Event) (W Y:Int) (G:Sl Assign) (J:Int) (ws:List (List V)) (B:Sl Int) (D:Int) (more:Bool):Option (Fw ((Sl Int)×Int) (Sl Int) Empty):=
 bf (decide (D<J))
 ((idx G D).bind λu=>
 (Sl.rQ B u.var).bind λw=>
 (Sl.put B w (u.value:Int)).bind λz=>
 some (.n (z,IntKind.wrap .i64 (D+1))))
 (some (.x B))
def W3 (B:Sl Int) (k6:Int) (J:Sl Event) (D G:Int) (U:Sl Assign) (W Y:Int) (ws:List (List V)) (more:Bool):Option (Fw ((Sl Int)×Int×Int×(List (List V))) (List (List V)) (List (List V))):=
 (bW (λq:(Sl Int)×Int=>fe k6 J D G U W ws q.1 q.2 more) (B,Y)).bind (Fw.elim
 (λe=>((gH e).bind Sl.whole).bind λw=>
 (yl ws more [.int .i64 (IntKind.wrap .i64 (k6+1)),enc w]).bind λu=>
 bf u.1
 (some (.n (e,D,IntKind.wrap .i64 (G+1),u.2)))
 (some (.r u.2)))
 (λe=>Empty.elim e))
def bZ (D:Sl Event) (G:Sl Int) (J B:Int) (U:List (List V)) (more:Bool):Option (Fw ((Sl Int)×Int×Int×(List (List V))) (List (List V)) (List (List V))):=
 bf (decide (B<J))
 ((idx D B).bind λu=>
 W3 G B D J B u.assign (len u.assign) 0 U more)
 (some (.x U))
def W2 (B:Sl Int) (D:Sl Event) (G J:Int) (U:List (List V)) (more:Bool):Option (List (List V)):=
 (bW (λq:(Sl Int)×Int×Int×(List (List V))=>bZ D q.1 q.2.1 q.2.2.1 q.2.2.2 more) (B,G,J,U)).bind (Fw.elim
 (λe=>some e)
 (λe=>some e))
def br (U:bT) (G:Sl Var) (J:Int) (W:List (List V)) (B:Sl Int) (D:Int) (more:Bool):Option (Fw ((Sl Int)×Int) (Sl Int) Empty):=
 bf (decide (D<J))
 ((idx G D).bind λu=>
 (iP B (u.init_:Int)).bind λw=>
 some (.n (w,IntKind.wrap .i64 (D+1))))
 (some (.x B))
def W1 (B:bT) (D:Sl Int) (G:Sl Var) (J U:Int) (W:List (List V)) (more:Bool):Option (List (List V)):=
 (bW (λq:(Sl Int)×Int=>br B G J W q.1 q.2 more) (D,U)).bind (Fw.elim
 (λe=>((gH e).bind Sl.whole).bind λw=>
 (yl W more [.int .i64 0,enc w]).bind λu=>
 bf u.1
 (cr.W2 e B.events (len B.events) 0 u.2 more)
 (some u.2))
 (λe=>Empty.elim e))
end cr
def cr (D:List (List V)) (B:bT) (more:Bool):Option (List (List V)):=
 cr.W1 B (Sl.nil:Sl Int) B.vars (len B.vars) 0 D more
open cr in
theorem xX (more:Bool) (y:Nat) (J:List (List V)) (B:bT):Le ((cr J B more).bind λr=>some r) (cn Sb cB Qw (.rc (tb Tx 179),[],⟨uS 0 (.yl y::[V.fptr (cells B)].map .v),[],[],J,more,y⟩)):=
 ct 10 B.vars (jU 6 (λA=>⟨[(0,.yl y),Kv 1 B,Ov 3,Cv 11 B.vars,Iv 12 (len B.vars),Iv 13 A.2],[Lb 2003 A.1],[],J,more,y⟩) (λC=>(0,⟨[(0,.yl y),Kv 1 B,Ov 3],[Lb 2003 C],[],J,more,y⟩)) (λA=>bq 8 14 (bF 7 λS _=>xe 10 2003 20 21 λT _=>aZ) aZ) (λC=>QL 7 25 nT C λI _=>Wg 1 [.int .i64 0,enc I] λQ _=>cH 3 27 (ct 7 B.events (dU 6 (λu=>⟨[(0,.yl y),Ov 3,Cv 29 B.events,Iv 30 u.2.1,Iv 31 u.2.2.1],[Lb 2003 u.1],[],u.2.2.2,more,y⟩) (λw=>(2,⟨[],[],[],w,more,y⟩)) (λw=>⟨[],[],[],w,more,y⟩) (λu=>bq 8 32 (bF 8 λz _=>m_ 3 7 0 z (ct 7 z.assign (jU 6 (λD=>⟨[(0,.yl y),Ov 3,Iv 6 u.2.2.1,Cv 29 B.events,Iv 30 u.2.1,Iv 31 u.2.2.1,Cv 37 z.assign,Iv 38 (len z.assign),Iv 39 D.2],[Lb 2003 D.1],[],u.2.2.2,more,y⟩) (λG=>(4,⟨[(0,.yl y),Ov 3,Iv 6 u.2.2.1,Cv 29 B.events,Iv 30 u.2.1,Iv 31 u.2.2.1],[Lb 2003 G],[],u.2.2.2,more,y⟩)) (λD=>bq 8 40 (bF 7 λL _=>xo .i64 11 2003 λU _=>O3 0 2003 (.int .i64 L.value) λW _=>aZ) aZ) (λG=>QL 8 54 nT G λO _=>Wg 1 [.int .i64 (IntKind.wrap .i64 (u.2.2.1+1)),enc O] λX _=>cH 3 56 aZ aZ)))) aZ) (λw=>aZ) (λw=>aZ))) aZ))
end IB
end
end Go.VE
namespace Go.VE
open IB
def vo:List Assign->Sl Int->Option (Sl Int)
 | [],s=>some s
 | a::r,s=>(Sl.rQ s a.var).bind λj=>(Sl.put s j a.value).bind (vo r)
def ve:List Var->Sl Int->Option (Sl Int)
 | [],s=>some s
 | v::r,s=>(iP s v.init_).bind (ve r)
def LB (s:Sl Int):Option (Sl Int):=(gH s).bind Sl.whole
def vg:Int->List Event->Sl Int->Option (List (Int×Sl Int))
 | _,[],_=>some []
 | k,e::r,s=>(vo e.assign.l s).bind λn=>(LB n).bind λc=>(vg (k+1) r n).map ((k+1,c)::·)
def jk (p:bT):Option (List (Int×Sl Int)):=
 if oE p.vars.l.length&&(oE p.events.l.length&&p.events.l.all λe=>oE e.assign.l.length)then
  (ve p.vars.l .nil).bind λs=>(LB s).bind λc=>(vg 0 p.events.l s).map ((0,c)::·)
 else none
namespace IST
abbrev eI (x:Int×Sl Int):List V:=[enc x.1,enc x.2]
theorem Cn {n:Nat} (h:oE n=true):n<9223372036854775807:=by simpa [oE]using h
theorem wrap_small (n:Nat) (h:n<9223372036854775807):IntKind.wrap .i64 ((n:Int)+1)=((n+1:Nat):Int):=by
 simp[IntKind.wrap,IntKind.bits,IntKind.signed];omega
theorem tB {α:Type} {s:Sl α} {j:Nat} {x:α} {r:List α} (h:s.l.drop j=x::r):idx s (j:Int)=some x/\decide ((j:Int)<len s)=true/\s.l.drop (j+1)=r:=by
 have h1:j<s.l.length:=by
  apply Classical.byContradiction;intro w;rw[List.drop_eq_nil_of_le (by omega)]at h;cases h
 have u:=List.drop_eq_getElem_cons h1;rw[u]at h;simp only[List.cons.injEq]at h;refine⟨?_,by simp[len,h1],h.2⟩
 unfold idx;rw[if_pos (by omega)]
 simp[ζd h1,h.1]
theorem HY {α:Type} {s:Sl α} {j:Nat} (h:s.l.drop j=[]):decide ((j:Int)<len s)=false:=by
 have:s.l.length<=j:=by simpa using h
 simp[len];omega
theorem Wq (p:bT) (v:Sl Var) (J:v.l.length<9223372036854775807) (D:List (List V)) (more:Bool):∀(rem:List Var) (j:Nat),v.l.drop j=rem->∀s B,ve rem s=some B ->
 bW (λq:Sl Int×Int=>cr.br p v (len v) D q.1 q.2 more) (s,(j:Int))=some (.x B)
 | [],j,hd,s,B,h=>by
  cases h;rw[eO];simp only[cr.br,HY hd,bf,ζb,Bool.false_eq_true,if_false]
 | x::rem,j,hd,s,B,h=>by
  obtain⟨h1,G,U⟩:=tB hd;have w:j<v.l.length:=by simpa [len]using G
  simp only[ve,ζg]at h;obtain⟨n,u,h⟩:=h;rw[eO];simp only[cr.br,h1,G,u,bf,ζb,if_true,wrap_small j (by omega)]
  exact Wq p v J D more rem (j+1) U n B h
theorem set (k:Int) (es:Sl Event) (a b:Int) (v:Sl Assign) (J:v.l.length<9223372036854775807) (D:List (List V)) (more:Bool):∀(rem:List Assign) (j:Nat),v.l.drop j=rem->∀s B,vo rem s=some B ->
 bW (λq:Sl Int×Int=>cr.fe k es a b v (len v) D q.1 q.2 more) (s,(j:Int))=some (.x B)
 | [],j,hd,s,B,h=>by
  cases h;rw[eO];simp only[cr.fe,HY hd,bf,ζb,Bool.false_eq_true,if_false]
 | x::rem,j,hd,s,B,h=>by
  obtain⟨h1,G,U⟩:=tB hd;have w:j<v.l.length:=by simpa [len]using G
  simp only[vo,ζg]at h;obtain⟨i,hi,n,u,h⟩:=h;rw[eO];simp only[cr.fe,h1,G,hi,u,bf,ζb,if_true,wrap_small j (by omega)]
  exact set k es a b v J D more rem (j+1) U n B h
theorem uz.step {x:List V} {D rest:List (List V)} {more:Bool} (h:uz D (x::rest) more):∃B,yl D more x=some ((more || !B.isEmpty),B)/\((more || !B.isEmpty)=true/\uz B rest more\/(more || !B.isEmpty)=false/\B=[]):=by
 rcases h with⟨rfl,rfl⟩|⟨rfl,u,r,hr⟩
 .exact⟨rest,by simp[yl],.inl ⟨rfl,.inl ⟨rfl,rfl⟩⟩⟩
 .cases D with
  | nil=>exact absurd rfl u
  | cons w D=>
   simp only[List.cons_append,List.cons.injEq]at hr;obtain⟨rfl,rfl⟩:=hr;refine⟨D,by simp[yl],?_⟩
   cases D with
   | nil=>exact .inr ⟨rfl,rfl⟩
   | cons z A=>exact .inl ⟨rfl,.inr ⟨rfl,by simp,r,rfl⟩⟩
theorem eY (es:Sl Event) (W:es.l.length<9223372036854775807) (G:∀e∈es.l,e.assign.l.length<9223372036854775807) (more:Bool):∀(rem:List Event) (j:Nat),es.l.drop j=rem->∀s B,vg (j:Int) rem s=some B->∀D,uz D (B.map eI) more ->
 ∃J:List (List V),J=[]/\(bW (λq:Sl Int×Int×Int×List (List V)=>cr.bZ es q.1 q.2.1 q.2.2.1 q.2.2.2 more) (s,len es,(j:Int),D)=some (.x J)\/bW (λq:Sl Int×Int×Int×List (List V)=>cr.bZ es q.1 q.2.1 q.2.2.1 q.2.2.2 more) (s,len es,(j:Int),D)=some (.r J))
 | [],j,hd,s,B,h,D,U=>by
  cases h;have:D=[]:=by
   rcases U with⟨_,rfl⟩|⟨_,I,r,hr⟩
   .rfl
   .cases D with
    | nil=>rfl
    | cons=>simp at hr
  subst this;refine⟨[],rfl,.inl ?_⟩;rw[eO];simp only[cr.bZ,HY hd,bf,ζb,Bool.false_eq_true,if_false]
 | e::rem,j,hd,s,B,h,D,U=>by
  obtain⟨h1,C,L⟩:=tB hd;have Y:j<es.l.length:=by simpa [len]using C
  have O:e∈es.l:=List.mem_of_mem_drop (i:=j) (by rw[hd];exact List.mem_cons_self ..)
  simp only[vg,ζg,ζf]at h;obtain⟨n,I,c,hc,r,hr,rfl⟩:=h;have hc:(gH n).bind Sl.whole=some c:=hc;obtain⟨w,z,Q⟩:=uz.step U;have A:=wrap_small j (by omega)
  have z:yl D more [.int .i64 ((j+1:Nat):Int),enc c]=some ((more || !w.isEmpty),w):=z;rw[eO];have u:=set j es (len es) j e.assign (G e O) D more e.assign.l 0 rfl s n I;rw[show ((0:Nat):Int)=0 from rfl]at u;rcases Q with⟨g1,g2⟩|⟨g1,rfl⟩
  .obtain⟨S,T,X⟩:=eY es W G more rem (j+1) L n r hr w g2;refine⟨S,T,?_⟩;rw[g1]at z;simp only[cr.bZ,cr.W3,h1,C,u,hc,z,bf,ζb,if_true,Fw.elim,A];exact X
  .refine⟨[],rfl,.inr ?_⟩;rw[g1]at z;simp only[cr.bZ,cr.W3,h1,C,u,hc,A,z,bf,ζb,if_true,if_false,Bool.false_eq_true,Fw.elim]
theorem all (p:bT) (B:List (Int×Sl Int)) (h:jk p=some B) (D:List (List V)) (more:Bool) (G:uz D (B.map eI) more):cr D p more=some []:=by
 unfold jk at h;split at h
 .rename_i hk;simp only[ζh,List.all_eq_true]at hk;obtain⟨k1,A,C⟩:=hk;simp only[ζg,ζf]at h;obtain⟨s,I,c,hc,r,hr,rfl⟩:=h;have hc:(gH s).bind Sl.whole=some c:=hc;obtain⟨u,w,J⟩:=uz.step G;have hi:=Wq p p.vars (Cn k1) D more p.vars.l 0 rfl .nil s I;rw[show ((0:Nat):Int)=0 from rfl]at hi;have w:yl D more [.int .i64 0,enc c]=some ((more || !u.isEmpty),u):=w;unfold cr cr.W1;simp only[hi,ζb,Fw.elim,hc,w];rcases J with⟨g1,g2⟩|⟨g1,rfl⟩
  .obtain⟨O,rfl,z⟩:=eY p.events (Cn A) (λe L=>Cn (C e L)) more p.events.l 0 rfl s r hr u g2
   rw[show ((0:Nat):Int)=0 from rfl]at z;rw[g1];simp only[bf,if_true,cr.W2];rcases z with q|q <;> (rw[q];rfl)
  .rw[g1];rfl
 .cases h
theorem vG {α:Type} [bB α] {a b:Sl α} (h:cq a=cq b):rows a.l=rows b.l:=by
 cases a <;> cases b <;> first|rfl|(simp only[cq,Sl.k,ow,V.fsl.injEq,true_and,reduceCtorEq]at h;done)|(simp only[cq,Sl.k,ow,V.fsl.injEq,true_and,reduceCtorEq]at h;exact h)
theorem HT:∀(a b:List Var),rows a=rows b->∀s,ve a s=ve b s
 | [],[],_,_=>rfl
 | [],_::_,h,_=>by simp[rows]at h
 | _::_,[],h,_=>by simp[rows]at h
 | x::a,y::b,h,s=>by
  simp only[rows,List.map_cons,List.cons.injEq]at h;have h1:x.init_=y.init_:=by
   have:=h.1;change [V.str x.name,V.int .i64 x.init_]=[V.str y.name,V.int .i64 y.init_]at this;simpa using (List.cons.inj (List.cons.inj this).2).1
  simp only[ve,h1,funext (HT a b h.2)]
theorem Gw:∀(a b:List Assign),rows a=rows b->∀s,vo a s=vo b s
 | [],[],_,_=>rfl
 | [],_::_,h,_=>by simp[rows]at h
 | _::_,[],h,_=>by simp[rows]at h
 | x::a,y::b,h,s=>by
  simp only[rows,List.map_cons,List.cons.injEq]at h;have h1:=h.1;change [V.int .i64 x.var,V.int .i64 x.value]=[V.int .i64 y.var,V.int .i64 y.value]at h1;simp only[List.cons.injEq,V.int.injEq,true_and,and_true]at h1;simp only[vo,h1.1,h1.2,funext (Gw a b h.2)]
theorem IA {x y:Event} (h:cells x=cells y):rows x.assign.l=rows y.assign.l:=by
 change [V.int .i64 x.kind,V.int .i64 x.peer,V.int .i64 x.message,V.int .i64 x.time,cq x.assign]=[V.int .i64 y.kind,V.int .i64 y.peer,V.int .i64 y.message,V.int .i64 y.time,cq y.assign]at h;simp only[List.cons.injEq]at h;exact vG h.2.2.2.2.1
theorem vI:∀(a b:List Event),rows a=rows b->∀k s,vg k a s=vg k b s
 | [],[],_,_,_=>rfl
 | [],_::_,h,_,_=>by simp[rows]at h
 | _::_,[],h,_,_=>by simp[rows]at h
 | x::a,y::b,h,k,s=>by
  simp only[rows,List.map_cons,List.cons.injEq]at h;simp only[vg,Gw _ _ (IA h.1),vI a b h.2]
theorem B2 {α:Type} [bB α] {a b:List α} (h:rows a=rows b):a.length=b.length:=by
 have:=congrArg List.length h;simpa [rows]using this
theorem Ie:∀(a b:List Event),rows a=rows b->(a.all λe=>oE e.assign.l.length)=b.all λe=>oE e.assign.l.length
 | [],[],_=>rfl
 | [],_::_,h=>by simp[rows]at h
 | _::_,[],h=>by simp[rows]at h
 | x::a,y::b,h=>by
  simp only[rows,List.map_cons,List.cons.injEq]at h;simp only[List.all_cons,B2 (IA h.1),Ie a b h.2]
def uZ (f:FuncId) (g:FuncId) (a b:List V) (xs:List (List V)):Prop:=∃(p:bT) (u:List (Int×Sl Int)),g=f/\a=[]/\b=[.fptr (cells p)]/\jk p=some u/\xs=u.map eI
theorem uZ.uniq {f g:FuncId} {a b:List V} {xs ys:List (List V)} (h:uZ f g a b xs) (k:uZ f g a b ys):xs=ys:=by
 obtain⟨p,B,rfl,rfl,rfl,h1,rfl⟩:=h;obtain⟨w,z,_,_,u,A,rfl⟩:=k;simp only[List.cons.injEq,V.fptr.injEq,and_true]at u;change [V.str p.name,cq p.vars,cq p.events]=[V.str w.name,cq w.vars,cq w.events]at u;simp only[List.cons.injEq]at u;have r1:=vG u.2.1;have r2:=vG u.2.2.1;unfold jk at h1 A;rw[B2 r1,B2 r2,Ie _ _ r2,HT _ _ r1,funext (λs=>vI _ _ r2 0 s)]at h1
 have e:=h1.symm.trans A;cases e;rfl
end IST
end Go.VE
namespace Go.VE
open Go.Proofs.YtlmckmkfopljoaaGreatDoor
noncomputable section
def IM (f:FuncId) (a b:List V) (xs:List (List V)):Prop:=trace_events_c1.uZ 184 f a b xs\/IST.uZ 179 f a b xs
noncomputable def Sy:Sys:=⟨E,λn=>n,xE IM,xH E,F_⟩
abbrev cL:b7:=dM Sy Tx
theorem TY:∃fi,E.ft 184=some fi/\wH E some fi trace_events_c1.text:=Uu (by kernel_rfl)
theorem Ro:vq Sy Tx where
 fn f rf h:=let ⟨u,h1,w⟩:=BM h;⟨u,some,h1,x_,w⟩
 wQ f z y h:=FC h
 prm:=Gg
theorem Ho (p:bT) (B:List (Int×Sl Int)) (h1:jk p=some B):e_ Sy 179 [] [.fptr (cells p)] (B.map IST.eI):=by
 have w:Tx 179=some (qE (Tx 179)):=zX (by kernel_rfl)
 obtain⟨D,z,A⟩:=BM w;have e1:Nat.ble (([]:List V).length+1+[V.fptr (cells p)].length) (qE (Tx 179)).na=true:=by kernel_rfl
 have e2:(qE (Tx 179)).rs=[]:=by kernel_rfl
 have e3:Sy.E=Sb.E:=rfl;exact O1 e3 Gg (tU UM N5) N5 z x_ A (Nat.le_of_ble_eq_true e1) e2 λu more C y=>IB.xX more y u p [] (by rw[IST.all p B h1 u more C];rfl)
theorem JV:∀f a b xs,Sy.items f a b=some xs->e_ Sy f a b xs:=by
 intro f a b xs h;have h:IM f a b xs:=KD h;rcases h with h|h
 .obtain⟨t,u,rfl,rfl,rfl,h1,rfl⟩:=h;obtain⟨C,w,z⟩:=TY;exact OO Sy w x_ z (Nat.le_of_ble_eq_true rfl) rfl λA more B y=>trace_events_c1.all t u h1 A more B y
 .obtain⟨p,u,rfl,rfl,rfl,h1,rfl⟩:=h;exact Ho p u h1
theorem yo (t:Trace) (B:List (aY×Event)) (h:jh t=some B):Sy.items 184 [] [.fptr (cells t)]=some (B.map λx:aY×Event=>[enc x.1,enc x.2]):=
 Dn (.inl ⟨t,B,rfl,rfl,rfl,h,rfl⟩) (λu hy=>by rcases hy with hy|hy <;> first|exact hy.uniq ⟨t,B,rfl,rfl,rfl,h,rfl⟩|(obtain⟨_,_,hy,_⟩:=hy;exact absurd hy (by decide)))
theorem EH (p:bT) (B:List (Int×Sl Int)) (h:jk p=some B):Sy.items 179 [] [.fptr (cells p)]=some (B.map λx:Int×Sl Int=>[enc x.1,enc x.2]):=
 Dn (.inr ⟨p,B,rfl,rfl,rfl,h,rfl⟩) (λu hy=>by rcases hy with hy|hy <;> first|exact hy.uniq ⟨p,B,rfl,rfl,rfl,h,rfl⟩|(obtain⟨_,_,hy,_⟩:=hy;exact absurd hy (by decide)))
theorem NG:Sy.wQ 10 []=some (.bool true):=Fi (Jc rfl ⟨1,[],by kernel_rfl⟩)
end
end Go.VE
namespace Go.VE
noncomputable section
def ug (D:Trace) (B:aY):Option Event:=
 (idx D.procs B.proc).bind λu=>
 (idx u.events (IntKind.wrap .i64 (B.index-1))).bind λw=>
 some w
instance Ve (B:Trace) (D:aY):Fc Sy cL (ug B D):=Fc.N 115 [enc B,enc D] (bY 2 2 B (bF 10 λw _=>bF 5 λu _=>m_ 1 4 0 u aZ))
namespace dI
def bZ (B G p7:Int) (D:Trace) (J:aY) (i8:Int):Option (Fw Int Unit aY):=
 (idx D.procs p7).bind λw=>
 bf (decide (i8<(len w.events)))
 ((idx D.procs p7).bind λz=>
 (idx z.events i8).bind λu=>
 (bf (u.kind==B)
 (some (u.message==G))
 (some false):Option Bool).bind λA=>
 bf A
 (some (.r (⟨p7,IntKind.wrap .i64 (i8+1)⟩:aY)))
 (some (.n (IntKind.wrap .i64 (i8+1)))))
 (some (.x ()))
def W2 (B J p7 i8:Int) (D:Trace) (G:aY):Option (Fw Int Unit aY):=
 (bW (λq:Int=>bZ B J p7 D G q) i8).bind (Fw.elim
 (λe=>some (.n (IntKind.wrap .i64 (p7+1))))
 (λe=>some (.r e)))
def br (B J:Int) (D:Trace) (G:aY) (p7:Int):Option (Fw Int Unit aY):=
 bf (decide (p7<(len D.procs)))
 (W2 B J p7 0 D G)
 (some (.x ()))
def W1 (B J p7:Int) (D:Trace) (G:aY):Option aY:=
 (bW (λq:Int=>br B J D G q) p7).bind (Fw.elim
 (λe=>some ⟨0,0⟩)
 (λe=>some e))
end dI
def dI (D:Trace) (B G:Int):Option aY:=
 dI.W1 B G 0 D (⟨0,0⟩:aY)
open dI in
instance TM (D:Trace) (B G:Int):Fc Sy cL (dI D B G):=Fc.M 54 [enc D,.int .i64 B,.int .i64 G] (bY 2 3 D (dU 11 (λu=>(bO [Iv 1 B,Iv 2 G,Pv 3,Pv 6,Iv 7 u] [Xb 3 D,Xb 6 (⟨0,0⟩:aY)])) (λw=>(0,(bO [Pv 6] [Xb 6 (⟨0,0⟩:aY)]))) (λw=>(bO [Pv 6] [Xb 6 w])) (λu=>ct 7 D.procs (bq 3 14 (dU 12 (λA=>(bO [Iv 1 B,Iv 2 G,Pv 3,Pv 6,Iv 7 u,Iv 8 A] [Xb 3 D,Xb 6 (⟨0,0⟩:aY)])) (λz=>(2,(bO [Iv 1 B,Iv 2 G,Pv 3,Pv 6,Iv 7 u] [Xb 3 D,Xb 6 (⟨0,0⟩:aY)]))) (λz=>(bO [Pv 6] [Xb 6 z])) (λA=>bF 8 λC _=>ct 2 C.events (bq 3 25 (bF 10 λJ _=>bF 3 λI _=>m_ 2 9 0 I (bE 9 5 [9,41] 46 (bq 9 41 (bl 5) (bl 5)) λL=>bq 2 46 aZ aZ)) aZ)) (λz=>aZ) (λz=>aZ)) aZ)) (λw=>aZ) (λw=>aZ)))
namespace dN
def J1 (B:Sl aY) (D:Trace) (G:aY):Option (Sl aY):=
 (ug D G).bind λu=>
 bf (u.kind==3)
 ((dI D 2 u.message).bind λw=>
 (iP B (w:aY)).bind λz=>
 some z)
 (some B)
end dN
def dN (D:Trace) (B:aY):Option (Sl aY):=
 bf (decide (B.index>1))
 (dN.J1 (Sl.row [⟨B.proc,IntKind.wrap .i64 (B.index-1)⟩]:Sl aY) D B)
 (dN.J1 (Sl.nil:Sl aY) D B)
open dN in
theorem zx (D:Trace) (B:aY):Le ((dN D B).bind λr=>some (cW r)) (cn Sy cL (zQ (tr Tx 116)) (.rc (tb Tx 116),[],start ([enc D,enc B].map .v) [])):=
 bY 2 2 D (bq 17 9 (QH 10 17 18 .bX (⟨B.proc,IntKind.wrap .i64 (B.index-1)⟩:aY) (nZ 5 (bu 4 λu _=>m_ 1 6 0 u (bq 10 24 (bu 6 λw _=>xe 1 2005 30 31 λz _=>aZ) aZ)))) (nZ 5 (bu 4 λu _=>m_ 1 6 0 u (bq 10 24 (bu 6 λw _=>xe 1 2005 30 31 λz _=>aZ) aZ))))
def oA (dir:aY->Option (Sl aY)):List (List Bool)×List aY->Option (Fw (List (List Bool)×List aY) (List (List Bool)) Empty)
 | (out,[])=>some (.x out)
 | (out,y::rest)=>if 0<=y.proc/\0<=y.index then(out[y.proc.toNat]?).bind λrow=>(row[y.index.toNat]?).bind λb=>
  bf b (some (.n (out,rest))) ((dir y).bind λmore=>if rest.length+more.l.length<=2147483648 then some (.n (out.set y.proc.toNat (row.set y.index.toNat true),rest++more.l))else none)else none
def gK (t:Trace):List (List Bool):=t.procs.l.map λP=>List.replicate (P.events.l.length+1) false
def zF (t:Trace):Bool:=decide (t.procs.l.length<=2147483648)&&t.procs.l.all λP=>decide (P.events.l.length+1<=2147483648)
def nested (out:List (List Bool)):Sl (Sl Bool):=if out=[]then .nil else .row (out.map .row)
def nv (t:Trace) (x:aY):Option (Sl (Sl Bool)):=
 if zF t then(dN t x).bind λs=>(bW (oA (dN t)) (gK t,s.l)).bind (Fw.elim (λout=>some (nested out)) (λe=>Empty.elim e))else none
end
end Go.VE
namespace Go.VE
namespace pastX
abbrev wR:Nat->FuncId:=λn=>n
def r1:List RO:=[o2 2 (.a .box) [0] [],o2 3 (.a .box) [1] [],o1 4 (.k (.bX)) []]
def r2:List RO:=[o1 5 (.k (.bX)) []]
def r3:List RO:=[o1 6 (.k (.int .i64 0)) []]
def r4:List RO:=[o1 11 6 [],o2 12 (fa 0) [2] [],o2 13 (ld 1) [12] [],o2 14 ln [13] [],o2 15 (bI .lss) [11,14] []]
def r5:List RO:=[o1 18 5 [],o2 19 (fa 0) [2] [],o2 20 (ld 1) [19] [],o1 21 6 [],o2 22 (ix 3) [20,21] [],o2 23 (fa 2) [22] [],o2 24 (ld 1) [23] [],o2 25 ln [24] [],o2 26 (bI .add) [25,.k (.int .i64 1)] [],o2 27 (.a (.makeSl 1 [.bool false])) [26,26] [],o2 28 (.a (.buildSl 1 1 [.bX] [0])) [27] [],o2 29 (.l (.append 1)) [18,28] [],o1 5 29 []]
def r6:List RO:=[o1 16 6 [],o2 17 (bI .add) [16,.k (.int .i64 1)] [],o1 6 17 []]
def L1:RC:=.seq (.seq (.ops r4) (.cond (.s 15) (.skip) (.exit 0))) (.seq (.block 1 (.ops r5)) (.ops r6))
def r7:List RO:=[o2 30 (lD 1) [2] [],o2 31 (lD 2) [3] [],o2 32 .c [.f 116,30,31] [],o1 7 32 []]
def r8:List RO:=[o1 33 7 [],o2 34 ln [33] [],o2 35 (bI .gtr) [34,.k (.int .i64 0)] []]
def r9:List RO:=[o1 36 7 [],o2 37 (ix 2) [36,.k (.int .i64 0)] [],o2 38 (lD 2) [37] [],o2 8 (.a (.alloc 2 [.int .i64 0,.int .i64 0])) [] [],oz (su 2) [8,38] []]
def HA:List RO:=[o1 39 7 [],o2 40 (.p (.slice 2 true false)) [39,.k (.int .i64 1)] [],o1 7 40 []]
def Ht:List RO:=[o1 41 5 [],o2 42 (fa 0) [8] [],o2 43 (ld 1) [42] [],o2 44 (ix 1) [41,43] [],o2 45 (ld 1) [44] [],o2 46 (fa 1) [8] [],o2 47 (ld 1) [46] [],on 48 (ix 1) [45,47] [],on 49 (ld 1) [48] []]
def IG:List RO:=[o1 50 5 [],o2 51 (fa 0) [8] [],o2 52 (ld 1) [51] [],o2 53 (ix 1) [50,52] [],o2 54 (ld 1) [53] [],o2 55 (fa 1) [8] [],o2 56 (ld 1) [55] [],on 57 (ix 1) [54,56] [],oy (su 1) [57,.k (.bool true)] []]
def GZ:List RO:=[o2 58 (lD 1) [2] [],o2 59 (lD 2) [8] [],o2 60 .c [.f 116,58,59] [],o1 9 60 []]
def Ii:List RO:=[o1 10 (.k (.int .i64 0)) []]
def Iy:List RO:=[o1 61 10 [],o1 62 9 [],o2 63 ln [62] [],o2 64 (bI .lss) [61,63] []]
def r16:List RO:=[o1 67 7 [],o1 68 9 [],o1 69 10 [],o2 70 (ix 2) [68,69] [],o2 71 (lD 2) [70] [],o2 72 (.a (.buildSl 2 1 [.int .i64 0,.int .i64 0] [0])) [71] [],o2 73 (.l (.append 2)) [67,72] [],o1 7 73 []]
def Mq:List RO:=[o1 65 10 [],o2 66 (bI .add) [65,.k (.int .i64 1)] [],o1 10 66 []]
def L3:RC:=.seq (.seq (.ops Iy) (.cond (.s 64) (.skip) (.exit 4))) (.seq (.block 5 (.ops r16)) (.ops Mq))
def L2:RC:=.seq (.seq (.ops r8) (.cond (.s 35) (.skip) (.exit 2))) (.block 3 (.seq (.ops r9) (.seq (.ops HA) (.seq (.seq (.pG Ht) (.cond (.s 49) (.exit 3) (.skip))) (.seq (.pG IG) (.seq (.ops GZ) (.seq (.ops Ii) (.block 4 (.loop L3)))))))))
def Wh:List RO:=[o1 74 5 [],o1 4 74 []]
def code:RC:=.seq (.ops r1) (.seq (.ops r2) (.seq (.seq (.ops r3) (.block 0 (.loop L1))) (.seq (.ops r7) (.seq (.block 2 (.loop L2)) (.seq (.ops Wh) (.ret))))))
noncomputable abbrev v_:=Go.Proofs.YtlmckmkfopljoaaGreatDoor.E
def jM (out:List (List Bool)):List (List V):=out.map λr=>r.map V.bool
theorem shape:∃fi,v_.ft (wR 81)=some fi/\bP ⟨v_,some,fi.ntmps⟩ false fi.body=some code/\2<=fi.ntmps/\fi.results=[.tmp 4]:=by
 have h:((v_.ft (wR 81)).map λfi=>(bP ⟨v_,some,fi.ntmps⟩ false fi.body,Nat.ble 2 fi.ntmps,fi.results))=some (some code,true,[.tmp 4]):=by kernel_rfl
 obtain⟨fi,h1,u⟩:=ζf.1 h;simp only[ζc]at u;exact⟨fi,h1,u.1,Nat.le_of_ble_eq_true u.2.1,u.2.2⟩
section
variable {E:Env} {N:Nat->FuncId} {t:Trace} {x:aY} {k:Nat} {F:Frame} {H H1:bh} {call:dx} {b:Option Nat}
theorem kL {o:RO} {l:List RO} {v:V} {r:Frame×bh} (hg:o.gd=none) (hv:bR E N call b o.now o.k (o.az.map (bA N F)) H=some (v,H1)) (h:cZ E N call b l (bz F o.dst v) H1=some r):cZ E N call b (o::l) F H=some r:=by
 simp[cZ,hg,hv];omega
theorem vp {o:RO} {l:List RO} {v:V} {r:Frame×bh} (hg:o.gd=none) (hv:bR E N call b o.now o.k (o.az.map (bA N F)) H=some (v,H)) (h:cZ E N call b l (bz F o.dst v) H=some r):cZ E N call b (o::l) F H=some r:=kL hg hv h
theorem fh:cZ E N call b [] F H=some (F,H):=rfl
theorem ld1 (h:H[0]? = some (.row 1 [cells t])):eV H (.load 1 false) [.hptr 0 0 0]=some (cq t.procs):=by
 simp[eV,dW,h];rfl
theorem WH {s:Sl bT} {p:bT} {i:Nat} (h:s.l[i]? = some p):lR 3 (cq s) (i:Int)=some (.fptr (cells p)):=by
 have:=Ei (N:=λn=>n) s .i64 i 3 rfl
 simp[bn]at this;rw[this,show idx s i=some p from by unfold idx;grind];rfl
theorem x4 (f2:get F 2=.hptr 0 0 0) (f6:get F 6=.int .i64 k) (h0:H[0]? = some (.row 1 [cells t])) :
 ∃F',cZ E N call none r4 F H=some (F',H)/\get F' 15=.bool (decide (k<t.procs.l.length))/\(∀s,s<11->get F' s=get F s):=by
 refine⟨_,vp (v:=.int .i64 k) rfl ?_ <| vp (v:=.hptr 0 0 0) rfl ?_ <| vp (v:=cq t.procs) rfl ?_ <| vp (v:=.int .i64 t.procs.l.length) rfl ?_ <| vp (v:=.bool (decide (k<t.procs.l.length))) rfl ?_ fh,?_,?_⟩
 .simp[bR,bA,bn,f6]
 .simp[bR,bA,bn,bz,f2,g_]
 .simp only[bR,List.map_cons,List.map_nil,bA,bz,bt,if_true];rw[ld1 h0];rfl
 .simp only[bR,List.map_cons,List.map_nil,bA,bz,bt,if_true];rw[zb];rfl
 .simp[bR,bA,bn,bz,jv,qG]
 .simp[bz]
 .simp[bz,bt]
  grind
theorem xL {n:Nat} (h:n<=2147483648):IntKind.wrap .i64 ((n:Int)+1)=((n+1:Nat):Int):=by
 simp[IntKind.wrap,IntKind.bits];omega
theorem x5 {P:bT} {o:Nat} {ids:List Nat} {rows:List (List V)} (f2:get F 2=.hptr 0 0 0) (f6:get F 6=.int .i64 k) (h0:H[0]? = some (.row 1 [cells t])) (B:t.procs.l[k]? = some P) (G:P.events.l.length+1<=2147483648)
 (D:mw H (get F 5) o ids rows) (hr:rows.length+1<=2147483648) :
 ∃F' H',cZ E N call none r5 F H=some (F',H')/\mw H' (get F' 5) (H.length+2) (ids++[H.length]) (rows++[List.replicate (P.events.l.length+1) (.bool false)])/\H.length<=H'.length/\(∀id,id<H.length->id≠o\/rows=[]->H'[id]? = H[id]?)/\(∀s,s<11->s≠5->get F' s=get F s):=by
 obtain⟨H',p1,p2,p3,p4⟩:=D.push (List.replicate (P.events.l.length+1) (.bool false)) hr;have u:ji (List.replicate (P.events.l.length+1) (V.bool false))=List.replicate (P.events.l.length+1) [.bool false]:=by simp[ji]
 rw[u,List.length_replicate]at p1;have w:=xL (n:=P.events.l.length) (by omega)
 refine⟨_,H',vp (v:=get F 5) rfl ?_ <| vp (v:=.hptr 0 0 0) rfl ?_ <| vp (v:=cq t.procs) rfl ?_ <| vp (v:=.int .i64 k) rfl ?_ <| vp (v:=.fptr (cells P)) rfl ?_ <| vp (v:=.fptr [cq P.events]) rfl ?_ <| vp (v:=cq P.events) rfl ?_ <|
  vp (v:=.int .i64 P.events.l.length) rfl ?_ <| vp (v:=.int .i64 (P.events.l.length+1:Nat)) rfl ?_ <| kL (v:=.hsl H.length 1 0 (P.events.l.length+1)) (H1:=H++[.row 1 (List.replicate (P.events.l.length+1) [.bool false])]) rfl ?_ <|
  kL (v:=.hsl (H.length+1) 1 0 1) (H1:=H++[.row 1 (List.replicate (P.events.l.length+1) [.bool false])]++[.row 1 [[.hsl H.length 1 0 (P.events.l.length+1)]]]) rfl ?_ <|
  kL (v:=.hsl (H.length+2) 1 0 (rows.length+1))  rfl ?_ <| vp (v:=.hsl (H.length+2) 1 0 (rows.length+1)) rfl ?_ fh,?_,p3,p4,?_⟩
 .simp[bR,bA,bn]
 .simp[bR,bA,bn,bz,f2,g_]
 .simp only[bR,List.map_cons,List.map_nil,bA,bz,bt,if_true];rw[ld1 h0];rfl
 .simp[bR,bA,bn,bz,f6]
 .simp only[bR,List.map_cons,List.map_nil,bA,bz,bt,Nat.reduceEqDiff,if_true,if_false,bn];rw[WH B];rfl
 .simp[bR,bA,bz,bt,bn];rfl
 .simp[bR,bA,bz,bt];rfl
 .simp only[bR,List.map_cons,List.map_nil,bA,bz,bt,if_true];rw[zb];rfl
 .simp[bR,bA,bz,bt,bn,jv];grind
 .simp only[bR,List.map_cons,List.map_nil,bA,bz,bt,if_true,iX];rw[if_pos ⟨trivial,trivial,by omega,by omega,by omega⟩]
  simp[Mk.val]
 .simp[bR,bA,bz,bt,iX];simp[gJ,V.cells,V.one,Mk.val]
 .simp only[bR,List.map_cons,List.map_nil,bA,bz,bt,Nat.reduceEqDiff,if_true,if_false];omega
 .simp[bR,bA,bn,bz]
 .simp[bz,bt];omega
 .intro s z A;simp[bz,bt]
  repeat (rw[if_neg (by omega)])
theorem x6 (f6:get F 6=.int .i64 k) (hk:k<=2147483648):∃F',cZ E N call none r6 F H=some (F',H)/\get F' 6=.int .i64 ((k+1:Nat):Int)/\(∀s,s<11->s≠6->get F' s=get F s):=by
 have u:=xL hk;refine⟨_,vp (v:=.int .i64 k) rfl ?_ <| vp (v:=.int .i64 (k+1:Nat)) rfl ?_ <| vp (v:=.int .i64 (k+1:Nat)) rfl ?_ fh,?_,?_⟩
 .simp[bR,bA,bn,f6]
 .simp[bR,bA,bz,bt,bn,jv];grind
 .simp[bR,bA,bn,bz]
 .simp[bz]
 .simp[bz,bt]
  grind
end
structure P1 (t:Trace) (x:aY) (k:Nat) (F:Frame) (H:bh):Prop where
 f2:get F 2=.hptr 0 0 0
 f3:get F 3=.hptr 1 0 0
 f6:get F 6=.int .i64 k
 h0:H[0]? = some (.row 1 [cells t])
 h1:H[1]? = some (.row 2 [cells x])
 ns:∃o ids,mw H (get F 5) o ids (jM ((gK t).take k))/\(k≠0->2<=o)/\∀id∈ids,2<=id
theorem vR (out:List (List Bool)):(jM out).length=out.length:=by simp[jM]
theorem LO {E:Env} {N:Nat->FuncId} {t:Trace} {x:aY} (G:zF t=true):∀(m k:Nat) (F:Frame) (H:bh),k+m=t.procs.l.length->P1 t x k F H->∃F' H',ot E N L1 F H (.exit 0) F' H'/\P1 t x t.procs.l.length F' H':=by
 have A:t.procs.l.length<=2147483648/\∀P∈t.procs.l,P.events.l.length+1<=2147483648:=by
  simpa [zF]using G
 intro m
 induction m with
 | zero=>
  intro k F H hk p;have B:k=t.procs.l.length:=by omega
  obtain⟨F1,e1,e2,e3⟩:=x4 (E:=E)  (call:=⟨0,λ_ _ _=>none⟩) p.f2 p.f6 p.h0
  refine⟨F1,H,ot.stop (Ex.xw (Ex.seq (Ex.eP λc=>?_) (Ex.vc ?_ Ex.exit)) (by simp)) (by simp),?_⟩
  .have:cZ E N c none r4 F H=cZ E N ⟨0,λ_ _ _=>none⟩ none r4 F H:=rfl
   exact e1
  .show get F1 15=_;rw[e2];simp[B]
  .subst B;exact⟨by rw[e3 2 (by omega)];exact p.f2,by rw[e3 3 (by omega)];exact p.f3,by rw[e3 6 (by omega)];exact p.f6,p.h0,p.h1,by rw[e3 5 (by omega)];exact p.ns⟩
 | succ m Y=>
  intro k F H hk p;have w:k<t.procs.l.length:=by omega
  obtain⟨o,ids,T,Z,n3⟩:=p.ns;obtain⟨F1,e1,e2,e3⟩:=x4 (E:=E) (N:=N) (call:=⟨0,λ_ _ _=>none⟩) p.f2 p.f6 p.h0
  have U:=ζd w;have C:((gK t).take k).length=k:=by simp[gK];omega
  have I:mw H (get F1 5) o ids (jM ((gK t).take k)):=by rw[e3 5 (by omega)];exact T
  obtain⟨F2,H2,g1,g2,g3,g4,g5⟩:=x5 (E:=E) (N:=N) (call:=⟨0,λ_ _ _=>none⟩) (by rw[e3 2 (by omega)];exact p.f2) (by rw[e3 6 (by omega)];exact p.f6) p.h0 U (A.2 _ (List.getElem_mem w)) I (by rw[vR,C];omega)
  obtain⟨W,q1,q2,J⟩:=x6 (E:=E) (N:=N) (call:=⟨0,λ_ _ _=>none⟩) (H:=H2)   (by rw[g5 6 (by omega) (by omega),e3 6 (by omega)];exact p.f6) (by omega)
  have X:=T.lt;have L:=(ζe.1 p.h0).1;have O:=(ζe.1 p.h1).1;have u:∀i,i<2->i<H.length->H2[i]? = H[i]? := λi hi X=>g4 i X (by
   by_cases D:k=0
   .subst D;right;simp[jM]
   .left;have:=Z D;omega)
  have Q:P1 t x (k+1) W H2:=by
   refine⟨by rw[J 2 (by omega) (by omega),g5 2 (by omega) (by omega),e3 2 (by omega)];exact p.f2,by rw[J 3 (by omega) (by omega),g5 3 (by omega) (by omega),e3 3 (by omega)];exact p.f3,q2,
    by rw[u 0 (by omega) L];exact p.h0,by rw[u 1 (by omega) O];exact p.h1,H.length+2,ids++[H.length],?_,λ_=>by omega,λid S=>?_⟩
   .rw[J 5 (by omega) (by omega)]
    have z:jM ((gK t).take (k+1))=jM ((gK t).take k)++[List.replicate (t.procs.l[k].events.l.length+1) (.bool false)]:=by
     rw[List.take_add_one];have:(gK t)[k]? = some (List.replicate (t.procs.l[k].events.l.length+1) false):=by simp[gK,U]
     rw[this];simp[jM]
    rw[z];exact g2
   .rcases List.mem_append.1 S with h|h
    .exact n3 id h
    .simp at h;omega
  obtain⟨F',H',r1,r2⟩:=Y (k+1) W H2 (by omega) Q
  refine⟨F',H',ot.step (Ex.seq (Ex.seq (Ex.eP λc=>e1) (Ex.qC ?_ Ex.skip)) (Ex.seq (Ex.block (Ex.eP λc=>g1)) (Ex.eP λc=>q1))) r1,r2⟩
  show get F1 15=_;rw[e2];simp[w]
section
variable {E:Env} {N:Nat->FuncId} {t:Trace} {x y:aY} {F:Frame} {H:bh} {call:dx}
theorem x8 {l:List (List V)} {id:Nat} (h:kq H (get F 7) l id):∃F',cZ E N call none r8 F H=some (F',H)/\get F' 35=.bool (decide (0<l.length))/\(∀s,s<11->get F' s=get F s):=by
 refine⟨_,vp (v:=get F 7) rfl ?_ <| vp (v:=.int .i64 l.length) rfl ?_ <| vp (v:=.bool (decide (0<l.length))) rfl ?_ fh,?_,?_⟩
 .simp[bR,bA,bn]
 .simp[bR,bA,bz,bt,bn,h.len]
 .simp[bR,bA,bn,bz,jv,qG]
 .simp[bz]
 .simp[bz,bt]
  grind
theorem x9 {l:List (List V)} {id:Nat} (h:kq H (get F 7) (cells y::l) id):∃F',cZ E N call none r9 F H=some (F',H++[.row 2 [cells y]])/\get F' 8=.hptr H.length 0 0/\(∀s,s<11->s≠8->get F' s=get F s):=by
 obtain⟨p,p1,p2⟩:=h.get (i:=0)  rfl;refine⟨_,vp (v:=get F 7) rfl ?_ <| vp (v:=p) rfl ?_ <| vp (v:=.agg (cells y)) rfl ?_ <| kL (v:=.hptr H.length 0 0) (H1:=H++[.row 2 [[.int .i64 0,.int .i64 0]]]) rfl ?_ <| kL (v:=.undef)  rfl ?_ fh,?_,?_⟩
 .simp[bR,bA,bn]
 .simp[bR,bA,bz,bt,bn]
  grind
 .simp only[bR,List.map_cons,bA,bz,bt,if_false]
  grind
 .simp[bR,bA,bz,bt,iX,Mk.val]
 .simp[bR,bA,bz,bt];simp[fQ,V.cells,V.one]
 .simp[bz]
 .simp[bz,bt]
  grind
theorem Xd {c:List V} {l:List (List V)} {id:Nat} (h:kq H (get F 7) (c::l) id):∃F',cZ E N call none HA F H=some (F',H)/\kq H (get F' 7) l id/\(∃off m B,get F 7=.hsl id 2 off m/\get F' 7=.hsl id 2 B l.length)/\(∀s,s<11->s≠7->get F' s=get F s):=by
 obtain⟨w',p1,p2,off,m,B,p3,p4⟩:=h.tail;refine⟨_,vp (v:=get F 7) rfl ?_ <| vp (v:=w') rfl ?_ <| vp (v:=w') rfl ?_ fh,?_,⟨off,m,B,p3,?_⟩,?_⟩
 .simp[bR,bA,bn]
 .simp[bR,bA,bz,bt,bn,mI,p1]
 .simp[bR,bA,bn,bz]
 .simp[bz,bt];omega
 .simp[bz,bt];omega
 .simp[bz,bt]
  grind
theorem jN (H:bh):H.take H.length=H:=List.take_length ..
theorem Uf {c:Nat} (hc:H[c]? = some (.row 2 [cells y])):eV H (.load 1 false) [.hptr c 0 0]=some (.int .i64 y.proc)/\eV H (.load 1 false) [.hptr c 0 1]=some (.int .i64 y.index)/\eV H (.load 2 true) [.hptr c 0 0]=some (enc y):=by
 refine⟨?_,?_,?_⟩ <;> simp[eV,dW,hc,cut] <;> rfl
theorem T_ {c o:Nat} {ids:List Nat} {rows:List (List V)} {p j:Nat} {r:List V} {u:V} (B:get F 8=.hptr c 0 0) (hc:H[c]? = some (.row 2 [cells y])) (D:mw H (get F 5) o ids rows) (hp:y.proc=p) (G:y.index=j) (hr:rows[p]? = some r) (hu:r[j]? = some u) :
 ∃F',cZ E N call (some H.length) Ht F H=some (F',H)/\get F' 49=u/\(∀s,s<11->get F' s=get F s):=by
 obtain⟨id,w,z,A,C,I⟩:=D.cell hr hu;obtain⟨J,L,_⟩:=Uf hc;refine⟨_,vp (v:=get F 5) rfl ?_ <| vp (v:=.hptr c 0 0) rfl ?_ <| vp (v:=.int .i64 p) rfl ?_ <| vp (v:=.hptr o p 0) rfl ?_ <| vp (v:=.hsl id 1 0 r.length) rfl ?_ <| vp (v:=.hptr c 0 1) rfl ?_ <| vp (v:=.int .i64 j) rfl ?_ <| vp (v:=.hptr id j 0) rfl ?_ <| vp (v:=u) rfl ?_ fh,?_,?_⟩
 .simp[bR,bA,bn]
 .simp[bR,bA,bn,bz,B,g_]
 .simp[bR,bA,bz,bt,jN];grind
 .simp[bR,bA,bz,bt,bn];grind
 .simp[bR,bA,bz,bt,jN];grind
 .simp[bR,bA,bn,bz,B,g_]
 .simp[bR,bA,bz,bt,jN];grind
 .simp[bR,bA,bz,bt,bn];grind
 .simp[bR,bA,bz,bt,jN];simp_all
 .simp[bz]
 .simp[bz,bt]
  grind
theorem W0 {c o:Nat} {ids:List Nat} {rows:List (List V)} {p j:Nat} {r:List V} {u:V} (B:get F 8=.hptr c 0 0) (hc:H[c]? = some (.row 2 [cells y])) (D:mw H (get F 5) o ids rows) (hp:y.proc=p) (G:y.index=j) (hr:rows[p]? = some r) (hu:r[j]? = some u) :
 ∃F' H',cZ E N call (some H.length) IG F H=some (F',H')/\mw H' (get F' 5) o ids (rows.set p (r.set j (.bool true)))/\H'.length=H.length/\(∀i,i∉ids->H'[i]? = H[i]?)/\(∀s,s<11->get F' s=get F s):=by
 obtain⟨id,w,I,J,z,L⟩:=D.cell hr hu;obtain⟨O,Q,_⟩:=Uf hc;obtain⟨H',s1,S,A,C⟩:=D.set hr (ζe.1 hu).1 w (u:=.bool true) rfl rfl;refine⟨_,H',vp (v:=get F 5) rfl ?_ <| vp (v:=.hptr c 0 0) rfl ?_ <| vp (v:=.int .i64 p) rfl ?_ <| vp (v:=.hptr o p 0) rfl ?_ <| vp (v:=.hsl id 1 0 r.length) rfl ?_ <| vp (v:=.hptr c 0 1) rfl ?_ <| vp (v:=.int .i64 j) rfl ?_ <| vp (v:=.hptr id j 0) rfl ?_ <| kL (v:=.undef)  rfl ?_ fh,?_,A,λi hi=>C i λe=>hi (e▸List.mem_of_getElem? w),?_⟩
 .simp[bR,bA,bn]
 .simp[bR,bA,bn,bz,B,g_]
 .simp[bR,bA,bz,bt,jN];grind
 .simp[bR,bA,bz,bt,bn];grind
 .simp[bR,bA,bz,bt,jN];grind
 .simp[bR,bA,bn,bz,B,g_]
 .simp[bR,bA,bz,bt,jN];grind
 .simp only[bR,List.map_cons,List.map_nil,bA,bz,bt,Nat.reduceEqDiff,if_true,if_false,bn];rw[z];rfl
 .simp[bR,bA,bz,bt,s1]
 .simp[bz,bt];omega
 .simp[bz,bt]
  grind
def Ge (E:Env) (N:Nat->FuncId) (t:Trace) (dir:aY->Option (Sl aY)):Prop:=∀(y:aY) (s:Sl aY) (H:bh),dir y=some s ->
 ∃w X id,(∃n,∀k,n<=k->fC E (run E k) (N 116) [enc t,enc y] H=some (w,H++X))/\kq (H++X) w (s.l.map cells) id/\(∀off m,w=.hsl id 2 off m->id=H.length)
theorem Wk {a d:Nat} (hd:E.keep (N 116)=true) {dir:aY->Option (Sl aY)} (D:Ge E N t dir) {s:Sl aY} (B:dir y=some s) (f2:get F 2=.hptr 0 0 0) (h0:H[0]? = some (.row 1 [cells t])) {c:Nat} (hc:H[c]? = some (.row 2 [cells y])) :
 ∃w X id,kq (H++X) w (s.l.map cells) id/\(∀off m,w=.hsl id 2 off m->id=H.length) /\
  (get F 8=.hptr c 0 0->∃F',(∃n,∀k,n<=k->cZ E N (run E k) none GZ F H=some (F',H++X))/\get F' 9=w/\(∀s,s<11->s≠9->get F' s=get F s)) /\
  (get F 3=.hptr c 0 0->∃F',(∃n,∀k,n<=k->cZ E N (run E k) none r7 F H=some (F',H++X))/\get F' 7=w/\(∀s,s<11->s≠7->get F' s=get F s)):=by
 obtain⟨w,X,id,⟨n,e1⟩,e2,e3⟩:=D y s H B;have z:eV H (.load 1 true) [.hptr 0 0 0]=some (enc t):=by
  simp[eV,dW,h0,Ob.rows,cut];rfl
 obtain⟨_,_,A⟩:=Uf hc;refine⟨w,X,id,e2,e3,λC=>⟨_,⟨n,λk hk=>vp (v:=enc t) rfl ?_ <| vp (v:=enc y) rfl ?_ <| kL (v:=w) (H1:=H++X) rfl ?_ <| vp (v:=w) rfl ?_ fh⟩,?_,?_⟩,λf3=>⟨_,⟨n,λk hk=>vp (v:=enc t) rfl ?_ <| vp (v:=enc y) rfl ?_ <| kL (v:=w) (H1:=H++X) rfl ?_ <| vp (v:=w) rfl ?_ fh⟩,?_,?_⟩⟩
 .simp only[bR,List.map_cons,List.map_nil,bA,f2];rw[z];rfl
 .simp only[bR,List.map_cons,List.map_nil,bA,bz,bt,Nat.reduceEqDiff,if_true,if_false,C];rw[A];rfl
 .simp only[bR,List.map_cons,List.map_nil,bA,bz,bt,Nat.reduceEqDiff,if_true,if_false,hd,List.nil_append,List.append_nil];exact e1 k hk
 .simp[bR,bA,bn,bz]
 .simp[bz]
 .intro s B u;simp only[bz,bt];rw[if_neg (Ne.symm u)]
  repeat (rw[if_neg (by omega)])
 .simp only[bR,List.map_cons,List.map_nil,bA,f2];rw[z];rfl
 .simp only[bR,List.map_cons,List.map_nil,bA,bz,bt,Nat.reduceEqDiff,if_true,if_false,f3];rw[A];rfl
 .simp only[bR,List.map_cons,List.map_nil,bA,bz,bt,Nat.reduceEqDiff,if_true,if_false,hd,List.nil_append,List.append_nil];exact e1 k hk
 .simp[bR,bA,bn,bz]
 .simp[bz]
 .intro s B u;simp only[bz,bt];rw[if_neg (Ne.symm u)]
  repeat (rw[if_neg (by omega)])
end
section
variable {E:Env} {N:Nat->FuncId} {F:Frame} {H:bh} {call:dx} {i:Nat}
theorem Rl {l:List (List V)} {id:Nat} (f10:get F 10=.int .i64 i) (h:kq H (get F 9) l id):∃F',cZ E N call none Iy F H=some (F',H)/\get F' 64=.bool (decide (i<l.length))/\(∀s,s<11->get F' s=get F s):=by
 refine⟨_,vp (v:=.int .i64 i) rfl ?_ <| vp (v:=get F 9) rfl ?_ <| vp (v:=.int .i64 l.length) rfl ?_ <| vp (v:=.bool (decide (i<l.length))) rfl ?_ fh,?_,?_⟩
 .simp[bR,bA,bn,f10]
 .simp[bR,bA,bn,bz]
 .simp[bR,bA,bz,bt,bn,h.len]
 .simp[bR,bA,bn,bz,jv,qG]
 .simp[bz]
 .simp[bz,bt]
  grind
theorem WY {l D:List (List V)} {id B:Nat} {c:List V} (f10:get F 10=.int .i64 i) (h:kq H (get F 7) l id) (G:kq H (get F 9) D B) (hc:D[i]? = some c) (J:l.length+1<=2147483648) :
 ∃F' H',cZ E N call none r16 F H=some (F',H')/\kq H' (get F' 7) (l++[c]) (H.length+1)/\H'.length=H.length+2/\(∀i,i<H.length->(∀off m,get F 7=.hsl id 2 off m->i≠id)->H'[i]? = H[i]?)/\(∀s,s<11->s≠7->get F' s=get F s):=by
 have u:=G.c c (List.mem_of_getElem? hc);obtain⟨p,p1,p2⟩:=G.get hc;obtain⟨H',A,C,w,z⟩:=h.push u J;refine⟨_,H',vp (v:=get F 7) rfl ?_ <| vp (v:=get F 9) rfl ?_ <| vp (v:=.int .i64 i) rfl ?_ <| vp (v:=p) rfl ?_ <| vp (v:=.agg c) rfl ?_ <| kL (v:=.hsl H.length 2 0 1) (H1:=H++[.row 2 [c]]) rfl ?_ <| kL (v:=.hsl (H.length+1) 2 0 (l.length+1))  rfl ?_ <| vp (v:=.hsl (H.length+1) 2 0 (l.length+1)) rfl ?_ fh,?_,w,z,?_⟩
 .simp[bR,bA,bn]
 .simp[bR,bA,bn,bz]
 .simp[bR,bA,bn,bz,f10]
 .simp[bR,bA,bz,bt,bn];grind
 .simp[bR,bA,bz,bt];grind
 .simp[bR,bA,bz,bt,iX];simp[gJ,V.cells,Mk.val]
  grind
 .simp[bR,bA,bz,bt];omega
 .simp[bR,bA,bn,bz]
 .simp[bz,bt];omega
 .simp[bz,bt]
  grind
theorem W9 (f10:get F 10=.int .i64 i) (hk:i<=2147483648):∃F',cZ E N call none Mq F H=some (F',H)/\get F' 10=.int .i64 ((i+1:Nat):Int)/\(∀s,s<11->s≠10->get F' s=get F s):=by
 have u:=xL hk;refine⟨_,vp (v:=.int .i64 i) rfl ?_ <| vp (v:=.int .i64 (i+1:Nat)) rfl ?_ <| vp (v:=.int .i64 (i+1:Nat)) rfl ?_ fh,?_,?_⟩
 .simp[bR,bA,bn,f10]
 .simp[bR,bA,bz,bt,bn,jv];grind
 .simp[bR,bA,bn,bz]
 .simp[bz]
 .simp[bz,bt]
  grind
structure P3 (l l9:List (List V)) (B i:Nat) (F:Frame) (H:bh):Prop where
 f10:get F 10=.int .i64 i
 t9:∃id9,kq H (get F 9) l9 id9/\∃id,kq H (get F 7) l id/\(∀off m,get F 7=.hsl id 2 off m->B<=id/\∀off' m',get F 9=.hsl id9 2 off' m'->id≠id9)
 len:B<=H.length
theorem Vy (D:List (List V)) (B:Nat) (Y:D.length<=2147483648):∀(m i:Nat) (l:List (List V)) (F:Frame) (H:bh),i+m=D.length->l.length+m<=2147483648->P3 l D B i F H ->
 ∃F' H',ot E N L3 F H (.exit 4) F' H'/\(∃id,kq H' (get F' 7) (l++D.drop i) id/\∀off m,get F' 7=.hsl id 2 off m->B<=id)/\(∀s,s<7->get F' s=get F s)/\(∀j,j<B->H'[j]? = H[j]?)/\H.length<=H'.length:=by
 intro m
 induction m with
 | zero=>
  intro i l F H hi X p;obtain⟨u,t9,id,t7,A⟩:=p.t9;obtain⟨F1,e1,e2,e3⟩:=Rl (E:=E)  (call:=⟨0,λ_ _ _=>none⟩) p.f10 t9
  refine⟨F1,H,ot.stop (Ex.xw (Ex.seq (Ex.eP λc=>e1) (Ex.vc ?_ Ex.exit)) (by simp)) (by simp),⟨id,?_,λoff m h=>?_⟩,λs S=>e3 s (by omega),λ_ _=>rfl,Nat.le_refl _⟩
  .show get F1 64=_
   grind
  .grind
  grind
 | succ m Z=>
  intro i l F H hi X p;have z:i<D.length:=by omega
  obtain⟨u,t9,id,t7,A⟩:=p.t9;obtain⟨F1,e1,e2,e3⟩:=Rl (E:=E)  (call:=⟨0,λ_ _ _=>none⟩) p.f10 t9
  have hc:=ζd z;have C:kq H (get F1 7) l id:=by grind
  have G:kq H (get F1 9) D u:=by grind
  obtain⟨F2,H2,g1,g2,g3,g4,g5⟩:=WY (E:=E)  (call:=⟨0,λ_ _ _=>none⟩) (by rw[e3 10 (by omega)];exact p.f10) C G hc (by omega)
  obtain⟨T,q1,q2,I⟩:=W9 (E:=E)  (call:=⟨0,λ_ _ _=>none⟩)    (by rw[g5 10 (by omega) (by omega),e3 10 (by omega)];exact p.f10) (by omega)
  have keep:∀j,j<H.length->(∀off m,get F 7=.hsl id 2 off m->j≠id)->H2[j]? = H[j]? := λj J h=>g4 j J (by grind)
  have L:P3 (l++[D[i]]) D B (i+1) T H2:=by
   refine⟨q2,⟨u,?_,H.length+1,by grind,λoff m h=>⟨by have:=p.len;omega,λw m' U=>?_⟩⟩,by have:=p.len;omega⟩
   .rw[I 9 (by omega) (by omega),g5 9 (by omega) (by omega),e3 9 (by omega)]
    exact t9.heap λoff n W=>keep u (t9.lt W) λw m' O=>Ne.symm ((A w m' O).2 off n W)
   .rw[I 9 (by omega) (by omega),g5 9 (by omega) (by omega),e3 9 (by omega)]at U
    have:=t9.lt U;omega
  obtain⟨F',H',r1,⟨Q,r2,r3⟩,r4,r5,r6⟩:=Z (i+1) (l++[D[i]]) T H2 (by omega) (by simp;omega) L
  refine⟨F',H',ot.step (Ex.seq (Ex.seq (Ex.eP λc=>e1) (Ex.qC ?_ Ex.skip)) (Ex.seq (Ex.block (Ex.eP λc=>g1)) (Ex.eP λc=>q1))) r1,⟨Q,?_,r3⟩,λs S=>?_,λj J=>?_,by omega⟩
  .show get F1 64=_
   grind
  .rw[List.append_assoc]at r2;rw[List.drop_eq_getElem_cons z];exact r2
  .rw[r4 s S,I s (by omega) (by omega),g5 s (by omega) (by omega),e3 s (by omega)]
  .have:=p.len;rw[r5 j J,keep j (by omega) λoff m h=>by have:=(A off m h).1;omega]
end
structure P2 (t:Trace) (out:List (List Bool)) (l:List aY) (F:Frame) (H:bh):Prop where
 f2:get F 2=.hptr 0 0 0
 h0:H[0]? = some (.row 1 [cells t])
 ns:∃B o ids id,mw H (get F 5) o ids (jM out)/\(out≠[]->1<=o/\o<B)/\(∀id∈ids,1<=id/\id<B)/\1<=B/\B<=H.length/\kq H (get F 7) (l.map cells) id/\∀off m,get F 7=.hsl id 2 off m->B<=id
theorem O8 (out:List (List Bool)) (p j:Nat) (row:List Bool):jM (out.set p (row.set j true))=(jM out).set p ((row.map V.bool).set j (.bool true)):=by
 simp[jM]
theorem Iu {out:List (List Bool)}:jM out=[]↔out=[]:=by simp[jM]
theorem OM {dir:aY->Option (Sl aY)} {out:List (List Bool)} {y:aY} {rest:List aY} {w:Fw (List (List Bool)×List aY) (List (List Bool)) Empty} (h:oA dir (out,y::rest)=some w) :
 ∃(p j:Nat) (row:List Bool) (b:Bool),y.proc=p/\y.index=j/\out[p]? = some row/\row[j]? = some b/\((b=true/\w=.n (out,rest))\/(b=false/\∃more,dir y=some more/\rest.length+more.l.length<=2147483648/\w=.n (out.set p (row.set j true),rest++more.l))):=by
 simp only[oA]at h;split at h
 .obtain⟨row,h1,h⟩:=ζg.1 h;obtain⟨b,u,h⟩:=ζg.1 h;refine⟨y.proc.toNat,y.index.toNat,row,b,by omega,by omega,h1,u,?_⟩
  cases b with
  | true=>simp[bf]at h;grind
  | false=>
   obtain⟨more,z,h⟩:=ζg.1 h
   grind
 simp_all
theorem LZ {E:Env} {N:Nat->FuncId} {t:Trace} {dir:aY->Option (Sl aY)} (hd:E.keep (N 116)=true) (hD:Ge E N t dir):∀(k:Nat) (out:List (List Bool)) (l:List aY) (D:List (List Bool)) (F:Frame) (H:bh),
 jD (oA dir) k (out,l)=some (.x D)->P2 t out l F H->∃F' H',ot E N L2 F H (.exit 2) F' H'/\P2 t D [] F' H':=by
 intro k
 induction k with
 | zero=>intro out l D F H h;simp[jD]at h
 | succ k ih=>
  intro out l D F H h p;obtain⟨B,o,ids,id,n1,n2,W,n4,n5,t7,t8⟩:=p.ns;obtain⟨F1,e1,e2,e3⟩:=x8 (E:=E) (N:=N) (call:=⟨0,λ_ _ _=>none⟩) t7
  rw[List.length_map]at e2
  cases l with
  | nil=>
   simp only[jD,oA]at h;cases h;refine⟨F1,H,ot.stop (Ex.xw (Ex.seq (Ex.eP λc=>e1) (Ex.vc ?_ Ex.exit)) (by simp)) (by simp),?_⟩
   .show get F1 35=_;rw[e2];simp
   .exact⟨by rw[e3 2 (by omega)];exact p.f2,p.h0,B,o,ids,id,by rw[e3 5 (by omega)];exact n1,n2,W,n4,n5,by rw[e3 7 (by omega)];exact t7,by rw[e3 7 (by omega)];exact t8⟩
  | cons y rest=>
   simp only[jD]at h
   cases I:oA dir (out,y::rest)with
   | none=>rw[I]at h;cases h
   | some w=>
   rw[I]at h;obtain⟨q,j,row,b,hq,hj,u,hb,J⟩:=OM I;have L:kq H (get F1 7) (cells y::rest.map cells) id:=by rw[e3 7 (by omega)];exact t7
   obtain⟨F2,g1,g2,g3⟩:=x9 (E:=E) (N:=N) (call:=⟨0,λ_ _ _=>none⟩) L
   have aa:kq (H++[.row 2 [cells y]]) (get F2 7) (cells y::rest.map cells) id:=by rw[g3 7 (by omega) (by omega)];exact L.more _
   obtain⟨F3,i1,i2,⟨C,m1,ab,i3,i4⟩,i5⟩:=Xd (E:=E) (N:=N) (call:=⟨0,λ_ _ _=>none⟩) aa
   have O:(H++[Ob.row 2 [cells y]])[H.length]? = some (.row 2 [cells y]):=by simp
   have f8:get F3 8=.hptr H.length 0 0:=by rw[i5 8 (by omega) (by omega)];exact g2
   have f5:get F3 5=get F 5:=by rw[i5 5 (by omega) (by omega),g3 5 (by omega) (by omega),e3 5 (by omega)]
   have f2:get F3 2=.hptr 0 0 0:=by rw[i5 2 (by omega) (by omega),g3 2 (by omega) (by omega),e3 2 (by omega)];exact p.f2
   have Q:mw (H++[.row 2 [cells y]]) (get F3 5) o ids (jM out):=by rw[f5];exact n1.more _
   have hr:(jM out)[q]? = some (row.map V.bool):=by simp[jM,u]
   have hu:(row.map V.bool)[j]? = some (.bool b):=by simp[hb]
   have S:B<=id:=by
    have:get F 7=.hsl id 2 C m1:=by rw[<-i3,g3 7 (by omega) (by omega),e3 7 (by omega)]
    exact t8 _ _ this
   obtain⟨F4,j1,j2,z⟩:=T_ (E:=E) (N:=N) (call:=⟨0,λ_ _ _=>none⟩) f8 O Q hq hj hr hu
   have ad:bA N F1 (.s 35)=.bool true:=by show get F1 35=_;rw[e2];simp
   rcases J with⟨rfl,rfl⟩|⟨rfl,more,hm,aq,rfl⟩
   .simp only at h;have T:P2 t out rest F4 (H++[.row 2 [cells y]]):=by
     refine⟨by rw[z 2 (by omega)];exact f2,by rw[List.getElem?_append_left (ζe.1 p.h0).1];exact p.h0,B,o,ids,id,by rw[z 5 (by omega)];exact Q,n2,W,n4,by simp;omega,by rw[z 7 (by omega)];exact i2,λoff m _=>S⟩
    obtain⟨F',H',r1,r2⟩:=ih out rest D F4 _ h T;exact⟨F',H',ot.step (Ex.seq (Ex.seq (Ex.eP λc=>e1) (Ex.qC ad Ex.skip)) (Ex.xJ (Ex.seq (Ex.eP λc=>g1) (Ex.seq (Ex.eP λc=>i1) (Ex.xw (Ex.seq (Ex.pG rfl λc=>j1) (Ex.qC j2 Ex.exit)) (by simp)))))) r1,r2⟩
   .simp only at h;have n6:mw (H++[.row 2 [cells y]]) (get F4 5) o ids (jM out):=by rw[z 5 (by omega)];exact Q
    obtain⟨F5,A,k1,k2,k3,k4,k5⟩:=W0 (E:=E) (N:=N) (call:=⟨0,λ_ _ _=>none⟩) (by rw[z 8 (by omega)];exact f8) O n6 hq hj hr hu
    have G:∀i,B<=i->i∉ids:=λi hi hm=>by have:=(W i hm).2;omega
    have ah:A[H.length]? = some (.row 2 [cells y]):=by rw[k4 _ (G _ n5)];exact O
    have U:A[0]? = some (.row 1 [cells t]):=by
     rw[k4 0 (λhm=>by have:=(W 0 hm).1;omega),List.getElem?_append_left (ζe.1 p.h0).1];exact p.h0
    obtain⟨w9,X,ai,aj,m2,m3,_⟩:=Wk (a:=0) (d:=0) (F:=F5) hd hD hm (by rw[k5 2 (by omega),z 2 (by omega)];exact f2) U ah
    obtain⟨Y,⟨nn,ak⟩,ae,o3⟩:=m3 (by rw[k5 8 (by omega),z 8 (by omega)];exact f8)
    have au:A.length=H.length+1:=by rw[k3];simp
    have i7:get Y 7=.hsl id 2 ab (rest.map cells).length:=by rw[o3 7 (by omega) (by omega),k5 7 (by omega),z 7 (by omega)];exact i4
    have ar:id<H.length:=by
     have:=L.lt (off:=C) (m:=m1) (by rw[<-i3,g3 7 (by omega) (by omega)])
     exact this
    have t6:kq (A++X) (get Y 7) (rest.map cells) id:=by
     have:get Y 7=get F3 7:=by rw[o3 7 (by omega) (by omega),k5 7 (by omega),z 7 (by omega)]
     rw[this];refine(i2.heap (H':=A) λoff n _=>k4 id (G id S)).more X
    have al:∃Z,(∀c,cZ E N c none Ii Y (A++X)=some (Z,A++X))/\get Z 10=.int .i64 ((0:Nat):Int)/\∀s,s<10->get Z s=get Y s:=
     ⟨set Y 10 (.int .i64 0),λc=>by simp[Ii,cZ,bR,bA,bn,bz],by simp,λs hs=>by rw[bt,if_neg (by omega)]⟩
    obtain⟨Z,u1,u2,u3⟩:=al;have am:P3 (rest.map cells) (more.l.map cells) B 0 Z (A++X):=by
     refine⟨u2,⟨ai,by rw[u3 9 (by omega),ae];exact aj,id,by rw[u3 7 (by omega)];exact t6,λoff m hh=>⟨S,λaf m' h'=>?_⟩⟩,by simp;omega⟩
     rw[u3 9 (by omega),ae]at h'
     have:=m2 af m' h';omega
    obtain⟨F8,H8,v1,⟨an,v2,v3⟩,v4,v5,v6⟩:=Vy (E:=E) (N:=N) (more.l.map cells) B (by simp;omega) (more.l.map cells).length 0 (rest.map cells) Z (A++X) (by omega) (by simp;omega) am
    have ao:mw H8 (get F8 5) o ids (jM (out.set q (row.set j true))):=by
     have h5:get F8 5=get F5 5:=by rw[v4 5 (by omega),u3 5 (by omega),o3 5 (by omega) (by omega)]
     rw[h5,O8];refine(k2.more X).heap (λap=>v5 o ?_) λi hi=>v5 i (W i hi).2
     have:out≠[]:=by intro e;subst e;simp at u
     exact(n2 this).2
    have T:P2 t (out.set q (row.set j true)) (rest++more.l) F8 H8:=by
     refine⟨by rw[v4 2 (by omega),u3 2 (by omega),o3 2 (by omega) (by omega),k5 2 (by omega),z 2 (by omega)];exact f2,?_,B,o,ids,an,ao,λap=>n2 (by intro e;subst e;simp at u),W,n4,by simp at v6;omega,?_,v3⟩
     .rw[v5 0 (by omega),List.getElem?_append_left (ζe.1 U).1];exact U
     .rw[List.drop_zero]at v2;rw[List.map_append];exact v2
    obtain⟨F',H',w1,w2⟩:=ih _ _ D F8 H8 h T;exact⟨F',H',ot.step (Ex.seq (Ex.seq (Ex.eP λc=>e1) (Ex.qC ad Ex.skip)) (Ex.block (Ex.seq (Ex.eP λc=>g1) (Ex.seq (Ex.eP λc=>i1) (Ex.seq (Ex.seq (Ex.pG rfl λc=>j1) (Ex.vc j2 Ex.skip)) (Ex.seq (Ex.pG rfl λc=>k1)
     (Ex.seq (Ex.ops ⟨nn,ak⟩) (Ex.seq (Ex.eP u1) (Ex.xJ (Ex.loop v1))))))))) ) w1,w2⟩
theorem QC {H:bh} {Z:Nat->Prop} {id:Nat} {r:List Bool} (B:Z id) (h:H[id]? = some (.row 1 (ji (r.map V.bool)))):FR H Z (enc (Sl.row r)) (.hsl id 1 0 r.length):=by
 have hr:bp H id=some (1,ji (r.map V.bool)):=by simp[bp,h,Ob.rows]
 have C:enc (Sl.row r)=.fsl 1 (rows r):=rfl;have D:(rows r).length=r.length:=by simp[rows]
 have hc:ji (r.map V.bool)=rows r:=by simp[ji,rows,Function.comp_def]
 rw[hc]at hr;rw[C,<-D];refine .fsl 1 (rows r) id 0 (rows r) B hr (by omega) (λi a b h1 w=>?_) (λi j a b u v h1 w z A=>?_)
 .grind
 .rw[Nat.zero_add,h1]at w;cases w;rw[z]at A;cases A;refine .same u ?_;obtain⟨c,G,rfl⟩:∃c∈r,a=[V.bool c]:=by
   have:=List.mem_of_getElem? h1;simp only[rows,List.mem_map]at this;obtain⟨c,hc,rfl⟩:=this;simp_all
  have:=List.mem_of_getElem? z;simp at this;subst this;rfl
theorem P8 {H:bh} {w:V} {o:Nat} {ids:List Nat} {out:List (List Bool)} (n:mw H w o ids (jM out)):∃Z,FR H Z (enc (nested out)) w/\(∀id,Z id->(bp H id).isSome=true)/\Deep H Z:=by
 have hv:=n.v
 by_cases L:out=[]
 .subst L;rw[if_pos (show jM []=[]from rfl)]at hv;subst hv;exact⟨λ_=>False,.same _ rfl,λ_ h=>h.elim,⟨λ_ _ _ h=>h.elim⟩⟩
 .have D:jM out≠[]:=λh=>L (Iu.1 h)
  rw[if_neg D,vR]at hv;subst hv;have O:=n.ob D;have G:=n.len;rw[vR]at G;have A:∀(i id:Nat) (r:List Bool),ids[i]? = some id->out[i]? = some r->H[id]? = some (.row 1 (ji (r.map V.bool))):=λi id r h1 C=>n.r i id _ h1 (by simp[jM,C])
  have B:∀(i:Nat) (c:List V),(refs ids (jM out))[i]? = some c->∃id r,ids[i]? = some id/\out[i]? = some r/\c=[.hsl id 1 0 r.length]:=λi c h=>by
   have hi:=(ζe.1 h).1;rw[sZ n.len,vR]at hi;have h1:=ζd (show i<ids.length from by omega)
   have C:=ζd hi;have Q:=BI (rows:=jM out) (r:=out[i].map V.bool) h1 (by simp[jM,C])
   grind
  have I:bp H o=some (1,refs ids (jM out)):=by simp[bp,O,Ob.rows]
  have J:∀id∈ids,∃(r:List Bool),H[id]? = some (.row 1 (ji (r.map V.bool))):=λid z=>by
   obtain⟨i,hi⟩:=List.getElem?_of_mem z;have S:=(ζe.1 hi).1;exact⟨_,A i id _ hi (ζd (show i<out.length from by omega))⟩
  refine⟨λid=>id=o\/id∈ids,?_,λid h=>?_,⟨λid es ys h hr c hc u hu=>?_⟩⟩
  .have X:enc (nested out)=.fsl 1 (rows (out.map Sl.row)):=by rw[nested,if_neg L];rfl
   have S:(rows (out.map Sl.row)).length=out.length:=by simp[rows]
   rw[X,<-S];refine .fsl 1 _ o 0 (refs ids (jM out)) (.inl rfl) I (by rw[S,sZ n.len,vR];omega) (λi a b h1 C=>?_) (λi j a b u v h1 C Q W=>?_)
   .rw[Nat.zero_add]at C;obtain⟨id,r,_,hr,rfl⟩:=B i b C;simp[rows,hr]at h1;subst h1;rfl
   .rw[Nat.zero_add]at C;obtain⟨id,r,z,hr,rfl⟩:=B i b C;have Y:a=[enc (Sl.row r)]:=by simp[rows,hr]at h1;exact h1.symm
    subst Y
    cases j with
    | zero=>
     simp at Q W;subst Q W;exact QC (.inr (List.mem_of_getElem? z)) (A i id r z hr)
    | succ j=>simp_all
  .rcases h with rfl|h
   .simp_all
   .obtain⟨r,hr⟩:=J id h;simp[bp,hr,Ob.rows]
  .rcases h with rfl|h
   .rw[I]at hr;cases hr;obtain⟨i,hi⟩:=List.getElem?_of_mem hc;obtain⟨id,r,z,T,rfl⟩:=B i c hi;simp at hu;subst hu;exact⟨_,QC (.inr (List.mem_of_getElem? z)) (A i id r z T)⟩
   .obtain⟨r,U⟩:=J id h;have:bp H id=some (1,ji (r.map V.bool)):=by simp[bp,U,Ob.rows]
    rw[this]at hr;cases hr;simp only[ji,List.mem_map]at hc;obtain⟨_,⟨c',_,rfl⟩,rfl⟩:=hc;simp at hu;subst hu;exact⟨_,.same _ rfl⟩
theorem SY {t:Trace} {x:aY} {out:List (List Bool)} {s:Sl aY} {dir:aY->Option (Sl aY)} (hd:v_.keep (wR 116)=true) (W:Ge v_ wR t dir) (U:zF t=true) (Y:dir x=some s) (hw:bW (oA dir) (gK t,s.l)=some (.x out)) :
 BS v_ (wR 81) [enc t,enc x] (enc (nested out)):=by
 obtain⟨fi,g1,g2,g3,g4⟩:=shape;obtain⟨k,hk⟩:=ou.1 hw;have b1:∃F1,(∀c,cZ v_ wR c none r1 [enc t,enc x] []=some (F1,[.row 1 [cells t],.row 2 [cells x]]))/\get F1 2=.hptr 0 0 0/\get F1 3=.hptr 1 0 0:=by
  refine⟨_,λc=>kL (v:=.hptr 0 0 0) (H1:=[.row 1 [cells t]]) rfl ?_ <| kL (v:=.hptr 1 0 0) (H1:=[.row 1 [cells t],.row 2 [cells x]]) rfl ?_ <| vp (v:=.bX) rfl ?_ fh,?_,?_⟩
  .show (iX .box [enc t]).map _=_;simp only[iX,ko,qt,if_true,Option.map_some,gE];rfl
  .simp only[bR,List.map_cons,List.map_nil,bA,bz,bt,Nat.reduceEqDiff,if_false];show (iX .box [enc x]).map _=_;simp only[iX,ko,qt,if_true,Option.map_some,gE];rfl
  .simp[bR,bA,bn]
  .simp[bz]
  .simp[bz]
 obtain⟨F1,c1,c2,c3⟩:=b1;have b3:∃G,(∀c,cZ v_ wR c none r2 F1 [.row 1 [cells t],.row 2 [cells x]]=some (set F1 5 .bX,[.row 1 [cells t],.row 2 [cells x]]))/\(∀c,cZ v_ wR c none r3 (set F1 5 .bX) [.row 1 [cells t],.row 2 [cells x]]=some (G,[.row 1 [cells t],.row 2 [cells x]]))/\P1 t x 0 G [.row 1 [cells t],.row 2 [cells x]]:=by
  refine⟨set (set F1 5 .bX) 6 (.int .i64 0),λc=>by simp[r2,cZ,bR,bA,bn,bz],λc=>by simp[r3,cZ,bR,bA,bn,bz],by simp[c2],by simp[c3],by simp,rfl,rfl,0,[],?_,λh=>absurd rfl h,λid h=>by simp at h⟩
  have:get (set (set F1 5 .bX) 6 (.int .i64 0)) 5=.bX:=by simp
  rw[this,List.take_zero];exact mw.nil _ 0
 obtain⟨G,d1,d2,d3⟩:=b3;obtain⟨F4,O,e1,e2⟩:=LO (E:=v_) (N:=wR) U t.procs.l.length 0 G _ (by omega) d3
 obtain⟨o,ids,I,n2,n3⟩:=e2.ns;have Q:(gK t).length=t.procs.l.length:=by simp[gK]
 rw[List.take_of_length_le (by omega)]at I
 obtain⟨w,X,id,m1,m2,_,m4⟩:=Wk (a:=0) (d:=0) (F:=F4) (E:=v_) (N:=wR) hd W Y e2.f2 e2.h0 (c:=1) e2.h1;obtain⟨S,o1,o2,o3⟩:=m4 e2.f3;have L:P2 t (gK t) s.l S (O++X):=by
  refine⟨by rw[o3 2 (by omega) (by omega)];exact e2.f2,by rw[List.getElem?_append_left (ζe.1 e2.h0).1];exact e2.h0,O.length,o,ids,id,by rw[o3 5 (by omega) (by omega)];exact I.more X,λu=>?_,λi hi=>⟨by have:=n3 i hi;omega,I.lt.2 i hi⟩,?_,by simp,by rw[o2];exact m1,λoff m h=>?_⟩
  .have z:jM (gK t)≠[]:=λh=>u (Iu.1 h)
   have:t.procs.l.length≠0:=by intro h;apply u;exact List.eq_nil_of_length_eq_zero (by omega)
   have:=n2 this;exact⟨by omega,I.lt.1 z⟩
  .have:=(ζe.1 e2.h0).1;omega
  .rw[o2]at h;have:=m2 off m h;omega
 obtain⟨A,J,p1,p2⟩:=LZ hd W k _ _ out S _ hk L;obtain⟨B,o',T,aa,q1,_⟩:=p2.ns;have l1:∃C,(∀c,cZ v_ wR c none Wh A J=some (C,J))/\get C 4=get A 5:=by
  refine⟨_,λc=>vp (v:=get A 5) rfl ?_ <| vp (v:=get A 5) rfl ?_ fh,?_⟩
  .simp[bR,bA,bn]
  .simp[bR,bA,bn,bz]
  .simp[bz]
 obtain⟨C,y1,y2⟩:=l1;have hex:Ex v_ wR code [enc t,enc x] [] .ret C J:=
  Ex.seq (Ex.eP c1) (Ex.seq (Ex.eP d1) (Ex.seq (Ex.seq (Ex.eP d2) (Ex.xJ (Ex.loop e1))) (Ex.seq (Ex.ops o1) (Ex.seq (Ex.xJ (Ex.loop p1)) (Ex.seq (Ex.eP y1) Ex.ret)))))
 obtain⟨n,D⟩:=hex.run (nm:=some) x_ g1 g2 (show [enc t,enc x].length<=fi.ntmps from g3) (vs:=[get C 4]) (by rw[g4];rfl)
 obtain⟨Z,z1,z2,z3⟩:=P8 q1;exact⟨n,get A 5,J,Z,by rw[D,y2];rfl,z1,z2,z3⟩
theorem TV (l:List aY):∀c∈l.map (cells (α:=aY)),c.length=2/\c.all V.one=true/\c.all V.scalar=true:=λc hc=>by
 obtain⟨e,_,rfl⟩:=List.mem_map.1 hc;exact⟨rfl,rfl,rfl⟩
theorem Vj (t:Trace):Ge v_ wR t (dN t):=by
 intro y s H A;have h1:=zx t y;have G:=h1 (cW s) (by rw[A];rfl)
 have hg:V.cG [enc t,enc y]=true:=by simp only[V.cG,mA,Bool.and_self]
 have w:s.k=.row\/s.k=.nil/\rows s.l=[]:=by
  have C:∀o z,(∃l,o=.row l)\/o=.nil->dN.J1 o t y=some z->(∃l,z=.row l)\/z=.nil:=λo z I u=>by
   unfold dN.J1 at u;obtain⟨e,_,u⟩:=ζg.1 u
   cases D:e.kind==3 with
   | true=>
    rw[D]at u;obtain⟨f,_,u⟩:=ζg.1 u;obtain⟨q,B,u⟩:=ζg.1 u;cases u;unfold iP at B;split at B
    .cases B;exact .inl ⟨_,rfl⟩
    .cases B
   | false=>rw[D]at u;cases u;exact I
  have:(∃l,s=.row l)\/s=.nil:=by
   unfold dN at A
   cases hc:decide (y.index>1)with
   | true=>rw[hc]at A;exact C _ s (.inl ⟨_,rfl⟩) A
   | false=>rw[hc]at A;exact C _ s (.inr rfl) A
  rcases this with⟨l,rfl⟩|rfl
  .exact .inl rfl
  .exact .inr ⟨rfl,rfl⟩
 obtain⟨n,z,H',r1,r2⟩:=UC Ro JV (T:=Tx) (f:=wR 116) (rf:=qE (Tx 116)) (by kernel_rfl) hg (Nat.le_of_ble_eq_true (by kernel_rfl)) (k:=s.k) (es:=2) (xs:=rows s.l) (λc hc=>(TV s.l c hc).2.2) w G
 refine H_ (l:=s.l.map cells) (y:=z) (H1:=H') (by kernel_rfl) hg (TV s.l) ⟨n,λk hk=>(uh _ hk).go _ _ _ _ r1⟩ ?_ H
 rcases r2 with⟨J,rfl⟩|⟨id,rfl,L⟩
 .left;cases s <;> simp[Sl.k]at J;exact⟨rfl,rfl⟩
 .right;exact⟨id,by simp[rows],L⟩
end pastX
theorem OP (t:Trace) (x:aY) (r:Sl (Sl Bool)) (h:nv t x=some r):Sy.wQ 81 [enc t,enc x]=some (enc r):=by
 unfold nv at h;split at h
 .rename_i u;obtain⟨s,z,h⟩:=ζg.1 h;obtain⟨w,A,h⟩:=ζg.1 h
  cases w with
  | n a=>exact Empty.elim a
  | r e=>exact Empty.elim e
  | x out=>
   cases h;exact Fi (pastX.SY (by kernel_rfl) (pastX.Vj t) u z A)
 .cases h
end Go.VE
namespace Go.VE
noncomputable section
def vV:Option Bool:=some true
instance Tc:Fc Sy cL vV:=⟨10,[],λr:Bool=>[.bool r],true,eR.wQ (by kernel_rfl) (by kernel_rfl) NG⟩
namespace gp
def br (s0:Sl bT) (D:Int) (B:Int) (p1:bT->Option Bool):Option (Fw Int Unit Int):=
 bf (decide (B<D))
 ((idx s0 B).bind λu=>
 (p1 u).bind λw=>
 bf w
 (some (.r B))
 (some (.n (IntKind.wrap .i64 (B+1)))))
 (some (.x ()))
def W1 (s0:Sl bT) (B D:Int) (p1:bT->Option Bool):Option Int:=
 (bW (λq:Int=>br s0 B q p1) D).bind (Fw.elim
 (λe=>some (-1))
 (λe=>some e))
end gp
def gp (s0:Sl bT) (p1:bT->Option Bool):Option Int:=
 gp.W1 s0 (len s0) 0 p1
open gp in
abbrev wv (g1:FuncId) (e1:List V) (p1:bT->Option Bool) (h1:lY Sy cL g1 [] e1 (λz:bT=>[enc z]) (λr:Bool=>[.bool r]) p1 true) (s0:Sl bT):Fc Sy cL (gp s0 p1):=Fc.M 66 [enc s0,.clo g1 [] e1] (ct 9 s0 (dU 5 (λw=>(bO [Cv 0 s0,(1,.v (.clo g1 [] e1)),Iv 7 (len s0),Iv 8 w] [])) (λu=>(0,(bO [] []))) (λu=>(bO [Iv 4 u] [])) (λw=>bq 7 9 (bF 16 λA _=>yJ 1 h1.f A λB _=>bq 2 16 aZ aZ) aZ) (λu=>aZ) (λu=>aZ)))
def gm (s0:Sl bT) (p1:bT->Option Bool):Option Bool:=
 (gp s0 p1).bind λu=>
 some (decide (u>=0))
abbrev oQ (g1:FuncId) (e1:List V) (p1:bT->Option Bool) (h1:lY Sy cL g1 [] e1 (λz:bT=>[enc z]) (λr:Bool=>[.bool r]) p1 true) (s0:Sl bT):Fc Sy cL (gm s0 p1):=Fc.M 40 [enc s0,.clo g1 [] e1] (bu (F:=wv g1 e1 p1 h1 s0) 9 λu _=>aZ)
namespace fP
def br (s0:Sl Event) (D:Int) (B:Int) (p1:Event->Option Bool):Option (Fw Int Unit Int):=
 bf (decide (B<D))
 ((idx s0 B).bind λu=>
 (p1 u).bind λw=>
 bf w
 (some (.r B))
 (some (.n (IntKind.wrap .i64 (B+1)))))
 (some (.x ()))
def W1 (s0:Sl Event) (B D:Int) (p1:Event->Option Bool):Option Int:=
 (bW (λq:Int=>br s0 B q p1) D).bind (Fw.elim
 (λe=>some (-1))
 (λe=>some e))
end fP
def fP (s0:Sl Event) (p1:Event->Option Bool):Option Int:=
 fP.W1 s0 (len s0) 0 p1
open fP in
abbrev v8 (g1:FuncId) (e1:List V) (p1:Event->Option Bool) (h1:lY Sy cL g1 [] e1 (λz:Event=>[enc z]) (λr:Bool=>[.bool r]) p1 true) (s0:Sl Event):Fc Sy cL (fP s0 p1):=Fc.M 67 [enc s0,.clo g1 [] e1] (ct 9 s0 (dU 5 (λw=>(bO [Cv 0 s0,(1,.v (.clo g1 [] e1)),Iv 7 (len s0),Iv 8 w] [])) (λu=>(0,(bO [] []))) (λu=>(bO [Iv 4 u] [])) (λw=>bq 7 9 (bF 16 λA _=>yJ 1 h1.f A λB _=>bq 2 16 aZ aZ) aZ) (λu=>aZ) (λu=>aZ)))
def gX (s0:Sl Event) (p1:Event->Option Bool):Option Bool:=
 (fP s0 p1).bind λu=>
 some (decide (u>=0))
abbrev ov (g1:FuncId) (e1:List V) (p1:Event->Option Bool) (h1:lY Sy cL g1 [] e1 (λz:Event=>[enc z]) (λr:Bool=>[.bool r]) p1 true) (s0:Sl Event):Fc Sy cL (gX s0 p1):=Fc.M 42 [enc s0,.clo g1 [] e1] (bu (F:=v8 g1 e1 p1 h1 s0) 9 λu _=>aZ)
def oC (B:Event):Option Bool:=
 some (decide ((len B.assign)>20))
instance Mt (B:Event):Fc Sy cL (oC B):=Fc.M 43 [enc B] (bY 2 1 B (ct 7 B.assign aZ))
def lq (B:bT):Option Bool:=
 (bf (decide ((len B.events)>70))
 (some true)
 (some (decide ((len B.vars)>20))):Option Bool).bind λu=>
 (bf u
 (some true)
 ((gX B.events (λz=>oC z)).bind λw=>
 some w):Option Bool).bind λA=>
 some A
instance Q8 (B:bT):Fc Sy cL (lq B):=Fc.M 41 [enc B] (bY 2 1 B (ct 7 B.events (bE 2 5 [7] 12 (bq 2 7 (bl 5) (ct 2 B.vars (bl 2))) λu=>bE 1 4 [1,13] 17 (bq 1 13 (bl 4) (bu (F:=ov 43 [] (λz=>oC z) lY.sW B.events) 2 λw _=>bl 1)) λA=>aZ)))
def vu (B:Trace):Option Bool:=
 (bf (decide ((len B.procs)>10))
 (some true)
 ((gm B.procs (λz=>lq z)).bind λu=>
 some u):Option Bool).bind λw=>
 some w
instance Un (B:Trace):Fc Sy cL (vu B):=Fc.M 11 [enc B] (bY 2 1 B (ct 7 B.procs (bE 2 4 [1,7] 11 (bq 2 7 (bl 4) (bu (F:=oQ 41 [] (λz=>lq z) lY.sW B.procs) 2 λu _=>bl 1)) λw=>aZ)))
namespace eH
def bZ (D:Int) (G:Pred) (J B:Int) (r:(Pred×Int×Int)->Option Int):Option (Fw (Int×Int) Int Empty):=
 (bf (decide (J<(len G.l)))
 (some (decide (B<=300)))
 (some false):Option Bool).bind λu=>
 bf u
 ((idx G.l J).bind λw=>
 (r (w,IntKind.wrap .i64 (D+1),B)).bind λz=>
 some (.n (IntKind.wrap .i64 (J+1),z)))
 (some (.x B))
def W2 (B J:Int) (G:Pred) (D:Int) (r:(Pred×Int×Int)->Option Int):Option Int:=
 (bW (λq:Int×Int=>bZ B G q.1 q.2 r) (J,D)).bind (Fw.elim
 (λe=>some e)
 (λe=>Empty.elim e))
def J1 (B:Int) (G:Pred) (D:Int) (r:(Pred×Int×Int)->Option Int):Option Int:=
 eH.W2 B 0 G D r
theorem iZ (r:(Pred×Int×Int)->Option Int) (hr:wo Sy cL 44 (λz:Pred×Int×Int=>[cv z.1,iv z.2.1,.ptr 9001 0,.ptr 9002 0]) (λz:Pred×Int×Int=>[(9001,bx (z.2.2:Int)),(9002,.box [.clo 44 [] [.ptr 9001 0,.ptr 9002 0]])]) (λr:Int=>[]) (λ(z:Pred×Int×Int) (r:Int)=>[(9001,bx (r:Int)),(9002,.box [.clo 44 [] [.ptr 9001 0,.ptr 9002 0]])]) r) (B:Int) (G:Pred) (D:Int):Le ((J1 B G D r).bind (λr=>some ([],[(9001,bx (r:Int)),(9002,.box [.clo 44 [] [.ptr 9001 0,.ptr 9002 0]])]))) (cn Sy cL (Cb (tr Tx 44) [9001,9002]) (oe (tb Tx 44) [1,1,1,0] [] ⟨[Iv 1 B,(2,.ptr 9001 0),(3,.ptr 9002 0),Pv 4],[Xb 4 G,(9001,.box [iv D]),(9002,.box [.clo 44 [] [.ptr 9001 0,.ptr 9002 0]])],[9001,9002],[],true,0⟩)):=
 jU 7 (λu=>⟨[Iv 1 B,(2,.ptr 9001 0),(3,.ptr 9002 0),Pv 4,Iv 6 u.1],[Xb 4 G,(9001,.box [iv u.2]),(9002,.box [.clo 44 [] [.ptr 9001 0,.ptr 9002 0]])],[9001,9002],[],true,0⟩) (λw=>(0,⟨[],[(9001,.box [iv w]),(9002,.box [.clo 44 [] [.ptr 9001 0,.ptr 9002 0]])],[9001,9002],[],true,0⟩)) (λu=>dh 7 13 (Pred.ec G.l) (ct 0 G.l (bE 2 3 [16] 19 (bq 2 16 (bl 3) (bl 3)) λC=>bq 2 19 (dh 9 24 (Pred.ec G.l) (bF 1 λA _=>SU 3 (nH.of (A,IntKind.wrap .i64 (B+1),u.2) hr) λI _=>aZ)) aZ))) (λw=>aZ)
end eH
def gI (D:Pred) (B G:Int) (r:(Pred×Int×Int)->Option Int):Option Int:=
 bf (decide (B>40))
 (eH.J1 B D 1000 r)
 (eH.J1 B D (IntKind.wrap .i64 (G+1)) r)
open eH in
theorem zw (r:(Pred×Int×Int)->Option Int) (hr:wo Sy cL 44 (λz:Pred×Int×Int=>[cv z.1,iv z.2.1,.ptr 9001 0,.ptr 9002 0]) (λz:Pred×Int×Int=>[(9001,bx (z.2.2:Int)),(9002,.box [.clo 44 [] [.ptr 9001 0,.ptr 9002 0]])]) (λr:Int=>[]) (λ(z:Pred×Int×Int) (r:Int)=>[(9001,bx (r:Int)),(9002,.box [.clo 44 [] [.ptr 9001 0,.ptr 9002 0]])]) r) (D:Pred) (B G:Int):∀J,gI D B G r=some J->∃m',cL 44 [cv D,iv B,.ptr 9001 0,.ptr 9002 0] [(9001,bx (G:Int)),(9002,.box [.clo 44 [] [.ptr 9001 0,.ptr 9002 0]])]=some (((λr:Int=>[]) J).map .v,m')/\∀U,kH m' ([(9001,bx (G:Int)),(9002,.box [.clo 44 [] [.ptr 9001 0,.ptr 9002 0]])].map (·.1)) U=some (mF U ((λr:Int=>[(9001,bx (r:Int)),(9002,.box [.clo 44 [] [.ptr 9001 0,.ptr 9002 0]])]) J)):=
 (nH.mk' 44 [cv D,iv B,.ptr 9001 0,.ptr 9002 0] [(9001,bx (G:Int)),(9002,.box [.clo 44 [] [.ptr 9001 0,.ptr 9002 0]])] (λr:Int=>[]) (λr:Int=>[(9001,bx (r:Int)),(9002,.box [.clo 44 [] [.ptr 9001 0,.ptr 9002 0]])]) (bY 2 4 D (bq 16 10 (kr 6 (iZ r hr B D 1000)) (kr 4 (iZ r hr B D (IntKind.wrap .i64 (G+1)))))):nH Sy cL (gI D B G r)).h
def eH (D:Pred) (B G:Int):Option Int:=c_ (λr (z:Pred×Int×Int)=>gI z.1 z.2.1 z.2.2 r) 100000 (D,B,G)
abbrev BR (D:Pred) (B G:Int):nH Sy cL (eH D B G):=nH.of (D,B,G) (wo.fix (A:=λz:Pred×Int×Int=>[cv z.1,iv z.2.1,.ptr 9001 0,.ptr 9002 0]) (O:=λz:Pred×Int×Int=>[(9001,bx (z.2.2:Int)),(9002,.box [.clo 44 [] [.ptr 9001 0,.ptr 9002 0]])]) (E:=λr:Int=>[]) (M:=λ(z:Pred×Int×Int) (r:Int)=>[(9001,bx (r:Int)),(9002,.box [.clo 44 [] [.ptr 9001 0,.ptr 9002 0]])]) (b:=(λr (z:Pred×Int×Int)=>gI z.1 z.2.1 z.2.2 r)) (by kernel_rfl) (by kernel_rfl) (by kernel_rfl) (λr hr z=>zw r hr z.1 z.2.1 z.2.2) 100000)
def tJ (B:Pred):Option Bool:=
 (eH B 0 0).bind λu=>
 some (decide (u>300))
instance Ts (B:Pred):Fc Sy cL (tJ B):=Fc.M 12 [enc B] (bY 2 1 B (vO 26 (BR B 0 0) λu _=>aZ))
def nC (G D B:Int):Option Bool:=
 (bf (decide (G>=D))
 (some (decide (G<=B)))
 (some false):Option Bool).bind λu=>
 some u
instance Vv (G D B:Int):Fc Sy cL (nC G D B):=Fc.M 153 [.int .i64 G,.int .i64 D,.int .i64 B] (bE 11 4 [0,2,10] 14 (bq 11 10 (bl 4) (bl 4)) λu=>aZ)
def pY (B:Int):Option Bool:=
 (bf (decide (B>=97))
 (some (decide (B<=122)))
 (some false):Option Bool).bind λu=>
 (bf u
 (some true)
 ((bf (decide (B>=65))
 (some (decide (B<=90)))
 (some false):Option Bool).bind λw=>
 some w):Option Bool).bind λz=>
 some z
instance RZ (B:Int):Fc Sy cL (pY B):=Fc.M 197 [.int .u8 B] (bE 10 3 [5] 8 (bq 10 5 (bl 3) (bl 3)) λu=>bE 1 7 [0,9] 16 (bq 1 9 (bl 7) (bE 3 3 [0,12] 15 (bq 3 12 (bl 3) (bl 3)) λw=>bl 1)) λz=>aZ)
def tZ (B:Int):Option Bool:=
 (bf (decide (B>=48))
 (some (decide (B<=57)))
 (some false):Option Bool).bind λu=>
 some u
instance TJ (B:Int):Fc Sy cL (tZ B):=Fc.M 198 [.int .u8 B] (bE 10 3 [0,5] 8 (bq 10 5 (bl 3) (bl 3)) λu=>aZ)
namespace gu
def br (s0:ByteArray) (D:Int) (B:Int):Option (Fw Int Unit Unit):=
 bf (decide (B<D))
 ((kO s0 B).bind λz=>
 (pY z).bind λA=>
 (bf A
 (some false)
 ((kO s0 B).bind λC=>
 (tZ C).bind λG=>
 some (!G)):Option Bool).bind λI=>
 (bf I
 ((kO s0 B).bind λu=>
 some (!(u==95)))
 (some false):Option Bool).bind λw=>
 bf w
 (some (.r ()))
 (some (.n (IntKind.wrap .i64 (B+1)))))
 (some (.x ()))
def W1 (s0:ByteArray) (B D:Int):Option Bool:=
 (bW (λq:Int=>br s0 B q) D).bind (Fw.elim
 (λe=>some true)
 (λe=>some false))
end gu
def gu (s0:ByteArray):Option Bool:=
 (bf (ByteArray.toList s0==ByteArray.toList ByteArray.empty)
 (some true)
 (some (decide (((ByteArray.size s0:Nat):Int)>16))):Option Bool).bind λu=>
 (bf u
 (some true)
 ((kO s0 0).bind λw=>
 (pY w).bind λz=>
 some (!z)):Option Bool).bind λA=>
 bf A
 (some false)
 (gu.W1 s0 ((ByteArray.size s0:Nat):Int) 0)
open gu in
instance Sk (s0:ByteArray):Fc Sy cL (gu s0):=Fc.M 181 [.str s0] (bE 11 4 [6] 10 (bq 11 6 (bl 4) (bl 4)) λB=>bE 1 5 [11] 16 (bq 1 11 (bl 5) (AF 1 .i64 λC _=>bu 0 λD _=>bl 2)) λG=>bq 2 16 aZ (dU 13 (λw=>(bO [(0,.v (.str s0)),Iv 18 ((ByteArray.size s0:Nat):Int),Iv 19 w] [])) (λu=>(0,(bO [] []))) (λu=>(bO [Bv 2 false] [])) (λw=>bq 7 20 (AF 15 .i64 λI _=>bu 0 λJ _=>bE 2 6 [27] 33 (cH 2 27 (bl 6) (AF 2 .i64 λL _=>bu 0 λO _=>bl 2)) λQ=>bE 1 5 [3,34] 39 (bq 1 34 (AF 2 .i64 λz _=>bl 2) (bl 5)) λA=>bq 2 39 aZ aZ) aZ) (λu=>aZ) (λu=>aZ)))
def jG (B D:bT):Option Bool:=
 some (ByteArray.toList B.name==ByteArray.toList D.name)
instance IQ (B D:bT):Fc Sy cL (jG B D):=Fc.M 182 [enc B,.fptr (cells D)] (bY 2 2 B aZ)
def jC (B D:Var):Option Bool:=
 some (ByteArray.toList B.name==ByteArray.toList D.name)
instance IN (B D:Var):Fc Sy cL (jC B D):=Fc.M 183 [enc B,.fptr (cells D)] (aZ)
namespace eU
def br (s0:Sl Var) (D:Int) (B:Int) (p1:Var->Option Bool):Option (Fw Int Unit Int):=
 bf (decide (B<D))
 ((idx s0 B).bind λu=>
 (p1 u).bind λw=>
 bf w
 (some (.r B))
 (some (.n (IntKind.wrap .i64 (B+1)))))
 (some (.x ()))
def W1 (s0:Sl Var) (B D:Int) (p1:Var->Option Bool):Option Int:=
 (bW (λq:Int=>br s0 B q p1) D).bind (Fw.elim
 (λe=>some (-1))
 (λe=>some e))
end eU
def eU (s0:Sl Var) (p1:Var->Option Bool):Option Int:=
 eU.W1 s0 (len s0) 0 p1
open eU in
abbrev nE (g1:FuncId) (e1:List V) (p1:Var->Option Bool) (h1:lY Sy cL g1 [] e1 (λz:Var=>[enc z]) (λr:Bool=>[.bool r]) p1 true) (s0:Sl Var):Fc Sy cL (eU s0 p1):=Fc.M 106 [enc s0,.clo g1 [] e1] (ct 9 s0 (dU 5 (λw=>(bO [Cv 0 s0,(1,.v (.clo g1 [] e1)),Iv 7 (len s0),Iv 8 w] [])) (λu=>(0,(bO [] []))) (λu=>(bO [Iv 4 u] [])) (λw=>bq 7 9 (bF 16 λA _=>yJ 1 h1.f A λB _=>bq 2 16 aZ aZ) aZ) (λu=>aZ) (λu=>aZ)))
def gF (s0:Sl Var) (p1:Var->Option Bool):Option Bool:=
 (eU s0 p1).bind λu=>
 some (decide (u>=0))
abbrev pE (g1:FuncId) (e1:List V) (p1:Var->Option Bool) (h1:lY Sy cL g1 [] e1 (λz:Var=>[enc z]) (λr:Bool=>[.bool r]) p1 true) (s0:Sl Var):Fc Sy cL (gF s0 p1):=Fc.M 161 [enc s0,.clo g1 [] e1] (bu (F:=nE g1 e1 p1 h1 s0) 9 λu _=>aZ)
namespace eF
def br (D:Sl Var) (G:Int) (J:bT) (B:Int):Option (Fw Int Unit Int):=
 bf (decide (B<G))
 ((idx D B).bind λu=>
 (gu u.name).bind λC=>
 (bf C
 ((jS J.vars none (some B)).bind λI=>
 (gF I (λz=>jC z u)).bind λL=>
 some L)
 (some true):Option Bool).bind λw=>
 bf w
 (some (.r 13))
 ((nC u.init_ (-1073741824) 1073741824).bind λA=>
 bf A
 (some (.n (IntKind.wrap .i64 (B+1))))
 (some (.r 2))))
 (some (.x ()))
def W1 (D:Sl Var) (G J:Int) (B:bT):Option Int:=
 (bW (λq:Int=>br D G B q) J).bind (Fw.elim
 (λe=>bf (decide ((len B.events)>64))
 (some 5)
 (some 0))
 (λe=>some e))
end eF
def eF (D:Trace) (p1:Int):Option Int:=
 (idx D.procs p1).bind λu=>
 (gu u.name).bind λw=>
 (bf w
 ((jS D.procs none (some p1)).bind λA=>
 (gm A (λz=>jG z u)).bind λB=>
 some B)
 (some true):Option Bool).bind λC=>
 bf C
 (some 13)
 (bf (decide ((len u.vars)>8))
 (some 5)
 (eF.W1 u.vars (len u.vars) 0 u))
open eF in
instance Kn (D:Trace) (p1:Int):Fc Sy cL (eF D p1):=Fc.M 154 [enc D,.int .i64 p1] (bY 2 2 D (bF 8 λu _=>m_ 2 5 0 u (bu 8 λL _=>bE 2 7 [1,2,18] 25 (cH 2 18 (Gx 3 false true [.int .i64 p1] λC _=>cg (F:=oQ 182 [.fptr (cells u)] (λz=>jG z u) lY.sW C) 1 λO _=>bl 1) (bl 7)) λQ=>bq 3 13 aZ (ct 5 u.vars (bq 4 26 aZ (ct 9 u.vars (dU 5 (λA=>(bO [Pv 5,Cv 32 u.vars,Iv 33 (len u.vars),Iv 34 A] [Xb 5 u])) (λw=>(1,(bO [Pv 5] [Xb 5 u]))) (λw=>(bO [Iv 4 w] [])) (λA=>bq 7 35 (bF 8 λB _=>bu 11 λS _=>bE 2 7 [6,44] 51 (cH 2 44 (Gx 3 false true [.int .i64 A] λG _=>cg (F:=pE 183 [.fptr (cells B)] (λz=>jC z B) lY.sW G) 1 λT _=>bl 1) (bl 7)) λI=>bq 3 39 aZ (bu 5 λJ _=>cH 4 52 aZ aZ)) aZ) (λw=>ct 7 u.events (bq 3 61 aZ aZ)) (λw=>aZ))))))))
def jm (B:Trace):Option Trace:=
 some B
instance RR (B:Trace):Fc Sy cL (jm B):=Fc.NE (λr:Trace=>[(.clo 184 [] [.fptr (cells r)])]) 155 [enc B] (bY 2 1 B aZ)
namespace iu
def J1 (p1:Int) (D:Bool) (G:Trace) (B:Event):Option Bool:=
 bf D
 ((nC B.peer 0 (IntKind.wrap .i64 ((len G.procs)-1))).bind λu=>
 (bf u
 (some (!(B.peer==p1)))
 (some false):Option Bool).bind λw=>
 (bf w
 ((nC B.message 0 199).bind λz=>
 some z)
 (some false):Option Bool).bind λA=>
 some A)
 (some false)
end iu
def iu (B:Trace) (p1:Int) (e2:Event):Option Bool:=
 bf (e2.kind==1)
 ((bf (e2.peer==0)
 (some (e2.message==0))
 (some false):Option Bool).bind λu=>
 some u)
 (bf (e2.kind==2)
 (iu.J1 p1 true B e2)
 (iu.J1 p1 (e2.kind==3) B e2))
open iu in
instance RU (B:Trace) (p1:Int) (e2:Event):Fc Sy cL (iu B p1 e2):=Fc.M 185 [enc B,.int .i64 p1,enc e2] (bY 2 3 B (bY 0 5 e2 (bq 17 9 (bE 7 4 [5,14] 18 (bq 7 14 (bl 4) (bl 4)) λC=>aZ) (bq 8 19 (nZ 4 (bq 0 19 (ct 7 B.procs (bu 1 λu _=>bE 1 5 [1,29] 34 (bq 1 29 (bl 5) (bl 5)) λw=>bE 1 4 [5,35] 39 (bq 1 35 (bu 2 λz _=>bl 1) (bl 4)) λA=>aZ)) aZ)) (nZ 7 (bq 0 19 (ct 7 B.procs (bu 1 λu _=>bE 1 5 [1,29] 34 (bq 1 29 (bl 5) (bl 5)) λw=>bE 1 4 [5,35] 39 (bq 1 35 (bu 2 λz _=>bl 1) (bl 4)) λA=>aZ)) aZ))))))
def kE (B D:Assign):Option Bool:=
 some (B.var==D.var)
instance JA (B D:Assign):Fc Sy cL (kE B D):=Fc.M 187 [enc B,.fptr (cells D)] (aZ)
namespace fq
def br (s0:Sl Assign) (D:Int) (B:Int) (p1:Assign->Option Bool):Option (Fw Int Unit Int):=
 bf (decide (B<D))
 ((idx s0 B).bind λu=>
 (p1 u).bind λw=>
 bf w
 (some (.r B))
 (some (.n (IntKind.wrap .i64 (B+1)))))
 (some (.x ()))
def W1 (s0:Sl Assign) (B D:Int) (p1:Assign->Option Bool):Option Int:=
 (bW (λq:Int=>br s0 B q p1) D).bind (Fw.elim
 (λe=>some (-1))
 (λe=>some e))
end fq
def fq (s0:Sl Assign) (p1:Assign->Option Bool):Option Int:=
 fq.W1 s0 (len s0) 0 p1
open fq in
abbrev vf (g1:FuncId) (e1:List V) (p1:Assign->Option Bool) (h1:lY Sy cL g1 [] e1 (λz:Assign=>[enc z]) (λr:Bool=>[.bool r]) p1 true) (s0:Sl Assign):Fc Sy cL (fq s0 p1):=Fc.M 199 [enc s0,.clo g1 [] e1] (ct 9 s0 (dU 5 (λw=>(bO [Cv 0 s0,(1,.v (.clo g1 [] e1)),Iv 7 (len s0),Iv 8 w] [])) (λu=>(0,(bO [] []))) (λu=>(bO [Iv 4 u] [])) (λw=>bq 7 9 (bF 16 λA _=>yJ 1 h1.f A λB _=>bq 2 16 aZ aZ) aZ) (λu=>aZ) (λu=>aZ)))
def gN (s0:Sl Assign) (p1:Assign->Option Bool):Option Bool:=
 (fq s0 p1).bind λu=>
 some (decide (u>=0))
abbrev tG (g1:FuncId) (e1:List V) (p1:Assign->Option Bool) (h1:lY Sy cL g1 [] e1 (λz:Assign=>[enc z]) (λr:Bool=>[.bool r]) p1 true) (s0:Sl Assign):Fc Sy cL (gN s0 p1):=Fc.M 186 [enc s0,.clo g1 [] e1] (bu (F:=vf g1 e1 p1 h1 s0) 9 λu _=>aZ)
namespace dF
def bZ (D:Sl Assign) (G:Int) (J:Event) (U:bT) (B:Int):Option (Fw Int Unit Int):=
 bf (decide (B<G))
 ((idx D B).bind λu=>
 (nC u.var 0 (IntKind.wrap .i64 ((len U.vars)-1))).bind λC=>
 (bf C
 ((nC u.value (-1073741824) 1073741824).bind λI=>
 some (!I))
 (some true):Option Bool).bind λL=>
 bf L
 (some (.r 2))
 ((jS J.assign none (some B)).bind λw=>
 (gN w (λz=>kE z u)).bind λA=>
 bf A
 (some (.r 8))
 (some (.n (IntKind.wrap .i64 (B+1))))))
 (some (.x ()))
def W2 (B:Sl Assign) (D G:Int) (J:Event) (U:bT):Option Int:=
 (bW (λq:Int=>bZ B D J U q) G).bind (Fw.elim
 (λe=>some 0)
 (λe=>some e))
def J1 (D:Int) (J:Trace) (G:aY) (B:Event) (U:bT):Option Int:=
 (iu J G.proc B).bind λu=>
 bf u
 ((nC B.time 0 1099511627776).bind λw=>
 (bf w
 (some (decide (B.time<D)))
 (some true):Option Bool).bind λz=>
 bf z
 (some 11)
 (bf (decide ((len B.assign)>8))
 (some 5)
 (dF.W2 B.assign (len B.assign) 0 B U)))
 (some 3)
theorem iZ (D:Int) (U:Trace) (J:aY) (B:Event) (G:bT):Le ((J1 D U J B G).bind (λr=>some [.int .i64 r])) (cn Sy cL (mK (tr Tx 156)) (oe (tb Tx 156) [1,1,1,1,0] [] (bO [Pv 3,Pv 4,Pv 5,Pv 7,Iv 8 D] [Xb 3 U,Xb 4 J,Xb 5 B,Xb 7 G]))):=
 bu 8 λL _=>cH 4 28 (bu 5 λO _=>bE 2 5 [8,40] 45 (cH 2 40 (bl 5) (bl 5)) λQ=>bq 3 35 aZ (ct 5 B.assign (bq 4 46 aZ (ct 9 B.assign (dU 5 (λw=>(bO [Pv 5,Pv 7,Cv 52 B.assign,Iv 53 (len B.assign),Iv 54 w] [Xb 5 B,Xb 7 G])) (λu=>(1,(bO [] []))) (λu=>(bO [Iv 6 u] [])) (λw=>bq 7 55 (bF 8 λA _=>ct 13 G.vars (bu 1 λS _=>bE 2 5 [68] 73 (cH 2 68 (bu 2 λT _=>bl 2) (bl 5)) λW=>bq 3 59 aZ (Gx 6 false true [.int .i64 w] λC _=>cg (F:=tG 187 [.fptr (cells A)] (λz=>kE z A) lY.sW C) 1 λI _=>bq 3 74 aZ aZ))) aZ) (λu=>aZ) (λu=>aZ)))))) aZ
end dF
def dF (D:Trace) (B:aY) (e2:Event):Option Int:=
 (idx D.procs B.proc).bind λu=>
 bf (decide (B.index>1))
 ((idx u.events (IntKind.wrap .i64 (B.index-2))).bind λw=>
 dF.J1 w.time D B e2 u)
 (dF.J1 0 D B e2 u)
open dF in
instance NR (D:Trace) (B:aY) (e2:Event):Fc Sy cL (dF D B e2):=Fc.M 156 [enc D,enc B,enc e2] (bY 2 3 D (bY 1 5 e2 (bF 9 λu _=>m_ 2 7 0 u (bq 15 19 (bF 7 λw _=>kr 6 (iZ w.time D B e2 u)) (kr 4 (iZ 0 D B e2 u))))))
def qv (B:Event) (D G:Int):Option Bool:=
 (bf (B.kind==2)
 (some (B.message==D))
 (some false):Option Bool).bind λu=>
 (bf u
 (some (B.peer==G))
 (some false):Option Bool).bind λw=>
 some w
instance Ql (B:Event) (D G:Int):Fc Sy cL (qv B D G):=Fc.M 200 [enc B,.fptr (cells D),.fptr (cells G)] (bY 2 3 B (bE 9 5 [1,8] 13 (bq 9 8 (bl 5) (bl 5)) λu=>bE 1 5 [2,3,14] 19 (bq 1 14 (bl 5) (bl 5)) λw=>aZ))
def tM (D:Trace) (p1 G B:Int):Option Bool:=
 (idx D.procs p1).bind λu=>
 (gX u.events (λz=>qv z G B)).bind λw=>
 some w
instance TH (G:Trace) (p1 D B:Int):Fc Sy cL (tM G p1 D B):=Fc.M 188 [enc G,.int .i64 p1,.int .i64 D,.int .i64 B] (bY 2 4 G (bF 10 λu _=>cg (F:=ov 200 [.fptr (cells D),.fptr (cells B)] (λz=>qv z D B) lY.sW u.events) 3 λw _=>aZ))
namespace eE
def jB (D G:Trace) (J:Option (cC 200 bL)) (U:aY) (W:Int) (x:aY×Event) (B:cC 200 bL):Option (Fw (cC 200 bL) Empty (aY×Int×(cC 200 bL))):=
 bf (x.2.kind==2)
 ((cC.at B x.2.message).bind λu=>
 bf (decide (u.from_.index>0))
 (some (.r (x.1,8,B)))
 ((cC.at B x.2.message).bind λw=>
 some (.n (cC.set B x.2.message (⟨x.1,w.to_⟩:bL)))))
 (bf (x.2.kind==3)
 ((cC.at B x.2.message).bind λz=>
 bf (decide (z.to_.index>0))
 (some (.r (x.1,8,B)))
 ((tM G x.2.peer x.2.message x.1.proc).bind λA=>
 bf A
 ((cC.at B x.2.message).bind λC=>
 some (.n (cC.set B x.2.message (⟨C.from_,x.1⟩:bL))))
 (some (.r (x.1,7,B)))))
 (some (.n B)))
def E1 (B G:Trace) (J:Option (cC 200 bL)) (U:aY) (W:Int) (D:cC 200 bL):Option ((Option (cC 200 bL))×aY×Int):=
 (jh B).bind λu=>(kA (λ(x:aY×Event) (q:cC 200 bL)=>jB B G J U W x q) u D).bind (Fw.qw
 (λq=>some (some q,⟨0,0⟩,0))
 (λe=>Empty.elim e)
 (λe=>some ((none:Option (cC 200 bL)),e.1,e.2.1)))
end eE
def eE (B:Trace):Option ((Option (cC 200 bL))×aY×Int):=
 (jm B).bind λu=>
 eE.E1 u B (none:Option (cC 200 bL)) (⟨0,0⟩:aY) 0 (cC.Ny 200 (⟨⟨0,0⟩,⟨0,0⟩⟩:bL))
open eE in
instance KW (B:Trace):Fc Sy cL (eE B):=Fc.N 157 [enc B] (bY 2 1 B (bY 8 10 (cC.Ny 200 (⟨⟨0,0⟩,⟨0,0⟩⟩:bL)) (Uz 0 5 (bO [Pv 1,Pv 2,Pv 3,Pv 4,Pv 10] [Xb 1 B,(2,.box [cv (none:Option (cC 200 bL))]),Xb 3 (⟨0,0⟩:aY),(4,.box [iv 0]),Xb 10 (cC.Ny 200 (⟨⟨0,0⟩,⟨0,0⟩⟩:bL))]) [cv (none:Option (cC 200 bL))] (by simp only[bO,ye,qA,r_,qo,rL,s9,sj,tg,ql,rP,xN,tF,th,tf,s_,vE,vC,sw,s7];rfl) (bu 7 λA _=>D2 λL C=>AR 4 [Pv 1,Pv 2,Pv 3,Pv 4,Pv 5,(12,.v (.clo 184 [] [.fptr (cells A)]))] (λw=>[Xb 1 B,(2,.box [cv (none:Option (cC 200 bL))]),Xb 3 (⟨0,0⟩:aY),(4,.box [iv 0]),(5,.box [.ptr 10 0]),Xb 10 w]) (λz=>Empty.elim z) (λz=>[Xb 1 B,(2,.box [cv (none:Option (cC 200 bL))]),Xb 3 z.1,(4,.box [iv z.2.1]),(5,.box [.ptr 10 0]),Xb 10 z.2.2]) (yo A L C) (λu w=>Uz 2 6 ⟨[Pv 1,Pv 2,Pv 3,Pv 4,Pv 5,(12,.v (.clo 184 [] [.fptr (cells A)])),Cv 13 u.1,Cv 14 u.2],[Xb 1 B,(2,.box [cv (none:Option (cC 200 bL))]),Xb 3 (⟨0,0⟩:aY),(4,.box [iv 0]),(5,.box [.ptr 10 0]),Xb 10 w],[1,2,3,4,5],[],true,0⟩ [iv 0,iv 0] (by simp only[bO,ye,qA,r_,qo,rL,s9,sj,tg,ql,rP,xN,tF,th,tf,s_,vE,vC,sw,s7];rfl) (Uz 4 7 ⟨[Pv 1,Pv 2,Pv 3,Pv 4,Pv 5,(12,.v (.clo 184 [] [.fptr (cells A)])),Cv 14 u.2,Pv 6],[Xb 1 B,(2,.box [cv (none:Option (cC 200 bL))]),Xb 3 (⟨0,0⟩:aY),(4,.box [iv 0]),(5,.box [.ptr 10 0]),Xb 10 w,Xb 6 u.1],[1,2,3,4,5],[],true,0⟩ [iv 0,iv 0,iv 0,iv 0,.v .bX] (by simp only[bO,ye,qA,r_,qo,rL,s9,sj,tg,ql,rP,xN,tF,th,tf,s_,vE,vC,sw,s7];rfl) (m_ 0 7 0 u.2 (yg 1 (bq 22 19 (Gf 7 .i64 10 λD O=>QX 2 1 false 10 w u.2.message 1 D O (.int .i64 D.from_.index) (by rfl) (bq 3 28 aZ (Gf 8 .i64 10 λG Q=>QK 1 10 w u.2.message 0 G Q (⟨u.1,G.to_⟩:bL) u.1 rfl aZ))) (bq 7 36 (Gf 7 .i64 10 λI S=>QX 2 1 false 10 w u.2.message 3 I S (.int .i64 I.to_.index) (by rfl) (bq 3 45 aZ (bu 12 λU _=>cH 3 54 (Gf 8 .i64 10 λJ T=>QK 1 10 w u.2.message 2 J T (⟨J.from_,u.1⟩:bL) u.1 rfl aZ) aZ))) aZ)))))) (λw=>VR 13 (bO [Pv 2,Pv 3,Pv 4] [(2,.box [.ptr 10 0]),Xb 3 (⟨0,0⟩:aY),(4,.box [iv 0]),Xb 10 w]) [.ptr 10 0,cv (⟨0,0⟩:aY),iv 0] (RN (d:=10) (x:=w) (vs:=[enc (⟨0,0⟩:aY),.int .i64 0]) (by kernel_rfl)) (by kernel_rfl)) (λx=>Empty.elim x) (λz=>aZ)))))
namespace jg
def J1 (D:cC 200 bL) (B:Sl aY) (J:Sl Event) (G:aY):Option (Sl aY):=
 (idx J (IntKind.wrap .i64 (G.index-1))).bind λu=>
 (bf (u.kind==2)
 ((cC.at D u.message).bind λw=>
 some (decide (w.to_.index>0)))
 (some false):Option Bool).bind λz=>
 bf z
 ((cC.at D u.message).bind λA=>
 (iP B (A.to_:aY)).bind λC=>
 some C)
 (some B)
theorem iZ (B:cC 200 bL) (D:Sl aY) (J:Sl Event) (G:aY):Le ((J1 B D J G).bind (λr=>some [enc r])) (cn Sy cL (mK (tr Tx 189)) (oe (tb Tx 189) [1,1,1,1,0,0] [] (bO [Kv 1 B,Pv 5,Ov 7,Cv 8 J] [Xb 5 G,Lb 2007 D]))):=
 bF 7 λu _=>m_ 2 9 0 u (bE 8 10 [40] 50 (bq 8 40 (KI 4 .i64 λw z=>PL 0 2 B u.message 0 w z (PL 0 1 B u.message 2 w z (Lo 0 1 false B u.message 3 w z (.int .i64 w.to_.index) (by rfl) (bl 2)))) (bl 10)) λI=>bq 2 50 (KI 7 .i64 λA C=>PL 0 2 B u.message 0 A C (Lo 0 2 true B u.message 2 A C (enc A.to_) (by rfl) (xe 1 2007 59 60 λL _=>aZ))) aZ)
end jg
def jg (D:Trace) (B:cC 200 bL) (x2:aY):Option (Sl aY):=
 (idx D.procs x2.proc).bind λu=>
 bf (decide (x2.index<(len u.events)))
 (jg.J1 B (Sl.row [⟨x2.proc,IntKind.wrap .i64 (x2.index+1)⟩]:Sl aY) u.events x2)
 (jg.J1 B (Sl.nil:Sl aY) u.events x2)
open jg in
instance Tu (D:Trace) (B:cC 200 bL) (x2:aY):Fc Sy cL (jg D B x2):=Fc.N 189 [enc D,.fptr (cells B),enc x2] (bY 2 3 D (bF 15 λu _=>ct 11 u.events (bq 3 21 (QH 10 29 30 .bX (⟨x2.proc,IntKind.wrap .i64 (x2.index+1)⟩:aY) (kr 5 (iZ B (Sl.row [⟨x2.proc,IntKind.wrap .i64 (x2.index+1)⟩]:Sl aY) u.events x2))) (kr 5 (iZ B (Sl.nil:Sl aY) u.events x2)))))
namespace iq
def fe (U:Trace) (W:Sl aY) (Y:Int) (aa:Trace) (ab:cC 200 bL) (ad:aY) (ae:Bool) (J:aY) (B:Sl aY) (G:Int) (D:Mo aY Bool):Option (Fw ((Sl aY)×Int×(Mo aY Bool)) ((Sl aY)×(Mo aY Bool)) Unit):=
 bf (decide (G<Y))
 ((idx W G).bind λu=>
 bf (JW u J)
 (some (.r ()))
 (bf (DX D u false)
 (some (.n (B,IntKind.wrap .i64 (G+1),D)))
 ((iP B (u:aY)).bind λw=>
 some (.n (w,IntKind.wrap .i64 (G+1),rA D u true)))))
 (some (.x (B,D)))
def W3 (D:Sl aY) (B:Trace) (U:Sl aY) (W Y:Int) (aa:Trace) (ab:cC 200 bL) (ad:aY) (ae:Bool) (G:aY) (J:Mo aY Bool):Option (Fw ((Sl aY)×(Mo aY Bool)) Unit Unit):=
 (bW (λq:(Sl aY)×Int×(Mo aY Bool)=>fe B U W aa ab ad ae G q.1 q.2.1 q.2.2) (D,Y,J)).bind (Fw.elim
 (λe=>some (.n (e.1,e.2)))
 (λe=>some (.r ())))
def bZ (D G:Trace) (J:cC 200 bL) (Y:aY) (aa:Bool) (U:aY) (B:Sl aY) (W:Mo aY Bool):Option (Fw ((Sl aY)×(Mo aY Bool)) Unit Unit):=
 bf (decide ((len B)>0))
 ((Sl.rQ B (IntKind.wrap .i64 ((len B)-1))).bind λw=>
 (Sl.get B w).bind λz=>
 (oM B none (some (IntKind.wrap .i64 ((len B)-1)))).bind λA=>
 (jg G J z).bind λu=>
 W3 A D u (len u) 0 G J Y aa U W)
 (some (.x ()))
def W2 (G:Sl aY) (B U:Trace) (W:cC 200 bL) (Y:aY) (aa:Bool) (D:aY) (J:Mo aY Bool):Option (Fw Unit Empty aY):=
 (bW (λq:(Sl aY)×(Mo aY Bool)=>bZ B U W Y aa D q.1 q.2) (G,J)).bind (Fw.elim
 (λe=>some (.n ()))
 (λe=>some (.r D)))
def jB (B D:Trace) (G:cC 200 bL) (J:aY) (U:Bool) (x:aY×Event):Option (Fw Unit Empty aY):=
 W2 (Sl.row [x.1]:Sl aY) B D G J U x.1 []
def E1 (B D:Trace) (G:cC 200 bL) (J:aY) (U:Bool):Option (aY×Bool):=
 (jh B).bind λu=>(kA (λ(x:aY×Event) (q:Unit)=>jB B D G J U x) u ()).bind (Fw.qw
 (λq=>some (⟨0,0⟩,false))
 (λe=>Empty.elim e)
 (λe=>some (e,true)))
end iq
def iq (B:Trace) (D:cC 200 bL):Option (aY×Bool):=
 (jm B).bind λu=>
 iq.E1 u B D (⟨0,0⟩:aY) false
open iq in
instance Rs (B:Trace) (D:cC 200 bL):Fc Sy cL (iq B D):=Fc.M 158 [enc B,.fptr (cells D)] (bY 2 2 B (bu 9 λw _=>D2 λT O=>AR 4 [Pv 2,Pv 3,Pv 4,Pv 5,(13,.v (.clo 184 [] [.fptr (cells w)]))] (λQ=>[Xb 2 B,(3,.box [cp D]),Xb 4 (⟨0,0⟩:aY),(5,.box [bv false])]) (λG=>Empty.elim G) (λG=>[Xb 2 B,(3,.box [cp D]),Xb 4 G,(5,.box [bv true])]) (yo w T O) (λA Q=>yg 4 (dU 18 (λu=>⟨[Pv 2,Pv 3,Pv 4,Pv 5,Pv 6,(7,.mp 16),Ov 8,(13,.v (.clo 184 [] [.fptr (cells w)]))],[Xb 2 B,(3,.box [cp D]),Xb 4 (⟨0,0⟩:aY),(5,.box [bv false]),Xb 6 A.1,(16,vY u.2),Lb 2008 u.1],[2,3,4,5],[],true,0⟩) (λI=>(2,⟨[Pv 2,Pv 3,Pv 4,Pv 5,(13,.v (.clo 184 [] [.fptr (cells w)]))],[Xb 2 B,(3,.box [cp D]),Xb 4 (⟨0,0⟩:aY),(5,.box [bv false])],[2,3,4,5],[],true,0⟩)) (λI=>⟨[],[Xb 2 B,(3,.box [cp D]),Xb 4 A.1,(5,.box [bv true])],[2,3,4,5],[],true,0⟩) (λu=>LP 6 2008 u.1 (bq 3 21 (LP 8 2008 u.1 (xo .i64 1 2008 λU _=>BL 0 2008 0 2 true (λJ=>.agg [.int .i64 J.proc,.int .i64 J.index]) λJ _=>LP 8 2008 u.1 (VK 1 false true 2008 32 [.int .i64 (IntKind.wrap .i64 ((len u.1)-1))] λW _=>bu 8 λL _=>ct 0 L (dU 6 (λz=>⟨[Pv 2,Pv 3,Pv 4,Pv 5,Pv 6,(7,.mp 16),Ov 8,(13,.v (.clo 184 [] [.fptr (cells w)])),Cv 36 L,Iv 37 (len L),Iv 38 z.2.1],[Xb 2 B,(3,.box [cp D]),Xb 4 (⟨0,0⟩:aY),(5,.box [bv false]),Xb 6 A.1,(16,vY z.2.2),Lb 2008 z.1],[2,3,4,5],[],true,0⟩) (λC=>(4,⟨[Pv 2,Pv 3,Pv 4,Pv 5,Pv 6,(7,.mp 16),Ov 8,(13,.v (.clo 184 [] [.fptr (cells w)]))],[Xb 2 B,(3,.box [cp D]),Xb 4 (⟨0,0⟩:aY),(5,.box [bv false]),Xb 6 A.1,(16,vY C.2),Lb 2008 C.1],[2,3,4,5],[],true,0⟩)) (λC=>⟨[],[Xb 2 B,(3,.box [cp D]),Xb 4 A.1,(5,.box [bv true])],[2,3,4,5],[],true,0⟩) (λz=>bq 8 39 (bF 7 λS _=>bq 13 44 aZ (VH 7 16 z.2.2 S false (cH 3 49 aZ (Ww 5 16 z.2.2 S true (xe 6 2008 54 55 λX _=>aZ))))) aZ) (λC=>aZ) (λC=>aZ))))) aZ)) (λI=>aZ) (λI=>aZ))) (λQ=>aZ) (λx=>Empty.elim x) (λG=>aZ)))
namespace gP
def J5 (B D:Trace) (G:aY) (J:Int) (x:aY×Event):Option (Fw Unit Empty (aY×Int)):=
 (dF D x.1 x.2).bind λu=>
 bf (u==0)
 (some (.n ()))
 (some (.r (x.1,u)))
def E2 (B D:Trace) (G:aY) (J:Int):Option (aY×Int):=
 (jh B).bind λz=>(kA (λ(x:aY×Event) (q:Unit)=>J5 B D G J x) z ()).bind (Fw.qw
 (λq=>(eE D).bind λu=>
 bf (u.2.2==0)
 ((u.1).bind λA=>
 (iq D A).bind λw=>
 bf w.2
 (some (w.1,10))
 (some (⟨0,0⟩,0)))
 (some (u.2.1,u.2.2)))
 (λe=>Empty.elim e)
 (λe=>some (e.1,e.2)))
def br (D:Int) (G:Trace) (J:aY) (U:Int) (B:Int):Option (Fw Int Unit (aY×Int)):=
 bf (decide (B<D))
 ((eF G B).bind λu=>
 bf (u==0)
 (some (.n (IntKind.wrap .i64 (B+1))))
 (some (.r ((⟨B,0⟩:aY),u))))
 (some (.x ()))
def W1 (J U:Int) (B:Trace) (D:aY) (G:Int):Option (aY×Int):=
 (bW (λq:Int=>br J B D G q) U).bind (Fw.elim
 (λe=>(jm B).bind λu=>
 gP.E2 u B D G)
 (λe=>some (e.1,e.2)))
end gP
def gP (B:Trace):Option (aY×Int):=
 (nC (len B.procs) 1 8).bind λu=>
 bf u
 (gP.W1 (len B.procs) 0 B (⟨0,0⟩:aY) 0)
 (some (⟨0,0⟩,1))
open gP in
instance Tv (B:Trace):Fc Sy cL (gP B):=Fc.M 117 [enc B] (bY 2 1 B (ct 9 B.procs (bu 0 λL _=>cH 3 18 (ct 8 B.procs (dU 5 (λA=>(bO [Pv 1,Pv 2,Pv 3,Iv 22 (len B.procs),Iv 23 A] [Xb 1 B,Xb 2 (⟨0,0⟩:aY),(3,.box [iv 0])])) (λu=>(0,(bO [Pv 1,Pv 2,Pv 3] [Xb 1 B,Xb 2 (⟨0,0⟩:aY),(3,.box [iv 0])]))) (λu=>(bO [Pv 2,Pv 3] [Xb 2 u.1,(3,.box [iv u.2])])) (λA=>bq 7 24 (bu 15 λO _=>cH 9 30 aZ aZ) aZ) (λu=>bu 6 λz _=>D2 λI C=>AR 4 [Pv 1,Pv 2,Pv 3,(36,.v (.clo 184 [] [.fptr (cells z)]))] (λD=>[Xb 1 B,Xb 2 (⟨0,0⟩:aY),(3,.box [iv 0])]) (λw=>Empty.elim w) (λw=>[Xb 1 B,Xb 2 w.1,(3,.box [iv w.2])]) (yo z I C) (λJ D=>m_ 8 7 0 J.2 (yg 1 (bu 7 λQ _=>cH 9 44 aZ aZ))) (λD=>bu 5 λG _=>cH 17 54 (Wu 8 (λS=>(bO [Pv 2,Pv 3,(36,.v (.clo 184 [] [.fptr (cells z)])),Pv 10,Iv 11 G.2.2,Bv 54 false,Cv 58 B,Cv 59 S] [Xb 1 B,Xb 2 (⟨0,0⟩:aY),(3,.box [iv 0]),Xb 10 G.2.1])) λT _=>bu 0 λU _=>bq 13 63 aZ aZ) aZ) (λx=>Empty.elim x) (λw=>aZ)) (λu=>aZ))) aZ)))
def dJ (B:Trace):Option Bool:=
 (gP B).bind λu=>
 some (u.2==0)
instance TE (B:Trace):Fc Sy cL (dJ B):=Fc.M 82 [enc B] (bY 2 1 B (bu 6 λu _=>aZ))
def s6 (B:Int):Option Bool:=
 (bf (B==2)
 (some true)
 (some (B==3)):Option Bool).bind λu=>
 (bf u
 (some true)
 (some (B==4)):Option Bool).bind λw=>
 some w
instance Ot (B:Int):Fc Sy cL (s6 B):=Fc.M 159 [.int .i64 B] (bE 10 3 [5] 8 (bq 10 5 (bl 3) (bl 3)) λu=>bE 1 3 [0,9] 12 (bq 1 9 (bl 3) (bl 3)) λw=>aZ)
def kj (B:Pred):Option Bool:=
 (bf (decide (B.kind<1))
 (some true)
 (some (decide (B.kind>=22))):Option Bool).bind λz=>
 (bf z
 (some true)
 ((cC.at wP B.kind).bind λA=>
 some (!((len B.l)==A))):Option Bool).bind λC=>
 (bf C
 (some true)
 (some (decide (B.n<0))):Option Bool).bind λD=>
 (bf D
 (some true)
 (some (decide (B.n>1125899906842624))):Option Bool).bind λG=>
 (bf G
 (some true)
 ((bf (B.n==0)
 (some false)
 (some (!(B.kind==1))):Option Bool).bind λI=>
 some I):Option Bool).bind λJ=>
 bf J
 (some false)
 ((s6 B.kind).bind λL=>
 (bf L
 (some true)
 ((bf (B.proc==0)
 (some (B.peer==0))
 (some false):Option Bool).bind λO=>
 (bf O
 (some (ByteArray.toList B.name==ByteArray.toList ByteArray.empty))
 (some false):Option Bool).bind λu=>
 some u):Option Bool).bind λw=>
 some w)
instance Ri (B:Pred):Fc Sy cL (kj B):=Fc.M 119 [enc B] (bY 2 1 B (bE 10 4 [6] 10 (bq 10 6 (bl 4) (bl 4)) λC=>bE 1 9 [11] 20 (bq 1 11 (bl 9) (dh 2 13 (Pred.ec B.l) (ct 0 B.l (KI 2 .i64 λu w=>Lo 0 1 false wP B.kind 0 u w (.int .i64 u) (by rfl) (bl 2))))) λD=>bE 1 4 [21] 25 (bq 1 21 (bl 4) (bl 4)) λG=>bE 1 4 [26] 30 (bq 1 26 (bl 4) (bl 4)) λI=>bE 1 9 [31] 40 (bq 1 31 (bl 9) (bE 4 4 [35] 39 (cH 4 35 (bl 4) (bl 4)) λJ=>bl 1)) λL=>bq 2 40 aZ (bu 7 λO _=>bE 1 14 [1,44] 58 (bq 1 44 (bl 14) (bE 4 4 [48] 52 (bq 4 48 (bl 4) (bl 4)) λQ=>bE 1 4 [1,53] 57 (bq 1 53 (bl 4) (bl 4)) λz=>bl 1)) λA=>aZ)))
def hU (D:Pred) (G B:Int) (r:(Pred×Int×Int)->Option (Bool×Int)):Option (Bool×Int):=
 (r (D,IntKind.wrap .i64 (G+1),B)).bind λu=>
 some ((!u.1),u.2)
abbrev wu (r:(Pred×Int×Int)->Option (Bool×Int)) (hr:wo Sy cL 118 (λz:Pred×Int×Int=>[cv z.1,iv z.2.1,.ptr 9004 0,.ptr 9003 0]) (λz:Pred×Int×Int=>[(9004,bx (z.2.2:Int)),(9003,.box [.clo 118 [] [.ptr 9004 0,.ptr 9003 0]])]) (λr:Bool×Int=>[.bool r.1]) (λ(z:Pred×Int×Int) (r:Bool×Int)=>[(9004,bx (r.2:Int)),(9003,.box [.clo 118 [] [.ptr 9004 0,.ptr 9003 0]])]) r) (D:Pred) (G B:Int):nH Sy cL (hU D G B r):=nH.mk' 121 [cv D,.ptr 9003 0,.v (.fptr (cells G))] [(9003,.box [.clo 118 [] [.ptr 9004 0,.ptr 9003 0]]),(9004,bx (B:Int))] (λr:Bool×Int=>[.bool r.1]) (λr:Bool×Int=>[(9003,.box [.clo 118 [] [.ptr 9004 0,.ptr 9003 0]]),(9004,bx (r.2:Int))]) (bY 2 3 D (vO 9 (nH.of (D,IntKind.wrap .i64 (G+1),B) hr) λu _=>aZ))
section
variable {σ:Type} {gf:FuncId} {ex:List SV} {os:σ->dn} {p:Pred->σ->Option (Bool×σ)} (h:yb Sy cL (.clo gf [] ex) gf ex os p) (s0:Sl Pred) (x:σ)
abbrev uk:nH Sy cL (Pb s0 p x):=nH.mk' 160 [cv s0,(.clo gf [] ex)] (os x) (λr=>[.int .i64 r.1]) (λr=>os r.2)
 (ct 9 s0 (dU 5 (λq=>⟨[Cv 0 s0,(1,(.clo gf [] ex)),Iv 7 (len s0),Iv 8 q.1],os q.2,(os x).map (·.1),[],true,0⟩) (λe=>(0,⟨[],os e,(os x).map (·.1),[],true,0⟩)) (λe=>⟨[Iv 4 e.1],os e.2,(os x).map (·.1),[],true,0⟩)
  (λq=>bq 7 9 (bF 16 λy _=>MM 1 h y q.2 λr _=>bq 2 16 aZ aZ) aZ) (λe=>FZ 9 h [.int .i64 (-1)] rfl) (λe=>Le.of_eq (Gk h (ys:=[.int .i64 e.1]) (by kernel_rfl) rfl)))) (hp:=λr=>h.wi x r.2)
abbrev uQ:nH Sy cL (AD s0 p x):=nH.mk' 120 [cv s0,(.clo gf [] ex)] (os x) (λr=>[.bool r.1]) (λr=>os r.2)
 (JD 9 (uk h s0 x) (h.hd x (enc s0)) (λr=>h.put x r.2) λy _=>FZ 5 h [.bool (decide (y.1>=0))] rfl) (hp:=λr=>h.wi x r.2)
end
section
variable {σ:Type} {gf:FuncId} {ex:List V} {os:σ->dn} {p:Pred->σ->Option (Bool×σ)} (h:yb Sy cL (.v (.clo gf [] ex)) gf (ex.map .v) os p) (s0:Sl Pred) (x:σ)
abbrev uw:nH Sy cL (Pb s0 p x):=nH.mk' 160 [cv s0,(.v (.clo gf [] ex))] (os x) (λr=>[.int .i64 r.1]) (λr=>os r.2)
 (ct 9 s0 (dU 5 (λq=>⟨[Cv 0 s0,(1,(.v (.clo gf [] ex))),Iv 7 (len s0),Iv 8 q.1],os q.2,(os x).map (·.1),[],true,0⟩) (λe=>(0,⟨[],os e,(os x).map (·.1),[],true,0⟩)) (λe=>⟨[Iv 4 e.1],os e.2,(os x).map (·.1),[],true,0⟩)
  (λq=>bq 7 9 (bF 16 λy _=>MM 1 h y q.2 λr _=>bq 2 16 aZ aZ) aZ) (λe=>FZ 9 h [.int .i64 (-1)] rfl) (λe=>Le.of_eq (Gk h (ys:=[.int .i64 e.1]) (by kernel_rfl) rfl)))) (hp:=λr=>h.wi x r.2)
abbrev lB:nH Sy cL (AD s0 p x):=nH.mk' 120 [cv s0,(.v (.clo gf [] ex))] (os x) (λr=>[.bool r.1]) (λr=>os r.2)
 (JD 9 (uw h s0 x) (h.hd x (enc s0)) (λr=>h.put x r.2) λy _=>FZ 5 h [.bool (decide (y.1>=0))] rfl) (hp:=λr=>h.wi x r.2)
end
def eB (G:Pred) (B D:Int) (r:(Pred×Int×Int)->Option (Bool×Int)):Option (Bool×Int):=
 (bf (decide ((IntKind.wrap .i64 (D-1))<0))
 (some true)
 (some (decide (B>20))):Option Bool).bind λw=>
 (bf w
 (some true)
 ((kj G).bind λz=>
 some (!z)):Option Bool).bind λA=>
 bf A
 (some (false,IntKind.wrap .i64 (D-1)))
 ((AD G.l (λx s=>hU x B s r) (IntKind.wrap .i64 (D-1))).bind λu=>
 some ((!u.1),u.2))
theorem wq (r:(Pred×Int×Int)->Option (Bool×Int)) (hr:wo Sy cL 118 (λz:Pred×Int×Int=>[cv z.1,iv z.2.1,.ptr 9004 0,.ptr 9003 0]) (λz:Pred×Int×Int=>[(9004,bx (z.2.2:Int)),(9003,.box [.clo 118 [] [.ptr 9004 0,.ptr 9003 0]])]) (λr:Bool×Int=>[.bool r.1]) (λ(z:Pred×Int×Int) (r:Bool×Int)=>[(9004,bx (r.2:Int)),(9003,.box [.clo 118 [] [.ptr 9004 0,.ptr 9003 0]])]) r) (D:Pred) (B G:Int):∀J,eB D B G r=some J->∃m',cL 118 [cv D,iv B,.ptr 9004 0,.ptr 9003 0] [(9004,bx (G:Int)),(9003,.box [.clo 118 [] [.ptr 9004 0,.ptr 9003 0]])]=some (((λr:Bool×Int=>[.bool r.1]) J).map .v,m')/\∀U,kH m' ([(9004,bx (G:Int)),(9003,.box [.clo 118 [] [.ptr 9004 0,.ptr 9003 0]])].map (·.1)) U=some (mF U ((λr:Bool×Int=>[(9004,bx (r.2:Int)),(9003,.box [.clo 118 [] [.ptr 9004 0,.ptr 9003 0]])]) J)):=
 (nH.mk' 118 [cv D,iv B,.ptr 9004 0,.ptr 9003 0] [(9004,bx (G:Int)),(9003,.box [.clo 118 [] [.ptr 9004 0,.ptr 9003 0]])] (λr:Bool×Int=>[.bool r.1]) (λr:Bool×Int=>[(9004,bx (r.2:Int)),(9003,.box [.clo 118 [] [.ptr 9004 0,.ptr 9003 0]])]) (bY 2 4 D (bE 17 3 [11] 14 (bq 17 11 (bl 3) (bl 3)) λu=>bE 1 4 [15] 19 (bq 1 15 (bl 4) (bu 1 λw _=>bl 2)) λA=>bq 2 19 aZ (dh 7 21 (Pred.ec D.l) (vO 2 (uQ (yb.WX (σ:=Int) (g:=121) (e:=[.ptr 9003 0,cp B]) (os:=λs=>[(9003,.box [.clo 118 [] [.ptr 9004 0,.ptr 9003 0]]),(9004,bx (s:Int))]) (p:=(λx s=>hU x B s r)) (λx s=>wu r hr x B s)) D.l (IntKind.wrap .i64 (G-1))) λC _=>aZ)))):nH Sy cL (eB D B G r)).h
def qb (D:Pred) (B G:Int):Option (Bool×Int):=c_ (λr (z:Pred×Int×Int)=>eB z.1 z.2.1 z.2.2 r) 100000 (D,B,G)
abbrev yH (D:Pred) (B G:Int):nH Sy cL (qb D B G):=nH.of (D,B,G) (wo.fix (A:=λz:Pred×Int×Int=>[cv z.1,iv z.2.1,.ptr 9004 0,.ptr 9003 0]) (O:=λz:Pred×Int×Int=>[(9004,bx (z.2.2:Int)),(9003,.box [.clo 118 [] [.ptr 9004 0,.ptr 9003 0]])]) (E:=λr:Bool×Int=>[.bool r.1]) (M:=λ(z:Pred×Int×Int) (r:Bool×Int)=>[(9004,bx (r.2:Int)),(9003,.box [.clo 118 [] [.ptr 9004 0,.ptr 9003 0]])]) (b:=(λr (z:Pred×Int×Int)=>eB z.1 z.2.1 z.2.2 r)) (by kernel_rfl) (by kernel_rfl) (by kernel_rfl) (λr hr z=>wq r hr z.1 z.2.1 z.2.2) 100000)
def k8 (B:Pred):Option Bool:=
 (qb B 1 200).bind λu=>
 some u.1
instance Oc (B:Pred):Fc Sy cL (k8 B):=Fc.M 83 [enc B] (bY 2 1 B (vO 26 (yH B 1 200) λu _=>aZ))
def jO (B:Trace) (p1:Int):Option Bool:=
 (bf (decide (p1>=0))
 (some (decide (p1<(len B.procs))))
 (some false):Option Bool).bind λu=>
 some u
instance Of (B:Trace) (p1:Int):Fc Sy cL (jO B p1):=Fc.M 123 [enc B,.int .i64 p1] (bY 2 2 B (bE 8 6 [1,2,7] 13 (bq 8 7 (ct 3 B.procs (bl 2)) (bl 6)) λu=>aZ))
def nQ (B:Var) (D:ByteArray):Option Bool:=
 some (ByteArray.toList B.name==ByteArray.toList D)
instance Mb (B:Var) (D:ByteArray):Fc Sy cL (nQ B D):=Fc.M 162 [enc B,.fptr (cells D)] (aZ)
def qB (D:Trace) (p1:Int) (B:ByteArray):Option Bool:=
 (idx D.procs p1).bind λu=>
 (gF u.vars (λz=>nQ z B)).bind λw=>
 some w
instance O2 (D:Trace) (p1:Int) (B:ByteArray):Fc Sy cL (qB D p1 B):=Fc.M 124 [enc D,.int .i64 p1,.str B] (bY 2 3 D (bF 9 λu _=>cg (F:=pE 162 [.fptr (cells B)] (λz=>nQ z B) lY.sW u.vars) 3 λw _=>aZ))
def jV (B:Pred) (D:Trace):Option Bool:=
 bf (B.kind==2)
 ((jO D B.proc).bind λA=>
 (bf A
 (some (B.peer==0))
 (some false):Option Bool).bind λC=>
 (bf C
 ((qB D B.proc B.name).bind λG=>
 some G)
 (some false):Option Bool).bind λI=>
 some I)
 (bf (B.kind==3)
 ((jO D B.proc).bind λJ=>
 (bf J
 (some (B.peer==0))
 (some false):Option Bool).bind λL=>
 (bf L
 (some (ByteArray.toList B.name==ByteArray.toList ByteArray.empty))
 (some false):Option Bool).bind λO=>
 some O)
 (bf (B.kind==4)
 ((jO D B.proc).bind λQ=>
 (bf Q
 ((jO D B.peer).bind λS=>
 some S)
 (some false):Option Bool).bind λu=>
 (bf u
 (some (!(B.proc==B.peer)))
 (some false):Option Bool).bind λw=>
 (bf w
 (some (ByteArray.toList B.name==ByteArray.toList ByteArray.empty))
 (some false):Option Bool).bind λz=>
 some z)
 (some true)))
instance Jf (B:Pred) (D:Trace):Fc Sy cL (jV B D):=Fc.M 122 [enc B,.fptr (cells D)] (bY 2 2 B (bq 17 6 (bu 6 λA _=>bE 1 4 [12] 16 (bq 1 12 (bl 4) (bl 4)) λC=>bE 1 7 [1,2,17] 24 (bq 1 17 (bu 5 λG _=>bl 1) (bl 7)) λI=>aZ) (bq 7 25 (bu 6 λJ _=>bE 1 4 [31] 35 (bq 1 31 (bl 4) (bl 4)) λL=>bE 1 4 [2,36] 40 (bq 1 36 (bl 4) (bl 4)) λO=>aZ) (bq 7 41 (bu 6 λQ _=>bE 1 5 [1,47] 52 (bq 1 47 (bu 3 λS _=>bl 1) (bl 5)) λu=>bE 1 6 [53] 59 (bq 1 53 (bl 6) (bl 6)) λw=>bE 1 4 [2,60] 64 (bq 1 60 (bl 4) (bl 4)) λz=>aZ) aZ))))
def rG (B:Pred) (p1:Pred->Option Bool) (r:Pred->Option Bool):Option Bool:=
 (r B).bind λu=>
 some (!u)
abbrev Aq (g1:FuncId) (e1:List V) (p1:Pred->Option Bool) (h1:lY Sy cL g1 [] e1 (λz:Pred=>[enc z]) (λr:Bool=>[.bool r]) p1 true) (r:Pred->Option Bool) (hr:eR Sy cL 103 (λz:Pred=>[enc z,.clo g1 [] e1]) (λr:Bool=>[.bool r]) r true) (B:Pred):Fc Sy cL (rG B p1 r):=Fc.M 146 [enc B,.fptr [.clo g1 [] e1]] (bY 2 2 B (bu (F:=Fc.of B hr) 7 λu _=>aZ))
def i_ (D:Pred) (p1:Pred->Option Bool) (r:Pred->Option Bool):Option Bool:=
 (p1 D).bind λw=>
 (bf w
 ((AD D.l (λx u=>((λz=>rG z p1 r) x).map λb=>(b,u)) ()).bind λA=>
 some (!A.1))
 (some false):Option Bool).bind λB=>
 some B
theorem AG (g1:FuncId) (e1:List V) (p1:Pred->Option Bool) (h1:lY Sy cL g1 [] e1 (λz:Pred=>[enc z]) (λr:Bool=>[.bool r]) p1 true) (r:Pred->Option Bool) (hr:eR Sy cL 103 (λz:Pred=>[enc z,.clo g1 [] e1]) (λr:Bool=>[.bool r]) r true) (B:Pred):Le ((i_ B p1 r).bind λr=>some [.bool r]) (fS cL 103 [enc B,.clo g1 [] e1]):=
 (Fc.M 103 [enc B,.clo g1 [] e1] (bY 2 2 B (yJ 8 h1.f B λw _=>AT 1 6 [] (λu=>(bO [Bv 14 u] [Xb 2 B])) (bq 1 8 (dh 2 10 (Pred.ec B.l) (vO 2 (lB (yb.Ul (g:=146) (e:=[.fptr [.clo g1 [] e1]]) (p:=(λz=>rG z p1 r)) (lY.sW (F:=λz=>Aq g1 e1 p1 h1 r hr z))) B.l ()) λA _=>bl 2)) (bl 7)) λu=>aZ)):Fc Sy cL (i_ B p1 r)).F.h ()
def mM (B:Pred) (p1:Pred->Option Bool):Option Bool:=c_ (λr (z:Pred)=>i_ z p1 r) 100000 B
abbrev sK (g1:FuncId) (e1:List V) (p1:Pred->Option Bool) (h1:lY Sy cL g1 [] e1 (λz:Pred=>[enc z]) (λr:Bool=>[.bool r]) p1 true) (B:Pred):Fc Sy cL (mM B p1):=Fc.of B (eR.fix (A:=λz:Pred=>[enc z,.clo g1 [] e1]) (E:=λr:Bool=>[.bool r]) (sc:=true) (b:=(λr (z:Pred)=>i_ z p1 r)) (by kernel_rfl) (λ_ _=>rfl) (λr hr z=>AG g1 e1 p1 h1 r hr z) 100000)
def nJ (B:Trace) (p1:Pred):Option Bool:=
 (mM p1 (λz=>jV z B)).bind λu=>
 some u
instance Mg (B:Trace) (p1:Pred):Fc Sy cL (nJ B p1):=Fc.M 84 [enc B,enc p1] (bY 2 2 B (bY 0 3 p1 (cg (F:=sK 122 [.fptr (cells B)] (λz=>jV z B) lY.sW p1) 7 λu _=>aZ)))
def k7 (B:Int):Option Int:=
 bf (decide (B<=8))
 (some 1)
 (some 2)
instance N9 (B:Int):Fc Sy cL (k7 B):=Fc.M 56 [.int .i64 B] (bq 12 4 aZ aZ)
def qZ (B:Int):Option Int:=
 bf (decide (B<=12))
 (some 1)
 (some 2)
instance QO (B:Int):Fc Sy cL (qZ B):=Fc.M 127 [.int .i64 B] (bq 12 4 aZ aZ)
def lJ (B D:Pred):Option Bool:=
 (k7 B.kind).bind λu=>
 (qZ D.kind).bind λw=>
 some (!(u==w))
instance Jp (B D:Pred):Fc Sy cL (lJ B D):=Fc.M 126 [enc B,.fptr (cells D)] (bY 2 2 B (cg 7 λu _=>cg 2 λw _=>aZ))
def iU (B:Pred):Option Bool:=
 (AD B.l (λx u=>((λz=>lJ z B) x).map λb=>(b,u)) ()).bind λw=>
 some (!w.1)
instance Ma (B:Pred):Fc Sy cL (iU B):=Fc.M 125 [enc B] (bY 2 1 B (dh 7 4 (Pred.ec B.l) (vO 2 (lB (yb.Ul (g:=126) (e:=[.fptr (cells B)]) (p:=(λz=>lJ z B)) lY.sW) B.l ()) λu _=>aZ)))
def od (B:Pred):Option Bool:=
 (mM B (λz=>iU z)).bind λu=>
 some u
instance Qd (B:Pred):Fc Sy cL (od B):=Fc.M 85 [enc B] (bY 2 1 B (bu (F:=sK 125 [] (λz=>iU z) lY.sW B) 6 λu _=>aZ))
namespace eG
def bZ (D:Sl Int) (B i4:Int):Option (Fw (Int×Int) Int Empty):=
 bf (decide (i4<(len D)))
 ((idx D i4).bind λu=>
 some (.n ((if u<B then u else B),IntKind.wrap .i64 (i4+1))))
 (some (.x B))
def W2 (B:Sl Int) (D i4:Int):Option Int:=
 (bW (λq:Int×Int=>bZ B q.1 q.2) (D,i4)).bind (Fw.elim
 (λe=>some e)
 (λe=>Empty.elim e))
def J1 (B:Sl Int):Option Int:=
 (idx B 0).bind λu=>
 eG.W2 B u 1
end eG
def eG (B:Sl Int):Option Int:=
 bf (decide ((len B)<1))
 (none)
 (eG.J1 B)
open eG in
instance PM (B:Sl Int):Fc Sy cL (eG B):=Fc.M 131 [enc B] (ct 9 B (bq 3 7 ((Le.none _)) (nZ 4 (bF 3 λz _=>jU 12 (λu=>(bO [Cv 0 B,Iv 3 u.1,Iv 4 u.2] [])) (λw=>(0,(bO [Iv 3 w] []))) (λu=>ct 6 B (bq 3 15 (bF 9 λA _=>aZ) aZ)) (λw=>aZ)))))
namespace eM
def bZ (D:Sl Int) (B i4:Int):Option (Fw (Int×Int) Int Empty):=
 bf (decide (i4<(len D)))
 ((idx D i4).bind λu=>
 some (.n ((if u>B then u else B),IntKind.wrap .i64 (i4+1))))
 (some (.x B))
def W2 (B:Sl Int) (D i4:Int):Option Int:=
 (bW (λq:Int×Int=>bZ B q.1 q.2) (D,i4)).bind (Fw.elim
 (λe=>some e)
 (λe=>Empty.elim e))
def J1 (B:Sl Int):Option Int:=
 (idx B 0).bind λu=>
 eM.W2 B u 1
end eM
def eM (B:Sl Int):Option Int:=
 bf (decide ((len B)<1))
 (none)
 (eM.J1 B)
open eM in
instance PA (B:Sl Int):Fc Sy cL (eM B):=Fc.M 132 [enc B] (ct 9 B (bq 3 7 ((Le.none _)) (nZ 4 (bF 3 λz _=>jU 12 (λu=>(bO [Cv 0 B,Iv 3 u.1,Iv 4 u.2] [])) (λw=>(0,(bO [Iv 3 w] []))) (λu=>ct 6 B (bq 3 15 (bF 9 λA _=>aZ) aZ)) (λw=>aZ)))))
def lz (B:Sl Int):Option bS:=
 (eG B).bind λu=>
 (eM B).bind λw=>
 some ⟨u,w⟩
instance Re (B:Sl Int):Fc Sy cL (lz B):=Fc.M 89 [enc B] (bu 8 λu _=>bu 1 λw _=>aZ)
namespace eT
def br (U:Int) (D:Sl Event) (G:Int) (J B:Int):Option (Fw (Int×Int) Int Empty):=
 bf (decide (B<G))
 ((idx D B).bind λu=>
 (bf (u.kind==2)
 (some (u.peer==U))
 (some false):Option Bool).bind λw=>
 bf w
 (some (.n (IntKind.wrap .i64 (J+1),IntKind.wrap .i64 (B+1))))
 (some (.n (J,IntKind.wrap .i64 (B+1)))))
 (some (.x J))
def W1 (J U:Int) (B:Sl Event) (D G:Int):Option Int:=
 (bW (λq:Int×Int=>br J B D q.1 q.2) (U,G)).bind (Fw.elim
 (λe=>some e)
 (λe=>Empty.elim e))
end eT
def eT (B:Trace) (p1 D:Int):Option Int:=
 (idx B.procs p1).bind λu=>
 eT.W1 D 0 u.events (len u.events) 0
open eT in
instance L_ (B:Trace) (p1 D:Int):Fc Sy cL (eT B p1 D):=Fc.M 129 [enc B,.int .i64 p1,.int .i64 D] (bY 2 3 B (bF 14 λu _=>ct 2 u.events (jU 5 (λw=>(bO [Iv 2 D,Iv 7 w.1,Cv 15 u.events,Iv 16 (len u.events),Iv 17 w.2] [])) (λz=>(0,(bO [Iv 7 z] []))) (λw=>bq 7 18 (bF 7 λA _=>m_ 2 9 0 A (bE 8 5 [9,24] 29 (bq 8 24 (bl 5) (bl 5)) λC=>bq 2 29 aZ aZ)) aZ) (λz=>aZ))))
def nP (B:Var) (D:ByteArray):Option Bool:=
 some (ByteArray.toList B.name==ByteArray.toList D)
instance Mc (B:Var) (D:ByteArray):Fc Sy cL (nP B D):=Fc.M 201 [enc B,.fptr (cells D)] (aZ)
def tq (D:bT) (B:ByteArray):Option Int:=
 (eU D.vars (λz=>nP z B)).bind λu=>
 some u
instance Pa (D:bT) (B:ByteArray):Fc Sy cL (tq D B):=Fc.M 190 [enc D,.str B] (bY 2 2 D (cg (F:=nE 201 [.fptr (cells B)] (λz=>nP z B) lY.sW D.vars) 9 λu _=>aZ))
def rq (D:Trace) (p1:Int) (B:ByteArray):Option (Int×Int):=
 (dJ D).bind λw=>
 bf w
 ((bf (decide (p1<0))
 (some true)
 (some (decide (p1>=(len D.procs)))):Option Bool).bind λz=>
 bf z
 (some (0,2))
 ((idx D.procs p1).bind λA=>
 (tq A B).bind λu=>
 bf (decide (u<0))
 (some (0,13))
 (some (u,0))))
 (some (0,1))
instance Q2 (D:Trace) (p1:Int) (B:ByteArray):Fc Sy cL (rq D p1 B):=Fc.M 163 [enc D,.int .i64 p1,.str B] (bY 2 3 D (bu 9 λu _=>cH 4 9 (bE 6 6 [16] 22 (bq 6 16 (bl 6) (ct 3 D.procs (bl 2))) λw=>bq 3 13 aZ (bF 9 λz _=>bu 2 λA _=>bq 10 31 aZ aZ)) aZ))
def gH (s0:Sl Int):Option (Sl Int):=
 (Sl.isNil s0).bind λu=>
 bf u
 (some Sl.nil)
 ((yq (Sl.row []:Sl Int) s0).bind λw=>
 some w)
theorem nT:Ck Sy cL 168 (λs0:Sl Int=>[enc s0]) (λz=>gH z):=Ck.mk' (qE (Tx 168)) (λs0=>T6 9 λu _=>bq 2 4 aZ (Nx 7 5 7 λw _=>aZ))
def nk (B:bT):Option bT:=
 some B
instance N7 (B:bT):Fc Sy cL (nk B):=Fc.NE (λr:bT=>[(.clo 179 [] [.fptr (cells r)])]) 145 [enc B] (bY 2 1 B aZ)
namespace fM
def jB (D:bT) (G:Int) (x:Int×(Sl Int)) (B:Sl Int):Option (Fw (Sl Int) Empty Empty):=
 (idx x.2 G).bind λu=>
 (iP B (u:Int)).bind λw=>
 some (.n w)
def E1 (B:bT) (G:Int) (D:Sl Int):Option (Sl Int):=
 (jk B).bind λu=>(kA (λ(x:Int×(Sl Int)) (q:Sl Int)=>jB B G x q) u D).bind (Fw.qw
 (λq=>some q)
 (λe=>Empty.elim e)
 (λe=>Empty.elim e))
end fM
def fM (B:bT) (i1:Int):Option (Sl Int):=
 (nk B).bind λu=>
 fM.E1 u i1 (Sl.nil:Sl Int)
open fM in
instance N8 (B:bT) (i1:Int):Fc Sy cL (fM B i1):=Fc.N 164 [enc B,.int .i64 i1] (bY 2 2 B (bu 13 λz _=>D2 λC A=>AR 5 [Pv 3,Pv 5,(9,.v (.clo 179 [] [.fptr (cells z)]))] (λu=>[(3,.box [iv i1]),(5,.box [.own 4100]),Lb 4100 u]) (λw=>Empty.elim w) (λw=>Empty.elim w) (EH z C A) (λD u=>yg 3 (bF 7 λG _=>xe 2 4100 17 18 λI _=>aZ)) (λu=>aZ) (λx=>Empty.elim x) (λx=>Empty.elim x)))
def qD (D:Trace) (p1:Int) (B:ByteArray):Option (Int×Int×Int):=
 (rq D p1 B).bind λu=>
 bf (u.2==0)
 ((idx D.procs p1).bind λz=>
 (fM z u.1).bind λw=>
 (eG w).bind λA=>
 (eM w).bind λC=>
 some (A,C,0))
 (some (0,0,u.2))
instance Pc (D:Trace) (p1:Int) (B:ByteArray):Fc Sy cL (qD D p1 B):=Fc.M 130 [enc D,.int .i64 p1,.str B] (bY 2 3 D (bu 10 λu _=>cH 14 19 (bF 8 λw _=>bu 2 λz _=>bu 6 λA _=>bu 1 λC _=>aZ) aZ))
def lE (B:Trace) (p1:Pred):Option bS:=
 bf (p1.kind==1)
 ((lz (Sl.row [p1.n]:Sl Int)).bind λw=>
 some w)
 (bf (p1.kind==3)
 ((idx B.procs p1.proc).bind λz=>
 some ⟨0,len z.events⟩)
 (bf (p1.kind==4)
 ((eT B p1.proc p1.peer).bind λA=>
 some ⟨0,A⟩)
 ((qD B p1.proc p1.name).bind λu=>
 some ⟨u.1,u.2.1⟩)))
instance Rf (B:Trace) (p1:Pred):Fc Sy cL (lE B p1):=Fc.M 87 [enc B,enc p1] (bY 2 2 B (bY 0 3 p1 (bq 17 10 (cg 6 λw _=>aZ) (bq 7 16 (bF 7 λu _=>ct 2 u.events aZ) (bq 7 27 (bu 8 λz _=>aZ) (bu 11 λA _=>aZ))))))
def iN (B:bS):Option Bool:=
 (bf (decide (B.low<(-1125899906842624)))
 (some true)
 (some (decide (B.high>1125899906842624))):Option Bool).bind λu=>
 some u
instance FV (B:bS):Fc Sy cL (iN B):=Fc.M 88 [enc B] (bE 12 4 [1,6] 10 (bq 12 6 (bl 4) (bl 4)) λu=>aZ)
def sL (a0:Int):Option Int:=
 some (if(IntKind.wrap .i64 (0-a0))>a0 then(IntKind.wrap .i64 (0-a0))else a0)
instance Th (a0:Int):Fc Sy cL (sL a0):=Fc.M 133 [.int .i64 a0] (aZ)
def jx (a0 B:Int):Option Int:=
 (bf (a0==0)
 (some true)
 (some (B==0)):Option Bool).bind λu=>
 bf u
 (some 0)
 ((sL a0).bind λw=>
 (sL B).bind λz=>
 (yY .i64 1125899906842624 z).bind λA=>
 bf (decide (w>A))
 (bf ((decide (a0<0))==(decide (B<0)))
 (some 1125899906842625)
 (some (IntKind.wrap .i64 (0-1125899906842625))))
 (some (IntKind.wrap .i64 (a0*B))))
instance M1 (a0 B:Int):Fc Sy cL (jx a0 B):=Fc.M 90 [.int .i64 a0,.int .i64 B] (bE 11 3 [8] 11 (bq 11 8 (bl 3) (bl 3)) λu=>bq 2 11 aZ (bu 15 λw _=>bu 1 λz _=>Ud 0 λA _=>bq 3 20 (cH 15 25 aZ aZ) aZ))
namespace dc
def J2 (D B:bS) (r:(Trace×Pred)->Option (bS×Bool)):Option (bS×Bool):=
 (iN B).bind λu=>
 some (B,(!u))
def J1 (W U:Bool) (J:Pred) (G B D:bS) (r:(Trace×Pred)->Option (bS×Bool)):Option (bS×Bool):=
 (bf W
 (some (!U))
 (some true):Option Bool).bind λA=>
 bf A
 (some (⟨0,0⟩,false))
 (bf (J.kind==5)
 (dc.J2 G (⟨IntKind.wrap .i64 (0-B.high),IntKind.wrap .i64 (0-B.low)⟩:bS) r)
 (bf (J.kind==6)
 (dc.J2 G (⟨IntKind.wrap .i64 (B.low+D.low),IntKind.wrap .i64 (B.high+D.high)⟩:bS) r)
 (bf (J.kind==7)
 (dc.J2 G (⟨IntKind.wrap .i64 (B.low-D.high),IntKind.wrap .i64 (B.high-D.low)⟩:bS) r)
 ((jx B.low D.low).bind λC=>
 (jx B.low D.high).bind λI=>
 (jx B.high D.low).bind λu=>
 (jx B.high D.high).bind λw=>
 (lz (Sl.row [C,I,u,w]:Sl Int)).bind λz=>
 dc.J2 G z r))))
theorem iZ (r:(Trace×Pred)->Option (bS×Bool)) (hr:eR Sy cL 57 (λz:Trace×Pred=>[enc z.1,enc z.2]) (λr:bS×Bool=>[enc r.1,.bool r.2]) r true) (D B:Bool) (G:Pred) (J U W:bS):Le ((J1 D B G J U W r).bind (λr=>some [enc r.1,.bool r.2])) (cn Sy cL (mK (tr Tx 57)) (oe (tb Tx 57) [1,1,1,1,1,0] [] (bO [Pv 3,Pv 4,Pv 7,Bv 8 D,Pv 9,Bv 10 B] [Xb 3 G,Xb 4 J,Xb 7 U,Xb 9 W]))):=
 bE 6 3 [10,48] 51 (cH 6 48 (bl 3) (bl 3)) λI=>bq 2 51 aZ (bq 22 77 (nZ 14 (cg 4 λu _=>aZ)) (bq 7 86 (nZ 18 (cg 4 λu _=>aZ)) (bq 7 99 (nZ 18 (cg 4 λu _=>aZ)) (cg 6 λL _=>cg 4 λO _=>cg 4 λw _=>cg 4 λA _=>cg 1 λC _=>nZ 5 (cg 4 λu _=>aZ)))))
end dc
def f_ (B:Trace) (p1:Pred) (r:(Trace×Pred)->Option (bS×Bool)):Option (bS×Bool):=
 bf ((len p1.l)==0)
 ((lE B p1).bind λw=>
 (iN w).bind λA=>
 some (w,(!A)))
 ((idx p1.l 0).bind λC=>
 (r (B,C)).bind λu=>
 bf ((len p1.l)==2)
 ((idx p1.l 1).bind λD=>
 (r (B,D)).bind λz=>
 dc.J1 u.2 z.2 p1 (⟨0,0⟩:bS) u.1 z.1 r)
 (dc.J1 u.2 true p1 (⟨0,0⟩:bS) u.1 u.1 r))
open dc in
theorem ze (r:(Trace×Pred)->Option (bS×Bool)) (hr:eR Sy cL 57 (λz:Trace×Pred=>[enc z.1,enc z.2]) (λr:bS×Bool=>[enc r.1,.bool r.2]) r true) (B:Trace) (p1:Pred):Le ((f_ B p1 r).bind λr=>some [enc r.1,.bool r.2]) (fS cL 57 [enc B,enc p1]):=
 (Fc.M 57 [enc B,enc p1] (bY 2 2 B (bY 0 3 p1 (dh 9 13 (Pred.ec p1.l) (ct 0 p1.l (bq 3 15 (bu 5 λD _=>cg 8 λG _=>aZ) (dh 8 26 (Pred.ec p1.l) (bF 0 λA _=>cg (F:=Fc.of (B,A) hr) 1 λu _=>dh 21 34 (Pred.ec p1.l) (ct 0 p1.l (bq 3 36 (dh 5 40 (Pred.ec p1.l) (bF 0 λC _=>cg (F:=Fc.of (B,C) hr) 1 λw _=>kr 8 (iZ r hr u.2 w.2 p1 (⟨0,0⟩:bS) u.1 w.1))) (kr 4 (iZ r hr u.2 true p1 (⟨0,0⟩:bS) u.1 u.1))))))))))):Fc Sy cL (f_ B p1 r)).F.h ()
def dc (B:Trace) (p1:Pred):Option (bS×Bool):=c_ (λr (z:Trace×Pred)=>f_ z.1 z.2 r) 100000 (B,p1)
instance Og (B:Trace) (p1:Pred):Fc Sy cL (dc B p1):=Fc.of (B,p1) (eR.fix (A:=λz:Trace×Pred=>[enc z.1,enc z.2]) (E:=λr:bS×Bool=>[enc r.1,.bool r.2]) (sc:=true) (b:=(λr (z:Trace×Pred)=>f_ z.1 z.2 r)) (by kernel_rfl) (λ_ _=>rfl) (λr hr z=>ze r hr z.1 z.2) 100000)
def nL (B:Pred) (D:Trace) (r:(Trace×Pred)->Option Bool):Option Bool:=
 (r (D,B)).bind λu=>
 some (!u)
abbrev zy (r:(Trace×Pred)->Option Bool) (hr:eR Sy cL 86 (λz:Trace×Pred=>[enc z.1,enc z.2]) (λr:Bool=>[.bool r]) r true) (B:Pred) (D:Trace):Fc Sy cL (nL B D r):=Fc.M 128 [enc B,.fptr (cells D)] (bY 2 2 B (bu (F:=Fc.of (D,B) hr) 7 λu _=>aZ))
def gG (D:Trace) (p1:Pred) (r:(Trace×Pred)->Option Bool):Option Bool:=
 (k7 p1.kind).bind λw=>
 bf (w==1)
 ((dc D p1).bind λA=>
 some A.2)
 ((AD p1.l (λx u=>((λz=>nL z D r) x).map λb=>(b,u)) ()).bind λB=>
 some (!B.1))
theorem zz (r:(Trace×Pred)->Option Bool) (hr:eR Sy cL 86 (λz:Trace×Pred=>[enc z.1,enc z.2]) (λr:Bool=>[.bool r]) r true) (B:Trace) (p1:Pred):Le ((gG B p1 r).bind λr=>some [.bool r]) (fS cL 86 [enc B,enc p1]):=
 (Fc.M 86 [enc B,enc p1] (bY 2 2 B (bY 0 3 p1 (bu 8 λu _=>bq 3 10 (bu 5 λw _=>aZ) (dh 7 19 (Pred.ec p1.l) (vO 2 (lB (yb.Ul (g:=128) (e:=[.fptr (cells B)]) (p:=(λz=>nL z B r)) (lY.sW (F:=λz=>zy r hr z B))) p1.l ()) λA _=>aZ))))):Fc Sy cL (gG B p1 r)).F.h ()
def s8 (B:Trace) (p1:Pred):Option Bool:=c_ (λr (z:Trace×Pred)=>gG z.1 z.2 r) 100000 (B,p1)
instance Qq (B:Trace) (p1:Pred):Fc Sy cL (s8 B p1):=Fc.of (B,p1) (eR.fix (A:=λz:Trace×Pred=>[enc z.1,enc z.2]) (E:=λr:Bool=>[.bool r]) (sc:=true) (b:=(λr (z:Trace×Pred)=>gG z.1 z.2 r)) (by kernel_rfl) (λ_ _=>rfl) (λr hr z=>zz r hr z.1 z.2) 100000)
def nW (B:Trace) (p1:Pred):Option Int:=
 (dJ B).bind λu=>
 (bf u
 ((k8 p1).bind λw=>
 some (!w))
 (some true):Option Bool).bind λz=>
 bf z
 (some 1)
 ((nJ B p1).bind λA=>
 bf A
 ((od p1).bind λC=>
 bf C
 ((s8 B p1).bind λD=>
 bf D
 (some 0)
 (some 9))
 (some 14))
 (some 13))
instance PW (B:Trace) (p1:Pred):Fc Sy cL (nW B p1):=Fc.M 55 [enc B,enc p1] (bY 2 2 B (bY 0 3 p1 (bu 8 λu _=>bE 2 4 [9] 13 (cH 2 9 (bu 1 λw _=>bl 2) (bl 4)) λz=>bq 3 5 aZ (bu 5 λA _=>cH 4 14 (bu 4 λC _=>cH 4 19 (bu 5 λD _=>cH 4 23 aZ aZ) aZ) aZ))))
def jR (B:Sl Int) (D:Trace):Option Bool:=
 some (!((len B)==(len D.procs)))
instance Sh (B:Sl Int) (D:Trace):Fc Sy cL (jR B D):=Fc.M 195 [enc B,.fptr (cells D)] (ct 8 B (ct 2 D.procs aZ))
namespace gw
def br (s0:Sl (Sl Int)) (D:Int) (B:Int) (p1:(Sl Int)->Option Bool):Option (Fw Int Unit Int):=
 bf (decide (B<D))
 ((idx s0 B).bind λu=>
 (p1 u).bind λw=>
 bf w
 (some (.r B))
 (some (.n (IntKind.wrap .i64 (B+1)))))
 (some (.x ()))
def W1 (s0:Sl (Sl Int)) (B D:Int) (p1:(Sl Int)->Option Bool):Option Int:=
 (bW (λq:Int=>br s0 B q p1) D).bind (Fw.elim
 (λe=>some (-1))
 (λe=>some e))
end gw
def gw (s0:Sl (Sl Int)) (p1:(Sl Int)->Option Bool):Option Int:=
 gw.W1 s0 (len s0) 0 p1
open gw in
abbrev wz (g1:FuncId) (e1:List V) (p1:(Sl Int)->Option Bool) (h1:lY Sy cL g1 [] e1 (λz:Sl Int=>[enc z]) (λr:Bool=>[.bool r]) p1 true) (s0:Sl (Sl Int)):Fc Sy cL (gw s0 p1):=Fc.M 213 [enc s0,.clo g1 [] e1] (ct 9 s0 (dU 5 (λw=>(bO [Cv 0 s0,(1,.v (.clo g1 [] e1)),Iv 7 (len s0),Iv 8 w] [])) (λu=>(0,(bO [] []))) (λu=>(bO [Iv 4 u] [])) (λw=>bq 7 9 (bF 16 λA _=>yJ 1 h1.f A λB _=>bq 2 16 aZ aZ) aZ) (λu=>aZ) (λu=>aZ)))
def j7 (s0:Sl (Sl Int)) (p1:(Sl Int)->Option Bool):Option Bool:=
 (gw s0 p1).bind λu=>
 some (decide (u>=0))
abbrev uP (g1:FuncId) (e1:List V) (p1:(Sl Int)->Option Bool) (h1:lY Sy cL g1 [] e1 (λz:Sl Int=>[enc z]) (λr:Bool=>[.bool r]) p1 true) (s0:Sl (Sl Int)):Fc Sy cL (j7 s0 p1):=Fc.M 194 [enc s0,.clo g1 [] e1] (bu (F:=wz g1 e1 p1 h1 s0) 9 λu _=>aZ)
def wN (B:Trace) (D:Sl (Sl Int)):Option Bool:=
 (dJ B).bind λu=>
 (bf u
 ((j7 D (λz=>jR z B)).bind λw=>
 some (!w))
 (some false):Option Bool).bind λA=>
 some A
instance U_ (B:Trace) (D:Sl (Sl Int)):Fc Sy cL (wN B D):=Fc.M 175 [enc B,enc D] (bY 2 2 B (bu 6 λu _=>bE 1 5 [1,2,7] 12 (bq 1 7 (cg (F:=uP 195 [.fptr (cells B)] (λz=>jR z B) lY.sW D) 2 λw _=>bl 2) (bl 5)) λA=>aZ))
namespace jJ
def br (G:Sl Int) (J:Int) (D:Trace) (B:Int):Option (Fw Int Unit Unit):=
 bf (decide (B<J))
 ((idx G B).bind λu=>
 (bf (decide (u<0))
 (some true)
 ((idx D.procs B).bind λw=>
 some (decide (u>(len w.events)))):Option Bool).bind λz=>
 bf z
 (some (.r ()))
 (some (.n (IntKind.wrap .i64 (B+1)))))
 (some (.x ()))
def W1 (D:Sl Int) (G J:Int) (B:Trace):Option Bool:=
 (bW (λq:Int=>br D G B q) J).bind (Fw.elim
 (λe=>some true)
 (λe=>some false))
end jJ
def jJ (D:Trace) (B:Sl Int):Option Bool:=
 jJ.W1 B (len B) 0 D
open jJ in
instance Ty (D:Trace) (B:Sl Int):Fc Sy cL (jJ D B):=Fc.M 176 [enc D,enc B] (bY 2 2 D (ct 7 B (dU 5 (λw=>(bO [Pv 2,Cv 7 B,Iv 8 (len B),Iv 9 w] [Xb 2 D])) (λu=>(0,(bO [] []))) (λu=>(bO [Bv 4 false] [])) (λw=>bq 7 10 (bF 8 λA _=>bE 10 10 [5,6,16] 26 (bq 10 16 (bl 10) (bF 4 λz _=>ct 2 z.events (bl 2))) λC=>bq 2 26 aZ aZ) aZ) (λu=>aZ) (λu=>aZ))))
def tY (B:Trace) (p1:Int):Option Bool:=
 (bf (decide (p1>=0))
 (some (decide (p1<(len B.procs))))
 (some false):Option Bool).bind λu=>
 some u
instance TC (B:Trace) (p1:Int):Fc Sy cL (tY B p1):=Fc.M 177 [enc B,.int .i64 p1] (bY 2 2 B (bE 8 6 [1,2,7] 13 (bq 8 7 (ct 3 B.procs (bl 2)) (bl 6)) λu=>aZ))
namespace gW
def jB (D:Trace) (B G:Int) (J:aY) (U:Bool) (x:aY×Event):Option (Fw Unit Empty aY):=
 (bf (x.2.kind==B)
 (some (x.2.message==G))
 (some false):Option Bool).bind λu=>
 bf u
 (some (.r x.1))
 (some (.n ()))
def E1 (B:Trace) (D G:Int) (J:aY) (U:Bool):Option (aY×Bool):=
 (jh B).bind λu=>(kA (λ(x:aY×Event) (q:Unit)=>jB B D G J U x) u ()).bind (Fw.qw
 (λq=>some (⟨0,0⟩,false))
 (λe=>Empty.elim e)
 (λe=>some (e,true)))
end gW
def gW (D:Trace) (B G:Int):Option (aY×Bool):=
 (dJ D).bind λu=>
 bf u
 ((jm D).bind λw=>
 gW.E1 w B G (⟨0,0⟩:aY) false)
 (some (⟨0,0⟩,false))
open gW in
instance Ui (G:Trace) (B D:Int):Fc Sy cL (gW G B D):=Fc.M 180 [enc G,.int .i64 B,.int .i64 D] (bY 2 3 G (bu 10 λJ _=>cH 3 12 (bu 7 λw _=>D2 λC z=>AR 4 [Pv 4,Pv 5,Pv 6,Pv 7,(15,.v (.clo 184 [] [.fptr (cells w)]))] (λA=>[(4,.box [iv B]),(5,.box [iv D]),Xb 6 (⟨0,0⟩:aY),(7,.box [bv false])]) (λu=>Empty.elim u) (λu=>[(4,.box [iv B]),(5,.box [iv D]),Xb 6 u,(7,.box [bv true])]) (yo w C z) (λI A=>m_ 8 9 0 I.2 (yg 1 (bE 9 5 [9,22] 27 (bq 9 22 (bl 5) (bl 5)) λL=>bq 2 27 aZ aZ))) (λA=>aZ) (λx=>Empty.elim x) (λu=>aZ)) aZ))
def sH (B:Trace) (m1:Int):Option (aY×Bool):=
 (gW B 2 m1).bind λu=>
 some (u.1,u.2)
instance Rq (B:Trace) (m1:Int):Fc Sy cL (sH B m1):=Fc.M 166 [enc B,.int .i64 m1] (bY 2 2 B (bu 8 λu _=>aZ))
namespace gT
def bZ (Y:Sl Int) (p7:Int) (aa:Sl Int) (ab ad:Int) (J:Sl Event) (U:Int) (W:Trace) (G D:aY) (B:Int):Option (Fw Int Unit (aY×aY)):=
 bf (decide (B<U))
 ((idx J B).bind λw=>
 bf (w.kind==3)
 ((sH W w.message).bind λu=>
 (idx Y u.1.proc).bind λz=>
 bf (decide (u.1.index>z))
 (some (.r (u.1,(⟨p7,IntKind.wrap .i64 (B+1)⟩:aY))))
 (some (.n (IntKind.wrap .i64 (B+1)))))
 (some (.n (IntKind.wrap .i64 (B+1)))))
 (some (.x ()))
def W2 (c1:Sl Int) (p7:Int) (J:Sl Int) (U G:Int) (W:Sl Event) (Y aa:Int) (ab:Trace) (D B:aY):Option (Fw Int Unit (aY×aY)):=
 (bW (λq:Int=>bZ c1 p7 J U G W Y ab D B q) aa).bind (Fw.elim
 (λe=>some (.n (IntKind.wrap .i64 (G+1))))
 (λe=>some (.r (e.1,e.2))))
def br (Y J:Sl Int) (U:Int) (W:Trace) (G B:aY) (D:Int):Option (Fw Int Unit (aY×aY)):=
 bf (decide (D<U))
 ((idx J D).bind λw=>
 (idx W.procs D).bind λz=>
 (jS z.events none (some w)).bind λu=>
 W2 Y D J U D u (len u) 0 W G B)
 (some (.x ()))
def W1 (Y G:Sl Int) (J U:Int) (W:Trace) (D B:aY):Option (aY×aY×Bool):=
 (bW (λq:Int=>br Y G J W D B q) U).bind (Fw.elim
 (λe=>some (⟨0,0⟩,⟨0,0⟩,false))
 (λe=>some (e.1,e.2,true)))
end gT
def gT (D:Trace) (B:Sl Int):Option (aY×aY×Bool):=
 gT.W1 B B (len B) 0 D (⟨0,0⟩:aY) (⟨0,0⟩:aY)
open gT in
instance TG (D:Trace) (B:Sl Int):Fc Sy cL (gT D B):=Fc.M 196 [enc D,enc B] (bY 2 2 D (ct 9 B (dU 5 (λu=>(bO [Cv 1 B,Pv 2,Pv 4,Pv 5,Cv 13 B,Iv 14 (len B),Iv 15 u] [Xb 2 D,Xb 4 (⟨0,0⟩:aY),Xb 5 (⟨0,0⟩:aY)])) (λw=>(0,(bO [Pv 4,Pv 5] [Xb 4 (⟨0,0⟩:aY),Xb 5 (⟨0,0⟩:aY)]))) (λw=>(bO [Pv 4,Pv 5,Bv 6 true] [Xb 4 w.1,Xb 5 w.2])) (λu=>bq 7 16 (bF 8 λG _=>bF 10 λJ _=>Gx 3 false true [.int .i64 G] λA _=>ct 0 A (dU 5 (λC=>(bO [Cv 1 B,Pv 2,Pv 4,Pv 5,Iv 7 u,Cv 13 B,Iv 14 (len B),Iv 15 u,Cv 27 A,Iv 28 (len A),Iv 29 C] [Xb 2 D,Xb 4 (⟨0,0⟩:aY),Xb 5 (⟨0,0⟩:aY)])) (λz=>(2,(bO [Cv 1 B,Pv 2,Pv 4,Pv 5,Cv 13 B,Iv 14 (len B),Iv 15 u] [Xb 2 D,Xb 4 (⟨0,0⟩:aY),Xb 5 (⟨0,0⟩:aY)]))) (λz=>(bO [Pv 4,Pv 5,Bv 6 true] [Xb 4 z.1,Xb 5 z.2])) (λC=>bq 7 30 (bF 8 λI _=>m_ 3 10 0 I (cH 10 36 (bu 8 λL _=>bF 15 λO _=>bq 4 51 aZ aZ) aZ)) aZ) (λz=>aZ) (λz=>aZ))) aZ) (λw=>aZ) (λw=>aZ))))
def vt (B:Trace) (D:Sl Int):Option Bool:=
 (gT B D).bind λu=>
 some (!u.2.2)
instance UF (B:Trace) (D:Sl Int):Fc Sy cL (vt B D):=Fc.M 178 [enc B,enc D] (bY 2 2 B (bu 7 λu _=>aZ))
namespace dg
def fe (D:Sl (Sl Int)) (G:Int) (J:Trace) (B:Int):Option (Fw Int Unit Unit):=
 bf (decide (B<G))
 ((idx D B).bind λu=>
 (vt J u).bind λw=>
 bf w
 (some (.n (IntKind.wrap .i64 (B+1))))
 (some (.r ())))
 (some (.x ()))
def W3 (B:Sl (Sl Int)) (D G:Int) (J:Trace):Option Int:=
 (bW (λq:Int=>fe B D J q) G).bind (Fw.elim
 (λe=>some 0)
 (λe=>some 18))
def bZ (U:Sl (Sl Int)) (D:Sl Int) (G:Int) (J:Trace) (B:Int):Option (Fw Int Unit Unit):=
 bf (decide (B<G))
 ((idx D B).bind λu=>
 (tY J u).bind λw=>
 bf w
 (some (.n (IntKind.wrap .i64 (B+1))))
 (some (.r ())))
 (some (.x ()))
def W2 (D:Sl (Sl Int)) (G:Sl Int) (J U:Int) (B:Trace):Option Int:=
 (bW (λq:Int=>bZ D G J B q) U).bind (Fw.elim
 (λe=>dg.W3 D (len D) 0 B)
 (λe=>some 2))
def br (W:Sl (Sl Int)) (D:Sl Int) (G:Sl (Sl Int)) (J:Int) (U:Trace) (B:Int):Option (Fw Int Unit Unit):=
 bf (decide (B<J))
 ((idx G B).bind λu=>
 (jJ U u).bind λw=>
 bf w
 (some (.n (IntKind.wrap .i64 (B+1))))
 (some (.r ())))
 (some (.x ()))
def W1 (W:Sl (Sl Int)) (B:Sl Int) (G:Sl (Sl Int)) (J U:Int) (D:Trace):Option Int:=
 (bW (λq:Int=>br W B G J D q) U).bind (Fw.elim
 (λe=>dg.W2 W B (len B) 0 D)
 (λe=>some 2))
end dg
def dg (G:Trace) (D:Sl (Sl Int)) (B:Sl Int):Option Int:=
 (wN G D).bind λu=>
 bf u
 (dg.W1 D B D (len D) 0 G)
 (some 1)
open dg in
instance Vc (G:Trace) (D:Sl (Sl Int)) (B:Sl Int):Fc Sy cL (dg G D B):=Fc.M 144 [enc G,enc D,enc B] (bY 2 3 G (bu 8 λJ _=>cH 3 16 (ct 7 D (dU 5 (λA=>(bO [Cv 1 D,Cv 2 B,Pv 3,Cv 17 D,Iv 18 (len D),Iv 19 A] [Xb 3 G])) (λu=>(0,(bO [Cv 1 D,Cv 2 B,Pv 3] [Xb 3 G]))) (λu=>(bO [Iv 6 2] [])) (λA=>bq 7 20 (bF 7 λL _=>bu 8 λO _=>cH 3 26 aZ aZ) aZ) (λu=>ct 6 B (dU 5 (λC=>(bO [Cv 1 D,Pv 3,Cv 28 B,Iv 29 (len B),Iv 30 C] [Xb 3 G])) (λw=>(2,(bO [Cv 1 D,Pv 3] [Xb 3 G]))) (λw=>(bO [Iv 6 2] [])) (λC=>bq 7 31 (bF 7 λQ _=>bu 8 λS _=>cH 3 37 aZ aZ) aZ) (λw=>ct 6 D (dU 5 (λI=>(bO [Pv 3,Cv 39 D,Iv 40 (len D),Iv 41 I] [Xb 3 G])) (λz=>(4,(bO [] []))) (λz=>(bO [Iv 6 18] [])) (λI=>bq 7 42 (bF 7 λT _=>bu 8 λU _=>cH 3 48 aZ aZ) aZ) (λz=>aZ) (λz=>aZ))) (λw=>aZ))) (λu=>aZ))) aZ))
namespace jf
def br (G:Sl Int) (J:Int) (B:Sl aY) (D:Int):Option (Fw ((Sl aY)×Int) (Sl aY) Empty):=
 bf (decide (D<J))
 ((idx G D).bind λu=>
 bf (decide (u>0))
 ((iP B (⟨D,u⟩:aY)).bind λw=>
 some (.n (w,IntKind.wrap .i64 (D+1))))
 (some (.n (B,IntKind.wrap .i64 (D+1)))))
 (some (.x B))
def W1 (B:Sl aY) (D:Sl Int) (G J:Int):Option ((Sl aY)×Int):=
 (bW (λq:(Sl aY)×Int=>br D G q.1 q.2) (B,J)).bind (Fw.elim
 (λe=>some (e,0))
 (λe=>Empty.elim e))
end jf
def jf (D:Trace) (B:Sl Int):Option ((Sl aY)×Int):=
 (dg D (Sl.row [B]:Sl (Sl Int)) (Sl.nil:Sl Int)).bind λu=>
 bf (u==0)
 (jf.W1 (Sl.nil:Sl aY) B (len B) 0)
 (some (Sl.nil,u))
open jf in
instance Sp (D:Trace) (B:Sl Int):Fc Sy cL (jf D B):=Fc.N 100 [enc D,enc B] (bY 2 2 D (T0 9 12 ([B]:List (Sl Int)) (cg 0 λz _=>cH 9 15 (ct 12 B (jU 6 (λu=>(bO [Ov 7,Cv 17 B,Iv 18 (len B),Iv 19 u.2] [Lb 2007 u.1])) (λw=>(0,(bO [Ov 7] [Lb 2007 w]))) (λu=>bq 8 20 (bF 8 λA _=>bq 11 25 (xe 7 2007 30 31 λC _=>aZ) aZ) aZ) (λw=>aZ))) aZ)))
namespace fF
def jB (B:bT) (D:Int) (x:Int×(Sl Int)) (G:Sl Int):Option (Fw (Sl Int) Empty (Sl Int)):=
 bf (x.1==D)
 (some (.r x.2))
 (some (.n (Sl.nil:Sl Int)))
def E1 (B:bT) (D:Int) (G:Sl Int):Option (Sl Int):=
 (jk B).bind λu=>(kA (λ(x:Int×(Sl Int)) (q:Sl Int)=>jB B D x q) u G).bind (Fw.qw
 (λq=>some Sl.nil)
 (λe=>Empty.elim e)
 (λe=>some e))
end fF
def fF (B:bT) (k1:Int):Option (Sl Int):=
 (nk B).bind λu=>
 fF.E1 u k1 (Sl.nil:Sl Int)
open fF in
instance OB (B:bT) (k1:Int):Fc Sy cL (fF B k1):=Fc.N 101 [enc B,.int .i64 k1] (bY 2 2 B (bu 8 λw _=>D2 λC z=>AR 4 [Pv 3,Pv 4,(8,.v (.clo 179 [] [.fptr (cells w)]))] (λA=>[(3,.box [iv k1]),(4,.box [.v .bX])]) (λu=>Empty.elim u) (λu=>[(3,.box [iv k1]),(4,.box [cv u])]) (EH w C z) (λD A=>yg 8 (bq 9 13 (m_ 4 4 0 D.2 aZ) aZ)) (λA=>aZ) (λx=>Empty.elim x) (λu=>aZ)))
namespace iz
def br (G:Sl Int) (J:Int) (U:Trace) (D:Sl (Sl Int)) (B:Int):Option (Fw ((Sl (Sl Int))×Int) (Sl (Sl Int)) Empty):=
 bf (decide (B<J))
 ((idx G B).bind λu=>
 (idx U.procs B).bind λw=>
 (fF w u).bind λz=>
 (iP D (z:Sl Int)).bind λA=>
 some (.n (A,IntKind.wrap .i64 (B+1))))
 (some (.x D))
def W1 (B:Sl (Sl Int)) (D:Sl Int) (G J:Int) (U:Trace):Option ((Sl (Sl Int))×Int):=
 (bW (λq:(Sl (Sl Int))×Int=>br D G U q.1 q.2) (B,J)).bind (Fw.elim
 (λe=>some (e,0))
 (λe=>Empty.elim e))
end iz
def iz (D:Trace) (B:Sl Int):Option ((Sl (Sl Int))×Int):=
 (jf D B).bind λu=>
 bf (u.2==0)
 (iz.W1 (Sl.nil:Sl (Sl Int)) B (len B) 0 D)
 (some (Sl.nil,u.2))
open iz in
instance TI (D:Trace) (B:Sl Int):Fc Sy cL (iz D B):=Fc.N 68 [enc D,enc B] (bY 2 2 D (bu 9 λA _=>cH 13 18 (ct 12 B (jU 6 (λu=>(bO [Pv 2,Ov 8,Cv 20 B,Iv 21 (len B),Iv 22 u.2] [Xb 2 D,Lb 2008 u.1])) (λw=>(0,(bO [Ov 8] [Lb 2008 w]))) (λu=>bq 8 23 (bF 8 λC _=>bF 10 λG _=>bu 2 λz _=>T0 0 35 ([z]:List (Sl Int)) (xe 0 2008 35 36 λI _=>aZ)) aZ) (λw=>aZ))) aZ))
def qV (B:Pred):Option (Int×Int):=
 (k8 B).bind λu=>
 bf u
 ((od B).bind λw=>
 bf w
 ((k7 B.kind).bind λz=>
 some (z,0))
 (some (0,14)))
 (some (0,1))
instance QW (B:Pred):Fc Sy cL (qV B):=Fc.M 102 [enc B] (bY 2 1 B (bu 9 λu _=>cH 4 4 (bu 4 λw _=>cH 4 8 (bu 8 λz _=>aZ) aZ) aZ))
def ta (D:Pred) (B:Int):Option Int:=
 (qV D).bind λu=>
 (bf (u.2==0)
 (some (!(u.1==B)))
 (some true):Option Bool).bind λw=>
 bf w
 (some 14)
 (some 0)
instance OU (D:Pred) (B:Int):Fc Sy cL (ta D B):=Fc.M 69 [enc D,.int .i64 B] (bY 2 2 D (bu 7 λu _=>bE 12 4 [1,5,14] 18 (cH 12 14 (bl 4) (bl 4)) λw=>bq 2 18 aZ aZ))
def qH (B:Int):Option Bool:=
 (bf (decide (B>=18))
 (some (decide (B<=21)))
 (some false):Option Bool).bind λu=>
 some u
instance Md (B:Int):Fc Sy cL (qH B):=Fc.M 105 [.int .i64 B] (bE 10 3 [0,5] 8 (bq 10 5 (bl 3) (bl 3)) λu=>aZ)
def lU (B:Pred):Option Bool:=
 (qH B.kind).bind λu=>
 some (!u)
instance IW (B:Pred):Fc Sy cL (lU B):=Fc.M 104 [enc B] (bY 2 1 B (bu 7 λu _=>aZ))
def nR (B:Pred):Option Bool:=
 (k8 B).bind λu=>
 (bf u
 ((mM B (λz=>lU z)).bind λw=>
 some (!w))
 (some false):Option Bool).bind λA=>
 some A
instance Mf (B:Pred):Fc Sy cL (nR B):=Fc.M 70 [enc B] (bY 2 1 B (bu 6 λu _=>bE 1 4 [1,5] 9 (bq 1 5 (bu (F:=sK 104 [] (λz=>lU z) lY.sW B) 1 λw _=>bl 2) (bl 4)) λA=>aZ))
namespace eC
def J2 (J:Sl Int) (B:Int) (D:Sl (Sl Int)) (G:Trace) (U:bC):Option (bC×Int):=
 some (⟨G,J,D⟩,B)
def J1 (U:Sl Int) (B G:Int) (D:Trace) (J:Pred) (W:bC):Option (bC×Int):=
 bf (G==0)
 ((iz D U).bind λu=>
 bf (u.2==0)
 ((ta J B).bind λw=>
 (bf (w==0)
 ((nR J).bind λz=>
 some z)
 (some false):Option Bool).bind λA=>
 bf A
 (eC.J2 U 15 u.1 D (⟨⟨Sl.nil⟩,Sl.nil,Sl.nil⟩:bC))
 (eC.J2 U w u.1 D (⟨⟨Sl.nil⟩,Sl.nil,Sl.nil⟩:bC)))
 (some (⟨⟨Sl.nil⟩,Sl.nil,Sl.nil⟩,u.2)))
 (some (⟨⟨Sl.nil⟩,Sl.nil,Sl.nil⟩,G))
theorem iZ (G:Sl Int) (D J:Int) (B:Trace) (U:Pred) (W:bC):Le ((J1 G D J B U W).bind (λr=>some [enc r.1,.int .i64 r.2])) (cn Sy cL (mK (tr Tx 45)) (oe (tb Tx 45) [1,1,1,0] [] (bO [Cv 1 G,Iv 3 D,Pv 4,Pv 6,Pv 8,Iv 10 J] [Xb 4 B,Xb 6 U,Xb 8 (⟨⟨Sl.nil⟩,Sl.nil,Sl.nil⟩:bC)]))):=
 cH 7 26 (bu 7 λu _=>cH 14 36 (bu 8 λw _=>bE 8 3 [6,44] 47 (bq 8 44 (bu 1 λz _=>bl 1) (bl 3)) λA=>bq 2 47 (nZ 6 (LX 5 (⟨B,G,u.1⟩:bC) [enc B,enc G,enc u.1] [.bX,.bX,.bX] [(0,1),(1,1),(2,1)] (by simp only[vj,wT,ko,Du,A_,Da,Dc];rfl) rfl (m_ 1 8 0 (⟨B,G,u.1⟩:bC) aZ))) (nZ 4 (LX 5 (⟨B,G,u.1⟩:bC) [enc B,enc G,enc u.1] [.bX,.bX,.bX] [(0,1),(1,1),(2,1)] (by simp only[vj,wT,ko,Du,A_,Da,Dc];rfl) rfl (m_ 1 8 0 (⟨B,G,u.1⟩:bC) aZ)))) (LX 3 (⟨⟨Sl.nil⟩,Sl.nil,Sl.nil⟩:bC) [] [.bX,.bX,.bX] [] (by simp only[vj,wT,ko,Du,A_,Da,Dc];rfl) rfl (m_ 1 8 0 (⟨⟨Sl.nil⟩,Sl.nil,Sl.nil⟩:bC) aZ))) (LX 3 (⟨⟨Sl.nil⟩,Sl.nil,Sl.nil⟩:bC) [] [.bX,.bX,.bX] [] (by simp only[vj,wT,ko,Du,A_,Da,Dc];rfl) rfl (m_ 1 8 0 (⟨⟨Sl.nil⟩,Sl.nil,Sl.nil⟩:bC) aZ))
end eC
def eC (D:Trace) (G:Sl Int) (p2:Pred) (B:Int):Option (bC×Int):=
 (nW D p2).bind λu=>
 (bf (u==1)
 (some false)
 (some (!((len G)==(len D.procs)))):Option Bool).bind λw=>
 bf w
 (eC.J1 G B 1 D p2 (⟨⟨Sl.nil⟩,Sl.nil,Sl.nil⟩:bC))
 (eC.J1 G B u D p2 (⟨⟨Sl.nil⟩,Sl.nil,Sl.nil⟩:bC))
open eC in
instance TQ (D:Trace) (G:Sl Int) (p2:Pred) (B:Int):Fc Sy cL (eC D G p2 B):=Fc.N 45 [enc D,enc G,enc p2,.int .i64 B] (bY 2 4 D (bY 0 6 p2 (bu 8 λu _=>bE 9 7 [17] 24 (cH 9 17 (bl 7) (ct 1 G (ct 2 D.procs (bl 2)))) λw=>bq 2 24 (kr 6 (iZ G B 1 D p2 (⟨⟨Sl.nil⟩,Sl.nil,Sl.nil⟩:bC))) (kr 4 (iZ G B u D p2 (⟨⟨Sl.nil⟩,Sl.nil,Sl.nil⟩:bC))))))
def jI (B:Var) (D:Pred):Option Bool:=
 some (ByteArray.toList B.name==ByteArray.toList D.name)
instance E8 (B:Var) (D:Pred):Fc Sy cL (jI B D):=Fc.M 107 [enc B,.fptr (cells D)] (aZ)
def nq (D:bC) (p1:Pred):Option Int:=
 (idx D.t.procs p1.proc).bind λu=>
 (eU u.vars (λz=>jI z p1)).bind λw=>
 (idx D.values p1.proc).bind λA=>
 (idx A w).bind λB=>
 some B
instance GV (B:bC) (p1:Pred):Fc Sy cL (nq B p1):=Fc.M 71 [enc B,enc p1] (bY 2 2 B (bY 0 3 p1 (bF 10 λu _=>cg (F:=nE 107 [.fptr (cells p1)] (λz=>jI z p1) lY.sW u.vars) 3 λw _=>bF 9 λA _=>bF 2 λC _=>aZ)))
def tw (B:Trace) (m1:Int):Option (aY×Bool):=
 (gW B 3 m1).bind λu=>
 some (u.1,u.2)
instance P_ (B:Trace) (m1:Int):Fc Sy cL (tw B m1):=Fc.M 147 [enc B,.int .i64 m1] (bY 2 2 B (bu 8 λu _=>aZ))
namespace iw
def br (W:Sl Int) (Y:Int) (J:Sl Event) (U:Trace) (B:Sl Int) (G D:Int):Option (Fw ((Sl Int)×Int×Int) (Sl Int) Empty):=
 bf (decide (D<G))
 ((idx J D).bind λu=>
 (bf (u.kind==2)
 (some (!(u.peer==Y)))
 (some true):Option Bool).bind λA=>
 bf A
 (some (.n (B,G,IntKind.wrap .i64 (D+1))))
 ((tw U u.message).bind λw=>
 (bf w.2
 ((idx W w.1.proc).bind λC=>
 some (decide (w.1.index>C)))
 (some true):Option Bool).bind λI=>
 bf I
 ((iP B (u.message:Int)).bind λz=>
 some (.n (z,G,IntKind.wrap .i64 (D+1))))
 (some (.n (B,G,IntKind.wrap .i64 (D+1))))))
 (some (.x B))
def W1 (W:Sl Int) (Y:Int) (B:Sl Int) (D:Sl Event) (G J:Int) (U:Trace):Option ((Sl Int)×Int):=
 (bW (λq:(Sl Int)×Int×Int=>br W Y D U q.1 q.2.1 q.2.2) (B,G,J)).bind (Fw.elim
 (λe=>some (e,0))
 (λe=>Empty.elim e))
end iw
def iw (B:Trace) (D:Sl Int) (p2 G:Int):Option ((Sl Int)×Int):=
 (dg B (Sl.row [D]:Sl (Sl Int)) (Sl.row [p2,G]:Sl Int)).bind λu=>
 bf (u==0)
 ((idx B.procs p2).bind λz=>
 (idx D p2).bind λA=>
 (jS z.events none (some A)).bind λw=>
 iw.W1 D G (Sl.nil:Sl Int) w (len w) 0 B)
 (some (Sl.nil,u))
open iw in
instance SI (B:Trace) (D:Sl Int) (p2 G:Int):Fc Sy cL (iw B D p2 G):=Fc.N 108 [enc B,enc D,.int .i64 p2,.int .i64 G] (bY 2 4 B (T0 9 18 ([D]:List (Sl Int)) (cg 3 λJ _=>cH 9 24 (bF 14 λL _=>bF 4 λA _=>Gx 1 false true [.int .i64 A] λw _=>ct 0 w (jU 6 (λu=>(bO [Cv 1 D,Iv 3 G,Pv 4,Ov 11,Cv 36 w,Iv 37 u.2.1,Iv 38 u.2.2] [Xb 4 B,Lb 2011 u.1])) (λz=>(0,(bO [Ov 11] [Lb 2011 z]))) (λu=>bq 8 39 (bF 7 λC _=>m_ 2 13 0 C (bE 9 5 [45] 50 (cH 9 45 (bl 5) (bl 5)) λO=>bq 2 50 aZ (bu 8 λQ _=>bE 13 9 [14,60] 69 (cH 13 60 (bF 5 λS _=>bl 3) (bl 9)) λT=>bq 2 69 (xe 6 2011 73 74 λI _=>aZ) aZ))) aZ) (λz=>aZ))) aZ)))
def nS (B:bC) (p1:Pred):Option Int:=
 (iw B.t B.counts p1.proc p1.peer).bind λu=>
 some (len u.1)
instance IP (B:bC) (p1:Pred):Fc Sy cL (nS B p1):=Fc.M 72 [enc B,enc p1] (bY 2 2 B (bY 0 3 p1 (bu 13 λu _=>ct 10 u.1 aZ)))
def ey (B:bC) (p1:Pred) (r:(bC×Pred)->Option Int):Option Int:=
 bf (p1.kind==1)
 (some p1.n)
 (bf (p1.kind==2)
 ((nq B p1).bind λJ=>
 some J)
 (bf (p1.kind==3)
 ((idx B.counts p1.proc).bind λL=>
 some L)
 (bf (p1.kind==4)
 ((nS B p1).bind λO=>
 some O)
 (bf (p1.kind==5)
 ((idx p1.l 0).bind λQ=>
 (r (B,Q)).bind λS=>
 some (IntKind.wrap .i64 (0-S)))
 (bf (p1.kind==6)
 ((idx p1.l 0).bind λT=>
 (r (B,T)).bind λU=>
 (idx p1.l 1).bind λW=>
 (r (B,W)).bind λX=>
 some (IntKind.wrap .i64 (U+X)))
 (bf (p1.kind==7)
 ((idx p1.l 0).bind λu=>
 (r (B,u)).bind λw=>
 (idx p1.l 1).bind λz=>
 (r (B,z)).bind λA=>
 some (IntKind.wrap .i64 (w-A)))
 ((idx p1.l 0).bind λC=>
 (r (B,C)).bind λD=>
 (idx p1.l 1).bind λG=>
 (r (B,G)).bind λI=>
 some (IntKind.wrap .i64 (D*I)))))))))
theorem u7 (r:(bC×Pred)->Option Int) (hr:eR Sy cL 46 (λz:bC×Pred=>[enc z.1,enc z.2]) (λr:Int=>[.int .i64 r]) r true) (B:bC) (p1:Pred):Le ((ey B p1 r).bind λr=>some [.int .i64 r]) (fS cL 46 [enc B,enc p1]):=
 (Fc.M 46 [enc B,enc p1] (bY 2 2 B (bY 0 3 p1 (bq 17 7 aZ (bq 7 11 (bu 5 λS _=>aZ) (bq 7 16 (bF 7 λT _=>aZ) (bq 7 24 (bu 5 λU _=>aZ) (bq 7 29 (dh 6 33 (Pred.ec p1.l) (bF 0 λD _=>cg (F:=Fc.of (B,D) hr) 1 λW _=>aZ)) (bq 7 38 (dh 6 42 (Pred.ec p1.l) (bF 0 λG _=>cg (F:=Fc.of (B,G) hr) 1 λX _=>dh 3 48 (Pred.ec p1.l) (bF 0 λI _=>cg (F:=Fc.of (B,I) hr) 1 λY _=>aZ))) (bq 7 53 (dh 6 57 (Pred.ec p1.l) (bF 0 λu _=>cg (F:=Fc.of (B,u) hr) 1 λJ _=>dh 3 63 (Pred.ec p1.l) (bF 0 λw _=>cg (F:=Fc.of (B,w) hr) 1 λL _=>aZ))) (dh 9 70 (Pred.ec p1.l) (bF 0 λA _=>cg (F:=Fc.of (B,A) hr) 1 λO _=>dh 3 76 (Pred.ec p1.l) (bF 0 λC _=>cg (F:=Fc.of (B,C) hr) 1 λQ _=>aZ)))))))))))):Fc Sy cL (ey B p1 r)).F.h ()
def dL (B:bC) (p1:Pred):Option Int:=c_ (λr (z:bC×Pred)=>ey z.1 z.2 r) 100000 (B,p1)
instance Jk (B:bC) (p1:Pred):Fc Sy cL (dL B p1):=Fc.of (B,p1) (eR.fix (A:=λz:bC×Pred=>[enc z.1,enc z.2]) (E:=λr:Int=>[.int .i64 r]) (sc:=true) (b:=(λr (z:bC×Pred)=>ey z.1 z.2 r)) (by kernel_rfl) (λ_ _=>rfl) (λr hr z=>u7 r hr z.1 z.2) 100000)
def vS (B:Trace) (D:Sl Int) (p2:Pred):Option (Int×Int):=
 (eC B D p2 1).bind λu=>
 bf (u.2==0)
 ((dL u.1 p2).bind λw=>
 some (w,0))
 (some (0,u.2))
instance Tq (B:Trace) (D:Sl Int) (p2:Pred):Fc Sy cL (vS B D p2):=Fc.M 13 [enc B,enc D,enc p2] (bY 2 3 B (bY 0 5 p2 (bu 9 λu _=>m_ 4 8 0 u.1 (cH 10 18 (bu 7 λw _=>aZ) aZ))))
namespace e9
def J1 (W:Int) (U:Bool) (D:bC) (B:Pred) (r:(bC×Pred)->Option Bool):Option Bool:=
 bf U
 (some (B.kind==13))
 (bf (W==15)
 ((idx B.l 0).bind λu=>
 (r (D,u)).bind λw=>
 some (!w))
 (bf (W==16)
 ((idx B.l 0).bind λz=>
 (r (D,z)).bind λA=>
 (bf A
 ((idx B.l 1).bind λC=>
 (r (D,C)).bind λG=>
 some G)
 (some false):Option Bool).bind λI=>
 some I)
 ((idx B.l 0).bind λJ=>
 (r (D,J)).bind λL=>
 (bf L
 (some true)
 ((idx B.l 1).bind λO=>
 (r (D,O)).bind λQ=>
 some Q):Option Bool).bind λS=>
 some S)))
theorem iZ (r:(bC×Pred)->Option Bool) (hr:eR Sy cL 47 (λz:bC×Pred=>[enc z.1,enc z.2]) (λr:Bool=>[.bool r]) r true) (U:Int) (G:Bool) (B:bC) (D:Pred):Le ((J1 U G B D r).bind (λr=>some [.bool r])) (cn Sy cL (mK (tr Tx 47)) (oe (tb Tx 47) [1,0,1,0,1,1,1,1,1,1,1,1,1,0] [] (bO [Pv 2,Pv 3,Iv 6 U,Bv 67 G] [Xb 2 B,Xb 3 D]))):=
 bq 0 67 aZ (bq 7 73 (dh 6 77 (Pred.ec D.l) (bF 0 λA _=>cg (F:=Fc.of (B,A) hr) 1 λO _=>aZ)) (bq 7 82 (dh 6 86 (Pred.ec D.l) (bF 0 λC _=>cg (F:=Fc.of (B,C) hr) 1 λQ _=>AT 1 7 [96,89] (λu=>(bO [Bv 67 false,Bv 73 false,Bv 82 true,Bv 97 u] [Xb 2 B,Xb 3 D])) (bq 1 90 (dh 3 93 (Pred.ec D.l) (bF 0 λI _=>cg (F:=Fc.of (B,I) hr) 1 λS _=>bl 1)) (bl 7)) λu=>aZ)) (dh 9 100 (Pred.ec D.l) (bF 0 λJ _=>cg (F:=Fc.of (B,J) hr) 1 λT _=>AT 1 7 [110,103] (λw=>(bO [Bv 67 false,Bv 73 false,Bv 82 false,Bv 111 w] [Xb 2 B,Xb 3 D])) (bq 1 104 (bl 7) (dh 3 107 (Pred.ec D.l) (bF 0 λL _=>cg (F:=Fc.of (B,L) hr) 1 λW _=>bl 1))) λw=>aZ))))
end e9
def eN (B:bC) (p1:Pred) (r:(bC×Pred)->Option Bool):Option Bool:=
 bf (p1.kind==9)
 ((idx p1.l 0).bind λI=>
 (dL B I).bind λJ=>
 (idx p1.l 1).bind λL=>
 (dL B L).bind λO=>
 some (J==O))
 (bf (p1.kind==10)
 ((idx p1.l 0).bind λQ=>
 (dL B Q).bind λS=>
 (idx p1.l 1).bind λT=>
 (dL B T).bind λU=>
 some (!(S==U)))
 (bf (p1.kind==11)
 ((idx p1.l 0).bind λW=>
 (dL B W).bind λu=>
 (idx p1.l 1).bind λw=>
 (dL B w).bind λz=>
 some (decide (u<z)))
 (bf (p1.kind==12)
 ((idx p1.l 0).bind λA=>
 (dL B A).bind λC=>
 (idx p1.l 1).bind λD=>
 (dL B D).bind λG=>
 some (decide (C<=G)))
 (bf (p1.kind==13)
 (e9.J1 p1.kind true B p1 r)
 (e9.J1 p1.kind (p1.kind==14) B p1 r)))))
open e9 in
theorem vZ (r:(bC×Pred)->Option Bool) (hr:eR Sy cL 47 (λz:bC×Pred=>[enc z.1,enc z.2]) (λr:Bool=>[.bool r]) r true) (B:bC) (p1:Pred):Le ((eN B p1 r).bind λr=>some [.bool r]) (fS cL 47 [enc B,enc p1]):=
 (Fc.M 47 [enc B,enc p1] (bY 2 2 B (bY 0 3 p1 (bq 17 7 (dh 6 11 (Pred.ec p1.l) (bF 0 λJ _=>cg 1 λL _=>dh 3 17 (Pred.ec p1.l) (bF 0 λO _=>cg 1 λQ _=>aZ))) (bq 7 22 (dh 6 26 (Pred.ec p1.l) (bF 0 λS _=>cg 1 λT _=>dh 3 32 (Pred.ec p1.l) (bF 0 λU _=>cg 1 λW _=>aZ))) (bq 7 37 (dh 6 41 (Pred.ec p1.l) (bF 0 λX _=>cg 1 λu _=>dh 3 47 (Pred.ec p1.l) (bF 0 λw _=>cg 1 λA _=>aZ))) (bq 7 52 (dh 6 56 (Pred.ec p1.l) (bF 0 λC _=>cg 1 λD _=>dh 3 62 (Pred.ec p1.l) (bF 0 λG _=>cg 1 λI _=>aZ))) (bq 8 67 (kr 4 (iZ r hr p1.kind true B p1)) (kr 7 (iZ r hr p1.kind (p1.kind==14) B p1))))))))):Fc Sy cL (eN B p1 r)).F.h ()
def e9 (B:bC) (p1:Pred):Option Bool:=c_ (λr (z:bC×Pred)=>eN z.1 z.2 r) 100000 (B,p1)
instance Kl (B:bC) (p1:Pred):Fc Sy cL (e9 B p1):=Fc.of (B,p1) (eR.fix (A:=λz:bC×Pred=>[enc z.1,enc z.2]) (E:=λr:Bool=>[.bool r]) (sc:=true) (b:=(λr (z:bC×Pred)=>eN z.1 z.2 r)) (by kernel_rfl) (λ_ _=>rfl) (λr hr z=>vZ r hr z.1 z.2) 100000)
def rm (B:Trace) (D:Sl Int) (p2:Pred):Option (Bool×Int):=
 (eC B D p2 2).bind λu=>
 bf (u.2==0)
 ((e9 u.1 p2).bind λw=>
 some (w,0))
 (some (false,u.2))
instance Q1 (B:Trace) (D:Sl Int) (p2:Pred):Fc Sy cL (rm B D p2):=Fc.M 14 [enc B,enc D,enc p2] (bY 2 3 B (bY 0 5 p2 (bu 9 λu _=>m_ 4 8 0 u.1 (cH 10 18 (bu 7 λw _=>aZ) aZ))))
def oO (B:Int):Option Bool:=
 (bf (decide (B>=65))
 (some (decide (B<=90)))
 (some false):Option Bool).bind λu=>
 (bf u
 (some true)
 ((bf (decide (B>=97))
 (some (decide (B<=122)))
 (some false):Option Bool).bind λw=>
 some w):Option Bool).bind λz=>
 some z
instance QU (B:Int):Fc Sy cL (oO B):=Fc.M 151 [.int .u8 B] (bE 10 3 [5] 8 (bq 10 5 (bl 3) (bl 3)) λu=>bE 1 7 [0,9] 16 (bq 1 9 (bl 7) (bE 3 3 [0,12] 15 (bq 3 12 (bl 3) (bl 3)) λw=>bl 1)) λz=>aZ)
def sS (B:Int):Option Bool:=
 (bf (decide (B>=48))
 (some (decide (B<=57)))
 (some false):Option Bool).bind λu=>
 some u
instance Sr (B:Int):Fc Sy cL (sS B):=Fc.M 152 [.int .u8 B] (bE 10 3 [0,5] 8 (bq 10 5 (bl 3) (bl 3)) λu=>aZ)
namespace gU
def br (s0:ByteArray) (i3:Int):Option (Fw Int Unit Unit):=
 bf (decide (i3<((ByteArray.size s0:Nat):Int)))
 ((kO s0 i3).bind λz=>
 (oO z).bind λA=>
 (bf A
 (some false)
 ((kO s0 i3).bind λB=>
 (sS B).bind λC=>
 some (!C)):Option Bool).bind λD=>
 (bf D
 ((kO s0 i3).bind λu=>
 some (!(u==95)))
 (some false):Option Bool).bind λw=>
 bf w
 (some (.r ()))
 (some (.n (IntKind.wrap .i64 (i3+1)))))
 (some (.x ()))
def W1 (s0:ByteArray) (i3:Int):Option Bool:=
 (bW (λq:Int=>br s0 q) i3).bind (Fw.elim
 (λe=>some true)
 (λe=>some false))
end gU
def gU (s0:ByteArray):Option Bool:=
 (bf (decide (((ByteArray.size s0:Nat):Int)<1))
 (some true)
 (some (decide (((ByteArray.size s0:Nat):Int)>16))):Option Bool).bind λu=>
 (bf u
 (some true)
 ((kO s0 0).bind λw=>
 (oO w).bind λz=>
 some (!z)):Option Bool).bind λA=>
 bf A
 (some false)
 (gU.W1 s0 1)
open gU in
instance Tr (s0:ByteArray):Fc Sy cL (gU s0):=Fc.M 113 [.str s0] (bE 12 4 [7] 11 (bq 12 7 (bl 4) (bl 4)) λB=>bE 1 5 [12] 17 (bq 1 12 (bl 5) (AF 1 .i64 λC _=>bu 0 λD _=>bl 2)) λG=>bq 2 17 aZ (dU 11 (λw=>(bO [(0,.v (.str s0)),Iv 3 w] [])) (λu=>(0,(bO [] []))) (λu=>(bO [Bv 2 false] [])) (λw=>bq 10 21 (AF 9 .i64 λI _=>bu 0 λJ _=>bE 2 6 [29] 35 (cH 2 29 (bl 6) (AF 2 .i64 λL _=>bu 0 λO _=>bl 2)) λQ=>bE 1 5 [36] 41 (bq 1 36 (AF 2 .i64 λz _=>bl 2) (bl 5)) λA=>bq 2 41 aZ aZ) aZ) (λu=>aZ) (λu=>aZ)))
def pM (B:Int):Option Bool:=
 (bf (decide (B>=(-1073741824)))
 (some (decide (B<=1073741824)))
 (some false):Option Bool).bind λu=>
 some u
instance RL (B:Int):Fc Sy cL (pM B):=Fc.M 114 [.int .i64 B] (bE 10 3 [0,5] 8 (bq 10 5 (bl 3) (bl 3)) λu=>aZ)
namespace dZ
def fe (G:Int) (B:bT) (D:Int):Option (Fw Int Unit Unit):=
 bf (decide (D<G))
 ((idx B.vars D).bind λu=>
 (idx B.vars G).bind λw=>
 bf (ByteArray.toList u.name==ByteArray.toList w.name)
 (some (.r ()))
 (some (.n (IntKind.wrap .i64 (D+1)))))
 (some (.x ()))
def W3 (D G:Int) (B:bT):Option (Fw Int Unit Int):=
 (bW (λq:Int=>fe D B q) G).bind (Fw.elim
 (λe=>(idx B.vars D).bind λu=>
 (pM u.init_).bind λw=>
 bf w
 (some (.n (IntKind.wrap .i64 (D+1))))
 (some (.r 2)))
 (λe=>some (.r 13)))
def bZ (B:bT) (D:Int):Option (Fw Int Unit Int):=
 bf (decide (D<(len B.vars)))
 ((idx B.vars D).bind λu=>
 (gU u.name).bind λw=>
 bf w
 (W3 D 0 B)
 (some (.r 13)))
 (some (.x ()))
def W2 (D:Int) (B:bT):Option Int:=
 (bW (λq:Int=>bZ B q) D).bind (Fw.elim
 (λe=>bf (decide ((len B.events)>64))
 (some 5)
 (some 0))
 (λe=>some e))
def br (p1:Int) (B:Trace) (D:bT) (G:Int):Option (Fw Int Unit Unit):=
 bf (decide (G<p1))
 ((idx B.procs G).bind λu=>
 bf (ByteArray.toList u.name==ByteArray.toList D.name)
 (some (.r ()))
 (some (.n (IntKind.wrap .i64 (G+1)))))
 (some (.x ()))
def W1 (p1 G:Int) (D:Trace) (B:bT):Option Int:=
 (bW (λq:Int=>br p1 D B q) G).bind (Fw.elim
 (λe=>bf (decide ((len B.vars)>8))
 (some 5)
 (dZ.W2 0 B))
 (λe=>some 13))
end dZ
def dZ (B:Trace) (p1:Int):Option Int:=
 (idx B.procs p1).bind λu=>
 (gU u.name).bind λw=>
 bf w
 (dZ.W1 p1 0 B u)
 (some 13)
open dZ in
instance TL (G:Trace) (p1:Int):Fc Sy cL (dZ G p1):=Fc.M 77 [enc G,.int .i64 p1] (bY 2 2 G (bF 8 λu _=>m_ 2 5 0 u (bu 7 λI _=>cH 3 17 (dU 11 (λC=>(bO [Iv 1 p1,Pv 2,Pv 5,Iv 6 C] [Xb 2 G,Xb 5 u])) (λA=>(0,(bO [Pv 5] [Xb 5 u]))) (λA=>(bO [Iv 4 13] [])) (λC=>bq 9 20 (bF 10 λJ _=>bq 7 31 aZ aZ) aZ) (λA=>ct 7 u.vars (bq 3 35 aZ (dU 11 (λw=>(bO [Pv 5,Iv 7 w] [Xb 5 u])) (λz=>(2,(bO [Pv 5] [Xb 5 u]))) (λz=>(bO [Iv 4 z] [])) (λw=>ct 7 u.vars (bq 3 40 (bF 11 λL _=>bu 2 λO _=>cH 3 50 (dU 11 (λD=>(bO [Pv 5,Iv 7 w,Iv 8 D] [Xb 5 u])) (λB=>(4,(bO [Pv 5,Iv 7 w] [Xb 5 u]))) (λB=>(bO [Iv 4 13] [])) (λD=>bq 9 53 (bF 10 λQ _=>bF 5 λS _=>bq 5 68 aZ aZ) aZ) (λB=>bF 7 λT _=>bu 2 λU _=>cH 3 76 aZ aZ) (λB=>aZ)) aZ) aZ)) (λz=>ct 7 u.events (bq 3 80 aZ aZ)) (λz=>aZ)))) (λA=>aZ)) aZ)))
namespace dY
def fe (p1 J:Int) (U:Trace) (D:Event) (G:Assign) (B:Int):Option (Fw Int Unit Unit):=
 bf (decide (B<J))
 ((idx D.assign B).bind λu=>
 bf (u.var==G.var)
 (some (.r ()))
 (some (.n (IntKind.wrap .i64 (B+1)))))
 (some (.x ()))
def W3 (p1 U B:Int) (D:Trace) (G:Event) (J:Assign):Option (Fw Int Unit Int):=
 (bW (λq:Int=>fe p1 U D G J q) B).bind (Fw.elim
 (λe=>some (.n (IntKind.wrap .i64 (U+1))))
 (λe=>some (.r 8)))
def bZ (p1:Int) (D:Trace) (B:Event) (G:Int):Option (Fw Int Unit Int):=
 bf (decide (G<(len B.assign)))
 ((idx B.assign G).bind λu=>
 (bf (decide (u.var<0))
 (some true)
 ((idx D.procs p1).bind λw=>
 some (decide (u.var>=(len w.vars)))):Option Bool).bind λz=>
 (bf z
 (some true)
 ((pM u.value).bind λA=>
 some (!A)):Option Bool).bind λC=>
 bf C
 (some (.r 2))
 (W3 p1 G 0 D B u))
 (some (.x ()))
def W2 (p1 G:Int) (B:Trace) (D:Event):Option Int:=
 (bW (λq:Int=>bZ p1 B D q) G).bind (Fw.elim
 (λe=>some 0)
 (λe=>some e))
def J1 (p1 i2:Int) (D:Trace) (B:Event):Option Int:=
 (bf (decide (B.time<0))
 (some true)
 (some (decide (B.time>1099511627776))):Option Bool).bind λu=>
 (bf u
 (some true)
 ((bf (decide (i2>0))
 ((idx D.procs p1).bind λw=>
 (idx w.events (IntKind.wrap .i64 (i2-1))).bind λz=>
 some (decide (B.time<z.time)))
 (some false):Option Bool).bind λA=>
 some A):Option Bool).bind λC=>
 bf C
 (some 11)
 (bf (decide ((len B.assign)>8))
 (some 5)
 (dY.W2 p1 0 D B))
theorem iZ (p1 i2:Int) (D:Trace) (B:Event):Le ((J1 p1 i2 D B).bind (λr=>some [.int .i64 r])) (cn Sy cL (mK (tr Tx 78)) (oe (tb Tx 78) [1,1,1,0] [] (bO [Iv 1 p1,Iv 2 i2,Pv 3,Pv 7] [Xb 3 D,Xb 7 B]))):=
 bE 7 4 [71] 75 (bq 7 71 (bl 4) (bl 4)) λJ=>bE 1 19 [2,76] 95 (bq 1 76 (bl 19) (bE 3 15 [2,79] 94 (bq 3 79 (bF 5 λL _=>bF 4 λO _=>bl 4) (bl 15)) λQ=>bl 1)) λS=>bq 2 95 aZ (ct 8 B.assign (bq 3 99 aZ (dU 11 (λu=>(bO [Iv 1 p1,Pv 3,Pv 7,Iv 8 u] [Xb 3 D,Xb 7 B])) (λw=>(0,(bO [] []))) (λw=>(bO [Iv 6 w] [])) (λu=>ct 7 B.assign (bq 3 104 (bF 10 λz _=>bE 12 11 [115] 126 (bq 12 115 (bl 11) (bF 5 λG _=>ct 2 G.vars (bl 2))) λT=>AT 1 5 [130] (λA=>(bO [Iv 1 p1,Pv 3,Pv 7,Iv 8 u,Bv 104 true,Pv 9,Bv 132 A] [Xb 3 D,Xb 7 B,Xb 9 z])) (bq 1 127 (bl 5) (cg 2 λU _=>bl 2)) λA=>bq 2 132 aZ (dU 10 (λI=>(bO [Iv 1 p1,Pv 3,Pv 7,Iv 8 u,Pv 9,Iv 10 I] [Xb 3 D,Xb 7 B,Xb 9 z])) (λC=>(2,(bO [Iv 1 p1,Pv 3,Pv 7,Iv 8 u] [Xb 3 D,Xb 7 B]))) (λC=>(bO [Iv 6 8] [])) (λI=>bq 9 135 (bF 10 λW _=>bq 7 146 aZ aZ) aZ) (λC=>aZ) (λC=>aZ))) aZ)) (λw=>aZ) (λw=>aZ))))
end dY
def dY (B:Trace) (p1 i2:Int):Option Int:=
 (idx B.procs p1).bind λw=>
 (idx w.events i2).bind λu=>
 bf (u.kind==1)
 ((bf (u.peer==0)
 (some (!(u.message==0)))
 (some true):Option Bool).bind λz=>
 bf z
 (some 3)
 (dY.J1 p1 i2 B u))
 ((bf (u.kind==2)
 (some false)
 (some (!(u.kind==3))):Option Bool).bind λA=>
 (bf A
 (some true)
 (some (decide (u.peer<0))):Option Bool).bind λC=>
 (bf C
 (some true)
 (some (decide (u.peer>=(len B.procs)))):Option Bool).bind λD=>
 (bf D
 (some true)
 (some (u.peer==p1)):Option Bool).bind λG=>
 (bf G
 (some true)
 (some (decide (u.message<0))):Option Bool).bind λI=>
 (bf I
 (some true)
 (some (decide (u.message>199))):Option Bool).bind λJ=>
 bf J
 (some 3)
 (dY.J1 p1 i2 B u))
open dY in
instance Tz (B:Trace) (p1 i2:Int):Fc Sy cL (dY B p1 i2):=Fc.M 78 [enc B,.int .i64 p1,.int .i64 i2] (bY 2 3 B (bF 8 λw _=>bF 3 λu _=>m_ 2 7 0 u (bq 10 22 (bE 7 4 [26] 30 (cH 7 26 (bl 4) (bl 4)) λz=>bq 2 30 aZ (kr 4 (iZ p1 i2 B u))) (bE 7 4 [34] 38 (cH 7 34 (bl 4) (bl 4)) λA=>bE 1 4 [39] 43 (bq 1 39 (bl 4) (bl 4)) λC=>bE 1 7 [44] 51 (bq 1 44 (bl 7) (ct 4 B.procs (bl 2))) λD=>bE 1 5 [52] 57 (bq 1 52 (bl 5) (bl 5)) λG=>bE 1 4 [58] 62 (bq 1 58 (bl 4) (bl 4)) λI=>bE 1 4 [63] 67 (bq 1 63 (bl 4) (bl 4)) λJ=>bq 2 67 aZ (kr 4 (iZ p1 i2 B u))))))
namespace iC
def br (G:Trace) (J:aY) (D:Event) (B:Bool) (U:Int):Option (Fw (Bool×Int) Bool Empty):=
 (idx G.procs D.peer).bind λw=>
 bf (decide (U<(len w.events)))
 ((idx G.procs D.peer).bind λz=>
 (idx z.events U).bind λu=>
 (bf B
 (some true)
 ((bf (u.kind==2)
 (some (u.message==D.message))
 (some false):Option Bool).bind λA=>
 (bf A
 (some (u.peer==J.proc))
 (some false):Option Bool).bind λC=>
 some C):Option Bool).bind λI=>
 some (.n (I,IntKind.wrap .i64 (U+1))))
 (some (.x B))
def W1 (B:Bool) (U:Int) (D:Trace) (G:aY) (J:Event):Option Int:=
 (bW (λq:Bool×Int=>br D G J q.1 q.2) (B,U)).bind (Fw.elim
 (λe=>bf e
 (some 0)
 (some 7))
 (λe=>Empty.elim e))
end iC
def iC (B:Trace) (D:aY):Option Int:=
 (ug B D).bind λu=>
 bf (u.kind==1)
 (some 0)
 ((dI B u.kind u.message).bind λw=>
 bf (JW w D)
 (bf (u.kind==3)
 (iC.W1 false 0 B D u)
 (some 0))
 (some 8))
open iC in
instance QB (B:Trace) (D:aY):Fc Sy cL (iC B D):=Fc.M 79 [enc B,enc D] (bY 2 2 B (bu 8 λw _=>m_ 1 5 0 w (bq 10 14 aZ (cg 11 λG _=>cH 4 22 (bq 11 25 (jU 14 (λu=>(bO [Pv 2,Pv 3,Pv 5,Bv 6 u.1,Iv 7 u.2] [Xb 2 B,Xb 3 D,Xb 5 w])) (λz=>(0,(bO [Bv 6 z] []))) (λu=>bF 9 λA _=>ct 2 A.events (bq 3 35 (bF 11 λI _=>bF 3 λC _=>m_ 2 8 0 C (bE 5 18 [8,49] 67 (bq 5 49 (bl 18) (bE 4 6 [53] 59 (bq 4 53 (bl 6) (bl 6)) λJ=>bE 1 6 [8,60] 66 (bq 1 60 (bl 6) (bl 6)) λL=>bl 1)) λO=>aZ)) aZ)) (λz=>cH 8 69 aZ aZ)) aZ) aZ))))
namespace en
def J4 (B:Sl Int) (p5:Int) (D:Trace):Option (Fw ((Sl Int)×Bool) ((Sl Int)×Bool) Empty):=
 (Sl.rQ B p5).bind λu=>
 (Sl.get B u).bind λw=>
 (Sl.rQ B p5).bind λz=>
 (Sl.put B z (IntKind.wrap .i64 (w+1):Int)).bind λA=>
 some (.n (A,true))
def fe (p5:Int) (G:Trace) (B:Sl Int) (D:Bool):Option (Fw ((Sl Int)×Bool) ((Sl Int)×Bool) Empty):=
 (Sl.rQ B p5).bind λC=>
 (Sl.get B C).bind λI=>
 (idx G.procs p5).bind λJ=>
 bf (decide (I<(len J.events)))
 ((idx G.procs p5).bind λL=>
 (Sl.rQ B p5).bind λO=>
 (Sl.get B O).bind λQ=>
 (idx L.events Q).bind λu=>
 bf (u.kind==3)
 ((dI G 2 u.message).bind λw=>
 (Sl.rQ B w.proc).bind λz=>
 (Sl.get B z).bind λA=>
 bf (decide (A<w.index))
 (some (.x (B,D)))
 (J4 B p5 G))
 (J4 B p5 G))
 (some (.x (B,D)))
def W3 (D:Sl Int) (B:Bool) (p5:Int) (G:Trace):Option (Fw ((Sl Int)×Bool×Int) ((Sl Int)×Bool) Empty):=
 (bW (λq:(Sl Int)×Bool=>fe p5 G q.1 q.2) (D,B)).bind (Fw.elim
 (λe=>some (.n (e.1,e.2,IntKind.wrap .i64 (p5+1))))
 (λe=>Empty.elim e))
def bZ (G:Trace) (D:Sl Int) (B:Bool) (p5:Int):Option (Fw ((Sl Int)×Bool×Int) ((Sl Int)×Bool) Empty):=
 bf (decide (p5<(len G.procs)))
 (W3 D B p5 G)
 (some (.x (D,B)))
def W2 (D:Sl Int) (B:Bool) (p5:Int) (G:Trace):Option (Fw (Sl Int) (Sl Int) Empty):=
 (bW (λq:(Sl Int)×Bool×Int=>bZ G q.1 q.2.1 q.2.2) (D,B,p5)).bind (Fw.elim
 (λe=>bf e.2
 (some (.n e.1))
 (some (.x e.1)))
 (λe=>Empty.elim e))
def xZ (B:Sl Int) (D:Trace) (G:Int):Option (Fw Int Unit Unit):=
 bf (decide (G<(len D.procs)))
 ((Sl.rQ B G).bind λu=>
 (Sl.get B u).bind λw=>
 (idx D.procs G).bind λz=>
 bf (decide (w<(len z.events)))
 (some (.r ()))
 (some (.n (IntKind.wrap .i64 (G+1)))))
 (some (.x ()))
def W5 (B:Sl Int) (G:Int) (D:Trace):Option Bool:=
 (bW (λq:Int=>xZ B D q) G).bind (Fw.elim
 (λe=>some true)
 (λe=>some false))
def br (D:Trace) (B:Sl Int):Option (Fw (Sl Int) (Sl Int) Empty):=
 W2 B false 0 D
def W1 (B:Sl Int) (D:Trace):Option Bool:=
 (bW (λq:Sl Int=>br D q) B).bind (Fw.elim
 (λe=>en.W5 e 0 D)
 (λe=>Empty.elim e))
end en
def en (B:Trace):Option Bool:=
 (Cd (len B.procs) (0:Int)).bind λu=>
 en.W1 u B
open en in
instance Pk (B:Trace):Fc Sy cL (en B):=Fc.M 80 [enc B] (bY 2 1 B (ct 7 B.procs (WZ 0 12 λad _=>jU 7 (λL=>(bO [Pv 1,Ov 3] [Xb 1 B,Lb 2003 L])) (λC=>(0,(bO [Pv 1,Ov 3] [Xb 1 B,Lb 2003 C]))) (λL=>jU 17 (λw=>(bO [Pv 1,Ov 3,Bv 4 w.2.1,Iv 5 w.2.2] [Xb 1 B,Lb 2003 w.1])) (λD=>(2,(bO [Pv 1,Ov 3,Bv 4 D.2] [Xb 1 B,Lb 2003 D.1]))) (λw=>ct 8 B.procs (bq 3 17 (jU 8 (λG=>(bO [Pv 1,Ov 3,Bv 4 G.2,Iv 5 w.2.2] [Xb 1 B,Lb 2003 G.1])) (λI=>(4,(bO [Pv 1,Ov 3,Bv 4 I.2,Iv 5 w.2.2] [Xb 1 B,Lb 2003 I.1]))) (λG=>xo .i64 7 2003 λae _=>BL 0 2003 0 1 false (λO=>.int .i64 O) λO _=>bF 3 λY _=>ct 2 Y.events (bq 3 31 (bF 9 λaf _=>xo .i64 4 2003 λah _=>BL 0 2003 0 1 false (λQ=>.int .i64 Q) λQ _=>bF 0 λZ _=>m_ 2 6 0 Z (bq 10 46 (bu 6 λai _=>xo .i64 9 2003 λaa _=>BL 0 2003 0 1 false (λz=>.int .i64 z) λz _=>bq 5 58 aZ (nZ 5 (xo .i64 4 2003 λS _=>BL 0 2003 0 1 false (λu=>.int .i64 u) λu _=>xo .i64 1 2003 λT _=>O3 0 2003 (.int .i64 (IntKind.wrap .i64 (u+1))) λU _=>aZ))) (nZ 5 (xo .i64 4 2003 λS _=>BL 0 2003 0 1 false (λu=>.int .i64 u) λu _=>xo .i64 1 2003 λT _=>O3 0 2003 (.int .i64 (IntKind.wrap .i64 (u+1))) λU _=>aZ)))) aZ)) (λI=>aZ)) aZ)) (λD=>cH 8 66 aZ aZ)) (λC=>dU 11 (λW=>(bO [Pv 1,Ov 3,Iv 8 W] [Xb 1 B,Lb 2003 C])) (λJ=>(6,(bO [] []))) (λJ=>(bO [Bv 2 false] [])) (λW=>ct 8 B.procs (bq 3 71 (xo .i64 9 2003 λab _=>BL 0 2003 0 1 false (λA=>.int .i64 A) λA _=>bF 3 λX _=>ct 2 X.events (bq 3 85 aZ aZ)) aZ)) (λJ=>aZ) (λJ=>aZ)))))
instance TF (t:Trace) (x:aY):Fc Sy cL (nv t x):=Fc.of (A:=λz:Trace×aY=>[enc z.1,enc z.2]) (E:=λr:Sl (Sl Bool)=>[enc r]) (p:=λz=>nv z.1 z.2) (n:=81) (z:=(t,x)) (eR.WI (by kernel_rfl) (by kernel_rfl) (λz r hr=>OP z.1 z.2 r hr))
namespace cS
def fe (p6:Int) (B:Trace) (G:aY) (D:Int):Option (Fw Int Unit (Int×aY)):=
 (idx B.procs p6).bind λw=>
 bf (decide (D<(len w.events)))
 ((dY B p6 D).bind λu=>
 bf (u==0)
 (some (.n (IntKind.wrap .i64 (D+1))))
 (some (.r (u,(⟨p6,IntKind.wrap .i64 (D+1)⟩:aY)))))
 (some (.x ()))
def W3 (p6 G:Int) (B:Trace) (D:aY):Option (Fw Int Unit (Int×aY)):=
 (bW (λq:Int=>fe p6 B D q) G).bind (Fw.elim
 (λe=>some (.n (IntKind.wrap .i64 (p6+1))))
 (λe=>some (.r (e.1,e.2))))
def xZ (G:Int) (D:Trace) (J:aY) (B:Int):Option (Fw Int Unit (Int×aY)):=
 (idx D.procs G).bind λw=>
 bf (decide (B<(len w.events)))
 ((iC D (⟨G,IntKind.wrap .i64 (B+1)⟩:aY)).bind λu=>
 bf (u==0)
 (some (.n (IntKind.wrap .i64 (B+1))))
 (some (.r (u,(⟨G,IntKind.wrap .i64 (B+1)⟩:aY)))))
 (some (.x ()))
def W5 (J B:Int) (D:Trace) (G:aY):Option (Fw Int Unit (Int×aY)):=
 (bW (λq:Int=>xZ J D G q) B).bind (Fw.elim
 (λe=>some (.n (IntKind.wrap .i64 (J+1))))
 (λe=>some (.r (e.1,e.2))))
def JF (D:Int) (G:Trace) (J:aY) (B:Int):Option (Fw Int Unit aY):=
 (idx G.procs D).bind λw=>
 bf (decide (B<(len w.events)))
 ((nv G (⟨D,IntKind.wrap .i64 (B+1)⟩:aY)).bind λz=>
 (idx z D).bind λA=>
 (idx A (IntKind.wrap .i64 (B+1))).bind λu=>
 bf u
 (some (.r (⟨D,IntKind.wrap .i64 (B+1)⟩:aY)))
 (some (.n (IntKind.wrap .i64 (B+1)))))
 (some (.x ()))
def W7 (B D:Int) (G:Trace) (J:aY):Option (Fw Int Unit aY):=
 (bW (λq:Int=>JF B G J q) D).bind (Fw.elim
 (λe=>some (.n (IntKind.wrap .i64 (B+1))))
 (λe=>some (.r e)))
def Kj (B:Trace) (G:aY) (D:Int):Option (Fw Int Unit aY):=
 bf (decide (D<(len B.procs)))
 (W7 D 0 B G)
 (some (.x ()))
def W6 (B:Int) (D:Trace) (G:aY):Option (aY×Int):=
 (bW (λq:Int=>Kj D G q) B).bind (Fw.elim
 (λe=>some (⟨0,0⟩,0))
 (λe=>some (e,10)))
def Jz (B:Trace) (D:aY) (G:Int):Option (Fw Int Unit (Int×aY)):=
 bf (decide (G<(len B.procs)))
 (W5 G 0 B D)
 (some (.x ()))
def W4 (G:Int) (B:Trace) (D:aY):Option (aY×Int):=
 (bW (λq:Int=>Jz B D q) G).bind (Fw.elim
 (λe=>(en B).bind λu=>
 bf u
 (some (⟨0,0⟩,0))
 (cS.W6 0 B D))
 (λe=>some (e.2,e.1)))
def bZ (B:Trace) (D:aY) (p6:Int):Option (Fw Int Unit (Int×aY)):=
 bf (decide (p6<(len B.procs)))
 (W3 p6 0 B D)
 (some (.x ()))
def W2 (p6:Int) (B:Trace) (D:aY):Option (aY×Int):=
 (bW (λq:Int=>bZ B D q) p6).bind (Fw.elim
 (λe=>cS.W4 0 B D)
 (λe=>some (e.2,e.1)))
def br (B:Trace) (D:aY) (p4:Int):Option (Fw Int Unit (Int×aY)):=
 bf (decide (p4<(len B.procs)))
 ((dZ B p4).bind λu=>
 bf (u==0)
 (some (.n (IntKind.wrap .i64 (p4+1))))
 (some (.r (u,(⟨p4,0⟩:aY)))))
 (some (.x ()))
def W1 (p4:Int) (B:Trace) (D:aY):Option (aY×Int):=
 (bW (λq:Int=>br B D q) p4).bind (Fw.elim
 (λe=>cS.W2 0 B D)
 (λe=>some (e.2,e.1)))
end cS
def cS (B:Trace):Option (aY×Int):=
 (bf (decide ((len B.procs)<1))
 (some true)
 (some (decide ((len B.procs)>8))):Option Bool).bind λu=>
 bf u
 (some (⟨0,0⟩,1))
 (cS.W1 0 B (⟨0,0⟩:aY))
open cS in
instance Tf (B:Trace):Fc Sy cL (cS B):=Fc.M 53 [enc B] (bY 2 1 B (ct 9 B.procs (bE 2 5 [20] 25 (bq 2 20 (bl 5) (ct 2 B.procs (bl 2))) λaa=>bq 2 25 aZ (dU 11 (λO=>(bO [Pv 1,Pv 2,Iv 4 O] [Xb 1 B,Xb 2 (⟨0,0⟩:aY)])) (λu=>(0,(bO [Pv 1,Pv 2] [Xb 1 B,Xb 2 (⟨0,0⟩:aY)]))) (λu=>(bO [Pv 2,Iv 3 u.1] [Xb 2 u.2])) (λO=>ct 7 B.procs (bq 3 31 (bu 9 λab _=>cH 9 38 aZ aZ) aZ)) (λu=>dU 10 (λD=>(bO [Pv 1,Pv 2,Iv 6 D] [Xb 1 B,Xb 2 (⟨0,0⟩:aY)])) (λw=>(2,(bO [Pv 1,Pv 2] [Xb 1 B,Xb 2 (⟨0,0⟩:aY)]))) (λw=>(bO [Pv 2,Iv 3 w.1] [Xb 2 w.2])) (λD=>ct 7 B.procs (bq 3 46 (dU 12 (λQ=>(bO [Pv 1,Pv 2,Iv 6 D,Iv 7 Q] [Xb 1 B,Xb 2 (⟨0,0⟩:aY)])) (λz=>(4,(bO [Pv 1,Pv 2,Iv 6 D] [Xb 1 B,Xb 2 (⟨0,0⟩:aY)]))) (λz=>(bO [Pv 2,Iv 3 z.1] [Xb 2 z.2])) (λQ=>bF 8 λU _=>ct 2 U.events (bq 3 57 (bu 10 λad _=>cH 9 65 aZ aZ) aZ)) (λz=>aZ) (λz=>aZ)) aZ)) (λw=>dU 10 (λG=>(bO [Pv 1,Pv 2,Iv 9 G] [Xb 1 B,Xb 2 (⟨0,0⟩:aY)])) (λA=>(6,(bO [Pv 1,Pv 2] [Xb 1 B,Xb 2 (⟨0,0⟩:aY)]))) (λA=>(bO [Pv 2,Iv 3 A.1] [Xb 2 A.2])) (λG=>ct 7 B.procs (bq 3 75 (dU 12 (λS=>(bO [Pv 1,Pv 2,Iv 9 G,Iv 10 S] [Xb 1 B,Xb 2 (⟨0,0⟩:aY)])) (λC=>(8,(bO [Pv 1,Pv 2,Iv 9 G] [Xb 1 B,Xb 2 (⟨0,0⟩:aY)]))) (λC=>(bO [Pv 2,Iv 3 C.1] [Xb 2 C.2])) (λS=>bF 8 λW _=>ct 2 W.events (bq 3 86 (bu 19 λae _=>cH 9 97 aZ aZ) aZ)) (λC=>aZ) (λC=>aZ)) aZ)) (λA=>bu 6 λY _=>bq 2 101 aZ (dU 11 (λI=>(bO [Pv 1,Pv 2,Iv 13 I] [Xb 1 B,Xb 2 (⟨0,0⟩:aY)])) (λJ=>(10,(bO [Pv 2] [Xb 2 (⟨0,0⟩:aY)]))) (λJ=>(bO [Pv 2,Iv 3 10] [Xb 2 J])) (λI=>ct 7 B.procs (bq 3 107 (dU 12 (λT=>(bO [Pv 1,Pv 2,Iv 13 I,Iv 14 T] [Xb 1 B,Xb 2 (⟨0,0⟩:aY)])) (λL=>(12,(bO [Pv 1,Pv 2,Iv 13 I] [Xb 1 B,Xb 2 (⟨0,0⟩:aY)]))) (λL=>(bO [Pv 2,Iv 3 10] [Xb 2 L])) (λT=>bF 8 λX _=>ct 2 X.events (bq 3 118 (bu 19 λaf _=>bF 1 λah _=>bF 3 λZ _=>bq 3 134 aZ aZ) aZ)) (λL=>aZ) (λL=>aZ)) aZ)) (λJ=>aZ) (λJ=>aZ))) (λA=>aZ)) (λw=>aZ)) (λu=>aZ)))))
def pL (B:Trace):Option Bool:=
 (cS B).bind λu=>
 some (u.2==0)
instance Tl (B:Trace):Fc Sy cL (pL B):=Fc.M 21 [enc B] (bY 2 1 B (bu 6 λu _=>aZ))
namespace jY
def br (B:Int) (D:Pred) (G J:Int) (r:(Pred×Int)->Option Int):Option (Fw (Int×Int) Int Empty):=
 (bf (decide (J<(len D.l)))
 (some (decide (G<=B)))
 (some false):Option Bool).bind λu=>
 bf u
 ((idx D.l J).bind λw=>
 (r (w,IntKind.wrap .i64 (B-G))).bind λz=>
 some (.n (IntKind.wrap .i64 (G+z),IntKind.wrap .i64 (J+1))))
 (some (.x G))
def W1 (B G J:Int) (D:Pred) (r:(Pred×Int)->Option Int):Option Int:=
 (bW (λq:Int×Int=>br B D q.1 q.2 r) (G,J)).bind (Fw.elim
 (λe=>some e)
 (λe=>Empty.elim e))
end jY
def gR (D:Pred) (B:Int) (r:(Pred×Int)->Option Int):Option Int:=
 jY.W1 B 1 0 D r
open jY in
theorem Bd (r:(Pred×Int)->Option Int) (hr:eR Sy cL 134 (λz:Pred×Int=>[enc z.1,.int .i64 z.2]) (λr:Int=>[.int .i64 r]) r true) (D:Pred) (B:Int):Le ((gR D B r).bind λr=>some [.int .i64 r]) (fS cL 134 [enc D,.int .i64 B]):=
 (Fc.M 134 [enc D,.int .i64 B] (bY 2 2 D (jU 16 (λu=>(bO [Iv 1 B,Pv 2,Iv 5 u.1,Iv 6 u.2] [Xb 2 D])) (λw=>(0,(bO [Iv 5 w] []))) (λu=>dh 7 9 (Pred.ec D.l) (ct 0 D.l (bE 2 4 [12] 16 (bq 2 12 (bl 4) (bl 4)) λC=>bq 2 16 (dh 9 21 (Pred.ec D.l) (bF 1 λA _=>bu (F:=Fc.of (A,IntKind.wrap .i64 (B-u.1)) hr) 4 λG _=>aZ)) aZ))) (λw=>aZ))):Fc Sy cL (gR D B r)).F.h ()
def jY (D:Pred) (B:Int):Option Int:=c_ (λr (z:Pred×Int)=>gR z.1 z.2 r) 100000 (D,B)
instance SC (D:Pred) (B:Int):Fc Sy cL (jY D B):=Fc.of (D,B) (eR.fix (A:=λz:Pred×Int=>[enc z.1,.int .i64 z.2]) (E:=λr:Int=>[.int .i64 r]) (sc:=true) (b:=(λr (z:Pred×Int)=>gR z.1 z.2 r)) (by kernel_rfl) (λ_ _=>rfl) (λr hr z=>Bd r hr z.1 z.2) 100000)
def xz (B:Pred):Option Int:=
 (jY B 200).bind λu=>
 some (if 201<u then 201 else u)
instance TB (B:Pred):Fc Sy cL (xz B):=Fc.M 91 [enc B] (bY 2 1 B (bu 6 λu _=>aZ))
namespace jl
def br (B:Int) (D:Pred) (G J:Int) (r:(Pred×Int)->Option Int):Option (Fw (Int×Int) Int Empty):=
 bf (decide (J<(len D.l)))
 ((idx D.l J).bind λw=>
 (r (w,IntKind.wrap .i64 (B-1))).bind λu=>
 some (.n ((if u>G then u else G),IntKind.wrap .i64 (J+1))))
 (some (.x G))
def W1 (B G J:Int) (D:Pred) (r:(Pred×Int)->Option Int):Option Int:=
 (bW (λq:Int×Int=>br B D q.1 q.2 r) (G,J)).bind (Fw.elim
 (λe=>some (IntKind.wrap .i64 (e+1)))
 (λe=>Empty.elim e))
end jl
def gQ (D:Pred) (B:Int) (r:(Pred×Int)->Option Int):Option Int:=
 bf (B==0)
 (some 1)
 (jl.W1 B 0 0 D r)
open jl in
theorem Bc (r:(Pred×Int)->Option Int) (hr:eR Sy cL 92 (λz:Pred×Int=>[enc z.1,.int .i64 z.2]) (λr:Int=>[.int .i64 r]) r true) (D:Pred) (B:Int):Le ((gQ D B r).bind λr=>some [.int .i64 r]) (fS cL 92 [enc D,.int .i64 B]):=
 (Fc.M 92 [enc D,.int .i64 B] (bY 2 2 D (bq 15 8 aZ (jU 11 (λu=>(bO [Iv 1 B,Pv 2,Iv 5 u.1,Iv 6 u.2] [Xb 2 D])) (λw=>(0,(bO [Iv 5 w] []))) (λu=>dh 7 11 (Pred.ec D.l) (ct 0 D.l (bq 3 13 (dh 9 18 (Pred.ec D.l) (bF 1 λA _=>bu (F:=Fc.of (A,IntKind.wrap .i64 (B-1)) hr) 3 λC _=>aZ)) aZ))) (λw=>aZ)))):Fc Sy cL (gQ D B r)).F.h ()
def jl (D:Pred) (B:Int):Option Int:=c_ (λr (z:Pred×Int)=>gQ z.1 z.2 r) 100000 (D,B)
instance RQ (D:Pred) (B:Int):Fc Sy cL (jl D B):=Fc.of (D,B) (eR.fix (A:=λz:Pred×Int=>[enc z.1,.int .i64 z.2]) (E:=λr:Int=>[.int .i64 r]) (sc:=true) (b:=(λr (z:Pred×Int)=>gQ z.1 z.2 r)) (by kernel_rfl) (λ_ _=>rfl) (λr hr z=>Bc r hr z.1 z.2) 100000)
def kU (B:Int):Option Int:=
 (bf (decide (B>=1))
 (some (decide (B<=4)))
 (some false):Option Bool).bind λu=>
 (bf u
 (some true)
 (some (B==13)):Option Bool).bind λw=>
 (bf w
 (some true)
 (some (B==14)):Option Bool).bind λz=>
 bf z
 (some 0)
 ((bf (B==5)
 (some true)
 (some (B==15)):Option Bool).bind λA=>
 (bf A
 (some true)
 ((bf (decide (B>=18))
 (some (decide (B<=21)))
 (some false):Option Bool).bind λC=>
 some C):Option Bool).bind λD=>
 bf D
 (some 1)
 ((bf (decide (B>=6))
 (some (decide (B<=12)))
 (some false):Option Bool).bind λG=>
 (bf G
 (some true)
 (some (B==16)):Option Bool).bind λI=>
 (bf I
 (some true)
 (some (B==17)):Option Bool).bind λJ=>
 bf J
 (some 2)
 (some (-1))))
instance SN (B:Int):Fc Sy cL (kU B):=Fc.M 135 [.int .i64 B] (bE 11 3 [5] 8 (bq 11 5 (bl 3) (bl 3)) λu=>bE 1 3 [9] 12 (bq 1 9 (bl 3) (bl 3)) λw=>bE 1 3 [13] 16 (bq 1 13 (bl 3) (bl 3)) λz=>bq 2 16 aZ (bE 9 3 [19] 22 (bq 9 19 (bl 3) (bl 3)) λA=>bE 1 7 [23] 30 (bq 1 23 (bl 7) (bE 3 3 [26] 29 (bq 3 26 (bl 3) (bl 3)) λC=>bl 1)) λD=>bq 2 30 aZ (bE 9 3 [33] 36 (bq 9 33 (bl 3) (bl 3)) λG=>bE 1 3 [37] 40 (bq 1 37 (bl 3) (bl 3)) λI=>bE 1 3 [0,41] 44 (bq 1 41 (bl 3) (bl 3)) λJ=>bq 2 44 aZ aZ)))
namespace eZ
def bZ (B:Pred) (i3:Int) (r:Pred->Option Bool):Option (Fw Int Unit Unit):=
 bf (decide (i3<(len B.l)))
 ((idx B.l i3).bind λu=>
 (r u).bind λw=>
 bf w
 (some (.n (IntKind.wrap .i64 (i3+1))))
 (some (.r ())))
 (some (.x ()))
def W2 (i3:Int) (B:Pred) (r:Pred->Option Bool):Option Bool:=
 (bW (λq:Int=>bZ B q r) i3).bind (Fw.elim
 (λe=>some true)
 (λe=>some false))
def J1 (B:Pred) (r:Pred->Option Bool):Option Bool:=
 (bf (decide (B.kind<2))
 (some true)
 (some (decide (B.kind>4))):Option Bool).bind λu=>
 (bf u
 ((bf (B.proc==0)
 (some (!(B.peer==0)))
 (some true):Option Bool).bind λw=>
 (bf w
 (some true)
 (some (!(ByteArray.toList B.name==ByteArray.toList ByteArray.empty))):Option Bool).bind λz=>
 some z)
 (some false):Option Bool).bind λA=>
 bf A
 (some false)
 (eZ.W2 0 B r)
theorem iZ (r:Pred->Option Bool) (hr:eR Sy cL 93 (λz:Pred=>[enc z]) (λr:Bool=>[.bool r]) r true) (B:Pred):Le ((J1 B r).bind (λr=>some [.bool r])) (cn Sy cL (mK (tr Tx 93)) (oe (tb Tx 93) [1,1,1,0] [] (bO [Pv 1] [Xb 1 B]))):=
 bE 7 4 [28] 32 (bq 7 28 (bl 4) (bl 4)) λC=>bE 1 14 [33] 47 (bq 1 33 (bE 4 4 [37] 41 (cH 4 37 (bl 4) (bl 4)) λD=>bE 1 4 [42] 46 (bq 1 42 (bl 4) (bl 4)) λG=>bl 1) (bl 14)) λI=>bq 2 47 aZ (dU 11 (λw=>(bO [Pv 1,Iv 3 w] [Xb 1 B])) (λu=>(0,(bO [] []))) (λu=>(bO [Bv 2 false] [])) (λw=>dh 7 50 (Pred.ec B.l) (ct 0 B.l (bq 3 52 (dh 9 56 (Pred.ec B.l) (bF 1 λA _=>bu (F:=Fc.of A hr) 1 λJ _=>cH 3 61 aZ aZ)) aZ))) (λu=>aZ) (λu=>aZ))
end eZ
def fE (B:Pred) (r:Pred->Option Bool):Option Bool:=
 (kU B.kind).bind λu=>
 bf (u==(len B.l))
 (bf (B.kind==1)
 ((bf (decide (B.n<0))
 (some true)
 (some (decide (B.n>1125899906842624))):Option Bool).bind λw=>
 bf w
 (some false)
 (eZ.J1 B r))
 (bf (B.n==0)
 (eZ.J1 B r)
 (some false)))
 (some false)
open eZ in
theorem Bg (r:Pred->Option Bool) (hr:eR Sy cL 93 (λz:Pred=>[enc z]) (λr:Bool=>[.bool r]) r true) (B:Pred):Le ((fE B r).bind λr=>some [.bool r]) (fS cL 93 [enc B]):=
 (Fc.M 93 [enc B] (bY 2 1 B (cg 8 λu _=>dh 2 8 (Pred.ec B.l) (ct 0 B.l (cH 3 10 (bq 11 13 (bE 7 4 [17] 21 (bq 7 17 (bl 4) (bl 4)) λw=>bq 2 21 aZ (kr 4 (iZ r hr B))) (cH 8 24 (kr 4 (iZ r hr B)) aZ)) aZ)))):Fc Sy cL (fE B r)).F.h ()
def eZ (B:Pred):Option Bool:=c_ (λr (z:Pred)=>fE z r) 100000 B
instance RP (B:Pred):Fc Sy cL (eZ B):=Fc.of B (eR.fix (A:=λz:Pred=>[enc z]) (E:=λr:Bool=>[.bool r]) (sc:=true) (b:=(λr (z:Pred)=>fE z r)) (by kernel_rfl) (λ_ _=>rfl) (λr hr z=>Bg r hr z) 100000)
def mO (B:Pred):Option Bool:=
 (xz B).bind λu=>
 (bf (decide (u<=200))
 ((jl B 21).bind λw=>
 some (decide (w<=20)))
 (some false):Option Bool).bind λz=>
 (bf z
 ((eZ B).bind λA=>
 some A)
 (some false):Option Bool).bind λC=>
 some C
instance QA (B:Pred):Fc Sy cL (mO B):=Fc.M 58 [enc B] (bY 2 1 B (bu 6 λu _=>bE 2 4 [6] 10 (bq 2 6 (bu 1 λw _=>bl 2) (bl 4)) λz=>bE 1 3 [1,11] 14 (bq 1 11 (bu 1 λA _=>bl 1) (bl 3)) λC=>aZ))
def nu (B:Trace) (p1:Int):Option Bool:=
 (bf (decide (p1>=0))
 (some (decide (p1<(len B.procs))))
 (some false):Option Bool).bind λu=>
 some u
instance TO (B:Trace) (p1:Int):Fc Sy cL (nu B p1):=Fc.M 109 [enc B,.int .i64 p1] (bY 2 2 B (bE 8 6 [1,2,7] 13 (bq 8 7 (ct 3 B.procs (bl 2)) (bl 6)) λu=>aZ))
namespace iE
def br (p1:Int) (B:ByteArray) (D:Trace) (G:Int):Option (Fw Int Unit Int):=
 (idx D.procs p1).bind λu=>
 bf (decide (G<(len u.vars)))
 ((idx D.procs p1).bind λw=>
 (idx w.vars G).bind λz=>
 bf (ByteArray.toList z.name==ByteArray.toList B)
 (some (.r G))
 (some (.n (IntKind.wrap .i64 (G+1)))))
 (some (.x ()))
def W1 (p1:Int) (B:ByteArray) (G:Int) (D:Trace):Option Int:=
 (bW (λq:Int=>br p1 B D q) G).bind (Fw.elim
 (λe=>some (-1))
 (λe=>some e))
end iE
def iE (D:Trace) (p1:Int) (B:ByteArray):Option Int:=
 iE.W1 p1 B 0 D
open iE in
instance T5 (D:Trace) (p1:Int) (B:ByteArray):Fc Sy cL (iE D p1 B):=Fc.M 110 [enc D,.int .i64 p1,.str B] (bY 2 3 D (dU 11 (λw=>(bO [Iv 1 p1,(2,.v (.str B)),Pv 3,Iv 7 w] [Xb 3 D])) (λu=>(0,(bO [] []))) (λu=>(bO [Iv 6 u] [])) (λw=>bF 8 λz _=>ct 2 z.vars (bq 3 16 (bF 10 λA _=>bF 3 λC _=>bq 6 30 aZ aZ) aZ)) (λu=>aZ) (λu=>aZ)))
namespace fH
def br (D:Trace) (B:Pred) (G:Int) (r:(Trace×Pred)->Option Bool):Option (Fw Int Unit Unit):=
 bf (decide (G<(len B.l)))
 ((idx B.l G).bind λu=>
 (r (D,u)).bind λw=>
 bf w
 (some (.n (IntKind.wrap .i64 (G+1))))
 (some (.r ())))
 (some (.x ()))
def W1 (G:Int) (B:Trace) (D:Pred) (r:(Trace×Pred)->Option Bool):Option Bool:=
 (bW (λq:Int=>br B D q r) G).bind (Fw.elim
 (λe=>some true)
 (λe=>some false))
end fH
def fm (B:Trace) (p1:Pred) (r:(Trace×Pred)->Option Bool):Option Bool:=
 (bf (p1.kind==2)
 ((nu B p1.proc).bind λG=>
 (bf G
 (some (!(p1.peer==0)))
 (some true):Option Bool).bind λI=>
 (bf I
 (some true)
 ((iE B p1.proc p1.name).bind λJ=>
 some (decide (J<0))):Option Bool).bind λL=>
 some L)
 (some false):Option Bool).bind λO=>
 bf O
 (some false)
 ((bf (p1.kind==3)
 ((nu B p1.proc).bind λQ=>
 (bf Q
 (some (!(p1.peer==0)))
 (some true):Option Bool).bind λS=>
 (bf S
 (some true)
 (some (!(ByteArray.toList p1.name==ByteArray.toList ByteArray.empty))):Option Bool).bind λT=>
 some T)
 (some false):Option Bool).bind λU=>
 bf U
 (some false)
 ((bf (p1.kind==4)
 ((nu B p1.proc).bind λu=>
 (bf u
 ((nu B p1.peer).bind λw=>
 some (!w))
 (some true):Option Bool).bind λz=>
 (bf z
 (some true)
 (some (p1.proc==p1.peer)):Option Bool).bind λA=>
 (bf A
 (some true)
 (some (!(ByteArray.toList p1.name==ByteArray.toList ByteArray.empty))):Option Bool).bind λC=>
 some C)
 (some false):Option Bool).bind λD=>
 bf D
 (some false)
 (fH.W1 0 B p1 r)))
open fH in
theorem yF (r:(Trace×Pred)->Option Bool) (hr:eR Sy cL 73 (λz:Trace×Pred=>[enc z.1,enc z.2]) (λr:Bool=>[.bool r]) r true) (B:Trace) (p1:Pred):Le ((fm B p1 r).bind λr=>some [.bool r]) (fS cL 73 [enc B,enc p1]):=
 (Fc.M 73 [enc B,enc p1] (bY 2 2 B (bY 0 3 p1 (bE 10 20 [9] 29 (bq 10 9 (bu 3 λQ _=>bE 2 4 [15] 19 (cH 2 15 (bl 4) (bl 4)) λS=>bE 1 8 [20] 28 (bq 1 20 (bl 8) (bu 5 λT _=>bl 2)) λU=>bl 1) (bl 20)) λW=>bq 2 29 aZ (bE 10 16 [33] 49 (bq 10 33 (bu 3 λX _=>bE 2 4 [39] 43 (cH 2 39 (bl 4) (bl 4)) λY=>bE 1 4 [44] 48 (bq 1 44 (bl 4) (bl 4)) λZ=>bl 1) (bl 16)) λaa=>bq 2 49 aZ (bE 10 25 [53] 78 (bq 10 53 (bu 3 λC _=>bE 2 6 [59] 65 (cH 2 59 (bu 3 λD _=>bl 2) (bl 6)) λG=>bE 1 6 [66] 72 (bq 1 66 (bl 6) (bl 6)) λI=>bE 1 4 [73] 77 (bq 1 73 (bl 4) (bl 4)) λJ=>bl 1) (bl 25)) λL=>bq 2 78 aZ (dU 11 (λw=>(bO [Pv 2,Pv 3,Iv 5 w] [Xb 2 B,Xb 3 p1])) (λu=>(0,(bO [] []))) (λu=>(bO [Bv 4 false] [])) (λw=>dh 7 81 (Pred.ec p1.l) (ct 0 p1.l (bq 3 83 (dh 10 88 (Pred.ec p1.l) (bF 1 λA _=>cg (F:=Fc.of (B,A) hr) 1 λO _=>cH 3 93 aZ aZ)) aZ))) (λu=>aZ) (λu=>aZ))))))):Fc Sy cL (fm B p1 r)).F.h ()
def fH (B:Trace) (p1:Pred):Option Bool:=c_ (λr (z:Trace×Pred)=>fm z.1 z.2 r) 100000 (B,p1)
instance N6 (B:Trace) (p1:Pred):Fc Sy cL (fH B p1):=Fc.of (B,p1) (eR.fix (A:=λz:Trace×Pred=>[enc z.1,enc z.2]) (E:=λr:Bool=>[.bool r]) (sc:=true) (b:=(λr (z:Trace×Pred)=>fm z.1 z.2 r)) (by kernel_rfl) (λ_ _=>rfl) (λr hr z=>yF r hr z.1 z.2) 100000)
def oW (B:Pred):Option Int:=
 bf (decide (B.kind<=8))
 (some 1)
 (some 2)
instance TA (B:Pred):Fc Sy cL (oW B):=Fc.M 111 [enc B] (bY 2 1 B (bq 11 5 aZ aZ))
namespace fK
def J2 (i3 B:Int) (D:Pred) (r:Pred->Option Bool):Option (Fw Int Unit Unit):=
 (idx D.l i3).bind λu=>
 (oW u).bind λw=>
 (bf (w==B)
 ((idx D.l i3).bind λz=>
 (r z).bind λA=>
 some (!A))
 (some true):Option Bool).bind λC=>
 bf C
 (some (.r ()))
 (some (.n (IntKind.wrap .i64 (i3+1))))
def br (B:Pred) (i3:Int) (r:Pred->Option Bool):Option (Fw Int Unit Unit):=
 bf (decide (i3<(len B.l)))
 (bf (decide (B.kind>=15))
 (J2 i3 2 B r)
 (J2 i3 1 B r))
 (some (.x ()))
def W1 (i3:Int) (B:Pred) (r:Pred->Option Bool):Option Bool:=
 (bW (λq:Int=>br B q r) i3).bind (Fw.elim
 (λe=>some true)
 (λe=>some false))
end fK
def iK (B:Pred) (r:Pred->Option Bool):Option Bool:=
 fK.W1 0 B r
open fK in
theorem Bh (r:Pred->Option Bool) (hr:eR Sy cL 74 (λz:Pred=>[enc z]) (λr:Bool=>[.bool r]) r true) (B:Pred):Le ((iK B r).bind λr=>some [.bool r]) (fS cL 74 [enc B]):=
 (Fc.M 74 [enc B] (bY 2 1 B (dU 11 (λA=>(bO [Pv 1,Iv 3 A] [Xb 1 B])) (λu=>(0,(bO [] []))) (λu=>(bO [Bv 2 false] [])) (λA=>dh 7 7 (Pred.ec B.l) (ct 0 B.l (bq 3 9 (bq 18 14 (nZ 6 (dh 4 16 (Pred.ec B.l) (bF 1 λC _=>bu 1 λD _=>bE 3 8 [23] 31 (cH 3 23 (dh 2 25 (Pred.ec B.l) (bF 1 λw _=>bu (F:=Fc.of w hr) 1 λG _=>bl 2)) (bl 8)) λI=>bq 2 31 aZ aZ))) (nZ 4 (dh 4 16 (Pred.ec B.l) (bF 1 λC _=>bu 1 λD _=>bE 3 8 [23] 31 (cH 3 23 (dh 2 25 (Pred.ec B.l) (bF 1 λw _=>bu (F:=Fc.of w hr) 1 λG _=>bl 2)) (bl 8)) λI=>bq 2 31 aZ aZ)))) aZ))) (λu=>aZ) (λu=>aZ))):Fc Sy cL (iK B r)).F.h ()
def fK (B:Pred):Option Bool:=c_ (λr (z:Pred)=>iK z r) 100000 B
instance RA (B:Pred):Fc Sy cL (fK B):=Fc.of B (eR.fix (A:=λz:Pred=>[enc z]) (E:=λr:Bool=>[.bool r]) (sc:=true) (b:=(λr (z:Pred)=>iK z r)) (by kernel_rfl) (λ_ _=>rfl) (λr hr z=>Bh r hr z) 100000)
namespace e8
def bZ (p1 U W:Int) (J:Sl Assign) (Y:Trace) (D B G:Int):Option (Fw (Int×Int×Int) (Int×Int) Empty):=
 bf (decide (G<(len J)))
 ((idx J G).bind λz=>
 bf (z.var==U)
 ((idx J G).bind λu=>
 (idx J G).bind λw=>
 some (.n ((if u.value<D then u.value else D),(if w.value>B then w.value else B),IntKind.wrap .i64 (G+1))))
 (some (.n (D,B,IntKind.wrap .i64 (G+1)))))
 (some (.x (D,B)))
def W2 (p1 Y D B G:Int) (J:Sl Assign) (U:Int) (W:Trace):Option (Fw (Int×Int×Int) (Int×Int) Empty):=
 (bW (λq:Int×Int×Int=>bZ p1 Y G J W q.1 q.2.1 q.2.2) (D,B,U)).bind (Fw.elim
 (λe=>some (.n (e.1,e.2,IntKind.wrap .i64 (G+1))))
 (λe=>Empty.elim e))
def br (p1 U:Int) (G:Trace) (D B J:Int):Option (Fw (Int×Int×Int) (Int×Int) Empty):=
 (idx G.procs p1).bind λu=>
 bf (decide (J<(len u.events)))
 ((idx G.procs p1).bind λw=>
 (idx w.events J).bind λz=>
 W2 p1 U D B J z.assign 0 G)
 (some (.x (D,B)))
def W1 (p1 U D B G:Int) (J:Trace):Option (Int×Int):=
 (bW (λq:Int×Int×Int=>br p1 U J q.1 q.2.1 q.2.2) (D,B,G)).bind (Fw.elim
 (λe=>some (e.1,e.2))
 (λe=>Empty.elim e))
end e8
def e8 (B:Trace) (p1 D:Int):Option (Int×Int):=
 (idx B.procs p1).bind λw=>
 (idx w.vars D).bind λu=>
 e8.W1 p1 D u.init_ u.init_ 0 B
open e8 in
instance Tg (B:Trace) (p1 D:Int):Fc Sy cL (e8 B p1 D):=Fc.M 148 [enc B,.int .i64 p1,.int .i64 D] (bY 2 3 B (bF 9 λI _=>bF 3 λJ _=>jU 19 (λu=>(bO [Iv 1 p1,Iv 2 D,Pv 3,Iv 8 u.1,Iv 9 u.2.1,Iv 10 u.2.2] [Xb 3 B])) (λz=>(0,(bO [Iv 8 z.1,Iv 9 z.2] []))) (λu=>bF 8 λG _=>ct 2 G.events (bq 3 32 (bF 10 λL _=>bF 3 λC _=>jU 12 (λw=>(bO [Iv 1 p1,Iv 2 D,Pv 3,Iv 8 w.1,Iv 9 w.2.1,Iv 10 u.2.2,Cv 11 C.assign,Iv 12 w.2.2] [Xb 3 B])) (λA=>(2,(bO [Iv 1 p1,Iv 2 D,Pv 3,Iv 8 A.1,Iv 9 A.2,Iv 10 u.2.2] [Xb 3 B]))) (λw=>ct 6 C.assign (bq 3 48 (bF 9 λO _=>bq 6 57 (bF 5 λQ _=>bF 6 λS _=>aZ) aZ) aZ)) (λA=>aZ)) aZ)) (λz=>aZ)))
namespace iA
def br (p1 G:Int) (B:Trace) (D i8:Int):Option (Fw (Int×Int) Int Empty):=
 (idx B.procs p1).bind λw=>
 bf (decide (i8<(len w.events)))
 ((idx B.procs p1).bind λz=>
 (idx z.events i8).bind λu=>
 (bf (u.kind==2)
 (some (u.peer==G))
 (some false):Option Bool).bind λA=>
 bf A
 (some (.n (IntKind.wrap .i64 (D+1),IntKind.wrap .i64 (i8+1))))
 (some (.n (D,IntKind.wrap .i64 (i8+1)))))
 (some (.x D))
def W1 (p1 D G i8:Int) (B:Trace):Option Int:=
 (bW (λq:Int×Int=>br p1 D B q.1 q.2) (G,i8)).bind (Fw.elim
 (λe=>some e)
 (λe=>Empty.elim e))
end iA
def iA (B:Trace) (p1 D:Int):Option Int:=
 iA.W1 p1 D 0 0 B
open iA in
instance Tw (B:Trace) (p1 D:Int):Fc Sy cL (iA B p1 D):=Fc.M 149 [enc B,.int .i64 p1,.int .i64 D] (bY 2 3 B (jU 16 (λu=>(bO [Iv 1 p1,Iv 2 D,Pv 3,Iv 7 u.1,Iv 8 u.2] [Xb 3 B])) (λw=>(0,(bO [Iv 7 w] []))) (λu=>bF 8 λz _=>ct 2 z.events (bq 3 18 (bF 10 λC _=>bF 3 λA _=>m_ 2 9 0 A (bE 8 5 [9,33] 38 (bq 8 33 (bl 5) (bl 5)) λG=>bq 2 38 aZ aZ)) aZ)) (λw=>aZ)))
namespace cK
def J1 (a0 B:Int):Option Int:=
 some (IntKind.wrap .i64 (a0*B))
end cK
def cK (a0 B:Int):Option Int:=
 (bf (a0==0)
 (some false)
 (some (!(B==0))):Option Bool).bind λu=>
 bf u
 ((yY .i64 1125899906842624 (if(IntKind.wrap .i64 (0-B))>B then(IntKind.wrap .i64 (0-B))else B)).bind λw=>
 bf (decide ((if(IntKind.wrap .i64 (0-a0))>a0 then(IntKind.wrap .i64 (0-a0))else a0)>w))
 (bf ((decide (a0<0))==(decide (B<0)))
 (some 1125899906842625)
 (some (-1125899906842625)))
 (cK.J1 a0 B))
 (cK.J1 a0 B)
open cK in
instance SQ (a0 B:Int):Fc Sy cL (cK a0 B):=Fc.M 150 [.int .i64 a0,.int .i64 B] (bE 11 3 [9] 12 (cH 11 9 (bl 3) (bl 3)) λu=>bq 2 12 (Ud 19 λw _=>bq 3 24 (cH 11 29 aZ aZ) (nZ 4 (aZ))) (nZ 4 (aZ)))
namespace bN
def J3 (D B:Int) (r:(Trace×Pred)->Option (Int×Int×Bool)):Option (Int×Int×Bool):=
 (bf (decide (D>=(-1125899906842624)))
 (some (decide (B<=1125899906842624)))
 (some false):Option Bool).bind λu=>
 some (D,B,u)
def J2 (Y b8 c9 J:Int) (aa U:Bool) (W:Trace) (B:Pred) (r:(Trace×Pred)->Option (Int×Int×Bool)):Option (Int×Int×Bool):=
 (bf aa
 (some (!U))
 (some true):Option Bool).bind λO=>
 bf O
 (some (0,0,false))
 (bf (B.kind==1)
 (bN.J3 B.n B.n r)
 (bf (B.kind==2)
 ((iE W B.proc B.name).bind λQ=>
 (e8 W B.proc Q).bind λL=>
 bN.J3 L.1 L.2 r)
 (bf (B.kind==3)
 ((idx W.procs B.proc).bind λS=>
 bN.J3 0 (len S.events) r)
 (bf (B.kind==4)
 ((iA W B.proc B.peer).bind λT=>
 bN.J3 0 T r)
 (bf (B.kind==5)
 (bN.J3 (IntKind.wrap .i64 (0-b8)) (IntKind.wrap .i64 (0-Y)) r)
 (bf (B.kind==6)
 (bN.J3 (IntKind.wrap .i64 (Y+c9)) (IntKind.wrap .i64 (b8+J)) r)
 (bf (B.kind==7)
 (bN.J3 (IntKind.wrap .i64 (Y-J)) (IntKind.wrap .i64 (b8-c9)) r)
 ((cK Y c9).bind λu=>
 (cK Y J).bind λw=>
 (cK b8 c9).bind λz=>
 (cK b8 J).bind λA=>
 (cK Y c9).bind λC=>
 (cK Y J).bind λD=>
 (cK b8 c9).bind λG=>
 (cK b8 J).bind λI=>
 bN.J3 (if(if A<z then A else z)<(if w<u then w else u)then(if A<z then A else z)else(if w<u then w else u)) (if(if I>G then I else G)>(if D>C then D else C)then(if I>G then I else G)else(if D>C then D else C)) r))))))))
def J1 (W Y c9 U:Int) (G B:Bool) (J:Trace) (D:Pred) (r:(Trace×Pred)->Option (Int×Int×Bool)):Option (Int×Int×Bool):=
 bf (decide ((len D.l)>1))
 ((idx D.l 1).bind λw=>
 (r (J,w)).bind λu=>
 bN.J2 W Y u.1 u.2.1 G u.2.2 J D r)
 (bN.J2 W Y c9 U G B J D r)
theorem wK (r:(Trace×Pred)->Option (Int×Int×Bool)) (hr:eR Sy cL 112 (λz:Trace×Pred=>[enc z.1,enc z.2]) (λr:Int×Int×Bool=>[.int .i64 r.1,.int .i64 r.2.1,.bool r.2.2]) r true) (D B:Int):Le ((J3 D B r).bind (λr=>some [.int .i64 r.1,.int .i64 r.2.1,.bool r.2.2])) (cn Sy cL (mK (tr Tx 112)) (oe (tb Tx 112) [1,1,1,1,0,1,0,1,1,1,0] [] (bO [Iv 13 D,Iv 14 B] []))):=
 bE 7 3 [14,151] 154 (bq 7 151 (bl 3) (bl 3)) λu=>aZ
theorem Rn (r:(Trace×Pred)->Option (Int×Int×Bool)) (hr:eR Sy cL 112 (λz:Trace×Pred=>[enc z.1,enc z.2]) (λr:Int×Int×Bool=>[.int .i64 r.1,.int .i64 r.2.1,.bool r.2.2]) r true) (a7 b8 c9 U:Int) (Y B:Bool) (aa:Trace) (W:Pred):Le ((J2 a7 b8 c9 U Y B aa W r).bind (λr=>some [.int .i64 r.1,.int .i64 r.2.1,.bool r.2.2])) (cn Sy cL (mK (tr Tx 112)) (oe (tb Tx 112) [1,1,1,1,0,1,0] [] (bO [Pv 2,Pv 3,Iv 7 a7,Iv 8 b8,Iv 9 c9,Iv 10 U,Bv 11 Y,Bv 12 B] [Xb 2 aa,Xb 3 W]))):=
 bE 6 3 [12,45] 48 (cH 6 45 (bl 3) (bl 3)) λS=>bq 2 48 aZ (bq 17 51 (kr 11 (wK r hr W.n W.n)) (bq 8 58 (cg 10 λT _=>cg 0 λL _=>kr 8 (wK r hr L.1 L.2)) (bq 8 74 (bF 6 λO _=>ct 2 O.events (kr 4 (wK r hr 0 (len O.events)))) (bq 8 85 (bu 7 λQ _=>kr 4 (wK r hr 0 Q)) (bq 8 94 (kr 11 (wK r hr (IntKind.wrap .i64 (0-b8)) (IntKind.wrap .i64 (0-a7)))) (bq 8 101 (kr 13 (wK r hr (IntKind.wrap .i64 (a7+c9)) (IntKind.wrap .i64 (b8+U)))) (bq 8 110 (kr 13 (wK r hr (IntKind.wrap .i64 (a7-U)) (IntKind.wrap .i64 (b8-c9)))) (bu 5 λu _=>bu 2 λw _=>bu 3 λA _=>bu 2 λC _=>bu 8 λD _=>bu 2 λG _=>bu 3 λI _=>bu 2 λJ _=>kr 6 (wK r hr (if(if C<A then C else A)<(if w<u then w else u)then(if C<A then C else A)else(if w<u then w else u)) (if(if J>I then J else I)>(if G>D then G else D)then(if J>I then J else I)else(if G>D then G else D)))))))))))
theorem iZ (r:(Trace×Pred)->Option (Int×Int×Bool)) (hr:eR Sy cL 112 (λz:Trace×Pred=>[enc z.1,enc z.2]) (λr:Int×Int×Bool=>[.int .i64 r.1,.int .i64 r.2.1,.bool r.2.2]) r true) (W Y c9 U:Int) (G B:Bool) (J:Trace) (D:Pred):Le ((J1 W Y c9 U G B J D r).bind (λr=>some [.int .i64 r.1,.int .i64 r.2.1,.bool r.2.2])) (cn Sy cL (mK (tr Tx 112)) (oe (tb Tx 112) [1,1,1,1,0] [] (bO [Pv 2,Pv 3,Iv 7 W,Iv 8 Y,Iv 9 c9,Iv 10 U,Bv 11 G,Bv 12 B] [Xb 2 J,Xb 3 D]))):=
 dh 5 30 (Pred.ec D.l) (ct 0 D.l (bq 3 32 (dh 5 36 (Pred.ec D.l) (bF 0 λw _=>cg (F:=Fc.of (J,w) hr) 1 λu _=>kr 10 (Rn r hr W Y u.1 u.2.1 G u.2.2 J D))) (kr 4 (Rn r hr W Y c9 U G B J D))))
end bN
def gb (B:Trace) (p1:Pred) (r:(Trace×Pred)->Option (Int×Int×Bool)):Option (Int×Int×Bool):=
 bf (decide ((len p1.l)>0))
 ((idx p1.l 0).bind λw=>
 (r (B,w)).bind λu=>
 bN.J1 u.1 u.2.1 0 0 u.2.2 true B p1 r)
 (bN.J1 0 0 0 0 true true B p1 r)
open bN in
theorem yx (r:(Trace×Pred)->Option (Int×Int×Bool)) (hr:eR Sy cL 112 (λz:Trace×Pred=>[enc z.1,enc z.2]) (λr:Int×Int×Bool=>[.int .i64 r.1,.int .i64 r.2.1,.bool r.2.2]) r true) (B:Trace) (p1:Pred):Le ((gb B p1 r).bind λr=>some [.int .i64 r.1,.int .i64 r.2.1,.bool r.2.2]) (fS cL 112 [enc B,enc p1]):=
 (Fc.M 112 [enc B,enc p1] (bY 2 2 B (bY 0 3 p1 (dh 24 16 (Pred.ec p1.l) (ct 0 p1.l (bq 3 18 (dh 5 22 (Pred.ec p1.l) (bF 0 λw _=>cg (F:=Fc.of (B,w) hr) 1 λu _=>kr 10 (iZ r hr u.1 u.2.1 0 0 u.2.2 true B p1))) (kr 4 (iZ r hr 0 0 0 0 true true B p1))))))):Fc Sy cL (gb B p1 r)).F.h ()
def bN (B:Trace) (p1:Pred):Option (Int×Int×Bool):=c_ (λr (z:Trace×Pred)=>gb z.1 z.2 r) 100000 (B,p1)
instance Oe (B:Trace) (p1:Pred):Fc Sy cL (bN B p1):=Fc.of (B,p1) (eR.fix (A:=λz:Trace×Pred=>[enc z.1,enc z.2]) (E:=λr:Int×Int×Bool=>[.int .i64 r.1,.int .i64 r.2.1,.bool r.2.2]) (sc:=true) (b:=(λr (z:Trace×Pred)=>gb z.1 z.2 r)) (by kernel_rfl) (λ_ _=>rfl) (λr hr z=>yx r hr z.1 z.2) 100000)
namespace jK
def br (D:Trace) (B:Pred) (i8:Int) (r:(Trace×Pred)->Option Bool):Option (Fw Int Unit Unit):=
 bf (decide (i8<(len B.l)))
 ((idx B.l i8).bind λu=>
 (r (D,u)).bind λw=>
 bf w
 (some (.n (IntKind.wrap .i64 (i8+1))))
 (some (.r ())))
 (some (.x ()))
def W1 (i8:Int) (B:Trace) (D:Pred) (r:(Trace×Pred)->Option Bool):Option Bool:=
 (bW (λq:Int=>br B D q r) i8).bind (Fw.elim
 (λe=>some true)
 (λe=>some false))
end jK
def jq (B:Trace) (p1:Pred) (r:(Trace×Pred)->Option Bool):Option Bool:=
 (oW p1).bind λu=>
 bf (u==1)
 ((bN B p1).bind λw=>
 some w.2.2)
 (jK.W1 0 B p1 r)
open jK in
theorem BT (r:(Trace×Pred)->Option Bool) (hr:eR Sy cL 75 (λz:Trace×Pred=>[enc z.1,enc z.2]) (λr:Bool=>[.bool r]) r true) (B:Trace) (p1:Pred):Le ((jq B p1 r).bind λr=>some [.bool r]) (fS cL 75 [enc B,enc p1]):=
 (Fc.M 75 [enc B,enc p1] (bY 2 2 B (bY 0 3 p1 (bu 7 λC _=>bq 3 11 (bu 5 λD _=>aZ) (dU 11 (λw=>(bO [Pv 2,Pv 3,Iv 8 w] [Xb 2 B,Xb 3 p1])) (λu=>(0,(bO [] []))) (λu=>(bO [Bv 4 false] [])) (λw=>dh 7 22 (Pred.ec p1.l) (ct 0 p1.l (bq 3 24 (dh 10 29 (Pred.ec p1.l) (bF 1 λA _=>cg (F:=Fc.of (B,A) hr) 1 λG _=>cH 3 34 aZ aZ)) aZ))) (λu=>aZ) (λu=>aZ))))):Fc Sy cL (jq B p1 r)).F.h ()
def jK (B:Trace) (p1:Pred):Option Bool:=c_ (λr (z:Trace×Pred)=>jq z.1 z.2 r) 100000 (B,p1)
instance TN (B:Trace) (p1:Pred):Fc Sy cL (jK B p1):=Fc.of (B,p1) (eR.fix (A:=λz:Trace×Pred=>[enc z.1,enc z.2]) (E:=λr:Bool=>[.bool r]) (sc:=true) (b:=(λr (z:Trace×Pred)=>jq z.1 z.2 r)) (by kernel_rfl) (λ_ _=>rfl) (λr hr z=>BT r hr z.1 z.2) 100000)
def pK (B:Trace) (p1:Pred):Option Int:=
 (pL B).bind λu=>
 (bf u
 ((mO p1).bind λw=>
 some (!w))
 (some true):Option Bool).bind λz=>
 bf z
 (some 1)
 ((fH B p1).bind λA=>
 bf A
 ((fK p1).bind λC=>
 bf C
 ((jK B p1).bind λD=>
 bf D
 (some 0)
 (some 9))
 (some 14))
 (some 13))
instance Ru (B:Trace) (p1:Pred):Fc Sy cL (pK B p1):=Fc.M 48 [enc B,enc p1] (bY 2 2 B (bY 0 3 p1 (bu 7 λu _=>bE 2 4 [8] 12 (cH 2 8 (bu 1 λw _=>bl 2) (bl 4)) λz=>bq 2 12 aZ (bu 8 λA _=>cH 3 16 (bu 7 λC _=>cH 3 19 (bu 8 λD _=>cH 3 23 aZ aZ) aZ) aZ))))
namespace lT
def br (B:Sl Int) (D:Trace) (p5:Int):Option (Fw Int Unit Unit):=
 bf (decide (p5<(len B)))
 ((idx B p5).bind λu=>
 (bf (decide (u<0))
 (some true)
 ((idx B p5).bind λw=>
 (idx D.procs p5).bind λz=>
 some (decide (w>(len z.events)))):Option Bool).bind λA=>
 bf A
 (some (.r ()))
 (some (.n (IntKind.wrap .i64 (p5+1)))))
 (some (.x ()))
def W1 (B:Sl Int) (p5:Int) (D:Trace):Option Bool:=
 (bW (λq:Int=>br B D q) p5).bind (Fw.elim
 (λe=>some true)
 (λe=>some false))
end lT
def lT (D:Trace) (B:Sl Int):Option Bool:=
 bf ((len B)==(len D.procs))
 (lT.W1 B 0 D)
 (some false)
open lT in
instance Ua (D:Trace) (B:Sl Int):Fc Sy cL (lT D B):=Fc.M 22 [enc D,enc B] (bY 2 2 D (ct 7 B (ct 2 D.procs (cH 3 11 (dU 11 (λw=>(bO [Cv 1 B,Pv 2,Iv 5 w] [Xb 2 D])) (λu=>(0,(bO [] []))) (λu=>(bO [Bv 4 false] [])) (λw=>ct 6 B (bq 3 15 (bF 9 λA _=>bE 3 13 [23] 36 (bq 3 23 (bl 13) (bF 2 λC _=>bF 4 λz _=>ct 2 z.events (bl 2))) λG=>bq 2 36 aZ aZ) aZ)) (λu=>aZ) (λu=>aZ)) aZ))))
namespace dB
def bZ (B:Sl Int) (p5:Int) (D:Trace) (G:Int):Option (Fw Int Unit Unit):=
 (idx B p5).bind λz=>
 bf (decide (G<z))
 ((idx D.procs p5).bind λA=>
 (idx A.events G).bind λu=>
 bf (u.kind==3)
 ((dI D 2 u.message).bind λw=>
 (idx B w.proc).bind λC=>
 bf (decide (w.index>C))
 (some (.r ()))
 (some (.n (IntKind.wrap .i64 (G+1)))))
 (some (.n (IntKind.wrap .i64 (G+1)))))
 (some (.x ()))
def W2 (B:Sl Int) (p5 G:Int) (D:Trace):Option (Fw Int Unit Unit):=
 (bW (λq:Int=>bZ B p5 D q) G).bind (Fw.elim
 (λe=>some (.n (IntKind.wrap .i64 (p5+1))))
 (λe=>some (.r ())))
def br (B:Sl Int) (D:Trace) (p5:Int):Option (Fw Int Unit Unit):=
 bf (decide (p5<(len B)))
 (W2 B p5 0 D)
 (some (.x ()))
def W1 (B:Sl Int) (p5:Int) (D:Trace):Option Bool:=
 (bW (λq:Int=>br B D q) p5).bind (Fw.elim
 (λe=>some true)
 (λe=>some false))
end dB
def dB (D:Trace) (B:Sl Int):Option Bool:=
 dB.W1 B 0 D
open dB in
instance Me (D:Trace) (B:Sl Int):Fc Sy cL (dB D B):=Fc.M 23 [enc D,enc B] (bY 2 2 D (dU 11 (λu=>(bO [Cv 1 B,Pv 2,Iv 5 u] [Xb 2 D])) (λw=>(0,(bO [] []))) (λw=>(bO [Bv 4 false] [])) (λu=>ct 6 B (bq 3 12 (dU 12 (λA=>(bO [Cv 1 B,Pv 2,Iv 5 u,Iv 6 A] [Xb 2 D])) (λz=>(2,(bO [Cv 1 B,Pv 2,Iv 5 u] [Xb 2 D]))) (λz=>(bO [Bv 4 false] [])) (λA=>bF 7 λG _=>bq 4 20 (bF 10 λI _=>bF 3 λC _=>m_ 2 7 0 C (bq 9 34 (bu 6 λJ _=>bF 11 λL _=>bq 4 46 aZ aZ) aZ)) aZ) (λz=>aZ) (λz=>aZ)) aZ)) (λw=>aZ) (λw=>aZ)))
def tK (B:Pred):Option (Int×Int):=
 (mO B).bind λu=>
 bf u
 ((fK B).bind λw=>
 bf w
 ((oW B).bind λz=>
 some (z,0))
 (some (0,14)))
 (some (0,1))
instance Tt (B:Pred):Fc Sy cL (tK B):=Fc.M 76 [enc B] (bY 2 1 B (bu 8 λu _=>cH 3 6 (bu 7 λw _=>cH 3 9 (bu 6 λz _=>aZ) aZ) aZ))
def xC (D:Trace) (p1:Pred) (B:Int):Option Int:=
 (pK D p1).bind λu=>
 bf (u==0)
 ((tK p1).bind λw=>
 bf (w.1==B)
 (some 0)
 (some 14))
 (some u)
instance TP (D:Trace) (p1:Pred) (B:Int):Fc Sy cL (xC D p1 B):=Fc.M 49 [enc D,enc p1,.int .i64 B] (bY 2 3 D (bY 0 4 p1 (bu 8 λu _=>cH 9 14 (bu 7 λw _=>cH 14 23 aZ aZ) aZ)))
namespace eX
def br (B:Pred) (i3:Int) (r:Pred->Option Bool):Option (Fw Int Unit Unit):=
 bf (decide (i3<(len B.l)))
 ((idx B.l i3).bind λu=>
 (r u).bind λw=>
 bf w
 (some (.r ()))
 (some (.n (IntKind.wrap .i64 (i3+1)))))
 (some (.x ()))
def W1 (i3:Int) (B:Pred) (r:Pred->Option Bool):Option Bool:=
 (bW (λq:Int=>br B q r) i3).bind (Fw.elim
 (λe=>some false)
 (λe=>some true))
end eX
def gi (B:Pred) (r:Pred->Option Bool):Option Bool:=
 (bf (decide (B.kind>=18))
 (some (decide (B.kind<=21)))
 (some false):Option Bool).bind λu=>
 bf u
 (some true)
 (eX.W1 0 B r)
open eX in
theorem yL (r:Pred->Option Bool) (hr:eR Sy cL 59 (λz:Pred=>[enc z]) (λr:Bool=>[.bool r]) r true) (B:Pred):Le ((gi B r).bind λr=>some [.bool r]) (fS cL 59 [enc B]):=
 (Fc.M 59 [enc B] (bY 2 1 B (bE 10 4 [7] 11 (bq 10 7 (bl 4) (bl 4)) λC=>bq 2 11 aZ (dU 11 (λw=>(bO [Pv 1,Iv 3 w] [Xb 1 B])) (λu=>(0,(bO [] []))) (λu=>(bO [Bv 2 true] [])) (λw=>dh 7 14 (Pred.ec B.l) (ct 0 B.l (bq 3 16 (dh 9 20 (Pred.ec B.l) (bF 1 λA _=>bu (F:=Fc.of A hr) 1 λD _=>bq 2 24 aZ aZ)) aZ))) (λu=>aZ) (λu=>aZ)))):Fc Sy cL (gi B r)).F.h ()
def eX (B:Pred):Option Bool:=c_ (λr (z:Pred)=>gi z r) 100000 B
instance N_ (B:Pred):Fc Sy cL (eX B):=Fc.of B (eR.fix (A:=λz:Pred=>[enc z]) (E:=λr:Bool=>[.bool r]) (sc:=true) (b:=(λr (z:Pred)=>gi z r)) (by kernel_rfl) (λ_ _=>rfl) (λr hr z=>yL r hr z) 100000)
def pF (B:Pred):Option Bool:=
 (mO B).bind λu=>
 (bf u
 ((eX B).bind λw=>
 some w)
 (some false):Option Bool).bind λz=>
 some z
instance Od (B:Pred):Fc Sy cL (pF B):=Fc.M 25 [enc B] (bY 2 1 B (bu 6 λu _=>bE 1 3 [1,5] 8 (bq 1 5 (bu 1 λw _=>bl 1) (bl 3)) λz=>aZ))
def p9 (D:Trace) (G:Sl Int) (p2:Pred) (B:Int):Option Int:=
 (pL D).bind λz=>
 (bf z
 (some (!((len G)==(len D.procs))))
 (some true):Option Bool).bind λA=>
 bf A
 (some 1)
 ((pK D p2).bind λu=>
 bf (u==0)
 ((lT D G).bind λC=>
 bf C
 ((dB D G).bind λI=>
 bf I
 ((xC D p2 B).bind λw=>
 bf (w==0)
 ((pF p2).bind λJ=>
 bf J
 (some 15)
 (some 0))
 (some w))
 (some 18))
 (some 2))
 (some u))
instance Sc (D:Trace) (G:Sl Int) (p2:Pred) (B:Int):Fc Sy cL (p9 D G p2 B):=Fc.M 15 [enc D,enc G,enc p2,.int .i64 B] (bY 2 4 D (bY 0 6 p2 (bu 7 λu _=>bE 2 7 [14] 21 (cH 2 14 (ct 1 G (ct 2 D.procs (bl 2))) (bl 7)) λw=>bq 2 21 aZ (bu 8 λz _=>cH 9 26 (bu 8 λA _=>cH 3 31 (bu 8 λC _=>cH 3 35 (bu 9 λI _=>cH 9 41 (bu 7 λJ _=>bq 2 44 aZ aZ) aZ) aZ) aZ) aZ))))
namespace je
def br (B:ByteArray) (D:Sl Var) (i8:Int):Option (Fw Int Unit Int):=
 bf (decide (i8<(len D)))
 ((idx D i8).bind λu=>
 bf (ByteArray.toList u.name==ByteArray.toList B)
 (some (.r i8))
 (some (.n (IntKind.wrap .i64 (i8+1)))))
 (some (.x ()))
def W1 (B:ByteArray) (D:Sl Var) (i8:Int):Option Int:=
 (bW (λq:Int=>br B D q) i8).bind (Fw.elim
 (λe=>some (-1))
 (λe=>some e))
end je
def je (D:Trace) (p1:Int) (B:ByteArray):Option Int:=
 (idx D.procs p1).bind λu=>
 je.W1 B u.vars 0
open je in
instance SJ (D:Trace) (p1:Int) (B:ByteArray):Fc Sy cL (je D p1 B):=Fc.M 51 [enc D,.int .i64 p1,.str B] (bY 2 3 D (bF 8 λw _=>dU 13 (λz=>(bO [(2,.v (.str B)),Cv 7 w.vars,Iv 8 z] [])) (λu=>(0,(bO [] []))) (λu=>(bO [Iv 6 u] [])) (λz=>ct 6 w.vars (bq 3 18 (bF 9 λA _=>bq 6 27 aZ aZ) aZ)) (λu=>aZ) (λu=>aZ)))
namespace fJ
def bZ (p1 G U:Int) (D:Sl Assign) (J:Trace) (B:Int):Option (Fw Int Unit Int):=
 bf (decide (B<(len D)))
 ((idx D B).bind λu=>
 bf (u.var==G)
 ((idx D B).bind λw=>
 some (.r w.value))
 (some (.n (IntKind.wrap .i64 (B+1)))))
 (some (.x ()))
def W2 (p1 U J:Int) (B:Sl Assign) (D:Int) (G:Trace):Option (Fw Int Unit Int):=
 (bW (λq:Int=>bZ p1 U J B G q) D).bind (Fw.elim
 (λe=>some (.n (IntKind.wrap .i64 (J-1))))
 (λe=>some (.r e)))
def br (p1 G:Int) (B:Trace) (D:Int):Option (Fw Int Unit Int):=
 bf (decide (D>=0))
 ((idx B.procs p1).bind λu=>
 (idx u.events D).bind λw=>
 W2 p1 G D w.assign 0 B)
 (some (.x ()))
def W1 (p1 D G:Int) (B:Trace):Option Int:=
 (bW (λq:Int=>br p1 D B q) G).bind (Fw.elim
 (λe=>(idx B.procs p1).bind λu=>
 (idx u.vars D).bind λw=>
 some w.init_)
 (λe=>some e))
end fJ
def fJ (B:Trace) (p1 D G:Int):Option Int:=
 fJ.W1 p1 D (IntKind.wrap .i64 (G-1)) B
open fJ in
instance SL (B:Trace) (p1 D G:Int):Fc Sy cL (fJ B p1 D G):=Fc.M 50 [enc B,.int .i64 p1,.int .i64 D,.int .i64 G] (bY 2 4 B (dU 13 (λu=>(bO [Iv 1 p1,Iv 2 D,Pv 4,Iv 9 u] [Xb 4 B])) (λw=>(0,(bO [Iv 1 p1,Iv 2 D,Pv 4] [Xb 4 B]))) (λw=>(bO [Iv 8 w] [])) (λu=>bq 8 15 (bF 10 λI _=>bF 3 λA _=>dU 12 (λC=>(bO [Iv 1 p1,Iv 2 D,Pv 4,Iv 9 u,Cv 10 A.assign,Iv 11 C] [Xb 4 B])) (λz=>(2,(bO [Iv 1 p1,Iv 2 D,Pv 4,Iv 9 u] [Xb 4 B]))) (λz=>(bO [Iv 8 z] [])) (λC=>ct 6 A.assign (bq 3 31 (bF 9 λJ _=>bq 6 40 (bF 5 λL _=>aZ) aZ) aZ)) (λz=>aZ) (λz=>aZ)) aZ) (λw=>bF 7 λO _=>bF 3 λQ _=>aZ) (λw=>aZ)))
namespace gB
def br (U:Sl Int) (p2 W:Int) (G:Trace) (B:Sl Int) (D:Int):Option (Fw ((Sl Int)×Int) (Sl Int) Empty):=
 (idx U p2).bind λz=>
 bf (decide (D<z))
 ((idx G.procs p2).bind λA=>
 (idx A.events D).bind λu=>
 (bf (u.kind==2)
 (some (!(u.peer==W)))
 (some true):Option Bool).bind λC=>
 bf C
 (some (.n (B,IntKind.wrap .i64 (D+1))))
 ((dI G 3 u.message).bind λw=>
 (bf (w.index==0)
 (some true)
 ((idx U w.proc).bind λI=>
 some (decide (w.index>I))):Option Bool).bind λJ=>
 bf J
 ((iP B (u.message:Int)).bind λL=>
 some (.n (L,IntKind.wrap .i64 (D+1))))
 (some (.n (B,IntKind.wrap .i64 (D+1))))))
 (some (.x B))
def W1 (J:Sl Int) (p2 U:Int) (B:Sl Int) (D:Int) (G:Trace):Option (Sl Int):=
 (bW (λq:(Sl Int)×Int=>br J p2 U G q.1 q.2) (B,D)).bind (Fw.elim
 (λe=>some e)
 (λe=>Empty.elim e))
end gB
def gB (B:Trace) (D:Sl Int) (p2 G:Int):Option (Sl Int):=
 gB.W1 D p2 G (Sl.nil:Sl Int) 0 B
open gB in
instance Oa (B:Trace) (D:Sl Int) (p2 G:Int):Fc Sy cL (gB B D p2 G):=Fc.N 52 [enc B,enc D,.int .i64 p2,.int .i64 G] (bY 2 4 B (jU 17 (λu=>(bO [Cv 1 D,Iv 2 p2,Iv 3 G,Pv 4,Ov 9,Iv 10 u.2] [Xb 4 B,Lb 2009 u.1])) (λw=>(0,(bO [Ov 9] [Lb 2009 w]))) (λu=>bF 8 λA _=>bq 4 18 (bF 10 λC _=>bF 3 λz _=>m_ 2 11 0 z (bE 9 5 [33] 38 (cH 9 33 (bl 5) (bl 5)) λI=>bq 2 38 aZ (bu 8 λJ _=>bE 10 9 [12,46] 55 (bq 10 46 (bl 9) (bF 5 λL _=>bl 3)) λO=>bq 2 55 (xe 6 2009 59 60 λQ _=>aZ) aZ))) aZ) (λw=>aZ)))
def iI (B:Trace) (D:Sl Int) (p2:Pred) (r:(Trace×(Sl Int)×Pred)->Option Int):Option Int:=
 bf (p2.kind==1)
 (some p2.n)
 (bf (p2.kind==2)
 ((je B p2.proc p2.name).bind λQ=>
 (idx D p2.proc).bind λS=>
 (fJ B p2.proc Q S).bind λT=>
 some T)
 (bf (p2.kind==3)
 ((idx D p2.proc).bind λU=>
 some U)
 (bf (p2.kind==4)
 ((gB B D p2.proc p2.peer).bind λW=>
 some (len W))
 (bf (p2.kind==5)
 ((idx p2.l 0).bind λX=>
 (r (B,D,X)).bind λY=>
 some (IntKind.wrap .i64 (0-Y)))
 (bf (p2.kind==6)
 ((idx p2.l 0).bind λZ=>
 (r (B,D,Z)).bind λaa=>
 (idx p2.l 1).bind λu=>
 (r (B,D,u)).bind λw=>
 some (IntKind.wrap .i64 (aa+w)))
 (bf (p2.kind==7)
 ((idx p2.l 0).bind λz=>
 (r (B,D,z)).bind λA=>
 (idx p2.l 1).bind λC=>
 (r (B,D,C)).bind λG=>
 some (IntKind.wrap .i64 (A-G)))
 ((idx p2.l 0).bind λI=>
 (r (B,D,I)).bind λJ=>
 (idx p2.l 1).bind λL=>
 (r (B,D,L)).bind λO=>
 some (IntKind.wrap .i64 (J*O)))))))))
theorem Bf (r:(Trace×(Sl Int)×Pred)->Option Int) (hr:eR Sy cL 16 (λz:Trace×(Sl Int)×Pred=>[enc z.1,enc z.2.1,enc z.2.2]) (λr:Int=>[.int .i64 r]) r true) (B:Trace) (D:Sl Int) (p2:Pred):Le ((iI B D p2 r).bind λr=>some [.int .i64 r]) (fS cL 16 [enc B,enc D,enc p2]):=
 (Fc.M 16 [enc B,enc D,enc p2] (bY 2 3 B (bY 0 5 p2 (bq 17 9 aZ (bq 7 13 (cg 11 λW _=>bF 3 λX _=>cg 1 λY _=>aZ) (bq 7 30 (bF 6 λZ _=>aZ) (bq 7 37 (bu 9 λI _=>ct 0 I aZ) (bq 7 47 (dh 7 52 (Pred.ec p2.l) (bF 0 λJ _=>cg (F:=Fc.of (B,D,J) hr) 1 λaa _=>aZ)) (bq 7 57 (dh 7 62 (Pred.ec p2.l) (bF 0 λL _=>cg (F:=Fc.of (B,D,L) hr) 1 λab _=>dh 4 69 (Pred.ec p2.l) (bF 0 λu _=>cg (F:=Fc.of (B,D,u) hr) 1 λO _=>aZ))) (bq 7 74 (dh 7 79 (Pred.ec p2.l) (bF 0 λw _=>cg (F:=Fc.of (B,D,w) hr) 1 λQ _=>dh 4 86 (Pred.ec p2.l) (bF 0 λA _=>cg (F:=Fc.of (B,D,A) hr) 1 λS _=>aZ))) (dh 10 94 (Pred.ec p2.l) (bF 0 λC _=>cg (F:=Fc.of (B,D,C) hr) 1 λT _=>dh 4 101 (Pred.ec p2.l) (bF 0 λG _=>cg (F:=Fc.of (B,D,G) hr) 1 λU _=>aZ)))))))))))):Fc Sy cL (iI B D p2 r)).F.h ()
def gL (B:Trace) (D:Sl Int) (p2:Pred):Option Int:=c_ (λr (z:Trace×(Sl Int)×Pred)=>iI z.1 z.2.1 z.2.2 r) 100000 (B,D,p2)
instance Sd (B:Trace) (D:Sl Int) (p2:Pred):Fc Sy cL (gL B D p2):=Fc.of (B,D,p2) (eR.fix (A:=λz:Trace×(Sl Int)×Pred=>[enc z.1,enc z.2.1,enc z.2.2]) (E:=λr:Int=>[.int .i64 r]) (sc:=true) (b:=(λr (z:Trace×(Sl Int)×Pred)=>iI z.1 z.2.1 z.2.2 r)) (by kernel_rfl) (λ_ _=>rfl) (λr hr z=>Bf r hr z.1 z.2.1 z.2.2) 100000)
def iG (B:Trace) (D:Sl Int) (p2:Pred) (r:(Trace×(Sl Int)×Pred)->Option Bool):Option Bool:=
 bf (p2.kind==9)
 ((idx p2.l 0).bind λab=>
 (gL B D ab).bind λad=>
 (idx p2.l 1).bind λae=>
 (gL B D ae).bind λaf=>
 some (ad==af))
 (bf (p2.kind==10)
 ((idx p2.l 0).bind λah=>
 (gL B D ah).bind λai=>
 (idx p2.l 1).bind λaj=>
 (gL B D aj).bind λak=>
 some (!(ai==ak)))
 (bf (p2.kind==11)
 ((idx p2.l 0).bind λal=>
 (gL B D al).bind λu=>
 (idx p2.l 1).bind λw=>
 (gL B D w).bind λz=>
 some (decide (u<z)))
 (bf (p2.kind==12)
 ((idx p2.l 0).bind λA=>
 (gL B D A).bind λC=>
 (idx p2.l 1).bind λG=>
 (gL B D G).bind λI=>
 some (decide (C<=I)))
 (bf (p2.kind==13)
 (some true)
 (bf (p2.kind==15)
 ((idx p2.l 0).bind λJ=>
 (r (B,D,J)).bind λL=>
 some (!L))
 (bf (p2.kind==16)
 ((idx p2.l 0).bind λO=>
 (r (B,D,O)).bind λQ=>
 (bf Q
 ((idx p2.l 1).bind λS=>
 (r (B,D,S)).bind λT=>
 some T)
 (some false):Option Bool).bind λU=>
 some U)
 (bf (p2.kind==17)
 ((idx p2.l 0).bind λW=>
 (r (B,D,W)).bind λX=>
 (bf X
 (some true)
 ((idx p2.l 1).bind λY=>
 (r (B,D,Y)).bind λZ=>
 some Z):Option Bool).bind λaa=>
 some aa)
 (some false))))))))
theorem Be (r:(Trace×(Sl Int)×Pred)->Option Bool) (hr:eR Sy cL 17 (λz:Trace×(Sl Int)×Pred=>[enc z.1,enc z.2.1,enc z.2.2]) (λr:Bool=>[.bool r]) r true) (B:Trace) (D:Sl Int) (p2:Pred):Le ((iG B D p2 r).bind λr=>some [.bool r]) (fS cL 17 [enc B,enc D,enc p2]):=
 (Fc.M 17 [enc B,enc D,enc p2] (bY 2 3 B (bY 0 5 p2 (bq 17 9 (dh 7 14 (Pred.ec p2.l) (bF 0 λad _=>cg 1 λae _=>dh 4 21 (Pred.ec p2.l) (bF 0 λaf _=>cg 1 λah _=>aZ))) (bq 7 26 (dh 7 31 (Pred.ec p2.l) (bF 0 λai _=>cg 1 λaj _=>dh 4 38 (Pred.ec p2.l) (bF 0 λak _=>cg 1 λal _=>aZ))) (bq 7 43 (dh 7 48 (Pred.ec p2.l) (bF 0 λam _=>cg 1 λL _=>dh 4 55 (Pred.ec p2.l) (bF 0 λO _=>cg 1 λQ _=>aZ))) (bq 7 60 (dh 7 65 (Pred.ec p2.l) (bF 0 λS _=>cg 1 λT _=>dh 4 72 (Pred.ec p2.l) (bF 0 λU _=>cg 1 λW _=>aZ))) (bq 7 77 aZ (bq 7 79 (dh 7 84 (Pred.ec p2.l) (bF 0 λA _=>cg (F:=Fc.of (B,D,A) hr) 1 λX _=>aZ)) (bq 7 89 (dh 7 94 (Pred.ec p2.l) (bF 0 λC _=>cg (F:=Fc.of (B,D,C) hr) 1 λY _=>AT 1 8 [105,97] (λu=>(bO [Iv 8 p2.kind,Bv 9 false,Bv 26 false,Bv 43 false,Bv 60 false,Bv 77 false,Bv 79 false,Bv 89 true,Bv 106 u] [Xb 3 B,Xb 5 p2])) (bq 1 98 (dh 4 102 (Pred.ec p2.l) (bF 0 λG _=>cg (F:=Fc.of (B,D,G) hr) 1 λZ _=>bl 1)) (bl 8)) λu=>aZ)) (bq 7 107 (dh 7 112 (Pred.ec p2.l) (bF 0 λI _=>cg (F:=Fc.of (B,D,I) hr) 1 λaa _=>AT 1 8 [123,115] (λw=>(bO [Bv 9 false,Bv 26 false,Bv 43 false,Bv 60 false,Bv 77 false,Bv 79 false,Bv 89 false,Bv 107 true,Bv 124 w] [Xb 3 B,Xb 5 p2])) (bq 1 116 (bl 8) (dh 4 120 (Pred.ec p2.l) (bF 0 λJ _=>cg (F:=Fc.of (B,D,J) hr) 1 λab _=>bl 1))) λw=>aZ)) aZ)))))))))):Fc Sy cL (iG B D p2 r)).F.h ()
def vK (B:Trace) (D:Sl Int) (p2:Pred):Option Bool:=c_ (λr (z:Trace×(Sl Int)×Pred)=>iG z.1 z.2.1 z.2.2 r) 100000 (B,D,p2)
instance R6 (B:Trace) (D:Sl Int) (p2:Pred):Fc Sy cL (vK B D p2):=Fc.of (B,D,p2) (eR.fix (A:=λz:Trace×(Sl Int)×Pred=>[enc z.1,enc z.2.1,enc z.2.2]) (E:=λr:Bool=>[.bool r]) (sc:=true) (b:=(λr (z:Trace×(Sl Int)×Pred)=>iG z.1 z.2.1 z.2.2 r)) (by kernel_rfl) (λ_ _=>rfl) (λr hr z=>Be r hr z.1 z.2.1 z.2.2) 100000)
namespace dR
def J1 (G:Sl Int) (y9:Bool) (f10:Int) (B:Trace) (D:Pred):Option Bool:=
 (p9 B G D 2).bind λu=>
 bf (u==0)
 ((bf (f10==0)
 ((vK B G D).bind λw=>
 some (y9==w))
 (some false):Option Bool).bind λz=>
 some z)
 ((bf (f10==u)
 (some (!y9))
 (some false):Option Bool).bind λA=>
 some A)
end dR
def dR (B:Trace) (D:Sl Int) (p2:Pred):Option Bool:=
 (vV).bind λG=>
 bf G
 ((vu B).bind λI=>
 (bf I
 (some true)
 ((tJ p2).bind λJ=>
 some J):Option Bool).bind λL=>
 (bf L
 (some true)
 (some (decide ((len D)>20))):Option Bool).bind λO=>
 bf O
 (some true)
 ((vS B D p2).bind λu=>
 (rm B D p2).bind λw=>
 (p9 B D p2 1).bind λz=>
 bf (z==0)
 ((bf (u.2==0)
 ((gL B D p2).bind λQ=>
 some (!(u.1==Q)))
 (some true):Option Bool).bind λA=>
 bf A
 (some false)
 (dR.J1 D w.1 w.2 B p2))
 ((bf (u.2==z)
 (some (!(u.1==0)))
 (some true):Option Bool).bind λC=>
 bf C
 (some false)
 (dR.J1 D w.1 w.2 B p2))))
 (some false)
open dR in
instance xI (B:Trace) (D:Sl Int) (p2:Pred):Fc Sy cL (dR B D p2):=Fc.M 3 [enc B,enc D,enc p2] (bY 2 3 B (bY 0 5 p2 (bu 6 λI _=>cH 3 14 (bu 7 λJ _=>bE 1 3 [17] 20 (bq 1 17 (bl 3) (bu 1 λL _=>bl 1)) λO=>bE 1 4 [21] 25 (bq 1 21 (bl 4) (ct 1 D (bl 2))) λQ=>bq 2 25 aZ (bu 8 λS _=>bu 12 λT _=>bu 13 λU _=>cH 9 45 (bE 6 7 [7,55] 62 (cH 6 55 (bu 4 λW _=>bl 2) (bl 7)) λC=>bq 2 62 aZ (nZ 4 (bu 6 λu _=>cH 9 68 (bE 8 7 [1,3,5,9,78] 85 (bq 8 78 (bu 4 λw _=>bl 2) (bl 7)) λz=>aZ) (bE 7 3 [9,72] 75 (bq 7 72 (bl 3) (bl 3)) λA=>aZ)))) (bE 7 3 [7,49] 52 (cH 7 49 (bl 3) (bl 3)) λG=>bq 2 52 aZ (nZ 4 (bu 6 λu _=>cH 9 68 (bE 8 7 [1,3,5,9,78] 85 (bq 8 78 (bu 4 λw _=>bl 2) (bl 7)) λz=>aZ) (bE 7 3 [9,72] 75 (bq 7 72 (bl 3) (bl 3)) λA=>aZ)))))) aZ)))
end
end Go.VE
