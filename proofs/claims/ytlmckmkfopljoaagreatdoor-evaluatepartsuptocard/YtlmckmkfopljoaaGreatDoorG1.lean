/-
 Each function of the program that the law reaches: its plain form, and that it comes to that.
-/
import Derived.Test.YtlmckmkfopljoaaGreatDoorK1
import Derived.Test.YtlmckmkfopljoaaGreatDoorT1
set_option linter.all false
namespace Go.VE
theorem Ze{p:Prop}(h:p:=by kernel_rfl):p:=h
structure Pred where
 kind:Int
 n:Int
 proc:Int
 peer:Int
 name:ByteArray
 l:Sl Pred
mutual
def Pred.NC:Pred->List V
 | ⟨f0,f1,u,z,B,f5⟩=>[.int .i64 f0,.int .i64 f1,.int .i64 u,.int .i64 z,.str B,Pred.AU f5]
def Pred.AU:Sl Pred->V
 | .nil=>.bM
 | .emp=>.di
 | .row l=>.fsl 6 (Pred.AP l)
 | .part l=>.fsl 6 (Pred.AP l)
def Pred.AP:List Pred->List (List V)
 | []=>[]
 | x::r=>Pred.NC x::Pred.AP r
end
instance:Inhabited Pred:=⟨⟨default,default,default,default,default,Sl.nil⟩⟩
mutual
theorem Pred.Oz:∀x:Pred,V.cH x.NC=true
 | ⟨f0,f1,u,z,B,f5⟩=>by simp only[Pred.NC,V.cH,V.good,Pred.FY,Bool.and_self]
theorem Pred.FY:∀x:Sl Pred,V.good (Pred.AU x)=true
 | .nil=>rfl
 | .emp=>rfl
 | .row l=>by simp only[Pred.AU,V.good,Pred.Ax]
 | .part l=>by simp only[Pred.AU,V.good,Pred.Ax]
theorem Pred.Ax:∀x:List Pred,V.k9 (Pred.AP x)=true
 | []=>rfl
 | x::r=>by simp only[Pred.AP,V.k9,Pred.Oz,Pred.Ax,Bool.and_self]
end
theorem Pred.Pd (s:Sl Pred):V.one (Pred.AU s)=true:=by cases s <;> simp[Pred.AU,V.one]
instance:bt Pred where
 cells x:=[.int .i64 x.kind,.int .i64 x.n,.int .i64 x.proc,.int .i64 x.peer,.str x.name,Pred.AU x.l]
 agg:=true
 size:=6
 len _:=rfl
 good x:=by simp only[V.cH,V.good,Pred.FY,Bool.and_self]
 one x:=by simp only[List.all_cons,List.all_nil,ou,mI,ov,Pred.Pd,Bool.and_self]
 plain h:=by cases h
theorem Pred.KH (x:Pred):Pred.NC x=cells x:=by cases x;rfl
theorem Pred.AM:∀l:List Pred,Pred.AP l=rows l
 | []=>rfl
 | x::r=>by rw[Pred.AP,Pred.AM r,Pred.KH];rfl
theorem Pred.jX (s:Sl Pred):Pred.AU s=enc s:=by
 cases s with
 | nil=>rfl
 | emp=>rfl
 | row l=>show V.fsl 6 (Pred.AP l)=V.fsl 6 (rows l);rw[Pred.AM]
 | part l=>show V.fsl 6 (Pred.AP l)=V.fsl 6 (rows l);rw[Pred.AM]
structure Var where
 name:ByteArray
 init_:Int
 deriving Inhabited
instance:bt Var where
 cells x:=[.str x.name,.int .i64 x.init_]
 agg:=true
 size:=2
 len _:=rfl
 good x:=by simp only[V.cH,V.good,lK,Bool.and_self]
 one x:=by simp only[List.all_cons,List.all_nil,ou,mI,ov,nW,Bool.and_self]
 plain h:=by cases h
structure Assign where
 var:Int
 value:Int
 deriving Inhabited
instance:bt Assign where
 cells x:=[.int .i64 x.var,.int .i64 x.value]
 agg:=true
 size:=2
 len _:=rfl
 good x:=by simp only[V.cH,V.good,lK,Bool.and_self]
 one x:=by simp only[List.all_cons,List.all_nil,ou,mI,ov,nW,Bool.and_self]
 plain h:=by cases h
structure Event where
 kind:Int
 peer:Int
 message:Int
 time:Int
 assign:Sl Assign
 deriving Inhabited
instance:bt Event where
 cells x:=[.int .i64 x.kind,.int .i64 x.peer,.int .i64 x.message,.int .i64 x.time,enc x.assign]
 agg:=true
 size:=5
 len _:=rfl
 good x:=by simp only[V.cH,V.good,lK,Bool.and_self]
 one x:=by simp only[List.all_cons,List.all_nil,ou,mI,ov,nW,Bool.and_self]
 plain h:=by cases h
structure bS where
 name:ByteArray
 vars:Sl Var
 events:Sl Event
 deriving Inhabited
instance:bt bS where
 cells x:=[.str x.name,enc x.vars,enc x.events]
 agg:=true
 size:=3
 len _:=rfl
 good x:=by simp only[V.cH,V.good,lK,Bool.and_self]
 one x:=by simp only[List.all_cons,List.all_nil,ou,mI,ov,nW,Bool.and_self]
 plain h:=by cases h
structure Trace where
 procs:Sl bS
 deriving Inhabited
instance:bt Trace where
 cells x:=[enc x.procs]
 agg:=true
 size:=1
 len _:=rfl
 good x:=by simp only[V.cH,V.good,lK,Bool.and_self]
 one x:=by simp only[List.all_cons,List.all_nil,ou,mI,ov,nW,Bool.and_self]
 plain h:=by cases h
structure bE where
 from_:aZ
 to_:aZ
 deriving Inhabited
instance:bt bE where
 cells x:=[.int .i64 x.from_.proc,.int .i64 x.from_.index,.int .i64 x.to_.proc,.int .i64 x.to_.index]
 agg:=true
 size:=4
 len _:=rfl
 good x:=by simp only[V.cH,V.good,lK,Bool.and_self]
 one x:=by simp only[List.all_cons,List.all_nil,ou,mI,ov,nW,Bool.and_self]
 plain h:=by cases h
structure bC where
 low:Int
 high:Int
 deriving Inhabited
instance:bt bC where
 cells x:=[.int .i64 x.low,.int .i64 x.high]
 agg:=true
 size:=2
 len _:=rfl
 good x:=by simp only[V.cH,V.good,lK,Bool.and_self]
 one x:=by simp only[List.all_cons,List.all_nil,ou,mI,ov,nW,Bool.and_self]
 plain h:=by cases h
structure br where
 t:Trace
 counts:Sl Int
 values:Sl (Sl Int)
 deriving Inhabited
instance:bt br where
 cells x:=[enc x.t.procs,enc x.counts,enc x.values]
 agg:=true
 size:=3
 len _:=rfl
 good x:=by simp only[V.cH,V.good,lK,Bool.and_self]
 one x:=by simp only[List.all_cons,List.all_nil,ou,mI,ov,nW,Bool.and_self]
 plain h:=by cases h
def js (p:Int):Int->List Event->List (aZ×Event)
 | _,[]=>[]
 | j,e::r=>(⟨p,j+1⟩,e)::js p (j+1) r
def fN:Int->List bS->List (aZ×Event)
 | _,[]=>[]
 | i,p::r=>js i 0 p.events.l++fN (i+1) r
def mJ (n:Nat):Bool:=decide (n<9223372036854775807)
def gZ (t:Trace):Option (List (aZ×Event)):=
 if mJ t.procs.l.length&&t.procs.l.all λp=>mJ p.events.l.length then some (fN 0 t.procs.l)else none
def wq:cw 22 Int:=⟨Go.Proofs.YtlmckmkfopljoaaGreatDoor.Bx,rfl⟩
end Go.VE
namespace Go.VE
def I6:List (Nat×GD):=[
 (66,⟨0x22226260002000201,[],[(6,[.keep [0,1,7,8] []],[.keep [0,1,7,8] []]),(12,[.keep [] []],[]),(22,[.keep [4] []],[]),(27,[.keep [4] []],[])]⟩),
 (40,⟨0x226221,[],[]⟩),
 (67,⟨0x22226260002000201,[],[(6,[.keep [0,1,7,8] []],[.keep [0,1,7,8] []]),(12,[.keep [] []],[]),(22,[.keep [4] []],[]),(27,[.keep [4] []],[])]⟩),
 (42,⟨0x226221,[],[]⟩),
 (43,⟨0x2222212,[],[]⟩),
 (41,⟨0x264442644402222012,[],[]⟩),
 (11,⟨0x264442222012,[],[]⟩),
 (44,⟨0x222000ff2026020064026220000202202,[],[(10,[.keep [1,2,3,4] [4,9001,9002]],[]),(13,[.keep [1,2,3,4,6] [4,9001,9002]],[.keep [1,2,3,4,6] [4,9001,9002]]),(19,[.keep [] [9001,9002]],[])]⟩),
 (12,⟨0x2227222000012,[(5,[.canon (.s 3) 9001 0,.canon (.s 4) 9002 0])],[]⟩),
 (18,⟨0x26220,[],[]⟩),
 (153,⟨0x26c4426201,[],[]⟩),
 (197,⟨0x26c4444026402201,[],[]⟩),
 (198,⟨0x26442201,[],[]⟩),
 (181,⟨0x22064c402644c00222600200020064440264402201,[],[(8,[.keep [2] []],[]),(14,[.keep [0,18,19] []],[.keep [0,18,19] []]),(20,[.keep [] []],[]),(30,[.keep [2] []],[]),(35,[.keep [2] []],[])]⟩),
 (182,⟨0x26222212,[],[]⟩),
 (183,⟨0x26222212,[],[]⟩),
 (106,⟨0x22226260002000201,[],[(6,[.keep [0,1,7,8] []],[.keep [0,1,7,8] []]),(12,[.keep [] []],[]),(22,[.keep [4] []],[]),(27,[.keep [4] []],[])]⟩),
 (161,⟨0x226221,[],[]⟩),
 (154,⟨0x222222022222026c0c4402222022020000020022220026c0c44422220202602012,[],[(11,[.keep [4] []],[]),(17,[.keep [4] []],[]),(23,[.keep [5,32,33,34] [5]],[.keep [5,32,33,34] [5]]),(29,[.keep [5] [5]],[]),(40,[.keep [4] []],[]),(46,[.keep [4] []],[]),(55,[.keep [4] []],[]),(59,[.keep [4] []],[])]⟩),
 (155,⟨0x2212,[],[]⟩),
 (185,⟨0x2644426c4402622222022202644422202020122,[],[(18,[.keep [1,3,5,19] [3,5]],[])]⟩),
 (187,⟨0x26222212,[],[]⟩),
 (199,⟨0x22226260002000201,[],[(6,[.keep [0,1,7,8] []],[.keep [0,1,7,8] []]),(12,[.keep [] []],[]),(22,[.keep [4] []],[]),(27,[.keep [4] []],[])]⟩),
 (186,⟨0x226221,[],[]⟩),
 (156,⟨0x2202626220026444022622202022020000020022220026c44022220022e02222226220202200202620201222,[],[(12,[.keep [3,4,5,7,8] [3,4,5,7]],[]),(19,[.keep [6] []],[]),(25,[.keep [6] []],[]),(31,[.keep [6] []],[]),(37,[.keep [5,7,52,53,54] [5,7]],[.keep [5,7,52,53,54] [5,7]]),(43,[.keep [] []],[]),(54,[.keep [6] []],[]),(60,[.keep [6] []],[]),(65,[.keep [6] []],[])]⟩),
 (200,⟨0x26c44426c440222012,[],[]⟩),
 (188,⟨0x2662262221222,[],[]⟩),
 (157,⟨0x2202326222002202001ef200220022022226200223262220022022226200202022020202020200002,[],[(8,[.keep [1,2,3,4,5,12] [1,2,3,4,5,10]],[.keep [] [1,2,3,4,5,10]]),(27,[.keep [] [1,2,3,4,5,10]],[]),(39,[.keep [] [1,2,3,4,5,10]],[]),(47,[.keep [] [1,2,3,4,5,10]],[]),(53,[.keep [2,3,4] [2,3,4,10]],[])]⟩),
 (189,⟨0x222622262222264444c4400222020262222262622020262020222620220122,[],[(12,[.canon (.s 7) 2007 2,.keep [1,5,7,8] [5,2007]],[])]⟩),
 (158,⟨0x20222622230026000226002020000e200262220202622002202202020200022,[],[(6,[.keep [2,3,4,5,13] [2,3,4,5]],[.keep [] [2,3,4,5]]),(14,[.canon (.s 8) 2008 2,.keep [2,3,4,5,6,7,8,13] [2,3,4,5,6,16,2008]],[.canon (.s 8) 2008 2,.keep [2,3,4,5,6,7,8,13] [2,3,4,5,6,16,2008]]),(20,[.keep [2,3,4,5,13] [2,3,4,5]],[]),(29,[.canon (.s 8) 2008 2,.keep [2,3,4,5,6,7,8,13,36,37,38] [2,3,4,5,6,16,2008]],[.canon (.s 8) 2008 2,.keep [2,3,4,5,6,7,8,13,36,37,38] [2,3,4,5,6,16,2008]]),(35,[.canon (.s 8) 2008 2,.keep [2,3,4,5,6,7,8,13] [2,3,4,5,6,16,2008]],[]),(46,[.keep [] [2,3,4,5]],[]),(58,[.keep [4,5] [4,5]],[])]⟩),
 (117,⟨0x20022222020262222222022202002202222202e2002020202222222202600200022002022220002,[],[(8,[.keep [2,3] [2,3]],[]),(14,[.keep [1,2,3,22,23] [1,2,3]],[.keep [1,2,3,22,23] [1,2,3]]),(20,[.keep [1,2,3] [1,2,3]],[]),(32,[.keep [2,3] [2,3]],[]),(39,[.keep [1,2,3,36] [1,2,3]],[.keep [] [1,2,3]]),(51,[.keep [] [1,2,3]],[]),(61,[.keep [2,3] [2,3]],[]),(71,[.keep [2,3] [2,3]],[]),(75,[.keep [2,3] [2,3]],[])]⟩),
 (82,⟨0x2222302022212,[],[]⟩),
 (159,⟨0x264426402201,[],[]⟩),
 (119,⟨0x26c4444c4404440222006c4404440264402644026c444044026440222012,[],[]⟩),
 (121,⟨0x22e222212,[],[]⟩),
 (120,⟨0x226221,[],[]⟩),
 (160,⟨0x22226260002000201,[],[(6,[.drop [2,3,4,5,6,9,10,11,12,13,14,15,16,17,18]],[.drop [2,3,4,5,6,9,10,11,12,13,14,15,16,17,18]]),(12,[.drop [0,1,2,3,4,5,6,7,8,9,10,11,12,13,14,15,16,17,18]],[]),(22,[.drop [0,1,2,3,5,6,7,8,9,10,11,12,13,14,15,16,17,18]],[]),(27,[.drop [0,1,2,3,5,6,7,8,9,10,11,12,13,14,15,16,17,18]],[])]⟩),
 (118,⟨0x226622064402640222220122,[(20,[.closeB 5])],[]⟩),
 (83,⟨0x26222200012,[(5,[.canon (.s 3) 9004 0,.canon (.s 4) 9003 0])],[]⟩),
 (123,⟨0x26c444422012,[],[]⟩),
 (162,⟨0x2622212,[],[]⟩),
 (124,⟨0x262226222122,[],[]⟩),
 (122,⟨0x2644426c404026c40426200222644426440262022026001cf444042644026200202012,[],[]⟩),
 (146,⟨0x2262212,[],[]⟩),
 (103,⟨0x264c4442600122,[(10,[.closeB 3])],[]⟩),
 (84,⟨0x2622122,[],[]⟩),
 (56,⟨0x221,[],[]⟩),
 (127,⟨0x221,[],[]⟩),
 (126,⟨0x2622222212,[],[]⟩),
 (125,⟨0x22622012,[(5,[.closeB 1])],[]⟩),
 (85,⟨0x22212,[],[]⟩),
 (131,⟨0x222222626002620002220012201,[],[(8,[.keep [0] []],[]),(14,[.keep [0,3,4] []],[.keep [0,3,4] []]),(20,[.keep [3] []],[])]⟩),
 (132,⟨0x222222626002620002220012201,[],[(8,[.keep [0] []],[]),(14,[.keep [0,3,4] []],[.keep [0,3,4] []]),(20,[.keep [3] []],[])]⟩),
 (89,⟨0x2622200,[],[]⟩),
 (129,⟨0x22222226c04422202020000226222012,[],[(8,[.keep [2,7,15,16,17] []],[.keep [2,7,15,16,17] []]),(14,[.keep [7] []],[])]⟩),
 (201,⟨0x2622212,[],[]⟩),
 (190,⟨0x26222122,[],[]⟩),
 (163,⟨0x220020262262220026c4400220002220112,[],[]⟩),
 (168,⟨0x26200201,[],[(8,[.canon (.s 2) 4004 1],[]),(12,[.canon (.s 2) 4004 1],[])]⟩),
 (179,⟨0x222e202202236222002020000222202000002226200222622222020000200,[(21,[.closeS (.s 25)]),(57,[.closeS (.s 54)])],[(6,[.canon (.s 3) 2003 1,.keep [0,1,3,11,12,13] [2003]],[.canon (.s 3) 2003 1,.keep [0,1,3,11,12,13] [2003]]),(12,[.canon (.s 3) 2003 1,.keep [0,1,3] [2003]],[]),(23,[.keep [] []],[]),(28,[.canon (.s 3) 2003 1,.keep [0,3,29,30,31] [2003]],[.canon (.s 3) 2003 1,.keep [0,3,29,30,31] [2003]]),(34,[.keep [] []],[]),(43,[.canon (.s 3) 2003 1,.keep [0,3,6,29,30,31,37,38,39] [2003]],[.canon (.s 3) 2003 1,.keep [0,3,6,29,30,31,37,38,39] [2003]]),(49,[.canon (.s 3) 2003 1,.keep [0,3,6,29,30,31] [2003]],[]),(59,[.keep [] []],[])]⟩),
 (145,⟨0x2212,[],[]⟩),
 (164,⟨0x22262260202220122,[],[(8,[.canon (.c 5 0) 4100 1,.keep [3,5,9] [3,5,4100]],[.canon (.c 5 0) 4100 1,.keep [] [3,5,4100]])]⟩),
 (130,⟨0x2222202622622220022022202e2001112,[],[]⟩),
 (87,⟨0x26223222002e2220222e2220222222226222220222222020022,[],[]⟩),
 (88,⟨0x26444222012,[],[]⟩),
 (133,⟨0x262201,[],[]⟩),
 (90,⟨0x22222622220622020260006402201,[],[]⟩),
 (57,⟨0x22222022001ef622226202062020620202662222620202226622226202020262222202022002064422222202622202222002002202026222002222202062222201022,[],[(22,[.keep [3,4,7,8,9,10] [3,4,7,9]],[]),(49,[.keep [4,11] [4,11]],[])]⟩),
 (128,⟨0x2262212,[],[]⟩),
 (86,⟨0x226222222302026222220122,[(21,[.closeB 2])],[]⟩),
 (55,⟨0x22622022200226000264402220122,[],[]⟩),
 (195,⟨0x26222221,[],[]⟩),
 (213,⟨0x22226260002000201,[],[(6,[.keep [0,1,7,8] []],[.keep [0,1,7,8] []]),(12,[.keep [] []],[]),(22,[.keep [4] []],[]),(27,[.keep [4] []],[])]⟩),
 (194,⟨0x226221,[],[]⟩),
 (175,⟨0x264c4422012,[],[]⟩),
 (176,⟨0x2206c444c440422022200000212,[],[(6,[.keep [2,7,8,9] [2]],[.keep [2,7,8,9] [2]]),(12,[.keep [] []],[]),(22,[.keep [4] []],[]),(27,[.keep [4] []],[])]⟩),
 (177,⟨0x26c444422012,[],[]⟩),
 (180,⟨0x200226c0442602020202202022000222,[],[(8,[.keep [6,7] [6,7]],[]),(14,[.keep [4,5,6,7,15] [4,5,6,7]],[.keep [] [4,5,6,7]]),(24,[.keep [] [4,5,6,7]],[]),(28,[.keep [6,7] [6,7]],[])]⟩),
 (166,⟨0x2220622102,[],[]⟩),
 (196,⟨0x2200222202262222626200203202026220220220200000622260202220000001002,[],[(6,[.keep [1,2,4,5,13,14,15] [2,4,5]],[.keep [1,2,4,5,13,14,15] [2,4,5]]),(12,[.keep [4,5] [4,5]],[]),(20,[.keep [1,2,4,5,7,13,14,15,27,28,29] [2,4,5]],[.keep [1,2,4,5,7,13,14,15,27,28,29] [2,4,5]]),(26,[.keep [1,2,4,5,13,14,15] [2,4,5]],[]),(44,[.keep [4,5,6] [4,5]],[]),(50,[.keep [4,5,6] [4,5]],[])]⟩),
 (178,⟨0x22223300200262212,[],[]⟩),
 (144,⟨0x2202620220000222026202200002220262022000000260012,[],[(8,[.keep [6] []],[]),(14,[.keep [1,2,3,17,18,19] [3]],[.keep [1,2,3,17,18,19] [3]]),(20,[.keep [1,2,3] [3]],[]),(30,[.keep [6] []],[]),(37,[.keep [1,3,28,29,30] [3]],[.keep [1,3,28,29,30] [3]]),(43,[.keep [1,3] [3]],[]),(53,[.keep [6] []],[]),(60,[.keep [3,39,40,41] [3]],[.keep [3,39,40,41] [3]]),(66,[.keep [] []],[]),(76,[.keep [6] []],[]),(81,[.keep [6] []],[])]⟩),
 (100,⟨0x222226262222022200000202022026202112,[],[(18,[.canon (.s 7) 2007 2,.keep [7,17,18,19] [2007]],[.canon (.s 7) 2007 2,.keep [7,17,18,19] [2007]]),(24,[.canon (.s 7) 2007 2,.keep [7] [2007]],[])]⟩),
 (101,⟨0x226022222022,[],[(6,[.keep [3,4,8] [3,4]],[.keep [] [3,4]]),(16,[.keep [] [3,4]],[]),(20,[.keep [4] [4]],[])]⟩),
 (68,⟨0x22222626226220222200000202022023202600112,[],[(18,[.canon (.s 8) 2008 1,.keep [2,8,20,21,22] [2,2008]],[.canon (.s 8) 2008 1,.keep [2,8,20,21,22] [2,2008]]),(24,[.canon (.s 8) 2008 1,.keep [8] [2008]],[])]⟩),
 (102,⟨0x2222002220002220112,[],[]⟩),
 (69,⟨0x6c44222222022212,[],[]⟩),
 (105,⟨0x26442201,[],[]⟩),
 (104,⟨0x2222212,[],[]⟩),
 (70,⟨0x2644422012,[],[]⟩),
 (45,⟨0x222e222064422026202220202220260022202006c4404022026001022,[],[(10,[.keep [1,3,4,6,8,10] [4,6,8]],[]),(36,[.keep [1,4,8,10,11] [4,8]],[])]⟩),
 (107,⟨0x26222212,[],[]⟩),
 (71,⟨0x226226222226022620220122,[],[]⟩),
 (147,⟨0x2220622102,[],[]⟩),
 (108,⟨0x22222622226c4c4404022222020262006c04022202020000626202260200202202e600200112,[],[(18,[.canon (.s 11) 2011 1,.keep [1,3,4,11,36,37,38] [4,2011]],[.canon (.s 11) 2011 1,.keep [1,3,4,11,36,37,38] [4,2011]]),(24,[.canon (.s 11) 2011 1,.keep [11] [2011]],[])]⟩),
 (72,⟨0x22232202001ef22202220122,[],[]⟩),
 (46,⟨0x266222226222002662222262220022266222226222002022622222202622202262222202622202222020122,[],[]⟩),
 (13,⟨0x262220220220202e0221122,[],[]⟩),
 (19,⟨0x26cc44444264022022202ee222221,[],[]⟩),
 (47,⟨0x26c44444262220026c44444262220022226222222022222020266222226222002026622222622200202662222262220020266222226222002020122,[],[(36,[.keep [2,3,6,67] [2,3]],[])]⟩),
 (14,⟨0x262220220220202e0221122,[],[]⟩),
 (20,⟨0x26cc44444264022022202ee222221,[],[]⟩),
 (4,⟨0x26001cfc44c444426001cfc00c04002e20200064422222202e02222202e00026001cfc44c44426001cfc00c00026001cfc00c00026001cfc00c00026001cfc004426001cfc00c00026001cfc00402e2020026006c4c400c4002200260064422222202e00022202e000282000064402640264022002012222,[(90,[.keep [6,7,10,11,12,14,17,87,93] [4,5,6,7,9]]),(100,[.keep [6,7,10,11,12,14,17,95,103] [4,5,6,7,9]]),(108,[.keep [6,7,11,12,14,105,111] [4,5,6,7,9]]),(118,[.keep [6,7,11,12,14,113,121] [4,5,6,7,9]]),(128,[.keep [6,7,11,12,14,123,131] [4,5,6,7,9]]),(138,[.keep [6,7,11,12,14,133,141] [4,5,6,7,9]]),(148,[.keep [143,151] []]),(191,[.keep [6,7,10,11,12,14,18,20,23,38,60,172,179,188] [4,5,6,7,9]]),(202,[.keep [10,12,14,23,38,60,172,190,199] [4,5,9]])],[(40,[.keep [6,7,10,11,12,14,16,17] [4,5,6,7,9]],[])]⟩)]
namespace trace_events_c1
def zL:List RO:=[o1 20 (.s 18) [],o2 21 (ix 5) [.s 16,.s 18] [],o2 22 (lD 5) [.s 21] [21],o2 6 (.a (.alloc 5 [.int .i64 0,.int .i64 0,.int .i64 0,.int .i64 0,.bM])) [] [],o1 5 (.s 20) [20],oz (.l (.store 5)) [.s 6,.s 22] [22]]
def xw:List RO:=[o1 23 (.s 0) [],o1 24 (.s 3) [],o1 25 (.s 5) [5],o2 26 (bI .add) [.s 25,.k (.int .i64 1)] [25],o2 27 (.p (.build [.int .i64 0,.int .i64 0] [(0,1),(1,1)])) [.s 24,.s 26] [24,26],o2 28 (lD 5) [.s 6] [6],
 o2 29 .c [.s 23,.s 27,.s 28] [23,27,28],o2 30 (.p .not) [.s 29] [29]]
def uK:List RO:=[o2 31 (bI .add) [.s 18,.k (.int .i64 1)] [],o1 18 (.s 31) [31]]
def Dn:RC:=.hg (.seq (.ops [o2 19 (bI .lss) [.s 18,.s 17] []]) (.seq (.cond (.s 19) .skip (.exit 2)) (.seq (.block 3 (.seq (.ops zL) (.seq (.ops xw) (.cond (.s 30) .ret .skip)))) (.ops uK)))) (.keep [0,3,8,9,10,16,17,18] [])
def Hi:List RO:=[o1 12 (.s 10) [],o2 13 (ix 3) [.s 8,.s 10] [],o2 14 (lD 3) [.s 13] [13],o2 4 (.a (.alloc 3 [.str ByteArray.empty,.bM,.bM])) [] [],o1 3 (.s 12) [12],oz (.l (.store 3)) [.s 4,.s 14] [14]]
def FQ:List RO:=[o2 15 (fa 2) [.s 4] [],o2 16 (ld 1) [.s 15] [15],o2 17 ln [.s 16] [],o1 18 (.k (.int .i64 0)) []]
def CJ:List RO:=[o2 32 (bI .add) [.s 10,.k (.int .i64 1)] [],o1 10 (.s 32) [32]]
def U2:RC:=.block 2 (.gh (.keep [0,3,8,9,10,16,17,18] []) (.loop Dn))
def La:RC:=.hg (.seq (.ops [o2 11 (bI .lss) [.s 10,.s 9] []]) (.seq (.cond (.s 11) .skip (.exit 0)) (.seq (.block 1 (.seq (.ops Hi) (.seq (.ops FQ) U2))) (.ops CJ)))) (.keep [0,8,9,10] [])
def Qa:List RO:=[o2 7 (fa 0) [.s 1] [1],o2 8 (ld 1) [.s 7] [7],o2 9 ln [.s 8] [],o1 10 (.k (.int .i64 0)) []]
def U1:RC:=.block 0 (.gh (.keep [0,8,9,10] []) (.loop La))
def text:RF:=⟨33,[],.seq (.ops Qa) U1⟩
section
variable {S:Sys}
abbrev I1 (ps:Sl bS) (i:Int) (u:List (List V)) (more:Bool) (y:Nat):St:=⟨[(0,.yl y),Cv 8 ps,Iv 9 (len ps),Iv 10 i],[],[],u,more,y⟩
abbrev I2 (ps:Sl bS) (i:Int) (es:Sl Event) (j:Int) (u:List (List V)) (more:Bool) (y:Nat):St:=⟨[(0,.yl y),Iv 3 i,Cv 8 ps,Iv 9 (len ps),Iv 10 i,Cv 16 es,Iv 17 (len es),Iv 18 j],[],[],u,more,y⟩
abbrev S2 (ps:Sl bS) (i:Int) (es:Sl Event) (j:Int) (b:Bool) (u:List (List V)) (more:Bool) (y:Nat):St:=⟨[(0,.yl y),Iv 3 i,Cv 8 ps,Iv 9 (len ps),Iv 10 i,Cv 16 es,Iv 17 (len es),Iv 18 j,Bv 19 b],[],[],u,more,y⟩
theorem Qp (ps:Sl bS) (i:Int) (es:Sl Event) (j:Int) (u:List (List V)) (more:Bool) (y:Nat) (z:decide (j<len es)=false) :
 rn S.bare lZ some (.rc Dn) [] (I2 ps i es j u more y)=some (.exit 2,S2 ps i es j false u more y):=by
 refine Le.get ?_;refine Kf (n:=7) (fo':=.rc (.cond (.s 19) .skip (.exit 2))) (fs':=[.seq (.seq (.block 3 (.seq (.ops zL) (.seq (.ops xw) (.cond (.s 30) .ret .skip)))) (.ops uK)),.gst (.keep [0,3,8,9,10,16,17,18] [])]) (λb=>S2 ps i es j b u more y) z Ze ?_
 exact Le.of_eq Ze
theorem Ro (ps:Sl bS) (i:Int) (es:Sl Event) (j:Int) (e:Event) (u:List (List V)) (more:Bool) (y:Nat) (B:decide (j<len es)=true) (z:idx es j=some e) (D:(!(more || !u.isEmpty))=false) :
 rn S.bare lZ some (.rc Dn) [] (I2 ps i es j ([enc (⟨i,IntKind.wrap .i64 (j+1)⟩:aZ),enc e]::u) more y)=some (.norm,I2 ps i es (IntKind.wrap .i64 (j+1)) u more y):=by
 refine Le.get ?_;refine Kt (n:=7) (fo':=.rc (.cond (.s 19) .skip (.exit 2))) (fs':=[.seq (.seq (.block 3 (.seq (.ops zL) (.seq (.ops xw) (.cond (.s 30) .ret .skip)))) (.ops uK)),.gst (.keep [0,3,8,9,10,16,17,18] [])]) (λb=>S2 ps i es j b ([enc (⟨i,IntKind.wrap .i64 (j+1)⟩:aZ),enc e]::u) more y) B Ze ?_
 refine Na z ?_;refine My 8 false [] (zL.drop 1) [.seq (.seq (.ops xw) (.cond (.s 30) .ret .skip)),.blk 3,.seq (.ops uK),.gst (.keep [0,3,8,9,10,16,17,18] [])] ⟨[(0,.yl y),Iv 3 i,Cv 8 ps,Iv 9 (len ps),Iv 10 i,Cv 16 es,Iv 17 (len es),Iv 18 j,Bv 19 true,Iv 20 j],[],[],([enc (⟨i,IntKind.wrap .i64 (j+1)⟩:aZ),enc e]::u),more,y⟩ .i64 rfl Ze λx h1=>?_
 obtain rfl:x=e:=by rw[z]at h1;cases h1;rfl
 refine Qc 1 false [] (zL.drop 3) [.seq (.seq (.ops xw) (.cond (.s 30) .ret .skip)),.blk 3,.seq (.ops uK),.gst (.keep [0,3,8,9,10,16,17,18] [])] ⟨[(0,.yl y),Iv 3 i,Cv 8 ps,Iv 9 (len ps),Iv 10 i,Cv 16 es,Iv 17 (len es),Iv 18 j,Bv 19 true,Iv 20 j,Cv 22 x],[],[],([enc (⟨i,IntKind.wrap .i64 (j+1)⟩:aZ),enc x]::u),more,y⟩ [iv 0,iv 0,iv 0,iv 0,.v .bM] rfl (by simp only[dz,vE,oy,qb,oC,p_,qZ,pY,ru,oe,qc,vI,rA,qQ,qL,ri,tN,tP,p9,qU,SV.cG];rfl) Ze ?_
 refine Ast 1 false [] (zL.drop 5) [.seq (.seq (.ops xw) (.cond (.s 30) .ret .skip)),.blk 3,.seq (.ops uK),.gst (.keep [0,3,8,9,10,16,17,18] [])] ⟨[(0,.yl y),Iv 3 i,Cv 8 ps,Iv 9 (len ps),Iv 10 i,Cv 16 es,Iv 17 (len es),Iv 18 j,Bv 19 true,Cv 22 x,Pv 6,Iv 5 j],[Xb 6 (⟨0,0,0,0,.nil⟩:Event)],[],([enc (⟨i,IntKind.wrap .i64 (j+1)⟩:aZ),enc x]::u),more,y⟩ 6 0 x [iv 0,iv 0,iv 0,iv 0,.v .bM] ((cells x).map .v) rfl Ze ?_
 refine SF (n:=10) (q:=xw.drop 6) (fs':=[.seq (.cond (.s 30) .ret .skip),.blk 3,.seq (.ops uK),.gst (.keep [0,3,8,9,10,16,17,18] [])]) (st:=⟨[(0,.yl y),Iv 3 i,Cv 8 ps,Iv 9 (len ps),Iv 10 i,Cv 16 es,Iv 17 (len es),Iv 18 j,Bv 19 true,(23,.yl y),Cv 27 (⟨i,IntKind.wrap .i64 (j+1)⟩:aZ),Cv 28 x],[Xb 6 x],[],([enc (⟨i,IntKind.wrap .i64 (j+1)⟩:aZ),enc x]::u),more,y⟩) (vs:=[cv (⟨i,IntKind.wrap .i64 (j+1)⟩:aZ),cv x]) Ze rfl Ze Ze rfl rfl ?_
 refine Kf (n:=3) (fo':=.rc (.cond (.s 30) .ret .skip)) (fs':=[.blk 3,.seq (.ops uK),.gst (.keep [0,3,8,9,10,16,17,18] [])]) (λb=>⟨[(0,.yl y),Iv 3 i,Cv 8 ps,Iv 9 (len ps),Iv 10 i,Cv 16 es,Iv 17 (len es),Iv 18 j,Bv 19 true,Bv 30 b],[Xb 6 x],[],u,more,y⟩) D Ze ?_
 exact Le.of_eq Ze
theorem O8 (ps:Sl bS) (i:Int) (es:Sl Event) (j:Int) (e:Event) (u:List (List V)) (more:Bool) (y:Nat) (B:decide (j<len es)=true) (z:idx es j=some e) (D:(!(more || !u.isEmpty))=true) :
 rn S.bare lZ some (.rc Dn) [] (I2 ps i es j ([enc (⟨i,IntKind.wrap .i64 (j+1)⟩:aZ),enc e]::u) more y)=some (.ret,⟨[(0,.yl y),Iv 3 i,Cv 8 ps,Iv 9 (len ps),Iv 10 i,Cv 16 es,Iv 17 (len es),Iv 18 j,Bv 19 true,Bv 30 true],[Xb 6 e],[],u,more,y⟩):=by
 refine Le.get ?_;refine Kt (n:=7) (fo':=.rc (.cond (.s 19) .skip (.exit 2))) (fs':=[.seq (.seq (.block 3 (.seq (.ops zL) (.seq (.ops xw) (.cond (.s 30) .ret .skip)))) (.ops uK)),.gst (.keep [0,3,8,9,10,16,17,18] [])]) (λb=>S2 ps i es j b ([enc (⟨i,IntKind.wrap .i64 (j+1)⟩:aZ),enc e]::u) more y) B Ze ?_
 refine Na z ?_;refine My 8 false [] (zL.drop 1) [.seq (.seq (.ops xw) (.cond (.s 30) .ret .skip)),.blk 3,.seq (.ops uK),.gst (.keep [0,3,8,9,10,16,17,18] [])] ⟨[(0,.yl y),Iv 3 i,Cv 8 ps,Iv 9 (len ps),Iv 10 i,Cv 16 es,Iv 17 (len es),Iv 18 j,Bv 19 true,Iv 20 j],[],[],([enc (⟨i,IntKind.wrap .i64 (j+1)⟩:aZ),enc e]::u),more,y⟩ .i64 rfl Ze λx h1=>?_
 obtain rfl:x=e:=by rw[z]at h1;cases h1;rfl
 refine Qc 1 false [] (zL.drop 3) [.seq (.seq (.ops xw) (.cond (.s 30) .ret .skip)),.blk 3,.seq (.ops uK),.gst (.keep [0,3,8,9,10,16,17,18] [])] ⟨[(0,.yl y),Iv 3 i,Cv 8 ps,Iv 9 (len ps),Iv 10 i,Cv 16 es,Iv 17 (len es),Iv 18 j,Bv 19 true,Iv 20 j,Cv 22 x],[],[],([enc (⟨i,IntKind.wrap .i64 (j+1)⟩:aZ),enc x]::u),more,y⟩ [iv 0,iv 0,iv 0,iv 0,.v .bM] rfl (by simp only[dz,vE,oy,qb,oC,p_,qZ,pY,ru,oe,qc,vI,rA,qQ,qL,ri,tN,tP,p9,qU,SV.cG];rfl) Ze ?_
 refine Ast 1 false [] (zL.drop 5) [.seq (.seq (.ops xw) (.cond (.s 30) .ret .skip)),.blk 3,.seq (.ops uK),.gst (.keep [0,3,8,9,10,16,17,18] [])] ⟨[(0,.yl y),Iv 3 i,Cv 8 ps,Iv 9 (len ps),Iv 10 i,Cv 16 es,Iv 17 (len es),Iv 18 j,Bv 19 true,Cv 22 x,Pv 6,Iv 5 j],[Xb 6 (⟨0,0,0,0,.nil⟩:Event)],[],([enc (⟨i,IntKind.wrap .i64 (j+1)⟩:aZ),enc x]::u),more,y⟩ 6 0 x [iv 0,iv 0,iv 0,iv 0,.v .bM] ((cells x).map .v) rfl Ze ?_
 refine SF (n:=10) (q:=xw.drop 6) (fs':=[.seq (.cond (.s 30) .ret .skip),.blk 3,.seq (.ops uK),.gst (.keep [0,3,8,9,10,16,17,18] [])]) (st:=⟨[(0,.yl y),Iv 3 i,Cv 8 ps,Iv 9 (len ps),Iv 10 i,Cv 16 es,Iv 17 (len es),Iv 18 j,Bv 19 true,(23,.yl y),Cv 27 (⟨i,IntKind.wrap .i64 (j+1)⟩:aZ),Cv 28 x],[Xb 6 x],[],([enc (⟨i,IntKind.wrap .i64 (j+1)⟩:aZ),enc x]::u),more,y⟩) (vs:=[cv (⟨i,IntKind.wrap .i64 (j+1)⟩:aZ),cv x]) Ze rfl Ze Ze rfl rfl ?_
 refine Kt (n:=3) (fo':=.rc (.cond (.s 30) .ret .skip)) (fs':=[.blk 3,.seq (.ops uK),.gst (.keep [0,3,8,9,10,16,17,18] [])]) (λb=>⟨[(0,.yl y),Iv 3 i,Cv 8 ps,Iv 9 (len ps),Iv 10 i,Cv 16 es,Iv 17 (len es),Iv 18 j,Bv 19 true,Bv 30 b],[Xb 6 x],[],u,more,y⟩) D Ze ?_
 exact Le.of_eq Ze
abbrev S1 (ps:Sl bS) (i:Int) (b:Bool) (u:List (List V)) (more:Bool) (y:Nat):St:=⟨[(0,.yl y),Cv 8 ps,Iv 9 (len ps),Iv 10 i,Bv 11 b],[],[],u,more,y⟩
theorem Q2 (ps:Sl bS) (i:Int) (u:List (List V)) (more:Bool) (y:Nat) (z:decide (i<len ps)=false) :
 rn S.bare lZ some (.rc La) [] (I1 ps i u more y)=some (.exit 0,S1 ps i false u more y):=by
 refine Le.get ?_;refine Kf (n:=7) (fo':=.rc (.cond (.s 11) .skip (.exit 0))) (fs':=[.seq (.seq (.block 1 (.seq (.ops Hi) (.seq (.ops FQ) U2))) (.ops CJ)),.gst (.keep [0,8,9,10] [])]) (λb=>S1 ps i b u more y) z Ze ?_
 exact Le.of_eq Ze
def NJ:List Fm:=[.blk 2,.blk 1,.seq (.ops CJ),.gst (.keep [0,8,9,10] [])]
theorem N7 (ps:Sl bS) (i:Int) (p:bS) (u:List (List V)) (more:Bool) (y:Nat) (r:Out×St) (B:decide (i<len ps)=true) (z:idx ps i=some p)
 (h:rn S.bare lZ some (.rc (.loop Dn)) NJ (I2 ps i p.events 0 u more y)=some r):rn S.bare lZ some (.rc La) [] (I1 ps i u more y)=some r:=by
 refine Le.get ?_;refine Kt (n:=7) (fo':=.rc (.cond (.s 11) .skip (.exit 0))) (fs':=[.seq (.seq (.block 1 (.seq (.ops Hi) (.seq (.ops FQ) U2))) (.ops CJ)),.gst (.keep [0,8,9,10] [])]) (λb=>S1 ps i b u more y) B Ze ?_
 refine Na z ?_;refine My 8 false [] (Hi.drop 1) [.seq (.seq (.ops FQ) U2),.blk 1,.seq (.ops CJ),.gst (.keep [0,8,9,10] [])] ⟨[(0,.yl y),Cv 8 ps,Iv 9 (len ps),Iv 10 i,Bv 11 true,Iv 12 i],[],[],u,more,y⟩ .i64 rfl Ze λx h1=>?_
 obtain rfl:x=p:=by rw[z]at h1;cases h1;rfl
 refine Qc 1 false [] (Hi.drop 3) [.seq (.seq (.ops FQ) U2),.blk 1,.seq (.ops CJ),.gst (.keep [0,8,9,10] [])] ⟨[(0,.yl y),Cv 8 ps,Iv 9 (len ps),Iv 10 i,Bv 11 true,Iv 12 i,Cv 14 x],[],[],u,more,y⟩ [.v (.str ByteArray.empty),.v .bM,.v .bM] rfl (by simp only[dz,vE,oy,qb,oC,p_,qZ,pY,ru,oe,qc,vI,rA,qQ,qL,ri,tN,tP,p9,qU,SV.cG];rfl) Ze ?_
 refine Ast 1 false [] (Hi.drop 5) [.seq (.seq (.ops FQ) U2),.blk 1,.seq (.ops CJ),.gst (.keep [0,8,9,10] [])] ⟨[(0,.yl y),Cv 8 ps,Iv 9 (len ps),Iv 10 i,Bv 11 true,Cv 14 x,Pv 4,Iv 3 i],[Xb 4 (⟨ByteArray.empty,.nil,.nil⟩:bS)],[],u,more,y⟩ 4 0 x [.v (.str ByteArray.empty),.v .bM,.v .bM] ((cells x).map .v) rfl Ze ?_
 refine P3 6 false [] (FQ.drop 2) [.seq U2,.blk 1,.seq (.ops CJ),.gst (.keep [0,8,9,10] [])] ⟨[(0,.yl y),Cv 8 ps,Iv 9 (len ps),Iv 10 i,Bv 11 true,Pv 4,Iv 3 i,Cv 16 x.events],[Xb 4 x],[],u,more,y⟩ x.events rfl Ze ?_
 refine yg (n:=5) (fo':=.rc (.loop Dn)) (fs':=NJ) (st':=I2 ps i x.events 0 u more y) Ze (Le.of_eq h)
theorem OR (ps:Sl bS) (i:Int) (es:Sl Event) (j:Int) (u:List (List V)) (more:Bool) (y:Nat) :
 rn S.bare lZ some (.ex 2) NJ (S2 ps i es j false u more y)=some (.norm,I1 ps (IntKind.wrap .i64 (i+1)) u more y):=by kernel_rfl
theorem wrap_small (n:Nat) (h:n<9223372036854775807):IntKind.wrap .i64 ((n:Int)+1)=((n+1:Nat):Int):=by
 simp[IntKind.wrap,IntKind.bits,IntKind.signed];omega
abbrev eI (x:aZ×Event):List V:=[enc x.1,enc x.2]
theorem sL.step {x:List V} {B rest:List (List V)} {more:Bool} (h:sL B (x::rest) more):∃u,B=x::u/\((!(more || !u.isEmpty))=false/\sL u rest more\/(!(more || !u.isEmpty))=true/\u=[]):=by
 rcases h with⟨rfl,rfl⟩|⟨rfl,C,r,hr⟩
 .exact⟨rest,rfl,.inl ⟨rfl,.inl ⟨rfl,rfl⟩⟩⟩
 cases B with
 | nil=>exact absurd rfl C
 | cons w B=>
  simp only[List.cons_append,List.cons.injEq]at hr;obtain⟨rfl,rfl⟩:=hr;refine⟨B,rfl,?_⟩
  cases B with
  | nil=>exact .inr ⟨rfl,rfl⟩
  | cons z D=>exact .inl ⟨rfl,.inr ⟨rfl,by simp,r,rfl⟩⟩
theorem rz {α:Type} {s:Sl α} {j:Nat} {x:α} {r:List α} (h:s.l.drop j=x::r):idx s (j:Int)=some x/\decide ((j:Int)<len s)=true/\s.l.drop (j+1)=r:=by
 have h1:j<s.l.length:=by
  apply Classical.byContradiction;intro w;rw[List.drop_eq_nil_of_le Za]at h;cases h
 have u:=List.drop_eq_getElem_cons h1;rw[u]at h;simp only[List.cons.injEq]at h;refine⟨?_,by simp[len,h1],h.2⟩
 unfold idx;rw[if_pos Za]
 simp[ζd h1,h.1]
variable {Q:Out×St->Option (Out×St)} {fs:List Fm}
theorem inner (ps:Sl bS) (i:Int) (es:Sl Event) (T:es.l.length<9223372036854775807) (more:Bool) (y:Nat) (R:List (List V)):∀(rem:List Event) (j:Nat),es.l.drop j=rem->∀z,sL z ((js i j rem).map eI++R) more ->
 (∃(u:List (List V)) (U:Int),sL u R more/\rn S.bare lZ Q (.rc (.loop Dn)) fs (I2 ps i es j z more y)=rn S.bare lZ Q (.ex 2) fs (S2 ps i es U false u more y)) \/
 (∃st':St,st'.want=[]/\rn S.bare lZ Q (.rc (.loop Dn)) fs (I2 ps i es j z more y)=Q (.ret,st'))
 | [],j,hd,z,D=>by
  have h1:decide ((j:Int)<len es)=false:=by
   have:es.l.length<=j:=by simpa using hd
   simp[len];omega
  exact .inl ⟨z,j,by simpa [js]using D,Dk (Qp ps i es j z more y h1)⟩
 | e::rem,j,hd,z,D=>by
  obtain⟨h1,C,W⟩:=rz hd;have Y:j<es.l.length:=by simpa [len]using C
  simp only[js,List.map_cons,List.cons_append]at D;obtain⟨u,rfl,w⟩:=sL.step D;have G:=wrap_small j Za
  have B:((j:Int)+1)=IntKind.wrap .i64 ((j:Int)+1):=by rw[G];simp
  rcases w with⟨w,I⟩|⟨w,rfl⟩
  .have k:=Ro (S:=S) ps i es j e u more y C h1 w;rw[<-B]at k;have L:=CV (Q:=Q) (fs:=fs) k;have O:=inner ps i es T more y R rem (j+1) W u (by push_cast;exact I)
   rw[show ((j+1:Nat):Int)=(j:Int)+1 from rfl]at O;rcases O with⟨J,X,g1,g2⟩|⟨st',g1,g2⟩
   .exact .inl ⟨J,X,g1,L.trans g2⟩
   exact .inr ⟨st',g1,L.trans g2⟩
  have k:=O8 (S:=S) ps i es j e [] more y C h1 w;rw[<-B]at k;exact .inr ⟨_,by rfl,CA k⟩
theorem outer (ps:Sl bS) (G:ps.l.length<9223372036854775807) (z:∀p∈ps.l,p.events.l.length<9223372036854775807) (more:Bool) (y:Nat):∀(rem:List bS) (i:Nat),ps.l.drop i=rem->∀u,sL u ((fN i rem).map eI) more ->
 rn S.bare lZ Qi (.rc (.loop La)) [.blk 0] (I1 ps i u more y)=some ()
 | [],i,hd,u,B=>by
  have h1:decide ((i:Int)<len ps)=false:=by
   have:ps.l.length<=i:=by simpa using hd
   simp[len];omega
  rw[Dk (Q2 ps i u more y h1)];have:u=[]:=by
   rcases B with⟨_,rfl⟩|⟨_,I,r,hr⟩
   .rfl
   have:u=[]:=by cases u with
    | nil=>rfl
    | cons=>simp[fN]at hr
   exact absurd this I
  subst this;rfl
 | p::rem,i,hd,u,B=>by
  obtain⟨h1,w,J⟩:=rz hd;have hi:i<ps.l.length:=by simpa [len]using w
  have L:p∈ps.l:=List.mem_of_mem_drop (i:=i) (by rw[hd];exact List.mem_cons_self ..)
  simp only[fN,List.map_append]at B;have C:=wrap_small i Za
  rcases inner (S:=S) (Q:=some) (fs:=NJ) ps i p.events (z p L) more y _ p.events.l 0 rfl u B with⟨D,O,g1,g2⟩|⟨st',g1,g2⟩
  .rw[OR,C]at g2;rw[CV (N7 ps i p u more y _ w h1 g2)];exact outer ps G z more y rem (i+1) J D g1
  rw[CA (N7 ps i p u more y _ w h1 g2)];simp[Qi,g1]
theorem all (t:Trace) (u:List (aZ×Event)) (h:gZ t=some u) (z:List (List V)) (more:Bool) (B:sL z (u.map eI) more) (y:Nat) :
 rn S.bare lZ Qi (.rc text.body) [] ⟨sS 0 (([]:List V).map .v++.yl y::[V.fptr (cells t)].map .v),[],[],z,more,y⟩=some ():=by
 unfold gZ at h;split at h
 .rename_i hk;cases h;simp only[ζh,List.all_eq_true,mJ,decide_eq_true_eq]at hk;refine Le.get ?_;refine P3 4 false [] (Qa.drop 2) [.seq U1] ⟨[(0,.yl y),Cv 8 t.procs],[],[],z,more,y⟩ t.procs rfl Ze ?_
  refine yg (n:=5) (fo':=.rc (.loop La)) (fs':=[.blk 0]) (st':=I1 t.procs 0 z more y) Ze (Le.of_eq ?_)
  exact outer t.procs hk.1 hk.2 more y t.procs.l 0 rfl z B
 cases h
end
theorem tI {α:Type} [bt α] {a b:Sl α} (h:b_ a=b_ b):rows a.l=rows b.l:=by
 cases a <;> cases b <;> first|rfl|(simp only[b_,Sl.k,mD,V.fsl.injEq,true_and,reduceCtorEq]at h;done)|(simp only[b_,Sl.k,mD,V.fsl.injEq,true_and,reduceCtorEq]at h;exact h)
theorem uc (p:Int):∀(es u:List Event) (j:Int),rows es=rows u->(js p j es).map eI=(js p j u).map eI
 | [],[],_,_=>rfl
 | [],_::_,_,h=>by simp[rows]at h
 | _::_,[],_,h=>by simp[rows]at h
 | e::es,z::u,j,h=>by
  simp only[rows,List.map_cons,List.cons.injEq]at h;have h1:enc e=enc z:=by show V.agg (cells e)=V.agg (cells z);rw[h.1]
  simp only[js,List.map_cons,eI,h1,uc p es u (j+1) h.2]
theorem AR:∀(ps u:List bS) (i:Int),rows ps=rows u->(fN i ps).map eI=(fN i u).map eI
 | [],[],_,_=>rfl
 | [],_::_,_,h=>by simp[rows]at h
 | _::_,[],_,h=>by simp[rows]at h
 | p::ps,p'::u,i,h=>by
  simp only[rows,List.map_cons,List.cons.injEq]at h;have h1:b_ p.events=b_ p'.events:=by
   have:=h.1;change [V.str p.name,b_ p.vars,b_ p.events]=[V.str p'.name,b_ p'.vars,b_ p'.events]at this;simp only[List.cons.injEq]at this;exact this.2.2.1
  simp only[fN,List.map_append,uc i _ _ 0 (tI h1),AR ps u (i+1) h.2]
def tn (f:FuncId) (g:FuncId) (a b:List V) (xs:List (List V)):Prop:=∃(t:Trace) (u:List (aZ×Event)),g=f/\a=[]/\b=[.fptr (cells t)]/\gZ t=some u/\xs=u.map eI
theorem tn.uniq {f g:FuncId} {a b:List V} {xs ys:List (List V)} (h:tn f g a b xs) (k:tn f g a b ys):xs=ys:=by
 obtain⟨t,C,rfl,rfl,rfl,h1,rfl⟩:=h;obtain⟨z,B,_,_,w,u,rfl⟩:=k;simp only[List.cons.injEq,V.fptr.injEq,and_true]at w;have D:b_ t.procs=b_ z.procs:=by
  change [b_ t.procs]=[b_ z.procs]at w;simpa using w
 unfold gZ at h1 u;split at h1 <;> split at u <;> simp only[ζa,reduceCtorEq]at h1 u;subst h1 u;exact AR _ _ 0 (tI D)
end trace_events_c1
end Go.VE
namespace Go.VE
open Go.Proofs.YtlmckmkfopljoaaGreatDoor
noncomputable section
noncomputable def DK (f:FuncId):Option GZ:=none
noncomputable def Sb:Sys:=⟨E,λn=>n,λ_ _ _=>none,vJ E,DK⟩
theorem Es:∀f q,DK f=some q->nS E f q:=by
 intro f q h;unfold DK at h;cases h
def Tx:oQ:=Mn E some (lk I6)
abbrev cB:bN:=dI Sb Tx
theorem QF:uI Sb Tx where
 fn f rf h:=let ⟨u,h1,w⟩:=z7 h;⟨u,some,h1,zp,w⟩
 xq f z y h:=C6 h
 prm:=Es
theorem KY:∀f a b xs,Sb.items f a b=some xs->eR Sb f a b xs:=λf a b xs h=>by cases h
end
end Go.VE
namespace Go.VE
noncomputable section
namespace IB
def fU (s0:Sl Int):Option (Sl Int):=
 (Sl.isNil s0).bind λu=>
 bn u
 (some Sl.nil)
 ((wO (Sl.row []:Sl Int) s0).bind λw=>
 some w)
theorem mg:Aw Sb cB 168 (λs0:Sl Int=>[enc s0]) (λz=>fU z):=Aw.mk' (oO (Tx 168)) (λs0=>QO 9 λu _=>bG 2 4 bh (Kw 7 5 7 λw _=>bh))
namespace bY
def kN (W:Int) (J:Sl Event) (T U:Int) (B:Sl Assign) (D:Int) (Y:List (List V)) (u:Sl Int) (z:Int) (more:Bool):Option (Fw ((Sl Int)×Int) (Sl Int) Empty):=
 bn (decide (z<D))
 ((idx B z).bind λw=>
 (Sl.xh u w.var).bind λC=>
 (Sl.put u C (w.value:Int)).bind λG=>
 some (.n (G,IntKind.wrap .i64 (z+1))))
 (some (.x u))
def W3 (z:Sl Int) (W:Int) (G:Sl Event) (B D:Int) (J:Sl Assign) (T U:Int) (Y:List (List V)) (more:Bool):Option (Fw ((Sl Int)×Int×Int×(List (List V))) (List (List V)) (List (List V))):=
 (c_ (λq:(Sl Int)×Int=>kN W G B D J T Y q.1 q.2 more) (z,U)).bind (Fw.elim
 (λe=>((fU e).bind Sl.whole).bind λw=>
 (yl Y more [.int .i64 (IntKind.wrap .i64 (W+1)),enc w]).bind λu=>
 bn u.1
 (some (.n (e,B,IntKind.wrap .i64 (D+1),u.2)))
 (some (.r u.2)))
 (λe=>Empty.elim e))
def dL (z:Sl Event) (B:Sl Int) (D u:Int) (G:List (List V)) (more:Bool):Option (Fw ((Sl Int)×Int×Int×(List (List V))) (List (List V)) (List (List V))):=
 bn (decide (u<D))
 ((idx z u).bind λw=>
 W3 B u z D u w.assign (len w.assign) 0 G more)
 (some (.x G))
def W2 (u:Sl Int) (z:Sl Event) (B D:Int) (G:List (List V)) (more:Bool):Option (List (List V)):=
 (c_ (λq:(Sl Int)×Int×Int×(List (List V))=>dL z q.1 q.2.1 q.2.2.1 q.2.2.2 more) (u,B,D,G)).bind (Fw.elim
 (λe=>some e)
 (λe=>some e))
def cr (G:bS) (B:Sl Var) (D:Int) (J:List (List V)) (u:Sl Int) (z:Int) (more:Bool):Option (Fw ((Sl Int)×Int) (Sl Int) Empty):=
 bn (decide (z<D))
 ((idx B z).bind λw=>
 (je u (w.init_:Int)).bind λC=>
 some (.n (C,IntKind.wrap .i64 (z+1))))
 (some (.x u))
def W1 (z:bS) (B:Sl Int) (D:Sl Var) (G J:Int) (T:List (List V)) (more:Bool):Option (List (List V)):=
 (c_ (λq:(Sl Int)×Int=>cr z D G T q.1 q.2 more) (B,J)).bind (Fw.elim
 (λe=>((fU e).bind Sl.whole).bind λw=>
 (yl T more [.int .i64 0,enc w]).bind λu=>
 bn u.1
 (bY.W2 e z.events (len z.events) 0 u.2 more)
 (some u.2))
 (λe=>Empty.elim e))
end bY
def bY (z:List (List V)) (u:bS) (more:Bool):Option (List (List V)):=
 bY.W1 u (Sl.nil:Sl Int) u.vars (len u.vars) 0 z more
open bY in
theorem vK (more:Bool) (y:Nat) (J:List (List V)) (z:bS):Le ((bY J z more).bind λr=>some r) (b7 Sb cB Qw (.rc (tb Tx 179),[],⟨sS 0 (.yl y::[V.fptr (cells z)].map .v),[],[],J,more,y⟩)):=
 dP 10 z.vars (qu 6 (λC=>⟨[(0,.yl y),Kv 1 z,Ov 3,Cv 11 z.vars,Iv 12 (len z.vars),Iv 13 C.2],[Lb 2003 C.1],[],J,more,y⟩) (λD=>(0,⟨[(0,.yl y),Kv 1 z,Ov 3],[Lb 2003 D],[],J,more,y⟩)) (λC=>bG 8 14 (cZ 7 λT _=>AL 10 2003 20 21 λU _=>bh) bh) (λD=>NQ 7 25 mg D λL _=>Sz 1 [.int .i64 0,enc L] λS _=>eB 3 27 (dP 7 z.events (jP 6 (λu=>⟨[(0,.yl y),Ov 3,Cv 29 z.events,Iv 30 u.2.1,Iv 31 u.2.2.1],[Lb 2003 u.1],[],u.2.2.2,more,y⟩) (λw=>(2,⟨[],[],[],w,more,y⟩)) (λw=>⟨[],[],[],w,more,y⟩) (λu=>bG 8 32 (cZ 8 λB _=>qI 3 7 0 B (dP 7 B.assign (qu 6 (λG=>⟨[(0,.yl y),Ov 3,Iv 6 u.2.2.1,Cv 29 z.events,Iv 30 u.2.1,Iv 31 u.2.2.1,Cv 37 B.assign,Iv 38 (len B.assign),Iv 39 G.2],[Lb 2003 G.1],[],u.2.2.2,more,y⟩) (λI=>(4,⟨[(0,.yl y),Ov 3,Iv 6 u.2.2.1,Cv 29 z.events,Iv 30 u.2.1,Iv 31 u.2.2.1],[Lb 2003 I],[],u.2.2.2,more,y⟩)) (λG=>bG 8 40 (cZ 7 λO _=>Qv .i64 11 2003 λW _=>SO 0 2003 (.int .i64 O.value) λX _=>bh) bh) (λI=>NQ 8 54 mg I λQ _=>Sz 1 [.int .i64 (IntKind.wrap .i64 (u.2.2.1+1)),enc Q] λY _=>eB 3 56 bh bh)))) bh) (λw=>bh) (λw=>bh))) bh))
end IB
end
end Go.VE
namespace Go.VE
open IB
def tc:List Assign->Sl Int->Option (Sl Int)
 | [],s=>some s
 | a::r,s=>(Sl.xh s a.var).bind λj=>(Sl.put s j a.value).bind (tc r)
def tD:List Var->Sl Int->Option (Sl Int)
 | [],s=>some s
 | v::r,s=>(je s v.init_).bind (tD r)
def HY (s:Sl Int):Option (Sl Int):=(fU s).bind Sl.whole
def ta:Int->List Event->Sl Int->Option (List (Int×Sl Int))
 | _,[],_=>some []
 | k,e::r,s=>(tc e.assign.l s).bind λn=>(HY n).bind λc=>(ta (k+1) r n).map ((k+1,c)::·)
def gX (p:bS):Option (List (Int×Sl Int)):=
 if mJ p.vars.l.length&&(mJ p.events.l.length&&p.events.l.all λe=>mJ e.assign.l.length)then
  (tD p.vars.l .nil).bind λs=>(HY s).bind λc=>(ta 0 p.events.l s).map ((0,c)::·)
 else none
namespace IST
abbrev eI (x:Int×Sl Int):List V:=[enc x.1,enc x.2]
theorem An {n:Nat} (h:mJ n=true):n<9223372036854775807:=by simpa [mJ]using h
theorem wrap_small (n:Nat) (h:n<9223372036854775807):IntKind.wrap .i64 ((n:Int)+1)=((n+1:Nat):Int):=by
 simp[IntKind.wrap,IntKind.bits,IntKind.signed];omega
theorem rz {α:Type} {s:Sl α} {j:Nat} {x:α} {r:List α} (h:s.l.drop j=x::r):idx s (j:Int)=some x/\decide ((j:Int)<len s)=true/\s.l.drop (j+1)=r:=by
 have h1:j<s.l.length:=by
  apply Classical.byContradiction;intro w;rw[List.drop_eq_nil_of_le Za]at h;cases h
 have u:=List.drop_eq_getElem_cons h1;rw[u]at h;simp only[List.cons.injEq]at h;refine⟨?_,by simp[len,h1],h.2⟩
 unfold idx;rw[if_pos Za]
 simp[ζd h1,h.1]
theorem FU {α:Type} {s:Sl α} {j:Nat} (h:s.l.drop j=[]):decide ((j:Int)<len s)=false:=by
 have:s.l.length<=j:=by simpa using h
 simp[len];omega
theorem Sn (p:bS) (v:Sl Var) (D:v.l.length<9223372036854775807) (z:List (List V)) (more:Bool):∀(rem:List Var) (j:Nat),v.l.drop j=rem->∀s u,tD rem s=some u ->
 c_ (λq:Sl Int×Int=>bY.cr p v (len v) z q.1 q.2 more) (s,(j:Int))=some (.x u)
 | [],j,hd,s,u,h=>by
  cases h;rw[e_];simp only[bY.cr,FU hd,bn,ζb,Bool.false_eq_true,if_false]
 | x::rem,j,hd,s,u,h=>by
  obtain⟨h1,B,G⟩:=rz hd;have C:j<v.l.length:=by simpa [len]using B
  simp only[tD,ζg]at h;obtain⟨n,w,h⟩:=h;rw[e_];simp only[bY.cr,h1,B,w,bn,ζb,if_true,wrap_small j Za]
  exact Sn p v D z more rem (j+1) G n u h
theorem set (k:Int) (es:Sl Event) (a b:Int) (v:Sl Assign) (D:v.l.length<9223372036854775807) (z:List (List V)) (more:Bool):∀(rem:List Assign) (j:Nat),v.l.drop j=rem->∀s u,tc rem s=some u ->
 c_ (λq:Sl Int×Int=>bY.kN k es a b v (len v) z q.1 q.2 more) (s,(j:Int))=some (.x u)
 | [],j,hd,s,u,h=>by
  cases h;rw[e_];simp only[bY.kN,FU hd,bn,ζb,Bool.false_eq_true,if_false]
 | x::rem,j,hd,s,u,h=>by
  obtain⟨h1,B,G⟩:=rz hd;have C:j<v.l.length:=by simpa [len]using B
  simp only[tc,ζg]at h;obtain⟨i,hi,n,w,h⟩:=h;rw[e_];simp only[bY.kN,h1,B,hi,w,bn,ζb,if_true,wrap_small j Za]
  exact set k es a b v D z more rem (j+1) G n u h
theorem sL.step {x:List V} {B rest:List (List V)} {more:Bool} (h:sL B (x::rest) more):∃u,yl B more x=some ((more || !u.isEmpty),u)/\((more || !u.isEmpty)=true/\sL u rest more\/(more || !u.isEmpty)=false/\u=[]):=by
 rcases h with⟨rfl,rfl⟩|⟨rfl,C,r,hr⟩
 .exact⟨rest,by simp[yl],.inl ⟨rfl,.inl ⟨rfl,rfl⟩⟩⟩
 cases B with
 | nil=>exact absurd rfl C
 | cons w B=>
  simp only[List.cons_append,List.cons.injEq]at hr;obtain⟨rfl,rfl⟩:=hr;refine⟨B,by simp[yl],?_⟩
  cases B with
  | nil=>exact .inr ⟨rfl,rfl⟩
  | cons z D=>exact .inl ⟨rfl,.inr ⟨rfl,by simp,r,rfl⟩⟩
theorem eF (es:Sl Event) (U:es.l.length<9223372036854775807) (D:∀e∈es.l,e.assign.l.length<9223372036854775807) (more:Bool):∀(rem:List Event) (j:Nat),es.l.drop j=rem->∀s z,ta (j:Int) rem s=some z->∀B,sL B (z.map eI) more ->
 ∃J:List (List V),J=[]/\(c_ (λq:Sl Int×Int×Int×List (List V)=>bY.dL es q.1 q.2.1 q.2.2.1 q.2.2.2 more) (s,len es,(j:Int),B)=some (.x J)\/c_ (λq:Sl Int×Int×Int×List (List V)=>bY.dL es q.1 q.2.1 q.2.2.1 q.2.2.2 more) (s,len es,(j:Int),B)=some (.r J))
 | [],j,hd,s,z,h,B,T=>by
  cases h;have:B=[]:=by
   rcases T with⟨_,rfl⟩|⟨_,L,r,hr⟩
   .rfl
   cases B with
   | nil=>rfl
   | cons=>simp at hr
  subst this;refine⟨[],rfl,.inl ?_⟩;rw[e_];simp only[bY.dL,FU hd,bn,ζb,Bool.false_eq_true,if_false]
 | e::rem,j,hd,s,z,h,B,T=>by
  obtain⟨h1,I,O⟩:=rz hd;have Z:j<es.l.length:=by simpa [len]using I
  have Q:e∈es.l:=List.mem_of_mem_drop (i:=j) (by rw[hd];exact List.mem_cons_self ..)
  simp only[ta,ζg,ζf]at h;obtain⟨n,L,c,hc,r,hr,rfl⟩:=h;have hc:(fU n).bind Sl.whole=some c:=hc;obtain⟨w,C,S⟩:=sL.step T;have G:=wrap_small j Za
  have C:yl B more [.int .i64 ((j+1:Nat):Int),enc c]=some ((more || !w.isEmpty),w):=C;rw[e_];have u:=set j es (len es) j e.assign (D e Q) B more e.assign.l 0 rfl s n L;rw[show ((0:Nat):Int)=0 from rfl]at u;rcases S with⟨g1,g2⟩|⟨g1,rfl⟩
  .obtain⟨W,X,Y⟩:=eF es U D more rem (j+1) O n r hr w g2;refine⟨W,X,?_⟩;rw[g1]at C;simp only[bY.dL,bY.W3,h1,I,u,hc,C,bn,ζb,if_true,Fw.elim,G];exact Y
  refine⟨[],rfl,.inr ?_⟩;rw[g1]at C;simp only[bY.dL,bY.W3,h1,I,u,hc,G,C,bn,ζb,if_true,if_false,Bool.false_eq_true,Fw.elim]
theorem all (p:bS) (z:List (Int×Sl Int)) (h:gX p=some z) (B:List (List V)) (more:Bool) (D:sL B (z.map eI) more):bY B p more=some []:=by
 unfold gX at h;split at h
 .rename_i hk;simp only[ζh,List.all_eq_true]at hk;obtain⟨k1,G,I⟩:=hk;simp only[ζg,ζf]at h;obtain⟨s,J,c,hc,r,hr,rfl⟩:=h;have hc:(fU s).bind Sl.whole=some c:=hc;obtain⟨u,w,L⟩:=sL.step D;have hi:=Sn p p.vars (An k1) B more p.vars.l 0 rfl .nil s J;rw[show ((0:Nat):Int)=0 from rfl]at hi;have w:yl B more [.int .i64 0,enc c]=some ((more || !u.isEmpty),u):=w;unfold bY bY.W1;simp only[hi,ζb,Fw.elim,hc,w];rcases L with⟨g1,g2⟩|⟨g1,rfl⟩
  .obtain⟨Q,rfl,C⟩:=eF p.events (An G) (λe O=>An (I e O)) more p.events.l 0 rfl s r hr u g2
   rw[show ((0:Nat):Int)=0 from rfl]at C;rw[g1];simp only[bn,if_true,bY.W2];rcases C with q|q <;> (rw[q];rfl)
  rw[g1];rfl
 cases h
theorem tI {α:Type} [bt α] {a b:Sl α} (h:b_ a=b_ b):rows a.l=rows b.l:=by
 cases a <;> cases b <;> first|rfl|(simp only[b_,Sl.k,mD,V.fsl.injEq,true_and,reduceCtorEq]at h;done)|(simp only[b_,Sl.k,mD,V.fsl.injEq,true_and,reduceCtorEq]at h;exact h)
theorem FM:∀(a b:List Var),rows a=rows b->∀s,tD a s=tD b s
 | [],[],_,_=>rfl
 | [],_::_,h,_=>by simp[rows]at h
 | _::_,[],h,_=>by simp[rows]at h
 | x::a,y::b,h,s=>by
  simp only[rows,List.map_cons,List.cons.injEq]at h;have h1:x.init_=y.init_:=by
   have:=h.1;change [V.str x.name,V.int .i64 x.init_]=[V.str y.name,V.int .i64 y.init_]at this;simpa using (List.cons.inj (List.cons.inj this).2).1
  simp only[tD,h1,funext (FM a b h.2)]
theorem FO:∀(a b:List Assign),rows a=rows b->∀s,tc a s=tc b s
 | [],[],_,_=>rfl
 | [],_::_,h,_=>by simp[rows]at h
 | _::_,[],h,_=>by simp[rows]at h
 | x::a,y::b,h,s=>by
  simp only[rows,List.map_cons,List.cons.injEq]at h;have h1:=h.1;change [V.int .i64 x.var,V.int .i64 x.value]=[V.int .i64 y.var,V.int .i64 y.value]at h1;simp only[List.cons.injEq,V.int.injEq,true_and,and_true]at h1;simp only[tc,h1.1,h1.2,funext (FO a b h.2)]
theorem EE {x y:Event} (h:cells x=cells y):rows x.assign.l=rows y.assign.l:=by
 change [V.int .i64 x.kind,V.int .i64 x.peer,V.int .i64 x.message,V.int .i64 x.time,b_ x.assign]=[V.int .i64 y.kind,V.int .i64 y.peer,V.int .i64 y.message,V.int .i64 y.time,b_ y.assign]at h;simp only[List.cons.injEq]at h;exact tI h.2.2.2.2.1
theorem uc:∀(a b:List Event),rows a=rows b->∀k s,ta k a s=ta k b s
 | [],[],_,_,_=>rfl
 | [],_::_,h,_,_=>by simp[rows]at h
 | _::_,[],h,_,_=>by simp[rows]at h
 | x::a,y::b,h,k,s=>by
  simp only[rows,List.map_cons,List.cons.injEq]at h;simp only[ta,FO _ _ (EE h.1),uc a b h.2]
theorem AB {α:Type} [bt α] {a b:List α} (h:rows a=rows b):a.length=b.length:=by
 have:=congrArg List.length h;simpa [rows]using this
theorem EP:∀(a b:List Event),rows a=rows b->(a.all λe=>mJ e.assign.l.length)=b.all λe=>mJ e.assign.l.length
 | [],[],_=>rfl
 | [],_::_,h=>by simp[rows]at h
 | _::_,[],h=>by simp[rows]at h
 | x::a,y::b,h=>by
  simp only[rows,List.map_cons,List.cons.injEq]at h;simp only[List.all_cons,AB (EE h.1),EP a b h.2]
def tn (f:FuncId) (g:FuncId) (a b:List V) (xs:List (List V)):Prop:=∃(p:bS) (u:List (Int×Sl Int)),g=f/\a=[]/\b=[.fptr (cells p)]/\gX p=some u/\xs=u.map eI
theorem tn.uniq {f g:FuncId} {a b:List V} {xs ys:List (List V)} (h:tn f g a b xs) (k:tn f g a b ys):xs=ys:=by
 obtain⟨p,C,rfl,rfl,rfl,h1,rfl⟩:=h;obtain⟨w,z,_,_,u,B,rfl⟩:=k;simp only[List.cons.injEq,V.fptr.injEq,and_true]at u;change [V.str p.name,b_ p.vars,b_ p.events]=[V.str w.name,b_ w.vars,b_ w.events]at u;simp only[List.cons.injEq]at u;have r1:=tI u.2.1;have r2:=tI u.2.2.1;unfold gX at h1 B;rw[AB r1,AB r2,EP _ _ r2,FM _ _ r1,funext (λs=>uc _ _ r2 0 s)]at h1
 have e:=h1.symm.trans B;cases e;rfl
end IST
end Go.VE
namespace Go.VE
open Go.Proofs.YtlmckmkfopljoaaGreatDoor
noncomputable section
def Ej (f:FuncId) (a b:List V) (xs:List (List V)):Prop:=trace_events_c1.tn 184 f a b xs\/IST.tn 179 f a b xs
noncomputable def Sy:Sys:=⟨E,λn=>n,vL Ej,vJ E,DK⟩
abbrev cL:bN:=dI Sy Tx
theorem QC:∃fi,E.ft 184=some fi/\uW E some fi trace_events_c1.text:=P6 Ze
theorem R_:uI Sy Tx where
 fn f rf h:=let ⟨u,h1,w⟩:=z7 h;⟨u,some,h1,zp,w⟩
 xq f z y h:=C6 h
 prm:=Es
theorem Fv (p:bS) (u:List (Int×Sl Int)) (h1:gX p=some u):eR Sy 179 [] [.fptr (cells p)] (u.map IST.eI):=by
 have z:Tx 179=some (oO (Tx 179)):=yK Ze
 obtain⟨G,B,C⟩:=z7 z;have e1:Nat.ble (([]:List V).length+1+[V.fptr (cells p)].length) (oO (Tx 179)).na=true:=by kernel_rfl
 have e2:(oO (Tx 179)).rs=[]:=by kernel_rfl
 have e3:Sy.E=Sb.E:=rfl;exact L9 e3 Es (vr QF KY) KY B zp C (Nat.le_of_ble_eq_true e1) e2 λw more D y=>IB.vK more y w p [] (by rw[IST.all p u h1 w more D];rfl)
theorem Pp:∀f a b xs,Sy.items f a b=some xs->eR Sy f a b xs:=by
 intro f a b xs h;have h:Ej f a b xs:=Iu h;rcases h with h|h
 .obtain⟨t,u,rfl,rfl,rfl,h1,rfl⟩:=h;obtain⟨D,w,z⟩:=QC;exact MO Sy w zp z (Nat.le_of_ble_eq_true rfl) rfl λB more C y=>trace_events_c1.all t u h1 B more C y
 obtain⟨p,u,rfl,rfl,rfl,h1,rfl⟩:=h;exact Fv p u h1
theorem wB (t:Trace) (u:List (aZ×Event)) (h:gZ t=some u):Sy.items 184 [] [.fptr (cells t)]=some (u.map λx:aZ×Event=>[enc x.1,enc x.2]):=
 BS (.inl ⟨t,u,rfl,rfl,rfl,h,rfl⟩) (λw hy=>by rcases hy with hy|hy <;> first|exact hy.uniq ⟨t,u,rfl,rfl,rfl,h,rfl⟩|(obtain⟨_,_,hy,_⟩:=hy;exact absurd hy (by decide)))
theorem Di (p:bS) (u:List (Int×Sl Int)) (h:gX p=some u):Sy.items 179 [] [.fptr (cells p)]=some (u.map λx:Int×Sl Int=>[enc x.1,enc x.2]):=
 BS (.inr ⟨p,u,rfl,rfl,rfl,h,rfl⟩) (λw hy=>by rcases hy with hy|hy <;> first|exact hy.uniq ⟨p,u,rfl,rfl,rfl,h,rfl⟩|(obtain⟨_,_,hy,_⟩:=hy;exact absurd hy (by decide)))
theorem Lg:Sy.xq 10 []=some (.bool true):=JW (Gq rfl ⟨1,[],by kernel_rfl⟩)
end
end Go.VE
namespace Go.VE
noncomputable section
def ug:Option Bool:=some true
instance OJ:Fc Sy cL ug:=⟨10,[],λr:Bool=>[.bool r],true,iC.xq Ze Ze Lg⟩
namespace fA
def cr (s0:Sl bS) (B:Int) (u:Int) (p1:bS->Option Bool):Option (Fw Int Unit Int):=
 bn (decide (u<B))
 ((idx s0 u).bind λw=>
 (p1 w).bind λz=>
 bn z
 (some (.r u))
 (some (.n (IntKind.wrap .i64 (u+1)))))
 (some (.x ()))
def W1 (s0:Sl bS) (u z:Int) (p1:bS->Option Bool):Option Int:=
 (c_ (λq:Int=>cr s0 u q p1) z).bind (Fw.elim
 (λe=>some (-1))
 (λe=>some e))
end fA
def fA (s0:Sl bS) (p1:bS->Option Bool):Option Int:=
 fA.W1 s0 (len s0) 0 p1
open fA in
abbrev uB (g1:FuncId) (e1:List V) (p1:bS->Option Bool) (h1:gI Sy cL g1 [] e1 (λz:bS=>[enc z]) (λr:Bool=>[.bool r]) p1 true) (s0:Sl bS):Fc Sy cL (fA s0 p1):=Fc.M 66 [enc s0,.clo g1 [] e1] (dP 9 s0 (jP 5 (λw=>(dz [Cv 0 s0,(1,.v (.clo g1 [] e1)),Iv 7 (len s0),Iv 8 w] [])) (λu=>(0,(dz [] []))) (λu=>(dz [Iv 4 u] [])) (λw=>bG 7 9 (cZ 16 λB _=>tC 1 h1.f B λC _=>bG 2 16 bh bh) bh) (λu=>bh) (λu=>bh)))
def fC (s0:Sl bS) (p1:bS->Option Bool):Option Bool:=
 (fA s0 p1).bind λu=>
 some (decide (u>=0))
abbrev mS (g1:FuncId) (e1:List V) (p1:bS->Option Bool) (h1:gI Sy cL g1 [] e1 (λz:bS=>[enc z]) (λr:Bool=>[.bool r]) p1 true) (s0:Sl bS):Fc Sy cL (fC s0 p1):=Fc.M 40 [enc s0,.clo g1 [] e1] (bL (F:=uB g1 e1 p1 h1 s0) 9 λu _=>bh)
namespace eW
def cr (s0:Sl Event) (B:Int) (u:Int) (p1:Event->Option Bool):Option (Fw Int Unit Int):=
 bn (decide (u<B))
 ((idx s0 u).bind λw=>
 (p1 w).bind λz=>
 bn z
 (some (.r u))
 (some (.n (IntKind.wrap .i64 (u+1)))))
 (some (.x ()))
def W1 (s0:Sl Event) (u z:Int) (p1:Event->Option Bool):Option Int:=
 (c_ (λq:Int=>cr s0 u q p1) z).bind (Fw.elim
 (λe=>some (-1))
 (λe=>some e))
end eW
def eW (s0:Sl Event) (p1:Event->Option Bool):Option Int:=
 eW.W1 s0 (len s0) 0 p1
open eW in
abbrev t_ (g1:FuncId) (e1:List V) (p1:Event->Option Bool) (h1:gI Sy cL g1 [] e1 (λz:Event=>[enc z]) (λr:Bool=>[.bool r]) p1 true) (s0:Sl Event):Fc Sy cL (eW s0 p1):=Fc.M 67 [enc s0,.clo g1 [] e1] (dP 9 s0 (jP 5 (λw=>(dz [Cv 0 s0,(1,.v (.clo g1 [] e1)),Iv 7 (len s0),Iv 8 w] [])) (λu=>(0,(dz [] []))) (λu=>(dz [Iv 4 u] [])) (λw=>bG 7 9 (cZ 16 λB _=>tC 1 h1.f B λC _=>bG 2 16 bh bh) bh) (λu=>bh) (λu=>bh)))
def gm (s0:Sl Event) (p1:Event->Option Bool):Option Bool:=
 (eW s0 p1).bind λu=>
 some (decide (u>=0))
abbrev mG (g1:FuncId) (e1:List V) (p1:Event->Option Bool) (h1:gI Sy cL g1 [] e1 (λz:Event=>[enc z]) (λr:Bool=>[.bool r]) p1 true) (s0:Sl Event):Fc Sy cL (gm s0 p1):=Fc.M 42 [enc s0,.clo g1 [] e1] (bL (F:=t_ g1 e1 p1 h1 s0) 9 λu _=>bh)
def mQ (u:Event):Option Bool:=
 some (decide ((len u.assign)>20))
instance JJ (u:Event):Fc Sy cL (mQ u):=Fc.M 43 [enc u] (cE 2 1 u (dP 7 u.assign bh))
def jT (u:bS):Option Bool:=
 (bn (decide ((len u.events)>70))
 (some true)
 (some (decide ((len u.vars)>20))):Option Bool).bind λw=>
 (bn w
 (some true)
 ((gm u.events (λz=>mQ z)).bind λB=>
 some B):Option Bool).bind λC=>
 some C
instance Nz (u:bS):Fc Sy cL (jT u):=Fc.M 41 [enc u] (cE 2 1 u (dP 7 u.events (b8 2 5 [7] 12 (bG 2 7 (bu 5) (dP 2 u.vars (bu 2))) λw=>b8 1 4 [1,13] 17 (bG 1 13 (bu 4) (bL (F:=mG 43 [] (λz=>mQ z) gI.kY u.events) 2 λB _=>bu 1)) λC=>bh)))
def tf (B:Trace):Option Bool:=
 (bn (decide ((len B.procs)>10))
 (some true)
 ((fC B.procs (λz=>jT z)).bind λu=>
 some u):Option Bool).bind λw=>
 some w
instance Rc (u:Trace):Fc Sy cL (tf u):=Fc.M 11 [enc u] (cE 2 1 u (dP 7 u.procs (b8 2 4 [1,7] 11 (bG 2 7 (bu 4) (bL (F:=mS 41 [] (λz=>jT z) gI.kY u.procs) 2 λw _=>bu 1)) λB=>bh)))
namespace d_
def dL (z:Int) (B:Pred) (D u:Int) (r:(Pred×Int×Int)->Option Int):Option (Fw (Int×Int) Int Empty):=
 (bn (decide (D<(len B.l)))
 (some (decide (u<=300)))
 (some false):Option Bool).bind λw=>
 bn w
 ((idx B.l D).bind λC=>
 (r (C,IntKind.wrap .i64 (z+1),u)).bind λG=>
 some (.n (IntKind.wrap .i64 (D+1),G)))
 (some (.x u))
def W2 (u D:Int) (B:Pred) (z:Int) (r:(Pred×Int×Int)->Option Int):Option Int:=
 (c_ (λq:Int×Int=>dL u B q.1 q.2 r) (D,z)).bind (Fw.elim
 (λe=>some e)
 (λe=>Empty.elim e))
def J1 (u:Int) (B:Pred) (z:Int) (r:(Pred×Int×Int)->Option Int):Option Int:=
 d_.W2 u 0 B z r
theorem jI (r:(Pred×Int×Int)->Option Int) (hr:uo Sy cL 44 (λz:Pred×Int×Int=>[cv z.1,iv z.2.1,.ptr 9001 0,.ptr 9002 0]) (λz:Pred×Int×Int=>[(9001,bx (z.2.2:Int)),(9002,.box [.clo 44 [] [.ptr 9001 0,.ptr 9002 0]])]) (λr:Int=>[]) (λ(z:Pred×Int×Int) (r:Int)=>[(9001,bx (r:Int)),(9002,.box [.clo 44 [] [.ptr 9001 0,.ptr 9002 0]])]) r) (u:Int) (D:Pred) (B:Int):Le ((J1 u D B r).bind (λr=>some ([],[(9001,bx (r:Int)),(9002,.box [.clo 44 [] [.ptr 9001 0,.ptr 9002 0]])]))) (b7 Sy cL (AN (tr Tx 44) [9001,9002]) (oM (tb Tx 44) [1,1,1,0] [] ⟨[Iv 1 u,(2,.ptr 9001 0),(3,.ptr 9002 0),Pv 4],[Xb 4 D,(9001,.box [iv B]),(9002,.box [.clo 44 [] [.ptr 9001 0,.ptr 9002 0]])],[9001,9002],[],true,0⟩)):=
 qu 7 (λw=>⟨[Iv 1 u,(2,.ptr 9001 0),(3,.ptr 9002 0),Pv 4,Iv 6 w.1],[Xb 4 D,(9001,.box [iv w.2]),(9002,.box [.clo 44 [] [.ptr 9001 0,.ptr 9002 0]])],[9001,9002],[],true,0⟩) (λC=>(0,⟨[],[(9001,.box [iv C]),(9002,.box [.clo 44 [] [.ptr 9001 0,.ptr 9002 0]])],[9001,9002],[],true,0⟩)) (λw=>ir 7 13 (Pred.jX D.l) (dP 0 D.l (b8 2 3 [16] 19 (bG 2 16 (bu 3) (bu 3)) λI=>bG 2 19 (ir 9 24 (Pred.jX D.l) (cZ 1 λG _=>O9 3 (lS.of (G,IntKind.wrap .i64 (u+1),w.2) hr) λJ _=>bh)) bh))) (λC=>bh)
end d_
def fR (z:Pred) (u B:Int) (r:(Pred×Int×Int)->Option Int):Option Int:=
 bn (decide (u>40))
 (d_.J1 u z 1000 r)
 (d_.J1 u z (IntKind.wrap .i64 (B+1)) r)
open d_ in
theorem xA (r:(Pred×Int×Int)->Option Int) (hr:uo Sy cL 44 (λz:Pred×Int×Int=>[cv z.1,iv z.2.1,.ptr 9001 0,.ptr 9002 0]) (λz:Pred×Int×Int=>[(9001,bx (z.2.2:Int)),(9002,.box [.clo 44 [] [.ptr 9001 0,.ptr 9002 0]])]) (λr:Int=>[]) (λ(z:Pred×Int×Int) (r:Int)=>[(9001,bx (r:Int)),(9002,.box [.clo 44 [] [.ptr 9001 0,.ptr 9002 0]])]) r) (B:Pred) (u D:Int):∀G,fR B u D r=some G->∃m',cL 44 [cv B,iv u,.ptr 9001 0,.ptr 9002 0] [(9001,bx (D:Int)),(9002,.box [.clo 44 [] [.ptr 9001 0,.ptr 9002 0]])]=some (((λr:Int=>[]) G).map .v,m')/\∀J,jr m' ([(9001,bx (D:Int)),(9002,.box [.clo 44 [] [.ptr 9001 0,.ptr 9002 0]])].map (·.1)) J=some (kJ J ((λr:Int=>[(9001,bx (r:Int)),(9002,.box [.clo 44 [] [.ptr 9001 0,.ptr 9002 0]])]) G)):=
 (lS.mk' 44 [cv B,iv u,.ptr 9001 0,.ptr 9002 0] [(9001,bx (D:Int)),(9002,.box [.clo 44 [] [.ptr 9001 0,.ptr 9002 0]])] (λr:Int=>[]) (λr:Int=>[(9001,bx (r:Int)),(9002,.box [.clo 44 [] [.ptr 9001 0,.ptr 9002 0]])]) (cE 2 4 B (bG 16 10 (qB 6 (jI r hr u B 1000)) (qB 4 (jI r hr u B (IntKind.wrap .i64 (D+1)))))):lS Sy cL (fR B u D r)).h
def d_ (B:Pred) (u D:Int):Option Int:=fH (λr (z:Pred×Int×Int)=>fR z.1 z.2.1 z.2.2 r) 100000 (B,u,D)
abbrev Af (B:Pred) (u D:Int):lS Sy cL (d_ B u D):=lS.of (B,u,D) (uo.fix (A:=λz:Pred×Int×Int=>[cv z.1,iv z.2.1,.ptr 9001 0,.ptr 9002 0]) (O:=λz:Pred×Int×Int=>[(9001,bx (z.2.2:Int)),(9002,.box [.clo 44 [] [.ptr 9001 0,.ptr 9002 0]])]) (E:=λr:Int=>[]) (M:=λ(z:Pred×Int×Int) (r:Int)=>[(9001,bx (r:Int)),(9002,.box [.clo 44 [] [.ptr 9001 0,.ptr 9002 0]])]) (b:=(λr (z:Pred×Int×Int)=>fR z.1 z.2.1 z.2.2 r)) Ze Ze Ze (λr hr z=>xA r hr z.1 z.2.1 z.2.2) 100000)
def oW (z:Pred):Option Bool:=
 (d_ z 0 0).bind λu=>
 some (decide (u>300))
instance PR (u:Pred):Fc Sy cL (oW u):=Fc.M 12 [enc u] (cE 2 1 u (uv 26 (Af u 0 0) λw _=>bh))
def bz (u:Int) (z:Sl Pred):Option Pred:=
 some ⟨u,0,0,0,ByteArray.empty,z⟩
instance DJ (u:Int) (B:Sl Pred):Fc Sy cL (bz u B):=Fc.N 18 [.int .i64 u,enc B] (Ga 9 (⟨u,0,0,0,ByteArray.empty,B⟩:Pred) [.int .i64 u,enc B] [.int .i64 0,.int .i64 0,.int .i64 0,.int .i64 0,.str ByteArray.empty,.bM] [(0,1),(5,1)] (by have w:cells B=[Pred.AU B]:=congrArg (λz=>[z]) (Pred.jX B).symm;simp only[qt,sE,jB,yD,vu,xQ,yG,w];rfl) rfl (qI 0 4 0 (⟨u,0,0,0,ByteArray.empty,B⟩:Pred) bh))
def lJ (B z u:Int):Option Bool:=
 (bn (decide (B>=z))
 (some (decide (B<=u)))
 (some false):Option Bool).bind λw=>
 some w
instance R7 (B z u:Int):Fc Sy cL (lJ B z u):=Fc.M 153 [.int .i64 B,.int .i64 z,.int .i64 u] (b8 11 4 [0,2,10] 14 (bG 11 10 (bu 4) (bu 4)) λw=>bh)
def nK (u:Int):Option Bool:=
 (bn (decide (u>=97))
 (some (decide (u<=122)))
 (some false):Option Bool).bind λw=>
 (bn w
 (some true)
 ((bn (decide (u>=65))
 (some (decide (u<=90)))
 (some false):Option Bool).bind λz=>
 some z):Option Bool).bind λB=>
 some B
instance Ol (u:Int):Fc Sy cL (nK u):=Fc.M 197 [.int .u8 u] (b8 10 3 [5] 8 (bG 10 5 (bu 3) (bu 3)) λw=>b8 1 7 [0,9] 16 (bG 1 9 (bu 7) (b8 3 3 [0,12] 15 (bG 3 12 (bu 3) (bu 3)) λz=>bu 1)) λB=>bh)
def rN (z:Int):Option Bool:=
 (bn (decide (z>=48))
 (some (decide (z<=57)))
 (some false):Option Bool).bind λu=>
 some u
instance PX (u:Int):Fc Sy cL (rN u):=Fc.M 198 [.int .u8 u] (b8 10 3 [0,5] 8 (bG 10 5 (bu 3) (bu 3)) λw=>bh)
namespace fD
def cr (s0:ByteArray) (B:Int) (u:Int):Option (Fw Int Unit Unit):=
 bn (decide (u<B))
 ((mq s0 u).bind λC=>
 (nK C).bind λD=>
 (bn D
 (some false)
 ((mq s0 u).bind λG=>
 (rN G).bind λI=>
 some (!I)):Option Bool).bind λJ=>
 (bn J
 ((mq s0 u).bind λw=>
 some (!(w==95)))
 (some false):Option Bool).bind λz=>
 bn z
 (some (.r ()))
 (some (.n (IntKind.wrap .i64 (u+1)))))
 (some (.x ()))
def W1 (s0:ByteArray) (u z:Int):Option Bool:=
 (c_ (λq:Int=>cr s0 u q) z).bind (Fw.elim
 (λe=>some true)
 (λe=>some false))
end fD
def fD (s0:ByteArray):Option Bool:=
 (bn (ByteArray.toList s0==ByteArray.toList ByteArray.empty)
 (some true)
 (some (decide (((ByteArray.size s0:Nat):Int)>16))):Option Bool).bind λu=>
 (bn u
 (some true)
 ((mq s0 0).bind λw=>
 (nK w).bind λz=>
 some (!z)):Option Bool).bind λB=>
 bn B
 (some false)
 (fD.W1 s0 ((ByteArray.size s0:Nat):Int) 0)
open fD in
instance OZ (s0:ByteArray):Fc Sy cL (fD s0):=Fc.M 181 [.str s0] (b8 11 4 [6] 10 (bG 11 6 (bu 4) (bu 4)) λC=>b8 1 5 [11] 16 (bG 1 11 (bu 5) (Ji 1 .i64 λD _=>bL 0 λG _=>bu 2)) λI=>bG 2 16 bh (jP 13 (λw=>(dz [(0,.v (.str s0)),Iv 18 ((ByteArray.size s0:Nat):Int),Iv 19 w] [])) (λu=>(0,(dz [] []))) (λu=>(dz [Bv 2 false] [])) (λw=>bG 7 20 (Ji 15 .i64 λJ _=>bL 0 λL _=>b8 2 6 [27] 33 (eB 2 27 (bu 6) (Ji 2 .i64 λO _=>bL 0 λQ _=>bu 2)) λS=>b8 1 5 [3,34] 39 (bG 1 34 (Ji 2 .i64 λz _=>bu 2) (bu 5)) λB=>bG 2 39 bh bh) bh) (λu=>bh) (λu=>bh)))
def iB (u z:bS):Option Bool:=
 some (ByteArray.toList u.name==ByteArray.toList z.name)
instance Ge (u z:bS):Fc Sy cL (iB u z):=Fc.M 182 [enc u,.fptr (cells z)] (cE 2 2 u bh)
def iz (u z:Var):Option Bool:=
 some (ByteArray.toList u.name==ByteArray.toList z.name)
instance Gd (u z:Var):Fc Sy cL (iz u z):=Fc.M 183 [enc u,.fptr (cells z)] (bh)
namespace ey
def cr (s0:Sl Var) (B:Int) (u:Int) (p1:Var->Option Bool):Option (Fw Int Unit Int):=
 bn (decide (u<B))
 ((idx s0 u).bind λw=>
 (p1 w).bind λz=>
 bn z
 (some (.r u))
 (some (.n (IntKind.wrap .i64 (u+1)))))
 (some (.x ()))
def W1 (s0:Sl Var) (u z:Int) (p1:Var->Option Bool):Option Int:=
 (c_ (λq:Int=>cr s0 u q p1) z).bind (Fw.elim
 (λe=>some (-1))
 (λe=>some e))
end ey
def ey (s0:Sl Var) (p1:Var->Option Bool):Option Int:=
 ey.W1 s0 (len s0) 0 p1
open ey in
abbrev lH (g1:FuncId) (e1:List V) (p1:Var->Option Bool) (h1:gI Sy cL g1 [] e1 (λz:Var=>[enc z]) (λr:Bool=>[.bool r]) p1 true) (s0:Sl Var):Fc Sy cL (ey s0 p1):=Fc.M 106 [enc s0,.clo g1 [] e1] (dP 9 s0 (jP 5 (λw=>(dz [Cv 0 s0,(1,.v (.clo g1 [] e1)),Iv 7 (len s0),Iv 8 w] [])) (λu=>(0,(dz [] []))) (λu=>(dz [Iv 4 u] [])) (λw=>bG 7 9 (cZ 16 λB _=>tC 1 h1.f B λC _=>bG 2 16 bh bh) bh) (λu=>bh) (λu=>bh)))
def fP (s0:Sl Var) (p1:Var->Option Bool):Option Bool:=
 (ey s0 p1).bind λu=>
 some (decide (u>=0))
abbrev nC (g1:FuncId) (e1:List V) (p1:Var->Option Bool) (h1:gI Sy cL g1 [] e1 (λz:Var=>[enc z]) (λr:Bool=>[.bool r]) p1 true) (s0:Sl Var):Fc Sy cL (fP s0 p1):=Fc.M 161 [enc s0,.clo g1 [] e1] (bL (F:=lH g1 e1 p1 h1 s0) 9 λu _=>bh)
namespace dX
def cr (D:Sl Var) (G:Int) (J:bS) (u:Int):Option (Fw Int Unit Int):=
 bn (decide (u<G))
 ((idx D u).bind λw=>
 (fD w.name).bind λI=>
 (bn I
 ((iI J.vars none (some u)).bind λL=>
 (fP L (λz=>iz z w)).bind λO=>
 some O)
 (some true):Option Bool).bind λB=>
 bn B
 (some (.r 13))
 ((lJ w.init_ (-1073741824) 1073741824).bind λC=>
 bn C
 (some (.n (IntKind.wrap .i64 (u+1))))
 (some (.r 2))))
 (some (.x ()))
def W1 (z:Sl Var) (B D:Int) (u:bS):Option Int:=
 (c_ (λq:Int=>cr z B u q) D).bind (Fw.elim
 (λe=>bn (decide ((len u.events)>64))
 (some 5)
 (some 0))
 (λe=>some e))
end dX
def dX (G:Trace) (p1:Int):Option Int:=
 (idx G.procs p1).bind λu=>
 (fD u.name).bind λw=>
 (bn w
 ((iI G.procs none (some p1)).bind λB=>
 (fC B (λz=>iB z u)).bind λC=>
 some C)
 (some true):Option Bool).bind λD=>
 bn D
 (some 13)
 (bn (decide ((len u.vars)>8))
 (some 5)
 (dX.W1 u.vars (len u.vars) 0 u))
open dX in
instance H9 (D:Trace) (p1:Int):Fc Sy cL (dX D p1):=Fc.M 154 [enc D,.int .i64 p1] (cE 2 2 D (cZ 8 λu _=>qI 2 5 0 u (bL 8 λO _=>b8 2 7 [1,2,18] 25 (eB 2 18 (FG 3 false true [.int .i64 p1] λG _=>cA (F:=mS 182 [.fptr (cells u)] (λz=>iB z u) gI.kY G) 1 λQ _=>bu 1) (bu 7)) λS=>bG 3 13 bh (dP 5 u.vars (bG 4 26 bh (dP 9 u.vars (jP 5 (λB=>(dz [Pv 5,Cv 32 u.vars,Iv 33 (len u.vars),Iv 34 B] [Xb 5 u])) (λw=>(1,(dz [Pv 5] [Xb 5 u]))) (λw=>(dz [Iv 4 w] [])) (λB=>bG 7 35 (cZ 8 λC _=>bL 11 λT _=>b8 2 7 [6,44] 51 (eB 2 44 (FG 3 false true [.int .i64 B] λI _=>cA (F:=nC 183 [.fptr (cells C)] (λz=>iz z C) gI.kY I) 1 λU _=>bu 1) (bu 7)) λJ=>bG 3 39 bh (bL 5 λL _=>eB 4 52 bh bh)) bh) (λw=>dP 7 u.events (bG 3 61 bh bh)) (λw=>bh))))))))
def hD (u:Trace):Option Trace:=
 some u
instance Pk (u:Trace):Fc Sy cL (hD u):=Fc.NE (λr:Trace=>[(.clo 184 [] [.fptr (cells r)])]) 155 [enc u] (cE 2 1 u bh)
namespace gy
def J1 (p1:Int) (z:Bool) (B:Trace) (u:Event):Option Bool:=
 bn z
 ((lJ u.peer 0 (IntKind.wrap .i64 ((len B.procs)-1))).bind λw=>
 (bn w
 (some (!(u.peer==p1)))
 (some false):Option Bool).bind λC=>
 (bn C
 ((lJ u.message 0 199).bind λD=>
 some D)
 (some false):Option Bool).bind λG=>
 some G)
 (some false)
end gy
def gy (z:Trace) (p1:Int) (e2:Event):Option Bool:=
 bn (e2.kind==1)
 ((bn (e2.peer==0)
 (some (e2.message==0))
 (some false):Option Bool).bind λu=>
 some u)
 (bn (e2.kind==2)
 (gy.J1 p1 true z e2)
 (gy.J1 p1 (e2.kind==3) z e2))
open gy in
instance OE (u:Trace) (p1:Int) (e2:Event):Fc Sy cL (gy u p1 e2):=Fc.M 185 [enc u,.int .i64 p1,enc e2] (cE 2 3 u (cE 0 5 e2 (bG 17 9 (b8 7 4 [5,14] 18 (bG 7 14 (bu 4) (bu 4)) λD=>bh) (bG 8 19 (u_ 4 (bG 0 19 (dP 7 u.procs (bL 1 λw _=>b8 1 5 [1,29] 34 (bG 1 29 (bu 5) (bu 5)) λz=>b8 1 4 [5,35] 39 (bG 1 35 (bL 2 λB _=>bu 1) (bu 4)) λC=>bh)) bh)) (u_ 7 (bG 0 19 (dP 7 u.procs (bL 1 λw _=>b8 1 5 [1,29] 34 (bG 1 29 (bu 5) (bu 5)) λz=>b8 1 4 [5,35] 39 (bG 1 35 (bL 2 λB _=>bu 1) (bu 4)) λC=>bh)) bh))))))
def jk (u z:Assign):Option Bool:=
 some (u.var==z.var)
instance Hz (u z:Assign):Fc Sy cL (jk u z):=Fc.M 187 [enc u,.fptr (cells z)] (bh)
namespace eH
def cr (s0:Sl Assign) (B:Int) (u:Int) (p1:Assign->Option Bool):Option (Fw Int Unit Int):=
 bn (decide (u<B))
 ((idx s0 u).bind λw=>
 (p1 w).bind λz=>
 bn z
 (some (.r u))
 (some (.n (IntKind.wrap .i64 (u+1)))))
 (some (.x ()))
def W1 (s0:Sl Assign) (u z:Int) (p1:Assign->Option Bool):Option Int:=
 (c_ (λq:Int=>cr s0 u q p1) z).bind (Fw.elim
 (λe=>some (-1))
 (λe=>some e))
end eH
def eH (s0:Sl Assign) (p1:Assign->Option Bool):Option Int:=
 eH.W1 s0 (len s0) 0 p1
open eH in
abbrev tj (g1:FuncId) (e1:List V) (p1:Assign->Option Bool) (h1:gI Sy cL g1 [] e1 (λz:Assign=>[enc z]) (λr:Bool=>[.bool r]) p1 true) (s0:Sl Assign):Fc Sy cL (eH s0 p1):=Fc.M 199 [enc s0,.clo g1 [] e1] (dP 9 s0 (jP 5 (λw=>(dz [Cv 0 s0,(1,.v (.clo g1 [] e1)),Iv 7 (len s0),Iv 8 w] [])) (λu=>(0,(dz [] []))) (λu=>(dz [Iv 4 u] [])) (λw=>bG 7 9 (cZ 16 λB _=>tC 1 h1.f B λC _=>bG 2 16 bh bh) bh) (λu=>bh) (λu=>bh)))
def fW (s0:Sl Assign) (p1:Assign->Option Bool):Option Bool:=
 (eH s0 p1).bind λu=>
 some (decide (u>=0))
abbrev q_ (g1:FuncId) (e1:List V) (p1:Assign->Option Bool) (h1:gI Sy cL g1 [] e1 (λz:Assign=>[enc z]) (λr:Bool=>[.bool r]) p1 true) (s0:Sl Assign):Fc Sy cL (fW s0 p1):=Fc.M 186 [enc s0,.clo g1 [] e1] (bL (F:=tj g1 e1 p1 h1 s0) 9 λu _=>bh)
namespace dm
def dL (D:Sl Assign) (G:Int) (J:Event) (T:bS) (u:Int):Option (Fw Int Unit Int):=
 bn (decide (u<G))
 ((idx D u).bind λw=>
 (lJ w.var 0 (IntKind.wrap .i64 ((len T.vars)-1))).bind λI=>
 (bn I
 ((lJ w.value (-1073741824) 1073741824).bind λL=>
 some (!L))
 (some true):Option Bool).bind λO=>
 bn O
 (some (.r 2))
 ((iI J.assign none (some u)).bind λB=>
 (fW B (λz=>jk z w)).bind λC=>
 bn C
 (some (.r 8))
 (some (.n (IntKind.wrap .i64 (u+1))))))
 (some (.x ()))
def W2 (u:Sl Assign) (z B:Int) (D:Event) (G:bS):Option Int:=
 (c_ (λq:Int=>dL u z D G q) B).bind (Fw.elim
 (λe=>some 0)
 (λe=>some e))
def J1 (z:Int) (D:Trace) (B:aZ) (u:Event) (G:bS):Option Int:=
 (gy D B.proc u).bind λw=>
 bn w
 ((lJ u.time 0 1099511627776).bind λC=>
 (bn C
 (some (decide (u.time<z)))
 (some true):Option Bool).bind λI=>
 bn I
 (some 11)
 (bn (decide ((len u.assign)>8))
 (some 5)
 (dm.W2 u.assign (len u.assign) 0 u G)))
 (some 3)
theorem jI (B:Int) (J:Trace) (G:aZ) (u:Event) (D:bS):Le ((J1 B J G u D).bind (λr=>some [.int .i64 r])) (b7 Sy cL (nq (tr Tx 156)) (oM (tb Tx 156) [1,1,1,1,0] [] (dz [Pv 3,Pv 4,Pv 5,Pv 7,Iv 8 B] [Xb 3 J,Xb 4 G,Xb 5 u,Xb 7 D]))):=
 bL 8 λQ _=>eB 4 28 (bL 5 λS _=>b8 2 5 [8,40] 45 (eB 2 40 (bu 5) (bu 5)) λT=>bG 3 35 bh (dP 5 u.assign (bG 4 46 bh (dP 9 u.assign (jP 5 (λC=>(dz [Pv 5,Pv 7,Cv 52 u.assign,Iv 53 (len u.assign),Iv 54 C] [Xb 5 u,Xb 7 D])) (λw=>(1,(dz [] []))) (λw=>(dz [Iv 6 w] [])) (λC=>bG 7 55 (cZ 8 λI _=>dP 13 D.vars (bL 1 λU _=>b8 2 5 [68] 73 (eB 2 68 (bL 2 λW _=>bu 2) (bu 5)) λX=>bG 3 59 bh (FG 6 false true [.int .i64 C] λL _=>cA (F:=q_ 187 [.fptr (cells I)] (λz=>jk z I) gI.kY L) 1 λO _=>bG 3 74 bh bh))) bh) (λw=>bh) (λw=>bh)))))) bh
end dm
def dm (z:Trace) (u:aZ) (e2:Event):Option Int:=
 (idx z.procs u.proc).bind λw=>
 bn (decide (u.index>1))
 ((idx w.events (IntKind.wrap .i64 (u.index-2))).bind λB=>
 dm.J1 B.time z u e2 w)
 (dm.J1 0 z u e2 w)
open dm in
instance JK (z:Trace) (u:aZ) (e2:Event):Fc Sy cL (dm z u e2):=Fc.M 156 [enc z,enc u,enc e2] (cE 2 3 z (cE 1 5 e2 (cZ 9 λw _=>qI 2 7 0 w (bG 15 19 (cZ 7 λB _=>qB 6 (jI B.time z u e2 w)) (qB 4 (jI 0 z u e2 w))))))
def om (u:Event) (B D:Int):Option Bool:=
 (bn (u.kind==2)
 (some (u.message==B))
 (some false):Option Bool).bind λw=>
 (bn w
 (some (u.peer==D))
 (some false):Option Bool).bind λz=>
 some z
instance LW (u:Event) (z B:Int):Fc Sy cL (om u z B):=Fc.M 200 [enc u,.fptr (cells z),.fptr (cells B)] (cE 2 3 u (b8 9 5 [1,8] 13 (bG 9 8 (bu 5) (bu 5)) λw=>b8 1 5 [2,3,14] 19 (bG 1 14 (bu 5) (bu 5)) λC=>bh))
def rV (D:Trace) (p1 G u:Int):Option Bool:=
 (idx D.procs p1).bind λw=>
 (gm w.events (λz=>om z G u)).bind λB=>
 some B
instance PV (D:Trace) (p1 B u:Int):Fc Sy cL (rV D p1 B u):=Fc.M 188 [enc D,.int .i64 p1,.int .i64 B,.int .i64 u] (cE 2 4 D (cZ 10 λw _=>cA (F:=mG 200 [.fptr (cells B),.fptr (cells u)] (λz=>om z B u) gI.kY w.events) 3 λC _=>bh))
namespace dW
def iD (z B:Trace) (J:Option (cw 200 bE)) (T:aZ) (U:Int) (x:aZ×Event) (u:cw 200 bE):Option (Fw (cw 200 bE) Empty (aZ×Int×(cw 200 bE))):=
 bn (x.2.kind==2)
 ((cw.at u x.2.message).bind λw=>
 bn (decide (w.from_.index>0))
 (some (.r (x.1,8,u)))
 ((cw.at u x.2.message).bind λC=>
 some (.n (cw.set u x.2.message (⟨x.1,C.to_⟩:bE)))))
 (bn (x.2.kind==3)
 ((cw.at u x.2.message).bind λD=>
 bn (decide (D.to_.index>0))
 (some (.r (x.1,8,u)))
 ((rV B x.2.peer x.2.message x.1.proc).bind λG=>
 bn G
 ((cw.at u x.2.message).bind λI=>
 some (.n (cw.set u x.2.message (⟨I.from_,x.1⟩:bE))))
 (some (.r (x.1,7,u)))))
 (some (.n u)))
def E1 (u B:Trace) (D:Option (cw 200 bE)) (G:aZ) (J:Int) (z:cw 200 bE):Option ((Option (cw 200 bE))×aZ×Int):=
 (gZ u).bind λw=>(jh (λ(x:aZ×Event) (q:cw 200 bE)=>iD u B D G J x q) w z).bind (Fw.oB
 (λq=>some (some q,⟨0,0⟩,0))
 (λe=>Empty.elim e)
 (λe=>some ((none:Option (cw 200 bE)),e.1,e.2.1)))
end dW
def dW (z:Trace):Option ((Option (cw 200 bE))×aZ×Int):=
 (hD z).bind λu=>
 dW.E1 u z (none:Option (cw 200 bE)) (⟨0,0⟩:aZ) 0 (cw.JG 200 (⟨⟨0,0⟩,⟨0,0⟩⟩:bE))
open dW in
instance Ij (D:Trace):Fc Sy cL (dW D):=Fc.N 157 [enc D] (cE 2 1 D (cE 8 10 (cw.JG 200 (⟨⟨0,0⟩,⟨0,0⟩⟩:bE)) (Qo 0 5 (dz [Pv 1,Pv 2,Pv 3,Pv 4,Pv 10] [Xb 1 D,(2,.box [cv (none:Option (cw 200 bE))]),Xb 3 (⟨0,0⟩:aZ),(4,.box [iv 0]),Xb 10 (cw.JG 200 (⟨⟨0,0⟩,⟨0,0⟩⟩:bE))]) [cv (none:Option (cw 200 bE))] (by simp only[dz,vE,oy,qb,oC,p_,qZ,pY,ru,oe,qc,vI,rA,qQ,qL,ri,tN,tP,p9,qU];rfl) (bL 7 λB _=>BW λO C=>y6 4 [Pv 1,Pv 2,Pv 3,Pv 4,Pv 5,(12,.v (.clo 184 [] [.fptr (cells B)]))] (λw=>[Xb 1 D,(2,.box [cv (none:Option (cw 200 bE))]),Xb 3 (⟨0,0⟩:aZ),(4,.box [iv 0]),(5,.box [.ptr 10 0]),Xb 10 w]) (λz=>Empty.elim z) (λz=>[Xb 1 D,(2,.box [cv (none:Option (cw 200 bE))]),Xb 3 z.1,(4,.box [iv z.2.1]),(5,.box [.ptr 10 0]),Xb 10 z.2.2]) (wB B O C) (λu w=>Qo 2 6 ⟨[Pv 1,Pv 2,Pv 3,Pv 4,Pv 5,(12,.v (.clo 184 [] [.fptr (cells B)])),Cv 13 u.1,Cv 14 u.2],[Xb 1 D,(2,.box [cv (none:Option (cw 200 bE))]),Xb 3 (⟨0,0⟩:aZ),(4,.box [iv 0]),(5,.box [.ptr 10 0]),Xb 10 w],[1,2,3,4,5],[],true,0⟩ [iv 0,iv 0] (by simp only[dz,vE,oy,qb,oC,p_,qZ,pY,ru,oe,qc,vI,rA,qQ,qL,ri,tN,tP,p9,qU];rfl) (Qo 4 7 ⟨[Pv 1,Pv 2,Pv 3,Pv 4,Pv 5,(12,.v (.clo 184 [] [.fptr (cells B)])),Cv 14 u.2,Pv 6],[Xb 1 D,(2,.box [cv (none:Option (cw 200 bE))]),Xb 3 (⟨0,0⟩:aZ),(4,.box [iv 0]),(5,.box [.ptr 10 0]),Xb 10 w,Xb 6 u.1],[1,2,3,4,5],[],true,0⟩ [iv 0,iv 0,iv 0,iv 0,.v .bM] (by simp only[dz,vE,oy,qb,oC,p_,qZ,pY,ru,oe,qc,vI,rA,qQ,qL,ri,tN,tP,p9,qU];rfl) (qI 0 7 0 u.2 (vF 1 (bG 22 19 (DI 7 .i64 10 λG Q=>Ns 2 1 false 10 w u.2.message 1 G Q (.int .i64 G.from_.index) (by rfl) (bG 3 28 bh (DI 8 .i64 10 λI S=>N5 1 10 w u.2.message 0 I S (⟨u.1,I.to_⟩:bE) u.1 rfl bh))) (bG 7 36 (DI 7 .i64 10 λJ T=>Ns 2 1 false 10 w u.2.message 3 J T (.int .i64 J.to_.index) (by rfl) (bG 3 45 bh (bL 12 λW _=>eB 3 54 (DI 8 .i64 10 λL U=>N5 1 10 w u.2.message 2 L U (⟨L.from_,u.1⟩:bE) u.1 rfl bh) bh))) bh)))))) (λw=>RL 13 (dz [Pv 2,Pv 3,Pv 4] [(2,.box [.ptr 10 0]),Xb 3 (⟨0,0⟩:aZ),(4,.box [iv 0]),Xb 10 w]) [.ptr 10 0,cv (⟨0,0⟩:aZ),iv 0] (Oo (d:=10) (x:=w) (vs:=[enc (⟨0,0⟩:aZ),.int .i64 0]) Ze) Ze) (λx=>Empty.elim x) (λz=>bh)))))
namespace g_
def J1 (z:cw 200 bE) (u:Sl aZ) (J:Sl Event) (B:aZ):Option (Sl aZ):=
 (idx J (IntKind.wrap .i64 (B.index-1))).bind λw=>
 (bn (w.kind==2)
 ((cw.at z w.message).bind λC=>
 some (decide (C.to_.index>0)))
 (some false):Option Bool).bind λD=>
 bn D
 ((cw.at z w.message).bind λG=>
 (je u (G.to_:aZ)).bind λI=>
 some I)
 (some u)
theorem jI (u:cw 200 bE) (B:Sl aZ) (J:Sl Event) (G:aZ):Le ((J1 u B J G).bind (λr=>some [enc r])) (b7 Sy cL (nq (tr Tx 189)) (oM (tb Tx 189) [1,1,1,1,0,0] [] (dz [Kv 1 u,Pv 5,Ov 7,Cv 8 J] [Xb 5 G,Lb 2007 B]))):=
 cZ 7 λw _=>qI 2 9 0 w (b8 8 10 [40] 50 (bG 8 40 (HI 4 .i64 λz C=>ME 0 2 u w.message 0 z C (ME 0 1 u w.message 2 z C (Jk 0 1 false u w.message 3 z C (.int .i64 z.to_.index) (by rfl) (bu 2)))) (bu 10)) λL=>bG 2 50 (HI 7 .i64 λD I=>ME 0 2 u w.message 0 D I (Jk 0 2 true u w.message 2 D I (enc D.to_) (by rfl) (AL 1 2007 59 60 λO _=>bh))) bh)
end g_
def g_ (B:Trace) (z:cw 200 bE) (x2:aZ):Option (Sl aZ):=
 (idx B.procs x2.proc).bind λu=>
 bn (decide (x2.index<(len u.events)))
 (g_.J1 z (Sl.row [⟨x2.proc,IntKind.wrap .i64 (x2.index+1)⟩]:Sl aZ) u.events x2)
 (g_.J1 z (Sl.nil:Sl aZ) u.events x2)
open g_ in
instance PT (B:Trace) (z:cw 200 bE) (x2:aZ):Fc Sy cL (g_ B z x2):=Fc.N 189 [enc B,.fptr (cells z),enc x2] (cE 2 3 B (cZ 15 λu _=>dP 11 u.events (bG 3 21 (RZ 10 29 30 .bM (⟨x2.proc,IntKind.wrap .i64 (x2.index+1)⟩:aZ) (qB 5 (jI z (Sl.row [⟨x2.proc,IntKind.wrap .i64 (x2.index+1)⟩]:Sl aZ) u.events x2))) (qB 5 (jI z (Sl.nil:Sl aZ) u.events x2)))))
namespace gz
def kN (G:Trace) (J:Sl aZ) (T:Int) (U:Trace) (W:cw 200 bE) (Y:aZ) (aa:Bool) (D:aZ) (u:Sl aZ) (B:Int) (z:Mo aZ Bool):Option (Fw ((Sl aZ)×Int×(Mo aZ Bool)) ((Sl aZ)×(Mo aZ Bool)) Unit):=
 bn (decide (B<T))
 ((idx J B).bind λw=>
 bn (Qf w D)
 (some (.r ()))
 (bn (Ct z w false)
 (some (.n (u,IntKind.wrap .i64 (B+1),z)))
 ((je u (w:aZ)).bind λC=>
 some (.n (C,IntKind.wrap .i64 (B+1),pO z w true)))))
 (some (.x (u,z)))
def W3 (z:Sl aZ) (u:Trace) (G:Sl aZ) (J T:Int) (U:Trace) (W:cw 200 bE) (Y:aZ) (aa:Bool) (B:aZ) (D:Mo aZ Bool):Option (Fw ((Sl aZ)×(Mo aZ Bool)) Unit Unit):=
 (c_ (λq:(Sl aZ)×Int×(Mo aZ Bool)=>kN u G J U W Y aa B q.1 q.2.1 q.2.2) (z,T,D)).bind (Fw.elim
 (λe=>some (.n (e.1,e.2)))
 (λe=>some (.r ())))
def dL (z B:Trace) (D:cw 200 bE) (T:aZ) (U:Bool) (G:aZ) (u:Sl aZ) (J:Mo aZ Bool):Option (Fw ((Sl aZ)×(Mo aZ Bool)) Unit Unit):=
 bn (decide ((len u)>0))
 ((Sl.xh u (IntKind.wrap .i64 ((len u)-1))).bind λC=>
 (Sl.get u C).bind λI=>
 (mR u none (some (IntKind.wrap .i64 ((len u)-1)))).bind λL=>
 (g_ B D I).bind λw=>
 W3 L z w (len w) 0 B D T U G J)
 (some (.x ()))
def W2 (B:Sl aZ) (u G:Trace) (J:cw 200 bE) (T:aZ) (U:Bool) (z:aZ) (D:Mo aZ Bool):Option (Fw Unit Empty aZ):=
 (c_ (λq:(Sl aZ)×(Mo aZ Bool)=>dL u G J T U z q.1 q.2) (B,D)).bind (Fw.elim
 (λe=>some (.n ()))
 (λe=>some (.r z)))
def iD (u z:Trace) (B:cw 200 bE) (D:aZ) (G:Bool) (x:aZ×Event):Option (Fw Unit Empty aZ):=
 W2 (Sl.row [x.1]:Sl aZ) u z B D G x.1 []
def E1 (u z:Trace) (B:cw 200 bE) (D:aZ) (G:Bool):Option (aZ×Bool):=
 (gZ u).bind λw=>(jh (λ(x:aZ×Event) (q:Unit)=>iD u z B D G x) w ()).bind (Fw.oB
 (λq=>some (⟨0,0⟩,false))
 (λe=>Empty.elim e)
 (λe=>some (e,true)))
end gz
def gz (z:Trace) (B:cw 200 bE):Option (aZ×Bool):=
 (hD z).bind λu=>
 gz.E1 u z B (⟨0,0⟩:aZ) false
open gz in
instance Po (B:Trace) (G:cw 200 bE):Fc Sy cL (gz B G):=Fc.M 158 [enc B,.fptr (cells G)] (cE 2 2 B (bL 9 λw _=>BW λU Q=>y6 4 [Pv 2,Pv 3,Pv 4,Pv 5,(13,.v (.clo 184 [] [.fptr (cells w)]))] (λS=>[Xb 2 B,(3,.box [cp G]),Xb 4 (⟨0,0⟩:aZ),(5,.box [bv false])]) (λI=>Empty.elim I) (λI=>[Xb 2 B,(3,.box [cp G]),Xb 4 I,(5,.box [bv true])]) (wB w U Q) (λC S=>vF 4 (jP 18 (λu=>⟨[Pv 2,Pv 3,Pv 4,Pv 5,Pv 6,(7,.mp 16),Ov 8,(13,.v (.clo 184 [] [.fptr (cells w)]))],[Xb 2 B,(3,.box [cp G]),Xb 4 (⟨0,0⟩:aZ),(5,.box [bv false]),Xb 6 C.1,(16,ue u.2),Lb 2008 u.1],[2,3,4,5],[],true,0⟩) (λJ=>(2,⟨[Pv 2,Pv 3,Pv 4,Pv 5,(13,.v (.clo 184 [] [.fptr (cells w)]))],[Xb 2 B,(3,.box [cp G]),Xb 4 (⟨0,0⟩:aZ),(5,.box [bv false])],[2,3,4,5],[],true,0⟩)) (λJ=>⟨[],[Xb 2 B,(3,.box [cp G]),Xb 4 C.1,(5,.box [bv true])],[2,3,4,5],[],true,0⟩) (λu=>HG 6 2008 u.1 (bG 3 21 (HG 8 2008 u.1 (Qv .i64 1 2008 λW _=>SM 0 2008 0 2 true (λL=>.agg [.int .i64 L.proc,.int .i64 L.index]) λL _=>HG 8 2008 u.1 (RW 1 false true 2008 32 [.int .i64 (IntKind.wrap .i64 ((len u.1)-1))] λX _=>bL 8 λO _=>dP 0 O (jP 6 (λz=>⟨[Pv 2,Pv 3,Pv 4,Pv 5,Pv 6,(7,.mp 16),Ov 8,(13,.v (.clo 184 [] [.fptr (cells w)])),Cv 36 O,Iv 37 (len O),Iv 38 z.2.1],[Xb 2 B,(3,.box [cp G]),Xb 4 (⟨0,0⟩:aZ),(5,.box [bv false]),Xb 6 C.1,(16,ue z.2.2),Lb 2008 z.1],[2,3,4,5],[],true,0⟩) (λD=>(4,⟨[Pv 2,Pv 3,Pv 4,Pv 5,Pv 6,(7,.mp 16),Ov 8,(13,.v (.clo 184 [] [.fptr (cells w)]))],[Xb 2 B,(3,.box [cp G]),Xb 4 (⟨0,0⟩:aZ),(5,.box [bv false]),Xb 6 C.1,(16,ue D.2),Lb 2008 D.1],[2,3,4,5],[],true,0⟩)) (λD=>⟨[],[Xb 2 B,(3,.box [cp G]),Xb 4 C.1,(5,.box [bv true])],[2,3,4,5],[],true,0⟩) (λz=>bG 8 39 (cZ 7 λT _=>bG 13 44 bh (RK 7 16 z.2.2 T false (eB 3 49 bh (SP 5 16 z.2.2 T true (AL 6 2008 54 55 λY _=>bh))))) bh) (λD=>bh) (λD=>bh))))) bh)) (λJ=>bh) (λJ=>bh))) (λS=>bh) (λx=>Empty.elim x) (λI=>bh)))
namespace fZ
def Hp (z B:Trace) (D:aZ) (G:Int) (x:aZ×Event):Option (Fw Unit Empty (aZ×Int)):=
 (dm B x.1 x.2).bind λu=>
 bn (u==0)
 (some (.n ()))
 (some (.r (x.1,u)))
def E2 (u z:Trace) (D:aZ) (G:Int):Option (aZ×Int):=
 (gZ u).bind λC=>(jh (λ(x:aZ×Event) (q:Unit)=>Hp u z D G x) C ()).bind (Fw.oB
 (λq=>(dW z).bind λw=>
 bn (w.2.2==0)
 ((w.1).bind λI=>
 (gz z I).bind λB=>
 bn B.2
 (some (B.1,10))
 (some (⟨0,0⟩,0)))
 (some (w.2.1,w.2.2)))
 (λe=>Empty.elim e)
 (λe=>some (e.1,e.2)))
def cr (z:Int) (B:Trace) (D:aZ) (G:Int) (u:Int):Option (Fw Int Unit (aZ×Int)):=
 bn (decide (u<z))
 ((dX B u).bind λw=>
 bn (w==0)
 (some (.n (IntKind.wrap .i64 (u+1))))
 (some (.r ((⟨u,0⟩:aZ),w))))
 (some (.x ()))
def W1 (D G:Int) (u:Trace) (z:aZ) (B:Int):Option (aZ×Int):=
 (c_ (λq:Int=>cr D u z B q) G).bind (Fw.elim
 (λe=>(hD u).bind λw=>
 fZ.E2 w u z B)
 (λe=>some (e.1,e.2)))
end fZ
def fZ (u:Trace):Option (aZ×Int):=
 (lJ (len u.procs) 1 8).bind λw=>
 bn w
 (fZ.W1 (len u.procs) 0 u (⟨0,0⟩:aZ) 0)
 (some (⟨0,0⟩,1))
open fZ in
instance PN (u:Trace):Fc Sy cL (fZ u):=Fc.M 117 [enc u] (cE 2 1 u (dP 9 u.procs (bL 0 λO _=>eB 3 18 (dP 8 u.procs (jP 5 (λC=>(dz [Pv 1,Pv 2,Pv 3,Iv 22 (len u.procs),Iv 23 C] [Xb 1 u,Xb 2 (⟨0,0⟩:aZ),(3,.box [iv 0])])) (λw=>(0,(dz [Pv 1,Pv 2,Pv 3] [Xb 1 u,Xb 2 (⟨0,0⟩:aZ),(3,.box [iv 0])]))) (λw=>(dz [Pv 2,Pv 3] [Xb 2 w.1,(3,.box [iv w.2])])) (λC=>bG 7 24 (bL 15 λQ _=>eB 9 30 bh bh) bh) (λw=>bL 6 λB _=>BW λJ D=>y6 4 [Pv 1,Pv 2,Pv 3,(36,.v (.clo 184 [] [.fptr (cells B)]))] (λG=>[Xb 1 u,Xb 2 (⟨0,0⟩:aZ),(3,.box [iv 0])]) (λz=>Empty.elim z) (λz=>[Xb 1 u,Xb 2 z.1,(3,.box [iv z.2])]) (wB B J D) (λL G=>qI 8 7 0 L.2 (vF 1 (bL 7 λS _=>eB 9 44 bh bh))) (λG=>bL 5 λI _=>eB 17 54 (SL 8 (λT=>(dz [Pv 2,Pv 3,(36,.v (.clo 184 [] [.fptr (cells B)])),Pv 10,Iv 11 I.2.2,Bv 54 false,Cv 58 u,Cv 59 T] [Xb 1 u,Xb 2 (⟨0,0⟩:aZ),(3,.box [iv 0]),Xb 10 I.2.1])) λU _=>bL 0 λW _=>bG 13 63 bh bh) bh) (λx=>Empty.elim x) (λz=>bh)) (λw=>bh))) bh)))
def dA (z:Trace):Option Bool:=
 (fZ z).bind λu=>
 some (u.2==0)
instance PZ (u:Trace):Fc Sy cL (dA u):=Fc.M 82 [enc u] (cE 2 1 u (bL 6 λw _=>bh))
def rF (u:Int):Option Bool:=
 (bn (u==2)
 (some true)
 (some (u==3)):Option Bool).bind λw=>
 (bn w
 (some true)
 (some (u==4)):Option Bool).bind λz=>
 some z
instance L6 (u:Int):Fc Sy cL (rF u):=Fc.M 159 [.int .i64 u] (b8 10 3 [5] 8 (bG 10 5 (bu 3) (bu 3)) λw=>b8 1 3 [0,9] 12 (bG 1 9 (bu 3) (bu 3)) λz=>bh)
def jb (u:Pred):Option Bool:=
 (bn (decide (u.kind<1))
 (some true)
 (some (decide (u.kind>=22))):Option Bool).bind λB=>
 (bn B
 (some true)
 ((cw.at wq u.kind).bind λC=>
 some (!((len u.l)==C))):Option Bool).bind λD=>
 (bn D
 (some true)
 (some (decide (u.n<0))):Option Bool).bind λG=>
 (bn G
 (some true)
 (some (decide (u.n>1125899906842624))):Option Bool).bind λI=>
 (bn I
 (some true)
 ((bn (u.n==0)
 (some false)
 (some (!(u.kind==1))):Option Bool).bind λJ=>
 some J):Option Bool).bind λL=>
 bn L
 (some false)
 ((rF u.kind).bind λO=>
 (bn O
 (some true)
 ((bn (u.proc==0)
 (some (u.peer==0))
 (some false):Option Bool).bind λQ=>
 (bn Q
 (some (ByteArray.toList u.name==ByteArray.toList ByteArray.empty))
 (some false):Option Bool).bind λw=>
 some w):Option Bool).bind λz=>
 some z)
instance Nx (u:Pred):Fc Sy cL (jb u):=Fc.M 119 [enc u] (cE 2 1 u (b8 10 4 [6] 10 (bG 10 6 (bu 4) (bu 4)) λD=>b8 1 9 [11] 20 (bG 1 11 (bu 9) (ir 2 13 (Pred.jX u.l) (dP 0 u.l (HI 2 .i64 λw z=>Jk 0 1 false wq u.kind 0 w z (.int .i64 w) (by rfl) (bu 2))))) λG=>b8 1 4 [21] 25 (bG 1 21 (bu 4) (bu 4)) λI=>b8 1 4 [26] 30 (bG 1 26 (bu 4) (bu 4)) λJ=>b8 1 9 [31] 40 (bG 1 31 (bu 9) (b8 4 4 [35] 39 (eB 4 35 (bu 4) (bu 4)) λL=>bu 1)) λO=>bG 2 40 bh (bL 7 λQ _=>b8 1 14 [1,44] 58 (bG 1 44 (bu 14) (b8 4 4 [48] 52 (bG 4 48 (bu 4) (bu 4)) λS=>b8 1 4 [1,53] 57 (bG 1 53 (bu 4) (bu 4)) λB=>bu 1)) λC=>bh)))
def gu (z:Pred) (B u:Int) (r:(Pred×Int×Int)->Option (Bool×Int)):Option (Bool×Int):=
 (r (z,IntKind.wrap .i64 (B+1),u)).bind λw=>
 some ((!w.1),w.2)
abbrev uD (r:(Pred×Int×Int)->Option (Bool×Int)) (hr:uo Sy cL 118 (λz:Pred×Int×Int=>[cv z.1,iv z.2.1,.ptr 9004 0,.ptr 9003 0]) (λz:Pred×Int×Int=>[(9004,bx (z.2.2:Int)),(9003,.box [.clo 118 [] [.ptr 9004 0,.ptr 9003 0]])]) (λr:Bool×Int=>[.bool r.1]) (λ(z:Pred×Int×Int) (r:Bool×Int)=>[(9004,bx (r.2:Int)),(9003,.box [.clo 118 [] [.ptr 9004 0,.ptr 9003 0]])]) r) (B:Pred) (D u:Int):lS Sy cL (gu B D u r):=lS.mk' 121 [cv B,.ptr 9003 0,.v (.fptr (cells D))] [(9003,.box [.clo 118 [] [.ptr 9004 0,.ptr 9003 0]]),(9004,bx (u:Int))] (λr:Bool×Int=>[.bool r.1]) (λr:Bool×Int=>[(9003,.box [.clo 118 [] [.ptr 9004 0,.ptr 9003 0]]),(9004,bx (r.2:Int))]) (cE 2 3 B (uv 9 (lS.of (B,IntKind.wrap .i64 (D+1),u) hr) λw _=>bh))
section
variable {σ:Type} {gf:FuncId} {ex:List SV} {os:σ->c9} {p:Pred->σ->Option (Bool×σ)} (h:vP Sy cL (.clo gf [] ex) gf ex os p) (s0:Sl Pred) (x:σ)
abbrev sD:lS Sy cL (Mb s0 p x):=lS.mk' 160 [cv s0,(.clo gf [] ex)] (os x) (λr=>[.int .i64 r.1]) (λr=>os r.2)
 (dP 9 s0 (jP 5 (λq=>⟨[Cv 0 s0,(1,(.clo gf [] ex)),Iv 7 (len s0),Iv 8 q.1],os q.2,(os x).map (·.1),[],true,0⟩) (λe=>(0,⟨[],os e,(os x).map (·.1),[],true,0⟩)) (λe=>⟨[Iv 4 e.1],os e.2,(os x).map (·.1),[],true,0⟩)
  (λq=>bG 7 9 (cZ 16 λy _=>JN 1 h y q.2 λr _=>bG 2 16 bh bh) bh) (λe=>DP 9 h [.int .i64 (-1)] rfl) (λe=>Le.of_eq (Ff h (ys:=[.int .i64 e.1]) Ze rfl)))) (hp:=λr=>h.wi x r.2)
abbrev sQ:lS Sy cL (xB s0 p x):=lS.mk' 120 [cv s0,(.clo gf [] ex)] (os x) (λr=>[.bool r.1]) (λr=>os r.2)
 (Hw 9 (sD h s0 x) (h.hd x (enc s0)) (λr=>h.put x r.2) λy _=>DP 5 h [.bool (decide (y.1>=0))] rfl) (hp:=λr=>h.wi x r.2)
end
section
variable {σ:Type} {gf:FuncId} {ex:List V} {os:σ->c9} {p:Pred->σ->Option (Bool×σ)} (h:vP Sy cL (.v (.clo gf [] ex)) gf (ex.map .v) os p) (s0:Sl Pred) (x:σ)
abbrev sK:lS Sy cL (Mb s0 p x):=lS.mk' 160 [cv s0,(.v (.clo gf [] ex))] (os x) (λr=>[.int .i64 r.1]) (λr=>os r.2)
 (dP 9 s0 (jP 5 (λq=>⟨[Cv 0 s0,(1,(.v (.clo gf [] ex))),Iv 7 (len s0),Iv 8 q.1],os q.2,(os x).map (·.1),[],true,0⟩) (λe=>(0,⟨[],os e,(os x).map (·.1),[],true,0⟩)) (λe=>⟨[Iv 4 e.1],os e.2,(os x).map (·.1),[],true,0⟩)
  (λq=>bG 7 9 (cZ 16 λy _=>JN 1 h y q.2 λr _=>bG 2 16 bh bh) bh) (λe=>DP 9 h [.int .i64 (-1)] rfl) (λe=>Le.of_eq (Ff h (ys:=[.int .i64 e.1]) Ze rfl)))) (hp:=λr=>h.wi x r.2)
abbrev jU:lS Sy cL (xB s0 p x):=lS.mk' 120 [cv s0,(.v (.clo gf [] ex))] (os x) (λr=>[.bool r.1]) (λr=>os r.2)
 (Hw 9 (sK h s0 x) (h.hd x (enc s0)) (λr=>h.put x r.2) λy _=>DP 5 h [.bool (decide (y.1>=0))] rfl) (hp:=λr=>h.wi x r.2)
end
def dS (G:Pred) (u z:Int) (r:(Pred×Int×Int)->Option (Bool×Int)):Option (Bool×Int):=
 (bn (decide ((IntKind.wrap .i64 (z-1))<0))
 (some true)
 (some (decide (u>20))):Option Bool).bind λB=>
 (bn B
 (some true)
 ((jb G).bind λC=>
 some (!C)):Option Bool).bind λD=>
 bn D
 (some (false,IntKind.wrap .i64 (z-1)))
 ((xB G.l (λx s=>gu x u s r) (IntKind.wrap .i64 (z-1))).bind λw=>
 some ((!w.1),w.2))
theorem uA (r:(Pred×Int×Int)->Option (Bool×Int)) (hr:uo Sy cL 118 (λz:Pred×Int×Int=>[cv z.1,iv z.2.1,.ptr 9004 0,.ptr 9003 0]) (λz:Pred×Int×Int=>[(9004,bx (z.2.2:Int)),(9003,.box [.clo 118 [] [.ptr 9004 0,.ptr 9003 0]])]) (λr:Bool×Int=>[.bool r.1]) (λ(z:Pred×Int×Int) (r:Bool×Int)=>[(9004,bx (r.2:Int)),(9003,.box [.clo 118 [] [.ptr 9004 0,.ptr 9003 0]])]) r) (B:Pred) (u D:Int):∀G,dS B u D r=some G->∃m',cL 118 [cv B,iv u,.ptr 9004 0,.ptr 9003 0] [(9004,bx (D:Int)),(9003,.box [.clo 118 [] [.ptr 9004 0,.ptr 9003 0]])]=some (((λr:Bool×Int=>[.bool r.1]) G).map .v,m')/\∀J,jr m' ([(9004,bx (D:Int)),(9003,.box [.clo 118 [] [.ptr 9004 0,.ptr 9003 0]])].map (·.1)) J=some (kJ J ((λr:Bool×Int=>[(9004,bx (r.2:Int)),(9003,.box [.clo 118 [] [.ptr 9004 0,.ptr 9003 0]])]) G)):=
 (lS.mk' 118 [cv B,iv u,.ptr 9004 0,.ptr 9003 0] [(9004,bx (D:Int)),(9003,.box [.clo 118 [] [.ptr 9004 0,.ptr 9003 0]])] (λr:Bool×Int=>[.bool r.1]) (λr:Bool×Int=>[(9004,bx (r.2:Int)),(9003,.box [.clo 118 [] [.ptr 9004 0,.ptr 9003 0]])]) (cE 2 4 B (b8 17 3 [11] 14 (bG 17 11 (bu 3) (bu 3)) λw=>b8 1 4 [15] 19 (bG 1 15 (bu 4) (bL 1 λC _=>bu 2)) λI=>bG 2 19 bh (ir 7 21 (Pred.jX B.l) (uv 2 (sQ (vP.Tp (σ:=Int) (g:=121) (e:=[.ptr 9003 0,cp u]) (os:=λs=>[(9003,.box [.clo 118 [] [.ptr 9004 0,.ptr 9003 0]]),(9004,bx (s:Int))]) (p:=(λx s=>gu x u s r)) (λx s=>uD r hr x u s)) B.l (IntKind.wrap .i64 (D-1))) λL _=>bh)))):lS Sy cL (dS B u D r)).h
def nI (B:Pred) (u D:Int):Option (Bool×Int):=fH (λr (z:Pred×Int×Int)=>dS z.1 z.2.1 z.2.2 r) 100000 (B,u,D)
abbrev v_ (B:Pred) (u D:Int):lS Sy cL (nI B u D):=lS.of (B,u,D) (uo.fix (A:=λz:Pred×Int×Int=>[cv z.1,iv z.2.1,.ptr 9004 0,.ptr 9003 0]) (O:=λz:Pred×Int×Int=>[(9004,bx (z.2.2:Int)),(9003,.box [.clo 118 [] [.ptr 9004 0,.ptr 9003 0]])]) (E:=λr:Bool×Int=>[.bool r.1]) (M:=λ(z:Pred×Int×Int) (r:Bool×Int)=>[(9004,bx (r.2:Int)),(9003,.box [.clo 118 [] [.ptr 9004 0,.ptr 9003 0]])]) (b:=(λr (z:Pred×Int×Int)=>dS z.1 z.2.1 z.2.2 r)) Ze Ze Ze (λr hr z=>uA r hr z.1 z.2.1 z.2.2) 100000)
def jM (z:Pred):Option Bool:=
 (nI z 1 200).bind λu=>
 some u.1
instance Lj (u:Pred):Fc Sy cL (jM u):=Fc.M 83 [enc u] (cE 2 1 u (uv 26 (v_ u 1 200) λw _=>bh))
def iL (z:Trace) (p1:Int):Option Bool:=
 (bn (decide (p1>=0))
 (some (decide (p1<(len z.procs))))
 (some false):Option Bool).bind λu=>
 some u
instance Lm (u:Trace) (p1:Int):Fc Sy cL (iL u p1):=Fc.M 123 [enc u,.int .i64 p1] (cE 2 2 u (b8 8 6 [1,2,7] 13 (bG 8 7 (dP 3 u.procs (bu 2)) (bu 6)) λw=>bh))
def l8 (u:Var) (z:ByteArray):Option Bool:=
 some (ByteArray.toList u.name==ByteArray.toList z)
instance Jp (u:Var) (z:ByteArray):Fc Sy cL (l8 u z):=Fc.M 162 [enc u,.fptr (cells z)] (bh)
def ot (D:Trace) (p1:Int) (u:ByteArray):Option Bool:=
 (idx D.procs p1).bind λw=>
 (fP w.vars (λz=>l8 z u)).bind λB=>
 some B
instance Ls (B:Trace) (p1:Int) (u:ByteArray):Fc Sy cL (ot B p1 u):=Fc.M 124 [enc B,.int .i64 p1,.str u] (cE 2 3 B (cZ 9 λw _=>cA (F:=nC 162 [.fptr (cells u)] (λz=>l8 z u) gI.kY w.vars) 3 λC _=>bh))
def iS (u:Pred) (z:Trace):Option Bool:=
 bn (u.kind==2)
 ((iL z u.proc).bind λD=>
 (bn D
 (some (u.peer==0))
 (some false):Option Bool).bind λG=>
 (bn G
 ((ot z u.proc u.name).bind λI=>
 some I)
 (some false):Option Bool).bind λJ=>
 some J)
 (bn (u.kind==3)
 ((iL z u.proc).bind λL=>
 (bn L
 (some (u.peer==0))
 (some false):Option Bool).bind λO=>
 (bn O
 (some (ByteArray.toList u.name==ByteArray.toList ByteArray.empty))
 (some false):Option Bool).bind λQ=>
 some Q)
 (bn (u.kind==4)
 ((iL z u.proc).bind λS=>
 (bn S
 ((iL z u.peer).bind λT=>
 some T)
 (some false):Option Bool).bind λw=>
 (bn w
 (some (!(u.proc==u.peer)))
 (some false):Option Bool).bind λB=>
 (bn B
 (some (ByteArray.toList u.name==ByteArray.toList ByteArray.empty))
 (some false):Option Bool).bind λC=>
 some C)
 (some true)))
instance Gx (u:Pred) (z:Trace):Fc Sy cL (iS u z):=Fc.M 122 [enc u,.fptr (cells z)] (cE 2 2 u (bG 17 6 (bL 6 λD _=>b8 1 4 [12] 16 (bG 1 12 (bu 4) (bu 4)) λG=>b8 1 7 [1,2,17] 24 (bG 1 17 (bL 5 λI _=>bu 1) (bu 7)) λJ=>bh) (bG 7 25 (bL 6 λL _=>b8 1 4 [31] 35 (bG 1 31 (bu 4) (bu 4)) λO=>b8 1 4 [2,36] 40 (bG 1 36 (bu 4) (bu 4)) λQ=>bh) (bG 7 41 (bL 6 λS _=>b8 1 5 [1,47] 52 (bG 1 47 (bL 3 λT _=>bu 1) (bu 5)) λw=>b8 1 6 [53] 59 (bG 1 53 (bu 6) (bu 6)) λB=>b8 1 4 [2,60] 64 (bG 1 60 (bu 4) (bu 4)) λC=>bh) bh))))
def pI (z:Pred) (p1:Pred->Option Bool) (r:Pred->Option Bool):Option Bool:=
 (r z).bind λu=>
 some (!u)
abbrev xY (g1:FuncId) (e1:List V) (p1:Pred->Option Bool) (h1:gI Sy cL g1 [] e1 (λz:Pred=>[enc z]) (λr:Bool=>[.bool r]) p1 true) (r:Pred->Option Bool) (hr:iC Sy cL 103 (λz:Pred=>[enc z,.clo g1 [] e1]) (λr:Bool=>[.bool r]) r true) (u:Pred):Fc Sy cL (pI u p1 r):=Fc.M 146 [enc u,.fptr [.clo g1 [] e1]] (cE 2 2 u (bL (F:=Fc.of u hr) 7 λw _=>bh))
def gW (D:Pred) (p1:Pred->Option Bool) (r:Pred->Option Bool):Option Bool:=
 (p1 D).bind λw=>
 (bn w
 ((xB D.l (λx u=>((λz=>pI z p1 r) x).map λb=>(b,u)) ()).bind λB=>
 some (!B.1))
 (some false):Option Bool).bind λC=>
 some C
theorem yN (g1:FuncId) (e1:List V) (p1:Pred->Option Bool) (h1:gI Sy cL g1 [] e1 (λz:Pred=>[enc z]) (λr:Bool=>[.bool r]) p1 true) (r:Pred->Option Bool) (hr:iC Sy cL 103 (λz:Pred=>[enc z,.clo g1 [] e1]) (λr:Bool=>[.bool r]) r true) (u:Pred):Le ((gW u p1 r).bind λr=>some [.bool r]) (iQ cL 103 [enc u,.clo g1 [] e1]):=
 (Fc.M 103 [enc u,.clo g1 [] e1] (cE 2 2 u (tC 8 h1.f u λB _=>wC 1 6 [] (λw=>(dz [Bv 14 w] [Xb 2 u])) (bG 1 8 (ir 2 10 (Pred.jX u.l) (uv 2 (jU (vP.Qg (g:=146) (e:=[.fptr [.clo g1 [] e1]]) (p:=(λz=>pI z p1 r)) (gI.kY (F:=λz=>xY g1 e1 p1 h1 r hr z))) u.l ()) λC _=>bu 2)) (bu 7)) λw=>bh)):Fc Sy cL (gW u p1 r)).F.h ()
def kO (u:Pred) (p1:Pred->Option Bool):Option Bool:=fH (λr (z:Pred)=>gW z p1 r) 100000 u
abbrev qF (g1:FuncId) (e1:List V) (p1:Pred->Option Bool) (h1:gI Sy cL g1 [] e1 (λz:Pred=>[enc z]) (λr:Bool=>[.bool r]) p1 true) (u:Pred):Fc Sy cL (kO u p1):=Fc.of u (iC.fix (A:=λz:Pred=>[enc z,.clo g1 [] e1]) (E:=λr:Bool=>[.bool r]) (sc:=true) (b:=(λr (z:Pred)=>gW z p1 r)) Ze (λ_ _=>rfl) (λr hr z=>yN g1 e1 p1 h1 r hr z) 100000)
def lX (B:Trace) (p1:Pred):Option Bool:=
 (kO p1 (λz=>iS z B)).bind λu=>
 some u
instance Jr (u:Trace) (p1:Pred):Fc Sy cL (lX u p1):=Fc.M 84 [enc u,enc p1] (cE 2 2 u (cE 0 3 p1 (cA (F:=qF 122 [.fptr (cells u)] (λz=>iS z u) gI.kY p1) 7 λw _=>bh)))
def jO (u:Int):Option Int:=
 bn (decide (u<=8))
 (some 1)
 (some 2)
instance Lk (u:Int):Fc Sy cL (jO u):=Fc.M 56 [.int .i64 u] (bG 12 4 bh bh)
def o6 (u:Int):Option Int:=
 bn (decide (u<=12))
 (some 1)
 (some 2)
instance Nh (u:Int):Fc Sy cL (o6 u):=Fc.M 127 [.int .i64 u] (bG 12 4 bh bh)
def ki (z B:Pred):Option Bool:=
 (jO z.kind).bind λu=>
 (o6 B.kind).bind λw=>
 some (!(u==w))
instance Gk (u z:Pred):Fc Sy cL (ki u z):=Fc.M 126 [enc u,.fptr (cells z)] (cE 2 2 u (cA 7 λw _=>cA 2 λB _=>bh))
def gQ (B:Pred):Option Bool:=
 (xB B.l (λx u=>((λz=>ki z B) x).map λb=>(b,u)) ()).bind λw=>
 some (!w.1)
instance Jn (u:Pred):Fc Sy cL (gQ u):=Fc.M 125 [enc u] (cE 2 1 u (ir 7 4 (Pred.jX u.l) (uv 2 (jU (vP.Qg (g:=126) (e:=[.fptr (cells u)]) (p:=(λz=>ki z u)) gI.kY) u.l ()) λw _=>bh)))
def mA (B:Pred):Option Bool:=
 (kO B (λz=>gQ z)).bind λu=>
 some u
instance LS (u:Pred):Fc Sy cL (mA u):=Fc.M 85 [enc u] (cE 2 1 u (bL (F:=qF 125 [] (λz=>gQ z) gI.kY u) 6 λw _=>bh))
namespace ec
def dL (B:Sl Int) (z i4:Int):Option (Fw (Int×Int) Int Empty):=
 bn (decide (i4<(len B)))
 ((idx B i4).bind λu=>
 some (.n ((if u<z then u else z),IntKind.wrap .i64 (i4+1))))
 (some (.x z))
def W2 (u:Sl Int) (z i4:Int):Option Int:=
 (c_ (λq:Int×Int=>dL u q.1 q.2) (z,i4)).bind (Fw.elim
 (λe=>some e)
 (λe=>Empty.elim e))
def J1 (z:Sl Int):Option Int:=
 (idx z 0).bind λu=>
 ec.W2 z u 1
end ec
def ec (u:Sl Int):Option Int:=
 bn (decide ((len u)<1))
 (none)
 (ec.J1 u)
open ec in
instance Mr (z:Sl Int):Fc Sy cL (ec z):=Fc.M 131 [enc z] (dP 9 z (bG 3 7 ((Le.none _)) (u_ 4 (cZ 3 λB _=>qu 12 (λu=>(dz [Cv 0 z,Iv 3 u.1,Iv 4 u.2] [])) (λw=>(0,(dz [Iv 3 w] []))) (λu=>dP 6 z (bG 3 15 (cZ 9 λC _=>bh) bh)) (λw=>bh)))))
namespace dZ
def dL (B:Sl Int) (z i4:Int):Option (Fw (Int×Int) Int Empty):=
 bn (decide (i4<(len B)))
 ((idx B i4).bind λu=>
 some (.n ((if u>z then u else z),IntKind.wrap .i64 (i4+1))))
 (some (.x z))
def W2 (u:Sl Int) (z i4:Int):Option Int:=
 (c_ (λq:Int×Int=>dL u q.1 q.2) (z,i4)).bind (Fw.elim
 (λe=>some e)
 (λe=>Empty.elim e))
def J1 (z:Sl Int):Option Int:=
 (idx z 0).bind λu=>
 dZ.W2 z u 1
end dZ
def dZ (u:Sl Int):Option Int:=
 bn (decide ((len u)<1))
 (none)
 (dZ.J1 u)
open dZ in
instance MX (z:Sl Int):Fc Sy cL (dZ z):=Fc.M 132 [enc z] (dP 9 z (bG 3 7 ((Le.none _)) (u_ 4 (cZ 3 λB _=>qu 12 (λu=>(dz [Cv 0 z,Iv 3 u.1,Iv 4 u.2] [])) (λw=>(0,(dz [Iv 3 w] []))) (λu=>dP 6 z (bG 3 15 (cZ 9 λC _=>bh) bh)) (λw=>bh)))))
def jR (z:Sl Int):Option bC:=
 (ec z).bind λu=>
 (dZ z).bind λw=>
 some ⟨u,w⟩
instance NV (u:Sl Int):Fc Sy cL (jR u):=Fc.M 89 [enc u] (bL 8 λw _=>bL 1 λz _=>bh)
namespace eu
def cr (G:Int) (z:Sl Event) (B:Int) (D u:Int):Option (Fw (Int×Int) Int Empty):=
 bn (decide (u<B))
 ((idx z u).bind λw=>
 (bn (w.kind==2)
 (some (w.peer==G))
 (some false):Option Bool).bind λC=>
 bn C
 (some (.n (IntKind.wrap .i64 (D+1),IntKind.wrap .i64 (u+1))))
 (some (.n (D,IntKind.wrap .i64 (u+1)))))
 (some (.x D))
def W1 (D G:Int) (u:Sl Event) (z B:Int):Option Int:=
 (c_ (λq:Int×Int=>cr D u z q.1 q.2) (G,B)).bind (Fw.elim
 (λe=>some e)
 (λe=>Empty.elim e))
end eu
def eu (z:Trace) (p1 B:Int):Option Int:=
 (idx z.procs p1).bind λu=>
 eu.W1 B 0 u.events (len u.events) 0
open eu in
instance Jo (B:Trace) (p1 D:Int):Fc Sy cL (eu B p1 D):=Fc.M 129 [enc B,.int .i64 p1,.int .i64 D] (cE 2 3 B (cZ 14 λu _=>dP 2 u.events (qu 5 (λw=>(dz [Iv 2 D,Iv 7 w.1,Cv 15 u.events,Iv 16 (len u.events),Iv 17 w.2] [])) (λz=>(0,(dz [Iv 7 z] []))) (λw=>bG 7 18 (cZ 7 λC _=>qI 2 9 0 C (b8 8 5 [9,24] 29 (bG 8 24 (bu 5) (bu 5)) λG=>bG 2 29 bh bh)) bh) (λz=>bh))))
def lW (u:Var) (z:ByteArray):Option Bool:=
 some (ByteArray.toList u.name==ByteArray.toList z)
instance Jl (u:Var) (z:ByteArray):Fc Sy cL (lW u z):=Fc.M 201 [enc u,.fptr (cells z)] (bh)
def qN (B:bS) (u:ByteArray):Option Int:=
 (ey B.vars (λz=>lW z u)).bind λw=>
 some w
instance Nf (B:bS) (u:ByteArray):Fc Sy cL (qN B u):=Fc.M 190 [enc B,.str u] (cE 2 2 B (cA (F:=lH 201 [.fptr (cells u)] (λz=>lW z u) gI.kY B.vars) 9 λw _=>bh))
def pg (z:Trace) (p1:Int) (u:ByteArray):Option (Int×Int):=
 (dA z).bind λB=>
 bn B
 ((bn (decide (p1<0))
 (some true)
 (some (decide (p1>=(len z.procs)))):Option Bool).bind λC=>
 bn C
 (some (0,2))
 ((idx z.procs p1).bind λD=>
 (qN D u).bind λw=>
 bn (decide (w<0))
 (some (0,13))
 (some (w,0))))
 (some (0,1))
instance N1 (z:Trace) (p1:Int) (u:ByteArray):Fc Sy cL (pg z p1 u):=Fc.M 163 [enc z,.int .i64 p1,.str u] (cE 2 3 z (bL 9 λw _=>eB 4 9 (b8 6 6 [16] 22 (bG 6 16 (bu 6) (dP 3 z.procs (bu 2))) λB=>bG 3 13 bh (cZ 9 λC _=>bL 2 λD _=>bG 10 31 bh bh)) bh))
def fU (s0:Sl Int):Option (Sl Int):=
 (Sl.isNil s0).bind λu=>
 bn u
 (some Sl.nil)
 ((wO (Sl.row []:Sl Int) s0).bind λw=>
 some w)
theorem mg:Aw Sy cL 168 (λs0:Sl Int=>[enc s0]) (λz=>fU z):=Aw.mk' (oO (Tx 168)) (λs0=>QO 9 λu _=>bG 2 4 bh (Kw 7 5 7 λw _=>bh))
def k_ (u:bS):Option bS:=
 some u
instance Li (u:bS):Fc Sy cL (k_ u):=Fc.NE (λr:bS=>[(.clo 179 [] [.fptr (cells r)])]) 145 [enc u] (cE 2 1 u bh)
namespace eS
def iD (z:bS) (B:Int) (x:Int×(Sl Int)) (u:Sl Int):Option (Fw (Sl Int) Empty Empty):=
 (idx x.2 B).bind λw=>
 (je u (w:Int)).bind λC=>
 some (.n C)
def E1 (u:bS) (B:Int) (z:Sl Int):Option (Sl Int):=
 (gX u).bind λw=>(jh (λ(x:Int×(Sl Int)) (q:Sl Int)=>iD u B x q) w z).bind (Fw.oB
 (λq=>some q)
 (λe=>Empty.elim e)
 (λe=>Empty.elim e))
end eS
def eS (z:bS) (i1:Int):Option (Sl Int):=
 (k_ z).bind λu=>
 eS.E1 u i1 (Sl.nil:Sl Int)
open eS in
instance Ll (D:bS) (i1:Int):Fc Sy cL (eS D i1):=Fc.N 164 [enc D,.int .i64 i1] (cE 2 2 D (bL 13 λz _=>BW λC B=>y6 5 [Pv 3,Pv 5,(9,.v (.clo 179 [] [.fptr (cells z)]))] (λu=>[(3,.box [iv i1]),(5,.box [.own 4100]),Lb 4100 u]) (λw=>Empty.elim w) (λw=>Empty.elim w) (Di z C B) (λG u=>vF 3 (cZ 7 λI _=>AL 2 4100 17 18 λJ _=>bh)) (λu=>bh) (λx=>Empty.elim x) (λx=>Empty.elim x)))
def ox (G:Trace) (p1:Int) (u:ByteArray):Option (Int×Int×Int):=
 (pg G p1 u).bind λw=>
 bn (w.2==0)
 ((idx G.procs p1).bind λB=>
 (eS B w.1).bind λz=>
 (ec z).bind λC=>
 (dZ z).bind λD=>
 some (C,D,0))
 (some (0,0,w.2))
instance Mq (z:Trace) (p1:Int) (u:ByteArray):Fc Sy cL (ox z p1 u):=Fc.M 130 [enc z,.int .i64 p1,.str u] (cE 2 3 z (bL 10 λw _=>eB 14 19 (cZ 8 λB _=>bL 2 λC _=>bL 6 λD _=>bL 1 λG _=>bh) bh))
def fm (z:Trace) (p1:Pred):Option bC:=
 bn (p1.kind==1)
 ((jR (Sl.row [p1.n]:Sl Int)).bind λw=>
 some w)
 (bn (p1.kind==3)
 ((idx z.procs p1.proc).bind λB=>
 some ⟨0,len B.events⟩)
 (bn (p1.kind==4)
 ((eu z p1.proc p1.peer).bind λC=>
 some ⟨0,C⟩)
 ((ox z p1.proc p1.name).bind λu=>
 some ⟨u.1,u.2.1⟩)))
instance NK (u:Trace) (p1:Pred):Fc Sy cL (fm u p1):=Fc.M 87 [enc u,enc p1] (cE 2 2 u (cE 0 3 p1 (bG 17 10 (cA 6 λz _=>bh) (bG 7 16 (cZ 7 λw _=>dP 2 w.events bh) (bG 7 27 (bL 8 λB _=>bh) (bL 11 λC _=>bh))))))
def gJ (z:bC):Option Bool:=
 (bn (decide (z.low<(-1125899906842624)))
 (some true)
 (some (decide (z.high>1125899906842624))):Option Bool).bind λu=>
 some u
instance DG (u:bC):Fc Sy cL (gJ u):=Fc.M 88 [enc u] (b8 12 4 [1,6] 10 (bG 12 6 (bu 4) (bu 4)) λw=>bh)
def nU (a0:Int):Option Int:=
 some (if(IntKind.wrap .i64 (0-a0))>a0 then(IntKind.wrap .i64 (0-a0))else a0)
instance OU (a0:Int):Fc Sy cL (nU a0):=Fc.M 133 [.int .i64 a0] (bh)
def fQ (a0 u:Int):Option Int:=
 (bn (a0==0)
 (some true)
 (some (u==0)):Option Bool).bind λw=>
 bn w
 (some 0)
 ((nU a0).bind λz=>
 (nU u).bind λB=>
 (sX .i64 1125899906842624 B).bind λC=>
 bn (decide (z>C))
 (bn ((decide (a0<0))==(decide (u<0)))
 (some 1125899906842625)
 (some (IntKind.wrap .i64 (0-1125899906842625))))
 (some (IntKind.wrap .i64 (a0*u))))
instance KI (a0 u:Int):Fc Sy cL (fQ a0 u):=Fc.M 90 [.int .i64 a0,.int .i64 u] (b8 11 3 [8] 11 (bG 11 8 (bu 3) (bu 3)) λw=>bG 2 11 bh (bL 15 λz _=>bL 1 λB _=>Qm 0 λC _=>bG 3 20 (eB 15 25 bh bh) bh))
namespace cC
def J2 (z u:bC) (r:(Trace×Pred)->Option (bC×Bool)):Option (bC×Bool):=
 (gJ u).bind λw=>
 some (u,(!w))
def J1 (J G:Bool) (D:Pred) (B u z:bC) (r:(Trace×Pred)->Option (bC×Bool)):Option (bC×Bool):=
 (bn J
 (some (!G))
 (some true):Option Bool).bind λL=>
 bn L
 (some (⟨0,0⟩,false))
 (bn (D.kind==5)
 (cC.J2 B (⟨IntKind.wrap .i64 (0-u.high),IntKind.wrap .i64 (0-u.low)⟩:bC) r)
 (bn (D.kind==6)
 (cC.J2 B (⟨IntKind.wrap .i64 (u.low+z.low),IntKind.wrap .i64 (u.high+z.high)⟩:bC) r)
 (bn (D.kind==7)
 (cC.J2 B (⟨IntKind.wrap .i64 (u.low-z.high),IntKind.wrap .i64 (u.high-z.low)⟩:bC) r)
 ((fQ u.low z.low).bind λO=>
 (fQ u.low z.high).bind λQ=>
 (fQ u.high z.low).bind λw=>
 (fQ u.high z.high).bind λC=>
 (jR (Sl.row [O,Q,w,C]:Sl Int)).bind λI=>
 cC.J2 B I r))))
theorem jI (r:(Trace×Pred)->Option (bC×Bool)) (hr:iC Sy cL 57 (λz:Trace×Pred=>[enc z.1,enc z.2]) (λr:bC×Bool=>[enc r.1,.bool r.2]) r true) (D B:Bool) (G:Pred) (J T U:bC):Le ((J1 D B G J T U r).bind (λr=>some [enc r.1,.bool r.2])) (b7 Sy cL (nq (tr Tx 57)) (oM (tb Tx 57) [1,1,1,1,1,0] [] (dz [Pv 3,Pv 4,Pv 7,Bv 8 D,Pv 9,Bv 10 B] [Xb 3 G,Xb 4 J,Xb 7 T,Xb 9 U]))):=
 b8 6 3 [10,48] 51 (eB 6 48 (bu 3) (bu 3)) λL=>bG 2 51 bh (bG 22 77 (u_ 14 (cA 4 λu _=>bh)) (bG 7 86 (u_ 18 (cA 4 λu _=>bh)) (bG 7 99 (u_ 18 (cA 4 λu _=>bh)) (cA 6 λO _=>cA 4 λQ _=>cA 4 λw _=>cA 4 λC _=>cA 1 λI _=>u_ 5 (cA 4 λu _=>bh)))))
end cC
def cn (B:Trace) (p1:Pred) (r:(Trace×Pred)->Option (bC×Bool)):Option (bC×Bool):=
 bn ((len p1.l)==0)
 ((fm B p1).bind λw=>
 (gJ w).bind λC=>
 some (w,(!C)))
 ((idx p1.l 0).bind λD=>
 (r (B,D)).bind λu=>
 bn ((len p1.l)==2)
 ((idx p1.l 1).bind λG=>
 (r (B,G)).bind λz=>
 cC.J1 u.2 z.2 p1 (⟨0,0⟩:bC) u.1 z.1 r)
 (cC.J1 u.2 true p1 (⟨0,0⟩:bC) u.1 u.1 r))
open cC in
theorem wE (r:(Trace×Pred)->Option (bC×Bool)) (hr:iC Sy cL 57 (λz:Trace×Pred=>[enc z.1,enc z.2]) (λr:bC×Bool=>[enc r.1,.bool r.2]) r true) (B:Trace) (p1:Pred):Le ((cn B p1 r).bind λr=>some [enc r.1,.bool r.2]) (iQ cL 57 [enc B,enc p1]):=
 (Fc.M 57 [enc B,enc p1] (cE 2 2 B (cE 0 3 p1 (ir 9 13 (Pred.jX p1.l) (dP 0 p1.l (bG 3 15 (bL 5 λG _=>cA 8 λI _=>bh) (ir 8 26 (Pred.jX p1.l) (cZ 0 λC _=>cA (F:=Fc.of (B,C) hr) 1 λu _=>ir 21 34 (Pred.jX p1.l) (dP 0 p1.l (bG 3 36 (ir 5 40 (Pred.jX p1.l) (cZ 0 λD _=>cA (F:=Fc.of (B,D) hr) 1 λw _=>qB 8 (jI r hr u.2 w.2 p1 (⟨0,0⟩:bC) u.1 w.1))) (qB 4 (jI r hr u.2 true p1 (⟨0,0⟩:bC) u.1 u.1))))))))))):Fc Sy cL (cn B p1 r)).F.h ()
def cC (u:Trace) (p1:Pred):Option (bC×Bool):=fH (λr (z:Trace×Pred)=>cn z.1 z.2 r) 100000 (u,p1)
instance Lh (u:Trace) (p1:Pred):Fc Sy cL (cC u p1):=Fc.of (u,p1) (iC.fix (A:=λz:Trace×Pred=>[enc z.1,enc z.2]) (E:=λr:bC×Bool=>[enc r.1,.bool r.2]) (sc:=true) (b:=(λr (z:Trace×Pred)=>cn z.1 z.2 r)) Ze (λ_ _=>rfl) (λr hr z=>wE r hr z.1 z.2) 100000)
def lV (z:Pred) (B:Trace) (r:(Trace×Pred)->Option Bool):Option Bool:=
 (r (B,z)).bind λu=>
 some (!u)
abbrev xz (r:(Trace×Pred)->Option Bool) (hr:iC Sy cL 86 (λz:Trace×Pred=>[enc z.1,enc z.2]) (λr:Bool=>[.bool r]) r true) (u:Pred) (B:Trace):Fc Sy cL (lV u B r):=Fc.M 128 [enc u,.fptr (cells B)] (cE 2 2 u (bL (F:=Fc.of (B,u) hr) 7 λw _=>bh))
def en (D:Trace) (p1:Pred) (r:(Trace×Pred)->Option Bool):Option Bool:=
 (jO p1.kind).bind λw=>
 bn (w==1)
 ((cC D p1).bind λB=>
 some B.2)
 ((xB p1.l (λx u=>((λz=>lV z D r) x).map λb=>(b,u)) ()).bind λC=>
 some (!C.1))
theorem xy (r:(Trace×Pred)->Option Bool) (hr:iC Sy cL 86 (λz:Trace×Pred=>[enc z.1,enc z.2]) (λr:Bool=>[.bool r]) r true) (u:Trace) (p1:Pred):Le ((en u p1 r).bind λr=>some [.bool r]) (iQ cL 86 [enc u,enc p1]):=
 (Fc.M 86 [enc u,enc p1] (cE 2 2 u (cE 0 3 p1 (bL 8 λw _=>bG 3 10 (bL 5 λB _=>bh) (ir 7 19 (Pred.jX p1.l) (uv 2 (jU (vP.Qg (g:=128) (e:=[.fptr (cells u)]) (p:=(λz=>lV z u r)) (gI.kY (F:=λz=>xz r hr z u))) p1.l ()) λC _=>bh))))):Fc Sy cL (en u p1 r)).F.h ()
def og (u:Trace) (p1:Pred):Option Bool:=fH (λr (z:Trace×Pred)=>en z.1 z.2 r) 100000 (u,p1)
instance MD (u:Trace) (p1:Pred):Fc Sy cL (og u p1):=Fc.of (u,p1) (iC.fix (A:=λz:Trace×Pred=>[enc z.1,enc z.2]) (E:=λr:Bool=>[.bool r]) (sc:=true) (b:=(λr (z:Trace×Pred)=>en z.1 z.2 r)) Ze (λ_ _=>rfl) (λr hr z=>xy r hr z.1 z.2) 100000)
def kA (u:Trace) (p1:Pred):Option Int:=
 (dA u).bind λw=>
 (bn w
 ((jM p1).bind λz=>
 some (!z))
 (some true):Option Bool).bind λB=>
 bn B
 (some 1)
 ((lX u p1).bind λC=>
 bn C
 ((mA p1).bind λD=>
 bn D
 ((og u p1).bind λG=>
 bn G
 (some 0)
 (some 9))
 (some 14))
 (some 13))
instance L7 (u:Trace) (p1:Pred):Fc Sy cL (kA u p1):=Fc.M 55 [enc u,enc p1] (cE 2 2 u (cE 0 3 p1 (bL 8 λw _=>b8 2 4 [9] 13 (eB 2 9 (bL 1 λz _=>bu 2) (bu 4)) λB=>bG 3 5 bh (bL 5 λC _=>eB 4 14 (bL 4 λD _=>eB 4 19 (bL 5 λG _=>eB 4 23 bh bh) bh) bh))))
def iJ (u:Sl Int) (z:Trace):Option Bool:=
 some (!((len u)==(len z.procs)))
instance Pg (u:Sl Int) (z:Trace):Fc Sy cL (iJ u z):=Fc.M 195 [enc u,.fptr (cells z)] (dP 8 u (dP 2 z.procs bh))
namespace fI
def cr (s0:Sl (Sl Int)) (B:Int) (u:Int) (p1:(Sl Int)->Option Bool):Option (Fw Int Unit Int):=
 bn (decide (u<B))
 ((idx s0 u).bind λw=>
 (p1 w).bind λz=>
 bn z
 (some (.r u))
 (some (.n (IntKind.wrap .i64 (u+1)))))
 (some (.x ()))
def W1 (s0:Sl (Sl Int)) (u z:Int) (p1:(Sl Int)->Option Bool):Option Int:=
 (c_ (λq:Int=>cr s0 u q p1) z).bind (Fw.elim
 (λe=>some (-1))
 (λe=>some e))
end fI
def fI (s0:Sl (Sl Int)) (p1:(Sl Int)->Option Bool):Option Int:=
 fI.W1 s0 (len s0) 0 p1
open fI in
abbrev uC (g1:FuncId) (e1:List V) (p1:(Sl Int)->Option Bool) (h1:gI Sy cL g1 [] e1 (λz:Sl Int=>[enc z]) (λr:Bool=>[.bool r]) p1 true) (s0:Sl (Sl Int)):Fc Sy cL (fI s0 p1):=Fc.M 213 [enc s0,.clo g1 [] e1] (dP 9 s0 (jP 5 (λw=>(dz [Cv 0 s0,(1,.v (.clo g1 [] e1)),Iv 7 (len s0),Iv 8 w] [])) (λu=>(0,(dz [] []))) (λu=>(dz [Iv 4 u] [])) (λw=>bG 7 9 (cZ 16 λB _=>tC 1 h1.f B λC _=>bG 2 16 bh bh) bh) (λu=>bh) (λu=>bh)))
def iN (s0:Sl (Sl Int)) (p1:(Sl Int)->Option Bool):Option Bool:=
 (fI s0 p1).bind λu=>
 some (decide (u>=0))
abbrev sM (g1:FuncId) (e1:List V) (p1:(Sl Int)->Option Bool) (h1:gI Sy cL g1 [] e1 (λz:Sl Int=>[enc z]) (λr:Bool=>[.bool r]) p1 true) (s0:Sl (Sl Int)):Fc Sy cL (iN s0 p1):=Fc.M 194 [enc s0,.clo g1 [] e1] (bL (F:=uC g1 e1 p1 h1 s0) 9 λu _=>bh)
def uH (D:Trace) (G:Sl (Sl Int)):Option Bool:=
 (dA D).bind λu=>
 (bn u
 ((iN G (λz=>iJ z D)).bind λw=>
 some (!w))
 (some false):Option Bool).bind λB=>
 some B
instance Rk (u:Trace) (B:Sl (Sl Int)):Fc Sy cL (uH u B):=Fc.M 175 [enc u,enc B] (cE 2 2 u (bL 6 λw _=>b8 1 5 [1,2,7] 12 (bG 1 7 (cA (F:=sM 195 [.fptr (cells u)] (λz=>iJ z u) gI.kY B) 2 λC _=>bu 2) (bu 5)) λD=>bh))
namespace iH
def cr (D:Sl Int) (G:Int) (B:Trace) (z:Int):Option (Fw Int Unit Unit):=
 bn (decide (z<G))
 ((idx D z).bind λu=>
 (bn (decide (u<0))
 (some true)
 ((idx B.procs z).bind λw=>
 some (decide (u>(len w.events)))):Option Bool).bind λC=>
 bn C
 (some (.r ()))
 (some (.n (IntKind.wrap .i64 (z+1)))))
 (some (.x ()))
def W1 (z:Sl Int) (B D:Int) (u:Trace):Option Bool:=
 (c_ (λq:Int=>cr z B u q) D).bind (Fw.elim
 (λe=>some true)
 (λe=>some false))
end iH
def iH (z:Trace) (u:Sl Int):Option Bool:=
 iH.W1 u (len u) 0 z
open iH in
instance PS (B:Trace) (z:Sl Int):Fc Sy cL (iH B z):=Fc.M 176 [enc B,enc z] (cE 2 2 B (dP 7 z (jP 5 (λw=>(dz [Pv 2,Cv 7 z,Iv 8 (len z),Iv 9 w] [Xb 2 B])) (λu=>(0,(dz [] []))) (λu=>(dz [Bv 4 false] [])) (λw=>bG 7 10 (cZ 8 λD _=>b8 10 10 [5,6,16] 26 (bG 10 16 (bu 10) (cZ 4 λC _=>dP 2 C.events (bu 2))) λG=>bG 2 26 bh bh) bh) (λu=>bh) (λu=>bh))))
def rI (z:Trace) (p1:Int):Option Bool:=
 (bn (decide (p1>=0))
 (some (decide (p1<(len z.procs))))
 (some false):Option Bool).bind λu=>
 some u
instance PW (u:Trace) (p1:Int):Fc Sy cL (rI u p1):=Fc.M 177 [enc u,.int .i64 p1] (cE 2 2 u (b8 8 6 [1,2,7] 13 (bG 8 7 (dP 3 u.procs (bu 2)) (bu 6)) λw=>bh))
namespace gn
def iD (z:Trace) (u B:Int) (D:aZ) (G:Bool) (x:aZ×Event):Option (Fw Unit Empty aZ):=
 (bn (x.2.kind==u)
 (some (x.2.message==B))
 (some false):Option Bool).bind λw=>
 bn w
 (some (.r x.1))
 (some (.n ()))
def E1 (u:Trace) (z B:Int) (D:aZ) (G:Bool):Option (aZ×Bool):=
 (gZ u).bind λw=>(jh (λ(x:aZ×Event) (q:Unit)=>iD u z B D G x) w ()).bind (Fw.oB
 (λq=>some (⟨0,0⟩,false))
 (λe=>Empty.elim e)
 (λe=>some (e,true)))
end gn
def gn (B:Trace) (u D:Int):Option (aZ×Bool):=
 (dA B).bind λw=>
 bn w
 ((hD B).bind λz=>
 gn.E1 z u D (⟨0,0⟩:aZ) false)
 (some (⟨0,0⟩,false))
open gn in
instance Q0 (G:Trace) (u D:Int):Fc Sy cL (gn G u D):=Fc.M 180 [enc G,.int .i64 u,.int .i64 D] (cE 2 3 G (bL 10 λL _=>eB 3 12 (bL 7 λz _=>BW λI B=>y6 4 [Pv 4,Pv 5,Pv 6,Pv 7,(15,.v (.clo 184 [] [.fptr (cells z)]))] (λC=>[(4,.box [iv u]),(5,.box [iv D]),Xb 6 (⟨0,0⟩:aZ),(7,.box [bv false])]) (λw=>Empty.elim w) (λw=>[(4,.box [iv u]),(5,.box [iv D]),Xb 6 w,(7,.box [bv true])]) (wB z I B) (λJ C=>qI 8 9 0 J.2 (vF 1 (b8 9 5 [9,22] 27 (bG 9 22 (bu 5) (bu 5)) λO=>bG 2 27 bh bh))) (λC=>bh) (λx=>Empty.elim x) (λw=>bh)) bh))
def qp (z:Trace) (m1:Int):Option (aZ×Bool):=
 (gn z 2 m1).bind λu=>
 some (u.1,u.2)
instance OK (u:Trace) (m1:Int):Fc Sy cL (qp u m1):=Fc.M 166 [enc u,.int .i64 m1] (cE 2 2 u (bL 8 λw _=>bh))
namespace f_
def dL (U:Sl Int) (p7:Int) (W:Sl Int) (Y aa:Int) (G:Sl Event) (J:Int) (T:Trace) (D z:aZ) (u:Int):Option (Fw Int Unit (aZ×aZ)):=
 bn (decide (u<J))
 ((idx G u).bind λB=>
 bn (B.kind==3)
 ((qp T B.message).bind λw=>
 (idx U w.1.proc).bind λC=>
 bn (decide (w.1.index>C))
 (some (.r (w.1,(⟨p7,IntKind.wrap .i64 (u+1)⟩:aZ))))
 (some (.n (IntKind.wrap .i64 (u+1)))))
 (some (.n (IntKind.wrap .i64 (u+1)))))
 (some (.x ()))
def W2 (Y:Sl Int) (p7:Int) (D:Sl Int) (G B:Int) (J:Sl Event) (T U:Int) (W:Trace) (z u:aZ):Option (Fw Int Unit (aZ×aZ)):=
 (c_ (λq:Int=>dL Y p7 D G B J T W z u q) U).bind (Fw.elim
 (λe=>some (.n (IntKind.wrap .i64 (B+1))))
 (λe=>some (.r (e.1,e.2))))
def cr (T D:Sl Int) (G:Int) (J:Trace) (B u:aZ) (z:Int):Option (Fw Int Unit (aZ×aZ)):=
 bn (decide (z<G))
 ((idx D z).bind λC=>
 (idx J.procs z).bind λI=>
 (iI I.events none (some C)).bind λw=>
 W2 T z D G z w (len w) 0 J B u)
 (some (.x ()))
def W1 (T B:Sl Int) (D G:Int) (J:Trace) (z u:aZ):Option (aZ×aZ×Bool):=
 (c_ (λq:Int=>cr T B D J z u q) G).bind (Fw.elim
 (λe=>some (⟨0,0⟩,⟨0,0⟩,false))
 (λe=>some (e.1,e.2,true)))
end f_
def f_ (z:Trace) (u:Sl Int):Option (aZ×aZ×Bool):=
 f_.W1 u u (len u) 0 z (⟨0,0⟩:aZ) (⟨0,0⟩:aZ)
open f_ in
instance PY (D:Trace) (u:Sl Int):Fc Sy cL (f_ D u):=Fc.M 196 [enc D,enc u] (cE 2 2 D (dP 9 u (jP 5 (λw=>(dz [Cv 1 u,Pv 2,Pv 4,Pv 5,Cv 13 u,Iv 14 (len u),Iv 15 w] [Xb 2 D,Xb 4 (⟨0,0⟩:aZ),Xb 5 (⟨0,0⟩:aZ)])) (λz=>(0,(dz [Pv 4,Pv 5] [Xb 4 (⟨0,0⟩:aZ),Xb 5 (⟨0,0⟩:aZ)]))) (λz=>(dz [Pv 4,Pv 5,Bv 6 true] [Xb 4 z.1,Xb 5 z.2])) (λw=>bG 7 16 (cZ 8 λI _=>cZ 10 λL _=>FG 3 false true [.int .i64 I] λC _=>dP 0 C (jP 5 (λG=>(dz [Cv 1 u,Pv 2,Pv 4,Pv 5,Iv 7 w,Cv 13 u,Iv 14 (len u),Iv 15 w,Cv 27 C,Iv 28 (len C),Iv 29 G] [Xb 2 D,Xb 4 (⟨0,0⟩:aZ),Xb 5 (⟨0,0⟩:aZ)])) (λB=>(2,(dz [Cv 1 u,Pv 2,Pv 4,Pv 5,Cv 13 u,Iv 14 (len u),Iv 15 w] [Xb 2 D,Xb 4 (⟨0,0⟩:aZ),Xb 5 (⟨0,0⟩:aZ)]))) (λB=>(dz [Pv 4,Pv 5,Bv 6 true] [Xb 4 B.1,Xb 5 B.2])) (λG=>bG 7 30 (cZ 8 λJ _=>qI 3 10 0 J (eB 10 36 (bL 8 λO _=>cZ 15 λQ _=>bG 4 51 bh bh) bh)) bh) (λB=>bh) (λB=>bh))) bh) (λz=>bh) (λz=>bh))))
def s_ (z:Trace) (B:Sl Int):Option Bool:=
 (f_ z B).bind λu=>
 some (!u.2.2)
instance Qd (u:Trace) (z:Sl Int):Fc Sy cL (s_ u z):=Fc.M 178 [enc u,enc z] (cE 2 2 u (bL 7 λw _=>bh))
namespace cW
def kN (z:Sl (Sl Int)) (B:Int) (D:Trace) (u:Int):Option (Fw Int Unit Unit):=
 bn (decide (u<B))
 ((idx z u).bind λw=>
 (s_ D w).bind λC=>
 bn C
 (some (.n (IntKind.wrap .i64 (u+1))))
 (some (.r ())))
 (some (.x ()))
def W3 (u:Sl (Sl Int)) (z B:Int) (D:Trace):Option Int:=
 (c_ (λq:Int=>kN u z D q) B).bind (Fw.elim
 (λe=>some 0)
 (λe=>some 18))
def dL (G:Sl (Sl Int)) (z:Sl Int) (B:Int) (D:Trace) (u:Int):Option (Fw Int Unit Unit):=
 bn (decide (u<B))
 ((idx z u).bind λw=>
 (rI D w).bind λC=>
 bn C
 (some (.n (IntKind.wrap .i64 (u+1))))
 (some (.r ())))
 (some (.x ()))
def W2 (z:Sl (Sl Int)) (B:Sl Int) (D G:Int) (u:Trace):Option Int:=
 (c_ (λq:Int=>dL z B D u q) G).bind (Fw.elim
 (λe=>cW.W3 z (len z) 0 u)
 (λe=>some 2))
def cr (J:Sl (Sl Int)) (z:Sl Int) (B:Sl (Sl Int)) (D:Int) (G:Trace) (u:Int):Option (Fw Int Unit Unit):=
 bn (decide (u<D))
 ((idx B u).bind λw=>
 (iH G w).bind λC=>
 bn C
 (some (.n (IntKind.wrap .i64 (u+1))))
 (some (.r ())))
 (some (.x ()))
def W1 (J:Sl (Sl Int)) (u:Sl Int) (B:Sl (Sl Int)) (D G:Int) (z:Trace):Option Int:=
 (c_ (λq:Int=>cr J u B D z q) G).bind (Fw.elim
 (λe=>cW.W2 J u (len u) 0 z)
 (λe=>some 2))
end cW
def cW (B:Trace) (z:Sl (Sl Int)) (u:Sl Int):Option Int:=
 (uH B z).bind λw=>
 bn w
 (cW.W1 z u z (len z) 0 B)
 (some 1)
open cW in
instance Rl (B:Trace) (z:Sl (Sl Int)) (u:Sl Int):Fc Sy cL (cW B z u):=Fc.M 144 [enc B,enc z,enc u] (cE 2 3 B (bL 8 λL _=>eB 3 16 (dP 7 z (jP 5 (λG=>(dz [Cv 1 z,Cv 2 u,Pv 3,Cv 17 z,Iv 18 (len z),Iv 19 G] [Xb 3 B])) (λw=>(0,(dz [Cv 1 z,Cv 2 u,Pv 3] [Xb 3 B]))) (λw=>(dz [Iv 6 2] [])) (λG=>bG 7 20 (cZ 7 λO _=>bL 8 λQ _=>eB 3 26 bh bh) bh) (λw=>dP 6 u (jP 5 (λI=>(dz [Cv 1 z,Pv 3,Cv 28 u,Iv 29 (len u),Iv 30 I] [Xb 3 B])) (λC=>(2,(dz [Cv 1 z,Pv 3] [Xb 3 B]))) (λC=>(dz [Iv 6 2] [])) (λI=>bG 7 31 (cZ 7 λS _=>bL 8 λT _=>eB 3 37 bh bh) bh) (λC=>dP 6 z (jP 5 (λJ=>(dz [Pv 3,Cv 39 z,Iv 40 (len z),Iv 41 J] [Xb 3 B])) (λD=>(4,(dz [] []))) (λD=>(dz [Iv 6 18] [])) (λJ=>bG 7 42 (cZ 7 λU _=>bL 8 λW _=>eB 3 48 bh bh) bh) (λD=>bh) (λD=>bh))) (λC=>bh))) (λw=>bh))) bh))
namespace hU
def cr (B:Sl Int) (D:Int) (u:Sl aZ) (z:Int):Option (Fw ((Sl aZ)×Int) (Sl aZ) Empty):=
 bn (decide (z<D))
 ((idx B z).bind λw=>
 bn (decide (w>0))
 ((je u (⟨z,w⟩:aZ)).bind λC=>
 some (.n (C,IntKind.wrap .i64 (z+1))))
 (some (.n (u,IntKind.wrap .i64 (z+1)))))
 (some (.x u))
def W1 (u:Sl aZ) (z:Sl Int) (B D:Int):Option ((Sl aZ)×Int):=
 (c_ (λq:(Sl aZ)×Int=>cr z B q.1 q.2) (u,D)).bind (Fw.elim
 (λe=>some (e,0))
 (λe=>Empty.elim e))
end hU
def hU (B:Trace) (z:Sl Int):Option ((Sl aZ)×Int):=
 (cW B (Sl.row [z]:Sl (Sl Int)) (Sl.nil:Sl Int)).bind λu=>
 bn (u==0)
 (hU.W1 (Sl.nil:Sl aZ) z (len z) 0)
 (some (Sl.nil,u))
open hU in
instance Om (B:Trace) (z:Sl Int):Fc Sy cL (hU B z):=Fc.N 100 [enc B,enc z] (cE 2 2 B (uJ 9 12 ([z]:List (Sl Int)) (cA 0 λC _=>eB 9 15 (dP 12 z (qu 6 (λu=>(dz [Ov 7,Cv 17 z,Iv 18 (len z),Iv 19 u.2] [Lb 2007 u.1])) (λw=>(0,(dz [Ov 7] [Lb 2007 w]))) (λu=>bG 8 20 (cZ 8 λD _=>bG 11 25 (AL 7 2007 30 31 λG _=>bh) bh) bh) (λw=>bh))) bh)))
namespace eN
def iD (u:bS) (z:Int) (x:Int×(Sl Int)) (B:Sl Int):Option (Fw (Sl Int) Empty (Sl Int)):=
 bn (x.1==z)
 (some (.r x.2))
 (some (.n (Sl.nil:Sl Int)))
def E1 (u:bS) (z:Int) (B:Sl Int):Option (Sl Int):=
 (gX u).bind λw=>(jh (λ(x:Int×(Sl Int)) (q:Sl Int)=>iD u z x q) w B).bind (Fw.oB
 (λq=>some Sl.nil)
 (λe=>Empty.elim e)
 (λe=>some e))
end eN
def eN (z:bS) (k1:Int):Option (Sl Int):=
 (k_ z).bind λu=>
 eN.E1 u k1 (Sl.nil:Sl Int)
open eN in
instance Mx (D:bS) (k1:Int):Fc Sy cL (eN D k1):=Fc.N 101 [enc D,.int .i64 k1] (cE 2 2 D (bL 8 λw _=>BW λC z=>y6 4 [Pv 3,Pv 4,(8,.v (.clo 179 [] [.fptr (cells w)]))] (λB=>[(3,.box [iv k1]),(4,.box [.v .bM])]) (λu=>Empty.elim u) (λu=>[(3,.box [iv k1]),(4,.box [cv u])]) (Di w C z) (λG B=>vF 8 (bG 9 13 (qI 4 4 0 G.2 bh) bh)) (λB=>bh) (λx=>Empty.elim x) (λu=>bh)))
namespace eV
def cr (B:Sl Int) (D:Int) (G:Trace) (z:Sl (Sl Int)) (u:Int):Option (Fw ((Sl (Sl Int))×Int) (Sl (Sl Int)) Empty):=
 bn (decide (u<D))
 ((idx B u).bind λw=>
 (idx G.procs u).bind λC=>
 (eN C w).bind λI=>
 (je z (I:Sl Int)).bind λJ=>
 some (.n (J,IntKind.wrap .i64 (u+1))))
 (some (.x z))
def W1 (u:Sl (Sl Int)) (z:Sl Int) (B D:Int) (G:Trace):Option ((Sl (Sl Int))×Int):=
 (c_ (λq:(Sl (Sl Int))×Int=>cr z B G q.1 q.2) (u,D)).bind (Fw.elim
 (λe=>some (e,0))
 (λe=>Empty.elim e))
end eV
def eV (B:Trace) (z:Sl Int):Option ((Sl (Sl Int))×Int):=
 (hU B z).bind λu=>
 bn (u.2==0)
 (eV.W1 (Sl.nil:Sl (Sl Int)) z (len z) 0 B)
 (some (Sl.nil,u.2))
open eV in
instance PU (B:Trace) (z:Sl Int):Fc Sy cL (eV B z):=Fc.N 68 [enc B,enc z] (cE 2 2 B (bL 9 λD _=>eB 13 18 (dP 12 z (qu 6 (λu=>(dz [Pv 2,Ov 8,Cv 20 z,Iv 21 (len z),Iv 22 u.2] [Xb 2 B,Lb 2008 u.1])) (λw=>(0,(dz [Ov 8] [Lb 2008 w]))) (λu=>bG 8 23 (cZ 8 λG _=>cZ 10 λI _=>bL 2 λC _=>uJ 0 35 ([C]:List (Sl Int)) (AL 0 2008 35 36 λJ _=>bh)) bh) (λw=>bh))) bh))
def o9 (u:Pred):Option (Int×Int):=
 (jM u).bind λw=>
 bn w
 ((mA u).bind λz=>
 bn z
 ((jO u.kind).bind λB=>
 some (B,0))
 (some (0,14)))
 (some (0,1))
instance NG (u:Pred):Fc Sy cL (o9 u):=Fc.M 102 [enc u] (cE 2 1 u (bL 9 λw _=>eB 4 4 (bL 4 λz _=>eB 4 8 (bL 8 λB _=>bh) bh) bh))
def qS (B:Pred) (u:Int):Option Int:=
 (o9 B).bind λw=>
 (bn (w.2==0)
 (some (!(w.1==u)))
 (some true):Option Bool).bind λz=>
 bn z
 (some 14)
 (some 0)
instance Lu (z:Pred) (u:Int):Fc Sy cL (qS z u):=Fc.M 69 [enc z,.int .i64 u] (cE 2 2 z (bL 7 λw _=>b8 12 4 [1,5,14] 18 (eB 12 14 (bu 4) (bu 4)) λB=>bG 2 18 bh bh))
def oL (u:Int):Option Bool:=
 (bn (decide (u>=18))
 (some (decide (u<=21)))
 (some false):Option Bool).bind λw=>
 some w
instance Jm (u:Int):Fc Sy cL (oL u):=Fc.M 105 [.int .i64 u] (b8 10 3 [0,5] 8 (bG 10 5 (bu 3) (bu 3)) λw=>bh)
def j7 (z:Pred):Option Bool:=
 (oL z.kind).bind λu=>
 some (!u)
instance GH (u:Pred):Fc Sy cL (j7 u):=Fc.M 104 [enc u] (cE 2 1 u (bL 7 λw _=>bh))
def lU (D:Pred):Option Bool:=
 (jM D).bind λu=>
 (bn u
 ((kO D (λz=>j7 z)).bind λw=>
 some (!w))
 (some false):Option Bool).bind λB=>
 some B
instance Jq (u:Pred):Fc Sy cL (lU u):=Fc.M 70 [enc u] (cE 2 1 u (bL 6 λw _=>b8 1 4 [1,5] 9 (bG 1 5 (bL (F:=qF 104 [] (λz=>j7 z) gI.kY u) 1 λB _=>bu 2) (bu 4)) λC=>bh))
namespace eE
def J2 (D:Sl Int) (u:Int) (z:Sl (Sl Int)) (B:Trace) (G:br):Option (br×Int):=
 some (⟨B,D,z⟩,u)
def J1 (J:Sl Int) (z D:Int) (B:Trace) (G:Pred) (T:br):Option (br×Int):=
 bn (D==0)
 ((eV B J).bind λu=>
 bn (u.2==0)
 ((qS G z).bind λw=>
 (bn (w==0)
 ((lU G).bind λC=>
 some C)
 (some false):Option Bool).bind λI=>
 bn I
 (eE.J2 J 15 u.1 B (⟨⟨Sl.nil⟩,Sl.nil,Sl.nil⟩:br))
 (eE.J2 J w u.1 B (⟨⟨Sl.nil⟩,Sl.nil,Sl.nil⟩:br)))
 (some (⟨⟨Sl.nil⟩,Sl.nil,Sl.nil⟩,u.2)))
 (some (⟨⟨Sl.nil⟩,Sl.nil,Sl.nil⟩,D))
theorem jI (B:Sl Int) (z D:Int) (u:Trace) (G:Pred) (J:br):Le ((J1 B z D u G J).bind (λr=>some [enc r.1,.int .i64 r.2])) (b7 Sy cL (nq (tr Tx 45)) (oM (tb Tx 45) [1,1,1,0] [] (dz [Cv 1 B,Iv 3 z,Pv 4,Pv 6,Pv 8,Iv 10 D] [Xb 4 u,Xb 6 G,Xb 8 (⟨⟨Sl.nil⟩,Sl.nil,Sl.nil⟩:br)]))):=
 eB 7 26 (bL 7 λw _=>eB 14 36 (bL 8 λC _=>b8 8 3 [6,44] 47 (bG 8 44 (bL 1 λI _=>bu 1) (bu 3)) λL=>bG 2 47 (u_ 6 (Ga 5 (⟨u,B,w.1⟩:br) [enc u,enc B,enc w.1] [.bM,.bM,.bM] [(0,1),(1,1),(2,1)] (by simp only[qt,sE,jB,yD,vu,xQ,yG];rfl) rfl (qI 1 8 0 (⟨u,B,w.1⟩:br) bh))) (u_ 4 (Ga 5 (⟨u,B,w.1⟩:br) [enc u,enc B,enc w.1] [.bM,.bM,.bM] [(0,1),(1,1),(2,1)] (by simp only[qt,sE,jB,yD,vu,xQ,yG];rfl) rfl (qI 1 8 0 (⟨u,B,w.1⟩:br) bh)))) (Ga 3 (⟨⟨Sl.nil⟩,Sl.nil,Sl.nil⟩:br) [] [.bM,.bM,.bM] [] (by simp only[qt,sE,jB,yD,vu,xQ,yG];rfl) rfl (qI 1 8 0 (⟨⟨Sl.nil⟩,Sl.nil,Sl.nil⟩:br) bh))) (Ga 3 (⟨⟨Sl.nil⟩,Sl.nil,Sl.nil⟩:br) [] [.bM,.bM,.bM] [] (by simp only[qt,sE,jB,yD,vu,xQ,yG];rfl) rfl (qI 1 8 0 (⟨⟨Sl.nil⟩,Sl.nil,Sl.nil⟩:br) bh))
end eE
def eE (z:Trace) (B:Sl Int) (p2:Pred) (u:Int):Option (br×Int):=
 (kA z p2).bind λw=>
 (bn (w==1)
 (some false)
 (some (!((len B)==(len z.procs)))):Option Bool).bind λC=>
 bn C
 (eE.J1 B u 1 z p2 (⟨⟨Sl.nil⟩,Sl.nil,Sl.nil⟩:br))
 (eE.J1 B u w z p2 (⟨⟨Sl.nil⟩,Sl.nil,Sl.nil⟩:br))
open eE in
instance PO (z:Trace) (B:Sl Int) (p2:Pred) (u:Int):Fc Sy cL (eE z B p2 u):=Fc.N 45 [enc z,enc B,enc p2,.int .i64 u] (cE 2 4 z (cE 0 6 p2 (bL 8 λw _=>b8 9 7 [17] 24 (eB 9 17 (bu 7) (dP 1 B (dP 2 z.procs (bu 2)))) λC=>bG 2 24 (qB 6 (jI B u 1 z p2 (⟨⟨Sl.nil⟩,Sl.nil,Sl.nil⟩:br))) (qB 4 (jI B u w z p2 (⟨⟨Sl.nil⟩,Sl.nil,Sl.nil⟩:br))))))
def iG (u:Var) (z:Pred):Option Bool:=
 some (ByteArray.toList u.name==ByteArray.toList z.name)
instance Dq (u:Var) (z:Pred):Fc Sy cL (iG u z):=Fc.M 107 [enc u,.fptr (cells z)] (bh)
def lF (D:br) (p1:Pred):Option Int:=
 (idx D.t.procs p1.proc).bind λu=>
 (ey u.vars (λz=>iG z p1)).bind λw=>
 (idx D.values p1.proc).bind λB=>
 (idx B w).bind λC=>
 some C
instance E7 (u:br) (p1:Pred):Fc Sy cL (lF u p1):=Fc.M 71 [enc u,enc p1] (cE 2 2 u (cE 0 3 p1 (cZ 10 λw _=>cA (F:=lH 107 [.fptr (cells p1)] (λz=>iG z p1) gI.kY w.vars) 3 λB _=>cZ 9 λC _=>cZ 2 λD _=>bh)))
def rj (z:Trace) (m1:Int):Option (aZ×Bool):=
 (gn z 3 m1).bind λu=>
 some (u.1,u.2)
instance M8 (u:Trace) (m1:Int):Fc Sy cL (rj u m1):=Fc.M 147 [enc u,.int .i64 m1] (cE 2 2 u (bL 8 λw _=>bh))
namespace gD
def cr (T:Sl Int) (U:Int) (G:Sl Event) (J:Trace) (u:Sl Int) (B z:Int):Option (Fw ((Sl Int)×Int×Int) (Sl Int) Empty):=
 bn (decide (z<B))
 ((idx G z).bind λw=>
 (bn (w.kind==2)
 (some (!(w.peer==U)))
 (some true):Option Bool).bind λI=>
 bn I
 (some (.n (u,B,IntKind.wrap .i64 (z+1))))
 ((rj J w.message).bind λC=>
 (bn C.2
 ((idx T C.1.proc).bind λL=>
 some (decide (C.1.index>L)))
 (some true):Option Bool).bind λO=>
 bn O
 ((je u (w.message:Int)).bind λD=>
 some (.n (D,B,IntKind.wrap .i64 (z+1))))
 (some (.n (u,B,IntKind.wrap .i64 (z+1))))))
 (some (.x u))
def W1 (J:Sl Int) (T:Int) (u:Sl Int) (z:Sl Event) (B D:Int) (G:Trace):Option ((Sl Int)×Int):=
 (c_ (λq:(Sl Int)×Int×Int=>cr J T z G q.1 q.2.1 q.2.2) (u,B,D)).bind (Fw.elim
 (λe=>some (e,0))
 (λe=>Empty.elim e))
end gD
def gD (z:Trace) (B:Sl Int) (p2 G:Int):Option ((Sl Int)×Int):=
 (cW z (Sl.row [B]:Sl (Sl Int)) (Sl.row [p2,G]:Sl Int)).bind λu=>
 bn (u==0)
 ((idx z.procs p2).bind λC=>
 (idx B p2).bind λD=>
 (iI C.events none (some D)).bind λw=>
 gD.W1 B G (Sl.nil:Sl Int) w (len w) 0 z)
 (some (Sl.nil,u))
open gD in
instance O4 (B:Trace) (D:Sl Int) (p2 G:Int):Fc Sy cL (gD B D p2 G):=Fc.N 108 [enc B,enc D,.int .i64 p2,.int .i64 G] (cE 2 4 B (uJ 9 18 ([D]:List (Sl Int)) (cA 3 λL _=>eB 9 24 (cZ 14 λO _=>cZ 4 λC _=>FG 1 false true [.int .i64 C] λw _=>dP 0 w (qu 6 (λu=>(dz [Cv 1 D,Iv 3 G,Pv 4,Ov 11,Cv 36 w,Iv 37 u.2.1,Iv 38 u.2.2] [Xb 4 B,Lb 2011 u.1])) (λz=>(0,(dz [Ov 11] [Lb 2011 z]))) (λu=>bG 8 39 (cZ 7 λI _=>qI 2 13 0 I (b8 9 5 [45] 50 (eB 9 45 (bu 5) (bu 5)) λQ=>bG 2 50 bh (bL 8 λS _=>b8 13 9 [14,60] 69 (eB 13 60 (cZ 5 λT _=>bu 3) (bu 9)) λU=>bG 2 69 (AL 6 2011 73 74 λJ _=>bh) bh))) bh) (λz=>bh))) bh)))
def mj (z:br) (p1:Pred):Option Int:=
 (gD z.t z.counts p1.proc p1.peer).bind λu=>
 some (len u.1)
instance Gc (u:br) (p1:Pred):Fc Sy cL (mj u p1):=Fc.M 72 [enc u,enc p1] (cE 2 2 u (cE 0 3 p1 (bL 13 λw _=>dP 10 w.1 bh)))
def bP (u:br) (p1:Pred) (r:(br×Pred)->Option Int):Option Int:=
 bn (p1.kind==1)
 (some p1.n)
 (bn (p1.kind==2)
 ((lF u p1).bind λL=>
 some L)
 (bn (p1.kind==3)
 ((idx u.counts p1.proc).bind λO=>
 some O)
 (bn (p1.kind==4)
 ((mj u p1).bind λQ=>
 some Q)
 (bn (p1.kind==5)
 ((idx p1.l 0).bind λS=>
 (r (u,S)).bind λT=>
 some (IntKind.wrap .i64 (0-T)))
 (bn (p1.kind==6)
 ((idx p1.l 0).bind λU=>
 (r (u,U)).bind λW=>
 (idx p1.l 1).bind λX=>
 (r (u,X)).bind λY=>
 some (IntKind.wrap .i64 (W+Y)))
 (bn (p1.kind==7)
 ((idx p1.l 0).bind λw=>
 (r (u,w)).bind λz=>
 (idx p1.l 1).bind λB=>
 (r (u,B)).bind λC=>
 some (IntKind.wrap .i64 (z-C)))
 ((idx p1.l 0).bind λD=>
 (r (u,D)).bind λG=>
 (idx p1.l 1).bind λI=>
 (r (u,I)).bind λJ=>
 some (IntKind.wrap .i64 (G*J)))))))))
theorem s9 (r:(br×Pred)->Option Int) (hr:iC Sy cL 46 (λz:br×Pred=>[enc z.1,enc z.2]) (λr:Int=>[.int .i64 r]) r true) (u:br) (p1:Pred):Le ((bP u p1 r).bind λr=>some [.int .i64 r]) (iQ cL 46 [enc u,enc p1]):=
 (Fc.M 46 [enc u,enc p1] (cE 2 2 u (cE 0 3 p1 (bG 17 7 bh (bG 7 11 (bL 5 λT _=>bh) (bG 7 16 (cZ 7 λU _=>bh) (bG 7 24 (bL 5 λW _=>bh) (bG 7 29 (ir 6 33 (Pred.jX p1.l) (cZ 0 λG _=>cA (F:=Fc.of (u,G) hr) 1 λX _=>bh)) (bG 7 38 (ir 6 42 (Pred.jX p1.l) (cZ 0 λI _=>cA (F:=Fc.of (u,I) hr) 1 λY _=>ir 3 48 (Pred.jX p1.l) (cZ 0 λJ _=>cA (F:=Fc.of (u,J) hr) 1 λZ _=>bh))) (bG 7 53 (ir 6 57 (Pred.jX p1.l) (cZ 0 λw _=>cA (F:=Fc.of (u,w) hr) 1 λL _=>ir 3 63 (Pred.jX p1.l) (cZ 0 λB _=>cA (F:=Fc.of (u,B) hr) 1 λO _=>bh))) (ir 9 70 (Pred.jX p1.l) (cZ 0 λC _=>cA (F:=Fc.of (u,C) hr) 1 λQ _=>ir 3 76 (Pred.jX p1.l) (cZ 0 λD _=>cA (F:=Fc.of (u,D) hr) 1 λS _=>bh)))))))))))):Fc Sy cL (bP u p1 r)).F.h ()
def cV (u:br) (p1:Pred):Option Int:=fH (λr (z:br×Pred)=>bP z.1 z.2 r) 100000 (u,p1)
instance Gf (u:br) (p1:Pred):Fc Sy cL (cV u p1):=Fc.of (u,p1) (iC.fix (A:=λz:br×Pred=>[enc z.1,enc z.2]) (E:=λr:Int=>[.int .i64 r]) (sc:=true) (b:=(λr (z:br×Pred)=>bP z.1 z.2 r)) Ze (λ_ _=>rfl) (λr hr z=>s9 r hr z.1 z.2) 100000)
def mz (z:Trace) (B:Sl Int) (p2:Pred):Option (Int×Int):=
 (eE z B p2 1).bind λu=>
 bn (u.2==0)
 ((cV u.1 p2).bind λw=>
 some (w,0))
 (some (0,u.2))
instance Oq (u:Trace) (z:Sl Int) (p2:Pred):Fc Sy cL (mz u z p2):=Fc.M 13 [enc u,enc z,enc p2] (cE 2 3 u (cE 0 5 p2 (bL 9 λw _=>qI 4 8 0 w.1 (eB 10 18 (bL 7 λB _=>bh) bh))))
def eG (z B:Int) (J:Sl Pred) (T:Trace) (U:Sl Int) (p5:(Int×(Sl Pred))->Option Pred):Option Bool:=
 (p5 (z,J)).bind λw=>
 (mz T U w).bind λu=>
 (bn (u.2==0)
 (some false)
 (some (u.1==0)):Option Bool).bind λC=>
 (bn C
 (some true)
 ((bn (u.2==0)
 (some (u.1==B))
 (some false):Option Bool).bind λD=>
 some D):Option Bool).bind λG=>
 some G
abbrev iF (g5:FuncId) (e5:List V) (p5:(Int×(Sl Pred))->Option Pred) (T:gI Sy cL g5 [] e5 (λz:Int×(Sl Pred)=>[.int .i64 z.1,enc z.2]) (λr:Pred=>[enc r]) p5 false) (u B:Int) (D:Sl Pred) (G:Trace) (J:Sl Int):Fc Sy cL (eG u B D G J p5):=Fc.M 19 [.int .i64 u,.int .i64 B,enc D,.fptr (cells G),.fptr (cells J),.fptr [.clo g5 [] e5]] (tC 12 T.f (u,D) λw _=>cA 0 λC _=>b8 12 3 [24] 27 (eB 12 24 (bu 3) (bu 3)) λI=>b8 1 8 [1,10,11,28] 36 (bG 1 28 (bu 8) (b8 3 4 [1,10,31] 35 (bG 3 31 (bu 4) (bu 4)) λL=>bu 1)) λO=>bh)
namespace dG
def J1 (W:Int) (U:Bool) (z:br) (u:Pred) (r:(br×Pred)->Option Bool):Option Bool:=
 bn U
 (some (u.kind==13))
 (bn (W==15)
 ((idx u.l 0).bind λw=>
 (r (z,w)).bind λB=>
 some (!B))
 (bn (W==16)
 ((idx u.l 0).bind λC=>
 (r (z,C)).bind λD=>
 (bn D
 ((idx u.l 1).bind λG=>
 (r (z,G)).bind λI=>
 some I)
 (some false):Option Bool).bind λJ=>
 some J)
 ((idx u.l 0).bind λL=>
 (r (z,L)).bind λO=>
 (bn O
 (some true)
 ((idx u.l 1).bind λQ=>
 (r (z,Q)).bind λS=>
 some S):Option Bool).bind λT=>
 some T)))
theorem jI (r:(br×Pred)->Option Bool) (hr:iC Sy cL 47 (λz:br×Pred=>[enc z.1,enc z.2]) (λr:Bool=>[.bool r]) r true) (T:Int) (D:Bool) (u:br) (B:Pred):Le ((J1 T D u B r).bind (λr=>some [.bool r])) (b7 Sy cL (nq (tr Tx 47)) (oM (tb Tx 47) [1,0,1,0,1,1,1,1,1,1,1,1,1,0] [] (dz [Pv 2,Pv 3,Iv 6 T,Bv 67 D] [Xb 2 u,Xb 3 B]))):=
 bG 0 67 bh (bG 7 73 (ir 6 77 (Pred.jX B.l) (cZ 0 λG _=>cA (F:=Fc.of (u,G) hr) 1 λQ _=>bh)) (bG 7 82 (ir 6 86 (Pred.jX B.l) (cZ 0 λI _=>cA (F:=Fc.of (u,I) hr) 1 λS _=>wC 1 7 [96,89] (λw=>(dz [Bv 67 false,Bv 73 false,Bv 82 true,Bv 97 w] [Xb 2 u,Xb 3 B])) (bG 1 90 (ir 3 93 (Pred.jX B.l) (cZ 0 λJ _=>cA (F:=Fc.of (u,J) hr) 1 λU _=>bu 1)) (bu 7)) λw=>bh)) (ir 9 100 (Pred.jX B.l) (cZ 0 λL _=>cA (F:=Fc.of (u,L) hr) 1 λW _=>wC 1 7 [110,103] (λC=>(dz [Bv 67 false,Bv 73 false,Bv 82 false,Bv 111 C] [Xb 2 u,Xb 3 B])) (bG 1 104 (bu 7) (ir 3 107 (Pred.jX B.l) (cZ 0 λO _=>cA (F:=Fc.of (u,O) hr) 1 λX _=>bu 1))) λC=>bh))))
end dG
def bW (u:br) (p1:Pred) (r:(br×Pred)->Option Bool):Option Bool:=
 bn (p1.kind==9)
 ((idx p1.l 0).bind λJ=>
 (cV u J).bind λL=>
 (idx p1.l 1).bind λO=>
 (cV u O).bind λQ=>
 some (L==Q))
 (bn (p1.kind==10)
 ((idx p1.l 0).bind λS=>
 (cV u S).bind λT=>
 (idx p1.l 1).bind λU=>
 (cV u U).bind λW=>
 some (!(T==W)))
 (bn (p1.kind==11)
 ((idx p1.l 0).bind λX=>
 (cV u X).bind λw=>
 (idx p1.l 1).bind λz=>
 (cV u z).bind λB=>
 some (decide (w<B)))
 (bn (p1.kind==12)
 ((idx p1.l 0).bind λC=>
 (cV u C).bind λD=>
 (idx p1.l 1).bind λG=>
 (cV u G).bind λI=>
 some (decide (D<=I)))
 (bn (p1.kind==13)
 (dG.J1 p1.kind true u p1 r)
 (dG.J1 p1.kind (p1.kind==14) u p1 r)))))
open dG in
theorem tX (r:(br×Pred)->Option Bool) (hr:iC Sy cL 47 (λz:br×Pred=>[enc z.1,enc z.2]) (λr:Bool=>[.bool r]) r true) (u:br) (p1:Pred):Le ((bW u p1 r).bind λr=>some [.bool r]) (iQ cL 47 [enc u,enc p1]):=
 (Fc.M 47 [enc u,enc p1] (cE 2 2 u (cE 0 3 p1 (bG 17 7 (ir 6 11 (Pred.jX p1.l) (cZ 0 λL _=>cA 1 λO _=>ir 3 17 (Pred.jX p1.l) (cZ 0 λQ _=>cA 1 λS _=>bh))) (bG 7 22 (ir 6 26 (Pred.jX p1.l) (cZ 0 λT _=>cA 1 λU _=>ir 3 32 (Pred.jX p1.l) (cZ 0 λW _=>cA 1 λX _=>bh))) (bG 7 37 (ir 6 41 (Pred.jX p1.l) (cZ 0 λY _=>cA 1 λw _=>ir 3 47 (Pred.jX p1.l) (cZ 0 λB _=>cA 1 λC _=>bh))) (bG 7 52 (ir 6 56 (Pred.jX p1.l) (cZ 0 λD _=>cA 1 λG _=>ir 3 62 (Pred.jX p1.l) (cZ 0 λI _=>cA 1 λJ _=>bh))) (bG 8 67 (qB 4 (jI r hr p1.kind true u p1)) (qB 7 (jI r hr p1.kind (p1.kind==14) u p1))))))))):Fc Sy cL (bW u p1 r)).F.h ()
def dG (u:br) (p1:Pred):Option Bool:=fH (λr (z:br×Pred)=>bW z.1 z.2 r) 100000 (u,p1)
instance G2 (u:br) (p1:Pred):Fc Sy cL (dG u p1):=Fc.of (u,p1) (iC.fix (A:=λz:br×Pred=>[enc z.1,enc z.2]) (E:=λr:Bool=>[.bool r]) (sc:=true) (b:=(λr (z:br×Pred)=>bW z.1 z.2 r)) Ze (λ_ _=>rfl) (λr hr z=>tX r hr z.1 z.2) 100000)
def kS (z:Trace) (B:Sl Int) (p2:Pred):Option (Bool×Int):=
 (eE z B p2 2).bind λu=>
 bn (u.2==0)
 ((dG u.1 p2).bind λw=>
 some (w,0))
 (some (false,u.2))
instance Nw (u:Trace) (z:Sl Int) (p2:Pred):Fc Sy cL (kS u z p2):=Fc.M 14 [enc u,enc z,enc p2] (cE 2 3 u (cE 0 5 p2 (bL 9 λw _=>qI 4 8 0 w.1 (eB 10 18 (bL 7 λB _=>bh) bh))))
def dB (z:Int) (B:Bool) (J:Sl Pred) (T:Trace) (U:Sl Int) (p5:(Int×(Sl Pred))->Option Pred):Option Bool:=
 (p5 (z,J)).bind λw=>
 (kS T U w).bind λu=>
 (bn (u.2==0)
 (some false)
 (some (!u.1)):Option Bool).bind λC=>
 (bn C
 (some true)
 ((bn (u.2==0)
 (some (u.1==B))
 (some false):Option Bool).bind λD=>
 some D):Option Bool).bind λG=>
 some G
abbrev ez (g5:FuncId) (e5:List V) (p5:(Int×(Sl Pred))->Option Pred) (T:gI Sy cL g5 [] e5 (λz:Int×(Sl Pred)=>[.int .i64 z.1,enc z.2]) (λr:Pred=>[enc r]) p5 false) (u:Int) (B:Bool) (D:Sl Pred) (G:Trace) (J:Sl Int):Fc Sy cL (dB u B D G J p5):=Fc.M 20 [.int .i64 u,.bool B,enc D,.fptr (cells G),.fptr (cells J),.fptr [.clo g5 [] e5]] (tC 12 T.f (u,D) λw _=>cA 0 λC _=>b8 12 3 [24] 27 (eB 12 24 (bu 3) (bu 3)) λI=>b8 1 8 [1,10,11,28] 36 (bG 1 28 (bu 8) (b8 3 4 [1,10,31] 35 (bG 3 31 (bu 4) (bu 4)) λL=>bu 1)) λO=>bh)
namespace dJ
def J1 (T U W G:Int) (u:Trace) (B:Sl Int) (D J:Pred):Option Bool:=
 (eG 5 (IntKind.wrap .i64 (0-T)) (Sl.row [D]:Sl Pred) u B (λz=>bz z.1 z.2)).bind λw=>
 (bn w
 ((eG 6 W (Sl.row [D,J]:Sl Pred) u B (λz=>bz z.1 z.2)).bind λC=>
 some C)
 (some false):Option Bool).bind λI=>
 (bn I
 ((eG 7 (IntKind.wrap .i64 (T-U)) (Sl.row [D,J]:Sl Pred) u B (λz=>bz z.1 z.2)).bind λL=>
 some L)
 (some false):Option Bool).bind λO=>
 (bn O
 ((eG 8 G (Sl.row [D,J]:Sl Pred) u B (λz=>bz z.1 z.2)).bind λQ=>
 some Q)
 (some false):Option Bool).bind λS=>
 (bn S
 ((dB 9 (T==U) (Sl.row [D,J]:Sl Pred) u B (λz=>bz z.1 z.2)).bind λX=>
 some X)
 (some false):Option Bool).bind λY=>
 (bn Y
 ((dB 10 (!(T==U)) (Sl.row [D,J]:Sl Pred) u B (λz=>bz z.1 z.2)).bind λZ=>
 some Z)
 (some false):Option Bool).bind λaa=>
 (bn aa
 ((dB 11 (decide (T<U)) (Sl.row [D,J]:Sl Pred) u B (λz=>bz z.1 z.2)).bind λab=>
 some ab)
 (some false):Option Bool).bind λad=>
 (bn ad
 ((dB 12 (decide (T<=U)) (Sl.row [D,J]:Sl Pred) u B (λz=>bz z.1 z.2)).bind λae=>
 some ae)
 (some false):Option Bool).bind λaf=>
 some af
theorem jI (T U W u:Int) (G:Trace) (J:Sl Int) (B D:Pred):Le ((J1 T U W u G J B D).bind (λr=>some [.bool r])) (b7 Sy cL (nq (tr Tx 4)) (oM (tb Tx 4) [1,1,1,1,1,1,1,1,0,1,0,1,1,0] [] (dz [Pv 6,Pv 7,(10,.clo 19 [] [.ptr 4 0,.ptr 5 0,.ptr 9 0]),(11,.clo 20 [] [.ptr 4 0,.ptr 5 0,.ptr 9 0]),Iv 12 T,Iv 14 U,Iv 16 W,Iv 17 u] [Xb 4 G,(5,.box [cv J]),Xb 6 B,Xb 7 D,(9,.box [.v (.clo 18 [] [])])]))):=
 uJ 6 85 ([B]:List Pred) (cA (F:=iF 18 [] (λz=>bz z.1 z.2) gI.kY 5 (IntKind.wrap .i64 (0-T)) (Sl.row [B]:Sl Pred) G J) 0 λI _=>wC 1 7 [] (λw=>(dz [Pv 6,Pv 7,(10,.clo 19 [] [.ptr 4 0,.ptr 5 0,.ptr 9 0]),(11,.clo 20 [] [.ptr 4 0,.ptr 5 0,.ptr 9 0]),Iv 12 T,Iv 14 U,Iv 17 u,Bv 94 w] [Xb 4 G,(5,.box [cv J]),Xb 6 B,Xb 7 D,(9,.box [.v (.clo 18 [] [])])])) (bG 1 87 (uJ 4 92 ([B,D]:List Pred) (cA (F:=iF 18 [] (λz=>bz z.1 z.2) gI.kY 6 W (Sl.row [B,D]:Sl Pred) G J) 0 λL _=>bu 2)) (bu 8)) λw=>b8 1 9 [95] 104 (bG 1 95 (uJ 6 102 ([B,D]:List Pred) (cA (F:=iF 18 [] (λz=>bz z.1 z.2) gI.kY 7 (IntKind.wrap .i64 (T-U)) (Sl.row [B,D]:Sl Pred) G J) 0 λO _=>bu 2)) (bu 10)) λQ=>b8 1 7 [10,17,105] 112 (bG 1 105 (uJ 4 110 ([B,D]:List Pred) (cA (F:=iF 18 [] (λz=>bz z.1 z.2) gI.kY 8 u (Sl.row [B,D]:Sl Pred) G J) 0 λS _=>bu 2)) (bu 8)) λX=>b8 1 9 [113] 122 (bG 1 113 (uJ 6 120 ([B,D]:List Pred) (cA (F:=ez 18 [] (λz=>bz z.1 z.2) gI.kY 9 (T==U) (Sl.row [B,D]:Sl Pred) G J) 0 λY _=>bu 2)) (bu 10)) λZ=>b8 1 9 [123] 132 (bG 1 123 (uJ 6 130 ([B,D]:List Pred) (cA (F:=ez 18 [] (λz=>bz z.1 z.2) gI.kY 10 (!(T==U)) (Sl.row [B,D]:Sl Pred) G J) 0 λaa _=>bu 2)) (bu 10)) λab=>b8 1 9 [133] 142 (bG 1 133 (uJ 6 140 ([B,D]:List Pred) (cA (F:=ez 18 [] (λz=>bz z.1 z.2) gI.kY 11 (decide (T<U)) (Sl.row [B,D]:Sl Pred) G J) 0 λad _=>bu 2)) (bu 10)) λae=>wC 1 9 [] (λC=>(dz [Bv 152 C] [])) (bG 1 143 (uJ 6 150 ([B,D]:List Pred) (cA (F:=ez 18 [] (λz=>bz z.1 z.2) gI.kY 12 (decide (T<=U)) (Sl.row [B,D]:Sl Pred) G J) 0 λaf _=>bu 2)) (bu 10)) λC=>bh)
end dJ
def dJ (D:Trace) (G:Sl Int) (p2 J:Pred):Option Bool:=
 (ug).bind λaa=>
 bn aa
 ((tf D).bind λab=>
 (bn ab
 (some true)
 ((oW p2).bind λad=>
 some ad):Option Bool).bind λae=>
 (bn ae
 (some true)
 ((oW J).bind λaf=>
 some af):Option Bool).bind λah=>
 (bn ah
 (some true)
 (some (decide ((len G)>20))):Option Bool).bind λai=>
 bn ai
 (some true)
 ((mz D G p2).bind λu=>
 (mz D G J).bind λw=>
 (bn (u.2==0)
 (some (w.2==0))
 (some false):Option Bool).bind λI=>
 bn I
 ((bn (u.1==0)
 (some true)
 ((sX .i64 1125899906842624 (if(IntKind.wrap .i64 (0-u.1))>u.1 then(IntKind.wrap .i64 (0-u.1))else u.1)).bind λL=>
 some (decide ((if(IntKind.wrap .i64 (0-w.1))>w.1 then(IntKind.wrap .i64 (0-w.1))else w.1)<=L))):Option Bool).bind λO=>
 bn O
 (dJ.J1 u.1 w.1 (IntKind.wrap .i64 (u.1+w.1)) (IntKind.wrap .i64 (u.1*w.1)) D G p2 J)
 (dJ.J1 u.1 w.1 (IntKind.wrap .i64 (u.1+w.1)) 0 D G p2 J))
 ((kS D G p2).bind λB=>
 (kS D G J).bind λC=>
 (bn (B.2==0)
 (some (!(C.2==0)))
 (some true):Option Bool).bind λQ=>
 bn Q
 (some true)
 ((dB 15 (!B.1) (Sl.row [p2]:Sl Pred) D G (λz=>bz z.1 z.2)).bind λS=>
 (bn S
 ((bn B.1
 (some C.1)
 (some false):Option Bool).bind λT=>
 (dB 16 T (Sl.row [p2,J]:Sl Pred) D G (λz=>bz z.1 z.2)).bind λU=>
 some U)
 (some false):Option Bool).bind λW=>
 (bn W
 ((bn B.1
 (some true)
 (some C.1):Option Bool).bind λX=>
 (dB 17 X (Sl.row [p2,J]:Sl Pred) D G (λz=>bz z.1 z.2)).bind λY=>
 some Y)
 (some false):Option Bool).bind λZ=>
 some Z))))
 (some false)
open dJ in
instance u7 (D:Trace) (B:Sl Int) (p2 G:Pred):Fc Sy cL (dJ D B p2 G):=Fc.M 4 [enc D,enc B,enc p2,enc G] (cE 2 4 D (cE 0 5 B (cE 0 6 p2 (cE 0 7 G (bL 6 λaa _=>eB 3 23 (bL 7 λab _=>b8 1 3 [26] 29 (bG 1 26 (bu 3) (bL 1 λad _=>bu 1)) λae=>b8 1 3 [30] 33 (bG 1 30 (bu 3) (bL 1 λaf _=>bu 1)) λah=>b8 1 4 [34] 38 (bG 1 34 (bu 4) (dP 1 B (bu 2))) λai=>bG 2 38 bh (bL 26 λu _=>bL 12 λw _=>b8 13 3 [15,57] 60 (bG 13 57 (bu 3) (bu 3)) λS=>bG 2 60 (b8 16 11 [66] 77 (bG 16 66 (bu 11) (Qm 8 λT _=>bu 2)) λU=>bG 2 77 (qB 9 (jI u.1 w.1 (IntKind.wrap .i64 (u.1+w.1)) (IntKind.wrap .i64 (u.1*w.1)) D B p2 G)) (qB 4 (jI u.1 w.1 (IntKind.wrap .i64 (u.1+w.1)) 0 D B p2 G))) (bL 8 λC _=>bL 12 λL _=>b8 13 3 [21,169] 172 (eB 13 169 (bu 3) (bu 3)) λW=>bG 2 172 bh (uJ 9 177 ([p2]:List Pred) (cA (F:=ez 18 [] (λz=>bz z.1 z.2) gI.kY 15 (!C.1) (Sl.row [p2]:Sl Pred) D B) 0 λX _=>wC 1 10 [] (λI=>(dz [Pv 6,Pv 7,(10,.clo 19 [] [.ptr 4 0,.ptr 5 0,.ptr 9 0]),(11,.clo 20 [] [.ptr 4 0,.ptr 5 0,.ptr 9 0]),Iv 12 u.1,Iv 14 w.1,Bv 18 C.1,Bv 20 L.1,Bv 23 false,Bv 38 false,Bv 60 false,Bv 172 false,Bv 189 I] [Xb 4 D,(5,.box [cv B]),Xb 6 p2,Xb 7 G,(9,.box [.v (.clo 18 [] [])])])) (bG 1 179 (b8 3 2 [182] 184 (bG 3 182 (bu 2) (bu 2)) λO=>uJ 2 187 ([p2,G]:List Pred) (cA (F:=ez 18 [] (λz=>bz z.1 z.2) gI.kY 16 O (Sl.row [p2,G]:Sl Pred) D B) 0 λY _=>bu 2)) (bu 11)) λI=>wC 1 10 [] (λJ=>(dz [(10,.clo 19 [] [.ptr 4 0,.ptr 5 0,.ptr 9 0]),Iv 12 u.1,Iv 14 w.1,Bv 23 false,Bv 38 false,Bv 60 false,Bv 172 false,Bv 200 J] [Xb 4 D,(5,.box [cv B]),(9,.box [.v (.clo 18 [] [])])])) (bG 1 190 (b8 3 2 [20,193] 195 (bG 3 193 (bu 2) (bu 2)) λQ=>uJ 2 198 ([p2,G]:List Pred) (cA (F:=ez 18 [] (λz=>bz z.1 z.2) gI.kY 17 Q (Sl.row [p2,G]:Sl Pred) D B) 0 λZ _=>bu 2)) (bu 11)) λJ=>bh))))) bh)))))
end
end Go.VE
