/-
 Each function of the program that the law reaches: its plain form, and that it comes to that.
-/
import Derived.Test.YtlmckmkfopljoaaGreatDoorK1
import Derived.Test.YtlmckmkfopljoaaGreatDoorT1
set_option linter.all false
namespace Go.VE
structure Pred where
 kind:Int
 n:Int
 proc:Int
 peer:Int
 name:ByteArray
 l:Sl Pred
mutual
def Pred.Ql:Pred->List V
 | ⟨f0,f1,f2,f3,B,f5⟩=>[.int .i64 f0,.int .i64 f1,.int .i64 f2,.int .i64 f3,.str B,Pred.EY f5]
def Pred.EY:Sl Pred->V
 | .nil=>.bW
 | .emp=>.dA
 | .row l=>.fsl 6 (Pred.Cp l)
 | .part l=>.fsl 6 (Pred.Cp l)
def Pred.Cp:List Pred->List (List V)
 | []=>[]
 | x::r=>Pred.Ql x::Pred.Cp r
end
instance:Inhabited Pred:=⟨⟨default,default,default,default,default,Sl.nil⟩⟩
mutual
theorem Pred.Tg:∀x:Pred,V.cD x.Ql=true
 | ⟨f0,f1,f2,f3,B,f5⟩=>by simp only[Pred.Ql,V.cD,V.good,Pred.Hr,Bool.and_self]
theorem Pred.Hr:∀x:Sl Pred,V.good (Pred.EY x)=true
 | .nil=>rfl
 | .emp=>rfl
 | .row l=>by simp only[Pred.EY,V.good,Pred.BW]
 | .part l=>by simp only[Pred.EY,V.good,Pred.BW]
theorem Pred.BW:∀x:List Pred,V.mC (Pred.Cp x)=true
 | []=>rfl
 | x::r=>by simp only[Pred.Cp,V.mC,Pred.Tg,Pred.BW,Bool.and_self]
end
theorem Pred.Sz (s:Sl Pred):V.one (Pred.EY s)=true:=by cases s <;> simp[Pred.EY,V.one]
instance:bA Pred where
 cells x:=[.int .i64 x.kind,.int .i64 x.n,.int .i64 x.proc,.int .i64 x.peer,.str x.name,Pred.EY x.l]
 agg:=true
 size:=6
 len _:=rfl
 good x:=by simp only[V.cD,V.good,Pred.Hr,Bool.and_self]
 one x:=by simp only[List.all_cons,List.all_nil,oS,mV,oM,Pred.Sz,Bool.and_self]
 plain h:=by cases h
theorem Pred.Nk (x:Pred):Pred.Ql x=cells x:=by cases x;rfl
theorem Pred.BZ:∀l:List Pred,Pred.Cp l=rows l
 | []=>rfl
 | x::r=>by rw[Pred.Cp,Pred.BZ r,Pred.Nk];rfl
theorem Pred.dX (s:Sl Pred):Pred.EY s=enc s:=by
 cases s with
 | nil=>rfl
 | emp=>rfl
 | row l=>show V.fsl 6 (Pred.Cp l)=V.fsl 6 (rows l);rw[Pred.BZ]
 | part l=>show V.fsl 6 (Pred.Cp l)=V.fsl 6 (rows l);rw[Pred.BZ]
structure Var where
 name:ByteArray
 init_:Int
 deriving Inhabited
instance:bA Var where
 cells x:=[.str x.name,.int .i64 x.init_]
 agg:=true
 size:=2
 len _:=rfl
 good x:=by simp only[V.cD,V.good,lX,Bool.and_self]
 one x:=by simp only[List.all_cons,List.all_nil,oS,mV,oM,oe,Bool.and_self]
 plain h:=by cases h
structure Assign where
 var:Int
 value:Int
 deriving Inhabited
instance:bA Assign where
 cells x:=[.int .i64 x.var,.int .i64 x.value]
 agg:=true
 size:=2
 len _:=rfl
 good x:=by simp only[V.cD,V.good,lX,Bool.and_self]
 one x:=by simp only[List.all_cons,List.all_nil,oS,mV,oM,oe,Bool.and_self]
 plain h:=by cases h
structure Event where
 kind:Int
 peer:Int
 message:Int
 time:Int
 assign:Sl Assign
 deriving Inhabited
instance:bA Event where
 cells x:=[.int .i64 x.kind,.int .i64 x.peer,.int .i64 x.message,.int .i64 x.time,enc x.assign]
 agg:=true
 size:=5
 len _:=rfl
 good x:=by simp only[V.cD,V.good,lX,Bool.and_self]
 one x:=by simp only[List.all_cons,List.all_nil,oS,mV,oM,oe,Bool.and_self]
 plain h:=by cases h
structure bQ where
 name:ByteArray
 vars:Sl Var
 events:Sl Event
 deriving Inhabited
instance:bA bQ where
 cells x:=[.str x.name,enc x.vars,enc x.events]
 agg:=true
 size:=3
 len _:=rfl
 good x:=by simp only[V.cD,V.good,lX,Bool.and_self]
 one x:=by simp only[List.all_cons,List.all_nil,oS,mV,oM,oe,Bool.and_self]
 plain h:=by cases h
structure Trace where
 procs:Sl bQ
 deriving Inhabited
instance:bA Trace where
 cells x:=[enc x.procs]
 agg:=true
 size:=1
 len _:=rfl
 good x:=by simp only[V.cD,V.good,lX,Bool.and_self]
 one x:=by simp only[List.all_cons,List.all_nil,oS,mV,oM,oe,Bool.and_self]
 plain h:=by cases h
structure bR where
 from_:aY
 to_:aY
 deriving Inhabited
instance:bA bR where
 cells x:=[.int .i64 x.from_.proc,.int .i64 x.from_.index,.int .i64 x.to_.proc,.int .i64 x.to_.index]
 agg:=true
 size:=4
 len _:=rfl
 good x:=by simp only[V.cD,V.good,lX,Bool.and_self]
 one x:=by simp only[List.all_cons,List.all_nil,oS,mV,oM,oe,Bool.and_self]
 plain h:=by cases h
structure bP where
 low:Int
 high:Int
 deriving Inhabited
instance:bA bP where
 cells x:=[.int .i64 x.low,.int .i64 x.high]
 agg:=true
 size:=2
 len _:=rfl
 good x:=by simp only[V.cD,V.good,lX,Bool.and_self]
 one x:=by simp only[List.all_cons,List.all_nil,oS,mV,oM,oe,Bool.and_self]
 plain h:=by cases h
structure b9 where
 t:Trace
 counts:Sl Int
 values:Sl (Sl Int)
 deriving Inhabited
instance:bA b9 where
 cells x:=[enc x.t.procs,enc x.counts,enc x.values]
 agg:=true
 size:=3
 len _:=rfl
 good x:=by simp only[V.cD,V.good,lX,Bool.and_self]
 one x:=by simp only[List.all_cons,List.all_nil,oS,mV,oM,oe,Bool.and_self]
 plain h:=by cases h
def iI (p:Int):Int->List Event->List (aY×Event)
 | _,[]=>[]
 | j,e::r=>(⟨p,j+1⟩,e)::iI p (j+1) r
def fM:Int->List bQ->List (aY×Event)
 | _,[]=>[]
 | i,p::r=>iI i 0 p.events.l++fM (i+1) r
def ov (n:Nat):Bool:=decide (n<9223372036854775807)
def iZ (t:Trace):Option (List (aY×Event)):=
 if ov t.procs.l.length&&t.procs.l.all λp=>ov p.events.l.length then some (fM 0 t.procs.l)else none
def wU:cI 22 Int:=⟨Go.Proofs.YtlmckmkfopljoaaGreatDoor.Cq,rfl⟩
end Go.VE
namespace Go.VE
def Lc:List (Nat×GD):=[
 (66,⟨0x22226260002000201,[],[(6,[.keep [0,1,7,8] []],[.keep [0,1,7,8] []]),(12,[.keep [] []],[]),(22,[.keep [4] []],[]),(27,[.keep [4] []],[])]⟩),
 (40,⟨0x226221,[],[]⟩),
 (67,⟨0x22226260002000201,[],[(6,[.keep [0,1,7,8] []],[.keep [0,1,7,8] []]),(12,[.keep [] []],[]),(22,[.keep [4] []],[]),(27,[.keep [4] []],[])]⟩),
 (42,⟨0x226221,[],[]⟩),
 (43,⟨0x2222212,[],[]⟩),
 (41,⟨0x264442644402222012,[],[]⟩),
 (11,⟨0x264442222012,[],[]⟩),
 (44,⟨0x222000ff2026020064026220000202202,[],[(10,[.keep [1,2,3,4] [4,9001,9002]],[]),(13,[.keep [1,2,3,4,6] [4,9001,9002]],[.keep [1,2,3,4,6] [4,9001,9002]]),(19,[.keep [] [9001,9002]],[])]⟩),
 (12,⟨0x2227222000012,[(5,[.canon (.s 3) 9001 0,.canon (.s 4) 9002 0])],[]⟩),
 (153,⟨0x26c4426201,[],[]⟩),
 (197,⟨0x26c4444026402201,[],[]⟩),
 (198,⟨0x26442201,[],[]⟩),
 (181,⟨0x22064c402644c00222600200020064440264402201,[],[(8,[.keep [2] []],[]),(14,[.keep [0,18,19] []],[.keep [0,18,19] []]),(20,[.keep [] []],[]),(30,[.keep [2] []],[]),(35,[.keep [2] []],[])]⟩),
 (182,⟨0x26222212,[],[]⟩),
 (183,⟨0x26222212,[],[]⟩),
 (106,⟨0x22226260002000201,[],[(6,[.keep [0,1,7,8] []],[.keep [0,1,7,8] []]),(12,[.keep [] []],[]),(22,[.keep [4] []],[]),(27,[.keep [4] []],[])]⟩),
 (161,⟨0x226221,[],[]⟩),
 (154,⟨0x222222022222026c0c4402222022020000020022220026c0c44422220202602012,[],[(11,[.keep [4] []],[]),(17,[.keep [4] []],[]),(23,[.keep [5,32,33,34] [5]],[.keep [5,32,33,34] [5]]),(29,[.keep [5] [5]],[]),(40,[.keep [4] []],[]),(46,[.keep [4] []],[]),(55,[.keep [4] []],[]),(59,[.keep [4] []],[])]⟩),
 (155,⟨0x2212,[],[]⟩),
 (185,⟨0x2644426c4402622222022202644422202020122,[],[(18,[.keep [1,3,5,19] [3,5]],[])]⟩),
 (187,⟨0x26222212,[],[]⟩),
 (199,⟨0x22226260002000201,[],[(6,[.keep [0,1,7,8] []],[.keep [0,1,7,8] []]),(12,[.keep [] []],[]),(22,[.keep [4] []],[]),(27,[.keep [4] []],[])]⟩),
 (186,⟨0x226221,[],[]⟩),
 (156,⟨0x2202626220026444022622202022020000020022220026c44022220022e02222226220202200202620201222,[],[(12,[.keep [3,4,5,7,8] [3,4,5,7]],[]),(19,[.keep [6] []],[]),(25,[.keep [6] []],[]),(31,[.keep [6] []],[]),(37,[.keep [5,7,52,53,54] [5,7]],[.keep [5,7,52,53,54] [5,7]]),(43,[.keep [] []],[]),(54,[.keep [6] []],[]),(60,[.keep [6] []],[]),(65,[.keep [6] []],[])]⟩),
 (200,⟨0x26c44426c440222012,[],[]⟩),
 (188,⟨0x2662262221222,[],[]⟩),
 (157,⟨0x2202326222002202001ef200220022022226200223262220022022226200202022020202020200002,[],[(8,[.keep [1,2,3,4,5,12] [1,2,3,4,5,10]],[.keep [] [1,2,3,4,5,10]]),(27,[.keep [] [1,2,3,4,5,10]],[]),(39,[.keep [] [1,2,3,4,5,10]],[]),(47,[.keep [] [1,2,3,4,5,10]],[]),(53,[.keep [2,3,4] [2,3,4,10]],[])]⟩),
 (189,⟨0x222622262222264444c4400222020262222262622020262020222620220122,[],[(12,[.canon (.s 7) 2007 2,.keep [1,5,7,8] [5,2007]],[])]⟩),
 (158,⟨0x20222622230026000226002020000e200262220202622002202202020200022,[],[(6,[.keep [2,3,4,5,13] [2,3,4,5]],[.keep [] [2,3,4,5]]),(14,[.canon (.s 8) 2008 2,.keep [2,3,4,5,6,7,8,13] [2,3,4,5,6,16,2008]],[.canon (.s 8) 2008 2,.keep [2,3,4,5,6,7,8,13] [2,3,4,5,6,16,2008]]),(20,[.keep [2,3,4,5,13] [2,3,4,5]],[]),(29,[.canon (.s 8) 2008 2,.keep [2,3,4,5,6,7,8,13,36,37,38] [2,3,4,5,6,16,2008]],[.canon (.s 8) 2008 2,.keep [2,3,4,5,6,7,8,13,36,37,38] [2,3,4,5,6,16,2008]]),(35,[.canon (.s 8) 2008 2,.keep [2,3,4,5,6,7,8,13] [2,3,4,5,6,16,2008]],[]),(46,[.keep [] [2,3,4,5]],[]),(58,[.keep [4,5] [4,5]],[])]⟩),
 (117,⟨0x20022222020262222222022202002202222202e2002020202222222202600200022002022220002,[],[(8,[.keep [2,3] [2,3]],[]),(14,[.keep [1,2,3,22,23] [1,2,3]],[.keep [1,2,3,22,23] [1,2,3]]),(20,[.keep [1,2,3] [1,2,3]],[]),(32,[.keep [2,3] [2,3]],[]),(39,[.keep [1,2,3,36] [1,2,3]],[.keep [] [1,2,3]]),(51,[.keep [] [1,2,3]],[]),(61,[.keep [2,3] [2,3]],[]),(71,[.keep [2,3] [2,3]],[]),(75,[.keep [2,3] [2,3]],[])]⟩),
 (82,⟨0x2222302022212,[],[]⟩),
 (159,⟨0x264426402201,[],[]⟩),
 (119,⟨0x26c4444c4404440222006c4404440264402644026c444044026440222012,[],[]⟩),
 (121,⟨0x22e222212,[],[]⟩),
 (120,⟨0x226221,[],[]⟩),
 (160,⟨0x22226260002000201,[],[(6,[.drop [2,3,4,5,6,9,10,11,12,13,14,15,16,17,18]],[.drop [2,3,4,5,6,9,10,11,12,13,14,15,16,17,18]]),(12,[.drop [0,1,2,3,4,5,6,7,8,9,10,11,12,13,14,15,16,17,18]],[]),(22,[.drop [0,1,2,3,5,6,7,8,9,10,11,12,13,14,15,16,17,18]],[]),(27,[.drop [0,1,2,3,5,6,7,8,9,10,11,12,13,14,15,16,17,18]],[])]⟩),
 (118,⟨0x226622064402640222220122,[(20,[.closeB 5])],[]⟩),
 (83,⟨0x26222200012,[(5,[.canon (.s 3) 9004 0,.canon (.s 4) 9003 0])],[]⟩),
 (123,⟨0x26c444422012,[],[]⟩),
 (162,⟨0x2622212,[],[]⟩),
 (124,⟨0x262226222122,[],[]⟩),
 (122,⟨0x2644426c404026c40426200222644426440262022026001cf444042644026200202012,[],[]⟩),
 (146,⟨0x2262212,[],[]⟩),
 (103,⟨0x264c4442600122,[(10,[.closeB 3])],[]⟩),
 (84,⟨0x2622122,[],[]⟩),
 (56,⟨0x221,[],[]⟩),
 (127,⟨0x221,[],[]⟩),
 (126,⟨0x2622222212,[],[]⟩),
 (125,⟨0x22622012,[(5,[.closeB 1])],[]⟩),
 (85,⟨0x22212,[],[]⟩),
 (131,⟨0x222222626002620002220012201,[],[(8,[.keep [0] []],[]),(14,[.keep [0,3,4] []],[.keep [0,3,4] []]),(20,[.keep [3] []],[])]⟩),
 (132,⟨0x222222626002620002220012201,[],[(8,[.keep [0] []],[]),(14,[.keep [0,3,4] []],[.keep [0,3,4] []]),(20,[.keep [3] []],[])]⟩),
 (89,⟨0x2622200,[],[]⟩),
 (129,⟨0x22222226c04422202020000226222012,[],[(8,[.keep [2,7,15,16,17] []],[.keep [2,7,15,16,17] []]),(14,[.keep [7] []],[])]⟩),
 (201,⟨0x2622212,[],[]⟩),
 (190,⟨0x26222122,[],[]⟩),
 (163,⟨0x220020262262220026c4400220002220112,[],[]⟩),
 (168,⟨0x26200201,[],[(8,[.canon (.s 2) 4004 1],[]),(12,[.canon (.s 2) 4004 1],[])]⟩),
 (179,⟨0x222e202202236222002020000222202000002226200222622222020000200,[(21,[.closeS (.s 25)]),(57,[.closeS (.s 54)])],[(6,[.canon (.s 3) 2003 1,.keep [0,1,3,11,12,13] [2003]],[.canon (.s 3) 2003 1,.keep [0,1,3,11,12,13] [2003]]),(12,[.canon (.s 3) 2003 1,.keep [0,1,3] [2003]],[]),(23,[.keep [] []],[]),(28,[.canon (.s 3) 2003 1,.keep [0,3,29,30,31] [2003]],[.canon (.s 3) 2003 1,.keep [0,3,29,30,31] [2003]]),(34,[.keep [] []],[]),(43,[.canon (.s 3) 2003 1,.keep [0,3,6,29,30,31,37,38,39] [2003]],[.canon (.s 3) 2003 1,.keep [0,3,6,29,30,31,37,38,39] [2003]]),(49,[.canon (.s 3) 2003 1,.keep [0,3,6,29,30,31] [2003]],[]),(59,[.keep [] []],[])]⟩),
 (145,⟨0x2212,[],[]⟩),
 (164,⟨0x22262260202220122,[],[(8,[.canon (.c 5 0) 4100 1,.keep [3,5,9] [3,5,4100]],[.canon (.c 5 0) 4100 1,.keep [] [3,5,4100]])]⟩),
 (130,⟨0x2222202622622220022022202e2001112,[],[]⟩),
 (87,⟨0x26223222002e2220222e2220222222226222220222222020022,[],[]⟩),
 (88,⟨0x26444222012,[],[]⟩),
 (133,⟨0x262201,[],[]⟩),
 (90,⟨0x22222622220622020260006402201,[],[]⟩),
 (57,⟨0x22222022001ef622226202062020620202662222620202226622226202020262222202022002064422222202622202222002002202026222002222202062222201022,[],[(22,[.keep [3,4,7,8,9,10] [3,4,7,9]],[]),(49,[.keep [4,11] [4,11]],[])]⟩),
 (128,⟨0x2262212,[],[]⟩),
 (86,⟨0x226222222302026222220122,[(21,[.closeB 2])],[]⟩),
 (55,⟨0x22622022200226000264402220122,[],[]⟩),
 (102,⟨0x2222002220002220112,[],[]⟩),
 (69,⟨0x6c44222222022212,[],[]⟩),
 (140,⟨0x2262212,[],[]⟩),
 (96,⟨0x2262222622222200202020202020122,[(28,[.closeB 2])],[(24,[.keep [2,3,6,7] [2,3]],[]),(34,[.keep [2,3,13] [2,3]],[])]⟩),
 (62,⟨0x2622222022006c444c0444264026c440022022202600122,[],[]⟩),
 (101,⟨0x226022222022,[],[(6,[.keep [3,4,8] [3,4]],[.keep [] [3,4]]),(16,[.keep [] [3,4]],[]),(20,[.keep [4] [4]],[])]⟩),
 (97,⟨0x262262220026c444c0400264026c4400220002220112,[],[]⟩),
 (107,⟨0x26222212,[],[]⟩),
 (71,⟨0x226226222226022620220122,[],[]⟩),
 (195,⟨0x26222221,[],[]⟩),
 (213,⟨0x22226260002000201,[],[(6,[.keep [0,1,7,8] []],[.keep [0,1,7,8] []]),(12,[.keep [] []],[]),(22,[.keep [4] []],[]),(27,[.keep [4] []],[])]⟩),
 (194,⟨0x226221,[],[]⟩),
 (175,⟨0x264c4422012,[],[]⟩),
 (176,⟨0x2206c444c440422022200000212,[],[(6,[.keep [2,7,8,9] [2]],[.keep [2,7,8,9] [2]]),(12,[.keep [] []],[]),(22,[.keep [4] []],[]),(27,[.keep [4] []],[])]⟩),
 (177,⟨0x26c444422012,[],[]⟩),
 (180,⟨0x200226c0442602020202202022000222,[],[(8,[.keep [6,7] [6,7]],[]),(14,[.keep [4,5,6,7,15] [4,5,6,7]],[.keep [] [4,5,6,7]]),(24,[.keep [] [4,5,6,7]],[]),(28,[.keep [6,7] [6,7]],[])]⟩),
 (166,⟨0x2220622102,[],[]⟩),
 (196,⟨0x2200222202262222626200203202026220220220200000622260202220000001002,[],[(6,[.keep [1,2,4,5,13,14,15] [2,4,5]],[.keep [1,2,4,5,13,14,15] [2,4,5]]),(12,[.keep [4,5] [4,5]],[]),(20,[.keep [1,2,4,5,7,13,14,15,27,28,29] [2,4,5]],[.keep [1,2,4,5,7,13,14,15,27,28,29] [2,4,5]]),(26,[.keep [1,2,4,5,13,14,15] [2,4,5]],[]),(44,[.keep [4,5,6] [4,5]],[]),(50,[.keep [4,5,6] [4,5]],[])]⟩),
 (178,⟨0x22223300200262212,[],[]⟩),
 (144,⟨0x2202620220000222026202200002220262022000000260012,[],[(8,[.keep [6] []],[]),(14,[.keep [1,2,3,17,18,19] [3]],[.keep [1,2,3,17,18,19] [3]]),(20,[.keep [1,2,3] [3]],[]),(30,[.keep [6] []],[]),(37,[.keep [1,3,28,29,30] [3]],[.keep [1,3,28,29,30] [3]]),(43,[.keep [1,3] [3]],[]),(53,[.keep [6] []],[]),(60,[.keep [3,39,40,41] [3]],[.keep [3,39,40,41] [3]]),(66,[.keep [] []],[]),(76,[.keep [6] []],[]),(81,[.keep [6] []],[])]⟩),
 (147,⟨0x2220622102,[],[]⟩),
 (108,⟨0x22222622226c4c4404022222020262006c04022202020000626202260200202202e600200112,[],[(18,[.canon (.s 11) 2011 1,.keep [1,3,4,11,36,37,38] [4,2011]],[.canon (.s 11) 2011 1,.keep [1,3,4,11,36,37,38] [4,2011]]),(24,[.canon (.s 11) 2011 1,.keep [11] [2011]],[])]⟩),
 (72,⟨0x22232202001ef22202220122,[],[]⟩),
 (46,⟨0x266222226222002662222262220022266222226222002022622222202622202262222202622202222020122,[],[]⟩),
 (47,⟨0x26c44444262220026c44444262220022226222222022222020266222226222002026622222622200202662222262220020266222226222002020122,[],[(36,[.keep [2,3,6,67] [2,3]],[])]⟩),
 (63,⟨0x262236302e22202036002020e222022200122,[(33,[.closeS (.c 9 1),.closeS (.c 9 2)])],[]⟩),
 (35,⟨0x2001ef2222202202001ef00001122,[],[]⟩),
 (33,⟨0x2222262001ef020022000222260200202202e0001122,[],[(18,[.canon (.s 9) 2009 1,.keep [1,3,5,9,25,26] [3,5,2009]],[.canon (.s 9) 2009 1,.keep [1,3,5,9,25,26] [3,5,2009]]),(24,[.canon (.s 9) 2009 1,.keep [9] [2009]],[])]⟩),
 (151,⟨0x26c4444026402201,[],[]⟩),
 (152,⟨0x26442201,[],[]⟩),
 (113,⟨0x222064c002644c00222600620000644402644022201,[],[(8,[.keep [2] []],[]),(14,[.keep [0,3] []],[.keep [0,3] []]),(20,[.keep [] []],[]),(28,[.keep [2] []],[]),(33,[.keep [2] []],[])]⟩),
 (114,⟨0x26442201,[],[]⟩),
 (77,⟨0x2222222022226020222062260202260206000022226020622000022202220620226020600002220202602012,[],[(10,[.keep [4] []],[]),(16,[.keep [1,2,5,6] [2,5]],[.keep [1,2,5,6] [2,5]]),(22,[.keep [5] [5]],[]),(30,[.keep [4] []],[]),(39,[.keep [4] []],[]),(45,[.keep [5,7] [5]],[.keep [5,7] [5]]),(51,[.keep [5] [5]],[]),(60,[.keep [4] []],[]),(66,[.keep [5,7,8] [5]],[.keep [5,7,8] [5]]),(72,[.keep [5,7] [5]],[]),(80,[.keep [4] []],[]),(88,[.keep [4] []],[]),(97,[.keep [4] []],[]),(101,[.keep [4] []],[])]⟩),
 (78,⟨0x2222220620226020600006444026c444c04040222020260206220000222006cc44c4444c04040440264402220064402644026c04026c44040264402644022200644022202202026022602012,[],[(13,[.keep [6] []],[]),(20,[.keep [6] []],[]),(22,[.keep [1,2,3,7] [3,7]],[]),(28,[.keep [6] []],[]),(36,[.keep [6] []],[]),(42,[.keep [1,3,7,8] [3,7]],[.keep [1,3,7,8] [3,7]]),(48,[.keep [] []],[]),(59,[.keep [6] []],[]),(64,[.keep [1,3,7,8,9,10] [3,7,9]],[.keep [1,3,7,8,9,10] [3,7,9]]),(70,[.keep [1,3,7,8] [3,7]],[]),(78,[.keep [6] []],[]),(84,[.keep [6] []],[])]⟩),
 (115,⟨0x2262222262022022,[],[]⟩),
 (54,⟨0x20222222262226c0442602020260226020622260200062200002,[],[(6,[.keep [1,2,3,6,7] [3,6]],[.keep [1,2,3,6,7] [3,6]]),(12,[.keep [6] [6]],[]),(18,[.keep [1,2,3,6,7,8] [3,6]],[.keep [1,2,3,6,7,8] [3,6]]),(24,[.keep [1,2,3,6,7] [3,6]],[]),(34,[.keep [6] [6]],[]),(40,[.keep [6] [6]],[])]⟩),
 (79,⟨0x2222226cc40444cc4040444022202602262020622262020000220060e20200022020600122,[],[(30,[.keep [2,3,5,6,7] [2,3,5]],[.keep [2,3,5,6,7] [2,3,5]]),(36,[.keep [6] []],[])]⟩),
 (80,⟨0x22206222602026006220002222203622000622262002062202202026260022602062226020260062200002222012,[],[(6,[.canon (.s 3) 2003 1,.keep [1,3] [1,2003]],[.canon (.s 3) 2003 1,.keep [1,3] [1,2003]]),(14,[.canon (.s 3) 2003 1,.keep [1,3,4,5] [1,2003]],[.canon (.s 3) 2003 1,.keep [1,3,4,5] [1,2003]]),(20,[.canon (.s 3) 2003 1,.keep [1,3,4] [1,2003]],[]),(24,[.canon (.s 3) 2003 1,.keep [1,3,4,5] [1,2003]],[.canon (.s 3) 2003 1,.keep [1,3,4,5] [1,2003]]),(30,[.canon (.s 3) 2003 1,.keep [1,3,4,5] [1,2003]],[]),(43,[.canon (.s 3) 2003 1,.keep [1,3,4,5] [1,2003]],[]),(46,[.canon (.s 3) 2003 1,.keep [1,3,5] [1,2003]],[]),(53,[.canon (.s 3) 2003 1,.keep [1,3] [1,2003]],[]),(59,[.canon (.s 3) 2003 1,.keep [1,3,8] [1,2003]],[.canon (.s 3) 2003 1,.keep [1,3,8] [1,2003]]),(65,[.keep [] []],[]),(73,[.keep [2] []],[]),(78,[.keep [2] []],[])]⟩),
 (116,⟨0x22262622222202062026262202022200122,[],[(10,[.canon (.s 5) 2005 2,.keep [2,3,5] [2,3,2005]],[])]⟩),
 (53,⟨0x202222220222620260600206200622260200062200002020222222222220260020620062226020006220002222222226222202e0006222602000622000222222222026006220000206444022220102,[],[(8,[.keep [2,3] [2]],[]),(14,[.keep [1,2,4] [1,2]],[.keep [1,2,4] [1,2]]),(20,[.keep [1,2] [1,2]],[]),(30,[.keep [2,3] [2]],[]),(37,[.keep [1,2,6] [1,2]],[.keep [1,2,6] [1,2]]),(43,[.keep [1,2] [1,2]],[]),(49,[.keep [1,2,6,7] [1,2]],[.keep [1,2,6,7] [1,2]]),(55,[.keep [1,2,6] [1,2]],[]),(65,[.keep [2,3] [2]],[]),(73,[.keep [1,2,9] [1,2]],[.keep [1,2,9] [1,2]]),(79,[.keep [1,2] [1,2]],[]),(85,[.keep [1,2,9,10] [1,2]],[.keep [1,2,9,10] [1,2]]),(91,[.keep [1,2,9] [1,2]],[]),(103,[.keep [2,3] [2]],[]),(113,[.keep [2,3] [2]],[]),(119,[.keep [1,2,13] [1,2]],[.keep [1,2,13] [1,2]]),(125,[.keep [2] [2]],[]),(131,[.keep [1,2,13,14] [1,2]],[.keep [1,2,13,14] [1,2]]),(137,[.keep [1,2,13] [1,2]],[]),(147,[.keep [2,3] [2]],[]),(153,[.keep [2,3] [2]],[])]⟩),
 (21,⟨0x2222302022212,[],[]⟩),
 (134,⟨0x222222666202602006c002622000012,[],[(8,[.keep [1,2,5,6] [2]],[.keep [1,2,5,6] [2]]),(14,[.keep [5] []],[])]⟩),
 (91,⟨0x222212,[],[]⟩),
 (92,⟨0x22222226620260202622000020012,[],[(16,[.keep [1,2,5,6] [2]],[.keep [1,2,5,6] [2]]),(22,[.keep [5] []],[])]⟩),
 (135,⟨0x6442640264022006c4044026402200640264026402201,[],[]⟩),
 (93,⟨0x2220222602062200006c4404c440444026440222002200644022202200622022012,[],[(8,[.keep [2] []],[]),(19,[.keep [2] []],[]),(26,[.keep [2] []],[]),(28,[.keep [1] [1]],[]),(34,[.keep [2] []],[]),(40,[.keep [1,3] [1]],[.keep [1,3] [1]]),(46,[.keep [] []],[]),(54,[.keep [2] []],[]),(59,[.keep [2] []],[])]⟩),
 (58,⟨0x264426440222012,[],[]⟩),
 (109,⟨0x26c444422012,[],[]⟩),
 (110,⟨0x22222602260226020622260200012,[],[(6,[.keep [1,2,3,7] [3]],[.keep [1,2,3,7] [3]]),(12,[.keep [] []],[]),(20,[.keep [6] []],[]),(25,[.keep [6] []],[])]⟩),
 (73,⟨0x22202626020062200006c4404cc40404c4c40044c400222006c4404c44044c400222006c4001cf404004c44044c4002220122,[],[(8,[.keep [4] []],[]),(16,[.keep [4] []],[]),(24,[.keep [4] []],[]),(30,[.keep [2,3,5] [2,3]],[.keep [2,3,5] [2,3]]),(36,[.keep [] []],[]),(44,[.keep [4] []],[]),(49,[.keep [4] []],[])]⟩),
 (111,⟨0x22212,[],[]⟩),
 (74,⟨0x22206444c0402622260200220062200012,[],[(6,[.keep [1,3] [1]],[.keep [1,3] [1]]),(12,[.keep [] []],[]),(23,[.keep [1,3,4] [1]],[]),(28,[.keep [2] []],[]),(33,[.keep [2] []],[])]⟩),
 (148,⟨0x222222222222622600262260026022600620002226022602062226020002022260226020112,[],[(10,[.keep [1,2,3,8,9,10] [3]],[.keep [1,2,3,8,9,10] [3]]),(16,[.keep [8,9] []],[]),(24,[.keep [1,2,3,8,9,10,11,12] [3]],[.keep [1,2,3,8,9,10,11,12] [3]]),(30,[.keep [1,2,3,8,9,10] [3]],[])]⟩),
 (149,⟨0x222222226c0442220202602260206222602000012,[],[(8,[.keep [1,2,3,7,8] [3]],[.keep [1,2,3,7,8] [3]]),(14,[.keep [7] []],[])]⟩),
 (150,⟨0x26220062222622222620062006402201,[],[(24,[.keep [0,1] []],[])]⟩),
 (112,⟨0x222644222002666226206602600266600600660060022622622222226226222202222222202e2220222022226222222022202ee2220220022022222022010000644222222200262220022202222002622200222000000011122,[],[(12,[.keep [2,3,7,8,9,10,11,12] [2,3]],[]),(18,[.keep [2,3,7,8,9,10,11,12] [2,3]],[]),(60,[.keep [13,14] []],[])]⟩),
 (75,⟨0x222026260200622000222332002622220122,[],[(10,[.keep [4] []],[]),(16,[.keep [2,3,8] [2,3]],[.keep [2,3,8] [2,3]]),(22,[.keep [] []],[]),(30,[.keep [4] []],[]),(35,[.keep [4] []],[])]⟩),
 (48,⟨0x2622022002600064402220122,[],[]⟩),
 (76,⟨0x2220022000220112,[],[]⟩),
 (49,⟨0x622322022222202602122,[],[]⟩),
 (65,⟨0x222026026020622000022202020202622220202012,[],[(12,[.keep [1,2,7,8] [2]],[]),(15,[.keep [4] []],[]),(34,[.keep [1,2,15] [2]],[]),(37,[.keep [4] []],[]),(43,[.keep [1,2,5] [2]],[.keep [1,2,5] [2]]),(49,[.keep [] []],[]),(57,[.keep [4] []],[]),(62,[.keep [4] []],[])]⟩),
 (36,⟨0x26222220260206c444c0404264026c440022022202600122,[],[]⟩),
 (51,⟨0x22222602260062000222622212,[],[(8,[.keep [2,7,8] []],[.keep [2,7,8] []]),(14,[.keep [] []],[]),(22,[.keep [6] []],[]),(27,[.keep [6] []],[])]⟩),
 (50,⟨0x22262226222222222222622602260062000222602260202022212,[],[(6,[.keep [1,2,4,9] [4]],[.keep [1,2,4,9] [4]]),(12,[.keep [1,2,4] [4]],[]),(20,[.keep [1,2,4,9,10,11] [4]],[.keep [1,2,4,9,10,11] [4]]),(26,[.keep [1,2,4,9] [4]],[]),(34,[.keep [8] []],[]),(40,[.keep [8] []],[])]⟩),
 (52,⟨0x222222622226c4c4404022202062006c0402220202602260206260000012,[],[(8,[.canon (.s 9) 2009 1,.keep [1,2,3,4,9,10] [4,2009]],[.canon (.s 9) 2009 1,.keep [1,2,3,4,9,10] [4,2009]]),(14,[.canon (.s 9) 2009 1,.keep [9] [2009]],[])]⟩),
 (16,⟨0x26e222222e22200026e222222e2220002226e222222e2220002022e2222222022001ef22202220226222202001ef26222e20202200202222020122,[],[]⟩),
 (17,⟨0x26001cf4444442e2220002226001cf4444442e2220002022e2222222002026e222222e2220002026e222222e2220002026e222222e2220002026e222222e2220002020122,[],[]⟩),
 (37,⟨0x2e2223622022220122,[],[]⟩),
 (38,⟨0x22222262001ef0000262226020000122,[],[(8,[.canon (.s 7) 2007 1,.keep [1,3,5,7,8] [3,5,2007]],[.canon (.s 7) 2007 1,.keep [1,3,5,7,8] [3,5,2007]]),(14,[.canon (.s 7) 2007 1,.keep [7] [2007]],[])]⟩),
 (31,⟨0x2206262026002000200620201,[],[(8,[.keep [4] []],[]),(14,[.keep [0,1,12,13] []],[.keep [0,1,12,13] []]),(20,[.keep [] []],[]),(30,[.keep [4] []],[]),(35,[.keep [4] []],[])]⟩),
 (9,⟨0x26c001cf4444222264442622202e00006c003cf040042220642622202001ef000022202e00022202001ef00000640220020122,[],[(42,[.keep [1,4,7,11,12] [4,7]],[])]⟩)]
end Go.VE
namespace Go.VE
namespace trace_events_c1
def Bs:List RO:=[o1 20 (.s 18) [],o2 21 (ix 5) [.s 16,.s 18] [],o2 22 (lD 5) [.s 21] [21],o2 6 (.a (.alloc 5 [.int .i64 0,.int .i64 0,.int .i64 0,.int .i64 0,.bW])) [] [],o1 5 (.s 20) [20],oz (.l (.store 5)) [.s 6,.s 22] [22]]
def za:List RO:=[o1 23 (.s 0) [],o1 24 (.s 3) [],o1 25 (.s 5) [5],o2 26 (bI .add) [.s 25,.k (.int .i64 1)] [25],o2 27 (.p (.build [.int .i64 0,.int .i64 0] [(0,1),(1,1)])) [.s 24,.s 26] [24,26],o2 28 (lD 5) [.s 6] [6],
 o2 29 .c [.s 23,.s 27,.s 28] [23,27,28],o2 30 (.p .not) [.s 29] [29]]
def wA:List RO:=[o2 31 (bI .add) [.s 18,.k (.int .i64 1)] [],o1 18 (.s 31) [31]]
def EH:RC:=.hg (.seq (.ops [o2 19 (bI .lss) [.s 18,.s 17] []]) (.seq (.cond (.s 19) .skip (.exit 2)) (.seq (.block 3 (.seq (.ops Bs) (.seq (.ops za) (.cond (.s 30) .ret .skip)))) (.ops wA)))) (.keep [0,3,8,9,10,16,17,18] [])
def JY:List RO:=[o1 12 (.s 10) [],o2 13 (ix 3) [.s 8,.s 10] [],o2 14 (lD 3) [.s 13] [13],o2 4 (.a (.alloc 3 [.str ByteArray.empty,.bW,.bW])) [] [],o1 3 (.s 12) [12],oz (.l (.store 3)) [.s 4,.s 14] [14]]
def GF:List RO:=[o2 15 (fa 2) [.s 4] [],o2 16 (ld 1) [.s 15] [15],o2 17 ln [.s 16] [],o1 18 (.k (.int .i64 0)) []]
def Fj:List RO:=[o2 32 (bI .add) [.s 10,.k (.int .i64 1)] [],o1 10 (.s 32) [32]]
def U2:RC:=.block 2 (.gh (.keep [0,3,8,9,10,16,17,18] []) (.loop EH))
def MV:RC:=.hg (.seq (.ops [o2 11 (bI .lss) [.s 10,.s 9] []]) (.seq (.cond (.s 11) .skip (.exit 0)) (.seq (.block 1 (.seq (.ops JY) (.seq (.ops GF) U2))) (.ops Fj)))) (.keep [0,8,9,10] [])
def Qa:List RO:=[o2 7 (fa 0) [.s 1] [1],o2 8 (ld 1) [.s 7] [7],o2 9 ln [.s 8] [],o1 10 (.k (.int .i64 0)) []]
def U1:RC:=.block 0 (.gh (.keep [0,8,9,10] []) (.loop MV))
def text:RF:=⟨33,[],.seq (.ops Qa) U1⟩
section
variable {S:Sys}
abbrev I1 (ps:Sl bQ) (i:Int) (B:List (List V)) (more:Bool) (y:Nat):St:=⟨[(0,.yl y),Cv 8 ps,Iv 9 (len ps),Iv 10 i],[],[],B,more,y⟩
abbrev I2 (ps:Sl bQ) (i:Int) (es:Sl Event) (j:Int) (B:List (List V)) (more:Bool) (y:Nat):St:=⟨[(0,.yl y),Iv 3 i,Cv 8 ps,Iv 9 (len ps),Iv 10 i,Cv 16 es,Iv 17 (len es),Iv 18 j],[],[],B,more,y⟩
abbrev S2 (ps:Sl bQ) (i:Int) (es:Sl Event) (j:Int) (b:Bool) (B:List (List V)) (more:Bool) (y:Nat):St:=⟨[(0,.yl y),Iv 3 i,Cv 8 ps,Iv 9 (len ps),Iv 10 i,Cv 16 es,Iv 17 (len es),Iv 18 j,Bv 19 b],[],[],B,more,y⟩
theorem TT (ps:Sl bQ) (i:Int) (es:Sl Event) (j:Int) (B:List (List V)) (more:Bool) (y:Nat) (D:decide (j<len es)=false) :
 rn S.bare ny some (.rc EH) [] (I2 ps i es j B more y)=some (.exit 2,S2 ps i es j false B more y):=by
 refine Le.get ?_;refine Kf (n:=7) (fo':=.rc (.cond (.s 19) .skip (.exit 2))) (fs':=[.seq (.seq (.block 3 (.seq (.ops Bs) (.seq (.ops za) (.cond (.s 30) .ret .skip)))) (.ops wA)),.gst (.keep [0,3,8,9,10,16,17,18] [])]) (λb=>S2 ps i es j b B more y) D (by kernel_rfl) ?_
 exact Le.of_eq (by kernel_rfl)
theorem VV (ps:Sl bQ) (i:Int) (es:Sl Event) (j:Int) (e:Event) (B:List (List V)) (more:Bool) (y:Nat) (G:decide (j<len es)=true) (D:idx es j=some e) (J:(!(more || !B.isEmpty))=false) :
 rn S.bare ny some (.rc EH) [] (I2 ps i es j ([enc (⟨i,IntKind.wrap .i64 (j+1)⟩:aY),enc e]::B) more y)=some (.norm,I2 ps i es (IntKind.wrap .i64 (j+1)) B more y):=by
 refine Le.get ?_;refine Kt (n:=7) (fo':=.rc (.cond (.s 19) .skip (.exit 2))) (fs':=[.seq (.seq (.block 3 (.seq (.ops Bs) (.seq (.ops za) (.cond (.s 30) .ret .skip)))) (.ops wA)),.gst (.keep [0,3,8,9,10,16,17,18] [])]) (λb=>S2 ps i es j b ([enc (⟨i,IntKind.wrap .i64 (j+1)⟩:aY),enc e]::B) more y) G (by kernel_rfl) ?_
 refine N6 D ?_;refine Qc 8 false [] (Bs.drop 1) [.seq (.seq (.ops za) (.cond (.s 30) .ret .skip)),.blk 3,.seq (.ops wA),.gst (.keep [0,3,8,9,10,16,17,18] [])] ⟨[(0,.yl y),Iv 3 i,Cv 8 ps,Iv 9 (len ps),Iv 10 i,Cv 16 es,Iv 17 (len es),Iv 18 j,Bv 19 true,Iv 20 j],[],[],([enc (⟨i,IntKind.wrap .i64 (j+1)⟩:aY),enc e]::B),more,y⟩ .i64 rfl (by kernel_rfl) λx h1=>?_
 obtain rfl:x=e:=by rw[D]at h1;cases h1;rfl
 refine Ud 1 false [] (Bs.drop 3) [.seq (.seq (.ops za) (.cond (.s 30) .ret .skip)),.blk 3,.seq (.ops wA),.gst (.keep [0,3,8,9,10,16,17,18] [])] ⟨[(0,.yl y),Iv 3 i,Cv 8 ps,Iv 9 (len ps),Iv 10 i,Cv 16 es,Iv 17 (len es),Iv 18 j,Bv 19 true,Iv 20 j,Cv 22 x],[],[],([enc (⟨i,IntKind.wrap .i64 (j+1)⟩:aY),enc x]::B),more,y⟩ [iv 0,iv 0,iv 0,iv 0,.v .bW] rfl (by simp only[bN,xS,qv,rH,qt,rY,s8,rK,tg,qc,rQ,xF,ta,tf,tv,sX,vv,vt,rG,s_,SV.cM];rfl) (by kernel_rfl) ?_
 refine Ast 1 false [] (Bs.drop 5) [.seq (.seq (.ops za) (.cond (.s 30) .ret .skip)),.blk 3,.seq (.ops wA),.gst (.keep [0,3,8,9,10,16,17,18] [])] ⟨[(0,.yl y),Iv 3 i,Cv 8 ps,Iv 9 (len ps),Iv 10 i,Cv 16 es,Iv 17 (len es),Iv 18 j,Bv 19 true,Cv 22 x,Pv 6,Iv 5 j],[Xb 6 (⟨0,0,0,0,.nil⟩:Event)],[],([enc (⟨i,IntKind.wrap .i64 (j+1)⟩:aY),enc x]::B),more,y⟩ 6 0 x [iv 0,iv 0,iv 0,iv 0,.v .bW] ((cells x).map .v) rfl (by kernel_rfl) ?_
 refine V0 (n:=10) (q:=za.drop 6) (fs':=[.seq (.cond (.s 30) .ret .skip),.blk 3,.seq (.ops wA),.gst (.keep [0,3,8,9,10,16,17,18] [])]) (st:=⟨[(0,.yl y),Iv 3 i,Cv 8 ps,Iv 9 (len ps),Iv 10 i,Cv 16 es,Iv 17 (len es),Iv 18 j,Bv 19 true,(23,.yl y),Cv 27 (⟨i,IntKind.wrap .i64 (j+1)⟩:aY),Cv 28 x],[Xb 6 x],[],([enc (⟨i,IntKind.wrap .i64 (j+1)⟩:aY),enc x]::B),more,y⟩) (vs:=[cv (⟨i,IntKind.wrap .i64 (j+1)⟩:aY),cv x]) (by kernel_rfl) rfl (by kernel_rfl) (by kernel_rfl) rfl rfl ?_
 refine Kf (n:=3) (fo':=.rc (.cond (.s 30) .ret .skip)) (fs':=[.blk 3,.seq (.ops wA),.gst (.keep [0,3,8,9,10,16,17,18] [])]) (λb=>⟨[(0,.yl y),Iv 3 i,Cv 8 ps,Iv 9 (len ps),Iv 10 i,Cv 16 es,Iv 17 (len es),Iv 18 j,Bv 19 true,Bv 30 b],[Xb 6 x],[],B,more,y⟩) J (by kernel_rfl) ?_
 exact Le.of_eq (by kernel_rfl)
theorem R8 (ps:Sl bQ) (i:Int) (es:Sl Event) (j:Int) (e:Event) (B:List (List V)) (more:Bool) (y:Nat) (G:decide (j<len es)=true) (D:idx es j=some e) (J:(!(more || !B.isEmpty))=true) :
 rn S.bare ny some (.rc EH) [] (I2 ps i es j ([enc (⟨i,IntKind.wrap .i64 (j+1)⟩:aY),enc e]::B) more y)=some (.ret,⟨[(0,.yl y),Iv 3 i,Cv 8 ps,Iv 9 (len ps),Iv 10 i,Cv 16 es,Iv 17 (len es),Iv 18 j,Bv 19 true,Bv 30 true],[Xb 6 e],[],B,more,y⟩):=by
 refine Le.get ?_;refine Kt (n:=7) (fo':=.rc (.cond (.s 19) .skip (.exit 2))) (fs':=[.seq (.seq (.block 3 (.seq (.ops Bs) (.seq (.ops za) (.cond (.s 30) .ret .skip)))) (.ops wA)),.gst (.keep [0,3,8,9,10,16,17,18] [])]) (λb=>S2 ps i es j b ([enc (⟨i,IntKind.wrap .i64 (j+1)⟩:aY),enc e]::B) more y) G (by kernel_rfl) ?_
 refine N6 D ?_;refine Qc 8 false [] (Bs.drop 1) [.seq (.seq (.ops za) (.cond (.s 30) .ret .skip)),.blk 3,.seq (.ops wA),.gst (.keep [0,3,8,9,10,16,17,18] [])] ⟨[(0,.yl y),Iv 3 i,Cv 8 ps,Iv 9 (len ps),Iv 10 i,Cv 16 es,Iv 17 (len es),Iv 18 j,Bv 19 true,Iv 20 j],[],[],([enc (⟨i,IntKind.wrap .i64 (j+1)⟩:aY),enc e]::B),more,y⟩ .i64 rfl (by kernel_rfl) λx h1=>?_
 obtain rfl:x=e:=by rw[D]at h1;cases h1;rfl
 refine Ud 1 false [] (Bs.drop 3) [.seq (.seq (.ops za) (.cond (.s 30) .ret .skip)),.blk 3,.seq (.ops wA),.gst (.keep [0,3,8,9,10,16,17,18] [])] ⟨[(0,.yl y),Iv 3 i,Cv 8 ps,Iv 9 (len ps),Iv 10 i,Cv 16 es,Iv 17 (len es),Iv 18 j,Bv 19 true,Iv 20 j,Cv 22 x],[],[],([enc (⟨i,IntKind.wrap .i64 (j+1)⟩:aY),enc x]::B),more,y⟩ [iv 0,iv 0,iv 0,iv 0,.v .bW] rfl (by simp only[bN,xS,qv,rH,qt,rY,s8,rK,tg,qc,rQ,xF,ta,tf,tv,sX,vv,vt,rG,s_,SV.cM];rfl) (by kernel_rfl) ?_
 refine Ast 1 false [] (Bs.drop 5) [.seq (.seq (.ops za) (.cond (.s 30) .ret .skip)),.blk 3,.seq (.ops wA),.gst (.keep [0,3,8,9,10,16,17,18] [])] ⟨[(0,.yl y),Iv 3 i,Cv 8 ps,Iv 9 (len ps),Iv 10 i,Cv 16 es,Iv 17 (len es),Iv 18 j,Bv 19 true,Cv 22 x,Pv 6,Iv 5 j],[Xb 6 (⟨0,0,0,0,.nil⟩:Event)],[],([enc (⟨i,IntKind.wrap .i64 (j+1)⟩:aY),enc x]::B),more,y⟩ 6 0 x [iv 0,iv 0,iv 0,iv 0,.v .bW] ((cells x).map .v) rfl (by kernel_rfl) ?_
 refine V0 (n:=10) (q:=za.drop 6) (fs':=[.seq (.cond (.s 30) .ret .skip),.blk 3,.seq (.ops wA),.gst (.keep [0,3,8,9,10,16,17,18] [])]) (st:=⟨[(0,.yl y),Iv 3 i,Cv 8 ps,Iv 9 (len ps),Iv 10 i,Cv 16 es,Iv 17 (len es),Iv 18 j,Bv 19 true,(23,.yl y),Cv 27 (⟨i,IntKind.wrap .i64 (j+1)⟩:aY),Cv 28 x],[Xb 6 x],[],([enc (⟨i,IntKind.wrap .i64 (j+1)⟩:aY),enc x]::B),more,y⟩) (vs:=[cv (⟨i,IntKind.wrap .i64 (j+1)⟩:aY),cv x]) (by kernel_rfl) rfl (by kernel_rfl) (by kernel_rfl) rfl rfl ?_
 refine Kt (n:=3) (fo':=.rc (.cond (.s 30) .ret .skip)) (fs':=[.blk 3,.seq (.ops wA),.gst (.keep [0,3,8,9,10,16,17,18] [])]) (λb=>⟨[(0,.yl y),Iv 3 i,Cv 8 ps,Iv 9 (len ps),Iv 10 i,Cv 16 es,Iv 17 (len es),Iv 18 j,Bv 19 true,Bv 30 b],[Xb 6 x],[],B,more,y⟩) J (by kernel_rfl) ?_
 exact Le.of_eq (by kernel_rfl)
abbrev S1 (ps:Sl bQ) (i:Int) (b:Bool) (B:List (List V)) (more:Bool) (y:Nat):St:=⟨[(0,.yl y),Cv 8 ps,Iv 9 (len ps),Iv 10 i,Bv 11 b],[],[],B,more,y⟩
theorem T7 (ps:Sl bQ) (i:Int) (B:List (List V)) (more:Bool) (y:Nat) (D:decide (i<len ps)=false) :
 rn S.bare ny some (.rc MV) [] (I1 ps i B more y)=some (.exit 0,S1 ps i false B more y):=by
 refine Le.get ?_;refine Kf (n:=7) (fo':=.rc (.cond (.s 11) .skip (.exit 0))) (fs':=[.seq (.seq (.block 1 (.seq (.ops JY) (.seq (.ops GF) U2))) (.ops Fj)),.gst (.keep [0,8,9,10] [])]) (λb=>S1 ps i b B more y) D (by kernel_rfl) ?_
 exact Le.of_eq (by kernel_rfl)
def QA:List Fm:=[.blk 2,.blk 1,.seq (.ops Fj),.gst (.keep [0,8,9,10] [])]
theorem Q3 (ps:Sl bQ) (i:Int) (p:bQ) (B:List (List V)) (more:Bool) (y:Nat) (r:Out×St) (G:decide (i<len ps)=true) (D:idx ps i=some p)
 (h:rn S.bare ny some (.rc (.loop EH)) QA (I2 ps i p.events 0 B more y)=some r):rn S.bare ny some (.rc MV) [] (I1 ps i B more y)=some r:=by
 refine Le.get ?_;refine Kt (n:=7) (fo':=.rc (.cond (.s 11) .skip (.exit 0))) (fs':=[.seq (.seq (.block 1 (.seq (.ops JY) (.seq (.ops GF) U2))) (.ops Fj)),.gst (.keep [0,8,9,10] [])]) (λb=>S1 ps i b B more y) G (by kernel_rfl) ?_
 refine N6 D ?_;refine Qc 8 false [] (JY.drop 1) [.seq (.seq (.ops GF) U2),.blk 1,.seq (.ops Fj),.gst (.keep [0,8,9,10] [])] ⟨[(0,.yl y),Cv 8 ps,Iv 9 (len ps),Iv 10 i,Bv 11 true,Iv 12 i],[],[],B,more,y⟩ .i64 rfl (by kernel_rfl) λx h1=>?_
 obtain rfl:x=p:=by rw[D]at h1;cases h1;rfl
 refine Ud 1 false [] (JY.drop 3) [.seq (.seq (.ops GF) U2),.blk 1,.seq (.ops Fj),.gst (.keep [0,8,9,10] [])] ⟨[(0,.yl y),Cv 8 ps,Iv 9 (len ps),Iv 10 i,Bv 11 true,Iv 12 i,Cv 14 x],[],[],B,more,y⟩ [.v (.str ByteArray.empty),.v .bW,.v .bW] rfl (by simp only[bN,xS,qv,rH,qt,rY,s8,rK,tg,qc,rQ,xF,ta,tf,tv,sX,vv,vt,rG,s_,SV.cM];rfl) (by kernel_rfl) ?_
 refine Ast 1 false [] (JY.drop 5) [.seq (.seq (.ops GF) U2),.blk 1,.seq (.ops Fj),.gst (.keep [0,8,9,10] [])] ⟨[(0,.yl y),Cv 8 ps,Iv 9 (len ps),Iv 10 i,Bv 11 true,Cv 14 x,Pv 4,Iv 3 i],[Xb 4 (⟨ByteArray.empty,.nil,.nil⟩:bQ)],[],B,more,y⟩ 4 0 x [.v (.str ByteArray.empty),.v .bW,.v .bW] ((cells x).map .v) rfl (by kernel_rfl) ?_
 refine TI 6 false [] (GF.drop 2) [.seq U2,.blk 1,.seq (.ops Fj),.gst (.keep [0,8,9,10] [])] ⟨[(0,.yl y),Cv 8 ps,Iv 9 (len ps),Iv 10 i,Bv 11 true,Pv 4,Iv 3 i,Cv 16 x.events],[Xb 4 x],[],B,more,y⟩ x.events rfl (by kernel_rfl) ?_
 refine Ac (n:=5) (fo':=.rc (.loop EH)) (fs':=QA) (st':=I2 ps i x.events 0 B more y) (by kernel_rfl) (Le.of_eq h)
theorem R_ (ps:Sl bQ) (i:Int) (es:Sl Event) (j:Int) (B:List (List V)) (more:Bool) (y:Nat) :
 rn S.bare ny some (.ex 2) QA (S2 ps i es j false B more y)=some (.norm,I1 ps (IntKind.wrap .i64 (i+1)) B more y):=by kernel_rfl
theorem wrap_small (n:Nat) (h:n<9223372036854775807):IntKind.wrap .i64 ((n:Int)+1)=((n+1:Nat):Int):=by
 simp[IntKind.wrap,IntKind.bits,IntKind.signed];omega
abbrev eI (x:aY×Event):List V:=[enc x.1,enc x.2]
theorem uv.step {x:List V} {D rest:List (List V)} {more:Bool} (h:uv D (x::rest) more):∃B,D=x::B/\((!(more || !B.isEmpty))=false/\uv B rest more\/(!(more || !B.isEmpty))=true/\B=[]):=by
 rcases h with⟨rfl,rfl⟩|⟨rfl,u,r,hr⟩
 .exact⟨rest,rfl,.inl ⟨rfl,.inl ⟨rfl,rfl⟩⟩⟩
 .cases D with
  | nil=>exact absurd rfl u
  | cons w D=>
   simp only[List.cons_append,List.cons.injEq]at hr;obtain⟨rfl,rfl⟩:=hr;refine⟨D,rfl,?_⟩
   cases D with
   | nil=>exact .inr ⟨rfl,rfl⟩
   | cons z A=>exact .inl ⟨rfl,.inr ⟨rfl,by simp,r,rfl⟩⟩
theorem s9 {α:Type} {s:Sl α} {j:Nat} {x:α} {r:List α} (h:s.l.drop j=x::r):idx s (j:Int)=some x/\decide ((j:Int)<len s)=true/\s.l.drop (j+1)=r:=by
 have h1:j<s.l.length:=by
  apply Classical.byContradiction;intro w;rw[List.drop_eq_nil_of_le (by omega)]at h;cases h
 have u:=List.drop_eq_getElem_cons h1;rw[u]at h;simp only[List.cons.injEq]at h;refine⟨?_,by simp[len,h1],h.2⟩
 unfold idx;rw[if_pos (by omega)]
 simp[ζd h1,h.1]
variable {Q:Out×St->Option (Out×St)} {fs:List Fm}
theorem inner (ps:Sl bQ) (i:Int) (es:Sl Event) (U:es.l.length<9223372036854775807) (more:Bool) (y:Nat) (R:List (List V)):∀(rem:List Event) (j:Nat),es.l.drop j=rem->∀D,uv D ((iI i j rem).map eI++R) more ->
 (∃(B:List (List V)) (W:Int),uv B R more/\rn S.bare ny Q (.rc (.loop EH)) fs (I2 ps i es j D more y)=rn S.bare ny Q (.ex 2) fs (S2 ps i es W false B more y)) \/
 (∃st':St,st'.want=[]/\rn S.bare ny Q (.rc (.loop EH)) fs (I2 ps i es j D more y)=Q (.ret,st'))
 | [],j,hd,D,G=>by
  have h1:decide ((j:Int)<len es)=false:=by
   have:es.l.length<=j:=by simpa using hd
   simp[len];omega
  exact .inl ⟨D,j,by simpa [iI]using G,Fi (TT ps i es j D more y h1)⟩
 | e::rem,j,hd,D,G=>by
  obtain⟨h1,z,O⟩:=s9 hd;have X:j<es.l.length:=by simpa [len]using z
  simp only[iI,List.map_cons,List.cons_append]at G;obtain⟨B,rfl,u⟩:=uv.step G;have A:=wrap_small j (by omega)
  have w:((j:Int)+1)=IntKind.wrap .i64 ((j:Int)+1):=by rw[A];simp
  rcases u with⟨u,C⟩|⟨u,rfl⟩
  .have k:=VV (S:=S) ps i es j e B more y z h1 u;rw[<-w]at k;have J:=Fa (Q:=Q) (fs:=fs) k;have L:=inner ps i es U more y R rem (j+1) O B (by push_cast;exact C)
   rw[show ((j+1:Nat):Int)=(j:Int)+1 from rfl]at L;rcases L with⟨I,T,g1,g2⟩|⟨st',g1,g2⟩
   .exact .inl ⟨I,T,g1,J.trans g2⟩
   .exact .inr ⟨st',g1,J.trans g2⟩
  .have k:=R8 (S:=S) ps i es j e [] more y z h1 u;rw[<-w]at k;exact .inr ⟨_,by rfl,Fb k⟩
theorem outer (ps:Sl bQ) (J:ps.l.length<9223372036854775807) (D:∀p∈ps.l,p.events.l.length<9223372036854775807) (more:Bool) (y:Nat):∀(rem:List bQ) (i:Nat),ps.l.drop i=rem->∀B,uv B ((fM i rem).map eI) more ->
 rn S.bare ny Qi (.rc (.loop MV)) [.blk 0] (I1 ps i B more y)=some ()
 | [],i,hd,B,G=>by
  have h1:decide ((i:Int)<len ps)=false:=by
   have:ps.l.length<=i:=by simpa using hd
   simp[len];omega
  rw[Fi (T7 ps i B more y h1)];have:B=[]:=by
   rcases G with⟨_,rfl⟩|⟨_,A,r,hr⟩
   .rfl
   .have:B=[]:=by cases B with
     | nil=>rfl
     | cons=>simp[fM]at hr
    exact absurd this A
  subst this;rfl
 | p::rem,i,hd,B,G=>by
  obtain⟨h1,u,C⟩:=s9 hd;have hi:i<ps.l.length:=by simpa [len]using u
  have I:p∈ps.l:=List.mem_of_mem_drop (i:=i) (by rw[hd];exact List.mem_cons_self ..)
  simp only[fM,List.map_append]at G;have w:=wrap_small i (by omega)
  rcases inner (S:=S) (Q:=some) (fs:=QA) ps i p.events (D p I) more y _ p.events.l 0 rfl B G with⟨z,L,g1,g2⟩|⟨st',g1,g2⟩
  .rw[R_,w]at g2;rw[Fa (Q3 ps i p B more y _ u h1 g2)];exact outer ps J D more y rem (i+1) C z g1
  .rw[Fb (Q3 ps i p B more y _ u h1 g2)];simp[Qi,g1]
theorem all (t:Trace) (B:List (aY×Event)) (h:iZ t=some B) (D:List (List V)) (more:Bool) (G:uv D (B.map eI) more) (y:Nat) :
 rn S.bare ny Qi (.rc text.body) [] ⟨uE 0 (([]:List V).map .v++.yl y::[V.fptr (cells t)].map .v),[],[],D,more,y⟩=some ():=by
 unfold iZ at h;split at h
 .rename_i hk;cases h;simp only[ζh,List.all_eq_true,ov,decide_eq_true_eq]at hk;refine Le.get ?_;refine TI 4 false [] (Qa.drop 2) [.seq U1] ⟨[(0,.yl y),Cv 8 t.procs],[],[],D,more,y⟩ t.procs rfl (by kernel_rfl) ?_
  refine Ac (n:=5) (fo':=.rc (.loop MV)) (fs':=[.blk 0]) (st':=I1 t.procs 0 D more y) (by kernel_rfl) (Le.of_eq ?_)
  exact outer t.procs hk.1 hk.2 more y t.procs.l 0 rfl D G
 .cases h
end
theorem vq {α:Type} [bA α] {a b:Sl α} (h:cn a=cn b):rows a.l=rows b.l:=by
 cases a <;> cases b <;> first|rfl|(simp only[cn,Sl.k,nX,V.fsl.injEq,true_and,reduceCtorEq]at h;done)|(simp only[cn,Sl.k,nX,V.fsl.injEq,true_and,reduceCtorEq]at h;exact h)
theorem vI (p:Int):∀(es B:List Event) (j:Int),rows es=rows B->(iI p j es).map eI=(iI p j B).map eI
 | [],[],_,_=>rfl
 | [],_::_,_,h=>by simp[rows]at h
 | _::_,[],_,h=>by simp[rows]at h
 | e::es,D::B,j,h=>by
  simp only[rows,List.map_cons,List.cons.injEq]at h;have h1:enc e=enc D:=by show V.agg (cells e)=V.agg (cells D);rw[h.1]
  simp only[iI,List.map_cons,eI,h1,vI p es B (j+1) h.2]
theorem Dd:∀(ps B:List bQ) (i:Int),rows ps=rows B->(fM i ps).map eI=(fM i B).map eI
 | [],[],_,_=>rfl
 | [],_::_,_,h=>by simp[rows]at h
 | _::_,[],_,h=>by simp[rows]at h
 | p::ps,p'::B,i,h=>by
  simp only[rows,List.map_cons,List.cons.injEq]at h;have h1:cn p.events=cn p'.events:=by
   have:=h.1;change [V.str p.name,cn p.vars,cn p.events]=[V.str p'.name,cn p'.vars,cn p'.events]at this;simp only[List.cons.injEq]at this;exact this.2.2.1
  simp only[fM,List.map_append,vI i _ _ 0 (vq h1),Dd ps B (i+1) h.2]
def u_ (f:FuncId) (g:FuncId) (a b:List V) (xs:List (List V)):Prop:=∃(t:Trace) (u:List (aY×Event)),g=f/\a=[]/\b=[.fptr (cells t)]/\iZ t=some u/\xs=u.map eI
theorem u_.uniq {f g:FuncId} {a b:List V} {xs ys:List (List V)} (h:u_ f g a b xs) (k:u_ f g a b ys):xs=ys:=by
 obtain⟨t,B,rfl,rfl,rfl,h1,rfl⟩:=h;obtain⟨z,A,_,_,w,u,rfl⟩:=k;simp only[List.cons.injEq,V.fptr.injEq,and_true]at w;have C:cn t.procs=cn z.procs:=by
  change [cn t.procs]=[cn z.procs]at w;simpa using w
 unfold iZ at h1 u;split at h1 <;> split at u <;> simp only[ζa,reduceCtorEq]at h1 u;subst h1 u;exact Dd _ _ 0 (vq C)
end trace_events_c1
end Go.VE
namespace Go.VE
open Go.Proofs.YtlmckmkfopljoaaGreatDoor
noncomputable section
noncomputable def FE (f:FuncId):Option JH:=none
noncomputable def Sb:Sys:=⟨E,λn=>n,λ_ _ _=>none,xW E,FE⟩
theorem GN:∀f q,FE f=some q->pF E f q:=by
 intro f q h;unfold FE at h;cases h
def Tx:pK:=OR E some (lk Lc)
abbrev cB:bX:=dI Sb Tx
theorem UI:vh Sb Tx where
 fn f rf h:=let ⟨u,h1,w⟩:=Bx h;⟨u,some,h1,xV,w⟩
 wH f z y h:=E7 h
 prm:=GN
theorem NB:∀f a b xs,Sb.items f a b=some xs->e_ Sb f a b xs:=λf a b xs h=>by cases h
end
end Go.VE
namespace Go.VE
noncomputable section
namespace IB
def gG (s0:Sl Int):Option (Sl Int):=
 (Sl.isNil s0).bind λu=>
 a_ u
 (some Sl.nil)
 ((yR (Sl.row []:Sl Int) s0).bind λw=>
 some w)
theorem nJ:B8 Sb cB 168 (λs0:Sl Int=>[enc s0]) (λz=>gG z):=B8.mk' (qC (Tx 168)) (λs0=>T5 9 λu _=>bn 2 4 aZ (My 7 5 7 λw _=>aZ))
namespace cr
def eW (k6:Int) (U:Sl Event) (W Y:Int) (G:Sl Assign) (J:Int) (ws:List (List V)) (B:Sl Int) (D:Int) (more:Bool):Option (Fw ((Sl Int)×Int) (Sl Int) Empty):=
 a_ (decide (D<J))
 ((idx G D).bind λu=>
 (Sl.oC B u.var).bind λw=>
 (Sl.put B w (u.value:Int)).bind λz=>
 some (.n (z,IntKind.wrap .i64 (D+1))))
 (some (.x B))
def W3 (B:Sl Int) (k6:Int) (J:Sl Event) (D G:Int) (U:Sl Assign) (W Y:Int) (ws:List (List V)) (more:Bool):Option (Fw ((Sl Int)×Int×Int×(List (List V))) (List (List V)) (List (List V))):=
 (bV (λq:(Sl Int)×Int=>eW k6 J D G U W ws q.1 q.2 more) (B,Y)).bind (Fw.elim
 (λe=>((gG e).bind Sl.whole).bind λw=>
 (yl ws more [.int .i64 (IntKind.wrap .i64 (k6+1)),enc w]).bind λu=>
 a_ u.1
 (some (.n (e,D,IntKind.wrap .i64 (G+1),u.2)))
 (some (.r u.2)))
 (λe=>Empty.elim e))
def cq (D:Sl Event) (G:Sl Int) (J B:Int) (U:List (List V)) (more:Bool):Option (Fw ((Sl Int)×Int×Int×(List (List V))) (List (List V)) (List (List V))):=
 a_ (decide (B<J))
 ((idx D B).bind λu=>
 W3 G B D J B u.assign (len u.assign) 0 U more)
 (some (.x U))
def W2 (B:Sl Int) (D:Sl Event) (G J:Int) (U:List (List V)) (more:Bool):Option (List (List V)):=
 (bV (λq:(Sl Int)×Int×Int×(List (List V))=>cq D q.1 q.2.1 q.2.2.1 q.2.2.2 more) (B,G,J,U)).bind (Fw.elim
 (λe=>some e)
 (λe=>some e))
def bz (U:bQ) (G:Sl Var) (J:Int) (W:List (List V)) (B:Sl Int) (D:Int) (more:Bool):Option (Fw ((Sl Int)×Int) (Sl Int) Empty):=
 a_ (decide (D<J))
 ((idx G D).bind λu=>
 (jr B (u.init_:Int)).bind λw=>
 some (.n (w,IntKind.wrap .i64 (D+1))))
 (some (.x B))
def W1 (B:bQ) (D:Sl Int) (G:Sl Var) (J U:Int) (W:List (List V)) (more:Bool):Option (List (List V)):=
 (bV (λq:(Sl Int)×Int=>bz B G J W q.1 q.2 more) (D,U)).bind (Fw.elim
 (λe=>((gG e).bind Sl.whole).bind λw=>
 (yl W more [.int .i64 0,enc w]).bind λu=>
 a_ u.1
 (cr.W2 e B.events (len B.events) 0 u.2 more)
 (some u.2))
 (λe=>Empty.elim e))
end cr
def cr (D:List (List V)) (B:bQ) (more:Bool):Option (List (List V)):=
 cr.W1 B (Sl.nil:Sl Int) B.vars (len B.vars) 0 D more
open cr in
theorem xI (more:Bool) (y:Nat) (J:List (List V)) (B:bQ):Le ((cr J B more).bind λr=>some r) (cg Sb cB Qw (.rc (tb Tx 179),[],⟨uE 0 (.yl y::[V.fptr (cells B)].map .v),[],[],J,more,y⟩)):=
 cm 10 B.vars (jN 6 (λA=>⟨[(0,.yl y),Kv 1 B,Ov 3,Cv 11 B.vars,Iv 12 (len B.vars),Iv 13 A.2],[Lb 2003 A.1],[],J,more,y⟩) (λC=>(0,⟨[(0,.yl y),Kv 1 B,Ov 3],[Lb 2003 C],[],J,more,y⟩)) (λA=>bn 8 14 (bD 7 λS _=>xd 10 2003 20 21 λT _=>aZ) aZ) (λC=>Rc 7 25 nJ C λI _=>V4 1 [.int .i64 0,enc I] λQ _=>cG 3 27 (cm 7 B.events (dP 6 (λu=>⟨[(0,.yl y),Ov 3,Cv 29 B.events,Iv 30 u.2.1,Iv 31 u.2.2.1],[Lb 2003 u.1],[],u.2.2.2,more,y⟩) (λw=>(2,⟨[],[],[],w,more,y⟩)) (λw=>⟨[],[],[],w,more,y⟩) (λu=>bn 8 32 (bD 8 λz _=>qB 3 7 0 z (cm 7 z.assign (jN 6 (λD=>⟨[(0,.yl y),Ov 3,Iv 6 u.2.2.1,Cv 29 B.events,Iv 30 u.2.1,Iv 31 u.2.2.1,Cv 37 z.assign,Iv 38 (len z.assign),Iv 39 D.2],[Lb 2003 D.1],[],u.2.2.2,more,y⟩) (λG=>(4,⟨[(0,.yl y),Ov 3,Iv 6 u.2.2.1,Cv 29 B.events,Iv 30 u.2.1,Iv 31 u.2.2.1],[Lb 2003 G],[],u.2.2.2,more,y⟩)) (λD=>bn 8 40 (bD 7 λL _=>tI .i64 11 2003 λU _=>Hl 0 2003 (.int .i64 L.value) λW _=>aZ) aZ) (λG=>Rc 8 54 nJ G λO _=>V4 1 [.int .i64 (IntKind.wrap .i64 (u.2.2.1+1)),enc O] λX _=>cG 3 56 aZ aZ)))) aZ) (λw=>aZ) (λw=>aZ))) aZ))
end IB
end
end Go.VE
namespace Go.VE
open IB
def vj:List Assign->Sl Int->Option (Sl Int)
 | [],s=>some s
 | a::r,s=>(Sl.oC s a.var).bind λj=>(Sl.put s j a.value).bind (vj r)
def uV:List Var->Sl Int->Option (Sl Int)
 | [],s=>some s
 | v::r,s=>(jr s v.init_).bind (uV r)
def K8 (s:Sl Int):Option (Sl Int):=(gG s).bind Sl.whole
def vl:Int->List Event->Sl Int->Option (List (Int×Sl Int))
 | _,[],_=>some []
 | k,e::r,s=>(vj e.assign.l s).bind λn=>(K8 n).bind λc=>(vl (k+1) r n).map ((k+1,c)::·)
def jd (p:bQ):Option (List (Int×Sl Int)):=
 if ov p.vars.l.length&&(ov p.events.l.length&&p.events.l.all λe=>ov e.assign.l.length)then
  (uV p.vars.l .nil).bind λs=>(K8 s).bind λc=>(vl 0 p.events.l s).map ((0,c)::·)
 else none
namespace IST
abbrev eI (x:Int×Sl Int):List V:=[enc x.1,enc x.2]
theorem BX {n:Nat} (h:ov n=true):n<9223372036854775807:=by simpa [ov]using h
theorem wrap_small (n:Nat) (h:n<9223372036854775807):IntKind.wrap .i64 ((n:Int)+1)=((n+1:Nat):Int):=by
 simp[IntKind.wrap,IntKind.bits,IntKind.signed];omega
theorem s9 {α:Type} {s:Sl α} {j:Nat} {x:α} {r:List α} (h:s.l.drop j=x::r):idx s (j:Int)=some x/\decide ((j:Int)<len s)=true/\s.l.drop (j+1)=r:=by
 have h1:j<s.l.length:=by
  apply Classical.byContradiction;intro w;rw[List.drop_eq_nil_of_le (by omega)]at h;cases h
 have u:=List.drop_eq_getElem_cons h1;rw[u]at h;simp only[List.cons.injEq]at h;refine⟨?_,by simp[len,h1],h.2⟩
 unfold idx;rw[if_pos (by omega)]
 simp[ζd h1,h.1]
theorem Gs {α:Type} {s:Sl α} {j:Nat} (h:s.l.drop j=[]):decide ((j:Int)<len s)=false:=by
 have:s.l.length<=j:=by simpa using h
 simp[len];omega
theorem Wa (p:bQ) (v:Sl Var) (J:v.l.length<9223372036854775807) (D:List (List V)) (more:Bool):∀(rem:List Var) (j:Nat),v.l.drop j=rem->∀s B,uV rem s=some B ->
 bV (λq:Sl Int×Int=>cr.bz p v (len v) D q.1 q.2 more) (s,(j:Int))=some (.x B)
 | [],j,hd,s,B,h=>by
  cases h;rw[eD];simp only[cr.bz,Gs hd,a_,ζb,Bool.false_eq_true,if_false]
 | x::rem,j,hd,s,B,h=>by
  obtain⟨h1,G,U⟩:=s9 hd;have w:j<v.l.length:=by simpa [len]using G
  simp only[uV,ζg]at h;obtain⟨n,u,h⟩:=h;rw[eD];simp only[cr.bz,h1,G,u,a_,ζb,if_true,wrap_small j (by omega)]
  exact Wa p v J D more rem (j+1) U n B h
theorem set (k:Int) (es:Sl Event) (a b:Int) (v:Sl Assign) (J:v.l.length<9223372036854775807) (D:List (List V)) (more:Bool):∀(rem:List Assign) (j:Nat),v.l.drop j=rem->∀s B,vj rem s=some B ->
 bV (λq:Sl Int×Int=>cr.eW k es a b v (len v) D q.1 q.2 more) (s,(j:Int))=some (.x B)
 | [],j,hd,s,B,h=>by
  cases h;rw[eD];simp only[cr.eW,Gs hd,a_,ζb,Bool.false_eq_true,if_false]
 | x::rem,j,hd,s,B,h=>by
  obtain⟨h1,G,U⟩:=s9 hd;have w:j<v.l.length:=by simpa [len]using G
  simp only[vj,ζg]at h;obtain⟨i,hi,n,u,h⟩:=h;rw[eD];simp only[cr.eW,h1,G,hi,u,a_,ζb,if_true,wrap_small j (by omega)]
  exact set k es a b v J D more rem (j+1) U n B h
theorem uv.step {x:List V} {D rest:List (List V)} {more:Bool} (h:uv D (x::rest) more):∃B,yl D more x=some ((more || !B.isEmpty),B)/\((more || !B.isEmpty)=true/\uv B rest more\/(more || !B.isEmpty)=false/\B=[]):=by
 rcases h with⟨rfl,rfl⟩|⟨rfl,u,r,hr⟩
 .exact⟨rest,by simp[yl],.inl ⟨rfl,.inl ⟨rfl,rfl⟩⟩⟩
 .cases D with
  | nil=>exact absurd rfl u
  | cons w D=>
   simp only[List.cons_append,List.cons.injEq]at hr;obtain⟨rfl,rfl⟩:=hr;refine⟨D,by simp[yl],?_⟩
   cases D with
   | nil=>exact .inr ⟨rfl,rfl⟩
   | cons z A=>exact .inl ⟨rfl,.inr ⟨rfl,by simp,r,rfl⟩⟩
theorem eZ (es:Sl Event) (W:es.l.length<9223372036854775807) (G:∀e∈es.l,e.assign.l.length<9223372036854775807) (more:Bool):∀(rem:List Event) (j:Nat),es.l.drop j=rem->∀s B,vl (j:Int) rem s=some B->∀D,uv D (B.map eI) more ->
 ∃J:List (List V),J=[]/\(bV (λq:Sl Int×Int×Int×List (List V)=>cr.cq es q.1 q.2.1 q.2.2.1 q.2.2.2 more) (s,len es,(j:Int),D)=some (.x J)\/bV (λq:Sl Int×Int×Int×List (List V)=>cr.cq es q.1 q.2.1 q.2.2.1 q.2.2.2 more) (s,len es,(j:Int),D)=some (.r J))
 | [],j,hd,s,B,h,D,U=>by
  cases h;have:D=[]:=by
   rcases U with⟨_,rfl⟩|⟨_,I,r,hr⟩
   .rfl
   .cases D with
    | nil=>rfl
    | cons=>simp at hr
  subst this;refine⟨[],rfl,.inl ?_⟩;rw[eD];simp only[cr.cq,Gs hd,a_,ζb,Bool.false_eq_true,if_false]
 | e::rem,j,hd,s,B,h,D,U=>by
  obtain⟨h1,C,L⟩:=s9 hd;have Y:j<es.l.length:=by simpa [len]using C
  have O:e∈es.l:=List.mem_of_mem_drop (i:=j) (by rw[hd];exact List.mem_cons_self ..)
  simp only[vl,ζg,ζf]at h;obtain⟨n,I,c,hc,r,hr,rfl⟩:=h;have hc:(gG n).bind Sl.whole=some c:=hc;obtain⟨w,z,Q⟩:=uv.step U;have A:=wrap_small j (by omega)
  have z:yl D more [.int .i64 ((j+1:Nat):Int),enc c]=some ((more || !w.isEmpty),w):=z;rw[eD];have u:=set j es (len es) j e.assign (G e O) D more e.assign.l 0 rfl s n I;rw[show ((0:Nat):Int)=0 from rfl]at u;rcases Q with⟨g1,g2⟩|⟨g1,rfl⟩
  .obtain⟨S,T,X⟩:=eZ es W G more rem (j+1) L n r hr w g2;refine⟨S,T,?_⟩;rw[g1]at z;simp only[cr.cq,cr.W3,h1,C,u,hc,z,a_,ζb,if_true,Fw.elim,A];exact X
  .refine⟨[],rfl,.inr ?_⟩;rw[g1]at z;simp only[cr.cq,cr.W3,h1,C,u,hc,A,z,a_,ζb,if_true,if_false,Bool.false_eq_true,Fw.elim]
theorem all (p:bQ) (B:List (Int×Sl Int)) (h:jd p=some B) (D:List (List V)) (more:Bool) (G:uv D (B.map eI) more):cr D p more=some []:=by
 unfold jd at h;split at h
 .rename_i hk;simp only[ζh,List.all_eq_true]at hk;obtain⟨k1,A,C⟩:=hk;simp only[ζg,ζf]at h;obtain⟨s,I,c,hc,r,hr,rfl⟩:=h;have hc:(gG s).bind Sl.whole=some c:=hc;obtain⟨u,w,J⟩:=uv.step G;have hi:=Wa p p.vars (BX k1) D more p.vars.l 0 rfl .nil s I;rw[show ((0:Nat):Int)=0 from rfl]at hi;have w:yl D more [.int .i64 0,enc c]=some ((more || !u.isEmpty),u):=w;unfold cr cr.W1;simp only[hi,ζb,Fw.elim,hc,w];rcases J with⟨g1,g2⟩|⟨g1,rfl⟩
  .obtain⟨O,rfl,z⟩:=eZ p.events (BX A) (λe L=>BX (C e L)) more p.events.l 0 rfl s r hr u g2
   rw[show ((0:Nat):Int)=0 from rfl]at z;rw[g1];simp only[a_,if_true,cr.W2];rcases z with q|q <;> (rw[q];rfl)
  .rw[g1];rfl
 .cases h
theorem vq {α:Type} [bA α] {a b:Sl α} (h:cn a=cn b):rows a.l=rows b.l:=by
 cases a <;> cases b <;> first|rfl|(simp only[cn,Sl.k,nX,V.fsl.injEq,true_and,reduceCtorEq]at h;done)|(simp only[cn,Sl.k,nX,V.fsl.injEq,true_and,reduceCtorEq]at h;exact h)
theorem HU:∀(a b:List Var),rows a=rows b->∀s,uV a s=uV b s
 | [],[],_,_=>rfl
 | [],_::_,h,_=>by simp[rows]at h
 | _::_,[],h,_=>by simp[rows]at h
 | x::a,y::b,h,s=>by
  simp only[rows,List.map_cons,List.cons.injEq]at h;have h1:x.init_=y.init_:=by
   have:=h.1;change [V.str x.name,V.int .i64 x.init_]=[V.str y.name,V.int .i64 y.init_]at this;simpa using (List.cons.inj (List.cons.inj this).2).1
  simp only[uV,h1,funext (HU a b h.2)]
theorem G6:∀(a b:List Assign),rows a=rows b->∀s,vj a s=vj b s
 | [],[],_,_=>rfl
 | [],_::_,h,_=>by simp[rows]at h
 | _::_,[],h,_=>by simp[rows]at h
 | x::a,y::b,h,s=>by
  simp only[rows,List.map_cons,List.cons.injEq]at h;have h1:=h.1;change [V.int .i64 x.var,V.int .i64 x.value]=[V.int .i64 y.var,V.int .i64 y.value]at h1;simp only[List.cons.injEq,V.int.injEq,true_and,and_true]at h1;simp only[vj,h1.1,h1.2,funext (G6 a b h.2)]
theorem Ie {x y:Event} (h:cells x=cells y):rows x.assign.l=rows y.assign.l:=by
 change [V.int .i64 x.kind,V.int .i64 x.peer,V.int .i64 x.message,V.int .i64 x.time,cn x.assign]=[V.int .i64 y.kind,V.int .i64 y.peer,V.int .i64 y.message,V.int .i64 y.time,cn y.assign]at h;simp only[List.cons.injEq]at h;exact vq h.2.2.2.2.1
theorem vI:∀(a b:List Event),rows a=rows b->∀k s,vl k a s=vl k b s
 | [],[],_,_,_=>rfl
 | [],_::_,h,_,_=>by simp[rows]at h
 | _::_,[],h,_,_=>by simp[rows]at h
 | x::a,y::b,h,k,s=>by
  simp only[rows,List.map_cons,List.cons.injEq]at h;simp only[vl,G6 _ _ (Ie h.1),vI a b h.2]
theorem BJ {α:Type} [bA α] {a b:List α} (h:rows a=rows b):a.length=b.length:=by
 have:=congrArg List.length h;simpa [rows]using this
theorem Ga:∀(a b:List Event),rows a=rows b->(a.all λe=>ov e.assign.l.length)=b.all λe=>ov e.assign.l.length
 | [],[],_=>rfl
 | [],_::_,h=>by simp[rows]at h
 | _::_,[],h=>by simp[rows]at h
 | x::a,y::b,h=>by
  simp only[rows,List.map_cons,List.cons.injEq]at h;simp only[List.all_cons,BJ (Ie h.1),Ga a b h.2]
def u_ (f:FuncId) (g:FuncId) (a b:List V) (xs:List (List V)):Prop:=∃(p:bQ) (u:List (Int×Sl Int)),g=f/\a=[]/\b=[.fptr (cells p)]/\jd p=some u/\xs=u.map eI
theorem u_.uniq {f g:FuncId} {a b:List V} {xs ys:List (List V)} (h:u_ f g a b xs) (k:u_ f g a b ys):xs=ys:=by
 obtain⟨p,B,rfl,rfl,rfl,h1,rfl⟩:=h;obtain⟨w,z,_,_,u,A,rfl⟩:=k;simp only[List.cons.injEq,V.fptr.injEq,and_true]at u;change [V.str p.name,cn p.vars,cn p.events]=[V.str w.name,cn w.vars,cn w.events]at u;simp only[List.cons.injEq]at u;have r1:=vq u.2.1;have r2:=vq u.2.2.1;unfold jd at h1 A;rw[BJ r1,BJ r2,Ga _ _ r2,HU _ _ r1,funext (λs=>vI _ _ r2 0 s)]at h1
 have e:=h1.symm.trans A;cases e;rfl
end IST
end Go.VE
namespace Go.VE
open Go.Proofs.YtlmckmkfopljoaaGreatDoor
noncomputable section
def Gp (f:FuncId) (a b:List V) (xs:List (List V)):Prop:=trace_events_c1.u_ 184 f a b xs\/IST.u_ 179 f a b xs
noncomputable def Sy:Sys:=⟨E,λn=>n,xQ Gp,xW E,FE⟩
abbrev cL:bX:=dI Sy Tx
theorem TL:∃fi,E.ft 184=some fi/\wF E some fi trace_events_c1.text:=UB (by kernel_rfl)
theorem QV:vh Sy Tx where
 fn f rf h:=let ⟨u,h1,w⟩:=Bx h;⟨u,some,h1,xV,w⟩
 wH f z y h:=E7 h
 prm:=GN
theorem Gw (p:bQ) (B:List (Int×Sl Int)) (h1:jd p=some B):e_ Sy 179 [] [.fptr (cells p)] (B.map IST.eI):=by
 have w:Tx 179=some (qC (Tx 179)):=z7 (by kernel_rfl)
 obtain⟨D,z,A⟩:=Bx w;have e1:Nat.ble (([]:List V).length+1+[V.fptr (cells p)].length) (qC (Tx 179)).na=true:=by kernel_rfl
 have e2:(qC (Tx 179)).rs=[]:=by kernel_rfl
 have e3:Sy.E=Sb.E:=rfl;exact Pu e3 GN (tS UI NB) NB z xV A (Nat.le_of_ble_eq_true e1) e2 λu more C y=>IB.xI more y u p [] (by rw[IST.all p B h1 u more C];rfl)
theorem JN:∀f a b xs,Sy.items f a b=some xs->e_ Sy f a b xs:=by
 intro f a b xs h;have h:Gp f a b xs:=KR h;rcases h with h|h
 .obtain⟨t,u,rfl,rfl,rfl,h1,rfl⟩:=h;obtain⟨C,w,z⟩:=TL;exact PC Sy w xV z (Nat.le_of_ble_eq_true rfl) rfl λA more B y=>trace_events_c1.all t u h1 A more B y
 .obtain⟨p,u,rfl,rfl,rfl,h1,rfl⟩:=h;exact Gw p u h1
theorem yx (t:Trace) (B:List (aY×Event)) (h:iZ t=some B):Sy.items 184 [] [.fptr (cells t)]=some (B.map λx:aY×Event=>[enc x.1,enc x.2]):=
 Db (.inl ⟨t,B,rfl,rfl,rfl,h,rfl⟩) (λu hy=>by rcases hy with hy|hy <;> first|exact hy.uniq ⟨t,B,rfl,rfl,rfl,h,rfl⟩|(obtain⟨_,_,hy,_⟩:=hy;exact absurd hy (by decide)))
theorem ER (p:bQ) (B:List (Int×Sl Int)) (h:jd p=some B):Sy.items 179 [] [.fptr (cells p)]=some (B.map λx:Int×Sl Int=>[enc x.1,enc x.2]):=
 Db (.inr ⟨p,B,rfl,rfl,rfl,h,rfl⟩) (λu hy=>by rcases hy with hy|hy <;> first|exact hy.uniq ⟨p,B,rfl,rfl,rfl,h,rfl⟩|(obtain⟨_,_,hy,_⟩:=hy;exact absurd hy (by decide)))
theorem Nl:Sy.wH 10 []=some (.bool true):=EC (IS rfl ⟨1,[],by kernel_rfl⟩)
end
end Go.VE
namespace Go.VE
noncomputable section
def uc (D:Trace) (B:aY):Option Event:=
 (idx D.procs B.proc).bind λu=>
 (idx u.events (IntKind.wrap .i64 (B.index-1))).bind λw=>
 some w
instance U3 (B:Trace) (D:aY):Fc Sy cL (uc B D):=Fc.N 115 [enc B,enc D] (bU 2 2 B (bD 10 λw _=>bD 5 λu _=>qB 1 4 0 u aZ))
namespace dJ
def cq (B G p7:Int) (D:Trace) (J:aY) (i8:Int):Option (Fw Int Unit aY):=
 (idx D.procs p7).bind λw=>
 a_ (decide (i8<(len w.events)))
 ((idx D.procs p7).bind λz=>
 (idx z.events i8).bind λu=>
 (a_ (u.kind==B)
 (some (u.message==G))
 (some false):Option Bool).bind λA=>
 a_ A
 (some (.r (⟨p7,IntKind.wrap .i64 (i8+1)⟩:aY)))
 (some (.n (IntKind.wrap .i64 (i8+1)))))
 (some (.x ()))
def W2 (B J p7 i8:Int) (D:Trace) (G:aY):Option (Fw Int Unit aY):=
 (bV (λq:Int=>cq B J p7 D G q) i8).bind (Fw.elim
 (λe=>some (.n (IntKind.wrap .i64 (p7+1))))
 (λe=>some (.r e)))
def bz (B J:Int) (D:Trace) (G:aY) (p7:Int):Option (Fw Int Unit aY):=
 a_ (decide (p7<(len D.procs)))
 (W2 B J p7 0 D G)
 (some (.x ()))
def W1 (B J p7:Int) (D:Trace) (G:aY):Option aY:=
 (bV (λq:Int=>bz B J D G q) p7).bind (Fw.elim
 (λe=>some ⟨0,0⟩)
 (λe=>some e))
end dJ
def dJ (D:Trace) (B G:Int):Option aY:=
 dJ.W1 B G 0 D (⟨0,0⟩:aY)
open dJ in
instance Ts (D:Trace) (B G:Int):Fc Sy cL (dJ D B G):=Fc.M 54 [enc D,.int .i64 B,.int .i64 G] (bU 2 3 D (dP 11 (λu=>(bN [Iv 1 B,Iv 2 G,Pv 3,Pv 6,Iv 7 u] [Xb 3 D,Xb 6 (⟨0,0⟩:aY)])) (λw=>(0,(bN [Pv 6] [Xb 6 (⟨0,0⟩:aY)]))) (λw=>(bN [Pv 6] [Xb 6 w])) (λu=>cm 7 D.procs (bn 3 14 (dP 12 (λA=>(bN [Iv 1 B,Iv 2 G,Pv 3,Pv 6,Iv 7 u,Iv 8 A] [Xb 3 D,Xb 6 (⟨0,0⟩:aY)])) (λz=>(2,(bN [Iv 1 B,Iv 2 G,Pv 3,Pv 6,Iv 7 u] [Xb 3 D,Xb 6 (⟨0,0⟩:aY)]))) (λz=>(bN [Pv 6] [Xb 6 z])) (λA=>bD 8 λC _=>cm 2 C.events (bn 3 25 (bD 10 λJ _=>bD 3 λI _=>qB 2 9 0 I (bC 9 5 [9,41] 46 (bn 9 41 (bh 5) (bh 5)) λL=>bn 2 46 aZ aZ)) aZ)) (λz=>aZ) (λz=>aZ)) aZ)) (λw=>aZ) (λw=>aZ)))
namespace dH
def J1 (B:Sl aY) (D:Trace) (G:aY):Option (Sl aY):=
 (uc D G).bind λu=>
 a_ (u.kind==3)
 ((dJ D 2 u.message).bind λw=>
 (jr B (w:aY)).bind λz=>
 some z)
 (some B)
end dH
def dH (D:Trace) (B:aY):Option (Sl aY):=
 a_ (decide (B.index>1))
 (dH.J1 (Sl.row [⟨B.proc,IntKind.wrap .i64 (B.index-1)⟩]:Sl aY) D B)
 (dH.J1 (Sl.nil:Sl aY) D B)
open dH in
theorem zh (D:Trace) (B:aY):Le ((dH D B).bind λr=>some (cS r)) (cg Sy cL (Al (tr Tx 116)) (.rc (tb Tx 116),[],start ([enc D,enc B].map .v) [])):=
 bU 2 2 D (bn 17 9 (QF 10 17 18 .bW (⟨B.proc,IntKind.wrap .i64 (B.index-1)⟩:aY) (o5 5 (bt 4 λu _=>qB 1 6 0 u (bn 10 24 (bt 6 λw _=>xd 1 2005 30 31 λz _=>aZ) aZ)))) (o5 5 (bt 4 λu _=>qB 1 6 0 u (bn 10 24 (bt 6 λw _=>xd 1 2005 30 31 λz _=>aZ) aZ))))
def og (dir:aY->Option (Sl aY)):List (List Bool)×List aY->Option (Fw (List (List Bool)×List aY) (List (List Bool)) Empty)
 | (out,[])=>some (.x out)
 | (out,y::rest)=>if 0<=y.proc/\0<=y.index then(out[y.proc.toNat]?).bind λrow=>(row[y.index.toNat]?).bind λb=>
  a_ b (some (.n (out,rest))) ((dir y).bind λmore=>if rest.length+more.l.length<=2147483648 then some (.n (out.set y.proc.toNat (row.set y.index.toNat true),rest++more.l))else none)else none
def gE (t:Trace):List (List Bool):=t.procs.l.map λP=>List.replicate (P.events.l.length+1) false
def Ak (t:Trace):Bool:=decide (t.procs.l.length<=2147483648)&&t.procs.l.all λP=>decide (P.events.l.length+1<=2147483648)
def nested (out:List (List Bool)):Sl (Sl Bool):=if out=[]then .nil else .row (out.map .row)
def mY (t:Trace) (x:aY):Option (Sl (Sl Bool)):=
 if Ak t then(dH t x).bind λs=>(bV (og (dH t)) (gE t,s.l)).bind (Fw.elim (λout=>some (nested out)) (λe=>Empty.elim e))else none
end
end Go.VE
namespace Go.VE
namespace pastX
abbrev wu:Nat->FuncId:=λn=>n
def r1:List RO:=[o2 2 (.a .box) [0] [],o2 3 (.a .box) [1] [],o1 4 (.k (.bW)) []]
def r2:List RO:=[o1 5 (.k (.bW)) []]
def r3:List RO:=[o1 6 (.k (.int .i64 0)) []]
def r4:List RO:=[o1 11 6 [],o2 12 (fa 0) [2] [],o2 13 (ld 1) [12] [],o2 14 ln [13] [],o2 15 (bI .lss) [11,14] []]
def r5:List RO:=[o1 18 5 [],o2 19 (fa 0) [2] [],o2 20 (ld 1) [19] [],o1 21 6 [],o2 22 (ix 3) [20,21] [],o2 23 (fa 2) [22] [],o2 24 (ld 1) [23] [],o2 25 ln [24] [],o2 26 (bI .add) [25,.k (.int .i64 1)] [],o2 27 (.a (.makeSl 1 [.bool false])) [26,26] [],o2 28 (.a (.buildSl 1 1 [.bW] [0])) [27] [],o2 29 (.l (.append 1)) [18,28] [],o1 5 29 []]
def r6:List RO:=[o1 16 6 [],o2 17 (bI .add) [16,.k (.int .i64 1)] [],o1 6 17 []]
def L1:RC:=.seq (.seq (.ops r4) (.cond (.s 15) (.skip) (.exit 0))) (.seq (.block 1 (.ops r5)) (.ops r6))
def r7:List RO:=[o2 30 (lD 1) [2] [],o2 31 (lD 2) [3] [],o2 32 .c [.f 116,30,31] [],o1 7 32 []]
def r8:List RO:=[o1 33 7 [],o2 34 ln [33] [],o2 35 (bI .gtr) [34,.k (.int .i64 0)] []]
def r9:List RO:=[o1 36 7 [],o2 37 (ix 2) [36,.k (.int .i64 0)] [],o2 38 (lD 2) [37] [],o2 8 (.a (.alloc 2 [.int .i64 0,.int .i64 0])) [] [],oz (su 2) [8,38] []]
def Gl:List RO:=[o1 39 7 [],o2 40 (.p (.slice 2 true false)) [39,.k (.int .i64 1)] [],o1 7 40 []]
def HS:List RO:=[o1 41 5 [],o2 42 (fa 0) [8] [],o2 43 (ld 1) [42] [],o2 44 (ix 1) [41,43] [],o2 45 (ld 1) [44] [],o2 46 (fa 1) [8] [],o2 47 (ld 1) [46] [],on 48 (ix 1) [45,47] [],on 49 (ld 1) [48] []]
def G0:List RO:=[o1 50 5 [],o2 51 (fa 0) [8] [],o2 52 (ld 1) [51] [],o2 53 (ix 1) [50,52] [],o2 54 (ld 1) [53] [],o2 55 (fa 1) [8] [],o2 56 (ld 1) [55] [],on 57 (ix 1) [54,56] [],oy (su 1) [57,.k (.bool true)] []]
def HT:List RO:=[o2 58 (lD 1) [2] [],o2 59 (lD 2) [8] [],o2 60 .c [.f 116,58,59] [],o1 9 60 []]
def G5:List RO:=[o1 10 (.k (.int .i64 0)) []]
def JZ:List RO:=[o1 61 10 [],o1 62 9 [],o2 63 ln [62] [],o2 64 (bI .lss) [61,63] []]
def r16:List RO:=[o1 67 7 [],o1 68 9 [],o1 69 10 [],o2 70 (ix 2) [68,69] [],o2 71 (lD 2) [70] [],o2 72 (.a (.buildSl 2 1 [.int .i64 0,.int .i64 0] [0])) [71] [],o2 73 (.l (.append 2)) [67,72] [],o1 7 73 []]
def Ng:List RO:=[o1 65 10 [],o2 66 (bI .add) [65,.k (.int .i64 1)] [],o1 10 66 []]
def L3:RC:=.seq (.seq (.ops JZ) (.cond (.s 64) (.skip) (.exit 4))) (.seq (.block 5 (.ops r16)) (.ops Ng))
def L2:RC:=.seq (.seq (.ops r8) (.cond (.s 35) (.skip) (.exit 2))) (.block 3 (.seq (.ops r9) (.seq (.ops Gl) (.seq (.seq (.pq HS) (.cond (.s 49) (.exit 3) (.skip))) (.seq (.pq G0) (.seq (.ops HT) (.seq (.ops G5) (.block 4 (.loop L3)))))))))
def V_:List RO:=[o1 74 5 [],o1 4 74 []]
def code:RC:=.seq (.ops r1) (.seq (.ops r2) (.seq (.seq (.ops r3) (.block 0 (.loop L1))) (.seq (.ops r7) (.seq (.block 2 (.loop L2)) (.seq (.ops V_) (.ret))))))
noncomputable abbrev vF:=Go.Proofs.YtlmckmkfopljoaaGreatDoor.E
def jR (out:List (List Bool)):List (List V):=out.map λr=>r.map V.bool
theorem shape:∃fi,vF.ft (wu 81)=some fi/\bL ⟨vF,some,fi.ntmps⟩ false fi.body=some code/\2<=fi.ntmps/\fi.results=[.tmp 4]:=by
 have h:((vF.ft (wu 81)).map λfi=>(bL ⟨vF,some,fi.ntmps⟩ false fi.body,Nat.ble 2 fi.ntmps,fi.results))=some (some code,true,[.tmp 4]):=by kernel_rfl
 obtain⟨fi,h1,u⟩:=ζf.1 h;simp only[ζc]at u;exact⟨fi,h1,u.1,Nat.le_of_ble_eq_true u.2.1,u.2.2⟩
section
variable {E:Env} {N:Nat->FuncId} {t:Trace} {x:aY} {k:Nat} {F:Frame} {H H1:bg} {call:dn} {b:Option Nat}
theorem kC {o:RO} {l:List RO} {v:V} {r:Frame×bg} (hg:o.gd=none) (hv:bO E N call b o.now o.k (o.az.map (bB N F)) H=some (v,H1)) (h:cZ E N call b l (bu F o.dst v) H1=some r):cZ E N call b (o::l) F H=some r:=by
 simp[cZ,hg,hv];omega
theorem vp {o:RO} {l:List RO} {v:V} {r:Frame×bg} (hg:o.gd=none) (hv:bO E N call b o.now o.k (o.az.map (bB N F)) H=some (v,H)) (h:cZ E N call b l (bu F o.dst v) H=some r):cZ E N call b (o::l) F H=some r:=kC hg hv h
theorem fH:cZ E N call b [] F H=some (F,H):=rfl
theorem ld1 (h:H[0]? = some (.row 1 [cells t])):eT H (.load 1 false) [.hptr 0 0 0]=some (cn t.procs):=by
 simp[eT,dS,h];rfl
theorem Ww {s:Sl bQ} {p:bQ} {i:Nat} (h:s.l[i]? = some p):lE 3 (cn s) (i:Int)=some (.fptr (cells p)):=by
 have:=D6 (N:=λn=>n) s .i64 i 3 rfl
 simp[bp]at this;rw[this,show idx s i=some p from by unfold idx;grind];rfl
theorem x4 (f2:get F 2=.hptr 0 0 0) (f6:get F 6=.int .i64 k) (h0:H[0]? = some (.row 1 [cells t])) :
 ∃F',cZ E N call none r4 F H=some (F',H)/\get F' 15=.bool (decide (k<t.procs.l.length))/\(∀s,s<11->get F' s=get F s):=by
 refine⟨_,vp (v:=.int .i64 k) rfl ?_ <| vp (v:=.hptr 0 0 0) rfl ?_ <| vp (v:=cn t.procs) rfl ?_ <| vp (v:=.int .i64 t.procs.l.length) rfl ?_ <| vp (v:=.bool (decide (k<t.procs.l.length))) rfl ?_ fH,?_,?_⟩
 .simp[bO,bB,bp,f6]
 .simp[bO,bB,bp,bu,f2,gW]
 .simp only[bO,List.map_cons,List.map_nil,bB,bu,br,if_true];rw[ld1 h0];rfl
 .simp only[bO,List.map_cons,List.map_nil,bB,bu,br,if_true];rw[yd];rfl
 .simp[bO,bB,bp,bu,jD,qG]
 .simp[bu]
 .simp[bu,br]
  grind
theorem An {n:Nat} (h:n<=2147483648):IntKind.wrap .i64 ((n:Int)+1)=((n+1:Nat):Int):=by
 simp[IntKind.wrap,IntKind.bits];omega
theorem x5 {P:bQ} {o:Nat} {ids:List Nat} {rows:List (List V)} (f2:get F 2=.hptr 0 0 0) (f6:get F 6=.int .i64 k) (h0:H[0]? = some (.row 1 [cells t])) (hP:t.procs.l[k]? = some P) (D:P.events.l.length+1<=2147483648)
 (B:l8 H (get F 5) o ids rows) (hr:rows.length+1<=2147483648) :
 ∃F' H',cZ E N call none r5 F H=some (F',H')/\l8 H' (get F' 5) (H.length+2) (ids++[H.length]) (rows++[List.replicate (P.events.l.length+1) (.bool false)])/\H.length<=H'.length/\(∀id,id<H.length->id≠o\/rows=[]->H'[id]? = H[id]?)/\(∀s,s<11->s≠5->get F' s=get F s):=by
 obtain⟨H',p1,p2,p3,p4⟩:=B.push (List.replicate (P.events.l.length+1) (.bool false)) hr;have u:jc (List.replicate (P.events.l.length+1) (V.bool false))=List.replicate (P.events.l.length+1) [.bool false]:=by simp[jc]
 rw[u,List.length_replicate]at p1;have w:=An (n:=P.events.l.length) (by omega)
 refine⟨_,H',vp (v:=get F 5) rfl ?_ <| vp (v:=.hptr 0 0 0) rfl ?_ <| vp (v:=cn t.procs) rfl ?_ <| vp (v:=.int .i64 k) rfl ?_ <| vp (v:=.fptr (cells P)) rfl ?_ <| vp (v:=.fptr [cn P.events]) rfl ?_ <| vp (v:=cn P.events) rfl ?_ <|
  vp (v:=.int .i64 P.events.l.length) rfl ?_ <| vp (v:=.int .i64 (P.events.l.length+1:Nat)) rfl ?_ <| kC (v:=.hsl H.length 1 0 (P.events.l.length+1)) (H1:=H++[.row 1 (List.replicate (P.events.l.length+1) [.bool false])]) rfl ?_ <|
  kC (v:=.hsl (H.length+1) 1 0 1) (H1:=H++[.row 1 (List.replicate (P.events.l.length+1) [.bool false])]++[.row 1 [[.hsl H.length 1 0 (P.events.l.length+1)]]]) rfl ?_ <|
  kC (v:=.hsl (H.length+2) 1 0 (rows.length+1))  rfl ?_ <| vp (v:=.hsl (H.length+2) 1 0 (rows.length+1)) rfl ?_ fH,?_,p3,p4,?_⟩
 .simp[bO,bB,bp]
 .simp[bO,bB,bp,bu,f2,gW]
 .simp only[bO,List.map_cons,List.map_nil,bB,bu,br,if_true];rw[ld1 h0];rfl
 .simp[bO,bB,bp,bu,f6]
 .simp only[bO,List.map_cons,List.map_nil,bB,bu,br,Nat.reduceEqDiff,if_true,if_false,bp];rw[Ww hP];rfl
 .simp[bO,bB,bu,br,bp];rfl
 .simp[bO,bB,bu,br];rfl
 .simp only[bO,List.map_cons,List.map_nil,bB,bu,br,if_true];rw[yd];rfl
 .simp[bO,bB,bu,br,bp,jD];grind
 .simp only[bO,List.map_cons,List.map_nil,bB,bu,br,if_true,iW];rw[if_pos ⟨trivial,trivial,by omega,by omega,by omega⟩]
  simp[Mk.val]
 .simp[bO,bB,bu,br,iW];simp[gJ,V.cells,V.one,Mk.val]
 .simp only[bO,List.map_cons,List.map_nil,bB,bu,br,Nat.reduceEqDiff,if_true,if_false];omega
 .simp[bO,bB,bp,bu]
 .simp[bu,br];omega
 .intro s z A;simp[bu,br]
  repeat (rw[if_neg (by omega)])
theorem x6 (f6:get F 6=.int .i64 k) (hk:k<=2147483648):∃F',cZ E N call none r6 F H=some (F',H)/\get F' 6=.int .i64 ((k+1:Nat):Int)/\(∀s,s<11->s≠6->get F' s=get F s):=by
 have u:=An hk;refine⟨_,vp (v:=.int .i64 k) rfl ?_ <| vp (v:=.int .i64 (k+1:Nat)) rfl ?_ <| vp (v:=.int .i64 (k+1:Nat)) rfl ?_ fH,?_,?_⟩
 .simp[bO,bB,bp,f6]
 .simp[bO,bB,bu,br,bp,jD];grind
 .simp[bO,bB,bp,bu]
 .simp[bu]
 .simp[bu,br]
  grind
end
structure P1 (t:Trace) (x:aY) (k:Nat) (F:Frame) (H:bg):Prop where
 f2:get F 2=.hptr 0 0 0
 f3:get F 3=.hptr 1 0 0
 f6:get F 6=.int .i64 k
 h0:H[0]? = some (.row 1 [cells t])
 h1:H[1]? = some (.row 2 [cells x])
 ns:∃o ids,l8 H (get F 5) o ids (jR ((gE t).take k))/\(k≠0->2<=o)/\∀id∈ids,2<=id
theorem vU (out:List (List Bool)):(jR out).length=out.length:=by simp[jR]
theorem Ln {E:Env} {N:Nat->FuncId} {t:Trace} {x:aY} (G:Ak t=true):∀(m k:Nat) (F:Frame) (H:bg),k+m=t.procs.l.length->P1 t x k F H->∃F' H',nV E N L1 F H (.exit 0) F' H'/\P1 t x t.procs.l.length F' H':=by
 have A:t.procs.l.length<=2147483648/\∀P∈t.procs.l,P.events.l.length+1<=2147483648:=by
  simpa [Ak]using G
 intro m
 induction m with
 | zero=>
  intro k F H hk p;have B:k=t.procs.l.length:=by omega
  obtain⟨F1,e1,e2,e3⟩:=x4 (E:=E)  (call:=⟨0,λ_ _ _=>none⟩) p.f2 p.f6 p.h0
  refine⟨F1,H,nV.stop (Ex.w_ (Ex.seq (Ex.eN λc=>?_) (Ex.uW ?_ Ex.exit)) (by simp)) (by simp),?_⟩
  .have:cZ E N c none r4 F H=cZ E N ⟨0,λ_ _ _=>none⟩ none r4 F H:=rfl
   exact e1
  .show get F1 15=_;rw[e2];simp[B]
  .subst B;exact⟨by rw[e3 2 (by omega)];exact p.f2,by rw[e3 3 (by omega)];exact p.f3,by rw[e3 6 (by omega)];exact p.f6,p.h0,p.h1,by rw[e3 5 (by omega)];exact p.ns⟩
 | succ m X=>
  intro k F H hk p;have w:k<t.procs.l.length:=by omega
  obtain⟨o,ids,T,Y,Z⟩:=p.ns;obtain⟨F1,e1,e2,e3⟩:=x4 (E:=E) (N:=N) (call:=⟨0,λ_ _ _=>none⟩) p.f2 p.f6 p.h0
  have hP:=ζd w;have C:((gE t).take k).length=k:=by simp[gE];omega
  have I:l8 H (get F1 5) o ids (jR ((gE t).take k)):=by rw[e3 5 (by omega)];exact T
  obtain⟨F2,H2,g1,g2,g3,g4,g5⟩:=x5 (E:=E) (N:=N) (call:=⟨0,λ_ _ _=>none⟩) (by rw[e3 2 (by omega)];exact p.f2) (by rw[e3 6 (by omega)];exact p.f6) p.h0 hP (A.2 _ (List.getElem_mem w)) I (by rw[vU,C];omega)
  obtain⟨U,q1,q2,J⟩:=x6 (E:=E) (N:=N) (call:=⟨0,λ_ _ _=>none⟩) (H:=H2)   (by rw[g5 6 (by omega) (by omega),e3 6 (by omega)];exact p.f6) (by omega)
  have W:=T.lt;have L:=(ζe.1 p.h0).1;have O:=(ζe.1 p.h1).1;have u:∀i,i<2->i<H.length->H2[i]? = H[i]? := λi hi W=>g4 i W (by
   by_cases D:k=0
   .subst D;right;simp[jR]
   .left;have:=Y D;omega)
  have Q:P1 t x (k+1) U H2:=by
   refine⟨by rw[J 2 (by omega) (by omega),g5 2 (by omega) (by omega),e3 2 (by omega)];exact p.f2,by rw[J 3 (by omega) (by omega),g5 3 (by omega) (by omega),e3 3 (by omega)];exact p.f3,q2,
    by rw[u 0 (by omega) L];exact p.h0,by rw[u 1 (by omega) O];exact p.h1,H.length+2,ids++[H.length],?_,λ_=>by omega,λid S=>?_⟩
   .rw[J 5 (by omega) (by omega)]
    have z:jR ((gE t).take (k+1))=jR ((gE t).take k)++[List.replicate (t.procs.l[k].events.l.length+1) (.bool false)]:=by
     rw[List.take_add_one];have:(gE t)[k]? = some (List.replicate (t.procs.l[k].events.l.length+1) false):=by simp[gE,hP]
     rw[this];simp[jR]
    rw[z];exact g2
   .rcases List.mem_append.1 S with h|h
    .exact Z id h
    .simp at h;omega
  obtain⟨F',H',r1,r2⟩:=X (k+1) U H2 (by omega) Q
  refine⟨F',H',nV.step (Ex.seq (Ex.seq (Ex.eN λc=>e1) (Ex.qf ?_ Ex.skip)) (Ex.seq (Ex.block (Ex.eN λc=>g1)) (Ex.eN λc=>q1))) r1,r2⟩
  show get F1 15=_;rw[e2];simp[w]
section
variable {E:Env} {N:Nat->FuncId} {t:Trace} {x y:aY} {F:Frame} {H:bg} {call:dn}
theorem x8 {l:List (List V)} {id:Nat} (h:jZ H (get F 7) l id):∃F',cZ E N call none r8 F H=some (F',H)/\get F' 35=.bool (decide (0<l.length))/\(∀s,s<11->get F' s=get F s):=by
 refine⟨_,vp (v:=get F 7) rfl ?_ <| vp (v:=.int .i64 l.length) rfl ?_ <| vp (v:=.bool (decide (0<l.length))) rfl ?_ fH,?_,?_⟩
 .simp[bO,bB,bp]
 .simp[bO,bB,bu,br,bp,h.len]
 .simp[bO,bB,bp,bu,jD,qG]
 .simp[bu]
 .simp[bu,br]
  grind
theorem x9 {l:List (List V)} {id:Nat} (h:jZ H (get F 7) (cells y::l) id):∃F',cZ E N call none r9 F H=some (F',H++[.row 2 [cells y]])/\get F' 8=.hptr H.length 0 0/\(∀s,s<11->s≠8->get F' s=get F s):=by
 obtain⟨p,p1,p2⟩:=h.get (i:=0)  rfl;refine⟨_,vp (v:=get F 7) rfl ?_ <| vp (v:=p) rfl ?_ <| vp (v:=.agg (cells y)) rfl ?_ <| kC (v:=.hptr H.length 0 0) (H1:=H++[.row 2 [[.int .i64 0,.int .i64 0]]]) rfl ?_ <| kC (v:=.undef)  rfl ?_ fH,?_,?_⟩
 .simp[bO,bB,bp]
 .simp[bO,bB,bu,br,bp]
  grind
 .simp only[bO,List.map_cons,bB,bu,br,if_false]
  grind
 .simp[bO,bB,bu,br,iW,Mk.val]
 .simp[bO,bB,bu,br];simp[fQ,V.cells,V.one]
 .simp[bu]
 .simp[bu,br]
  grind
theorem WS {c:List V} {l:List (List V)} {id:Nat} (h:jZ H (get F 7) (c::l) id):∃F',cZ E N call none Gl F H=some (F',H)/\jZ H (get F' 7) l id/\(∃off m B,get F 7=.hsl id 2 off m/\get F' 7=.hsl id 2 B l.length)/\(∀s,s<11->s≠7->get F' s=get F s):=by
 obtain⟨w',p1,p2,off,m,B,p3,p4⟩:=h.tail;refine⟨_,vp (v:=get F 7) rfl ?_ <| vp (v:=w') rfl ?_ <| vp (v:=w') rfl ?_ fH,?_,⟨off,m,B,p3,?_⟩,?_⟩
 .simp[bO,bB,bp]
 .simp[bO,bB,bu,br,bp,mq,p1]
 .simp[bO,bB,bp,bu]
 .simp[bu,br];omega
 .simp[bu,br];omega
 .simp[bu,br]
  grind
theorem jO (H:bg):H.take H.length=H:=List.take_length ..
theorem UC {c:Nat} (hc:H[c]? = some (.row 2 [cells y])):eT H (.load 1 false) [.hptr c 0 0]=some (.int .i64 y.proc)/\eT H (.load 1 false) [.hptr c 0 1]=some (.int .i64 y.index)/\eT H (.load 2 true) [.hptr c 0 0]=some (enc y):=by
 refine⟨?_,?_,?_⟩ <;> simp[eT,dS,hc,cut] <;> rfl
theorem Ui {c o:Nat} {ids:List Nat} {rows:List (List V)} {p j:Nat} {r:List V} {u:V} (B:get F 8=.hptr c 0 0) (hc:H[c]? = some (.row 2 [cells y])) (D:l8 H (get F 5) o ids rows) (hp:y.proc=p) (G:y.index=j) (hr:rows[p]? = some r) (hu:r[j]? = some u) :
 ∃F',cZ E N call (some H.length) HS F H=some (F',H)/\get F' 49=u/\(∀s,s<11->get F' s=get F s):=by
 obtain⟨id,w,z,A,C,I⟩:=D.cell hr hu;obtain⟨J,L,_⟩:=UC hc;refine⟨_,vp (v:=get F 5) rfl ?_ <| vp (v:=.hptr c 0 0) rfl ?_ <| vp (v:=.int .i64 p) rfl ?_ <| vp (v:=.hptr o p 0) rfl ?_ <| vp (v:=.hsl id 1 0 r.length) rfl ?_ <| vp (v:=.hptr c 0 1) rfl ?_ <| vp (v:=.int .i64 j) rfl ?_ <| vp (v:=.hptr id j 0) rfl ?_ <| vp (v:=u) rfl ?_ fH,?_,?_⟩
 .simp[bO,bB,bp]
 .simp[bO,bB,bp,bu,B,gW]
 .simp[bO,bB,bu,br,jO];grind
 .simp[bO,bB,bu,br,bp];grind
 .simp[bO,bB,bu,br,jO];grind
 .simp[bO,bB,bp,bu,B,gW]
 .simp[bO,bB,bu,br,jO];grind
 .simp[bO,bB,bu,br,bp];grind
 .simp[bO,bB,bu,br,jO];simp_all
 .simp[bu]
 .simp[bu,br]
  grind
theorem WJ {c o:Nat} {ids:List Nat} {rows:List (List V)} {p j:Nat} {r:List V} {u:V} (B:get F 8=.hptr c 0 0) (hc:H[c]? = some (.row 2 [cells y])) (D:l8 H (get F 5) o ids rows) (hp:y.proc=p) (G:y.index=j) (hr:rows[p]? = some r) (hu:r[j]? = some u) :
 ∃F' H',cZ E N call (some H.length) G0 F H=some (F',H')/\l8 H' (get F' 5) o ids (rows.set p (r.set j (.bool true)))/\H'.length=H.length/\(∀i,i∉ids->H'[i]? = H[i]?)/\(∀s,s<11->get F' s=get F s):=by
 obtain⟨id,w,I,J,z,L⟩:=D.cell hr hu;obtain⟨O,Q,_⟩:=UC hc;obtain⟨H',s1,S,A,C⟩:=D.set hr (ζe.1 hu).1 w (u:=.bool true) rfl rfl;refine⟨_,H',vp (v:=get F 5) rfl ?_ <| vp (v:=.hptr c 0 0) rfl ?_ <| vp (v:=.int .i64 p) rfl ?_ <| vp (v:=.hptr o p 0) rfl ?_ <| vp (v:=.hsl id 1 0 r.length) rfl ?_ <| vp (v:=.hptr c 0 1) rfl ?_ <| vp (v:=.int .i64 j) rfl ?_ <| vp (v:=.hptr id j 0) rfl ?_ <| kC (v:=.undef)  rfl ?_ fH,?_,A,λi hi=>C i λe=>hi (e▸List.mem_of_getElem? w),?_⟩
 .simp[bO,bB,bp]
 .simp[bO,bB,bp,bu,B,gW]
 .simp[bO,bB,bu,br,jO];grind
 .simp[bO,bB,bu,br,bp];grind
 .simp[bO,bB,bu,br,jO];grind
 .simp[bO,bB,bp,bu,B,gW]
 .simp[bO,bB,bu,br,jO];grind
 .simp only[bO,List.map_cons,List.map_nil,bB,bu,br,Nat.reduceEqDiff,if_true,if_false,bp];rw[z];rfl
 .simp[bO,bB,bu,br,s1]
 .simp[bu,br];omega
 .simp[bu,br]
  grind
def FN (E:Env) (N:Nat->FuncId) (t:Trace) (dir:aY->Option (Sl aY)):Prop:=∀(y:aY) (s:Sl aY) (H:bg),dir y=some s ->
 ∃w X id,(∃n,∀k,n<=k->fA E (run E k) (N 116) [enc t,enc y] H=some (w,H++X))/\jZ (H++X) w (s.l.map cells) id/\(∀off m,w=.hsl id 2 off m->id=H.length)
theorem Wc {a d:Nat} (hd:E.keep (N 116)=true) {dir:aY->Option (Sl aY)} (D:FN E N t dir) {s:Sl aY} (B:dir y=some s) (f2:get F 2=.hptr 0 0 0) (h0:H[0]? = some (.row 1 [cells t])) {c:Nat} (hc:H[c]? = some (.row 2 [cells y])) :
 ∃w X id,jZ (H++X) w (s.l.map cells) id/\(∀off m,w=.hsl id 2 off m->id=H.length) /\
  (get F 8=.hptr c 0 0->∃F',(∃n,∀k,n<=k->cZ E N (run E k) none HT F H=some (F',H++X))/\get F' 9=w/\(∀s,s<11->s≠9->get F' s=get F s)) /\
  (get F 3=.hptr c 0 0->∃F',(∃n,∀k,n<=k->cZ E N (run E k) none r7 F H=some (F',H++X))/\get F' 7=w/\(∀s,s<11->s≠7->get F' s=get F s)):=by
 obtain⟨w,X,id,⟨n,e1⟩,e2,e3⟩:=D y s H B;have z:eT H (.load 1 true) [.hptr 0 0 0]=some (enc t):=by
  simp[eT,dS,h0,Ob.rows,cut];rfl
 obtain⟨_,_,A⟩:=UC hc;refine⟨w,X,id,e2,e3,λC=>⟨_,⟨n,λk hk=>vp (v:=enc t) rfl ?_ <| vp (v:=enc y) rfl ?_ <| kC (v:=w) (H1:=H++X) rfl ?_ <| vp (v:=w) rfl ?_ fH⟩,?_,?_⟩,λf3=>⟨_,⟨n,λk hk=>vp (v:=enc t) rfl ?_ <| vp (v:=enc y) rfl ?_ <| kC (v:=w) (H1:=H++X) rfl ?_ <| vp (v:=w) rfl ?_ fH⟩,?_,?_⟩⟩
 .simp only[bO,List.map_cons,List.map_nil,bB,f2];rw[z];rfl
 .simp only[bO,List.map_cons,List.map_nil,bB,bu,br,Nat.reduceEqDiff,if_true,if_false,C];rw[A];rfl
 .simp only[bO,List.map_cons,List.map_nil,bB,bu,br,Nat.reduceEqDiff,if_true,if_false,hd,List.nil_append,List.append_nil];exact e1 k hk
 .simp[bO,bB,bp,bu]
 .simp[bu]
 .intro s B u;simp only[bu,br];rw[if_neg (Ne.symm u)]
  repeat (rw[if_neg (by omega)])
 .simp only[bO,List.map_cons,List.map_nil,bB,f2];rw[z];rfl
 .simp only[bO,List.map_cons,List.map_nil,bB,bu,br,Nat.reduceEqDiff,if_true,if_false,f3];rw[A];rfl
 .simp only[bO,List.map_cons,List.map_nil,bB,bu,br,Nat.reduceEqDiff,if_true,if_false,hd,List.nil_append,List.append_nil];exact e1 k hk
 .simp[bO,bB,bp,bu]
 .simp[bu]
 .intro s B u;simp only[bu,br];rw[if_neg (Ne.symm u)]
  repeat (rw[if_neg (by omega)])
end
section
variable {E:Env} {N:Nat->FuncId} {F:Frame} {H:bg} {call:dn} {i:Nat}
theorem Rb {l:List (List V)} {id:Nat} (f10:get F 10=.int .i64 i) (h:jZ H (get F 9) l id):∃F',cZ E N call none JZ F H=some (F',H)/\get F' 64=.bool (decide (i<l.length))/\(∀s,s<11->get F' s=get F s):=by
 refine⟨_,vp (v:=.int .i64 i) rfl ?_ <| vp (v:=get F 9) rfl ?_ <| vp (v:=.int .i64 l.length) rfl ?_ <| vp (v:=.bool (decide (i<l.length))) rfl ?_ fH,?_,?_⟩
 .simp[bO,bB,bp,f10]
 .simp[bO,bB,bp,bu]
 .simp[bO,bB,bu,br,bp,h.len]
 .simp[bO,bB,bp,bu,jD,qG]
 .simp[bu]
 .simp[bu,br]
  grind
theorem WT {l D:List (List V)} {id B:Nat} {c:List V} (f10:get F 10=.int .i64 i) (h:jZ H (get F 7) l id) (G:jZ H (get F 9) D B) (hc:D[i]? = some c) (J:l.length+1<=2147483648) :
 ∃F' H',cZ E N call none r16 F H=some (F',H')/\jZ H' (get F' 7) (l++[c]) (H.length+1)/\H'.length=H.length+2/\(∀i,i<H.length->(∀off m,get F 7=.hsl id 2 off m->i≠id)->H'[i]? = H[i]?)/\(∀s,s<11->s≠7->get F' s=get F s):=by
 have u:=G.c c (List.mem_of_getElem? hc);obtain⟨p,p1,p2⟩:=G.get hc;obtain⟨H',A,C,w,z⟩:=h.push u J;refine⟨_,H',vp (v:=get F 7) rfl ?_ <| vp (v:=get F 9) rfl ?_ <| vp (v:=.int .i64 i) rfl ?_ <| vp (v:=p) rfl ?_ <| vp (v:=.agg c) rfl ?_ <| kC (v:=.hsl H.length 2 0 1) (H1:=H++[.row 2 [c]]) rfl ?_ <| kC (v:=.hsl (H.length+1) 2 0 (l.length+1))  rfl ?_ <| vp (v:=.hsl (H.length+1) 2 0 (l.length+1)) rfl ?_ fH,?_,w,z,?_⟩
 .simp[bO,bB,bp]
 .simp[bO,bB,bp,bu]
 .simp[bO,bB,bp,bu,f10]
 .simp[bO,bB,bu,br,bp];grind
 .simp[bO,bB,bu,br];grind
 .simp[bO,bB,bu,br,iW];simp[gJ,V.cells,Mk.val]
  grind
 .simp[bO,bB,bu,br];omega
 .simp[bO,bB,bp,bu]
 .simp[bu,br];omega
 .simp[bu,br]
  grind
theorem WW (f10:get F 10=.int .i64 i) (hk:i<=2147483648):∃F',cZ E N call none Ng F H=some (F',H)/\get F' 10=.int .i64 ((i+1:Nat):Int)/\(∀s,s<11->s≠10->get F' s=get F s):=by
 have u:=An hk;refine⟨_,vp (v:=.int .i64 i) rfl ?_ <| vp (v:=.int .i64 (i+1:Nat)) rfl ?_ <| vp (v:=.int .i64 (i+1:Nat)) rfl ?_ fH,?_,?_⟩
 .simp[bO,bB,bp,f10]
 .simp[bO,bB,bu,br,bp,jD];grind
 .simp[bO,bB,bp,bu]
 .simp[bu]
 .simp[bu,br]
  grind
structure P3 (l l9:List (List V)) (B i:Nat) (F:Frame) (H:bg):Prop where
 f10:get F 10=.int .i64 i
 t9:∃id9,jZ H (get F 9) l9 id9/\∃id,jZ H (get F 7) l id/\(∀off m,get F 7=.hsl id 2 off m->B<=id/\∀off' m',get F 9=.hsl id9 2 off' m'->id≠id9)
 len:B<=H.length
theorem VK (D:List (List V)) (B:Nat) (Y:D.length<=2147483648):∀(m i:Nat) (l:List (List V)) (F:Frame) (H:bg),i+m=D.length->l.length+m<=2147483648->P3 l D B i F H ->
 ∃F' H',nV E N L3 F H (.exit 4) F' H'/\(∃id,jZ H' (get F' 7) (l++D.drop i) id/\∀off m,get F' 7=.hsl id 2 off m->B<=id)/\(∀s,s<7->get F' s=get F s)/\(∀j,j<B->H'[j]? = H[j]?)/\H.length<=H'.length:=by
 intro m
 induction m with
 | zero=>
  intro i l F H hi X p;obtain⟨u,t9,id,t7,A⟩:=p.t9;obtain⟨F1,e1,e2,e3⟩:=Rb (E:=E)  (call:=⟨0,λ_ _ _=>none⟩) p.f10 t9
  refine⟨F1,H,nV.stop (Ex.w_ (Ex.seq (Ex.eN λc=>e1) (Ex.uW ?_ Ex.exit)) (by simp)) (by simp),⟨id,?_,λoff m h=>?_⟩,λs S=>e3 s (by omega),λ_ _=>rfl,Nat.le_refl _⟩
  .show get F1 64=_
   grind
  .grind
  grind
 | succ m Z=>
  intro i l F H hi X p;have z:i<D.length:=by omega
  obtain⟨u,t9,id,t7,A⟩:=p.t9;obtain⟨F1,e1,e2,e3⟩:=Rb (E:=E)  (call:=⟨0,λ_ _ _=>none⟩) p.f10 t9
  have hc:=ζd z;have C:jZ H (get F1 7) l id:=by grind
  have G:jZ H (get F1 9) D u:=by grind
  obtain⟨F2,H2,g1,g2,g3,g4,g5⟩:=WT (E:=E)  (call:=⟨0,λ_ _ _=>none⟩) (by rw[e3 10 (by omega)];exact p.f10) C G hc (by omega)
  obtain⟨T,q1,q2,I⟩:=WW (E:=E)  (call:=⟨0,λ_ _ _=>none⟩)    (by rw[g5 10 (by omega) (by omega),e3 10 (by omega)];exact p.f10) (by omega)
  have keep:∀j,j<H.length->(∀off m,get F 7=.hsl id 2 off m->j≠id)->H2[j]? = H[j]? := λj J h=>g4 j J (by grind)
  have L:P3 (l++[D[i]]) D B (i+1) T H2:=by
   refine⟨q2,⟨u,?_,H.length+1,by grind,λoff m h=>⟨by have:=p.len;omega,λw m' U=>?_⟩⟩,by have:=p.len;omega⟩
   .rw[I 9 (by omega) (by omega),g5 9 (by omega) (by omega),e3 9 (by omega)]
    exact t9.heap λoff n W=>keep u (t9.lt W) λw m' O=>Ne.symm ((A w m' O).2 off n W)
   .rw[I 9 (by omega) (by omega),g5 9 (by omega) (by omega),e3 9 (by omega)]at U
    have:=t9.lt U;omega
  obtain⟨F',H',r1,⟨Q,r2,r3⟩,r4,r5,r6⟩:=Z (i+1) (l++[D[i]]) T H2 (by omega) (by simp;omega) L
  refine⟨F',H',nV.step (Ex.seq (Ex.seq (Ex.eN λc=>e1) (Ex.qf ?_ Ex.skip)) (Ex.seq (Ex.block (Ex.eN λc=>g1)) (Ex.eN λc=>q1))) r1,⟨Q,?_,r3⟩,λs S=>?_,λj J=>?_,by omega⟩
  .show get F1 64=_
   grind
  .rw[List.append_assoc]at r2;rw[List.drop_eq_getElem_cons z];exact r2
  .rw[r4 s S,I s (by omega) (by omega),g5 s (by omega) (by omega),e3 s (by omega)]
  .have:=p.len;rw[r5 j J,keep j (by omega) λoff m h=>by have:=(A off m h).1;omega]
end
structure P2 (t:Trace) (out:List (List Bool)) (l:List aY) (F:Frame) (H:bg):Prop where
 f2:get F 2=.hptr 0 0 0
 h0:H[0]? = some (.row 1 [cells t])
 ns:∃B o ids id,l8 H (get F 5) o ids (jR out)/\(out≠[]->1<=o/\o<B)/\(∀id∈ids,1<=id/\id<B)/\1<=B/\B<=H.length/\jZ H (get F 7) (l.map cells) id/\∀off m,get F 7=.hsl id 2 off m->B<=id
theorem Om (out:List (List Bool)) (p j:Nat) (row:List Bool):jR (out.set p (row.set j true))=(jR out).set p ((row.map V.bool).set j (.bool true)):=by
 simp[jR]
theorem HJ {out:List (List Bool)}:jR out=[]↔out=[]:=by simp[jR]
theorem PO {dir:aY->Option (Sl aY)} {out:List (List Bool)} {y:aY} {rest:List aY} {w:Fw (List (List Bool)×List aY) (List (List Bool)) Empty} (h:og dir (out,y::rest)=some w) :
 ∃(p j:Nat) (row:List Bool) (b:Bool),y.proc=p/\y.index=j/\out[p]? = some row/\row[j]? = some b/\((b=true/\w=.n (out,rest))\/(b=false/\∃more,dir y=some more/\rest.length+more.l.length<=2147483648/\w=.n (out.set p (row.set j true),rest++more.l))):=by
 simp only[og]at h;split at h
 .obtain⟨row,h1,h⟩:=ζg.1 h;obtain⟨b,u,h⟩:=ζg.1 h;refine⟨y.proc.toNat,y.index.toNat,row,b,by omega,by omega,h1,u,?_⟩
  cases b with
  | true=>simp[a_]at h;grind
  | false=>
   obtain⟨more,z,h⟩:=ζg.1 h
   grind
 simp_all
theorem LF {E:Env} {N:Nat->FuncId} {t:Trace} {dir:aY->Option (Sl aY)} (hd:E.keep (N 116)=true) (hD:FN E N t dir):∀(k:Nat) (out:List (List Bool)) (l:List aY) (D:List (List Bool)) (F:Frame) (H:bg),
 jw (og dir) k (out,l)=some (.x D)->P2 t out l F H->∃F' H',nV E N L2 F H (.exit 2) F' H'/\P2 t D [] F' H':=by
 intro k
 induction k with
 | zero=>intro out l D F H h;simp[jw]at h
 | succ k ih=>
  intro out l D F H h p;obtain⟨B,o,ids,id,n1,n2,W,n4,n5,t7,t8⟩:=p.ns;obtain⟨F1,e1,e2,e3⟩:=x8 (E:=E) (N:=N) (call:=⟨0,λ_ _ _=>none⟩) t7
  rw[List.length_map]at e2
  cases l with
  | nil=>
   simp only[jw,og]at h;cases h;refine⟨F1,H,nV.stop (Ex.w_ (Ex.seq (Ex.eN λc=>e1) (Ex.uW ?_ Ex.exit)) (by simp)) (by simp),?_⟩
   .show get F1 35=_;rw[e2];simp
   .exact⟨by rw[e3 2 (by omega)];exact p.f2,p.h0,B,o,ids,id,by rw[e3 5 (by omega)];exact n1,n2,W,n4,n5,by rw[e3 7 (by omega)];exact t7,by rw[e3 7 (by omega)];exact t8⟩
  | cons y rest=>
   simp only[jw]at h
   cases I:og dir (out,y::rest)with
   | none=>rw[I]at h;cases h
   | some w=>
   rw[I]at h;obtain⟨q,j,row,b,hq,hj,u,hb,J⟩:=PO I;have L:jZ H (get F1 7) (cells y::rest.map cells) id:=by rw[e3 7 (by omega)];exact t7
   obtain⟨F2,g1,g2,g3⟩:=x9 (E:=E) (N:=N) (call:=⟨0,λ_ _ _=>none⟩) L
   have aa:jZ (H++[.row 2 [cells y]]) (get F2 7) (cells y::rest.map cells) id:=by rw[g3 7 (by omega) (by omega)];exact L.more _
   obtain⟨F3,i1,i2,⟨C,m1,ab,i3,i4⟩,i5⟩:=WS (E:=E) (N:=N) (call:=⟨0,λ_ _ _=>none⟩) aa
   have O:(H++[Ob.row 2 [cells y]])[H.length]? = some (.row 2 [cells y]):=by simp
   have f8:get F3 8=.hptr H.length 0 0:=by rw[i5 8 (by omega) (by omega)];exact g2
   have f5:get F3 5=get F 5:=by rw[i5 5 (by omega) (by omega),g3 5 (by omega) (by omega),e3 5 (by omega)]
   have f2:get F3 2=.hptr 0 0 0:=by rw[i5 2 (by omega) (by omega),g3 2 (by omega) (by omega),e3 2 (by omega)];exact p.f2
   have Q:l8 (H++[.row 2 [cells y]]) (get F3 5) o ids (jR out):=by rw[f5];exact n1.more _
   have hr:(jR out)[q]? = some (row.map V.bool):=by simp[jR,u]
   have hu:(row.map V.bool)[j]? = some (.bool b):=by simp[hb]
   have S:B<=id:=by
    have:get F 7=.hsl id 2 C m1:=by rw[<-i3,g3 7 (by omega) (by omega),e3 7 (by omega)]
    exact t8 _ _ this
   obtain⟨F4,j1,j2,z⟩:=Ui (E:=E) (N:=N) (call:=⟨0,λ_ _ _=>none⟩) f8 O Q hq hj hr hu
   have ad:bB N F1 (.s 35)=.bool true:=by show get F1 35=_;rw[e2];simp
   rcases J with⟨rfl,rfl⟩|⟨rfl,more,hm,aq,rfl⟩
   .simp only at h;have T:P2 t out rest F4 (H++[.row 2 [cells y]]):=by
     refine⟨by rw[z 2 (by omega)];exact f2,by rw[List.getElem?_append_left (ζe.1 p.h0).1];exact p.h0,B,o,ids,id,by rw[z 5 (by omega)];exact Q,n2,W,n4,by simp;omega,by rw[z 7 (by omega)];exact i2,λoff m _=>S⟩
    obtain⟨F',H',r1,r2⟩:=ih out rest D F4 _ h T;exact⟨F',H',nV.step (Ex.seq (Ex.seq (Ex.eN λc=>e1) (Ex.qf ad Ex.skip)) (Ex.xN (Ex.seq (Ex.eN λc=>g1) (Ex.seq (Ex.eN λc=>i1) (Ex.w_ (Ex.seq (Ex.pq rfl λc=>j1) (Ex.qf j2 Ex.exit)) (by simp)))))) r1,r2⟩
   .simp only at h;have n6:l8 (H++[.row 2 [cells y]]) (get F4 5) o ids (jR out):=by rw[z 5 (by omega)];exact Q
    obtain⟨F5,A,k1,k2,k3,k4,k5⟩:=WJ (E:=E) (N:=N) (call:=⟨0,λ_ _ _=>none⟩) (by rw[z 8 (by omega)];exact f8) O n6 hq hj hr hu
    have G:∀i,B<=i->i∉ids:=λi hi hm=>by have:=(W i hm).2;omega
    have ah:A[H.length]? = some (.row 2 [cells y]):=by rw[k4 _ (G _ n5)];exact O
    have U:A[0]? = some (.row 1 [cells t]):=by
     rw[k4 0 (λhm=>by have:=(W 0 hm).1;omega),List.getElem?_append_left (ζe.1 p.h0).1];exact p.h0
    obtain⟨w9,X,ai,aj,m2,m3,_⟩:=Wc (a:=0) (d:=0) (F:=F5) hd hD hm (by rw[k5 2 (by omega),z 2 (by omega)];exact f2) U ah
    obtain⟨Y,⟨nn,ak⟩,ae,o3⟩:=m3 (by rw[k5 8 (by omega),z 8 (by omega)];exact f8)
    have au:A.length=H.length+1:=by rw[k3];simp
    have i7:get Y 7=.hsl id 2 ab (rest.map cells).length:=by rw[o3 7 (by omega) (by omega),k5 7 (by omega),z 7 (by omega)];exact i4
    have ar:id<H.length:=by
     have:=L.lt (off:=C) (m:=m1) (by rw[<-i3,g3 7 (by omega) (by omega)])
     exact this
    have t6:jZ (A++X) (get Y 7) (rest.map cells) id:=by
     have:get Y 7=get F3 7:=by rw[o3 7 (by omega) (by omega),k5 7 (by omega),z 7 (by omega)]
     rw[this];refine(i2.heap (H':=A) λoff n _=>k4 id (G id S)).more X
    have al:∃Z,(∀c,cZ E N c none G5 Y (A++X)=some (Z,A++X))/\get Z 10=.int .i64 ((0:Nat):Int)/\∀s,s<10->get Z s=get Y s:=
     ⟨set Y 10 (.int .i64 0),λc=>by simp[G5,cZ,bO,bB,bp,bu],by simp,λs hs=>by rw[br,if_neg (by omega)]⟩
    obtain⟨Z,u1,u2,u3⟩:=al;have am:P3 (rest.map cells) (more.l.map cells) B 0 Z (A++X):=by
     refine⟨u2,⟨ai,by rw[u3 9 (by omega),ae];exact aj,id,by rw[u3 7 (by omega)];exact t6,λoff m hh=>⟨S,λaf m' h'=>?_⟩⟩,by simp;omega⟩
     rw[u3 9 (by omega),ae]at h'
     have:=m2 af m' h';omega
    obtain⟨F8,H8,v1,⟨an,v2,v3⟩,v4,v5,v6⟩:=VK (E:=E) (N:=N) (more.l.map cells) B (by simp;omega) (more.l.map cells).length 0 (rest.map cells) Z (A++X) (by omega) (by simp;omega) am
    have ao:l8 H8 (get F8 5) o ids (jR (out.set q (row.set j true))):=by
     have h5:get F8 5=get F5 5:=by rw[v4 5 (by omega),u3 5 (by omega),o3 5 (by omega) (by omega)]
     rw[h5,Om];refine(k2.more X).heap (λap=>v5 o ?_) λi hi=>v5 i (W i hi).2
     have:out≠[]:=by intro e;subst e;simp at u
     exact(n2 this).2
    have T:P2 t (out.set q (row.set j true)) (rest++more.l) F8 H8:=by
     refine⟨by rw[v4 2 (by omega),u3 2 (by omega),o3 2 (by omega) (by omega),k5 2 (by omega),z 2 (by omega)];exact f2,?_,B,o,ids,an,ao,λap=>n2 (by intro e;subst e;simp at u),W,n4,by simp at v6;omega,?_,v3⟩
     .rw[v5 0 (by omega),List.getElem?_append_left (ζe.1 U).1];exact U
     .rw[List.drop_zero]at v2;rw[List.map_append];exact v2
    obtain⟨F',H',w1,w2⟩:=ih _ _ D F8 H8 h T;exact⟨F',H',nV.step (Ex.seq (Ex.seq (Ex.eN λc=>e1) (Ex.qf ad Ex.skip)) (Ex.block (Ex.seq (Ex.eN λc=>g1) (Ex.seq (Ex.eN λc=>i1) (Ex.seq (Ex.seq (Ex.pq rfl λc=>j1) (Ex.uW j2 Ex.skip)) (Ex.seq (Ex.pq rfl λc=>k1)
     (Ex.seq (Ex.ops ⟨nn,ak⟩) (Ex.seq (Ex.eN u1) (Ex.xN (Ex.loop v1))))))))) ) w1,w2⟩
theorem Qx {H:bg} {Z:Nat->Prop} {id:Nat} {r:List Bool} (B:Z id) (h:H[id]? = some (.row 1 (jc (r.map V.bool)))):FR H Z (enc (Sl.row r)) (.hsl id 1 0 r.length):=by
 have hr:bq H id=some (1,jc (r.map V.bool)):=by simp[bq,h,Ob.rows]
 have C:enc (Sl.row r)=.fsl 1 (rows r):=rfl;have D:(rows r).length=r.length:=by simp[rows]
 have hc:jc (r.map V.bool)=rows r:=by simp[jc,rows,Function.comp_def]
 rw[hc]at hr;rw[C,<-D];refine .fsl 1 (rows r) id 0 (rows r) B hr (by omega) (λi a b h1 w=>?_) (λi j a b u v h1 w z A=>?_)
 .grind
 .rw[Nat.zero_add,h1]at w;cases w;rw[z]at A;cases A;refine .same u ?_;obtain⟨c,G,rfl⟩:∃c∈r,a=[V.bool c]:=by
   have:=List.mem_of_getElem? h1;simp only[rows,List.mem_map]at this;obtain⟨c,hc,rfl⟩:=this;simp_all
  have:=List.mem_of_getElem? z;simp at this;subst this;rfl
theorem Po {H:bg} {w:V} {o:Nat} {ids:List Nat} {out:List (List Bool)} (n:l8 H w o ids (jR out)):∃Z,FR H Z (enc (nested out)) w/\(∀id,Z id->(bq H id).isSome=true)/\Deep H Z:=by
 have hv:=n.v
 by_cases L:out=[]
 .subst L;rw[if_pos (show jR []=[]from rfl)]at hv;subst hv;exact⟨λ_=>False,.same _ rfl,λ_ h=>h.elim,⟨λ_ _ _ h=>h.elim⟩⟩
 .have D:jR out≠[]:=λh=>L (HJ.1 h)
  rw[if_neg D,vU]at hv;subst hv;have O:=n.ob D;have G:=n.len;rw[vU]at G;have A:∀(i id:Nat) (r:List Bool),ids[i]? = some id->out[i]? = some r->H[id]? = some (.row 1 (jc (r.map V.bool))):=λi id r h1 C=>n.r i id _ h1 (by simp[jR,C])
  have B:∀(i:Nat) (c:List V),(refs ids (jR out))[i]? = some c->∃id r,ids[i]? = some id/\out[i]? = some r/\c=[.hsl id 1 0 r.length]:=λi c h=>by
   have hi:=(ζe.1 h).1;rw[sY n.len,vU]at hi;have h1:=ζd (show i<ids.length from by omega)
   have C:=ζd hi;have Q:=By (rows:=jR out) (r:=out[i].map V.bool) h1 (by simp[jR,C])
   grind
  have I:bq H o=some (1,refs ids (jR out)):=by simp[bq,O,Ob.rows]
  have J:∀id∈ids,∃(r:List Bool),H[id]? = some (.row 1 (jc (r.map V.bool))):=λid z=>by
   obtain⟨i,hi⟩:=List.getElem?_of_mem z;have S:=(ζe.1 hi).1;exact⟨_,A i id _ hi (ζd (show i<out.length from by omega))⟩
  refine⟨λid=>id=o\/id∈ids,?_,λid h=>?_,⟨λid es ys h hr c hc u hu=>?_⟩⟩
  .have X:enc (nested out)=.fsl 1 (rows (out.map Sl.row)):=by rw[nested,if_neg L];rfl
   have S:(rows (out.map Sl.row)).length=out.length:=by simp[rows]
   rw[X,<-S];refine .fsl 1 _ o 0 (refs ids (jR out)) (.inl rfl) I (by rw[S,sY n.len,vU];omega) (λi a b h1 C=>?_) (λi j a b u v h1 C Q W=>?_)
   .rw[Nat.zero_add]at C;obtain⟨id,r,_,hr,rfl⟩:=B i b C;simp[rows,hr]at h1;subst h1;rfl
   .rw[Nat.zero_add]at C;obtain⟨id,r,z,hr,rfl⟩:=B i b C;have Y:a=[enc (Sl.row r)]:=by simp[rows,hr]at h1;exact h1.symm
    subst Y
    cases j with
    | zero=>
     simp at Q W;subst Q W;exact Qx (.inr (List.mem_of_getElem? z)) (A i id r z hr)
    | succ j=>simp_all
  .rcases h with rfl|h
   .simp_all
   .obtain⟨r,hr⟩:=J id h;simp[bq,hr,Ob.rows]
  .rcases h with rfl|h
   .rw[I]at hr;cases hr;obtain⟨i,hi⟩:=List.getElem?_of_mem hc;obtain⟨id,r,z,T,rfl⟩:=B i c hi;simp at hu;subst hu;exact⟨_,Qx (.inr (List.mem_of_getElem? z)) (A i id r z T)⟩
   .obtain⟨r,U⟩:=J id h;have:bq H id=some (1,jc (r.map V.bool)):=by simp[bq,U,Ob.rows]
    rw[this]at hr;cases hr;simp only[jc,List.mem_map]at hc;obtain⟨_,⟨c',_,rfl⟩,rfl⟩:=hc;simp at hu;subst hu;exact⟨_,.same _ rfl⟩
theorem SI {t:Trace} {x:aY} {out:List (List Bool)} {s:Sl aY} {dir:aY->Option (Sl aY)} (hd:vF.keep (wu 116)=true) (W:FN vF wu t dir) (U:Ak t=true) (Y:dir x=some s) (hw:bV (og dir) (gE t,s.l)=some (.x out)) :
 BS vF (wu 81) [enc t,enc x] (enc (nested out)):=by
 obtain⟨fi,g1,g2,g3,g4⟩:=shape;obtain⟨k,hk⟩:=nU.1 hw;have b1:∃F1,(∀c,cZ vF wu c none r1 [enc t,enc x] []=some (F1,[.row 1 [cells t],.row 2 [cells x]]))/\get F1 2=.hptr 0 0 0/\get F1 3=.hptr 1 0 0:=by
  refine⟨_,λc=>kC (v:=.hptr 0 0 0) (H1:=[.row 1 [cells t]]) rfl ?_ <| kC (v:=.hptr 1 0 0) (H1:=[.row 1 [cells t],.row 2 [cells x]]) rfl ?_ <| vp (v:=.bW) rfl ?_ fH,?_,?_⟩
  .show (iW .box [enc t]).map _=_;simp only[iW,lH,qn,if_true,Option.map_some,gB];rfl
  .simp only[bO,List.map_cons,List.map_nil,bB,bu,br,Nat.reduceEqDiff,if_false];show (iW .box [enc x]).map _=_;simp only[iW,lH,qn,if_true,Option.map_some,gB];rfl
  .simp[bO,bB,bp]
  .simp[bu]
  .simp[bu]
 obtain⟨F1,c1,c2,c3⟩:=b1;have b3:∃G,(∀c,cZ vF wu c none r2 F1 [.row 1 [cells t],.row 2 [cells x]]=some (set F1 5 .bW,[.row 1 [cells t],.row 2 [cells x]]))/\(∀c,cZ vF wu c none r3 (set F1 5 .bW) [.row 1 [cells t],.row 2 [cells x]]=some (G,[.row 1 [cells t],.row 2 [cells x]]))/\P1 t x 0 G [.row 1 [cells t],.row 2 [cells x]]:=by
  refine⟨set (set F1 5 .bW) 6 (.int .i64 0),λc=>by simp[r2,cZ,bO,bB,bp,bu],λc=>by simp[r3,cZ,bO,bB,bp,bu],by simp[c2],by simp[c3],by simp,rfl,rfl,0,[],?_,λh=>absurd rfl h,λid h=>by simp at h⟩
  have:get (set (set F1 5 .bW) 6 (.int .i64 0)) 5=.bW:=by simp
  rw[this,List.take_zero];exact l8.nil _ 0
 obtain⟨G,d1,d2,d3⟩:=b3;obtain⟨F4,O,e1,e2⟩:=Ln (E:=vF) (N:=wu) U t.procs.l.length 0 G _ (by omega) d3
 obtain⟨o,ids,I,n2,n3⟩:=e2.ns;have Q:(gE t).length=t.procs.l.length:=by simp[gE]
 rw[List.take_of_length_le (by omega)]at I
 obtain⟨w,X,id,m1,m2,_,m4⟩:=Wc (a:=0) (d:=0) (F:=F4) (E:=vF) (N:=wu) hd W Y e2.f2 e2.h0 (c:=1) e2.h1;obtain⟨S,o1,o2,o3⟩:=m4 e2.f3;have L:P2 t (gE t) s.l S (O++X):=by
  refine⟨by rw[o3 2 (by omega) (by omega)];exact e2.f2,by rw[List.getElem?_append_left (ζe.1 e2.h0).1];exact e2.h0,O.length,o,ids,id,by rw[o3 5 (by omega) (by omega)];exact I.more X,λu=>?_,λi hi=>⟨by have:=n3 i hi;omega,I.lt.2 i hi⟩,?_,by simp,by rw[o2];exact m1,λoff m h=>?_⟩
  .have z:jR (gE t)≠[]:=λh=>u (HJ.1 h)
   have:t.procs.l.length≠0:=by intro h;apply u;exact List.eq_nil_of_length_eq_zero (by omega)
   have:=n2 this;exact⟨by omega,I.lt.1 z⟩
  .have:=(ζe.1 e2.h0).1;omega
  .rw[o2]at h;have:=m2 off m h;omega
 obtain⟨A,J,p1,p2⟩:=LF hd W k _ _ out S _ hk L;obtain⟨B,o',T,aa,q1,_⟩:=p2.ns;have l1:∃C,(∀c,cZ vF wu c none V_ A J=some (C,J))/\get C 4=get A 5:=by
  refine⟨_,λc=>vp (v:=get A 5) rfl ?_ <| vp (v:=get A 5) rfl ?_ fH,?_⟩
  .simp[bO,bB,bp]
  .simp[bO,bB,bp,bu]
  .simp[bu]
 obtain⟨C,y1,y2⟩:=l1;have hex:Ex vF wu code [enc t,enc x] [] .ret C J:=
  Ex.seq (Ex.eN c1) (Ex.seq (Ex.eN d1) (Ex.seq (Ex.seq (Ex.eN d2) (Ex.xN (Ex.loop e1))) (Ex.seq (Ex.ops o1) (Ex.seq (Ex.xN (Ex.loop p1)) (Ex.seq (Ex.eN y1) Ex.ret)))))
 obtain⟨n,D⟩:=hex.run (nm:=some) xV g1 g2 (show [enc t,enc x].length<=fi.ntmps from g3) (vs:=[get C 4]) (by rw[g4];rfl)
 obtain⟨Z,z1,z2,z3⟩:=Po q1;exact⟨n,get A 5,J,Z,by rw[D,y2];rfl,z1,z2,z3⟩
theorem TQ (l:List aY):∀c∈l.map (cells (α:=aY)),c.length=2/\c.all V.one=true/\c.all V.scalar=true:=λc hc=>by
 obtain⟨e,_,rfl⟩:=List.mem_map.1 hc;exact⟨rfl,rfl,rfl⟩
theorem Vh (t:Trace):FN vF wu t (dH t):=by
 intro y s H A;have h1:=zh t y;have G:=h1 (cS s) (by rw[A];rfl)
 have hg:V.cD [enc t,enc y]=true:=by simp only[V.cD,lX,Bool.and_self]
 have w:s.k=.row\/s.k=.nil/\rows s.l=[]:=by
  have C:∀o z,(∃l,o=.row l)\/o=.nil->dH.J1 o t y=some z->(∃l,z=.row l)\/z=.nil:=λo z I u=>by
   unfold dH.J1 at u;obtain⟨e,_,u⟩:=ζg.1 u
   cases D:e.kind==3 with
   | true=>
    rw[D]at u;obtain⟨f,_,u⟩:=ζg.1 u;obtain⟨q,B,u⟩:=ζg.1 u;cases u;unfold jr at B;split at B
    .cases B;exact .inl ⟨_,rfl⟩
    .cases B
   | false=>rw[D]at u;cases u;exact I
  have:(∃l,s=.row l)\/s=.nil:=by
   unfold dH at A
   cases hc:decide (y.index>1)with
   | true=>rw[hc]at A;exact C _ s (.inl ⟨_,rfl⟩) A
   | false=>rw[hc]at A;exact C _ s (.inr rfl) A
  rcases this with⟨l,rfl⟩|rfl
  .exact .inl rfl
  .exact .inr ⟨rfl,rfl⟩
 obtain⟨n,z,H',r1,r2⟩:=Uf QV JN (T:=Tx) (f:=wu 116) (rf:=qC (Tx 116)) (by kernel_rfl) hg (Nat.le_of_ble_eq_true (by kernel_rfl)) (k:=s.k) (es:=2) (xs:=rows s.l) (λc hc=>(TQ s.l c hc).2.2) w G
 refine Gn (l:=s.l.map cells) (y:=z) (H1:=H') (by kernel_rfl) hg (TQ s.l) ⟨n,λk hk=>(uf _ hk).go _ _ _ _ r1⟩ ?_ H
 rcases r2 with⟨J,rfl⟩|⟨id,rfl,L⟩
 .left;cases s <;> simp[Sl.k]at J;exact⟨rfl,rfl⟩
 .right;exact⟨id,by simp[rows],L⟩
end pastX
theorem PU (t:Trace) (x:aY) (r:Sl (Sl Bool)) (h:mY t x=some r):Sy.wH 81 [enc t,enc x]=some (enc r):=by
 unfold mY at h;split at h
 .rename_i u;obtain⟨s,z,h⟩:=ζg.1 h;obtain⟨w,A,h⟩:=ζg.1 h
  cases w with
  | n a=>exact Empty.elim a
  | r e=>exact Empty.elim e
  | x out=>
   cases h;exact EC (pastX.SI (by kernel_rfl) (pastX.Vh t) u z A)
 .cases h
end Go.VE
namespace Go.VE
noncomputable section
def v7:Option Bool:=some true
instance SO:Fc Sy cL v7:=⟨10,[],λr:Bool=>[.bool r],true,dW.wH (by kernel_rfl) (by kernel_rfl) Nl⟩
namespace gm
def bz (s0:Sl bQ) (D:Int) (B:Int) (p1:bQ->Option Bool):Option (Fw Int Unit Int):=
 a_ (decide (B<D))
 ((idx s0 B).bind λu=>
 (p1 u).bind λw=>
 a_ w
 (some (.r B))
 (some (.n (IntKind.wrap .i64 (B+1)))))
 (some (.x ()))
def W1 (s0:Sl bQ) (B D:Int) (p1:bQ->Option Bool):Option Int:=
 (bV (λq:Int=>bz s0 B q p1) D).bind (Fw.elim
 (λe=>some (-1))
 (λe=>some e))
end gm
def gm (s0:Sl bQ) (p1:bQ->Option Bool):Option Int:=
 gm.W1 s0 (len s0) 0 p1
open gm in
abbrev wk (g1:FuncId) (e1:List V) (p1:bQ->Option Bool) (h1:lJ Sy cL g1 [] e1 (λz:bQ=>[enc z]) (λr:Bool=>[.bool r]) p1 true) (s0:Sl bQ):Fc Sy cL (gm s0 p1):=Fc.M 66 [enc s0,.clo g1 [] e1] (cm 9 s0 (dP 5 (λw=>(bN [Cv 0 s0,(1,.v (.clo g1 [] e1)),Iv 7 (len s0),Iv 8 w] [])) (λu=>(0,(bN [] []))) (λu=>(bN [Iv 4 u] [])) (λw=>bn 7 9 (bD 16 λA _=>yu 1 h1.f A λB _=>bn 2 16 aZ aZ) aZ) (λu=>aZ) (λu=>aZ)))
def gi (s0:Sl bQ) (p1:bQ->Option Bool):Option Bool:=
 (gm s0 p1).bind λu=>
 some (decide (u>=0))
abbrev oB (g1:FuncId) (e1:List V) (p1:bQ->Option Bool) (h1:lJ Sy cL g1 [] e1 (λz:bQ=>[enc z]) (λr:Bool=>[.bool r]) p1 true) (s0:Sl bQ):Fc Sy cL (gi s0 p1):=Fc.M 40 [enc s0,.clo g1 [] e1] (bt (F:=wk g1 e1 p1 h1 s0) 9 λu _=>aZ)
namespace fP
def bz (s0:Sl Event) (D:Int) (B:Int) (p1:Event->Option Bool):Option (Fw Int Unit Int):=
 a_ (decide (B<D))
 ((idx s0 B).bind λu=>
 (p1 u).bind λw=>
 a_ w
 (some (.r B))
 (some (.n (IntKind.wrap .i64 (B+1)))))
 (some (.x ()))
def W1 (s0:Sl Event) (B D:Int) (p1:Event->Option Bool):Option Int:=
 (bV (λq:Int=>bz s0 B q p1) D).bind (Fw.elim
 (λe=>some (-1))
 (λe=>some e))
end fP
def fP (s0:Sl Event) (p1:Event->Option Bool):Option Int:=
 fP.W1 s0 (len s0) 0 p1
open fP in
abbrev vV (g1:FuncId) (e1:List V) (p1:Event->Option Bool) (h1:lJ Sy cL g1 [] e1 (λz:Event=>[enc z]) (λr:Bool=>[.bool r]) p1 true) (s0:Sl Event):Fc Sy cL (fP s0 p1):=Fc.M 67 [enc s0,.clo g1 [] e1] (cm 9 s0 (dP 5 (λw=>(bN [Cv 0 s0,(1,.v (.clo g1 [] e1)),Iv 7 (len s0),Iv 8 w] [])) (λu=>(0,(bN [] []))) (λu=>(bN [Iv 4 u] [])) (λw=>bn 7 9 (bD 16 λA _=>yu 1 h1.f A λB _=>bn 2 16 aZ aZ) aZ) (λu=>aZ) (λu=>aZ)))
def gX (s0:Sl Event) (p1:Event->Option Bool):Option Bool:=
 (fP s0 p1).bind λu=>
 some (decide (u>=0))
abbrev nT (g1:FuncId) (e1:List V) (p1:Event->Option Bool) (h1:lJ Sy cL g1 [] e1 (λz:Event=>[enc z]) (λr:Bool=>[.bool r]) p1 true) (s0:Sl Event):Fc Sy cL (gX s0 p1):=Fc.M 42 [enc s0,.clo g1 [] e1] (bt (F:=vV g1 e1 p1 h1 s0) 9 λu _=>aZ)
def nY (B:Event):Option Bool:=
 some (decide ((len B.assign)>20))
instance MD (B:Event):Fc Sy cL (nY B):=Fc.M 43 [enc B] (bU 2 1 B (cm 7 B.assign aZ))
def kZ (B:bQ):Option Bool:=
 (a_ (decide ((len B.events)>70))
 (some true)
 (some (decide ((len B.vars)>20))):Option Bool).bind λu=>
 (a_ u
 (some true)
 ((gX B.events (λz=>nY z)).bind λw=>
 some w):Option Bool).bind λA=>
 some A
instance Q_ (B:bQ):Fc Sy cL (kZ B):=Fc.M 41 [enc B] (bU 2 1 B (cm 7 B.events (bC 2 5 [7] 12 (bn 2 7 (bh 5) (cm 2 B.vars (bh 2))) λu=>bC 1 4 [1,13] 17 (bn 1 13 (bh 4) (bt (F:=nT 43 [] (λz=>nY z) lJ.sV B.events) 2 λw _=>bh 1)) λA=>aZ)))
def vc (B:Trace):Option Bool:=
 (a_ (decide ((len B.procs)>10))
 (some true)
 ((gi B.procs (λz=>kZ z)).bind λu=>
 some u):Option Bool).bind λw=>
 some w
instance UR (B:Trace):Fc Sy cL (vc B):=Fc.M 11 [enc B] (bU 2 1 B (cm 7 B.procs (bC 2 4 [1,7] 11 (bn 2 7 (bh 4) (bt (F:=oB 41 [] (λz=>kZ z) lJ.sV B.procs) 2 λu _=>bh 1)) λw=>aZ)))
namespace eG
def cq (D:Int) (G:Pred) (J B:Int) (r:(Pred×Int×Int)->Option Int):Option (Fw (Int×Int) Int Empty):=
 (a_ (decide (J<(len G.l)))
 (some (decide (B<=300)))
 (some false):Option Bool).bind λu=>
 a_ u
 ((idx G.l J).bind λw=>
 (r (w,IntKind.wrap .i64 (D+1),B)).bind λz=>
 some (.n (IntKind.wrap .i64 (J+1),z)))
 (some (.x B))
def W2 (B J:Int) (G:Pred) (D:Int) (r:(Pred×Int×Int)->Option Int):Option Int:=
 (bV (λq:Int×Int=>cq B G q.1 q.2 r) (J,D)).bind (Fw.elim
 (λe=>some e)
 (λe=>Empty.elim e))
def J1 (B:Int) (G:Pred) (D:Int) (r:(Pred×Int×Int)->Option Int):Option Int:=
 eG.W2 B 0 G D r
theorem gu (r:(Pred×Int×Int)->Option Int) (hr:vY Sy cL 44 (λz:Pred×Int×Int=>[cv z.1,iv z.2.1,.ptr 9001 0,.ptr 9002 0]) (λz:Pred×Int×Int=>[(9001,bx (z.2.2:Int)),(9002,.box [.clo 44 [] [.ptr 9001 0,.ptr 9002 0]])]) (λr:Int=>[]) (λ(z:Pred×Int×Int) (r:Int)=>[(9001,bx (r:Int)),(9002,.box [.clo 44 [] [.ptr 9001 0,.ptr 9002 0]])]) r) (B:Int) (G:Pred) (D:Int):Le ((J1 B G D r).bind (λr=>some ([],[(9001,bx (r:Int)),(9002,.box [.clo 44 [] [.ptr 9001 0,.ptr 9002 0]])]))) (cg Sy cL (BI (tr Tx 44) [9001,9002]) (mb (tb Tx 44) [1,1,1,0] [] ⟨[Iv 1 B,(2,.ptr 9001 0),(3,.ptr 9002 0),Pv 4],[Xb 4 G,(9001,.box [iv D]),(9002,.box [.clo 44 [] [.ptr 9001 0,.ptr 9002 0]])],[9001,9002],[],true,0⟩)):=
 jN 7 (λu=>⟨[Iv 1 B,(2,.ptr 9001 0),(3,.ptr 9002 0),Pv 4,Iv 6 u.1],[Xb 4 G,(9001,.box [iv u.2]),(9002,.box [.clo 44 [] [.ptr 9001 0,.ptr 9002 0]])],[9001,9002],[],true,0⟩) (λw=>(0,⟨[],[(9001,.box [iv w]),(9002,.box [.clo 44 [] [.ptr 9001 0,.ptr 9002 0]])],[9001,9002],[],true,0⟩)) (λu=>c8 7 13 (Pred.dX G.l) (cm 0 G.l (bC 2 3 [16] 19 (bn 2 16 (bh 3) (bh 3)) λC=>bn 2 19 (c8 9 24 (Pred.dX G.l) (bD 1 λA _=>Rk 3 (ng.of (A,IntKind.wrap .i64 (B+1),u.2) hr) λI _=>aZ)) aZ))) (λw=>aZ)
end eG
def gH (D:Pred) (B G:Int) (r:(Pred×Int×Int)->Option Int):Option Int:=
 a_ (decide (B>40))
 (eG.J1 B D 1000 r)
 (eG.J1 B D (IntKind.wrap .i64 (G+1)) r)
open eG in
theorem zj (r:(Pred×Int×Int)->Option Int) (hr:vY Sy cL 44 (λz:Pred×Int×Int=>[cv z.1,iv z.2.1,.ptr 9001 0,.ptr 9002 0]) (λz:Pred×Int×Int=>[(9001,bx (z.2.2:Int)),(9002,.box [.clo 44 [] [.ptr 9001 0,.ptr 9002 0]])]) (λr:Int=>[]) (λ(z:Pred×Int×Int) (r:Int)=>[(9001,bx (r:Int)),(9002,.box [.clo 44 [] [.ptr 9001 0,.ptr 9002 0]])]) r) (D:Pred) (B G:Int):∀J,gH D B G r=some J->∃m',cL 44 [cv D,iv B,.ptr 9001 0,.ptr 9002 0] [(9001,bx (G:Int)),(9002,.box [.clo 44 [] [.ptr 9001 0,.ptr 9002 0]])]=some (((λr:Int=>[]) J).map .v,m')/\∀U,kq m' ([(9001,bx (G:Int)),(9002,.box [.clo 44 [] [.ptr 9001 0,.ptr 9002 0]])].map (·.1)) U=some (mm U ((λr:Int=>[(9001,bx (r:Int)),(9002,.box [.clo 44 [] [.ptr 9001 0,.ptr 9002 0]])]) J)):=
 (ng.mk' 44 [cv D,iv B,.ptr 9001 0,.ptr 9002 0] [(9001,bx (G:Int)),(9002,.box [.clo 44 [] [.ptr 9001 0,.ptr 9002 0]])] (λr:Int=>[]) (λr:Int=>[(9001,bx (r:Int)),(9002,.box [.clo 44 [] [.ptr 9001 0,.ptr 9002 0]])]) (bU 2 4 D (bn 16 10 (gy 6 (gu r hr B D 1000)) (gy 4 (gu r hr B D (IntKind.wrap .i64 (G+1)))))):ng Sy cL (gH D B G r)).h
def eG (D:Pred) (B G:Int):Option Int:=cV (λr (z:Pred×Int×Int)=>gH z.1 z.2.1 z.2.2 r) 100000 (D,B,G)
abbrev BK (D:Pred) (B G:Int):ng Sy cL (eG D B G):=ng.of (D,B,G) (vY.fix (A:=λz:Pred×Int×Int=>[cv z.1,iv z.2.1,.ptr 9001 0,.ptr 9002 0]) (O:=λz:Pred×Int×Int=>[(9001,bx (z.2.2:Int)),(9002,.box [.clo 44 [] [.ptr 9001 0,.ptr 9002 0]])]) (E:=λr:Int=>[]) (M:=λ(z:Pred×Int×Int) (r:Int)=>[(9001,bx (r:Int)),(9002,.box [.clo 44 [] [.ptr 9001 0,.ptr 9002 0]])]) (b:=(λr (z:Pred×Int×Int)=>gH z.1 z.2.1 z.2.2 r)) (by kernel_rfl) (by kernel_rfl) (by kernel_rfl) (λr hr z=>zj r hr z.1 z.2.1 z.2.2) 100000)
def tM (B:Pred):Option Bool:=
 (eG B 0 0).bind λu=>
 some (decide (u>300))
instance Tw (B:Pred):Fc Sy cL (tM B):=Fc.M 12 [enc B] (bU 2 1 B (uw 26 (BK B 0 0) λu _=>aZ))
def mS (G D B:Int):Option Bool:=
 (a_ (decide (G>=D))
 (some (decide (G<=B)))
 (some false):Option Bool).bind λu=>
 some u
instance Vj (G D B:Int):Fc Sy cL (mS G D B):=Fc.M 153 [.int .i64 G,.int .i64 D,.int .i64 B] (bC 11 4 [0,2,10] 14 (bn 11 10 (bh 4) (bh 4)) λu=>aZ)
def p_ (B:Int):Option Bool:=
 (a_ (decide (B>=97))
 (some (decide (B<=122)))
 (some false):Option Bool).bind λu=>
 (a_ u
 (some true)
 ((a_ (decide (B>=65))
 (some (decide (B<=90)))
 (some false):Option Bool).bind λw=>
 some w):Option Bool).bind λz=>
 some z
instance SE (B:Int):Fc Sy cL (p_ B):=Fc.M 197 [.int .u8 B] (bC 10 3 [5] 8 (bn 10 5 (bh 3) (bh 3)) λu=>bC 1 7 [0,9] 16 (bn 1 9 (bh 7) (bC 3 3 [0,12] 15 (bn 3 12 (bh 3) (bh 3)) λw=>bh 1)) λz=>aZ)
def tR (B:Int):Option Bool:=
 (a_ (decide (B>=48))
 (some (decide (B<=57)))
 (some false):Option Bool).bind λu=>
 some u
instance Tn (B:Int):Fc Sy cL (tR B):=Fc.M 198 [.int .u8 B] (bC 10 3 [0,5] 8 (bn 10 5 (bh 3) (bh 3)) λu=>aZ)
namespace gq
def bz (s0:ByteArray) (D:Int) (B:Int):Option (Fw Int Unit Unit):=
 a_ (decide (B<D))
 ((kE s0 B).bind λz=>
 (p_ z).bind λA=>
 (a_ A
 (some false)
 ((kE s0 B).bind λC=>
 (tR C).bind λG=>
 some (!G)):Option Bool).bind λI=>
 (a_ I
 ((kE s0 B).bind λu=>
 some (!(u==95)))
 (some false):Option Bool).bind λw=>
 a_ w
 (some (.r ()))
 (some (.n (IntKind.wrap .i64 (B+1)))))
 (some (.x ()))
def W1 (s0:ByteArray) (B D:Int):Option Bool:=
 (bV (λq:Int=>bz s0 B q) D).bind (Fw.elim
 (λe=>some true)
 (λe=>some false))
end gq
def gq (s0:ByteArray):Option Bool:=
 (a_ (ByteArray.toList s0==ByteArray.toList ByteArray.empty)
 (some true)
 (some (decide (((ByteArray.size s0:Nat):Int)>16))):Option Bool).bind λu=>
 (a_ u
 (some true)
 ((kE s0 0).bind λw=>
 (p_ w).bind λz=>
 some (!z)):Option Bool).bind λA=>
 a_ A
 (some false)
 (gq.W1 s0 ((ByteArray.size s0:Nat):Int) 0)
open gq in
instance Rl (s0:ByteArray):Fc Sy cL (gq s0):=Fc.M 181 [.str s0] (bC 11 4 [6] 10 (bn 11 6 (bh 4) (bh 4)) λB=>bC 1 5 [11] 16 (bn 1 11 (bh 5) (zT 1 .i64 λC _=>bt 0 λD _=>bh 2)) λG=>bn 2 16 aZ (dP 13 (λw=>(bN [(0,.v (.str s0)),Iv 18 ((ByteArray.size s0:Nat):Int),Iv 19 w] [])) (λu=>(0,(bN [] []))) (λu=>(bN [Bv 2 false] [])) (λw=>bn 7 20 (zT 15 .i64 λI _=>bt 0 λJ _=>bC 2 6 [27] 33 (cG 2 27 (bh 6) (zT 2 .i64 λL _=>bt 0 λO _=>bh 2)) λQ=>bC 1 5 [3,34] 39 (bn 1 34 (zT 2 .i64 λz _=>bh 2) (bh 5)) λA=>bn 2 39 aZ aZ) aZ) (λu=>aZ) (λu=>aZ)))
def jy (B D:bQ):Option Bool:=
 some (ByteArray.toList B.name==ByteArray.toList D.name)
instance Ir (B D:bQ):Fc Sy cL (jy B D):=Fc.M 182 [enc B,.fptr (cells D)] (bU 2 2 B aZ)
def jA (B D:Var):Option Bool:=
 some (ByteArray.toList B.name==ByteArray.toList D.name)
instance It (B D:Var):Fc Sy cL (jA B D):=Fc.M 183 [enc B,.fptr (cells D)] (aZ)
namespace eV
def bz (s0:Sl Var) (D:Int) (B:Int) (p1:Var->Option Bool):Option (Fw Int Unit Int):=
 a_ (decide (B<D))
 ((idx s0 B).bind λu=>
 (p1 u).bind λw=>
 a_ w
 (some (.r B))
 (some (.n (IntKind.wrap .i64 (B+1)))))
 (some (.x ()))
def W1 (s0:Sl Var) (B D:Int) (p1:Var->Option Bool):Option Int:=
 (bV (λq:Int=>bz s0 B q p1) D).bind (Fw.elim
 (λe=>some (-1))
 (λe=>some e))
end eV
def eV (s0:Sl Var) (p1:Var->Option Bool):Option Int:=
 eV.W1 s0 (len s0) 0 p1
open eV in
abbrev mT (g1:FuncId) (e1:List V) (p1:Var->Option Bool) (h1:lJ Sy cL g1 [] e1 (λz:Var=>[enc z]) (λr:Bool=>[.bool r]) p1 true) (s0:Sl Var):Fc Sy cL (eV s0 p1):=Fc.M 106 [enc s0,.clo g1 [] e1] (cm 9 s0 (dP 5 (λw=>(bN [Cv 0 s0,(1,.v (.clo g1 [] e1)),Iv 7 (len s0),Iv 8 w] [])) (λu=>(0,(bN [] []))) (λu=>(bN [Iv 4 u] [])) (λw=>bn 7 9 (bD 16 λA _=>yu 1 h1.f A λB _=>bn 2 16 aZ aZ) aZ) (λu=>aZ) (λu=>aZ)))
def gC (s0:Sl Var) (p1:Var->Option Bool):Option Bool:=
 (eV s0 p1).bind λu=>
 some (decide (u>=0))
abbrev o9 (g1:FuncId) (e1:List V) (p1:Var->Option Bool) (h1:lJ Sy cL g1 [] e1 (λz:Var=>[enc z]) (λr:Bool=>[.bool r]) p1 true) (s0:Sl Var):Fc Sy cL (gC s0 p1):=Fc.M 161 [enc s0,.clo g1 [] e1] (bt (F:=mT g1 e1 p1 h1 s0) 9 λu _=>aZ)
namespace eB
def bz (D:Sl Var) (G:Int) (J:bQ) (B:Int):Option (Fw Int Unit Int):=
 a_ (decide (B<G))
 ((idx D B).bind λu=>
 (gq u.name).bind λC=>
 (a_ C
 ((jQ J.vars none (some B)).bind λI=>
 (gC I (λz=>jA z u)).bind λL=>
 some L)
 (some true):Option Bool).bind λw=>
 a_ w
 (some (.r 13))
 ((mS u.init_ (-1073741824) 1073741824).bind λA=>
 a_ A
 (some (.n (IntKind.wrap .i64 (B+1))))
 (some (.r 2))))
 (some (.x ()))
def W1 (D:Sl Var) (G J:Int) (B:bQ):Option Int:=
 (bV (λq:Int=>bz D G B q) J).bind (Fw.elim
 (λe=>a_ (decide ((len B.events)>64))
 (some 5)
 (some 0))
 (λe=>some e))
end eB
def eB (D:Trace) (p1:Int):Option Int:=
 (idx D.procs p1).bind λu=>
 (gq u.name).bind λw=>
 (a_ w
 ((jQ D.procs none (some p1)).bind λA=>
 (gi A (λz=>jy z u)).bind λB=>
 some B)
 (some true):Option Bool).bind λC=>
 a_ C
 (some 13)
 (a_ (decide ((len u.vars)>8))
 (some 5)
 (eB.W1 u.vars (len u.vars) 0 u))
open eB in
instance Lp (D:Trace) (p1:Int):Fc Sy cL (eB D p1):=Fc.M 154 [enc D,.int .i64 p1] (bU 2 2 D (bD 8 λu _=>qB 2 5 0 u (bt 8 λL _=>bC 2 7 [1,2,18] 25 (cG 2 18 (HR 3 false true [.int .i64 p1] λC _=>b7 (F:=oB 182 [.fptr (cells u)] (λz=>jy z u) lJ.sV C) 1 λO _=>bh 1) (bh 7)) λQ=>bn 3 13 aZ (cm 5 u.vars (bn 4 26 aZ (cm 9 u.vars (dP 5 (λA=>(bN [Pv 5,Cv 32 u.vars,Iv 33 (len u.vars),Iv 34 A] [Xb 5 u])) (λw=>(1,(bN [Pv 5] [Xb 5 u]))) (λw=>(bN [Iv 4 w] [])) (λA=>bn 7 35 (bD 8 λB _=>bt 11 λS _=>bC 2 7 [6,44] 51 (cG 2 44 (HR 3 false true [.int .i64 A] λG _=>b7 (F:=o9 183 [.fptr (cells B)] (λz=>jA z B) lJ.sV G) 1 λT _=>bh 1) (bh 7)) λI=>bn 3 39 aZ (bt 5 λJ _=>cG 4 52 aZ aZ)) aZ) (λw=>cm 7 u.events (bn 3 61 aZ aZ)) (λw=>aZ))))))))
def kH (B:Trace):Option Trace:=
 some B
instance RG (B:Trace):Fc Sy cL (kH B):=Fc.NE (λr:Trace=>[(.clo 184 [] [.fptr (cells r)])]) 155 [enc B] (bU 2 1 B aZ)
namespace iu
def J1 (p1:Int) (D:Bool) (G:Trace) (B:Event):Option Bool:=
 a_ D
 ((mS B.peer 0 (IntKind.wrap .i64 ((len G.procs)-1))).bind λu=>
 (a_ u
 (some (!(B.peer==p1)))
 (some false):Option Bool).bind λw=>
 (a_ w
 ((mS B.message 0 199).bind λz=>
 some z)
 (some false):Option Bool).bind λA=>
 some A)
 (some false)
end iu
def iu (B:Trace) (p1:Int) (e2:Event):Option Bool:=
 a_ (e2.kind==1)
 ((a_ (e2.peer==0)
 (some (e2.message==0))
 (some false):Option Bool).bind λu=>
 some u)
 (a_ (e2.kind==2)
 (iu.J1 p1 true B e2)
 (iu.J1 p1 (e2.kind==3) B e2))
open iu in
instance R7 (B:Trace) (p1:Int) (e2:Event):Fc Sy cL (iu B p1 e2):=Fc.M 185 [enc B,.int .i64 p1,enc e2] (bU 2 3 B (bU 0 5 e2 (bn 17 9 (bC 7 4 [5,14] 18 (bn 7 14 (bh 4) (bh 4)) λC=>aZ) (bn 8 19 (o5 4 (bn 0 19 (cm 7 B.procs (bt 1 λu _=>bC 1 5 [1,29] 34 (bn 1 29 (bh 5) (bh 5)) λw=>bC 1 4 [5,35] 39 (bn 1 35 (bt 2 λz _=>bh 1) (bh 4)) λA=>aZ)) aZ)) (o5 7 (bn 0 19 (cm 7 B.procs (bt 1 λu _=>bC 1 5 [1,29] 34 (bn 1 29 (bh 5) (bh 5)) λw=>bC 1 4 [5,35] 39 (bn 1 35 (bt 2 λz _=>bh 1) (bh 4)) λA=>aZ)) aZ))))))
def j_ (B D:Assign):Option Bool:=
 some (B.var==D.var)
instance JL (B D:Assign):Fc Sy cL (j_ B D):=Fc.M 187 [enc B,.fptr (cells D)] (aZ)
namespace fh
def bz (s0:Sl Assign) (D:Int) (B:Int) (p1:Assign->Option Bool):Option (Fw Int Unit Int):=
 a_ (decide (B<D))
 ((idx s0 B).bind λu=>
 (p1 u).bind λw=>
 a_ w
 (some (.r B))
 (some (.n (IntKind.wrap .i64 (B+1)))))
 (some (.x ()))
def W1 (s0:Sl Assign) (B D:Int) (p1:Assign->Option Bool):Option Int:=
 (bV (λq:Int=>bz s0 B q p1) D).bind (Fw.elim
 (λe=>some (-1))
 (λe=>some e))
end fh
def fh (s0:Sl Assign) (p1:Assign->Option Bool):Option Int:=
 fh.W1 s0 (len s0) 0 p1
open fh in
abbrev uU (g1:FuncId) (e1:List V) (p1:Assign->Option Bool) (h1:lJ Sy cL g1 [] e1 (λz:Assign=>[enc z]) (λr:Bool=>[.bool r]) p1 true) (s0:Sl Assign):Fc Sy cL (fh s0 p1):=Fc.M 199 [enc s0,.clo g1 [] e1] (cm 9 s0 (dP 5 (λw=>(bN [Cv 0 s0,(1,.v (.clo g1 [] e1)),Iv 7 (len s0),Iv 8 w] [])) (λu=>(0,(bN [] []))) (λu=>(bN [Iv 4 u] [])) (λw=>bn 7 9 (bD 16 λA _=>yu 1 h1.f A λB _=>bn 2 16 aZ aZ) aZ) (λu=>aZ) (λu=>aZ)))
def gK (s0:Sl Assign) (p1:Assign->Option Bool):Option Bool:=
 (fh s0 p1).bind λu=>
 some (decide (u>=0))
abbrev tu (g1:FuncId) (e1:List V) (p1:Assign->Option Bool) (h1:lJ Sy cL g1 [] e1 (λz:Assign=>[enc z]) (λr:Bool=>[.bool r]) p1 true) (s0:Sl Assign):Fc Sy cL (gK s0 p1):=Fc.M 186 [enc s0,.clo g1 [] e1] (bt (F:=uU g1 e1 p1 h1 s0) 9 λu _=>aZ)
namespace dB
def cq (D:Sl Assign) (G:Int) (J:Event) (U:bQ) (B:Int):Option (Fw Int Unit Int):=
 a_ (decide (B<G))
 ((idx D B).bind λu=>
 (mS u.var 0 (IntKind.wrap .i64 ((len U.vars)-1))).bind λC=>
 (a_ C
 ((mS u.value (-1073741824) 1073741824).bind λI=>
 some (!I))
 (some true):Option Bool).bind λL=>
 a_ L
 (some (.r 2))
 ((jQ J.assign none (some B)).bind λw=>
 (gK w (λz=>j_ z u)).bind λA=>
 a_ A
 (some (.r 8))
 (some (.n (IntKind.wrap .i64 (B+1))))))
 (some (.x ()))
def W2 (B:Sl Assign) (D G:Int) (J:Event) (U:bQ):Option Int:=
 (bV (λq:Int=>cq B D J U q) G).bind (Fw.elim
 (λe=>some 0)
 (λe=>some e))
def J1 (D:Int) (J:Trace) (G:aY) (B:Event) (U:bQ):Option Int:=
 (iu J G.proc B).bind λu=>
 a_ u
 ((mS B.time 0 1099511627776).bind λw=>
 (a_ w
 (some (decide (B.time<D)))
 (some true):Option Bool).bind λz=>
 a_ z
 (some 11)
 (a_ (decide ((len B.assign)>8))
 (some 5)
 (dB.W2 B.assign (len B.assign) 0 B U)))
 (some 3)
theorem gu (D:Int) (U:Trace) (J:aY) (B:Event) (G:bQ):Le ((J1 D U J B G).bind (λr=>some [.int .i64 r])) (cg Sy cL (k7 (tr Tx 156)) (mb (tb Tx 156) [1,1,1,1,0] [] (bN [Pv 3,Pv 4,Pv 5,Pv 7,Iv 8 D] [Xb 3 U,Xb 4 J,Xb 5 B,Xb 7 G]))):=
 bt 8 λL _=>cG 4 28 (bt 5 λO _=>bC 2 5 [8,40] 45 (cG 2 40 (bh 5) (bh 5)) λQ=>bn 3 35 aZ (cm 5 B.assign (bn 4 46 aZ (cm 9 B.assign (dP 5 (λw=>(bN [Pv 5,Pv 7,Cv 52 B.assign,Iv 53 (len B.assign),Iv 54 w] [Xb 5 B,Xb 7 G])) (λu=>(1,(bN [] []))) (λu=>(bN [Iv 6 u] [])) (λw=>bn 7 55 (bD 8 λA _=>cm 13 G.vars (bt 1 λS _=>bC 2 5 [68] 73 (cG 2 68 (bt 2 λT _=>bh 2) (bh 5)) λW=>bn 3 59 aZ (HR 6 false true [.int .i64 w] λC _=>b7 (F:=tu 187 [.fptr (cells A)] (λz=>j_ z A) lJ.sV C) 1 λI _=>bn 3 74 aZ aZ))) aZ) (λu=>aZ) (λu=>aZ)))))) aZ
end dB
def dB (D:Trace) (B:aY) (e2:Event):Option Int:=
 (idx D.procs B.proc).bind λu=>
 a_ (decide (B.index>1))
 ((idx u.events (IntKind.wrap .i64 (B.index-2))).bind λw=>
 dB.J1 w.time D B e2 u)
 (dB.J1 0 D B e2 u)
open dB in
instance Mc (D:Trace) (B:aY) (e2:Event):Fc Sy cL (dB D B e2):=Fc.M 156 [enc D,enc B,enc e2] (bU 2 3 D (bU 1 5 e2 (bD 9 λu _=>qB 2 7 0 u (bn 15 19 (bD 7 λw _=>gy 6 (gu w.time D B e2 u)) (gy 4 (gu 0 D B e2 u))))))
def qz (B:Event) (D G:Int):Option Bool:=
 (a_ (B.kind==2)
 (some (B.message==D))
 (some false):Option Bool).bind λu=>
 (a_ u
 (some (B.peer==G))
 (some false):Option Bool).bind λw=>
 some w
instance Od (B:Event) (D G:Int):Fc Sy cL (qz B D G):=Fc.M 200 [enc B,.fptr (cells D),.fptr (cells G)] (bU 2 3 B (bC 9 5 [1,8] 13 (bn 9 8 (bh 5) (bh 5)) λu=>bC 1 5 [2,3,14] 19 (bn 1 14 (bh 5) (bh 5)) λw=>aZ))
def tO (D:Trace) (p1 G B:Int):Option Bool:=
 (idx D.procs p1).bind λu=>
 (gX u.events (λz=>qz z G B)).bind λw=>
 some w
instance Ty (G:Trace) (p1 D B:Int):Fc Sy cL (tO G p1 D B):=Fc.M 188 [enc G,.int .i64 p1,.int .i64 D,.int .i64 B] (bU 2 4 G (bD 10 λu _=>b7 (F:=nT 200 [.fptr (cells D),.fptr (cells B)] (λz=>qz z D B) lJ.sV u.events) 3 λw _=>aZ))
namespace eC
def kr (D G:Trace) (J:Option (cI 200 bR)) (U:aY) (W:Int) (x:aY×Event) (B:cI 200 bR):Option (Fw (cI 200 bR) Empty (aY×Int×(cI 200 bR))):=
 a_ (x.2.kind==2)
 ((cI.at B x.2.message).bind λu=>
 a_ (decide (u.from_.index>0))
 (some (.r (x.1,8,B)))
 ((cI.at B x.2.message).bind λw=>
 some (.n (cI.set B x.2.message (⟨x.1,w.to_⟩:bR)))))
 (a_ (x.2.kind==3)
 ((cI.at B x.2.message).bind λz=>
 a_ (decide (z.to_.index>0))
 (some (.r (x.1,8,B)))
 ((tO G x.2.peer x.2.message x.1.proc).bind λA=>
 a_ A
 ((cI.at B x.2.message).bind λC=>
 some (.n (cI.set B x.2.message (⟨C.from_,x.1⟩:bR))))
 (some (.r (x.1,7,B)))))
 (some (.n B)))
def E1 (B G:Trace) (J:Option (cI 200 bR)) (U:aY) (W:Int) (D:cI 200 bR):Option ((Option (cI 200 bR))×aY×Int):=
 (iZ B).bind λu=>(j8 (λ(x:aY×Event) (q:cI 200 bR)=>kr B G J U W x q) u D).bind (Fw.qg
 (λq=>some (some q,⟨0,0⟩,0))
 (λe=>Empty.elim e)
 (λe=>some ((none:Option (cI 200 bR)),e.1,e.2.1)))
end eC
def eC (B:Trace):Option ((Option (cI 200 bR))×aY×Int):=
 (kH B).bind λu=>
 eC.E1 u B (none:Option (cI 200 bR)) (⟨0,0⟩:aY) 0 (cI.Nc 200 (⟨⟨0,0⟩,⟨0,0⟩⟩:bR))
open eC in
instance K3 (B:Trace):Fc Sy cL (eC B):=Fc.N 157 [enc B] (bU 2 1 B (bU 8 10 (cI.Nc 200 (⟨⟨0,0⟩,⟨0,0⟩⟩:bR)) (UG 0 5 (bN [Pv 1,Pv 2,Pv 3,Pv 4,Pv 10] [Xb 1 B,(2,.box [cv (none:Option (cI 200 bR))]),Xb 3 (⟨0,0⟩:aY),(4,.box [iv 0]),Xb 10 (cI.Nc 200 (⟨⟨0,0⟩,⟨0,0⟩⟩:bR))]) [cv (none:Option (cI 200 bR))] (by simp only[bN,xS,qv,rH,qt,rY,s8,rK,tg,qc,rQ,xF,ta,tf,tv,sX,vv,vt,rG,s_];rfl) (bt 7 λA _=>DB λL C=>AM 4 [Pv 1,Pv 2,Pv 3,Pv 4,Pv 5,(12,.v (.clo 184 [] [.fptr (cells A)]))] (λw=>[Xb 1 B,(2,.box [cv (none:Option (cI 200 bR))]),Xb 3 (⟨0,0⟩:aY),(4,.box [iv 0]),(5,.box [.ptr 10 0]),Xb 10 w]) (λz=>Empty.elim z) (λz=>[Xb 1 B,(2,.box [cv (none:Option (cI 200 bR))]),Xb 3 z.1,(4,.box [iv z.2.1]),(5,.box [.ptr 10 0]),Xb 10 z.2.2]) (yx A L C) (λu w=>UG 2 6 ⟨[Pv 1,Pv 2,Pv 3,Pv 4,Pv 5,(12,.v (.clo 184 [] [.fptr (cells A)])),Cv 13 u.1,Cv 14 u.2],[Xb 1 B,(2,.box [cv (none:Option (cI 200 bR))]),Xb 3 (⟨0,0⟩:aY),(4,.box [iv 0]),(5,.box [.ptr 10 0]),Xb 10 w],[1,2,3,4,5],[],true,0⟩ [iv 0,iv 0] (by simp only[bN,xS,qv,rH,qt,rY,s8,rK,tg,qc,rQ,xF,ta,tf,tv,sX,vv,vt,rG,s_];rfl) (UG 4 7 ⟨[Pv 1,Pv 2,Pv 3,Pv 4,Pv 5,(12,.v (.clo 184 [] [.fptr (cells A)])),Cv 14 u.2,Pv 6],[Xb 1 B,(2,.box [cv (none:Option (cI 200 bR))]),Xb 3 (⟨0,0⟩:aY),(4,.box [iv 0]),(5,.box [.ptr 10 0]),Xb 10 w,Xb 6 u.1],[1,2,3,4,5],[],true,0⟩ [iv 0,iv 0,iv 0,iv 0,.v .bW] (by simp only[bN,xS,qv,rH,qt,rY,s8,rK,tg,qc,rQ,xF,ta,tf,tv,sX,vv,vt,rG,s_];rfl) (qB 0 7 0 u.2 (xX 1 (bn 22 19 (FJ 7 .i64 10 λD O=>QJ 2 1 false 10 w u.2.message 1 D O (.int .i64 D.from_.index) (by rfl) (bn 3 28 aZ (FJ 8 .i64 10 λG Q=>Q8 1 10 w u.2.message 0 G Q (⟨u.1,G.to_⟩:bR) u.1 rfl aZ))) (bn 7 36 (FJ 7 .i64 10 λI S=>QJ 2 1 false 10 w u.2.message 3 I S (.int .i64 I.to_.index) (by rfl) (bn 3 45 aZ (bt 12 λU _=>cG 3 54 (FJ 8 .i64 10 λJ T=>Q8 1 10 w u.2.message 2 J T (⟨J.from_,u.1⟩:bR) u.1 rfl aZ) aZ))) aZ)))))) (λw=>Vk 13 (bN [Pv 2,Pv 3,Pv 4] [(2,.box [.ptr 10 0]),Xb 3 (⟨0,0⟩:aY),(4,.box [iv 0]),Xb 10 w]) [.ptr 10 0,cv (⟨0,0⟩:aY),iv 0] (Rx (d:=10) (x:=w) (vs:=[enc (⟨0,0⟩:aY),.int .i64 0]) (by kernel_rfl)) (by kernel_rfl)) (λx=>Empty.elim x) (λz=>aZ)))))
namespace jf
def J1 (D:cI 200 bR) (B:Sl aY) (J:Sl Event) (G:aY):Option (Sl aY):=
 (idx J (IntKind.wrap .i64 (G.index-1))).bind λu=>
 (a_ (u.kind==2)
 ((cI.at D u.message).bind λw=>
 some (decide (w.to_.index>0)))
 (some false):Option Bool).bind λz=>
 a_ z
 ((cI.at D u.message).bind λA=>
 (jr B (A.to_:aY)).bind λC=>
 some C)
 (some B)
theorem gu (B:cI 200 bR) (D:Sl aY) (J:Sl Event) (G:aY):Le ((J1 B D J G).bind (λr=>some [enc r])) (cg Sy cL (k7 (tr Tx 189)) (mb (tb Tx 189) [1,1,1,1,0,0] [] (bN [Kv 1 B,Pv 5,Ov 7,Cv 8 J] [Xb 5 G,Lb 2007 D]))):=
 bD 7 λu _=>qB 2 9 0 u (bC 8 10 [40] 50 (bn 8 40 (Ll 4 .i64 λw z=>N8 0 2 B u.message 0 w z (N8 0 1 B u.message 2 w z (KW 0 1 false B u.message 3 w z (.int .i64 w.to_.index) (by rfl) (bh 2)))) (bh 10)) λI=>bn 2 50 (Ll 7 .i64 λA C=>N8 0 2 B u.message 0 A C (KW 0 2 true B u.message 2 A C (enc A.to_) (by rfl) (xd 1 2007 59 60 λL _=>aZ))) aZ)
end jf
def jf (D:Trace) (B:cI 200 bR) (x2:aY):Option (Sl aY):=
 (idx D.procs x2.proc).bind λu=>
 a_ (decide (x2.index<(len u.events)))
 (jf.J1 B (Sl.row [⟨x2.proc,IntKind.wrap .i64 (x2.index+1)⟩]:Sl aY) u.events x2)
 (jf.J1 B (Sl.nil:Sl aY) u.events x2)
open jf in
instance Tj (D:Trace) (B:cI 200 bR) (x2:aY):Fc Sy cL (jf D B x2):=Fc.N 189 [enc D,.fptr (cells B),enc x2] (bU 2 3 D (bD 15 λu _=>cm 11 u.events (bn 3 21 (QF 10 29 30 .bW (⟨x2.proc,IntKind.wrap .i64 (x2.index+1)⟩:aY) (gy 5 (gu B (Sl.row [⟨x2.proc,IntKind.wrap .i64 (x2.index+1)⟩]:Sl aY) u.events x2))) (gy 5 (gu B (Sl.nil:Sl aY) u.events x2)))))
namespace iw
def eW (U:Trace) (W:Sl aY) (Y:Int) (aa:Trace) (ab:cI 200 bR) (ad:aY) (ae:Bool) (J:aY) (B:Sl aY) (G:Int) (D:Mo aY Bool):Option (Fw ((Sl aY)×Int×(Mo aY Bool)) ((Sl aY)×(Mo aY Bool)) Unit):=
 a_ (decide (G<Y))
 ((idx W G).bind λu=>
 a_ (Jy u J)
 (some (.r ()))
 (a_ (DE D u false)
 (some (.n (B,IntKind.wrap .i64 (G+1),D)))
 ((jr B (u:aY)).bind λw=>
 some (.n (w,IntKind.wrap .i64 (G+1),rD D u true)))))
 (some (.x (B,D)))
def W3 (D:Sl aY) (B:Trace) (U:Sl aY) (W Y:Int) (aa:Trace) (ab:cI 200 bR) (ad:aY) (ae:Bool) (G:aY) (J:Mo aY Bool):Option (Fw ((Sl aY)×(Mo aY Bool)) Unit Unit):=
 (bV (λq:(Sl aY)×Int×(Mo aY Bool)=>eW B U W aa ab ad ae G q.1 q.2.1 q.2.2) (D,Y,J)).bind (Fw.elim
 (λe=>some (.n (e.1,e.2)))
 (λe=>some (.r ())))
def cq (D G:Trace) (J:cI 200 bR) (Y:aY) (aa:Bool) (U:aY) (B:Sl aY) (W:Mo aY Bool):Option (Fw ((Sl aY)×(Mo aY Bool)) Unit Unit):=
 a_ (decide ((len B)>0))
 ((Sl.oC B (IntKind.wrap .i64 ((len B)-1))).bind λw=>
 (Sl.get B w).bind λz=>
 (oE B none (some (IntKind.wrap .i64 ((len B)-1)))).bind λA=>
 (jf G J z).bind λu=>
 W3 A D u (len u) 0 G J Y aa U W)
 (some (.x ()))
def W2 (G:Sl aY) (B U:Trace) (W:cI 200 bR) (Y:aY) (aa:Bool) (D:aY) (J:Mo aY Bool):Option (Fw Unit Empty aY):=
 (bV (λq:(Sl aY)×(Mo aY Bool)=>cq B U W Y aa D q.1 q.2) (G,J)).bind (Fw.elim
 (λe=>some (.n ()))
 (λe=>some (.r D)))
def kr (B D:Trace) (G:cI 200 bR) (J:aY) (U:Bool) (x:aY×Event):Option (Fw Unit Empty aY):=
 W2 (Sl.row [x.1]:Sl aY) B D G J U x.1 []
def E1 (B D:Trace) (G:cI 200 bR) (J:aY) (U:Bool):Option (aY×Bool):=
 (iZ B).bind λu=>(j8 (λ(x:aY×Event) (q:Unit)=>kr B D G J U x) u ()).bind (Fw.qg
 (λq=>some (⟨0,0⟩,false))
 (λe=>Empty.elim e)
 (λe=>some (e,true)))
end iw
def iw (B:Trace) (D:cI 200 bR):Option (aY×Bool):=
 (kH B).bind λu=>
 iw.E1 u B D (⟨0,0⟩:aY) false
open iw in
instance SG (B:Trace) (D:cI 200 bR):Fc Sy cL (iw B D):=Fc.M 158 [enc B,.fptr (cells D)] (bU 2 2 B (bt 9 λw _=>DB λT O=>AM 4 [Pv 2,Pv 3,Pv 4,Pv 5,(13,.v (.clo 184 [] [.fptr (cells w)]))] (λQ=>[Xb 2 B,(3,.box [cp D]),Xb 4 (⟨0,0⟩:aY),(5,.box [bv false])]) (λG=>Empty.elim G) (λG=>[Xb 2 B,(3,.box [cp D]),Xb 4 G,(5,.box [bv true])]) (yx w T O) (λA Q=>xX 4 (dP 18 (λu=>⟨[Pv 2,Pv 3,Pv 4,Pv 5,Pv 6,(7,.mp 16),Ov 8,(13,.v (.clo 184 [] [.fptr (cells w)]))],[Xb 2 B,(3,.box [cp D]),Xb 4 (⟨0,0⟩:aY),(5,.box [bv false]),Xb 6 A.1,(16,vJ u.2),Lb 2008 u.1],[2,3,4,5],[],true,0⟩) (λI=>(2,⟨[Pv 2,Pv 3,Pv 4,Pv 5,(13,.v (.clo 184 [] [.fptr (cells w)]))],[Xb 2 B,(3,.box [cp D]),Xb 4 (⟨0,0⟩:aY),(5,.box [bv false])],[2,3,4,5],[],true,0⟩)) (λI=>⟨[],[Xb 2 B,(3,.box [cp D]),Xb 4 A.1,(5,.box [bv true])],[2,3,4,5],[],true,0⟩) (λu=>Kz 6 2008 u.1 (bn 3 21 (Kz 8 2008 u.1 (tI .i64 1 2008 λU _=>BU 0 2008 0 2 true (λJ=>.agg [.int .i64 J.proc,.int .i64 J.index]) λJ _=>Kz 8 2008 u.1 (VQ 1 false true 2008 32 [.int .i64 (IntKind.wrap .i64 ((len u.1)-1))] λW _=>bt 8 λL _=>cm 0 L (dP 6 (λz=>⟨[Pv 2,Pv 3,Pv 4,Pv 5,Pv 6,(7,.mp 16),Ov 8,(13,.v (.clo 184 [] [.fptr (cells w)])),Cv 36 L,Iv 37 (len L),Iv 38 z.2.1],[Xb 2 B,(3,.box [cp D]),Xb 4 (⟨0,0⟩:aY),(5,.box [bv false]),Xb 6 A.1,(16,vJ z.2.2),Lb 2008 z.1],[2,3,4,5],[],true,0⟩) (λC=>(4,⟨[Pv 2,Pv 3,Pv 4,Pv 5,Pv 6,(7,.mp 16),Ov 8,(13,.v (.clo 184 [] [.fptr (cells w)]))],[Xb 2 B,(3,.box [cp D]),Xb 4 (⟨0,0⟩:aY),(5,.box [bv false]),Xb 6 A.1,(16,vJ C.2),Lb 2008 C.1],[2,3,4,5],[],true,0⟩)) (λC=>⟨[],[Xb 2 B,(3,.box [cp D]),Xb 4 A.1,(5,.box [bv true])],[2,3,4,5],[],true,0⟩) (λz=>bn 8 39 (bD 7 λS _=>bn 13 44 aZ (Vx 7 16 z.2.2 S false (cG 3 49 aZ (Wi 5 16 z.2.2 S true (xd 6 2008 54 55 λX _=>aZ))))) aZ) (λC=>aZ) (λC=>aZ))))) aZ)) (λI=>aZ) (λI=>aZ))) (λQ=>aZ) (λx=>Empty.elim x) (λG=>aZ)))
namespace gR
def Jm (B D:Trace) (G:aY) (J:Int) (x:aY×Event):Option (Fw Unit Empty (aY×Int)):=
 (dB D x.1 x.2).bind λu=>
 a_ (u==0)
 (some (.n ()))
 (some (.r (x.1,u)))
def E2 (B D:Trace) (G:aY) (J:Int):Option (aY×Int):=
 (iZ B).bind λz=>(j8 (λ(x:aY×Event) (q:Unit)=>Jm B D G J x) z ()).bind (Fw.qg
 (λq=>(eC D).bind λu=>
 a_ (u.2.2==0)
 ((u.1).bind λA=>
 (iw D A).bind λw=>
 a_ w.2
 (some (w.1,10))
 (some (⟨0,0⟩,0)))
 (some (u.2.1,u.2.2)))
 (λe=>Empty.elim e)
 (λe=>some (e.1,e.2)))
def bz (D:Int) (G:Trace) (J:aY) (U:Int) (B:Int):Option (Fw Int Unit (aY×Int)):=
 a_ (decide (B<D))
 ((eB G B).bind λu=>
 a_ (u==0)
 (some (.n (IntKind.wrap .i64 (B+1))))
 (some (.r ((⟨B,0⟩:aY),u))))
 (some (.x ()))
def W1 (J U:Int) (B:Trace) (D:aY) (G:Int):Option (aY×Int):=
 (bV (λq:Int=>bz J B D G q) U).bind (Fw.elim
 (λe=>(kH B).bind λu=>
 gR.E2 u B D G)
 (λe=>some (e.1,e.2)))
end gR
def gR (B:Trace):Option (aY×Int):=
 (mS (len B.procs) 1 8).bind λu=>
 a_ u
 (gR.W1 (len B.procs) 0 B (⟨0,0⟩:aY) 0)
 (some (⟨0,0⟩,1))
open gR in
instance Tm (B:Trace):Fc Sy cL (gR B):=Fc.M 117 [enc B] (bU 2 1 B (cm 9 B.procs (bt 0 λL _=>cG 3 18 (cm 8 B.procs (dP 5 (λA=>(bN [Pv 1,Pv 2,Pv 3,Iv 22 (len B.procs),Iv 23 A] [Xb 1 B,Xb 2 (⟨0,0⟩:aY),(3,.box [iv 0])])) (λu=>(0,(bN [Pv 1,Pv 2,Pv 3] [Xb 1 B,Xb 2 (⟨0,0⟩:aY),(3,.box [iv 0])]))) (λu=>(bN [Pv 2,Pv 3] [Xb 2 u.1,(3,.box [iv u.2])])) (λA=>bn 7 24 (bt 15 λO _=>cG 9 30 aZ aZ) aZ) (λu=>bt 6 λz _=>DB λI C=>AM 4 [Pv 1,Pv 2,Pv 3,(36,.v (.clo 184 [] [.fptr (cells z)]))] (λD=>[Xb 1 B,Xb 2 (⟨0,0⟩:aY),(3,.box [iv 0])]) (λw=>Empty.elim w) (λw=>[Xb 1 B,Xb 2 w.1,(3,.box [iv w.2])]) (yx z I C) (λJ D=>qB 8 7 0 J.2 (xX 1 (bt 7 λQ _=>cG 9 44 aZ aZ))) (λD=>bt 5 λG _=>cG 17 54 (Wu 8 (λS=>(bN [Pv 2,Pv 3,(36,.v (.clo 184 [] [.fptr (cells z)])),Pv 10,Iv 11 G.2.2,Bv 54 false,Cv 58 B,Cv 59 S] [Xb 1 B,Xb 2 (⟨0,0⟩:aY),(3,.box [iv 0]),Xb 10 G.2.1])) λT _=>bt 0 λU _=>bn 13 63 aZ aZ) aZ) (λx=>Empty.elim x) (λw=>aZ)) (λu=>aZ))) aZ)))
def eA (B:Trace):Option Bool:=
 (gR B).bind λu=>
 some (u.2==0)
instance TC (B:Trace):Fc Sy cL (eA B):=Fc.M 82 [enc B] (bU 2 1 B (bt 6 λu _=>aZ))
def tD (B:Int):Option Bool:=
 (a_ (B==2)
 (some true)
 (some (B==3)):Option Bool).bind λu=>
 (a_ u
 (some true)
 (some (B==4)):Option Bool).bind λw=>
 some w
instance PL (B:Int):Fc Sy cL (tD B):=Fc.M 159 [.int .i64 B] (bC 10 3 [5] 8 (bn 10 5 (bh 3) (bh 3)) λu=>bC 1 3 [0,9] 12 (bn 1 9 (bh 3) (bh 3)) λw=>aZ)
def jX (B:Pred):Option Bool:=
 (a_ (decide (B.kind<1))
 (some true)
 (some (decide (B.kind>=22))):Option Bool).bind λz=>
 (a_ z
 (some true)
 ((cI.at wU B.kind).bind λA=>
 some (!((len B.l)==A))):Option Bool).bind λC=>
 (a_ C
 (some true)
 (some (decide (B.n<0))):Option Bool).bind λD=>
 (a_ D
 (some true)
 (some (decide (B.n>1125899906842624))):Option Bool).bind λG=>
 (a_ G
 (some true)
 ((a_ (B.n==0)
 (some false)
 (some (!(B.kind==1))):Option Bool).bind λI=>
 some I):Option Bool).bind λJ=>
 a_ J
 (some false)
 ((tD B.kind).bind λL=>
 (a_ L
 (some true)
 ((a_ (B.proc==0)
 (some (B.peer==0))
 (some false):Option Bool).bind λO=>
 (a_ O
 (some (ByteArray.toList B.name==ByteArray.toList ByteArray.empty))
 (some false):Option Bool).bind λu=>
 some u):Option Bool).bind λw=>
 some w)
instance Qt (B:Pred):Fc Sy cL (jX B):=Fc.M 119 [enc B] (bU 2 1 B (bC 10 4 [6] 10 (bn 10 6 (bh 4) (bh 4)) λC=>bC 1 9 [11] 20 (bn 1 11 (bh 9) (c8 2 13 (Pred.dX B.l) (cm 0 B.l (Ll 2 .i64 λu w=>KW 0 1 false wU B.kind 0 u w (.int .i64 u) (by rfl) (bh 2))))) λD=>bC 1 4 [21] 25 (bn 1 21 (bh 4) (bh 4)) λG=>bC 1 4 [26] 30 (bn 1 26 (bh 4) (bh 4)) λI=>bC 1 9 [31] 40 (bn 1 31 (bh 9) (bC 4 4 [35] 39 (cG 4 35 (bh 4) (bh 4)) λJ=>bh 1)) λL=>bn 2 40 aZ (bt 7 λO _=>bC 1 14 [1,44] 58 (bn 1 44 (bh 14) (bC 4 4 [48] 52 (bn 4 48 (bh 4) (bh 4)) λQ=>bC 1 4 [1,53] 57 (bn 1 53 (bh 4) (bh 4)) λz=>bh 1)) λA=>aZ)))
def g_ (D:Pred) (G B:Int) (r:(Pred×Int×Int)->Option (Bool×Int)):Option (Bool×Int):=
 (r (D,IntKind.wrap .i64 (G+1),B)).bind λu=>
 some ((!u.1),u.2)
abbrev wj (r:(Pred×Int×Int)->Option (Bool×Int)) (hr:vY Sy cL 118 (λz:Pred×Int×Int=>[cv z.1,iv z.2.1,.ptr 9004 0,.ptr 9003 0]) (λz:Pred×Int×Int=>[(9004,bx (z.2.2:Int)),(9003,.box [.clo 118 [] [.ptr 9004 0,.ptr 9003 0]])]) (λr:Bool×Int=>[.bool r.1]) (λ(z:Pred×Int×Int) (r:Bool×Int)=>[(9004,bx (r.2:Int)),(9003,.box [.clo 118 [] [.ptr 9004 0,.ptr 9003 0]])]) r) (D:Pred) (G B:Int):ng Sy cL (g_ D G B r):=ng.mk' 121 [cv D,.ptr 9003 0,.v (.fptr (cells G))] [(9003,.box [.clo 118 [] [.ptr 9004 0,.ptr 9003 0]]),(9004,bx (B:Int))] (λr:Bool×Int=>[.bool r.1]) (λr:Bool×Int=>[(9003,.box [.clo 118 [] [.ptr 9004 0,.ptr 9003 0]]),(9004,bx (r.2:Int))]) (bU 2 3 D (uw 9 (ng.of (D,IntKind.wrap .i64 (G+1),B) hr) λu _=>aZ))
section
variable {σ:Type} {gf:FuncId} {ex:List SV} {os:σ->dh} {p:Pred->σ->Option (Bool×σ)} (h:wz Sy cL (.clo gf [] ex) gf ex os p) (s0:Sl Pred) (x:σ)
abbrev uC:ng Sy cL (ON s0 p x):=ng.mk' 160 [cv s0,(.clo gf [] ex)] (os x) (λr=>[.int .i64 r.1]) (λr=>os r.2)
 (cm 9 s0 (dP 5 (λq=>⟨[Cv 0 s0,(1,(.clo gf [] ex)),Iv 7 (len s0),Iv 8 q.1],os q.2,(os x).map (·.1),[],true,0⟩) (λe=>(0,⟨[],os e,(os x).map (·.1),[],true,0⟩)) (λe=>⟨[Iv 4 e.1],os e.2,(os x).map (·.1),[],true,0⟩)
  (λq=>bn 7 9 (bD 16 λy _=>MB 1 h y q.2 λr _=>bn 2 16 aZ aZ) aZ) (λe=>FP 9 h [.int .i64 (-1)] rfl) (λe=>Le.of_eq (FW h (ys:=[.int .i64 e.1]) (by kernel_rfl) rfl)))) (hp:=λr=>h.wi x r.2)
abbrev uI:ng Sy cL (yz s0 p x):=ng.mk' 120 [cv s0,(.clo gf [] ex)] (os x) (λr=>[.bool r.1]) (λr=>os r.2)
 (JS 9 (uC h s0 x) (h.hd x (enc s0)) (λr=>h.put x r.2) λy _=>FP 5 h [.bool (decide (y.1>=0))] rfl) (hp:=λr=>h.wi x r.2)
end
section
variable {σ:Type} {gf:FuncId} {ex:List V} {os:σ->dh} {p:Pred->σ->Option (Bool×σ)} (h:wz Sy cL (.v (.clo gf [] ex)) gf (ex.map .v) os p) (s0:Sl Pred) (x:σ)
abbrev uA:ng Sy cL (ON s0 p x):=ng.mk' 160 [cv s0,(.v (.clo gf [] ex))] (os x) (λr=>[.int .i64 r.1]) (λr=>os r.2)
 (cm 9 s0 (dP 5 (λq=>⟨[Cv 0 s0,(1,(.v (.clo gf [] ex))),Iv 7 (len s0),Iv 8 q.1],os q.2,(os x).map (·.1),[],true,0⟩) (λe=>(0,⟨[],os e,(os x).map (·.1),[],true,0⟩)) (λe=>⟨[Iv 4 e.1],os e.2,(os x).map (·.1),[],true,0⟩)
  (λq=>bn 7 9 (bD 16 λy _=>MB 1 h y q.2 λr _=>bn 2 16 aZ aZ) aZ) (λe=>FP 9 h [.int .i64 (-1)] rfl) (λe=>Le.of_eq (FW h (ys:=[.int .i64 e.1]) (by kernel_rfl) rfl)))) (hp:=λr=>h.wi x r.2)
abbrev jk:ng Sy cL (yz s0 p x):=ng.mk' 120 [cv s0,(.v (.clo gf [] ex))] (os x) (λr=>[.bool r.1]) (λr=>os r.2)
 (JS 9 (uA h s0 x) (h.hd x (enc s0)) (λr=>h.put x r.2) λy _=>FP 5 h [.bool (decide (y.1>=0))] rfl) (hp:=λr=>h.wi x r.2)
end
def eo (G:Pred) (B D:Int) (r:(Pred×Int×Int)->Option (Bool×Int)):Option (Bool×Int):=
 (a_ (decide ((IntKind.wrap .i64 (D-1))<0))
 (some true)
 (some (decide (B>20))):Option Bool).bind λw=>
 (a_ w
 (some true)
 ((jX G).bind λz=>
 some (!z)):Option Bool).bind λA=>
 a_ A
 (some (false,IntKind.wrap .i64 (D-1)))
 ((yz G.l (λx s=>g_ x B s r) (IntKind.wrap .i64 (D-1))).bind λu=>
 some ((!u.1),u.2))
theorem v_ (r:(Pred×Int×Int)->Option (Bool×Int)) (hr:vY Sy cL 118 (λz:Pred×Int×Int=>[cv z.1,iv z.2.1,.ptr 9004 0,.ptr 9003 0]) (λz:Pred×Int×Int=>[(9004,bx (z.2.2:Int)),(9003,.box [.clo 118 [] [.ptr 9004 0,.ptr 9003 0]])]) (λr:Bool×Int=>[.bool r.1]) (λ(z:Pred×Int×Int) (r:Bool×Int)=>[(9004,bx (r.2:Int)),(9003,.box [.clo 118 [] [.ptr 9004 0,.ptr 9003 0]])]) r) (D:Pred) (B G:Int):∀J,eo D B G r=some J->∃m',cL 118 [cv D,iv B,.ptr 9004 0,.ptr 9003 0] [(9004,bx (G:Int)),(9003,.box [.clo 118 [] [.ptr 9004 0,.ptr 9003 0]])]=some (((λr:Bool×Int=>[.bool r.1]) J).map .v,m')/\∀U,kq m' ([(9004,bx (G:Int)),(9003,.box [.clo 118 [] [.ptr 9004 0,.ptr 9003 0]])].map (·.1)) U=some (mm U ((λr:Bool×Int=>[(9004,bx (r.2:Int)),(9003,.box [.clo 118 [] [.ptr 9004 0,.ptr 9003 0]])]) J)):=
 (ng.mk' 118 [cv D,iv B,.ptr 9004 0,.ptr 9003 0] [(9004,bx (G:Int)),(9003,.box [.clo 118 [] [.ptr 9004 0,.ptr 9003 0]])] (λr:Bool×Int=>[.bool r.1]) (λr:Bool×Int=>[(9004,bx (r.2:Int)),(9003,.box [.clo 118 [] [.ptr 9004 0,.ptr 9003 0]])]) (bU 2 4 D (bC 17 3 [11] 14 (bn 17 11 (bh 3) (bh 3)) λu=>bC 1 4 [15] 19 (bn 1 15 (bh 4) (bt 1 λw _=>bh 2)) λA=>bn 2 19 aZ (c8 7 21 (Pred.dX D.l) (uw 2 (uI (wz.WO (σ:=Int) (g:=121) (e:=[.ptr 9003 0,cp B]) (os:=λs=>[(9003,.box [.clo 118 [] [.ptr 9004 0,.ptr 9003 0]]),(9004,bx (s:Int))]) (p:=(λx s=>g_ x B s r)) (λx s=>wj r hr x B s)) D.l (IntKind.wrap .i64 (G-1))) λC _=>aZ)))):ng Sy cL (eo D B G r)).h
def pT (D:Pred) (B G:Int):Option (Bool×Int):=cV (λr (z:Pred×Int×Int)=>eo z.1 z.2.1 z.2.2 r) 100000 (D,B,G)
abbrev yF (D:Pred) (B G:Int):ng Sy cL (pT D B G):=ng.of (D,B,G) (vY.fix (A:=λz:Pred×Int×Int=>[cv z.1,iv z.2.1,.ptr 9004 0,.ptr 9003 0]) (O:=λz:Pred×Int×Int=>[(9004,bx (z.2.2:Int)),(9003,.box [.clo 118 [] [.ptr 9004 0,.ptr 9003 0]])]) (E:=λr:Bool×Int=>[.bool r.1]) (M:=λ(z:Pred×Int×Int) (r:Bool×Int)=>[(9004,bx (r.2:Int)),(9003,.box [.clo 118 [] [.ptr 9004 0,.ptr 9003 0]])]) (b:=(λr (z:Pred×Int×Int)=>eo z.1 z.2.1 z.2.2 r)) (by kernel_rfl) (by kernel_rfl) (by kernel_rfl) (λr hr z=>v_ r hr z.1 z.2.1 z.2.2) 100000)
def mG (B:Pred):Option Bool:=
 (pT B 1 200).bind λu=>
 some u.1
instance NW (B:Pred):Fc Sy cL (mG B):=Fc.M 83 [enc B] (bU 2 1 B (uw 26 (yF B 1 200) λu _=>aZ))
def jS (B:Trace) (p1:Int):Option Bool:=
 (a_ (decide (p1>=0))
 (some (decide (p1<(len B.procs))))
 (some false):Option Bool).bind λu=>
 some u
instance NT (B:Trace) (p1:Int):Fc Sy cL (jS B p1):=Fc.M 123 [enc B,.int .i64 p1] (bU 2 2 B (bC 8 6 [1,2,7] 13 (bn 8 7 (cm 3 B.procs (bh 2)) (bh 6)) λu=>aZ))
def nr (B:Var) (D:ByteArray):Option Bool:=
 some (ByteArray.toList B.name==ByteArray.toList D)
instance LV (B:Var) (D:ByteArray):Fc Sy cL (nr B D):=Fc.M 162 [enc B,.fptr (cells D)] (aZ)
def qd (D:Trace) (p1:Int) (B:ByteArray):Option Bool:=
 (idx D.procs p1).bind λu=>
 (gC u.vars (λz=>nr z B)).bind λw=>
 some w
instance O9 (D:Trace) (p1:Int) (B:ByteArray):Fc Sy cL (qd D p1 B):=Fc.M 124 [enc D,.int .i64 p1,.str B] (bU 2 3 D (bD 9 λu _=>b7 (F:=o9 162 [.fptr (cells B)] (λz=>nr z B) lJ.sV u.vars) 3 λw _=>aZ))
def jM (B:Pred) (D:Trace):Option Bool:=
 a_ (B.kind==2)
 ((jS D B.proc).bind λA=>
 (a_ A
 (some (B.peer==0))
 (some false):Option Bool).bind λC=>
 (a_ C
 ((qd D B.proc B.name).bind λG=>
 some G)
 (some false):Option Bool).bind λI=>
 some I)
 (a_ (B.kind==3)
 ((jS D B.proc).bind λJ=>
 (a_ J
 (some (B.peer==0))
 (some false):Option Bool).bind λL=>
 (a_ L
 (some (ByteArray.toList B.name==ByteArray.toList ByteArray.empty))
 (some false):Option Bool).bind λO=>
 some O)
 (a_ (B.kind==4)
 ((jS D B.proc).bind λQ=>
 (a_ Q
 ((jS D B.peer).bind λS=>
 some S)
 (some false):Option Bool).bind λu=>
 (a_ u
 (some (!(B.proc==B.peer)))
 (some false):Option Bool).bind λw=>
 (a_ w
 (some (ByteArray.toList B.name==ByteArray.toList ByteArray.empty))
 (some false):Option Bool).bind λz=>
 some z)
 (some true)))
instance IE (B:Pred) (D:Trace):Fc Sy cL (jM B D):=Fc.M 122 [enc B,.fptr (cells D)] (bU 2 2 B (bn 17 6 (bt 6 λA _=>bC 1 4 [12] 16 (bn 1 12 (bh 4) (bh 4)) λC=>bC 1 7 [1,2,17] 24 (bn 1 17 (bt 5 λG _=>bh 1) (bh 7)) λI=>aZ) (bn 7 25 (bt 6 λJ _=>bC 1 4 [31] 35 (bn 1 31 (bh 4) (bh 4)) λL=>bC 1 4 [2,36] 40 (bn 1 36 (bh 4) (bh 4)) λO=>aZ) (bn 7 41 (bt 6 λQ _=>bC 1 5 [1,47] 52 (bn 1 47 (bt 3 λS _=>bh 1) (bh 5)) λu=>bC 1 6 [53] 59 (bn 1 53 (bh 6) (bh 6)) λw=>bC 1 4 [2,60] 64 (bn 1 60 (bh 4) (bh 4)) λz=>aZ) aZ))))
def rC (B:Pred) (p1:Pred->Option Bool) (r:Pred->Option Bool):Option Bool:=
 (r B).bind λu=>
 some (!u)
abbrev zB (g1:FuncId) (e1:List V) (p1:Pred->Option Bool) (h1:lJ Sy cL g1 [] e1 (λz:Pred=>[enc z]) (λr:Bool=>[.bool r]) p1 true) (r:Pred->Option Bool) (hr:dW Sy cL 103 (λz:Pred=>[enc z,.clo g1 [] e1]) (λr:Bool=>[.bool r]) r true) (B:Pred):Fc Sy cL (rC B p1 r):=Fc.M 146 [enc B,.fptr [.clo g1 [] e1]] (bU 2 2 B (bt (F:=Fc.of B hr) 7 λu _=>aZ))
def iT (D:Pred) (p1:Pred->Option Bool) (r:Pred->Option Bool):Option Bool:=
 (p1 D).bind λw=>
 (a_ w
 ((yz D.l (λx u=>((λz=>rC z p1 r) x).map λb=>(b,u)) ()).bind λA=>
 some (!A.1))
 (some false):Option Bool).bind λB=>
 some B
theorem Ae (g1:FuncId) (e1:List V) (p1:Pred->Option Bool) (h1:lJ Sy cL g1 [] e1 (λz:Pred=>[enc z]) (λr:Bool=>[.bool r]) p1 true) (r:Pred->Option Bool) (hr:dW Sy cL 103 (λz:Pred=>[enc z,.clo g1 [] e1]) (λr:Bool=>[.bool r]) r true) (B:Pred):Le ((iT B p1 r).bind λr=>some [.bool r]) (fE cL 103 [enc B,.clo g1 [] e1]):=
 (Fc.M 103 [enc B,.clo g1 [] e1] (bU 2 2 B (yu 8 h1.f B λw _=>AS 1 6 [] (λu=>(bN [Bv 14 u] [Xb 2 B])) (bn 1 8 (c8 2 10 (Pred.dX B.l) (uw 2 (jk (wz.QI (g:=146) (e:=[.fptr [.clo g1 [] e1]]) (p:=(λz=>rC z p1 r)) (lJ.sV (F:=λz=>zB g1 e1 p1 h1 r hr z))) B.l ()) λA _=>bh 2)) (bh 7)) λu=>aZ)):Fc Sy cL (iT B p1 r)).F.h ()
def oG (B:Pred) (p1:Pred->Option Bool):Option Bool:=cV (λr (z:Pred)=>iT z p1 r) 100000 B
abbrev wG (g1:FuncId) (e1:List V) (p1:Pred->Option Bool) (h1:lJ Sy cL g1 [] e1 (λz:Pred=>[enc z]) (λr:Bool=>[.bool r]) p1 true) (B:Pred):Fc Sy cL (oG B p1):=Fc.of B (dW.fix (A:=λz:Pred=>[enc z,.clo g1 [] e1]) (E:=λr:Bool=>[.bool r]) (sc:=true) (b:=(λr (z:Pred)=>iT z p1 r)) (by kernel_rfl) (λ_ _=>rfl) (λr hr z=>Ae g1 e1 p1 h1 r hr z) 100000)
def nq (B:Trace) (p1:Pred):Option Bool:=
 (oG p1 (λz=>jM z B)).bind λu=>
 some u
instance LO (B:Trace) (p1:Pred):Fc Sy cL (nq B p1):=Fc.M 84 [enc B,enc p1] (bU 2 2 B (bU 0 3 p1 (b7 (F:=wG 122 [.fptr (cells B)] (λz=>jM z B) lJ.sV p1) 7 λu _=>aZ)))
def kQ (B:Int):Option Int:=
 a_ (decide (B<=8))
 (some 1)
 (some 2)
instance NV (B:Int):Fc Sy cL (kQ B):=Fc.M 56 [.int .i64 B] (bn 12 4 aZ aZ)
def qX (B:Int):Option Int:=
 a_ (decide (B<=12))
 (some 1)
 (some 2)
instance QC (B:Int):Fc Sy cL (qX B):=Fc.M 127 [.int .i64 B] (bn 12 4 aZ aZ)
def lu (B D:Pred):Option Bool:=
 (kQ B.kind).bind λu=>
 (qX D.kind).bind λw=>
 some (!(u==w))
instance Iy (B D:Pred):Fc Sy cL (lu B D):=Fc.M 126 [enc B,.fptr (cells D)] (bU 2 2 B (b7 7 λu _=>b7 2 λw _=>aZ))
def iS (B:Pred):Option Bool:=
 (yz B.l (λx u=>((λz=>lu z B) x).map λb=>(b,u)) ()).bind λw=>
 some (!w.1)
instance LP (B:Pred):Fc Sy cL (iS B):=Fc.M 125 [enc B] (bU 2 1 B (c8 7 4 (Pred.dX B.l) (uw 2 (jk (wz.QI (g:=126) (e:=[.fptr (cells B)]) (p:=(λz=>lu z B)) lJ.sV) B.l ()) λu _=>aZ)))
def nM (B:Pred):Option Bool:=
 (oG B (λz=>iS z)).bind λu=>
 some u
instance N2 (B:Pred):Fc Sy cL (nM B):=Fc.M 85 [enc B] (bU 2 1 B (bt (F:=wG 125 [] (λz=>iS z) lJ.sV B) 6 λu _=>aZ))
namespace eM
def cq (D:Sl Int) (B i4:Int):Option (Fw (Int×Int) Int Empty):=
 a_ (decide (i4<(len D)))
 ((idx D i4).bind λu=>
 some (.n ((if u<B then u else B),IntKind.wrap .i64 (i4+1))))
 (some (.x B))
def W2 (B:Sl Int) (D i4:Int):Option Int:=
 (bV (λq:Int×Int=>cq B q.1 q.2) (D,i4)).bind (Fw.elim
 (λe=>some e)
 (λe=>Empty.elim e))
def J1 (B:Sl Int):Option Int:=
 (idx B 0).bind λu=>
 eM.W2 B u 1
end eM
def eM (B:Sl Int):Option Int:=
 a_ (decide ((len B)<1))
 (none)
 (eM.J1 B)
open eM in
instance P6 (B:Sl Int):Fc Sy cL (eM B):=Fc.M 131 [enc B] (cm 9 B (bn 3 7 ((Le.none _)) (o5 4 (bD 3 λz _=>jN 12 (λu=>(bN [Cv 0 B,Iv 3 u.1,Iv 4 u.2] [])) (λw=>(0,(bN [Iv 3 w] []))) (λu=>cm 6 B (bn 3 15 (bD 9 λA _=>aZ) aZ)) (λw=>aZ)))))
namespace eF
def cq (D:Sl Int) (B i4:Int):Option (Fw (Int×Int) Int Empty):=
 a_ (decide (i4<(len D)))
 ((idx D i4).bind λu=>
 some (.n ((if u>B then u else B),IntKind.wrap .i64 (i4+1))))
 (some (.x B))
def W2 (B:Sl Int) (D i4:Int):Option Int:=
 (bV (λq:Int×Int=>cq B q.1 q.2) (D,i4)).bind (Fw.elim
 (λe=>some e)
 (λe=>Empty.elim e))
def J1 (B:Sl Int):Option Int:=
 (idx B 0).bind λu=>
 eF.W2 B u 1
end eF
def eF (B:Sl Int):Option Int:=
 a_ (decide ((len B)<1))
 (none)
 (eF.J1 B)
open eF in
instance N7 (B:Sl Int):Fc Sy cL (eF B):=Fc.M 132 [enc B] (cm 9 B (bn 3 7 ((Le.none _)) (o5 4 (bD 3 λz _=>jN 12 (λu=>(bN [Cv 0 B,Iv 3 u.1,Iv 4 u.2] [])) (λw=>(0,(bN [Iv 3 w] []))) (λu=>cm 6 B (bn 3 15 (bD 9 λA _=>aZ) aZ)) (λw=>aZ)))))
def kV (B:Sl Int):Option bP:=
 (eM B).bind λu=>
 (eF B).bind λw=>
 some ⟨u,w⟩
instance QG (B:Sl Int):Fc Sy cL (kV B):=Fc.M 89 [enc B] (bt 8 λu _=>bt 1 λw _=>aZ)
namespace eR
def bz (U:Int) (D:Sl Event) (G:Int) (J B:Int):Option (Fw (Int×Int) Int Empty):=
 a_ (decide (B<G))
 ((idx D B).bind λu=>
 (a_ (u.kind==2)
 (some (u.peer==U))
 (some false):Option Bool).bind λw=>
 a_ w
 (some (.n (IntKind.wrap .i64 (J+1),IntKind.wrap .i64 (B+1))))
 (some (.n (J,IntKind.wrap .i64 (B+1)))))
 (some (.x J))
def W1 (J U:Int) (B:Sl Event) (D G:Int):Option Int:=
 (bV (λq:Int×Int=>bz J B D q.1 q.2) (U,G)).bind (Fw.elim
 (λe=>some e)
 (λe=>Empty.elim e))
end eR
def eR (B:Trace) (p1 D:Int):Option Int:=
 (idx B.procs p1).bind λu=>
 eR.W1 D 0 u.events (len u.events) 0
open eR in
instance LR (B:Trace) (p1 D:Int):Fc Sy cL (eR B p1 D):=Fc.M 129 [enc B,.int .i64 p1,.int .i64 D] (bU 2 3 B (bD 14 λu _=>cm 2 u.events (jN 5 (λw=>(bN [Iv 2 D,Iv 7 w.1,Cv 15 u.events,Iv 16 (len u.events),Iv 17 w.2] [])) (λz=>(0,(bN [Iv 7 z] []))) (λw=>bn 7 18 (bD 7 λA _=>qB 2 9 0 A (bC 8 5 [9,24] 29 (bn 8 24 (bh 5) (bh 5)) λC=>bn 2 29 aZ aZ)) aZ) (λz=>aZ))))
def nh (B:Var) (D:ByteArray):Option Bool:=
 some (ByteArray.toList B.name==ByteArray.toList D)
instance LQ (B:Var) (D:ByteArray):Fc Sy cL (nh B D):=Fc.M 201 [enc B,.fptr (cells D)] (aZ)
def tC (D:bQ) (B:ByteArray):Option Int:=
 (eV D.vars (λz=>nh z B)).bind λu=>
 some u
instance Pq (D:bQ) (B:ByteArray):Fc Sy cL (tC D B):=Fc.M 190 [enc D,.str B] (bU 2 2 D (b7 (F:=mT 201 [.fptr (cells B)] (λz=>nh z B) lJ.sV D.vars) 9 λu _=>aZ))
def qV (D:Trace) (p1:Int) (B:ByteArray):Option (Int×Int):=
 (eA D).bind λw=>
 a_ w
 ((a_ (decide (p1<0))
 (some true)
 (some (decide (p1>=(len D.procs)))):Option Bool).bind λz=>
 a_ z
 (some (0,2))
 ((idx D.procs p1).bind λA=>
 (tC A B).bind λu=>
 a_ (decide (u<0))
 (some (0,13))
 (some (u,0))))
 (some (0,1))
instance Qs (D:Trace) (p1:Int) (B:ByteArray):Fc Sy cL (qV D p1 B):=Fc.M 163 [enc D,.int .i64 p1,.str B] (bU 2 3 D (bt 9 λu _=>cG 4 9 (bC 6 6 [16] 22 (bn 6 16 (bh 6) (cm 3 D.procs (bh 2))) λw=>bn 3 13 aZ (bD 9 λz _=>bt 2 λA _=>bn 10 31 aZ aZ)) aZ))
def gG (s0:Sl Int):Option (Sl Int):=
 (Sl.isNil s0).bind λu=>
 a_ u
 (some Sl.nil)
 ((yR (Sl.row []:Sl Int) s0).bind λw=>
 some w)
theorem nJ:B8 Sy cL 168 (λs0:Sl Int=>[enc s0]) (λz=>gG z):=B8.mk' (qC (Tx 168)) (λs0=>T5 9 λu _=>bn 2 4 aZ (My 7 5 7 λw _=>aZ))
def mK (B:bQ):Option bQ:=
 some B
instance NU (B:bQ):Fc Sy cL (mK B):=Fc.NE (λr:bQ=>[(.clo 179 [] [.fptr (cells r)])]) 145 [enc B] (bU 2 1 B aZ)
namespace fG
def kr (D:bQ) (G:Int) (x:Int×(Sl Int)) (B:Sl Int):Option (Fw (Sl Int) Empty Empty):=
 (idx x.2 G).bind λu=>
 (jr B (u:Int)).bind λw=>
 some (.n w)
def E1 (B:bQ) (G:Int) (D:Sl Int):Option (Sl Int):=
 (jd B).bind λu=>(j8 (λ(x:Int×(Sl Int)) (q:Sl Int)=>kr B G x q) u D).bind (Fw.qg
 (λq=>some q)
 (λe=>Empty.elim e)
 (λe=>Empty.elim e))
end fG
def fG (B:bQ) (i1:Int):Option (Sl Int):=
 (mK B).bind λu=>
 fG.E1 u i1 (Sl.nil:Sl Int)
open fG in
instance NS (B:bQ) (i1:Int):Fc Sy cL (fG B i1):=Fc.N 164 [enc B,.int .i64 i1] (bU 2 2 B (bt 13 λz _=>DB λC A=>AM 5 [Pv 3,Pv 5,(9,.v (.clo 179 [] [.fptr (cells z)]))] (λu=>[(3,.box [iv i1]),(5,.box [.own 4100]),Lb 4100 u]) (λw=>Empty.elim w) (λw=>Empty.elim w) (ER z C A) (λD u=>xX 3 (bD 7 λG _=>xd 2 4100 17 18 λI _=>aZ)) (λu=>aZ) (λx=>Empty.elim x) (λx=>Empty.elim x)))
def qh (D:Trace) (p1:Int) (B:ByteArray):Option (Int×Int×Int):=
 (qV D p1 B).bind λu=>
 a_ (u.2==0)
 ((idx D.procs p1).bind λz=>
 (fG z u.1).bind λw=>
 (eM w).bind λA=>
 (eF w).bind λC=>
 some (A,C,0))
 (some (0,0,u.2))
instance O2 (D:Trace) (p1:Int) (B:ByteArray):Fc Sy cL (qh D p1 B):=Fc.M 130 [enc D,.int .i64 p1,.str B] (bU 2 3 D (bt 10 λu _=>cG 14 19 (bD 8 λw _=>bt 2 λz _=>bt 6 λA _=>bt 1 λC _=>aZ) aZ))
def kX (B:Trace) (p1:Pred):Option bP:=
 a_ (p1.kind==1)
 ((kV (Sl.row [p1.n]:Sl Int)).bind λw=>
 some w)
 (a_ (p1.kind==3)
 ((idx B.procs p1.proc).bind λz=>
 some ⟨0,len z.events⟩)
 (a_ (p1.kind==4)
 ((eR B p1.proc p1.peer).bind λA=>
 some ⟨0,A⟩)
 ((qh B p1.proc p1.name).bind λu=>
 some ⟨u.1,u.2.1⟩)))
instance Qn (B:Trace) (p1:Pred):Fc Sy cL (kX B p1):=Fc.M 87 [enc B,enc p1] (bU 2 2 B (bU 0 3 p1 (bn 17 10 (b7 6 λw _=>aZ) (bn 7 16 (bD 7 λu _=>cm 2 u.events aZ) (bn 7 27 (bt 8 λz _=>aZ) (bt 11 λA _=>aZ))))))
def iL (B:bP):Option Bool:=
 (a_ (decide (B.low<(-1125899906842624)))
 (some true)
 (some (decide (B.high>1125899906842624))):Option Bool).bind λu=>
 some u
instance FH (B:bP):Fc Sy cL (iL B):=Fc.M 88 [enc B] (bC 12 4 [1,6] 10 (bn 12 6 (bh 4) (bh 4)) λu=>aZ)
def sL (a0:Int):Option Int:=
 some (if(IntKind.wrap .i64 (0-a0))>a0 then(IntKind.wrap .i64 (0-a0))else a0)
instance Sw (a0:Int):Fc Sy cL (sL a0):=Fc.M 133 [.int .i64 a0] (aZ)
def jq (a0 B:Int):Option Int:=
 (a_ (a0==0)
 (some true)
 (some (B==0)):Option Bool).bind λu=>
 a_ u
 (some 0)
 ((sL a0).bind λw=>
 (sL B).bind λz=>
 (yS .i64 1125899906842624 z).bind λA=>
 a_ (decide (w>A))
 (a_ ((decide (a0<0))==(decide (B<0)))
 (some 1125899906842625)
 (some (IntKind.wrap .i64 (0-1125899906842625))))
 (some (IntKind.wrap .i64 (a0*B))))
instance Ms (a0 B:Int):Fc Sy cL (jq a0 B):=Fc.M 90 [.int .i64 a0,.int .i64 B] (bC 11 3 [8] 11 (bn 11 8 (bh 3) (bh 3)) λu=>bn 2 11 aZ (bt 15 λw _=>bt 1 λz _=>Ua 0 λA _=>bn 3 20 (cG 15 25 aZ aZ) aZ))
namespace c_
def J2 (D B:bP) (r:(Trace×Pred)->Option (bP×Bool)):Option (bP×Bool):=
 (iL B).bind λu=>
 some (B,(!u))
def J1 (W U:Bool) (J:Pred) (G B D:bP) (r:(Trace×Pred)->Option (bP×Bool)):Option (bP×Bool):=
 (a_ W
 (some (!U))
 (some true):Option Bool).bind λA=>
 a_ A
 (some (⟨0,0⟩,false))
 (a_ (J.kind==5)
 (c_.J2 G (⟨IntKind.wrap .i64 (0-B.high),IntKind.wrap .i64 (0-B.low)⟩:bP) r)
 (a_ (J.kind==6)
 (c_.J2 G (⟨IntKind.wrap .i64 (B.low+D.low),IntKind.wrap .i64 (B.high+D.high)⟩:bP) r)
 (a_ (J.kind==7)
 (c_.J2 G (⟨IntKind.wrap .i64 (B.low-D.high),IntKind.wrap .i64 (B.high-D.low)⟩:bP) r)
 ((jq B.low D.low).bind λC=>
 (jq B.low D.high).bind λI=>
 (jq B.high D.low).bind λu=>
 (jq B.high D.high).bind λw=>
 (kV (Sl.row [C,I,u,w]:Sl Int)).bind λz=>
 c_.J2 G z r))))
theorem gu (r:(Trace×Pred)->Option (bP×Bool)) (hr:dW Sy cL 57 (λz:Trace×Pred=>[enc z.1,enc z.2]) (λr:bP×Bool=>[enc r.1,.bool r.2]) r true) (D B:Bool) (G:Pred) (J U W:bP):Le ((J1 D B G J U W r).bind (λr=>some [enc r.1,.bool r.2])) (cg Sy cL (k7 (tr Tx 57)) (mb (tb Tx 57) [1,1,1,1,1,0] [] (bN [Pv 3,Pv 4,Pv 7,Bv 8 D,Pv 9,Bv 10 B] [Xb 3 G,Xb 4 J,Xb 7 U,Xb 9 W]))):=
 bC 6 3 [10,48] 51 (cG 6 48 (bh 3) (bh 3)) λI=>bn 2 51 aZ (bn 22 77 (o5 14 (b7 4 λu _=>aZ)) (bn 7 86 (o5 18 (b7 4 λu _=>aZ)) (bn 7 99 (o5 18 (b7 4 λu _=>aZ)) (b7 6 λL _=>b7 4 λO _=>b7 4 λw _=>b7 4 λA _=>b7 1 λC _=>o5 5 (b7 4 λu _=>aZ)))))
end c_
def fW (B:Trace) (p1:Pred) (r:(Trace×Pred)->Option (bP×Bool)):Option (bP×Bool):=
 a_ ((len p1.l)==0)
 ((kX B p1).bind λw=>
 (iL w).bind λA=>
 some (w,(!A)))
 ((idx p1.l 0).bind λC=>
 (r (B,C)).bind λu=>
 a_ ((len p1.l)==2)
 ((idx p1.l 1).bind λD=>
 (r (B,D)).bind λz=>
 c_.J1 u.2 z.2 p1 (⟨0,0⟩:bP) u.1 z.1 r)
 (c_.J1 u.2 true p1 (⟨0,0⟩:bP) u.1 u.1 r))
open c_ in
theorem yX (r:(Trace×Pred)->Option (bP×Bool)) (hr:dW Sy cL 57 (λz:Trace×Pred=>[enc z.1,enc z.2]) (λr:bP×Bool=>[enc r.1,.bool r.2]) r true) (B:Trace) (p1:Pred):Le ((fW B p1 r).bind λr=>some [enc r.1,.bool r.2]) (fE cL 57 [enc B,enc p1]):=
 (Fc.M 57 [enc B,enc p1] (bU 2 2 B (bU 0 3 p1 (c8 9 13 (Pred.dX p1.l) (cm 0 p1.l (bn 3 15 (bt 5 λD _=>b7 8 λG _=>aZ) (c8 8 26 (Pred.dX p1.l) (bD 0 λA _=>b7 (F:=Fc.of (B,A) hr) 1 λu _=>c8 21 34 (Pred.dX p1.l) (cm 0 p1.l (bn 3 36 (c8 5 40 (Pred.dX p1.l) (bD 0 λC _=>b7 (F:=Fc.of (B,C) hr) 1 λw _=>gy 8 (gu r hr u.2 w.2 p1 (⟨0,0⟩:bP) u.1 w.1))) (gy 4 (gu r hr u.2 true p1 (⟨0,0⟩:bP) u.1 u.1))))))))))):Fc Sy cL (fW B p1 r)).F.h ()
def c_ (B:Trace) (p1:Pred):Option (bP×Bool):=cV (λr (z:Trace×Pred)=>fW z.1 z.2 r) 100000 (B,p1)
instance NZ (B:Trace) (p1:Pred):Fc Sy cL (c_ B p1):=Fc.of (B,p1) (dW.fix (A:=λz:Trace×Pred=>[enc z.1,enc z.2]) (E:=λr:bP×Bool=>[enc r.1,.bool r.2]) (sc:=true) (b:=(λr (z:Trace×Pred)=>fW z.1 z.2 r)) (by kernel_rfl) (λ_ _=>rfl) (λr hr z=>yX r hr z.1 z.2) 100000)
def nv (B:Pred) (D:Trace) (r:(Trace×Pred)->Option Bool):Option Bool:=
 (r (D,B)).bind λu=>
 some (!u)
abbrev zk (r:(Trace×Pred)->Option Bool) (hr:dW Sy cL 86 (λz:Trace×Pred=>[enc z.1,enc z.2]) (λr:Bool=>[.bool r]) r true) (B:Pred) (D:Trace):Fc Sy cL (nv B D r):=Fc.M 128 [enc B,.fptr (cells D)] (bU 2 2 B (bt (F:=Fc.of (D,B) hr) 7 λu _=>aZ))
def gF (D:Trace) (p1:Pred) (r:(Trace×Pred)->Option Bool):Option Bool:=
 (kQ p1.kind).bind λw=>
 a_ (w==1)
 ((c_ D p1).bind λA=>
 some A.2)
 ((yz p1.l (λx u=>((λz=>nv z D r) x).map λb=>(b,u)) ()).bind λB=>
 some (!B.1))
theorem zf (r:(Trace×Pred)->Option Bool) (hr:dW Sy cL 86 (λz:Trace×Pred=>[enc z.1,enc z.2]) (λr:Bool=>[.bool r]) r true) (B:Trace) (p1:Pred):Le ((gF B p1 r).bind λr=>some [.bool r]) (fE cL 86 [enc B,enc p1]):=
 (Fc.M 86 [enc B,enc p1] (bU 2 2 B (bU 0 3 p1 (bt 8 λu _=>bn 3 10 (bt 5 λw _=>aZ) (c8 7 19 (Pred.dX p1.l) (uw 2 (jk (wz.QI (g:=128) (e:=[.fptr (cells B)]) (p:=(λz=>nv z B r)) (lJ.sV (F:=λz=>zk r hr z B))) p1.l ()) λA _=>aZ))))):Fc Sy cL (gF B p1 r)).F.h ()
def tn (B:Trace) (p1:Pred):Option Bool:=cV (λr (z:Trace×Pred)=>gF z.1 z.2 r) 100000 (B,p1)
instance Qf (B:Trace) (p1:Pred):Fc Sy cL (tn B p1):=Fc.of (B,p1) (dW.fix (A:=λz:Trace×Pred=>[enc z.1,enc z.2]) (E:=λr:Bool=>[.bool r]) (sc:=true) (b:=(λr (z:Trace×Pred)=>gF z.1 z.2 r)) (by kernel_rfl) (λ_ _=>rfl) (λr hr z=>zf r hr z.1 z.2) 100000)
def qi (B:Trace) (p1:Pred):Option Int:=
 (eA B).bind λu=>
 (a_ u
 ((mG p1).bind λw=>
 some (!w))
 (some true):Option Bool).bind λz=>
 a_ z
 (some 1)
 ((nq B p1).bind λA=>
 a_ A
 ((nM p1).bind λC=>
 a_ C
 ((tn B p1).bind λD=>
 a_ D
 (some 0)
 (some 9))
 (some 14))
 (some 13))
instance Pg (B:Trace) (p1:Pred):Fc Sy cL (qi B p1):=Fc.M 55 [enc B,enc p1] (bU 2 2 B (bU 0 3 p1 (bt 8 λu _=>bC 2 4 [9] 13 (cG 2 9 (bt 1 λw _=>bh 2) (bh 4)) λz=>bn 3 5 aZ (bt 5 λA _=>cG 4 14 (bt 4 λC _=>cG 4 19 (bt 5 λD _=>cG 4 23 aZ aZ) aZ) aZ))))
def qW (B:Pred):Option (Int×Int):=
 (mG B).bind λu=>
 a_ u
 ((nM B).bind λw=>
 a_ w
 ((kQ B.kind).bind λz=>
 some (z,0))
 (some (0,14)))
 (some (0,1))
instance QW (B:Pred):Fc Sy cL (qW B):=Fc.M 102 [enc B] (bU 2 1 B (bt 9 λu _=>cG 4 4 (bt 4 λw _=>cG 4 8 (bt 8 λz _=>aZ) aZ) aZ))
def tA (D:Pred) (B:Int):Option Int:=
 (qW D).bind λu=>
 (a_ (u.2==0)
 (some (!(u.1==B)))
 (some true):Option Bool).bind λw=>
 a_ w
 (some 14)
 (some 0)
instance Qj (D:Pred) (B:Int):Fc Sy cL (tA D B):=Fc.M 69 [enc D,.int .i64 B] (bU 2 2 D (bt 7 λu _=>bC 12 4 [1,5,14] 18 (cG 12 14 (bh 4) (bh 4)) λw=>bn 2 18 aZ aZ))
def nj (B:Pred) (D:Int) (r:(Int×Pred)->Option Bool):Option Bool:=
 (r (D,B)).bind λu=>
 some (!u)
abbrev zg (r:(Int×Pred)->Option Bool) (hr:dW Sy cL 96 (λz:Int×Pred=>[.int .i64 z.1,enc z.2]) (λr:Bool=>[.bool r]) r true) (B:Pred) (D:Int):Fc Sy cL (nj B D r):=Fc.M 140 [enc B,.fptr (cells D)] (bU 2 2 B (bt (F:=Fc.of (D,B) hr) 7 λu _=>aZ))
namespace dZ
def J2 (G:Bool) (B:Int) (D:Pred) (r:(Int×Pred)->Option Bool):Option Bool:=
 a_ G
 (some (D.proc==B))
 ((yz D.l (λx u=>((λz=>nj z B r) x).map λb=>(b,u)) ()).bind λw=>
 some (!w.1))
def J1 (G:Int) (J:Bool) (B:Int) (D:Pred) (r:(Int×Pred)->Option Bool):Option Bool:=
 a_ J
 (some false)
 (a_ (G==2)
 (dZ.J2 true B D r)
 (dZ.J2 (G==3) B D r))
theorem sn (r:(Int×Pred)->Option Bool) (hr:dW Sy cL 96 (λz:Int×Pred=>[.int .i64 z.1,enc z.2]) (λr:Bool=>[.bool r]) r true) (G:Bool) (B:Int) (D:Pred):Le ((J2 G B D r).bind (λr=>some [.bool r])) (cg Sy cL (k7 (tr Tx 96)) (mb (tb Tx 96) [1,0,1,0,1,0,1,1,0] [] (bN [Pv 2,Pv 3,Bv 13 G] [(2,.box [iv B]),Xb 3 D]))):=
 bn 0 13 aZ (c8 8 21 (Pred.dX D.l) (uw 2 (jk (wz.QI (g:=140) (e:=[.fptr (cells B)]) (p:=(λz=>nj z B r)) (lJ.sV (F:=λz=>zg r hr z B))) D.l ()) λu _=>aZ))
theorem gu (r:(Int×Pred)->Option Bool) (hr:dW Sy cL 96 (λz:Int×Pred=>[.int .i64 z.1,enc z.2]) (λr:Bool=>[.bool r]) r true) (G:Int) (J:Bool) (B:Int) (D:Pred):Le ((J1 G J B D r).bind (λr=>some [.bool r])) (cg Sy cL (k7 (tr Tx 96)) (mb (tb Tx 96) [1,0,1,0,1,0] [] (bN [Pv 2,Pv 3,Iv 6 G,Bv 7 J] [(2,.box [iv B]),Xb 3 D]))):=
 bn 0 7 aZ (bn 8 13 (gy 4 (sn r hr true B D)) (gy 7 (sn r hr (G==3) B D)))
end dZ
def gI (B:Int) (p1:Pred) (r:(Int×Pred)->Option Bool):Option Bool:=
 a_ (p1.kind==4)
 (dZ.J1 p1.kind true B p1 r)
 (a_ (p1.kind==18)
 (dZ.J1 p1.kind true B p1 r)
 (a_ (p1.kind==19)
 (dZ.J1 p1.kind true B p1 r)
 (a_ (p1.kind==20)
 (dZ.J1 p1.kind true B p1 r)
 (dZ.J1 p1.kind (p1.kind==21) B p1 r))))
open dZ in
theorem ze (r:(Int×Pred)->Option Bool) (hr:dW Sy cL 96 (λz:Int×Pred=>[.int .i64 z.1,enc z.2]) (λr:Bool=>[.bool r]) r true) (B:Int) (p1:Pred):Le ((gI B p1 r).bind λr=>some [.bool r]) (fE cL 96 [.int .i64 B,enc p1]):=
 (Fc.M 96 [.int .i64 B,enc p1] (bU 3 3 p1 (bn 18 7 (gy 4 (gu r hr p1.kind true B p1)) (bn 7 7 (gy 4 (gu r hr p1.kind true B p1)) (bn 7 7 (gy 4 (gu r hr p1.kind true B p1)) (bn 7 7 (gy 4 (gu r hr p1.kind true B p1)) (gy 7 (gu r hr p1.kind (p1.kind==21) B p1))))))):Fc Sy cL (gI B p1 r)).F.h ()
def dZ (B:Int) (p1:Pred):Option Bool:=cV (λr (z:Int×Pred)=>gI z.1 z.2 r) 100000 (B,p1)
instance Pb (B:Int) (p1:Pred):Fc Sy cL (dZ B p1):=Fc.of (B,p1) (dW.fix (A:=λz:Int×Pred=>[.int .i64 z.1,enc z.2]) (E:=λr:Bool=>[.bool r]) (sc:=true) (b:=(λr (z:Int×Pred)=>gI z.1 z.2 r)) (by kernel_rfl) (λ_ _=>rfl) (λr hr z=>ze r hr z.1 z.2) 100000)
def nF (D:Trace) (B J:Int) (p3:Pred):Option Int:=
 (qi D p3).bind λu=>
 a_ (u==0)
 ((a_ (decide (B<0))
 (some true)
 (some (decide (B>=(len D.procs)))):Option Bool).bind λz=>
 (a_ z
 (some true)
 (some (decide (J<0))):Option Bool).bind λA=>
 (a_ A
 (some true)
 ((idx D.procs B).bind λC=>
 some (decide (J>(len C.events)))):Option Bool).bind λG=>
 a_ G
 (some 2)
 ((tA p3 2).bind λw=>
 a_ (w==0)
 ((dZ B p3).bind λI=>
 a_ I
 (some 0)
 (some 15))
 (some w)))
 (some u)
instance O5 (D:Trace) (B G:Int) (p3:Pred):Fc Sy cL (nF D B G p3):=Fc.M 62 [enc D,.int .i64 B,.int .i64 G,enc p3] (bU 2 4 D (bU 0 7 p3 (bt 8 λw _=>cG 9 15 (bC 9 6 [19] 25 (bn 9 19 (bh 6) (cm 3 D.procs (bh 2))) λz=>bC 1 3 [26] 29 (bn 1 26 (bh 3) (bh 3)) λA=>bC 1 10 [2,4,30] 40 (bn 1 30 (bh 10) (bD 4 λu _=>cm 2 u.events (bh 2))) λC=>bn 2 40 aZ (bt 7 λI _=>cG 9 44 (bt 8 λJ _=>cG 3 49 aZ aZ) aZ)) aZ)))
namespace fq
def kr (B:bQ) (D:Int) (x:Int×(Sl Int)) (G:Sl Int):Option (Fw (Sl Int) Empty (Sl Int)):=
 a_ (x.1==D)
 (some (.r x.2))
 (some (.n (Sl.nil:Sl Int)))
def E1 (B:bQ) (D:Int) (G:Sl Int):Option (Sl Int):=
 (jd B).bind λu=>(j8 (λ(x:Int×(Sl Int)) (q:Sl Int)=>kr B D x q) u G).bind (Fw.qg
 (λq=>some Sl.nil)
 (λe=>Empty.elim e)
 (λe=>some e))
end fq
def fq (B:bQ) (k1:Int):Option (Sl Int):=
 (mK B).bind λu=>
 fq.E1 u k1 (Sl.nil:Sl Int)
open fq in
instance Px (B:bQ) (k1:Int):Fc Sy cL (fq B k1):=Fc.N 101 [enc B,.int .i64 k1] (bU 2 2 B (bt 8 λw _=>DB λC z=>AM 4 [Pv 3,Pv 4,(8,.v (.clo 179 [] [.fptr (cells w)]))] (λA=>[(3,.box [iv k1]),(4,.box [.v .bW])]) (λu=>Empty.elim u) (λu=>[(3,.box [iv k1]),(4,.box [cv u])]) (ER w C z) (λD A=>xX 8 (bn 9 13 (qB 4 4 0 D.2 aZ) aZ)) (λA=>aZ) (λx=>Empty.elim x) (λu=>aZ)))
def qx (B:Trace) (p1 D:Int):Option ((Sl Int)×Int):=
 (eA B).bind λu=>
 a_ u
 ((a_ (decide (p1<0))
 (some true)
 (some (decide (p1>=(len B.procs)))):Option Bool).bind λw=>
 (a_ w
 (some true)
 (some (decide (D<0))):Option Bool).bind λz=>
 (a_ z
 (some true)
 ((idx B.procs p1).bind λA=>
 some (decide (D>(len A.events)))):Option Bool).bind λC=>
 a_ C
 (some (Sl.nil,2))
 ((idx B.procs p1).bind λG=>
 (fq G D).bind λI=>
 some (I,0)))
 (some (Sl.nil,1))
instance Oa (B:Trace) (p1 D:Int):Fc Sy cL (qx B p1 D):=Fc.N 97 [enc B,.int .i64 p1,.int .i64 D] (bU 2 3 B (bt 9 λw _=>cG 4 8 (bC 6 6 [15] 21 (bn 6 15 (bh 6) (cm 3 B.procs (bh 2))) λz=>bC 1 3 [22] 25 (bn 1 22 (bh 3) (bh 3)) λA=>bC 1 10 [26] 36 (bn 1 26 (bh 10) (bD 4 λu _=>cm 2 u.events (bh 2))) λC=>bn 3 12 aZ (bD 9 λG _=>bt 2 λI _=>aZ)) aZ))
def jC (B:Var) (D:Pred):Option Bool:=
 some (ByteArray.toList B.name==ByteArray.toList D.name)
instance Eh (B:Var) (D:Pred):Fc Sy cL (jC B D):=Fc.M 107 [enc B,.fptr (cells D)] (aZ)
def mX (D:b9) (p1:Pred):Option Int:=
 (idx D.t.procs p1.proc).bind λu=>
 (eV u.vars (λz=>jC z p1)).bind λw=>
 (idx D.values p1.proc).bind λA=>
 (idx A w).bind λB=>
 some B
instance Hp (B:b9) (p1:Pred):Fc Sy cL (mX B p1):=Fc.M 71 [enc B,enc p1] (bU 2 2 B (bU 0 3 p1 (bD 10 λu _=>b7 (F:=mT 107 [.fptr (cells p1)] (λz=>jC z p1) lJ.sV u.vars) 3 λw _=>bD 9 λA _=>bD 2 λC _=>aZ)))
def vM (B:Sl Int) (D:Trace):Option Bool:=
 some (!((len B)==(len D.procs)))
instance S6 (B:Sl Int) (D:Trace):Fc Sy cL (vM B D):=Fc.M 195 [enc B,.fptr (cells D)] (cm 8 B (cm 2 D.procs aZ))
namespace h_
def bz (s0:Sl (Sl Int)) (D:Int) (B:Int) (p1:(Sl Int)->Option Bool):Option (Fw Int Unit Int):=
 a_ (decide (B<D))
 ((idx s0 B).bind λu=>
 (p1 u).bind λw=>
 a_ w
 (some (.r B))
 (some (.n (IntKind.wrap .i64 (B+1)))))
 (some (.x ()))
def W1 (s0:Sl (Sl Int)) (B D:Int) (p1:(Sl Int)->Option Bool):Option Int:=
 (bV (λq:Int=>bz s0 B q p1) D).bind (Fw.elim
 (λe=>some (-1))
 (λe=>some e))
end h_
def h_ (s0:Sl (Sl Int)) (p1:(Sl Int)->Option Bool):Option Int:=
 h_.W1 s0 (len s0) 0 p1
open h_ in
abbrev we (g1:FuncId) (e1:List V) (p1:(Sl Int)->Option Bool) (h1:lJ Sy cL g1 [] e1 (λz:Sl Int=>[enc z]) (λr:Bool=>[.bool r]) p1 true) (s0:Sl (Sl Int)):Fc Sy cL (h_ s0 p1):=Fc.M 213 [enc s0,.clo g1 [] e1] (cm 9 s0 (dP 5 (λw=>(bN [Cv 0 s0,(1,.v (.clo g1 [] e1)),Iv 7 (len s0),Iv 8 w] [])) (λu=>(0,(bN [] []))) (λu=>(bN [Iv 4 u] [])) (λw=>bn 7 9 (bD 16 λA _=>yu 1 h1.f A λB _=>bn 2 16 aZ aZ) aZ) (λu=>aZ) (λu=>aZ)))
def pJ (s0:Sl (Sl Int)) (p1:(Sl Int)->Option Bool):Option Bool:=
 (h_ s0 p1).bind λu=>
 some (decide (u>=0))
abbrev uM (g1:FuncId) (e1:List V) (p1:(Sl Int)->Option Bool) (h1:lJ Sy cL g1 [] e1 (λz:Sl Int=>[enc z]) (λr:Bool=>[.bool r]) p1 true) (s0:Sl (Sl Int)):Fc Sy cL (pJ s0 p1):=Fc.M 194 [enc s0,.clo g1 [] e1] (bt (F:=we g1 e1 p1 h1 s0) 9 λu _=>aZ)
def EG (B:Trace) (D:Sl (Sl Int)):Option Bool:=
 (eA B).bind λu=>
 (a_ u
 ((pJ D (λz=>vM z B)).bind λw=>
 some (!w))
 (some false):Option Bool).bind λA=>
 some A
instance UY (B:Trace) (D:Sl (Sl Int)):Fc Sy cL (EG B D):=Fc.M 175 [enc B,enc D] (bU 2 2 B (bt 6 λu _=>bC 1 5 [1,2,7] 12 (bn 1 7 (b7 (F:=uM 195 [.fptr (cells B)] (λz=>vM z B) lJ.sV D) 2 λw _=>bh 2) (bh 5)) λA=>aZ))
namespace oK
def bz (G:Sl Int) (J:Int) (D:Trace) (B:Int):Option (Fw Int Unit Unit):=
 a_ (decide (B<J))
 ((idx G B).bind λu=>
 (a_ (decide (u<0))
 (some true)
 ((idx D.procs B).bind λw=>
 some (decide (u>(len w.events)))):Option Bool).bind λz=>
 a_ z
 (some (.r ()))
 (some (.n (IntKind.wrap .i64 (B+1)))))
 (some (.x ()))
def W1 (D:Sl Int) (G J:Int) (B:Trace):Option Bool:=
 (bV (λq:Int=>bz D G B q) J).bind (Fw.elim
 (λe=>some true)
 (λe=>some false))
end oK
def oK (D:Trace) (B:Sl Int):Option Bool:=
 oK.W1 B (len B) 0 D
open oK in
instance TB (D:Trace) (B:Sl Int):Fc Sy cL (oK D B):=Fc.M 176 [enc D,enc B] (bU 2 2 D (cm 7 B (dP 5 (λw=>(bN [Pv 2,Cv 7 B,Iv 8 (len B),Iv 9 w] [Xb 2 D])) (λu=>(0,(bN [] []))) (λu=>(bN [Bv 4 false] [])) (λw=>bn 7 10 (bD 8 λA _=>bC 10 10 [5,6,16] 26 (bn 10 16 (bh 10) (bD 4 λz _=>cm 2 z.events (bh 2))) λC=>bn 2 26 aZ aZ) aZ) (λu=>aZ) (λu=>aZ))))
def Be (B:Trace) (p1:Int):Option Bool:=
 (a_ (decide (p1>=0))
 (some (decide (p1<(len B.procs))))
 (some false):Option Bool).bind λu=>
 some u
instance Tl (B:Trace) (p1:Int):Fc Sy cL (Be B p1):=Fc.M 177 [enc B,.int .i64 p1] (bU 2 2 B (bC 8 6 [1,2,7] 13 (bn 8 7 (cm 3 B.procs (bh 2)) (bh 6)) λu=>aZ))
namespace n_
def kr (D:Trace) (B G:Int) (J:aY) (U:Bool) (x:aY×Event):Option (Fw Unit Empty aY):=
 (a_ (x.2.kind==B)
 (some (x.2.message==G))
 (some false):Option Bool).bind λu=>
 a_ u
 (some (.r x.1))
 (some (.n ()))
def E1 (B:Trace) (D G:Int) (J:aY) (U:Bool):Option (aY×Bool):=
 (iZ B).bind λu=>(j8 (λ(x:aY×Event) (q:Unit)=>kr B D G J U x) u ()).bind (Fw.qg
 (λq=>some (⟨0,0⟩,false))
 (λe=>Empty.elim e)
 (λe=>some (e,true)))
end n_
def n_ (D:Trace) (B G:Int):Option (aY×Bool):=
 (eA D).bind λu=>
 a_ u
 ((kH D).bind λw=>
 n_.E1 w B G (⟨0,0⟩:aY) false)
 (some (⟨0,0⟩,false))
open n_ in
instance UJ (G:Trace) (B D:Int):Fc Sy cL (n_ G B D):=Fc.M 180 [enc G,.int .i64 B,.int .i64 D] (bU 2 3 G (bt 10 λJ _=>cG 3 12 (bt 7 λw _=>DB λC z=>AM 4 [Pv 4,Pv 5,Pv 6,Pv 7,(15,.v (.clo 184 [] [.fptr (cells w)]))] (λA=>[(4,.box [iv B]),(5,.box [iv D]),Xb 6 (⟨0,0⟩:aY),(7,.box [bv false])]) (λu=>Empty.elim u) (λu=>[(4,.box [iv B]),(5,.box [iv D]),Xb 6 u,(7,.box [bv true])]) (yx w C z) (λI A=>qB 8 9 0 I.2 (xX 1 (bC 9 5 [9,22] 27 (bn 9 22 (bh 5) (bh 5)) λL=>bn 2 27 aZ aZ))) (λA=>aZ) (λx=>Empty.elim x) (λu=>aZ)) aZ))
def Ah (B:Trace) (m1:Int):Option (aY×Bool):=
 (n_ B 2 m1).bind λu=>
 some (u.1,u.2)
instance Sa (B:Trace) (m1:Int):Fc Sy cL (Ah B m1):=Fc.M 166 [enc B,.int .i64 m1] (bU 2 2 B (bt 8 λu _=>aZ))
namespace oV
def cq (Y:Sl Int) (p7:Int) (aa:Sl Int) (ab ad:Int) (J:Sl Event) (U:Int) (W:Trace) (G D:aY) (B:Int):Option (Fw Int Unit (aY×aY)):=
 a_ (decide (B<U))
 ((idx J B).bind λw=>
 a_ (w.kind==3)
 ((Ah W w.message).bind λu=>
 (idx Y u.1.proc).bind λz=>
 a_ (decide (u.1.index>z))
 (some (.r (u.1,(⟨p7,IntKind.wrap .i64 (B+1)⟩:aY))))
 (some (.n (IntKind.wrap .i64 (B+1)))))
 (some (.n (IntKind.wrap .i64 (B+1)))))
 (some (.x ()))
def W2 (c1:Sl Int) (p7:Int) (J:Sl Int) (U G:Int) (W:Sl Event) (Y aa:Int) (ab:Trace) (D B:aY):Option (Fw Int Unit (aY×aY)):=
 (bV (λq:Int=>cq c1 p7 J U G W Y ab D B q) aa).bind (Fw.elim
 (λe=>some (.n (IntKind.wrap .i64 (G+1))))
 (λe=>some (.r (e.1,e.2))))
def bz (Y J:Sl Int) (U:Int) (W:Trace) (G B:aY) (D:Int):Option (Fw Int Unit (aY×aY)):=
 a_ (decide (D<U))
 ((idx J D).bind λw=>
 (idx W.procs D).bind λz=>
 (jQ z.events none (some w)).bind λu=>
 W2 Y D J U D u (len u) 0 W G B)
 (some (.x ()))
def W1 (Y G:Sl Int) (J U:Int) (W:Trace) (D B:aY):Option (aY×aY×Bool):=
 (bV (λq:Int=>bz Y G J W D B q) U).bind (Fw.elim
 (λe=>some (⟨0,0⟩,⟨0,0⟩,false))
 (λe=>some (e.1,e.2,true)))
end oV
def oV (D:Trace) (B:Sl Int):Option (aY×aY×Bool):=
 oV.W1 B B (len B) 0 D (⟨0,0⟩:aY) (⟨0,0⟩:aY)
open oV in
instance Tk (D:Trace) (B:Sl Int):Fc Sy cL (oV D B):=Fc.M 196 [enc D,enc B] (bU 2 2 D (cm 9 B (dP 5 (λu=>(bN [Cv 1 B,Pv 2,Pv 4,Pv 5,Cv 13 B,Iv 14 (len B),Iv 15 u] [Xb 2 D,Xb 4 (⟨0,0⟩:aY),Xb 5 (⟨0,0⟩:aY)])) (λw=>(0,(bN [Pv 4,Pv 5] [Xb 4 (⟨0,0⟩:aY),Xb 5 (⟨0,0⟩:aY)]))) (λw=>(bN [Pv 4,Pv 5,Bv 6 true] [Xb 4 w.1,Xb 5 w.2])) (λu=>bn 7 16 (bD 8 λG _=>bD 10 λJ _=>HR 3 false true [.int .i64 G] λA _=>cm 0 A (dP 5 (λC=>(bN [Cv 1 B,Pv 2,Pv 4,Pv 5,Iv 7 u,Cv 13 B,Iv 14 (len B),Iv 15 u,Cv 27 A,Iv 28 (len A),Iv 29 C] [Xb 2 D,Xb 4 (⟨0,0⟩:aY),Xb 5 (⟨0,0⟩:aY)])) (λz=>(2,(bN [Cv 1 B,Pv 2,Pv 4,Pv 5,Cv 13 B,Iv 14 (len B),Iv 15 u] [Xb 2 D,Xb 4 (⟨0,0⟩:aY),Xb 5 (⟨0,0⟩:aY)]))) (λz=>(bN [Pv 4,Pv 5,Bv 6 true] [Xb 4 z.1,Xb 5 z.2])) (λC=>bn 7 30 (bD 8 λI _=>qB 3 10 0 I (cG 10 36 (bt 8 λL _=>bD 15 λO _=>bn 4 51 aZ aZ) aZ)) aZ) (λz=>aZ) (λz=>aZ))) aZ) (λw=>aZ) (λw=>aZ))))
def Cw (B:Trace) (D:Sl Int):Option Bool:=
 (oV B D).bind λu=>
 some (!u.2.2)
instance Ul (B:Trace) (D:Sl Int):Fc Sy cL (Cw B D):=Fc.M 178 [enc B,enc D] (bU 2 2 B (bt 7 λu _=>aZ))
namespace nW
def eW (D:Sl (Sl Int)) (G:Int) (J:Trace) (B:Int):Option (Fw Int Unit Unit):=
 a_ (decide (B<G))
 ((idx D B).bind λu=>
 (Cw J u).bind λw=>
 a_ w
 (some (.n (IntKind.wrap .i64 (B+1))))
 (some (.r ())))
 (some (.x ()))
def W3 (B:Sl (Sl Int)) (D G:Int) (J:Trace):Option Int:=
 (bV (λq:Int=>eW B D J q) G).bind (Fw.elim
 (λe=>some 0)
 (λe=>some 18))
def cq (U:Sl (Sl Int)) (D:Sl Int) (G:Int) (J:Trace) (B:Int):Option (Fw Int Unit Unit):=
 a_ (decide (B<G))
 ((idx D B).bind λu=>
 (Be J u).bind λw=>
 a_ w
 (some (.n (IntKind.wrap .i64 (B+1))))
 (some (.r ())))
 (some (.x ()))
def W2 (D:Sl (Sl Int)) (G:Sl Int) (J U:Int) (B:Trace):Option Int:=
 (bV (λq:Int=>cq D G J B q) U).bind (Fw.elim
 (λe=>nW.W3 D (len D) 0 B)
 (λe=>some 2))
def bz (W:Sl (Sl Int)) (D:Sl Int) (G:Sl (Sl Int)) (J:Int) (U:Trace) (B:Int):Option (Fw Int Unit Unit):=
 a_ (decide (B<J))
 ((idx G B).bind λu=>
 (oK U u).bind λw=>
 a_ w
 (some (.n (IntKind.wrap .i64 (B+1))))
 (some (.r ())))
 (some (.x ()))
def W1 (W:Sl (Sl Int)) (B:Sl Int) (G:Sl (Sl Int)) (J U:Int) (D:Trace):Option Int:=
 (bV (λq:Int=>bz W B G J D q) U).bind (Fw.elim
 (λe=>nW.W2 W B (len B) 0 D)
 (λe=>some 2))
end nW
def nW (G:Trace) (D:Sl (Sl Int)) (B:Sl Int):Option Int:=
 (EG G D).bind λu=>
 a_ u
 (nW.W1 D B D (len D) 0 G)
 (some 1)
open nW in
instance U0 (G:Trace) (D:Sl (Sl Int)) (B:Sl Int):Fc Sy cL (nW G D B):=Fc.M 144 [enc G,enc D,enc B] (bU 2 3 G (bt 8 λJ _=>cG 3 16 (cm 7 D (dP 5 (λA=>(bN [Cv 1 D,Cv 2 B,Pv 3,Cv 17 D,Iv 18 (len D),Iv 19 A] [Xb 3 G])) (λu=>(0,(bN [Cv 1 D,Cv 2 B,Pv 3] [Xb 3 G]))) (λu=>(bN [Iv 6 2] [])) (λA=>bn 7 20 (bD 7 λL _=>bt 8 λO _=>cG 3 26 aZ aZ) aZ) (λu=>cm 6 B (dP 5 (λC=>(bN [Cv 1 D,Pv 3,Cv 28 B,Iv 29 (len B),Iv 30 C] [Xb 3 G])) (λw=>(2,(bN [Cv 1 D,Pv 3] [Xb 3 G]))) (λw=>(bN [Iv 6 2] [])) (λC=>bn 7 31 (bD 7 λQ _=>bt 8 λS _=>cG 3 37 aZ aZ) aZ) (λw=>cm 6 D (dP 5 (λI=>(bN [Pv 3,Cv 39 D,Iv 40 (len D),Iv 41 I] [Xb 3 G])) (λz=>(4,(bN [] []))) (λz=>(bN [Iv 6 18] [])) (λI=>bn 7 42 (bD 7 λT _=>bt 8 λU _=>cG 3 48 aZ aZ) aZ) (λz=>aZ) (λz=>aZ))) (λw=>aZ))) (λu=>aZ))) aZ))
def xG (B:Trace) (m1:Int):Option (aY×Bool):=
 (n_ B 3 m1).bind λu=>
 some (u.1,u.2)
instance OU (B:Trace) (m1:Int):Fc Sy cL (xG B m1):=Fc.M 147 [enc B,.int .i64 m1] (bU 2 2 B (bt 8 λu _=>aZ))
namespace nE
def bz (W:Sl Int) (Y:Int) (J:Sl Event) (U:Trace) (B:Sl Int) (G D:Int):Option (Fw ((Sl Int)×Int×Int) (Sl Int) Empty):=
 a_ (decide (D<G))
 ((idx J D).bind λu=>
 (a_ (u.kind==2)
 (some (!(u.peer==Y)))
 (some true):Option Bool).bind λA=>
 a_ A
 (some (.n (B,G,IntKind.wrap .i64 (D+1))))
 ((xG U u.message).bind λw=>
 (a_ w.2
 ((idx W w.1.proc).bind λC=>
 some (decide (w.1.index>C)))
 (some true):Option Bool).bind λI=>
 a_ I
 ((jr B (u.message:Int)).bind λz=>
 some (.n (z,G,IntKind.wrap .i64 (D+1))))
 (some (.n (B,G,IntKind.wrap .i64 (D+1))))))
 (some (.x B))
def W1 (W:Sl Int) (Y:Int) (B:Sl Int) (D:Sl Event) (G J:Int) (U:Trace):Option ((Sl Int)×Int):=
 (bV (λq:(Sl Int)×Int×Int=>bz W Y D U q.1 q.2.1 q.2.2) (B,G,J)).bind (Fw.elim
 (λe=>some (e,0))
 (λe=>Empty.elim e))
end nE
def nE (B:Trace) (D:Sl Int) (p2 G:Int):Option ((Sl Int)×Int):=
 (nW B (Sl.row [D]:Sl (Sl Int)) (Sl.row [p2,G]:Sl Int)).bind λu=>
 a_ (u==0)
 ((idx B.procs p2).bind λz=>
 (idx D p2).bind λA=>
 (jQ z.events none (some A)).bind λw=>
 nE.W1 D G (Sl.nil:Sl Int) w (len w) 0 B)
 (some (Sl.nil,u))
open nE in
instance RQ (B:Trace) (D:Sl Int) (p2 G:Int):Fc Sy cL (nE B D p2 G):=Fc.N 108 [enc B,enc D,.int .i64 p2,.int .i64 G] (bU 2 4 B (WK 9 18 ([D]:List (Sl Int)) (b7 3 λJ _=>cG 9 24 (bD 14 λL _=>bD 4 λA _=>HR 1 false true [.int .i64 A] λw _=>cm 0 w (jN 6 (λu=>(bN [Cv 1 D,Iv 3 G,Pv 4,Ov 11,Cv 36 w,Iv 37 u.2.1,Iv 38 u.2.2] [Xb 4 B,Lb 2011 u.1])) (λz=>(0,(bN [Ov 11] [Lb 2011 z]))) (λu=>bn 8 39 (bD 7 λC _=>qB 2 13 0 C (bC 9 5 [45] 50 (cG 9 45 (bh 5) (bh 5)) λO=>bn 2 50 aZ (bt 8 λQ _=>bC 13 9 [14,60] 69 (cG 13 60 (bD 5 λS _=>bh 3) (bh 9)) λT=>bn 2 69 (xd 6 2011 73 74 λI _=>aZ) aZ))) aZ) (λz=>aZ))) aZ)))
def rW (B:b9) (p1:Pred):Option Int:=
 (nE B.t B.counts p1.proc p1.peer).bind λu=>
 some (len u.1)
instance Is (B:b9) (p1:Pred):Fc Sy cL (rW B p1):=Fc.M 72 [enc B,enc p1] (bU 2 2 B (bU 0 3 p1 (bt 13 λu _=>cm 10 u.1 aZ)))
def ei (B:b9) (p1:Pred) (r:(b9×Pred)->Option Int):Option Int:=
 a_ (p1.kind==1)
 (some p1.n)
 (a_ (p1.kind==2)
 ((mX B p1).bind λJ=>
 some J)
 (a_ (p1.kind==3)
 ((idx B.counts p1.proc).bind λL=>
 some L)
 (a_ (p1.kind==4)
 ((rW B p1).bind λO=>
 some O)
 (a_ (p1.kind==5)
 ((idx p1.l 0).bind λQ=>
 (r (B,Q)).bind λS=>
 some (IntKind.wrap .i64 (0-S)))
 (a_ (p1.kind==6)
 ((idx p1.l 0).bind λT=>
 (r (B,T)).bind λU=>
 (idx p1.l 1).bind λW=>
 (r (B,W)).bind λX=>
 some (IntKind.wrap .i64 (U+X)))
 (a_ (p1.kind==7)
 ((idx p1.l 0).bind λu=>
 (r (B,u)).bind λw=>
 (idx p1.l 1).bind λz=>
 (r (B,z)).bind λA=>
 some (IntKind.wrap .i64 (w-A)))
 ((idx p1.l 0).bind λC=>
 (r (B,C)).bind λD=>
 (idx p1.l 1).bind λG=>
 (r (B,G)).bind λI=>
 some (IntKind.wrap .i64 (D*I)))))))))
theorem vg (r:(b9×Pred)->Option Int) (hr:dW Sy cL 46 (λz:b9×Pred=>[enc z.1,enc z.2]) (λr:Int=>[.int .i64 r]) r true) (B:b9) (p1:Pred):Le ((ei B p1 r).bind λr=>some [.int .i64 r]) (fE cL 46 [enc B,enc p1]):=
 (Fc.M 46 [enc B,enc p1] (bU 2 2 B (bU 0 3 p1 (bn 17 7 aZ (bn 7 11 (bt 5 λS _=>aZ) (bn 7 16 (bD 7 λT _=>aZ) (bn 7 24 (bt 5 λU _=>aZ) (bn 7 29 (c8 6 33 (Pred.dX p1.l) (bD 0 λD _=>b7 (F:=Fc.of (B,D) hr) 1 λW _=>aZ)) (bn 7 38 (c8 6 42 (Pred.dX p1.l) (bD 0 λG _=>b7 (F:=Fc.of (B,G) hr) 1 λX _=>c8 3 48 (Pred.dX p1.l) (bD 0 λI _=>b7 (F:=Fc.of (B,I) hr) 1 λY _=>aZ))) (bn 7 53 (c8 6 57 (Pred.dX p1.l) (bD 0 λu _=>b7 (F:=Fc.of (B,u) hr) 1 λJ _=>c8 3 63 (Pred.dX p1.l) (bD 0 λw _=>b7 (F:=Fc.of (B,w) hr) 1 λL _=>aZ))) (c8 9 70 (Pred.dX p1.l) (bD 0 λA _=>b7 (F:=Fc.of (B,A) hr) 1 λO _=>c8 3 76 (Pred.dX p1.l) (bD 0 λC _=>b7 (F:=Fc.of (B,C) hr) 1 λQ _=>aZ)))))))))))):Fc Sy cL (ei B p1 r)).F.h ()
def ez (B:b9) (p1:Pred):Option Int:=cV (λr (z:b9×Pred)=>ei z.1 z.2 r) 100000 (B,p1)
instance IK (B:b9) (p1:Pred):Fc Sy cL (ez B p1):=Fc.of (B,p1) (dW.fix (A:=λz:b9×Pred=>[enc z.1,enc z.2]) (E:=λr:Int=>[.int .i64 r]) (sc:=true) (b:=(λr (z:b9×Pred)=>ei z.1 z.2 r)) (by kernel_rfl) (λ_ _=>rfl) (λr hr z=>vg r hr z.1 z.2) 100000)
namespace e9
def J1 (W:Int) (U:Bool) (D:b9) (B:Pred) (r:(b9×Pred)->Option Bool):Option Bool:=
 a_ U
 (some (B.kind==13))
 (a_ (W==15)
 ((idx B.l 0).bind λu=>
 (r (D,u)).bind λw=>
 some (!w))
 (a_ (W==16)
 ((idx B.l 0).bind λz=>
 (r (D,z)).bind λA=>
 (a_ A
 ((idx B.l 1).bind λC=>
 (r (D,C)).bind λG=>
 some G)
 (some false):Option Bool).bind λI=>
 some I)
 ((idx B.l 0).bind λJ=>
 (r (D,J)).bind λL=>
 (a_ L
 (some true)
 ((idx B.l 1).bind λO=>
 (r (D,O)).bind λQ=>
 some Q):Option Bool).bind λS=>
 some S)))
theorem gu (r:(b9×Pred)->Option Bool) (hr:dW Sy cL 47 (λz:b9×Pred=>[enc z.1,enc z.2]) (λr:Bool=>[.bool r]) r true) (U:Int) (G:Bool) (B:b9) (D:Pred):Le ((J1 U G B D r).bind (λr=>some [.bool r])) (cg Sy cL (k7 (tr Tx 47)) (mb (tb Tx 47) [1,0,1,0,1,1,1,1,1,1,1,1,1,0] [] (bN [Pv 2,Pv 3,Iv 6 U,Bv 67 G] [Xb 2 B,Xb 3 D]))):=
 bn 0 67 aZ (bn 7 73 (c8 6 77 (Pred.dX D.l) (bD 0 λA _=>b7 (F:=Fc.of (B,A) hr) 1 λO _=>aZ)) (bn 7 82 (c8 6 86 (Pred.dX D.l) (bD 0 λC _=>b7 (F:=Fc.of (B,C) hr) 1 λQ _=>AS 1 7 [96,89] (λu=>(bN [Bv 67 false,Bv 73 false,Bv 82 true,Bv 97 u] [Xb 2 B,Xb 3 D])) (bn 1 90 (c8 3 93 (Pred.dX D.l) (bD 0 λI _=>b7 (F:=Fc.of (B,I) hr) 1 λS _=>bh 1)) (bh 7)) λu=>aZ)) (c8 9 100 (Pred.dX D.l) (bD 0 λJ _=>b7 (F:=Fc.of (B,J) hr) 1 λT _=>AS 1 7 [110,103] (λw=>(bN [Bv 67 false,Bv 73 false,Bv 82 false,Bv 111 w] [Xb 2 B,Xb 3 D])) (bn 1 104 (bh 7) (c8 3 107 (Pred.dX D.l) (bD 0 λL _=>b7 (F:=Fc.of (B,L) hr) 1 λW _=>bh 1))) λw=>aZ))))
end e9
def eH (B:b9) (p1:Pred) (r:(b9×Pred)->Option Bool):Option Bool:=
 a_ (p1.kind==9)
 ((idx p1.l 0).bind λI=>
 (ez B I).bind λJ=>
 (idx p1.l 1).bind λL=>
 (ez B L).bind λO=>
 some (J==O))
 (a_ (p1.kind==10)
 ((idx p1.l 0).bind λQ=>
 (ez B Q).bind λS=>
 (idx p1.l 1).bind λT=>
 (ez B T).bind λU=>
 some (!(S==U)))
 (a_ (p1.kind==11)
 ((idx p1.l 0).bind λW=>
 (ez B W).bind λu=>
 (idx p1.l 1).bind λw=>
 (ez B w).bind λz=>
 some (decide (u<z)))
 (a_ (p1.kind==12)
 ((idx p1.l 0).bind λA=>
 (ez B A).bind λC=>
 (idx p1.l 1).bind λD=>
 (ez B D).bind λG=>
 some (decide (C<=G)))
 (a_ (p1.kind==13)
 (e9.J1 p1.kind true B p1 r)
 (e9.J1 p1.kind (p1.kind==14) B p1 r)))))
open e9 in
theorem vT (r:(b9×Pred)->Option Bool) (hr:dW Sy cL 47 (λz:b9×Pred=>[enc z.1,enc z.2]) (λr:Bool=>[.bool r]) r true) (B:b9) (p1:Pred):Le ((eH B p1 r).bind λr=>some [.bool r]) (fE cL 47 [enc B,enc p1]):=
 (Fc.M 47 [enc B,enc p1] (bU 2 2 B (bU 0 3 p1 (bn 17 7 (c8 6 11 (Pred.dX p1.l) (bD 0 λJ _=>b7 1 λL _=>c8 3 17 (Pred.dX p1.l) (bD 0 λO _=>b7 1 λQ _=>aZ))) (bn 7 22 (c8 6 26 (Pred.dX p1.l) (bD 0 λS _=>b7 1 λT _=>c8 3 32 (Pred.dX p1.l) (bD 0 λU _=>b7 1 λW _=>aZ))) (bn 7 37 (c8 6 41 (Pred.dX p1.l) (bD 0 λX _=>b7 1 λu _=>c8 3 47 (Pred.dX p1.l) (bD 0 λw _=>b7 1 λA _=>aZ))) (bn 7 52 (c8 6 56 (Pred.dX p1.l) (bD 0 λC _=>b7 1 λD _=>c8 3 62 (Pred.dX p1.l) (bD 0 λG _=>b7 1 λI _=>aZ))) (bn 8 67 (gy 4 (gu r hr p1.kind true B p1)) (gy 7 (gu r hr p1.kind (p1.kind==14) B p1))))))))):Fc Sy cL (eH B p1 r)).F.h ()
def e9 (B:b9) (p1:Pred):Option Bool:=cV (λr (z:b9×Pred)=>eH z.1 z.2 r) 100000 (B,p1)
instance JD (B:b9) (p1:Pred):Fc Sy cL (e9 B p1):=Fc.of (B,p1) (dW.fix (A:=λz:b9×Pred=>[enc z.1,enc z.2]) (E:=λr:Bool=>[.bool r]) (sc:=true) (b:=(λr (z:b9×Pred)=>eH z.1 z.2 r)) (by kernel_rfl) (λ_ _=>rfl) (λr hr z=>vT r hr z.1 z.2) 100000)
def iq (D:Trace) (B U:Int) (p3:Pred):Option Bool:=
 (uJ (len D.procs) (0:Int)).bind λu=>
 (uJ (len D.procs) (Sl.nil:Sl Int)).bind λw=>
 (Sl.oC u B).bind λz=>
 (Sl.put u z (U:Int)).bind λA=>
 (qx D B U).bind λC=>
 (Sl.oC w B).bind λG=>
 (Sl.put w G (C.1:Sl Int)).bind λI=>
 (e9 (⟨D,A,I⟩:b9) p3).bind λJ=>
 some J
instance MZ (D:Trace) (B G:Int) (p3:Pred):Fc Sy cL (iq D B G p3):=Fc.M 63 [enc D,.int .i64 B,.int .i64 G,enc p3] (bU 2 4 D (bU 0 7 p3 (cm 8 D.procs (Qy 0 14 λu _=>cm 2 D.procs (Qy 0 18 λw _=>VA 0 [cv D,.own 14,.own 18] [cv D.procs,.own 14,.own 18] [.bW,.bW,.bW] [(0,1),(1,1),(2,1)] (by simp only[Dm,Mj,Pw,LL,Mz,Lr,lH,Uk,Rj,Ux,TE];rfl) (Wm 1 9 0 [cv D.procs,.own 14,.own 18] (by simp only[List.all_cons,TU,PG,SQ,O_,oS,mV,oM,oe,S9];rfl) (tI .i64 8 14 λz _=>Hl 0 14 (.int .i64 G) λA _=>bt 10 λC _=>tI .i64 3 18 λI _=>Vs 0 18 λJ _=>bt 8 λL _=>aZ)))))))
def tF (D:Trace) (B G:Int) (p3:Pred):Option (Bool×Int):=
 (nF D B G p3).bind λu=>
 a_ (u==0)
 ((iq D B G p3).bind λw=>
 some (w,0))
 (some (false,u))
instance PW (D:Trace) (B G:Int) (p3:Pred):Fc Sy cL (tF D B G p3):=Fc.M 35 [enc D,.int .i64 B,.int .i64 G,enc p3] (bU 2 4 D (bU 0 7 p3 (bt 11 λu _=>cG 9 17 (bt 9 λw _=>aZ) aZ)))
namespace eE
def bz (D J:Int) (U:Trace) (W:Pred) (B:Sl Bool) (G:Int):Option (Fw ((Sl Bool)×Int) (Sl Bool) Empty):=
 a_ (decide (G<J))
 ((iq U D G W).bind λu=>
 (jr B (u:Bool)).bind λw=>
 some (.n (w,IntKind.wrap .i64 (G+1))))
 (some (.x B))
def W1 (B:Int) (D:Sl Bool) (G J:Int) (U:Trace) (W:Pred):Option ((Sl Bool)×Int):=
 (bV (λq:(Sl Bool)×Int=>bz B G U W q.1 q.2) (D,J)).bind (Fw.elim
 (λe=>some (e,0))
 (λe=>Empty.elim e))
end eE
def eE (D:Trace) (B:Int) (p2:Pred):Option ((Sl Bool)×Int):=
 (nF D B 0 p2).bind λu=>
 a_ (u==0)
 ((idx D.procs B).bind λw=>
 eE.W1 B (Sl.nil:Sl Bool) (IntKind.wrap .i64 ((len w.events)+1)) 0 D p2)
 (some (Sl.nil,u))
open eE in
instance NY (D:Trace) (B:Int) (p2:Pred):Fc Sy cL (eE D B p2):=Fc.N 33 [enc D,.int .i64 B,enc p2] (bU 2 3 D (bU 0 5 p2 (bt 10 λA _=>cG 9 16 (bD 14 λw _=>cm 2 w.events (jN 7 (λu=>(bN [Iv 1 B,Pv 3,Pv 5,Ov 9,Iv 25 (IntKind.wrap .i64 ((len w.events)+1)),Iv 26 u.2] [Xb 3 D,Xb 5 p2,Lb 2009 u.1])) (λz=>(0,(bN [Ov 9] [Lb 2009 z]))) (λu=>bn 8 27 (bt 17 λC _=>xd 1 2009 35 36 λG _=>aZ) aZ) (λz=>aZ))) aZ)))
def oF (B:Int):Option Bool:=
 (a_ (decide (B>=65))
 (some (decide (B<=90)))
 (some false):Option Bool).bind λu=>
 (a_ u
 (some true)
 ((a_ (decide (B>=97))
 (some (decide (B<=122)))
 (some false):Option Bool).bind λw=>
 some w):Option Bool).bind λz=>
 some z
instance Qk (B:Int):Fc Sy cL (oF B):=Fc.M 151 [.int .u8 B] (bC 10 3 [5] 8 (bn 10 5 (bh 3) (bh 3)) λu=>bC 1 7 [0,9] 16 (bn 1 9 (bh 7) (bC 3 3 [0,12] 15 (bn 3 12 (bh 3) (bh 3)) λw=>bh 1)) λz=>aZ)
def sF (B:Int):Option Bool:=
 (a_ (decide (B>=48))
 (some (decide (B<=57)))
 (some false):Option Bool).bind λu=>
 some u
instance R3 (B:Int):Fc Sy cL (sF B):=Fc.M 152 [.int .u8 B] (bC 10 3 [0,5] 8 (bn 10 5 (bh 3) (bh 3)) λu=>aZ)
namespace gP
def bz (s0:ByteArray) (i3:Int):Option (Fw Int Unit Unit):=
 a_ (decide (i3<((ByteArray.size s0:Nat):Int)))
 ((kE s0 i3).bind λz=>
 (oF z).bind λA=>
 (a_ A
 (some false)
 ((kE s0 i3).bind λB=>
 (sF B).bind λC=>
 some (!C)):Option Bool).bind λD=>
 (a_ D
 ((kE s0 i3).bind λu=>
 some (!(u==95)))
 (some false):Option Bool).bind λw=>
 a_ w
 (some (.r ()))
 (some (.n (IntKind.wrap .i64 (i3+1)))))
 (some (.x ()))
def W1 (s0:ByteArray) (i3:Int):Option Bool:=
 (bV (λq:Int=>bz s0 q) i3).bind (Fw.elim
 (λe=>some true)
 (λe=>some false))
end gP
def gP (s0:ByteArray):Option Bool:=
 (a_ (decide (((ByteArray.size s0:Nat):Int)<1))
 (some true)
 (some (decide (((ByteArray.size s0:Nat):Int)>16))):Option Bool).bind λu=>
 (a_ u
 (some true)
 ((kE s0 0).bind λw=>
 (oF w).bind λz=>
 some (!z)):Option Bool).bind λA=>
 a_ A
 (some false)
 (gP.W1 s0 1)
open gP in
instance Ti (s0:ByteArray):Fc Sy cL (gP s0):=Fc.M 113 [.str s0] (bC 12 4 [7] 11 (bn 12 7 (bh 4) (bh 4)) λB=>bC 1 5 [12] 17 (bn 1 12 (bh 5) (zT 1 .i64 λC _=>bt 0 λD _=>bh 2)) λG=>bn 2 17 aZ (dP 11 (λw=>(bN [(0,.v (.str s0)),Iv 3 w] [])) (λu=>(0,(bN [] []))) (λu=>(bN [Bv 2 false] [])) (λw=>bn 10 21 (zT 9 .i64 λI _=>bt 0 λJ _=>bC 2 6 [29] 35 (cG 2 29 (bh 6) (zT 2 .i64 λL _=>bt 0 λO _=>bh 2)) λQ=>bC 1 5 [36] 41 (bn 1 36 (zT 2 .i64 λz _=>bh 2) (bh 5)) λA=>bn 2 41 aZ aZ) aZ) (λu=>aZ) (λu=>aZ)))
def pX (B:Int):Option Bool:=
 (a_ (decide (B>=(-1073741824)))
 (some (decide (B<=1073741824)))
 (some false):Option Bool).bind λu=>
 some u
instance Tf (B:Int):Fc Sy cL (pX B):=Fc.M 114 [.int .i64 B] (bC 10 3 [0,5] 8 (bn 10 5 (bh 3) (bh 3)) λu=>aZ)
namespace dR
def eW (G:Int) (B:bQ) (D:Int):Option (Fw Int Unit Unit):=
 a_ (decide (D<G))
 ((idx B.vars D).bind λu=>
 (idx B.vars G).bind λw=>
 a_ (ByteArray.toList u.name==ByteArray.toList w.name)
 (some (.r ()))
 (some (.n (IntKind.wrap .i64 (D+1)))))
 (some (.x ()))
def W3 (D G:Int) (B:bQ):Option (Fw Int Unit Int):=
 (bV (λq:Int=>eW D B q) G).bind (Fw.elim
 (λe=>(idx B.vars D).bind λu=>
 (pX u.init_).bind λw=>
 a_ w
 (some (.n (IntKind.wrap .i64 (D+1))))
 (some (.r 2)))
 (λe=>some (.r 13)))
def cq (B:bQ) (D:Int):Option (Fw Int Unit Int):=
 a_ (decide (D<(len B.vars)))
 ((idx B.vars D).bind λu=>
 (gP u.name).bind λw=>
 a_ w
 (W3 D 0 B)
 (some (.r 13)))
 (some (.x ()))
def W2 (D:Int) (B:bQ):Option Int:=
 (bV (λq:Int=>cq B q) D).bind (Fw.elim
 (λe=>a_ (decide ((len B.events)>64))
 (some 5)
 (some 0))
 (λe=>some e))
def bz (p1:Int) (B:Trace) (D:bQ) (G:Int):Option (Fw Int Unit Unit):=
 a_ (decide (G<p1))
 ((idx B.procs G).bind λu=>
 a_ (ByteArray.toList u.name==ByteArray.toList D.name)
 (some (.r ()))
 (some (.n (IntKind.wrap .i64 (G+1)))))
 (some (.x ()))
def W1 (p1 G:Int) (D:Trace) (B:bQ):Option Int:=
 (bV (λq:Int=>bz p1 D B q) G).bind (Fw.elim
 (λe=>a_ (decide ((len B.vars)>8))
 (some 5)
 (dR.W2 0 B))
 (λe=>some 13))
end dR
def dR (B:Trace) (p1:Int):Option Int:=
 (idx B.procs p1).bind λu=>
 (gP u.name).bind λw=>
 a_ w
 (dR.W1 p1 0 B u)
 (some 13)
open dR in
instance Tz (G:Trace) (p1:Int):Fc Sy cL (dR G p1):=Fc.M 77 [enc G,.int .i64 p1] (bU 2 2 G (bD 8 λu _=>qB 2 5 0 u (bt 7 λI _=>cG 3 17 (dP 11 (λC=>(bN [Iv 1 p1,Pv 2,Pv 5,Iv 6 C] [Xb 2 G,Xb 5 u])) (λA=>(0,(bN [Pv 5] [Xb 5 u]))) (λA=>(bN [Iv 4 13] [])) (λC=>bn 9 20 (bD 10 λJ _=>bn 7 31 aZ aZ) aZ) (λA=>cm 7 u.vars (bn 3 35 aZ (dP 11 (λw=>(bN [Pv 5,Iv 7 w] [Xb 5 u])) (λz=>(2,(bN [Pv 5] [Xb 5 u]))) (λz=>(bN [Iv 4 z] [])) (λw=>cm 7 u.vars (bn 3 40 (bD 11 λL _=>bt 2 λO _=>cG 3 50 (dP 11 (λD=>(bN [Pv 5,Iv 7 w,Iv 8 D] [Xb 5 u])) (λB=>(4,(bN [Pv 5,Iv 7 w] [Xb 5 u]))) (λB=>(bN [Iv 4 13] [])) (λD=>bn 9 53 (bD 10 λQ _=>bD 5 λS _=>bn 5 68 aZ aZ) aZ) (λB=>bD 7 λT _=>bt 2 λU _=>cG 3 76 aZ aZ) (λB=>aZ)) aZ) aZ)) (λz=>cm 7 u.events (bn 3 80 aZ aZ)) (λz=>aZ)))) (λA=>aZ)) aZ)))
namespace dU
def eW (p1 J:Int) (U:Trace) (D:Event) (G:Assign) (B:Int):Option (Fw Int Unit Unit):=
 a_ (decide (B<J))
 ((idx D.assign B).bind λu=>
 a_ (u.var==G.var)
 (some (.r ()))
 (some (.n (IntKind.wrap .i64 (B+1)))))
 (some (.x ()))
def W3 (p1 U B:Int) (D:Trace) (G:Event) (J:Assign):Option (Fw Int Unit Int):=
 (bV (λq:Int=>eW p1 U D G J q) B).bind (Fw.elim
 (λe=>some (.n (IntKind.wrap .i64 (U+1))))
 (λe=>some (.r 8)))
def cq (p1:Int) (D:Trace) (B:Event) (G:Int):Option (Fw Int Unit Int):=
 a_ (decide (G<(len B.assign)))
 ((idx B.assign G).bind λu=>
 (a_ (decide (u.var<0))
 (some true)
 ((idx D.procs p1).bind λw=>
 some (decide (u.var>=(len w.vars)))):Option Bool).bind λz=>
 (a_ z
 (some true)
 ((pX u.value).bind λA=>
 some (!A)):Option Bool).bind λC=>
 a_ C
 (some (.r 2))
 (W3 p1 G 0 D B u))
 (some (.x ()))
def W2 (p1 G:Int) (B:Trace) (D:Event):Option Int:=
 (bV (λq:Int=>cq p1 B D q) G).bind (Fw.elim
 (λe=>some 0)
 (λe=>some e))
def J1 (p1 i2:Int) (D:Trace) (B:Event):Option Int:=
 (a_ (decide (B.time<0))
 (some true)
 (some (decide (B.time>1099511627776))):Option Bool).bind λu=>
 (a_ u
 (some true)
 ((a_ (decide (i2>0))
 ((idx D.procs p1).bind λw=>
 (idx w.events (IntKind.wrap .i64 (i2-1))).bind λz=>
 some (decide (B.time<z.time)))
 (some false):Option Bool).bind λA=>
 some A):Option Bool).bind λC=>
 a_ C
 (some 11)
 (a_ (decide ((len B.assign)>8))
 (some 5)
 (dU.W2 p1 0 D B))
theorem gu (p1 i2:Int) (D:Trace) (B:Event):Le ((J1 p1 i2 D B).bind (λr=>some [.int .i64 r])) (cg Sy cL (k7 (tr Tx 78)) (mb (tb Tx 78) [1,1,1,0] [] (bN [Iv 1 p1,Iv 2 i2,Pv 3,Pv 7] [Xb 3 D,Xb 7 B]))):=
 bC 7 4 [71] 75 (bn 7 71 (bh 4) (bh 4)) λJ=>bC 1 19 [2,76] 95 (bn 1 76 (bh 19) (bC 3 15 [2,79] 94 (bn 3 79 (bD 5 λL _=>bD 4 λO _=>bh 4) (bh 15)) λQ=>bh 1)) λS=>bn 2 95 aZ (cm 8 B.assign (bn 3 99 aZ (dP 11 (λu=>(bN [Iv 1 p1,Pv 3,Pv 7,Iv 8 u] [Xb 3 D,Xb 7 B])) (λw=>(0,(bN [] []))) (λw=>(bN [Iv 6 w] [])) (λu=>cm 7 B.assign (bn 3 104 (bD 10 λz _=>bC 12 11 [115] 126 (bn 12 115 (bh 11) (bD 5 λG _=>cm 2 G.vars (bh 2))) λT=>AS 1 5 [130] (λA=>(bN [Iv 1 p1,Pv 3,Pv 7,Iv 8 u,Bv 104 true,Pv 9,Bv 132 A] [Xb 3 D,Xb 7 B,Xb 9 z])) (bn 1 127 (bh 5) (b7 2 λU _=>bh 2)) λA=>bn 2 132 aZ (dP 10 (λI=>(bN [Iv 1 p1,Pv 3,Pv 7,Iv 8 u,Pv 9,Iv 10 I] [Xb 3 D,Xb 7 B,Xb 9 z])) (λC=>(2,(bN [Iv 1 p1,Pv 3,Pv 7,Iv 8 u] [Xb 3 D,Xb 7 B]))) (λC=>(bN [Iv 6 8] [])) (λI=>bn 9 135 (bD 10 λW _=>bn 7 146 aZ aZ) aZ) (λC=>aZ) (λC=>aZ))) aZ)) (λw=>aZ) (λw=>aZ))))
end dU
def dU (B:Trace) (p1 i2:Int):Option Int:=
 (idx B.procs p1).bind λw=>
 (idx w.events i2).bind λu=>
 a_ (u.kind==1)
 ((a_ (u.peer==0)
 (some (!(u.message==0)))
 (some true):Option Bool).bind λz=>
 a_ z
 (some 3)
 (dU.J1 p1 i2 B u))
 ((a_ (u.kind==2)
 (some false)
 (some (!(u.kind==3))):Option Bool).bind λA=>
 (a_ A
 (some true)
 (some (decide (u.peer<0))):Option Bool).bind λC=>
 (a_ C
 (some true)
 (some (decide (u.peer>=(len B.procs)))):Option Bool).bind λD=>
 (a_ D
 (some true)
 (some (u.peer==p1)):Option Bool).bind λG=>
 (a_ G
 (some true)
 (some (decide (u.message<0))):Option Bool).bind λI=>
 (a_ I
 (some true)
 (some (decide (u.message>199))):Option Bool).bind λJ=>
 a_ J
 (some 3)
 (dU.J1 p1 i2 B u))
open dU in
instance Th (B:Trace) (p1 i2:Int):Fc Sy cL (dU B p1 i2):=Fc.M 78 [enc B,.int .i64 p1,.int .i64 i2] (bU 2 3 B (bD 8 λw _=>bD 3 λu _=>qB 2 7 0 u (bn 10 22 (bC 7 4 [26] 30 (cG 7 26 (bh 4) (bh 4)) λz=>bn 2 30 aZ (gy 4 (gu p1 i2 B u))) (bC 7 4 [34] 38 (cG 7 34 (bh 4) (bh 4)) λA=>bC 1 4 [39] 43 (bn 1 39 (bh 4) (bh 4)) λC=>bC 1 7 [44] 51 (bn 1 44 (bh 7) (cm 4 B.procs (bh 2))) λD=>bC 1 5 [52] 57 (bn 1 52 (bh 5) (bh 5)) λG=>bC 1 4 [58] 62 (bn 1 58 (bh 4) (bh 4)) λI=>bC 1 4 [63] 67 (bn 1 63 (bh 4) (bh 4)) λJ=>bn 2 67 aZ (gy 4 (gu p1 i2 B u))))))
namespace iy
def bz (G:Trace) (J:aY) (D:Event) (B:Bool) (U:Int):Option (Fw (Bool×Int) Bool Empty):=
 (idx G.procs D.peer).bind λw=>
 a_ (decide (U<(len w.events)))
 ((idx G.procs D.peer).bind λz=>
 (idx z.events U).bind λu=>
 (a_ B
 (some true)
 ((a_ (u.kind==2)
 (some (u.message==D.message))
 (some false):Option Bool).bind λA=>
 (a_ A
 (some (u.peer==J.proc))
 (some false):Option Bool).bind λC=>
 some C):Option Bool).bind λI=>
 some (.n (I,IntKind.wrap .i64 (U+1))))
 (some (.x B))
def W1 (B:Bool) (U:Int) (D:Trace) (G:aY) (J:Event):Option Int:=
 (bV (λq:Bool×Int=>bz D G J q.1 q.2) (B,U)).bind (Fw.elim
 (λe=>a_ e
 (some 0)
 (some 7))
 (λe=>Empty.elim e))
end iy
def iy (B:Trace) (D:aY):Option Int:=
 (uc B D).bind λu=>
 a_ (u.kind==1)
 (some 0)
 ((dJ B u.kind u.message).bind λw=>
 a_ (Jy w D)
 (a_ (u.kind==3)
 (iy.W1 false 0 B D u)
 (some 0))
 (some 8))
open iy in
instance Q7 (B:Trace) (D:aY):Fc Sy cL (iy B D):=Fc.M 79 [enc B,enc D] (bU 2 2 B (bt 8 λw _=>qB 1 5 0 w (bn 10 14 aZ (b7 11 λG _=>cG 4 22 (bn 11 25 (jN 14 (λu=>(bN [Pv 2,Pv 3,Pv 5,Bv 6 u.1,Iv 7 u.2] [Xb 2 B,Xb 3 D,Xb 5 w])) (λz=>(0,(bN [Bv 6 z] []))) (λu=>bD 9 λA _=>cm 2 A.events (bn 3 35 (bD 11 λI _=>bD 3 λC _=>qB 2 8 0 C (bC 5 18 [8,49] 67 (bn 5 49 (bh 18) (bC 4 6 [53] 59 (bn 4 53 (bh 6) (bh 6)) λJ=>bC 1 6 [8,60] 66 (bn 1 60 (bh 6) (bh 6)) λL=>bh 1)) λO=>aZ)) aZ)) (λz=>cG 8 69 aZ aZ)) aZ) aZ))))
namespace ec
def J4 (B:Sl Int) (p5:Int) (D:Trace):Option (Fw ((Sl Int)×Bool) ((Sl Int)×Bool) Empty):=
 (Sl.oC B p5).bind λu=>
 (Sl.get B u).bind λw=>
 (Sl.oC B p5).bind λz=>
 (Sl.put B z (IntKind.wrap .i64 (w+1):Int)).bind λA=>
 some (.n (A,true))
def eW (p5:Int) (G:Trace) (B:Sl Int) (D:Bool):Option (Fw ((Sl Int)×Bool) ((Sl Int)×Bool) Empty):=
 (Sl.oC B p5).bind λC=>
 (Sl.get B C).bind λI=>
 (idx G.procs p5).bind λJ=>
 a_ (decide (I<(len J.events)))
 ((idx G.procs p5).bind λL=>
 (Sl.oC B p5).bind λO=>
 (Sl.get B O).bind λQ=>
 (idx L.events Q).bind λu=>
 a_ (u.kind==3)
 ((dJ G 2 u.message).bind λw=>
 (Sl.oC B w.proc).bind λz=>
 (Sl.get B z).bind λA=>
 a_ (decide (A<w.index))
 (some (.x (B,D)))
 (J4 B p5 G))
 (J4 B p5 G))
 (some (.x (B,D)))
def W3 (D:Sl Int) (B:Bool) (p5:Int) (G:Trace):Option (Fw ((Sl Int)×Bool×Int) ((Sl Int)×Bool) Empty):=
 (bV (λq:(Sl Int)×Bool=>eW p5 G q.1 q.2) (D,B)).bind (Fw.elim
 (λe=>some (.n (e.1,e.2,IntKind.wrap .i64 (p5+1))))
 (λe=>Empty.elim e))
def cq (G:Trace) (D:Sl Int) (B:Bool) (p5:Int):Option (Fw ((Sl Int)×Bool×Int) ((Sl Int)×Bool) Empty):=
 a_ (decide (p5<(len G.procs)))
 (W3 D B p5 G)
 (some (.x (D,B)))
def W2 (D:Sl Int) (B:Bool) (p5:Int) (G:Trace):Option (Fw (Sl Int) (Sl Int) Empty):=
 (bV (λq:(Sl Int)×Bool×Int=>cq G q.1 q.2.1 q.2.2) (D,B,p5)).bind (Fw.elim
 (λe=>a_ e.2
 (some (.n e.1))
 (some (.x e.1)))
 (λe=>Empty.elim e))
def xY (B:Sl Int) (D:Trace) (G:Int):Option (Fw Int Unit Unit):=
 a_ (decide (G<(len D.procs)))
 ((Sl.oC B G).bind λu=>
 (Sl.get B u).bind λw=>
 (idx D.procs G).bind λz=>
 a_ (decide (w<(len z.events)))
 (some (.r ()))
 (some (.n (IntKind.wrap .i64 (G+1)))))
 (some (.x ()))
def W5 (B:Sl Int) (G:Int) (D:Trace):Option Bool:=
 (bV (λq:Int=>xY B D q) G).bind (Fw.elim
 (λe=>some true)
 (λe=>some false))
def bz (D:Trace) (B:Sl Int):Option (Fw (Sl Int) (Sl Int) Empty):=
 W2 B false 0 D
def W1 (B:Sl Int) (D:Trace):Option Bool:=
 (bV (λq:Sl Int=>bz D q) B).bind (Fw.elim
 (λe=>ec.W5 e 0 D)
 (λe=>Empty.elim e))
end ec
def ec (B:Trace):Option Bool:=
 (uJ (len B.procs) (0:Int)).bind λu=>
 ec.W1 u B
open ec in
instance N0 (B:Trace):Fc Sy cL (ec B):=Fc.M 80 [enc B] (bU 2 1 B (cm 7 B.procs (Qy 0 12 λad _=>jN 7 (λL=>(bN [Pv 1,Ov 3] [Xb 1 B,Lb 2003 L])) (λC=>(0,(bN [Pv 1,Ov 3] [Xb 1 B,Lb 2003 C]))) (λL=>jN 17 (λw=>(bN [Pv 1,Ov 3,Bv 4 w.2.1,Iv 5 w.2.2] [Xb 1 B,Lb 2003 w.1])) (λD=>(2,(bN [Pv 1,Ov 3,Bv 4 D.2] [Xb 1 B,Lb 2003 D.1]))) (λw=>cm 8 B.procs (bn 3 17 (jN 8 (λG=>(bN [Pv 1,Ov 3,Bv 4 G.2,Iv 5 w.2.2] [Xb 1 B,Lb 2003 G.1])) (λI=>(4,(bN [Pv 1,Ov 3,Bv 4 I.2,Iv 5 w.2.2] [Xb 1 B,Lb 2003 I.1]))) (λG=>tI .i64 7 2003 λae _=>BU 0 2003 0 1 false (λO=>.int .i64 O) λO _=>bD 3 λY _=>cm 2 Y.events (bn 3 31 (bD 9 λaf _=>tI .i64 4 2003 λah _=>BU 0 2003 0 1 false (λQ=>.int .i64 Q) λQ _=>bD 0 λZ _=>qB 2 6 0 Z (bn 10 46 (bt 6 λai _=>tI .i64 9 2003 λaa _=>BU 0 2003 0 1 false (λz=>.int .i64 z) λz _=>bn 5 58 aZ (o5 5 (tI .i64 4 2003 λS _=>BU 0 2003 0 1 false (λu=>.int .i64 u) λu _=>tI .i64 1 2003 λT _=>Hl 0 2003 (.int .i64 (IntKind.wrap .i64 (u+1))) λU _=>aZ))) (o5 5 (tI .i64 4 2003 λS _=>BU 0 2003 0 1 false (λu=>.int .i64 u) λu _=>tI .i64 1 2003 λT _=>Hl 0 2003 (.int .i64 (IntKind.wrap .i64 (u+1))) λU _=>aZ)))) aZ)) (λI=>aZ)) aZ)) (λD=>cG 8 66 aZ aZ)) (λC=>dP 11 (λW=>(bN [Pv 1,Ov 3,Iv 8 W] [Xb 1 B,Lb 2003 C])) (λJ=>(6,(bN [] []))) (λJ=>(bN [Bv 2 false] [])) (λW=>cm 8 B.procs (bn 3 71 (tI .i64 9 2003 λab _=>BU 0 2003 0 1 false (λA=>.int .i64 A) λA _=>bD 3 λX _=>cm 2 X.events (bn 3 85 aZ aZ)) aZ)) (λJ=>aZ) (λJ=>aZ)))))
instance To (t:Trace) (x:aY):Fc Sy cL (mY t x):=Fc.of (A:=λz:Trace×aY=>[enc z.1,enc z.2]) (E:=λr:Sl (Sl Bool)=>[enc r]) (p:=λz=>mY z.1 z.2) (n:=81) (z:=(t,x)) (dW.Wo (by kernel_rfl) (by kernel_rfl) (λz r hr=>PU z.1 z.2 r hr))
namespace cR
def eW (p6:Int) (B:Trace) (G:aY) (D:Int):Option (Fw Int Unit (Int×aY)):=
 (idx B.procs p6).bind λw=>
 a_ (decide (D<(len w.events)))
 ((dU B p6 D).bind λu=>
 a_ (u==0)
 (some (.n (IntKind.wrap .i64 (D+1))))
 (some (.r (u,(⟨p6,IntKind.wrap .i64 (D+1)⟩:aY)))))
 (some (.x ()))
def W3 (p6 G:Int) (B:Trace) (D:aY):Option (Fw Int Unit (Int×aY)):=
 (bV (λq:Int=>eW p6 B D q) G).bind (Fw.elim
 (λe=>some (.n (IntKind.wrap .i64 (p6+1))))
 (λe=>some (.r (e.1,e.2))))
def xY (G:Int) (D:Trace) (J:aY) (B:Int):Option (Fw Int Unit (Int×aY)):=
 (idx D.procs G).bind λw=>
 a_ (decide (B<(len w.events)))
 ((iy D (⟨G,IntKind.wrap .i64 (B+1)⟩:aY)).bind λu=>
 a_ (u==0)
 (some (.n (IntKind.wrap .i64 (B+1))))
 (some (.r (u,(⟨G,IntKind.wrap .i64 (B+1)⟩:aY)))))
 (some (.x ()))
def W5 (J B:Int) (D:Trace) (G:aY):Option (Fw Int Unit (Int×aY)):=
 (bV (λq:Int=>xY J D G q) B).bind (Fw.elim
 (λe=>some (.n (IntKind.wrap .i64 (J+1))))
 (λe=>some (.r (e.1,e.2))))
def Jf (D:Int) (G:Trace) (J:aY) (B:Int):Option (Fw Int Unit aY):=
 (idx G.procs D).bind λw=>
 a_ (decide (B<(len w.events)))
 ((mY G (⟨D,IntKind.wrap .i64 (B+1)⟩:aY)).bind λz=>
 (idx z D).bind λA=>
 (idx A (IntKind.wrap .i64 (B+1))).bind λu=>
 a_ u
 (some (.r (⟨D,IntKind.wrap .i64 (B+1)⟩:aY)))
 (some (.n (IntKind.wrap .i64 (B+1)))))
 (some (.x ()))
def W7 (B D:Int) (G:Trace) (J:aY):Option (Fw Int Unit aY):=
 (bV (λq:Int=>Jf B G J q) D).bind (Fw.elim
 (λe=>some (.n (IntKind.wrap .i64 (B+1))))
 (λe=>some (.r e)))
def Jx (B:Trace) (G:aY) (D:Int):Option (Fw Int Unit aY):=
 a_ (decide (D<(len B.procs)))
 (W7 D 0 B G)
 (some (.x ()))
def W6 (B:Int) (D:Trace) (G:aY):Option (aY×Int):=
 (bV (λq:Int=>Jx D G q) B).bind (Fw.elim
 (λe=>some (⟨0,0⟩,0))
 (λe=>some (e,10)))
def JC (B:Trace) (D:aY) (G:Int):Option (Fw Int Unit (Int×aY)):=
 a_ (decide (G<(len B.procs)))
 (W5 G 0 B D)
 (some (.x ()))
def W4 (G:Int) (B:Trace) (D:aY):Option (aY×Int):=
 (bV (λq:Int=>JC B D q) G).bind (Fw.elim
 (λe=>(ec B).bind λu=>
 a_ u
 (some (⟨0,0⟩,0))
 (cR.W6 0 B D))
 (λe=>some (e.2,e.1)))
def cq (B:Trace) (D:aY) (p6:Int):Option (Fw Int Unit (Int×aY)):=
 a_ (decide (p6<(len B.procs)))
 (W3 p6 0 B D)
 (some (.x ()))
def W2 (p6:Int) (B:Trace) (D:aY):Option (aY×Int):=
 (bV (λq:Int=>cq B D q) p6).bind (Fw.elim
 (λe=>cR.W4 0 B D)
 (λe=>some (e.2,e.1)))
def bz (B:Trace) (D:aY) (p4:Int):Option (Fw Int Unit (Int×aY)):=
 a_ (decide (p4<(len B.procs)))
 ((dR B p4).bind λu=>
 a_ (u==0)
 (some (.n (IntKind.wrap .i64 (p4+1))))
 (some (.r (u,(⟨p4,0⟩:aY)))))
 (some (.x ()))
def W1 (p4:Int) (B:Trace) (D:aY):Option (aY×Int):=
 (bV (λq:Int=>bz B D q) p4).bind (Fw.elim
 (λe=>cR.W2 0 B D)
 (λe=>some (e.2,e.1)))
end cR
def cR (B:Trace):Option (aY×Int):=
 (a_ (decide ((len B.procs)<1))
 (some true)
 (some (decide ((len B.procs)>8))):Option Bool).bind λu=>
 a_ u
 (some (⟨0,0⟩,1))
 (cR.W1 0 B (⟨0,0⟩:aY))
open cR in
instance Sf (B:Trace):Fc Sy cL (cR B):=Fc.M 53 [enc B] (bU 2 1 B (cm 9 B.procs (bC 2 5 [20] 25 (bn 2 20 (bh 5) (cm 2 B.procs (bh 2))) λaa=>bn 2 25 aZ (dP 11 (λO=>(bN [Pv 1,Pv 2,Iv 4 O] [Xb 1 B,Xb 2 (⟨0,0⟩:aY)])) (λu=>(0,(bN [Pv 1,Pv 2] [Xb 1 B,Xb 2 (⟨0,0⟩:aY)]))) (λu=>(bN [Pv 2,Iv 3 u.1] [Xb 2 u.2])) (λO=>cm 7 B.procs (bn 3 31 (bt 9 λab _=>cG 9 38 aZ aZ) aZ)) (λu=>dP 10 (λD=>(bN [Pv 1,Pv 2,Iv 6 D] [Xb 1 B,Xb 2 (⟨0,0⟩:aY)])) (λw=>(2,(bN [Pv 1,Pv 2] [Xb 1 B,Xb 2 (⟨0,0⟩:aY)]))) (λw=>(bN [Pv 2,Iv 3 w.1] [Xb 2 w.2])) (λD=>cm 7 B.procs (bn 3 46 (dP 12 (λQ=>(bN [Pv 1,Pv 2,Iv 6 D,Iv 7 Q] [Xb 1 B,Xb 2 (⟨0,0⟩:aY)])) (λz=>(4,(bN [Pv 1,Pv 2,Iv 6 D] [Xb 1 B,Xb 2 (⟨0,0⟩:aY)]))) (λz=>(bN [Pv 2,Iv 3 z.1] [Xb 2 z.2])) (λQ=>bD 8 λU _=>cm 2 U.events (bn 3 57 (bt 10 λad _=>cG 9 65 aZ aZ) aZ)) (λz=>aZ) (λz=>aZ)) aZ)) (λw=>dP 10 (λG=>(bN [Pv 1,Pv 2,Iv 9 G] [Xb 1 B,Xb 2 (⟨0,0⟩:aY)])) (λA=>(6,(bN [Pv 1,Pv 2] [Xb 1 B,Xb 2 (⟨0,0⟩:aY)]))) (λA=>(bN [Pv 2,Iv 3 A.1] [Xb 2 A.2])) (λG=>cm 7 B.procs (bn 3 75 (dP 12 (λS=>(bN [Pv 1,Pv 2,Iv 9 G,Iv 10 S] [Xb 1 B,Xb 2 (⟨0,0⟩:aY)])) (λC=>(8,(bN [Pv 1,Pv 2,Iv 9 G] [Xb 1 B,Xb 2 (⟨0,0⟩:aY)]))) (λC=>(bN [Pv 2,Iv 3 C.1] [Xb 2 C.2])) (λS=>bD 8 λW _=>cm 2 W.events (bn 3 86 (bt 19 λae _=>cG 9 97 aZ aZ) aZ)) (λC=>aZ) (λC=>aZ)) aZ)) (λA=>bt 6 λY _=>bn 2 101 aZ (dP 11 (λI=>(bN [Pv 1,Pv 2,Iv 13 I] [Xb 1 B,Xb 2 (⟨0,0⟩:aY)])) (λJ=>(10,(bN [Pv 2] [Xb 2 (⟨0,0⟩:aY)]))) (λJ=>(bN [Pv 2,Iv 3 10] [Xb 2 J])) (λI=>cm 7 B.procs (bn 3 107 (dP 12 (λT=>(bN [Pv 1,Pv 2,Iv 13 I,Iv 14 T] [Xb 1 B,Xb 2 (⟨0,0⟩:aY)])) (λL=>(12,(bN [Pv 1,Pv 2,Iv 13 I] [Xb 1 B,Xb 2 (⟨0,0⟩:aY)]))) (λL=>(bN [Pv 2,Iv 3 10] [Xb 2 L])) (λT=>bD 8 λX _=>cm 2 X.events (bn 3 118 (bt 19 λaf _=>bD 1 λah _=>bD 3 λZ _=>bn 3 134 aZ aZ) aZ)) (λL=>aZ) (λL=>aZ)) aZ)) (λJ=>aZ) (λJ=>aZ))) (λA=>aZ)) (λw=>aZ)) (λu=>aZ)))))
def sj (B:Trace):Option Bool:=
 (cR B).bind λu=>
 some (u.2==0)
instance SK (B:Trace):Fc Sy cL (sj B):=Fc.M 21 [enc B] (bU 2 1 B (bt 6 λu _=>aZ))
namespace jJ
def bz (B:Int) (D:Pred) (G J:Int) (r:(Pred×Int)->Option Int):Option (Fw (Int×Int) Int Empty):=
 (a_ (decide (J<(len D.l)))
 (some (decide (G<=B)))
 (some false):Option Bool).bind λu=>
 a_ u
 ((idx D.l J).bind λw=>
 (r (w,IntKind.wrap .i64 (B-G))).bind λz=>
 some (.n (IntKind.wrap .i64 (G+z),IntKind.wrap .i64 (J+1))))
 (some (.x G))
def W1 (B G J:Int) (D:Pred) (r:(Pred×Int)->Option Int):Option Int:=
 (bV (λq:Int×Int=>bz B D q.1 q.2 r) (G,J)).bind (Fw.elim
 (λe=>some e)
 (λe=>Empty.elim e))
end jJ
def gN (D:Pred) (B:Int) (r:(Pred×Int)->Option Int):Option Int:=
 jJ.W1 B 1 0 D r
open jJ in
theorem A1 (r:(Pred×Int)->Option Int) (hr:dW Sy cL 134 (λz:Pred×Int=>[enc z.1,.int .i64 z.2]) (λr:Int=>[.int .i64 r]) r true) (D:Pred) (B:Int):Le ((gN D B r).bind λr=>some [.int .i64 r]) (fE cL 134 [enc D,.int .i64 B]):=
 (Fc.M 134 [enc D,.int .i64 B] (bU 2 2 D (jN 16 (λu=>(bN [Iv 1 B,Pv 2,Iv 5 u.1,Iv 6 u.2] [Xb 2 D])) (λw=>(0,(bN [Iv 5 w] []))) (λu=>c8 7 9 (Pred.dX D.l) (cm 0 D.l (bC 2 4 [12] 16 (bn 2 12 (bh 4) (bh 4)) λC=>bn 2 16 (c8 9 21 (Pred.dX D.l) (bD 1 λA _=>bt (F:=Fc.of (A,IntKind.wrap .i64 (B-u.1)) hr) 4 λG _=>aZ)) aZ))) (λw=>aZ))):Fc Sy cL (gN D B r)).F.h ()
def jJ (D:Pred) (B:Int):Option Int:=cV (λr (z:Pred×Int)=>gN z.1 z.2 r) 100000 (D,B)
instance SX (D:Pred) (B:Int):Fc Sy cL (jJ D B):=Fc.of (D,B) (dW.fix (A:=λz:Pred×Int=>[enc z.1,.int .i64 z.2]) (E:=λr:Int=>[.int .i64 r]) (sc:=true) (b:=(λr (z:Pred×Int)=>gN z.1 z.2 r)) (by kernel_rfl) (λ_ _=>rfl) (λr hr z=>A1 r hr z.1 z.2) 100000)
def xh (B:Pred):Option Int:=
 (jJ B 200).bind λu=>
 some (if 201<u then 201 else u)
instance Tt (B:Pred):Fc Sy cL (xh B):=Fc.M 91 [enc B] (bU 2 1 B (bt 6 λu _=>aZ))
namespace jb
def bz (B:Int) (D:Pred) (G J:Int) (r:(Pred×Int)->Option Int):Option (Fw (Int×Int) Int Empty):=
 a_ (decide (J<(len D.l)))
 ((idx D.l J).bind λw=>
 (r (w,IntKind.wrap .i64 (B-1))).bind λu=>
 some (.n ((if u>G then u else G),IntKind.wrap .i64 (J+1))))
 (some (.x G))
def W1 (B G J:Int) (D:Pred) (r:(Pred×Int)->Option Int):Option Int:=
 (bV (λq:Int×Int=>bz B D q.1 q.2 r) (G,J)).bind (Fw.elim
 (λe=>some (IntKind.wrap .i64 (e+1)))
 (λe=>Empty.elim e))
end jb
def gM (D:Pred) (B:Int) (r:(Pred×Int)->Option Int):Option Int:=
 a_ (B==0)
 (some 1)
 (jb.W1 B 0 0 D r)
open jb in
theorem A6 (r:(Pred×Int)->Option Int) (hr:dW Sy cL 92 (λz:Pred×Int=>[enc z.1,.int .i64 z.2]) (λr:Int=>[.int .i64 r]) r true) (D:Pred) (B:Int):Le ((gM D B r).bind λr=>some [.int .i64 r]) (fE cL 92 [enc D,.int .i64 B]):=
 (Fc.M 92 [enc D,.int .i64 B] (bU 2 2 D (bn 15 8 aZ (jN 11 (λu=>(bN [Iv 1 B,Pv 2,Iv 5 u.1,Iv 6 u.2] [Xb 2 D])) (λw=>(0,(bN [Iv 5 w] []))) (λu=>c8 7 11 (Pred.dX D.l) (cm 0 D.l (bn 3 13 (c8 9 18 (Pred.dX D.l) (bD 1 λA _=>bt (F:=Fc.of (A,IntKind.wrap .i64 (B-1)) hr) 3 λC _=>aZ)) aZ))) (λw=>aZ)))):Fc Sy cL (gM D B r)).F.h ()
def jb (D:Pred) (B:Int):Option Int:=cV (λr (z:Pred×Int)=>gM z.1 z.2 r) 100000 (D,B)
instance R5 (D:Pred) (B:Int):Fc Sy cL (jb D B):=Fc.of (D,B) (dW.fix (A:=λz:Pred×Int=>[enc z.1,.int .i64 z.2]) (E:=λr:Int=>[.int .i64 r]) (sc:=true) (b:=(λr (z:Pred×Int)=>gM z.1 z.2 r)) (by kernel_rfl) (λ_ _=>rfl) (λr hr z=>A6 r hr z.1 z.2) 100000)
def kK (B:Int):Option Int:=
 (a_ (decide (B>=1))
 (some (decide (B<=4)))
 (some false):Option Bool).bind λu=>
 (a_ u
 (some true)
 (some (B==13)):Option Bool).bind λw=>
 (a_ w
 (some true)
 (some (B==14)):Option Bool).bind λz=>
 a_ z
 (some 0)
 ((a_ (B==5)
 (some true)
 (some (B==15)):Option Bool).bind λA=>
 (a_ A
 (some true)
 ((a_ (decide (B>=18))
 (some (decide (B<=21)))
 (some false):Option Bool).bind λC=>
 some C):Option Bool).bind λD=>
 a_ D
 (some 1)
 ((a_ (decide (B>=6))
 (some (decide (B<=12)))
 (some false):Option Bool).bind λG=>
 (a_ G
 (some true)
 (some (B==16)):Option Bool).bind λI=>
 (a_ I
 (some true)
 (some (B==17)):Option Bool).bind λJ=>
 a_ J
 (some 2)
 (some (-1))))
instance RR (B:Int):Fc Sy cL (kK B):=Fc.M 135 [.int .i64 B] (bC 11 3 [5] 8 (bn 11 5 (bh 3) (bh 3)) λu=>bC 1 3 [9] 12 (bn 1 9 (bh 3) (bh 3)) λw=>bC 1 3 [13] 16 (bn 1 13 (bh 3) (bh 3)) λz=>bn 2 16 aZ (bC 9 3 [19] 22 (bn 9 19 (bh 3) (bh 3)) λA=>bC 1 7 [23] 30 (bn 1 23 (bh 7) (bC 3 3 [26] 29 (bn 3 26 (bh 3) (bh 3)) λC=>bh 1)) λD=>bn 2 30 aZ (bC 9 3 [33] 36 (bn 9 33 (bh 3) (bh 3)) λG=>bC 1 3 [37] 40 (bn 1 37 (bh 3) (bh 3)) λI=>bC 1 3 [0,41] 44 (bn 1 41 (bh 3) (bh 3)) λJ=>bn 2 44 aZ aZ)))
namespace e8
def cq (B:Pred) (i3:Int) (r:Pred->Option Bool):Option (Fw Int Unit Unit):=
 a_ (decide (i3<(len B.l)))
 ((idx B.l i3).bind λu=>
 (r u).bind λw=>
 a_ w
 (some (.n (IntKind.wrap .i64 (i3+1))))
 (some (.r ())))
 (some (.x ()))
def W2 (i3:Int) (B:Pred) (r:Pred->Option Bool):Option Bool:=
 (bV (λq:Int=>cq B q r) i3).bind (Fw.elim
 (λe=>some true)
 (λe=>some false))
def J1 (B:Pred) (r:Pred->Option Bool):Option Bool:=
 (a_ (decide (B.kind<2))
 (some true)
 (some (decide (B.kind>4))):Option Bool).bind λu=>
 (a_ u
 ((a_ (B.proc==0)
 (some (!(B.peer==0)))
 (some true):Option Bool).bind λw=>
 (a_ w
 (some true)
 (some (!(ByteArray.toList B.name==ByteArray.toList ByteArray.empty))):Option Bool).bind λz=>
 some z)
 (some false):Option Bool).bind λA=>
 a_ A
 (some false)
 (e8.W2 0 B r)
theorem gu (r:Pred->Option Bool) (hr:dW Sy cL 93 (λz:Pred=>[enc z]) (λr:Bool=>[.bool r]) r true) (B:Pred):Le ((J1 B r).bind (λr=>some [.bool r])) (cg Sy cL (k7 (tr Tx 93)) (mb (tb Tx 93) [1,1,1,0] [] (bN [Pv 1] [Xb 1 B]))):=
 bC 7 4 [28] 32 (bn 7 28 (bh 4) (bh 4)) λC=>bC 1 14 [33] 47 (bn 1 33 (bC 4 4 [37] 41 (cG 4 37 (bh 4) (bh 4)) λD=>bC 1 4 [42] 46 (bn 1 42 (bh 4) (bh 4)) λG=>bh 1) (bh 14)) λI=>bn 2 47 aZ (dP 11 (λw=>(bN [Pv 1,Iv 3 w] [Xb 1 B])) (λu=>(0,(bN [] []))) (λu=>(bN [Bv 2 false] [])) (λw=>c8 7 50 (Pred.dX B.l) (cm 0 B.l (bn 3 52 (c8 9 56 (Pred.dX B.l) (bD 1 λA _=>bt (F:=Fc.of A hr) 1 λJ _=>cG 3 61 aZ aZ)) aZ))) (λu=>aZ) (λu=>aZ))
end e8
def fC (B:Pred) (r:Pred->Option Bool):Option Bool:=
 (kK B.kind).bind λu=>
 a_ (u==(len B.l))
 (a_ (B.kind==1)
 ((a_ (decide (B.n<0))
 (some true)
 (some (decide (B.n>1125899906842624))):Option Bool).bind λw=>
 a_ w
 (some false)
 (e8.J1 B r))
 (a_ (B.n==0)
 (e8.J1 B r)
 (some false)))
 (some false)
open e8 in
theorem A3 (r:Pred->Option Bool) (hr:dW Sy cL 93 (λz:Pred=>[enc z]) (λr:Bool=>[.bool r]) r true) (B:Pred):Le ((fC B r).bind λr=>some [.bool r]) (fE cL 93 [enc B]):=
 (Fc.M 93 [enc B] (bU 2 1 B (b7 8 λu _=>c8 2 8 (Pred.dX B.l) (cm 0 B.l (cG 3 10 (bn 11 13 (bC 7 4 [17] 21 (bn 7 17 (bh 4) (bh 4)) λw=>bn 2 21 aZ (gy 4 (gu r hr B))) (cG 8 24 (gy 4 (gu r hr B)) aZ)) aZ)))):Fc Sy cL (fC B r)).F.h ()
def e8 (B:Pred):Option Bool:=cV (λr (z:Pred)=>fC z r) 100000 B
instance Si (B:Pred):Fc Sy cL (e8 B):=Fc.of B (dW.fix (A:=λz:Pred=>[enc z]) (E:=λr:Bool=>[.bool r]) (sc:=true) (b:=(λr (z:Pred)=>fC z r)) (by kernel_rfl) (λ_ _=>rfl) (λr hr z=>A3 r hr z) 100000)
def oA (B:Pred):Option Bool:=
 (xh B).bind λu=>
 (a_ (decide (u<=200))
 ((jb B 21).bind λw=>
 some (decide (w<=20)))
 (some false):Option Bool).bind λz=>
 (a_ z
 ((e8 B).bind λA=>
 some A)
 (some false):Option Bool).bind λC=>
 some C
instance Q6 (B:Pred):Fc Sy cL (oA B):=Fc.M 58 [enc B] (bU 2 1 B (bt 6 λu _=>bC 2 4 [6] 10 (bn 2 6 (bt 1 λw _=>bh 2) (bh 4)) λz=>bC 1 3 [1,11] 14 (bn 1 11 (bt 1 λA _=>bh 1) (bh 3)) λC=>aZ))
def mU (B:Trace) (p1:Int):Option Bool:=
 (a_ (decide (p1>=0))
 (some (decide (p1<(len B.procs))))
 (some false):Option Bool).bind λu=>
 some u
instance Tq (B:Trace) (p1:Int):Fc Sy cL (mU B p1):=Fc.M 109 [enc B,.int .i64 p1] (bU 2 2 B (bC 8 6 [1,2,7] 13 (bn 8 7 (cm 3 B.procs (bh 2)) (bh 6)) λu=>aZ))
namespace iE
def bz (p1:Int) (B:ByteArray) (D:Trace) (G:Int):Option (Fw Int Unit Int):=
 (idx D.procs p1).bind λu=>
 a_ (decide (G<(len u.vars)))
 ((idx D.procs p1).bind λw=>
 (idx w.vars G).bind λz=>
 a_ (ByteArray.toList z.name==ByteArray.toList B)
 (some (.r G))
 (some (.n (IntKind.wrap .i64 (G+1)))))
 (some (.x ()))
def W1 (p1:Int) (B:ByteArray) (G:Int) (D:Trace):Option Int:=
 (bV (λq:Int=>bz p1 B D q) G).bind (Fw.elim
 (λe=>some (-1))
 (λe=>some e))
end iE
def iE (D:Trace) (p1:Int) (B:ByteArray):Option Int:=
 iE.W1 p1 B 0 D
open iE in
instance UN (D:Trace) (p1:Int) (B:ByteArray):Fc Sy cL (iE D p1 B):=Fc.M 110 [enc D,.int .i64 p1,.str B] (bU 2 3 D (dP 11 (λw=>(bN [Iv 1 p1,(2,.v (.str B)),Pv 3,Iv 7 w] [Xb 3 D])) (λu=>(0,(bN [] []))) (λu=>(bN [Iv 6 u] [])) (λw=>bD 8 λz _=>cm 2 z.vars (bn 3 16 (bD 10 λA _=>bD 3 λC _=>bn 6 30 aZ aZ) aZ)) (λu=>aZ) (λu=>aZ)))
namespace fK
def bz (D:Trace) (B:Pred) (G:Int) (r:(Trace×Pred)->Option Bool):Option (Fw Int Unit Unit):=
 a_ (decide (G<(len B.l)))
 ((idx B.l G).bind λu=>
 (r (D,u)).bind λw=>
 a_ w
 (some (.n (IntKind.wrap .i64 (G+1))))
 (some (.r ())))
 (some (.x ()))
def W1 (G:Int) (B:Trace) (D:Pred) (r:(Trace×Pred)->Option Bool):Option Bool:=
 (bV (λq:Int=>bz B D q r) G).bind (Fw.elim
 (λe=>some true)
 (λe=>some false))
end fK
def fe (B:Trace) (p1:Pred) (r:(Trace×Pred)->Option Bool):Option Bool:=
 (a_ (p1.kind==2)
 ((mU B p1.proc).bind λG=>
 (a_ G
 (some (!(p1.peer==0)))
 (some true):Option Bool).bind λI=>
 (a_ I
 (some true)
 ((iE B p1.proc p1.name).bind λJ=>
 some (decide (J<0))):Option Bool).bind λL=>
 some L)
 (some false):Option Bool).bind λO=>
 a_ O
 (some false)
 ((a_ (p1.kind==3)
 ((mU B p1.proc).bind λQ=>
 (a_ Q
 (some (!(p1.peer==0)))
 (some true):Option Bool).bind λS=>
 (a_ S
 (some true)
 (some (!(ByteArray.toList p1.name==ByteArray.toList ByteArray.empty))):Option Bool).bind λT=>
 some T)
 (some false):Option Bool).bind λU=>
 a_ U
 (some false)
 ((a_ (p1.kind==4)
 ((mU B p1.proc).bind λu=>
 (a_ u
 ((mU B p1.peer).bind λw=>
 some (!w))
 (some true):Option Bool).bind λz=>
 (a_ z
 (some true)
 (some (p1.proc==p1.peer)):Option Bool).bind λA=>
 (a_ A
 (some true)
 (some (!(ByteArray.toList p1.name==ByteArray.toList ByteArray.empty))):Option Bool).bind λC=>
 some C)
 (some false):Option Bool).bind λD=>
 a_ D
 (some false)
 (fK.W1 0 B p1 r)))
open fK in
theorem yJ (r:(Trace×Pred)->Option Bool) (hr:dW Sy cL 73 (λz:Trace×Pred=>[enc z.1,enc z.2]) (λr:Bool=>[.bool r]) r true) (B:Trace) (p1:Pred):Le ((fe B p1 r).bind λr=>some [.bool r]) (fE cL 73 [enc B,enc p1]):=
 (Fc.M 73 [enc B,enc p1] (bU 2 2 B (bU 0 3 p1 (bC 10 20 [9] 29 (bn 10 9 (bt 3 λQ _=>bC 2 4 [15] 19 (cG 2 15 (bh 4) (bh 4)) λS=>bC 1 8 [20] 28 (bn 1 20 (bh 8) (bt 5 λT _=>bh 2)) λU=>bh 1) (bh 20)) λW=>bn 2 29 aZ (bC 10 16 [33] 49 (bn 10 33 (bt 3 λX _=>bC 2 4 [39] 43 (cG 2 39 (bh 4) (bh 4)) λY=>bC 1 4 [44] 48 (bn 1 44 (bh 4) (bh 4)) λZ=>bh 1) (bh 16)) λaa=>bn 2 49 aZ (bC 10 25 [53] 78 (bn 10 53 (bt 3 λC _=>bC 2 6 [59] 65 (cG 2 59 (bt 3 λD _=>bh 2) (bh 6)) λG=>bC 1 6 [66] 72 (bn 1 66 (bh 6) (bh 6)) λI=>bC 1 4 [73] 77 (bn 1 73 (bh 4) (bh 4)) λJ=>bh 1) (bh 25)) λL=>bn 2 78 aZ (dP 11 (λw=>(bN [Pv 2,Pv 3,Iv 5 w] [Xb 2 B,Xb 3 p1])) (λu=>(0,(bN [] []))) (λu=>(bN [Bv 4 false] [])) (λw=>c8 7 81 (Pred.dX p1.l) (cm 0 p1.l (bn 3 83 (c8 10 88 (Pred.dX p1.l) (bD 1 λA _=>b7 (F:=Fc.of (B,A) hr) 1 λO _=>cG 3 93 aZ aZ)) aZ))) (λu=>aZ) (λu=>aZ))))))):Fc Sy cL (fe B p1 r)).F.h ()
def fK (B:Trace) (p1:Pred):Option Bool:=cV (λr (z:Trace×Pred)=>fe z.1 z.2 r) 100000 (B,p1)
instance NR (B:Trace) (p1:Pred):Fc Sy cL (fK B p1):=Fc.of (B,p1) (dW.fix (A:=λz:Trace×Pred=>[enc z.1,enc z.2]) (E:=λr:Bool=>[.bool r]) (sc:=true) (b:=(λr (z:Trace×Pred)=>fe z.1 z.2 r)) (by kernel_rfl) (λ_ _=>rfl) (λr hr z=>yJ r hr z.1 z.2) 100000)
def oU (B:Pred):Option Int:=
 a_ (decide (B.kind<=8))
 (some 1)
 (some 2)
instance Tu (B:Pred):Fc Sy cL (oU B):=Fc.M 111 [enc B] (bU 2 1 B (bn 11 5 aZ aZ))
namespace fF
def J2 (i3 B:Int) (D:Pred) (r:Pred->Option Bool):Option (Fw Int Unit Unit):=
 (idx D.l i3).bind λu=>
 (oU u).bind λw=>
 (a_ (w==B)
 ((idx D.l i3).bind λz=>
 (r z).bind λA=>
 some (!A))
 (some true):Option Bool).bind λC=>
 a_ C
 (some (.r ()))
 (some (.n (IntKind.wrap .i64 (i3+1))))
def bz (B:Pred) (i3:Int) (r:Pred->Option Bool):Option (Fw Int Unit Unit):=
 a_ (decide (i3<(len B.l)))
 (a_ (decide (B.kind>=15))
 (J2 i3 2 B r)
 (J2 i3 1 B r))
 (some (.x ()))
def W1 (i3:Int) (B:Pred) (r:Pred->Option Bool):Option Bool:=
 (bV (λq:Int=>bz B q r) i3).bind (Fw.elim
 (λe=>some true)
 (λe=>some false))
end fF
def iJ (B:Pred) (r:Pred->Option Bool):Option Bool:=
 fF.W1 0 B r
open fF in
theorem A5 (r:Pred->Option Bool) (hr:dW Sy cL 74 (λz:Pred=>[enc z]) (λr:Bool=>[.bool r]) r true) (B:Pred):Le ((iJ B r).bind λr=>some [.bool r]) (fE cL 74 [enc B]):=
 (Fc.M 74 [enc B] (bU 2 1 B (dP 11 (λA=>(bN [Pv 1,Iv 3 A] [Xb 1 B])) (λu=>(0,(bN [] []))) (λu=>(bN [Bv 2 false] [])) (λA=>c8 7 7 (Pred.dX B.l) (cm 0 B.l (bn 3 9 (bn 18 14 (o5 6 (c8 4 16 (Pred.dX B.l) (bD 1 λC _=>bt 1 λD _=>bC 3 8 [23] 31 (cG 3 23 (c8 2 25 (Pred.dX B.l) (bD 1 λw _=>bt (F:=Fc.of w hr) 1 λG _=>bh 2)) (bh 8)) λI=>bn 2 31 aZ aZ))) (o5 4 (c8 4 16 (Pred.dX B.l) (bD 1 λC _=>bt 1 λD _=>bC 3 8 [23] 31 (cG 3 23 (c8 2 25 (Pred.dX B.l) (bD 1 λw _=>bt (F:=Fc.of w hr) 1 λG _=>bh 2)) (bh 8)) λI=>bn 2 31 aZ aZ)))) aZ))) (λu=>aZ) (λu=>aZ))):Fc Sy cL (iJ B r)).F.h ()
def fF (B:Pred):Option Bool:=cV (λr (z:Pred)=>iJ z r) 100000 B
instance S5 (B:Pred):Fc Sy cL (fF B):=Fc.of B (dW.fix (A:=λz:Pred=>[enc z]) (E:=λr:Bool=>[.bool r]) (sc:=true) (b:=(λr (z:Pred)=>iJ z r)) (by kernel_rfl) (λ_ _=>rfl) (λr hr z=>A5 r hr z) 100000)
namespace eY
def cq (p1 U W:Int) (J:Sl Assign) (Y:Trace) (D B G:Int):Option (Fw (Int×Int×Int) (Int×Int) Empty):=
 a_ (decide (G<(len J)))
 ((idx J G).bind λz=>
 a_ (z.var==U)
 ((idx J G).bind λu=>
 (idx J G).bind λw=>
 some (.n ((if u.value<D then u.value else D),(if w.value>B then w.value else B),IntKind.wrap .i64 (G+1))))
 (some (.n (D,B,IntKind.wrap .i64 (G+1)))))
 (some (.x (D,B)))
def W2 (p1 Y D B G:Int) (J:Sl Assign) (U:Int) (W:Trace):Option (Fw (Int×Int×Int) (Int×Int) Empty):=
 (bV (λq:Int×Int×Int=>cq p1 Y G J W q.1 q.2.1 q.2.2) (D,B,U)).bind (Fw.elim
 (λe=>some (.n (e.1,e.2,IntKind.wrap .i64 (G+1))))
 (λe=>Empty.elim e))
def bz (p1 U:Int) (G:Trace) (D B J:Int):Option (Fw (Int×Int×Int) (Int×Int) Empty):=
 (idx G.procs p1).bind λu=>
 a_ (decide (J<(len u.events)))
 ((idx G.procs p1).bind λw=>
 (idx w.events J).bind λz=>
 W2 p1 U D B J z.assign 0 G)
 (some (.x (D,B)))
def W1 (p1 U D B G:Int) (J:Trace):Option (Int×Int):=
 (bV (λq:Int×Int×Int=>bz p1 U J q.1 q.2.1 q.2.2) (D,B,G)).bind (Fw.elim
 (λe=>some (e.1,e.2))
 (λe=>Empty.elim e))
end eY
def eY (B:Trace) (p1 D:Int):Option (Int×Int):=
 (idx B.procs p1).bind λw=>
 (idx w.vars D).bind λu=>
 eY.W1 p1 D u.init_ u.init_ 0 B
open eY in
instance SB (B:Trace) (p1 D:Int):Fc Sy cL (eY B p1 D):=Fc.M 148 [enc B,.int .i64 p1,.int .i64 D] (bU 2 3 B (bD 9 λI _=>bD 3 λJ _=>jN 19 (λu=>(bN [Iv 1 p1,Iv 2 D,Pv 3,Iv 8 u.1,Iv 9 u.2.1,Iv 10 u.2.2] [Xb 3 B])) (λz=>(0,(bN [Iv 8 z.1,Iv 9 z.2] []))) (λu=>bD 8 λG _=>cm 2 G.events (bn 3 32 (bD 10 λL _=>bD 3 λC _=>jN 12 (λw=>(bN [Iv 1 p1,Iv 2 D,Pv 3,Iv 8 w.1,Iv 9 w.2.1,Iv 10 u.2.2,Cv 11 C.assign,Iv 12 w.2.2] [Xb 3 B])) (λA=>(2,(bN [Iv 1 p1,Iv 2 D,Pv 3,Iv 8 A.1,Iv 9 A.2,Iv 10 u.2.2] [Xb 3 B]))) (λw=>cm 6 C.assign (bn 3 48 (bD 9 λO _=>bn 6 57 (bD 5 λQ _=>bD 6 λS _=>aZ) aZ) aZ)) (λA=>aZ)) aZ)) (λz=>aZ)))
namespace iA
def bz (p1 G:Int) (B:Trace) (D i8:Int):Option (Fw (Int×Int) Int Empty):=
 (idx B.procs p1).bind λw=>
 a_ (decide (i8<(len w.events)))
 ((idx B.procs p1).bind λz=>
 (idx z.events i8).bind λu=>
 (a_ (u.kind==2)
 (some (u.peer==G))
 (some false):Option Bool).bind λA=>
 a_ A
 (some (.n (IntKind.wrap .i64 (D+1),IntKind.wrap .i64 (i8+1))))
 (some (.n (D,IntKind.wrap .i64 (i8+1)))))
 (some (.x D))
def W1 (p1 D G i8:Int) (B:Trace):Option Int:=
 (bV (λq:Int×Int=>bz p1 D B q.1 q.2) (G,i8)).bind (Fw.elim
 (λe=>some e)
 (λe=>Empty.elim e))
end iA
def iA (B:Trace) (p1 D:Int):Option Int:=
 iA.W1 p1 D 0 0 B
open iA in
instance Tr (B:Trace) (p1 D:Int):Fc Sy cL (iA B p1 D):=Fc.M 149 [enc B,.int .i64 p1,.int .i64 D] (bU 2 3 B (jN 16 (λu=>(bN [Iv 1 p1,Iv 2 D,Pv 3,Iv 7 u.1,Iv 8 u.2] [Xb 3 B])) (λw=>(0,(bN [Iv 7 w] []))) (λu=>bD 8 λz _=>cm 2 z.events (bn 3 18 (bD 10 λC _=>bD 3 λA _=>qB 2 9 0 A (bC 8 5 [9,33] 38 (bn 8 33 (bh 5) (bh 5)) λG=>bn 2 38 aZ aZ)) aZ)) (λw=>aZ)))
namespace cH
def J1 (a0 B:Int):Option Int:=
 some (IntKind.wrap .i64 (a0*B))
end cH
def cH (a0 B:Int):Option Int:=
 (a_ (a0==0)
 (some false)
 (some (!(B==0))):Option Bool).bind λu=>
 a_ u
 ((yS .i64 1125899906842624 (if(IntKind.wrap .i64 (0-B))>B then(IntKind.wrap .i64 (0-B))else B)).bind λw=>
 a_ (decide ((if(IntKind.wrap .i64 (0-a0))>a0 then(IntKind.wrap .i64 (0-a0))else a0)>w))
 (a_ ((decide (a0<0))==(decide (B<0)))
 (some 1125899906842625)
 (some (-1125899906842625)))
 (cH.J1 a0 B))
 (cH.J1 a0 B)
open cH in
instance R9 (a0 B:Int):Fc Sy cL (cH a0 B):=Fc.M 150 [.int .i64 a0,.int .i64 B] (bC 11 3 [9] 12 (cG 11 9 (bh 3) (bh 3)) λu=>bn 2 12 (Ua 19 λw _=>bn 3 24 (cG 11 29 aZ aZ) (o5 4 (aZ))) (o5 4 (aZ)))
namespace bK
def J3 (D B:Int) (r:(Trace×Pred)->Option (Int×Int×Bool)):Option (Int×Int×Bool):=
 (a_ (decide (D>=(-1125899906842624)))
 (some (decide (B<=1125899906842624)))
 (some false):Option Bool).bind λu=>
 some (D,B,u)
def J2 (Y b8 c9 J:Int) (aa U:Bool) (W:Trace) (B:Pred) (r:(Trace×Pred)->Option (Int×Int×Bool)):Option (Int×Int×Bool):=
 (a_ aa
 (some (!U))
 (some true):Option Bool).bind λO=>
 a_ O
 (some (0,0,false))
 (a_ (B.kind==1)
 (bK.J3 B.n B.n r)
 (a_ (B.kind==2)
 ((iE W B.proc B.name).bind λQ=>
 (eY W B.proc Q).bind λL=>
 bK.J3 L.1 L.2 r)
 (a_ (B.kind==3)
 ((idx W.procs B.proc).bind λS=>
 bK.J3 0 (len S.events) r)
 (a_ (B.kind==4)
 ((iA W B.proc B.peer).bind λT=>
 bK.J3 0 T r)
 (a_ (B.kind==5)
 (bK.J3 (IntKind.wrap .i64 (0-b8)) (IntKind.wrap .i64 (0-Y)) r)
 (a_ (B.kind==6)
 (bK.J3 (IntKind.wrap .i64 (Y+c9)) (IntKind.wrap .i64 (b8+J)) r)
 (a_ (B.kind==7)
 (bK.J3 (IntKind.wrap .i64 (Y-J)) (IntKind.wrap .i64 (b8-c9)) r)
 ((cH Y c9).bind λu=>
 (cH Y J).bind λw=>
 (cH b8 c9).bind λz=>
 (cH b8 J).bind λA=>
 (cH Y c9).bind λC=>
 (cH Y J).bind λD=>
 (cH b8 c9).bind λG=>
 (cH b8 J).bind λI=>
 bK.J3 (if(if A<z then A else z)<(if w<u then w else u)then(if A<z then A else z)else(if w<u then w else u)) (if(if I>G then I else G)>(if D>C then D else C)then(if I>G then I else G)else(if D>C then D else C)) r))))))))
def J1 (W Y c9 U:Int) (G B:Bool) (J:Trace) (D:Pred) (r:(Trace×Pred)->Option (Int×Int×Bool)):Option (Int×Int×Bool):=
 a_ (decide ((len D.l)>1))
 ((idx D.l 1).bind λw=>
 (r (J,w)).bind λu=>
 bK.J2 W Y u.1 u.2.1 G u.2.2 J D r)
 (bK.J2 W Y c9 U G B J D r)
theorem wK (r:(Trace×Pred)->Option (Int×Int×Bool)) (hr:dW Sy cL 112 (λz:Trace×Pred=>[enc z.1,enc z.2]) (λr:Int×Int×Bool=>[.int .i64 r.1,.int .i64 r.2.1,.bool r.2.2]) r true) (D B:Int):Le ((J3 D B r).bind (λr=>some [.int .i64 r.1,.int .i64 r.2.1,.bool r.2.2])) (cg Sy cL (k7 (tr Tx 112)) (mb (tb Tx 112) [1,1,1,1,0,1,0,1,1,1,0] [] (bN [Iv 13 D,Iv 14 B] []))):=
 bC 7 3 [14,151] 154 (bn 7 151 (bh 3) (bh 3)) λu=>aZ
theorem sn (r:(Trace×Pred)->Option (Int×Int×Bool)) (hr:dW Sy cL 112 (λz:Trace×Pred=>[enc z.1,enc z.2]) (λr:Int×Int×Bool=>[.int .i64 r.1,.int .i64 r.2.1,.bool r.2.2]) r true) (a7 b8 c9 U:Int) (Y B:Bool) (aa:Trace) (W:Pred):Le ((J2 a7 b8 c9 U Y B aa W r).bind (λr=>some [.int .i64 r.1,.int .i64 r.2.1,.bool r.2.2])) (cg Sy cL (k7 (tr Tx 112)) (mb (tb Tx 112) [1,1,1,1,0,1,0] [] (bN [Pv 2,Pv 3,Iv 7 a7,Iv 8 b8,Iv 9 c9,Iv 10 U,Bv 11 Y,Bv 12 B] [Xb 2 aa,Xb 3 W]))):=
 bC 6 3 [12,45] 48 (cG 6 45 (bh 3) (bh 3)) λS=>bn 2 48 aZ (bn 17 51 (gy 11 (wK r hr W.n W.n)) (bn 8 58 (b7 10 λT _=>b7 0 λL _=>gy 8 (wK r hr L.1 L.2)) (bn 8 74 (bD 6 λO _=>cm 2 O.events (gy 4 (wK r hr 0 (len O.events)))) (bn 8 85 (bt 7 λQ _=>gy 4 (wK r hr 0 Q)) (bn 8 94 (gy 11 (wK r hr (IntKind.wrap .i64 (0-b8)) (IntKind.wrap .i64 (0-a7)))) (bn 8 101 (gy 13 (wK r hr (IntKind.wrap .i64 (a7+c9)) (IntKind.wrap .i64 (b8+U)))) (bn 8 110 (gy 13 (wK r hr (IntKind.wrap .i64 (a7-U)) (IntKind.wrap .i64 (b8-c9)))) (bt 5 λu _=>bt 2 λw _=>bt 3 λA _=>bt 2 λC _=>bt 8 λD _=>bt 2 λG _=>bt 3 λI _=>bt 2 λJ _=>gy 6 (wK r hr (if(if C<A then C else A)<(if w<u then w else u)then(if C<A then C else A)else(if w<u then w else u)) (if(if J>I then J else I)>(if G>D then G else D)then(if J>I then J else I)else(if G>D then G else D)))))))))))
theorem gu (r:(Trace×Pred)->Option (Int×Int×Bool)) (hr:dW Sy cL 112 (λz:Trace×Pred=>[enc z.1,enc z.2]) (λr:Int×Int×Bool=>[.int .i64 r.1,.int .i64 r.2.1,.bool r.2.2]) r true) (W Y c9 U:Int) (G B:Bool) (J:Trace) (D:Pred):Le ((J1 W Y c9 U G B J D r).bind (λr=>some [.int .i64 r.1,.int .i64 r.2.1,.bool r.2.2])) (cg Sy cL (k7 (tr Tx 112)) (mb (tb Tx 112) [1,1,1,1,0] [] (bN [Pv 2,Pv 3,Iv 7 W,Iv 8 Y,Iv 9 c9,Iv 10 U,Bv 11 G,Bv 12 B] [Xb 2 J,Xb 3 D]))):=
 c8 5 30 (Pred.dX D.l) (cm 0 D.l (bn 3 32 (c8 5 36 (Pred.dX D.l) (bD 0 λw _=>b7 (F:=Fc.of (J,w) hr) 1 λu _=>gy 10 (sn r hr W Y u.1 u.2.1 G u.2.2 J D))) (gy 4 (sn r hr W Y c9 U G B J D))))
end bK
def fZ (B:Trace) (p1:Pred) (r:(Trace×Pred)->Option (Int×Int×Bool)):Option (Int×Int×Bool):=
 a_ (decide ((len p1.l)>0))
 ((idx p1.l 0).bind λw=>
 (r (B,w)).bind λu=>
 bK.J1 u.1 u.2.1 0 0 u.2.2 true B p1 r)
 (bK.J1 0 0 0 0 true true B p1 r)
open bK in
theorem yC (r:(Trace×Pred)->Option (Int×Int×Bool)) (hr:dW Sy cL 112 (λz:Trace×Pred=>[enc z.1,enc z.2]) (λr:Int×Int×Bool=>[.int .i64 r.1,.int .i64 r.2.1,.bool r.2.2]) r true) (B:Trace) (p1:Pred):Le ((fZ B p1 r).bind λr=>some [.int .i64 r.1,.int .i64 r.2.1,.bool r.2.2]) (fE cL 112 [enc B,enc p1]):=
 (Fc.M 112 [enc B,enc p1] (bU 2 2 B (bU 0 3 p1 (c8 24 16 (Pred.dX p1.l) (cm 0 p1.l (bn 3 18 (c8 5 22 (Pred.dX p1.l) (bD 0 λw _=>b7 (F:=Fc.of (B,w) hr) 1 λu _=>gy 10 (gu r hr u.1 u.2.1 0 0 u.2.2 true B p1))) (gy 4 (gu r hr 0 0 0 0 true true B p1))))))):Fc Sy cL (fZ B p1 r)).F.h ()
def bK (B:Trace) (p1:Pred):Option (Int×Int×Bool):=cV (λr (z:Trace×Pred)=>fZ z.1 z.2 r) 100000 (B,p1)
instance NX (B:Trace) (p1:Pred):Fc Sy cL (bK B p1):=Fc.of (B,p1) (dW.fix (A:=λz:Trace×Pred=>[enc z.1,enc z.2]) (E:=λr:Int×Int×Bool=>[.int .i64 r.1,.int .i64 r.2.1,.bool r.2.2]) (sc:=true) (b:=(λr (z:Trace×Pred)=>fZ z.1 z.2 r)) (by kernel_rfl) (λ_ _=>rfl) (λr hr z=>yC r hr z.1 z.2) 100000)
namespace jE
def bz (D:Trace) (B:Pred) (i8:Int) (r:(Trace×Pred)->Option Bool):Option (Fw Int Unit Unit):=
 a_ (decide (i8<(len B.l)))
 ((idx B.l i8).bind λu=>
 (r (D,u)).bind λw=>
 a_ w
 (some (.n (IntKind.wrap .i64 (i8+1))))
 (some (.r ())))
 (some (.x ()))
def W1 (i8:Int) (B:Trace) (D:Pred) (r:(Trace×Pred)->Option Bool):Option Bool:=
 (bV (λq:Int=>bz B D q r) i8).bind (Fw.elim
 (λe=>some true)
 (λe=>some false))
end jE
def jg (B:Trace) (p1:Pred) (r:(Trace×Pred)->Option Bool):Option Bool:=
 (oU p1).bind λu=>
 a_ (u==1)
 ((bK B p1).bind λw=>
 some w.2.2)
 (jE.W1 0 B p1 r)
open jE in
theorem BA (r:(Trace×Pred)->Option Bool) (hr:dW Sy cL 75 (λz:Trace×Pred=>[enc z.1,enc z.2]) (λr:Bool=>[.bool r]) r true) (B:Trace) (p1:Pred):Le ((jg B p1 r).bind λr=>some [.bool r]) (fE cL 75 [enc B,enc p1]):=
 (Fc.M 75 [enc B,enc p1] (bU 2 2 B (bU 0 3 p1 (bt 7 λC _=>bn 3 11 (bt 5 λD _=>aZ) (dP 11 (λw=>(bN [Pv 2,Pv 3,Iv 8 w] [Xb 2 B,Xb 3 p1])) (λu=>(0,(bN [] []))) (λu=>(bN [Bv 4 false] [])) (λw=>c8 7 22 (Pred.dX p1.l) (cm 0 p1.l (bn 3 24 (c8 10 29 (Pred.dX p1.l) (bD 1 λA _=>b7 (F:=Fc.of (B,A) hr) 1 λG _=>cG 3 34 aZ aZ)) aZ))) (λu=>aZ) (λu=>aZ))))):Fc Sy cL (jg B p1 r)).F.h ()
def jE (B:Trace) (p1:Pred):Option Bool:=cV (λr (z:Trace×Pred)=>jg z.1 z.2 r) 100000 (B,p1)
instance TA (B:Trace) (p1:Pred):Fc Sy cL (jE B p1):=Fc.of (B,p1) (dW.fix (A:=λz:Trace×Pred=>[enc z.1,enc z.2]) (E:=λr:Bool=>[.bool r]) (sc:=true) (b:=(λr (z:Trace×Pred)=>jg z.1 z.2 r)) (by kernel_rfl) (λ_ _=>rfl) (λr hr z=>BA r hr z.1 z.2) 100000)
def pV (B:Trace) (p1:Pred):Option Int:=
 (sj B).bind λu=>
 (a_ u
 ((oA p1).bind λw=>
 some (!w))
 (some true):Option Bool).bind λz=>
 a_ z
 (some 1)
 ((fK B p1).bind λA=>
 a_ A
 ((fF p1).bind λC=>
 a_ C
 ((jE B p1).bind λD=>
 a_ D
 (some 0)
 (some 9))
 (some 14))
 (some 13))
instance Sq (B:Trace) (p1:Pred):Fc Sy cL (pV B p1):=Fc.M 48 [enc B,enc p1] (bU 2 2 B (bU 0 3 p1 (bt 7 λu _=>bC 2 4 [8] 12 (cG 2 8 (bt 1 λw _=>bh 2) (bh 4)) λz=>bn 2 12 aZ (bt 8 λA _=>cG 3 16 (bt 7 λC _=>cG 3 19 (bt 8 λD _=>cG 3 23 aZ aZ) aZ) aZ))))
def tN (B:Pred):Option (Int×Int):=
 (oA B).bind λu=>
 a_ u
 ((fF B).bind λw=>
 a_ w
 ((oU B).bind λz=>
 some (z,0))
 (some (0,14)))
 (some (0,1))
instance Tv (B:Pred):Fc Sy cL (tN B):=Fc.M 76 [enc B] (bU 2 1 B (bt 8 λu _=>cG 3 6 (bt 7 λw _=>cG 3 9 (bt 6 λz _=>aZ) aZ) aZ))
def xu (D:Trace) (p1:Pred) (B:Int):Option Int:=
 (pV D p1).bind λu=>
 a_ (u==0)
 ((tN p1).bind λw=>
 a_ (w.1==B)
 (some 0)
 (some 14))
 (some u)
instance Tp (D:Trace) (p1:Pred) (B:Int):Fc Sy cL (xu D p1 B):=Fc.M 49 [enc D,enc p1,.int .i64 B] (bU 2 3 D (bU 0 4 p1 (bt 8 λu _=>cG 9 14 (bt 7 λw _=>cG 14 23 aZ aZ) aZ)))
namespace dx
def eW (B:Int) (D:Pred) (G:Int) (r:(Pred×Int)->Option Bool):Option (Fw Int Unit Unit):=
 a_ (decide (G<(len D.l)))
 ((idx D.l G).bind λu=>
 (r (u,B)).bind λw=>
 a_ w
 (some (.n (IntKind.wrap .i64 (G+1))))
 (some (.r ())))
 (some (.x ()))
def W3 (B G:Int) (D:Pred) (r:(Pred×Int)->Option Bool):Option Bool:=
 (bV (λq:Int=>eW B D q r) G).bind (Fw.elim
 (λe=>some true)
 (λe=>some false))
def J2 (B:Int) (D:Bool) (G:Pred) (r:(Pred×Int)->Option Bool):Option Bool:=
 a_ D
 (some false)
 (dx.W3 B 0 G r)
def J1 (B G:Int) (J:Bool) (D:Pred) (r:(Pred×Int)->Option Bool):Option Bool:=
 a_ J
 (some (D.proc==B))
 (a_ (G==4)
 (dx.J2 B true D r)
 (a_ (G==18)
 (dx.J2 B true D r)
 (a_ (G==19)
 (dx.J2 B true D r)
 (a_ (G==20)
 (dx.J2 B true D r)
 (dx.J2 B (G==21) D r)))))
theorem sn (r:(Pred×Int)->Option Bool) (hr:dW Sy cL 65 (λz:Pred×Int=>[enc z.1,.int .i64 z.2]) (λr:Bool=>[.bool r]) r true) (B:Int) (G:Bool) (D:Pred):Le ((J2 B G D r).bind (λr=>some [.bool r])) (cg Sy cL (k7 (tr Tx 65)) (mb (tb Tx 65) [1,0,1,0,1,0,1,1,0] [] (bN [Iv 1 B,Pv 2,Bv 15 G] [Xb 2 D]))):=
 bn 0 15 aZ (dP 12 (λw=>(bN [Iv 1 B,Pv 2,Iv 5 w] [Xb 2 D])) (λu=>(1,(bN [] []))) (λu=>(bN [Bv 4 false] [])) (λw=>c8 7 23 (Pred.dX D.l) (cm 0 D.l (bn 3 25 (c8 9 29 (Pred.dX D.l) (bD 1 λA _=>bt (F:=Fc.of (A,B) hr) 2 λC _=>cG 3 35 aZ aZ)) aZ))) (λu=>aZ) (λu=>aZ))
theorem gu (r:(Pred×Int)->Option Bool) (hr:dW Sy cL 65 (λz:Pred×Int=>[enc z.1,.int .i64 z.2]) (λr:Bool=>[.bool r]) r true) (B G:Int) (J:Bool) (D:Pred):Le ((J1 B G J D r).bind (λr=>some [.bool r])) (cg Sy cL (k7 (tr Tx 65)) (mb (tb Tx 65) [1,0,1,0,1,0] [] (bN [Iv 1 B,Pv 2,Iv 7 G,Bv 8 J] [Xb 2 D]))):=
 bn 0 8 aZ (bn 8 15 (gy 4 (sn r hr B true D)) (bn 7 15 (gy 4 (sn r hr B true D)) (bn 7 15 (gy 4 (sn r hr B true D)) (bn 7 15 (gy 4 (sn r hr B true D)) (gy 7 (sn r hr B (G==21) D))))))
end dx
def gD (D:Pred) (B:Int) (r:(Pred×Int)->Option Bool):Option Bool:=
 a_ (D.kind==2)
 (dx.J1 B D.kind true D r)
 (dx.J1 B D.kind (D.kind==3) D r)
open dx in
theorem zi (r:(Pred×Int)->Option Bool) (hr:dW Sy cL 65 (λz:Pred×Int=>[enc z.1,.int .i64 z.2]) (λr:Bool=>[.bool r]) r true) (D:Pred) (B:Int):Le ((gD D B r).bind λr=>some [.bool r]) (fE cL 65 [enc D,.int .i64 B]):=
 (Fc.M 65 [enc D,.int .i64 B] (bU 2 2 D (bn 18 8 (gy 4 (gu r hr B D.kind true D)) (gy 7 (gu r hr B D.kind (D.kind==3) D)))):Fc Sy cL (gD D B r)).F.h ()
def dx (D:Pred) (B:Int):Option Bool:=cV (λr (z:Pred×Int)=>gD z.1 z.2 r) 100000 (D,B)
instance Pf (D:Pred) (B:Int):Fc Sy cL (dx D B):=Fc.of (D,B) (dW.fix (A:=λz:Pred×Int=>[enc z.1,.int .i64 z.2]) (E:=λr:Bool=>[.bool r]) (sc:=true) (b:=(λr (z:Pred×Int)=>gD z.1 z.2 r)) (by kernel_rfl) (λ_ _=>rfl) (λr hr z=>zi r hr z.1 z.2) 100000)
def k8 (D:Trace) (B J:Int) (p3:Pred):Option Int:=
 (pV D p3).bind λu=>
 a_ (u==0)
 ((a_ (decide (B<0))
 (some true)
 (some (decide (B>=(len D.procs)))):Option Bool).bind λz=>
 (a_ z
 (some true)
 (some (decide (J<0))):Option Bool).bind λA=>
 (a_ A
 (some true)
 ((idx D.procs B).bind λC=>
 some (decide (J>(len C.events)))):Option Bool).bind λG=>
 a_ G
 (some 2)
 ((xu D p3 2).bind λw=>
 a_ (w==0)
 ((dx p3 B).bind λI=>
 a_ I
 (some 0)
 (some 15))
 (some w)))
 (some u)
instance LS (D:Trace) (B G:Int) (p3:Pred):Fc Sy cL (k8 D B G p3):=Fc.M 36 [enc D,.int .i64 B,.int .i64 G,enc p3] (bU 2 4 D (bU 0 7 p3 (bt 8 λw _=>cG 9 15 (bC 9 6 [19] 25 (bn 9 19 (bh 6) (cm 3 D.procs (bh 2))) λz=>bC 1 3 [26] 29 (bn 1 26 (bh 3) (bh 3)) λA=>bC 1 10 [2,30] 40 (bn 1 30 (bh 10) (bD 4 λu _=>cm 2 u.events (bh 2))) λC=>bn 2 40 aZ (bt 8 λI _=>cG 9 45 (bt 8 λJ _=>cG 3 50 aZ aZ) aZ)) aZ)))
namespace i_
def bz (B:ByteArray) (D:Sl Var) (i8:Int):Option (Fw Int Unit Int):=
 a_ (decide (i8<(len D)))
 ((idx D i8).bind λu=>
 a_ (ByteArray.toList u.name==ByteArray.toList B)
 (some (.r i8))
 (some (.n (IntKind.wrap .i64 (i8+1)))))
 (some (.x ()))
def W1 (B:ByteArray) (D:Sl Var) (i8:Int):Option Int:=
 (bV (λq:Int=>bz B D q) i8).bind (Fw.elim
 (λe=>some (-1))
 (λe=>some e))
end i_
def i_ (D:Trace) (p1:Int) (B:ByteArray):Option Int:=
 (idx D.procs p1).bind λu=>
 i_.W1 B u.vars 0
open i_ in
instance RU (D:Trace) (p1:Int) (B:ByteArray):Fc Sy cL (i_ D p1 B):=Fc.M 51 [enc D,.int .i64 p1,.str B] (bU 2 3 D (bD 8 λw _=>dP 13 (λz=>(bN [(2,.v (.str B)),Cv 7 w.vars,Iv 8 z] [])) (λu=>(0,(bN [] []))) (λu=>(bN [Iv 6 u] [])) (λz=>cm 6 w.vars (bn 3 18 (bD 9 λA _=>bn 6 27 aZ aZ) aZ)) (λu=>aZ) (λu=>aZ)))
namespace fJ
def cq (p1 G U:Int) (D:Sl Assign) (J:Trace) (B:Int):Option (Fw Int Unit Int):=
 a_ (decide (B<(len D)))
 ((idx D B).bind λu=>
 a_ (u.var==G)
 ((idx D B).bind λw=>
 some (.r w.value))
 (some (.n (IntKind.wrap .i64 (B+1)))))
 (some (.x ()))
def W2 (p1 U J:Int) (B:Sl Assign) (D:Int) (G:Trace):Option (Fw Int Unit Int):=
 (bV (λq:Int=>cq p1 U J B G q) D).bind (Fw.elim
 (λe=>some (.n (IntKind.wrap .i64 (J-1))))
 (λe=>some (.r e)))
def bz (p1 G:Int) (B:Trace) (D:Int):Option (Fw Int Unit Int):=
 a_ (decide (D>=0))
 ((idx B.procs p1).bind λu=>
 (idx u.events D).bind λw=>
 W2 p1 G D w.assign 0 B)
 (some (.x ()))
def W1 (p1 D G:Int) (B:Trace):Option Int:=
 (bV (λq:Int=>bz p1 D B q) G).bind (Fw.elim
 (λe=>(idx B.procs p1).bind λu=>
 (idx u.vars D).bind λw=>
 some w.init_)
 (λe=>some e))
end fJ
def fJ (B:Trace) (p1 D G:Int):Option Int:=
 fJ.W1 p1 D (IntKind.wrap .i64 (G-1)) B
open fJ in
instance Sp (B:Trace) (p1 D G:Int):Fc Sy cL (fJ B p1 D G):=Fc.M 50 [enc B,.int .i64 p1,.int .i64 D,.int .i64 G] (bU 2 4 B (dP 13 (λu=>(bN [Iv 1 p1,Iv 2 D,Pv 4,Iv 9 u] [Xb 4 B])) (λw=>(0,(bN [Iv 1 p1,Iv 2 D,Pv 4] [Xb 4 B]))) (λw=>(bN [Iv 8 w] [])) (λu=>bn 8 15 (bD 10 λI _=>bD 3 λA _=>dP 12 (λC=>(bN [Iv 1 p1,Iv 2 D,Pv 4,Iv 9 u,Cv 10 A.assign,Iv 11 C] [Xb 4 B])) (λz=>(2,(bN [Iv 1 p1,Iv 2 D,Pv 4,Iv 9 u] [Xb 4 B]))) (λz=>(bN [Iv 8 z] [])) (λC=>cm 6 A.assign (bn 3 31 (bD 9 λJ _=>bn 6 40 (bD 5 λL _=>aZ) aZ) aZ)) (λz=>aZ) (λz=>aZ)) aZ) (λw=>bD 7 λO _=>bD 3 λQ _=>aZ) (λw=>aZ)))
namespace kO
def bz (U:Sl Int) (p2 W:Int) (G:Trace) (B:Sl Int) (D:Int):Option (Fw ((Sl Int)×Int) (Sl Int) Empty):=
 (idx U p2).bind λz=>
 a_ (decide (D<z))
 ((idx G.procs p2).bind λA=>
 (idx A.events D).bind λu=>
 (a_ (u.kind==2)
 (some (!(u.peer==W)))
 (some true):Option Bool).bind λC=>
 a_ C
 (some (.n (B,IntKind.wrap .i64 (D+1))))
 ((dJ G 3 u.message).bind λw=>
 (a_ (w.index==0)
 (some true)
 ((idx U w.proc).bind λI=>
 some (decide (w.index>I))):Option Bool).bind λJ=>
 a_ J
 ((jr B (u.message:Int)).bind λL=>
 some (.n (L,IntKind.wrap .i64 (D+1))))
 (some (.n (B,IntKind.wrap .i64 (D+1))))))
 (some (.x B))
def W1 (J:Sl Int) (p2 U:Int) (B:Sl Int) (D:Int) (G:Trace):Option (Sl Int):=
 (bV (λq:(Sl Int)×Int=>bz J p2 U G q.1 q.2) (B,D)).bind (Fw.elim
 (λe=>some e)
 (λe=>Empty.elim e))
end kO
def kO (B:Trace) (D:Sl Int) (p2 G:Int):Option (Sl Int):=
 kO.W1 D p2 G (Sl.nil:Sl Int) 0 B
open kO in
instance NQ (B:Trace) (D:Sl Int) (p2 G:Int):Fc Sy cL (kO B D p2 G):=Fc.N 52 [enc B,enc D,.int .i64 p2,.int .i64 G] (bU 2 4 B (jN 17 (λu=>(bN [Cv 1 D,Iv 2 p2,Iv 3 G,Pv 4,Ov 9,Iv 10 u.2] [Xb 4 B,Lb 2009 u.1])) (λw=>(0,(bN [Ov 9] [Lb 2009 w]))) (λu=>bD 8 λA _=>bn 4 18 (bD 10 λC _=>bD 3 λz _=>qB 2 11 0 z (bC 9 5 [33] 38 (cG 9 33 (bh 5) (bh 5)) λI=>bn 2 38 aZ (bt 8 λJ _=>bC 10 9 [12,46] 55 (bn 10 46 (bh 9) (bD 5 λL _=>bh 3)) λO=>bn 2 55 (xd 6 2009 59 60 λQ _=>aZ) aZ))) aZ) (λw=>aZ)))
def iG (B:Trace) (D:Sl Int) (p2:Pred) (r:(Trace×(Sl Int)×Pred)->Option Int):Option Int:=
 a_ (p2.kind==1)
 (some p2.n)
 (a_ (p2.kind==2)
 ((i_ B p2.proc p2.name).bind λQ=>
 (idx D p2.proc).bind λS=>
 (fJ B p2.proc Q S).bind λT=>
 some T)
 (a_ (p2.kind==3)
 ((idx D p2.proc).bind λU=>
 some U)
 (a_ (p2.kind==4)
 ((kO B D p2.proc p2.peer).bind λW=>
 some (len W))
 (a_ (p2.kind==5)
 ((idx p2.l 0).bind λX=>
 (r (B,D,X)).bind λY=>
 some (IntKind.wrap .i64 (0-Y)))
 (a_ (p2.kind==6)
 ((idx p2.l 0).bind λZ=>
 (r (B,D,Z)).bind λaa=>
 (idx p2.l 1).bind λu=>
 (r (B,D,u)).bind λw=>
 some (IntKind.wrap .i64 (aa+w)))
 (a_ (p2.kind==7)
 ((idx p2.l 0).bind λz=>
 (r (B,D,z)).bind λA=>
 (idx p2.l 1).bind λC=>
 (r (B,D,C)).bind λG=>
 some (IntKind.wrap .i64 (A-G)))
 ((idx p2.l 0).bind λI=>
 (r (B,D,I)).bind λJ=>
 (idx p2.l 1).bind λL=>
 (r (B,D,L)).bind λO=>
 some (IntKind.wrap .i64 (J*O)))))))))
theorem A4 (r:(Trace×(Sl Int)×Pred)->Option Int) (hr:dW Sy cL 16 (λz:Trace×(Sl Int)×Pred=>[enc z.1,enc z.2.1,enc z.2.2]) (λr:Int=>[.int .i64 r]) r true) (B:Trace) (D:Sl Int) (p2:Pred):Le ((iG B D p2 r).bind λr=>some [.int .i64 r]) (fE cL 16 [enc B,enc D,enc p2]):=
 (Fc.M 16 [enc B,enc D,enc p2] (bU 2 3 B (bU 0 5 p2 (bn 17 9 aZ (bn 7 13 (b7 11 λW _=>bD 3 λX _=>b7 1 λY _=>aZ) (bn 7 30 (bD 6 λZ _=>aZ) (bn 7 37 (bt 9 λI _=>cm 0 I aZ) (bn 7 47 (c8 7 52 (Pred.dX p2.l) (bD 0 λJ _=>b7 (F:=Fc.of (B,D,J) hr) 1 λaa _=>aZ)) (bn 7 57 (c8 7 62 (Pred.dX p2.l) (bD 0 λL _=>b7 (F:=Fc.of (B,D,L) hr) 1 λab _=>c8 4 69 (Pred.dX p2.l) (bD 0 λu _=>b7 (F:=Fc.of (B,D,u) hr) 1 λO _=>aZ))) (bn 7 74 (c8 7 79 (Pred.dX p2.l) (bD 0 λw _=>b7 (F:=Fc.of (B,D,w) hr) 1 λQ _=>c8 4 86 (Pred.dX p2.l) (bD 0 λA _=>b7 (F:=Fc.of (B,D,A) hr) 1 λS _=>aZ))) (c8 10 94 (Pred.dX p2.l) (bD 0 λC _=>b7 (F:=Fc.of (B,D,C) hr) 1 λT _=>c8 4 101 (Pred.dX p2.l) (bD 0 λG _=>b7 (F:=Fc.of (B,D,G) hr) 1 λU _=>aZ)))))))))))):Fc Sy cL (iG B D p2 r)).F.h ()
def ja (B:Trace) (D:Sl Int) (p2:Pred):Option Int:=cV (λr (z:Trace×(Sl Int)×Pred)=>iG z.1 z.2.1 z.2.2 r) 100000 (B,D,p2)
instance RJ (B:Trace) (D:Sl Int) (p2:Pred):Fc Sy cL (ja B D p2):=Fc.of (B,D,p2) (dW.fix (A:=λz:Trace×(Sl Int)×Pred=>[enc z.1,enc z.2.1,enc z.2.2]) (E:=λr:Int=>[.int .i64 r]) (sc:=true) (b:=(λr (z:Trace×(Sl Int)×Pred)=>iG z.1 z.2.1 z.2.2 r)) (by kernel_rfl) (λ_ _=>rfl) (λr hr z=>A4 r hr z.1 z.2.1 z.2.2) 100000)
def iH (B:Trace) (D:Sl Int) (p2:Pred) (r:(Trace×(Sl Int)×Pred)->Option Bool):Option Bool:=
 a_ (p2.kind==9)
 ((idx p2.l 0).bind λab=>
 (ja B D ab).bind λad=>
 (idx p2.l 1).bind λae=>
 (ja B D ae).bind λaf=>
 some (ad==af))
 (a_ (p2.kind==10)
 ((idx p2.l 0).bind λah=>
 (ja B D ah).bind λai=>
 (idx p2.l 1).bind λaj=>
 (ja B D aj).bind λak=>
 some (!(ai==ak)))
 (a_ (p2.kind==11)
 ((idx p2.l 0).bind λal=>
 (ja B D al).bind λu=>
 (idx p2.l 1).bind λw=>
 (ja B D w).bind λz=>
 some (decide (u<z)))
 (a_ (p2.kind==12)
 ((idx p2.l 0).bind λA=>
 (ja B D A).bind λC=>
 (idx p2.l 1).bind λG=>
 (ja B D G).bind λI=>
 some (decide (C<=I)))
 (a_ (p2.kind==13)
 (some true)
 (a_ (p2.kind==15)
 ((idx p2.l 0).bind λJ=>
 (r (B,D,J)).bind λL=>
 some (!L))
 (a_ (p2.kind==16)
 ((idx p2.l 0).bind λO=>
 (r (B,D,O)).bind λQ=>
 (a_ Q
 ((idx p2.l 1).bind λS=>
 (r (B,D,S)).bind λT=>
 some T)
 (some false):Option Bool).bind λU=>
 some U)
 (a_ (p2.kind==17)
 ((idx p2.l 0).bind λW=>
 (r (B,D,W)).bind λX=>
 (a_ X
 (some true)
 ((idx p2.l 1).bind λY=>
 (r (B,D,Y)).bind λZ=>
 some Z):Option Bool).bind λaa=>
 some aa)
 (some false))))))))
theorem A2 (r:(Trace×(Sl Int)×Pred)->Option Bool) (hr:dW Sy cL 17 (λz:Trace×(Sl Int)×Pred=>[enc z.1,enc z.2.1,enc z.2.2]) (λr:Bool=>[.bool r]) r true) (B:Trace) (D:Sl Int) (p2:Pred):Le ((iH B D p2 r).bind λr=>some [.bool r]) (fE cL 17 [enc B,enc D,enc p2]):=
 (Fc.M 17 [enc B,enc D,enc p2] (bU 2 3 B (bU 0 5 p2 (bn 17 9 (c8 7 14 (Pred.dX p2.l) (bD 0 λad _=>b7 1 λae _=>c8 4 21 (Pred.dX p2.l) (bD 0 λaf _=>b7 1 λah _=>aZ))) (bn 7 26 (c8 7 31 (Pred.dX p2.l) (bD 0 λai _=>b7 1 λaj _=>c8 4 38 (Pred.dX p2.l) (bD 0 λak _=>b7 1 λal _=>aZ))) (bn 7 43 (c8 7 48 (Pred.dX p2.l) (bD 0 λam _=>b7 1 λL _=>c8 4 55 (Pred.dX p2.l) (bD 0 λO _=>b7 1 λQ _=>aZ))) (bn 7 60 (c8 7 65 (Pred.dX p2.l) (bD 0 λS _=>b7 1 λT _=>c8 4 72 (Pred.dX p2.l) (bD 0 λU _=>b7 1 λW _=>aZ))) (bn 7 77 aZ (bn 7 79 (c8 7 84 (Pred.dX p2.l) (bD 0 λA _=>b7 (F:=Fc.of (B,D,A) hr) 1 λX _=>aZ)) (bn 7 89 (c8 7 94 (Pred.dX p2.l) (bD 0 λC _=>b7 (F:=Fc.of (B,D,C) hr) 1 λY _=>AS 1 8 [105,97] (λu=>(bN [Iv 8 p2.kind,Bv 9 false,Bv 26 false,Bv 43 false,Bv 60 false,Bv 77 false,Bv 79 false,Bv 89 true,Bv 106 u] [Xb 3 B,Xb 5 p2])) (bn 1 98 (c8 4 102 (Pred.dX p2.l) (bD 0 λG _=>b7 (F:=Fc.of (B,D,G) hr) 1 λZ _=>bh 1)) (bh 8)) λu=>aZ)) (bn 7 107 (c8 7 112 (Pred.dX p2.l) (bD 0 λI _=>b7 (F:=Fc.of (B,D,I) hr) 1 λaa _=>AS 1 8 [123,115] (λw=>(bN [Bv 9 false,Bv 26 false,Bv 43 false,Bv 60 false,Bv 77 false,Bv 79 false,Bv 89 false,Bv 107 true,Bv 124 w] [Xb 3 B,Xb 5 p2])) (bn 1 116 (bh 8) (c8 4 120 (Pred.dX p2.l) (bD 0 λJ _=>b7 (F:=Fc.of (B,D,J) hr) 1 λab _=>bh 1))) λw=>aZ)) aZ)))))))))):Fc Sy cL (iH B D p2 r)).F.h ()
def vD (B:Trace) (D:Sl Int) (p2:Pred):Option Bool:=cV (λr (z:Trace×(Sl Int)×Pred)=>iH z.1 z.2.1 z.2.2 r) 100000 (B,D,p2)
instance Ta (B:Trace) (D:Sl Int) (p2:Pred):Fc Sy cL (vD B D p2):=Fc.of (B,D,p2) (dW.fix (A:=λz:Trace×(Sl Int)×Pred=>[enc z.1,enc z.2.1,enc z.2.2]) (E:=λr:Bool=>[.bool r]) (sc:=true) (b:=(λr (z:Trace×(Sl Int)×Pred)=>iH z.1 z.2.1 z.2.2 r)) (by kernel_rfl) (λ_ _=>rfl) (λr hr z=>A2 r hr z.1 z.2.1 z.2.2) 100000)
def nG (D:Trace) (B G:Int) (p3:Pred):Option Bool:=
 (uJ (len D.procs) (0:Int)).bind λu=>
 (Sl.oC u B).bind λw=>
 (Sl.put u w (G:Int)).bind λz=>
 (vD D z p3).bind λA=>
 some A
instance Sg (D:Trace) (B G:Int) (p3:Pred):Fc Sy cL (nG D B G p3):=Fc.M 37 [enc D,.int .i64 B,.int .i64 G,enc p3] (bU 2 4 D (bU 0 7 p3 (cm 7 D.procs (Qy 0 13 λu _=>tI .i64 8 13 λw _=>Hl 0 13 (.int .i64 G) λz _=>b7 7 λA _=>aZ))))
namespace f_
def bz (B:Int) (G:Trace) (J:Pred) (D:Sl Bool) (U:Int):Option (Fw ((Sl Bool)×Int) (Sl Bool) Empty):=
 (idx G.procs B).bind λu=>
 a_ (decide (U<=(len u.events)))
 ((nG G B U J).bind λw=>
 (jr D (w:Bool)).bind λz=>
 some (.n (z,IntKind.wrap .i64 (U+1))))
 (some (.x D))
def W1 (B:Int) (D:Sl Bool) (U:Int) (G:Trace) (J:Pred):Option (Sl Bool):=
 (bV (λq:(Sl Bool)×Int=>bz B G J q.1 q.2) (D,U)).bind (Fw.elim
 (λe=>some e)
 (λe=>Empty.elim e))
end f_
def f_ (D:Trace) (B:Int) (p2:Pred):Option (Sl Bool):=
 f_.W1 B (Sl.nil:Sl Bool) 0 D p2
open f_ in
instance QL (D:Trace) (B:Int) (p2:Pred):Fc Sy cL (f_ D B p2):=Fc.N 38 [enc D,.int .i64 B,enc p2] (bU 2 3 D (bU 0 5 p2 (jN 17 (λu=>(bN [Iv 1 B,Pv 3,Pv 5,Ov 7,Iv 8 u.2] [Xb 3 D,Xb 5 p2,Lb 2007 u.1])) (λw=>(0,(bN [Ov 7] [Lb 2007 w]))) (λu=>bD 9 λz _=>cm 2 z.events (bn 3 17 (bt 11 λA _=>xd 1 2007 26 27 λC _=>aZ) aZ)) (λw=>aZ))))
namespace eP
def bz (D G:Sl Bool) (J:Int) (B:Int):Option (Fw Int Unit Unit):=
 a_ (decide (B<J))
 ((idx D B).bind λu=>
 (idx G B).bind λw=>
 a_ (u==w)
 (some (.n (IntKind.wrap .i64 (B+1))))
 (some (.r ())))
 (some (.x ()))
def W1 (B D:Sl Bool) (G J:Int):Option Bool:=
 (bV (λq:Int=>bz B D G q) J).bind (Fw.elim
 (λe=>some true)
 (λe=>some false))
end eP
def eP (B D:Sl Bool):Option Bool:=
 a_ ((len B)==(len D))
 (eP.W1 B D (len B) 0)
 (some false)
open eP in
instance LU (B D:Sl Bool):Fc Sy cL (eP B D):=Fc.M 31 [enc B,enc D] (cm 9 B (cm 1 D (cG 3 10 (cm 7 B (dP 5 (λw=>(bN [Cv 0 B,Cv 1 D,Iv 12 (len B),Iv 13 w] [])) (λu=>(0,(bN [] []))) (λu=>(bN [Bv 4 false] [])) (λw=>bn 7 14 (bD 15 λz _=>bD 3 λA _=>cG 4 24 aZ aZ) aZ) (λu=>aZ) (λu=>aZ))) aZ)))
namespace dK
def J1 (B:Int) (D:Sl Bool) (G:Int) (J:Trace) (U:Pred):Option Bool:=
 (k8 J B 0 U).bind λu=>
 a_ (u==0)
 ((a_ (G==0)
 ((f_ J B U).bind λw=>
 (eP D w).bind λz=>
 some z)
 (some false):Option Bool).bind λA=>
 some A)
 ((a_ (G==u)
 (some ((len D)==0))
 (some false):Option Bool).bind λC=>
 some C)
end dK
def dK (D:Trace) (B G:Int) (p3:Pred):Option Bool:=
 (v7).bind λC=>
 a_ C
 ((vc D).bind λI=>
 (a_ I
 (some true)
 ((tM p3).bind λJ=>
 some J):Option Bool).bind λL=>
 a_ L
 (some true)
 ((tF D B G p3).bind λu=>
 (eE D B p3).bind λw=>
 (k8 D B G p3).bind λz=>
 a_ (z==0)
 ((a_ (u.2==0)
 ((nG D B G p3).bind λO=>
 some (!(u.1==O)))
 (some true):Option Bool).bind λQ=>
 a_ Q
 (some false)
 (dK.J1 B w.1 w.2 D p3))
 ((a_ (u.2==z)
 (some u.1)
 (some true):Option Bool).bind λA=>
 a_ A
 (some false)
 (dK.J1 B w.1 w.2 D p3))))
 (some false)
open dK in
instance wh (G:Trace) (B J:Int) (p3:Pred):Fc Sy cL (dK G B J p3):=Fc.M 9 [enc G,.int .i64 B,.int .i64 J,enc p3] (bU 2 4 G (bU 0 7 p3 (bt 6 λL _=>cG 3 16 (bt 7 λO _=>bC 1 3 [19] 22 (bn 1 19 (bh 3) (bt 1 λQ _=>bh 1)) λS=>bn 2 22 aZ (bt 9 λT _=>bt 12 λu _=>bt 14 λU _=>cG 9 44 (bC 6 8 [2,9,53] 61 (cG 6 53 (bt 5 λW _=>bh 2) (bh 8)) λX=>bn 2 61 aZ (o5 4 (bt 6 λw _=>cG 9 67 (bC 8 7 [1,4,7,11,78] 85 (bn 8 78 (bt 4 λz _=>bt 0 λA _=>bh 1) (bh 7)) λC=>aZ) (bC 7 4 [11,71] 75 (bn 7 71 (cm 1 u.1 (bh 2)) (bh 4)) λD=>aZ)))) (bC 7 2 [9,48] 50 (cG 7 48 (bh 2) (bh 2)) λI=>bn 2 50 aZ (o5 4 (bt 6 λw _=>cG 9 67 (bC 8 7 [1,4,7,11,78] 85 (bn 8 78 (bt 4 λz _=>bt 0 λA _=>bh 1) (bh 7)) λC=>aZ) (bC 7 4 [11,71] 75 (bn 7 71 (cm 1 u.1 (bh 2)) (bh 4)) λD=>aZ)))))) aZ)))
end
end Go.VE
