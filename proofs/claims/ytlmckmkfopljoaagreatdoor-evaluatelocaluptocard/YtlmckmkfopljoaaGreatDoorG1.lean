/-
 Each function of the program that the law reaches: its plain form, and that it comes to that.
-/
import Derived.Test.YtlmckmkfopljoaaGreatDoorK1
import Derived.Test.YtlmckmkfopljoaaGreatDoorT1
set_option linter.all false
namespace Go.VE
structure Pred where
 kind:Int
 n:Int
 proc:Int
 peer:Int
 name:ByteArray
 l:Sl Pred
mutual
def Pred.Pj:Pred->List V
 | ⟨f0,f1,B,D,G,f5⟩=>[.int .i64 f0,.int .i64 f1,.int .i64 B,.int .i64 D,.str G,Pred.Dw f5]
def Pred.Dw:Sl Pred->V
 | .nil=>.bE
 | .emp=>.dm
 | .row l=>.fsl 6 (Pred.Bt l)
 | .part l=>.fsl 6 (Pred.Bt l)
def Pred.Bt:List Pred->List (List V)
 | []=>[]
 | x::r=>Pred.Pj x::Pred.Bt r
end
instance:Inhabited Pred:=⟨⟨default,default,default,default,default,Sl.nil⟩⟩
mutual
theorem Pred.Q8:∀x:Pred,V.cD x.Pj=true
 | ⟨f0,f1,B,D,G,f5⟩=>by simp only[Pred.Pj,V.cD,V.good,Pred.GN,Bool.and_self]
theorem Pred.GN:∀x:Sl Pred,V.good (Pred.Dw x)=true
 | .nil=>rfl
 | .emp=>rfl
 | .row l=>by simp only[Pred.Dw,V.good,Pred.A1]
 | .part l=>by simp only[Pred.Dw,V.good,Pred.A1]
theorem Pred.A1:∀x:List Pred,V.lY (Pred.Bt x)=true
 | []=>rfl
 | x::r=>by simp only[Pred.Bt,V.lY,Pred.Q8,Pred.A1,Bool.and_self]
end
theorem Pred.Qo (s:Sl Pred):V.one (Pred.Dw s)=true:=by cases s <;> simp[Pred.Dw,V.one]
instance:bq Pred where
 cells x:=[.int .i64 x.kind,.int .i64 x.n,.int .i64 x.proc,.int .i64 x.peer,.str x.name,Pred.Dw x.l]
 agg:=true
 size:=6
 len _:=rfl
 good x:=by simp only[V.cD,V.good,Pred.GN,Bool.and_self]
 one x:=by simp only[List.all_cons,List.all_nil,mW,lg,mP,Pred.Qo,Bool.and_self]
 plain h:=by cases h
theorem Pred.LS (x:Pred):Pred.Pj x=cells x:=by cases x;rfl
theorem Pred.Br:∀l:List Pred,Pred.Bt l=rows l
 | []=>rfl
 | x::r=>by rw[Pred.Bt,Pred.Br r,Pred.LS];rfl
theorem Pred.kD (s:Sl Pred):Pred.Dw s=enc s:=by
 cases s with
 | nil=>rfl
 | emp=>rfl
 | row l=>show V.fsl 6 (Pred.Bt l)=V.fsl 6 (rows l);rw[Pred.Br]
 | part l=>show V.fsl 6 (Pred.Bt l)=V.fsl 6 (rows l);rw[Pred.Br]
structure Var where
 name:ByteArray
 init_:Int
 deriving Inhabited
instance:bq Var where
 cells x:=[.str x.name,.int .i64 x.init_]
 agg:=true
 size:=2
 len _:=rfl
 good x:=by simp only[V.cD,V.good,jI,Bool.and_self]
 one x:=by simp only[List.all_cons,List.all_nil,mW,lg,mP,l_,Bool.and_self]
 plain h:=by cases h
structure Assign where
 var:Int
 value:Int
 deriving Inhabited
instance:bq Assign where
 cells x:=[.int .i64 x.var,.int .i64 x.value]
 agg:=true
 size:=2
 len _:=rfl
 good x:=by simp only[V.cD,V.good,jI,Bool.and_self]
 one x:=by simp only[List.all_cons,List.all_nil,mW,lg,mP,l_,Bool.and_self]
 plain h:=by cases h
structure Event where
 kind:Int
 peer:Int
 message:Int
 time:Int
 assign:Sl Assign
 deriving Inhabited
instance:bq Event where
 cells x:=[.int .i64 x.kind,.int .i64 x.peer,.int .i64 x.message,.int .i64 x.time,enc x.assign]
 agg:=true
 size:=5
 len _:=rfl
 good x:=by simp only[V.cD,V.good,jI,Bool.and_self]
 one x:=by simp only[List.all_cons,List.all_nil,mW,lg,mP,l_,Bool.and_self]
 plain h:=by cases h
structure bM where
 name:ByteArray
 vars:Sl Var
 events:Sl Event
 deriving Inhabited
instance:bq bM where
 cells x:=[.str x.name,enc x.vars,enc x.events]
 agg:=true
 size:=3
 len _:=rfl
 good x:=by simp only[V.cD,V.good,jI,Bool.and_self]
 one x:=by simp only[List.all_cons,List.all_nil,mW,lg,mP,l_,Bool.and_self]
 plain h:=by cases h
structure Trace where
 procs:Sl bM
 deriving Inhabited
instance:bq Trace where
 cells x:=[enc x.procs]
 agg:=true
 size:=1
 len _:=rfl
 good x:=by simp only[V.cD,V.good,jI,Bool.and_self]
 one x:=by simp only[List.all_cons,List.all_nil,mW,lg,mP,l_,Bool.and_self]
 plain h:=by cases h
structure bD where
 from_:aY
 to_:aY
 deriving Inhabited
instance:bq bD where
 cells x:=[.int .i64 x.from_.proc,.int .i64 x.from_.index,.int .i64 x.to_.proc,.int .i64 x.to_.index]
 agg:=true
 size:=4
 len _:=rfl
 good x:=by simp only[V.cD,V.good,jI,Bool.and_self]
 one x:=by simp only[List.all_cons,List.all_nil,mW,lg,mP,l_,Bool.and_self]
 plain h:=by cases h
structure bL where
 low:Int
 high:Int
 deriving Inhabited
instance:bq bL where
 cells x:=[.int .i64 x.low,.int .i64 x.high]
 agg:=true
 size:=2
 len _:=rfl
 good x:=by simp only[V.cD,V.good,jI,Bool.and_self]
 one x:=by simp only[List.all_cons,List.all_nil,mW,lg,mP,l_,Bool.and_self]
 plain h:=by cases h
structure br where
 t:Trace
 counts:Sl Int
 values:Sl (Sl Int)
 deriving Inhabited
instance:bq br where
 cells x:=[enc x.t.procs,enc x.counts,enc x.values]
 agg:=true
 size:=3
 len _:=rfl
 good x:=by simp only[V.cD,V.good,jI,Bool.and_self]
 one x:=by simp only[List.all_cons,List.all_nil,mW,lg,mP,l_,Bool.and_self]
 plain h:=by cases h
structure bZ where
 lengths:Sl Int
 need:Sl (Sl aY)
 deriving Inhabited
instance:bq bZ where
 cells x:=[enc x.lengths,enc x.need]
 agg:=true
 size:=2
 len _:=rfl
 good x:=by simp only[V.cD,V.good,jI,Bool.and_self]
 one x:=by simp only[List.all_cons,List.all_nil,mW,lg,mP,l_,Bool.and_self]
 plain h:=by cases h
def jJ (p:Int):Int->List Event->List (aY×Event)
 | _,[]=>[]
 | j,e::r=>(⟨p,j+1⟩,e)::jJ p (j+1) r
def fS:Int->List bM->List (aY×Event)
 | _,[]=>[]
 | i,p::r=>jJ i 0 p.events.l++fS (i+1) r
def ni (n:Nat):Bool:=decide (n<9223372036854775807)
def iC (t:Trace):Option (List (aY×Event)):=
 if ni t.procs.l.length&&t.procs.l.all λp=>ni p.events.l.length then some (fS 0 t.procs.l)else none
def xT:cq 22 Int:=⟨Go.Proofs.YtlmckmkfopljoaaGreatDoor.BD,rfl⟩
end Go.VE
namespace Go.VE
def JR:List (Nat×GD):=[
 (66,⟨0x22226260002000201,[],[(6,[.keep [0,1,7,8] []],[.keep [0,1,7,8] []]),(12,[.keep [] []],[]),(22,[.keep [4] []],[]),(27,[.keep [4] []],[])]⟩),
 (40,⟨0x226221,[],[]⟩),
 (67,⟨0x22226260002000201,[],[(6,[.keep [0,1,7,8] []],[.keep [0,1,7,8] []]),(12,[.keep [] []],[]),(22,[.keep [4] []],[]),(27,[.keep [4] []],[])]⟩),
 (42,⟨0x226221,[],[]⟩),
 (43,⟨0x2222212,[],[]⟩),
 (41,⟨0x264442644402222012,[],[]⟩),
 (11,⟨0x264442222012,[],[]⟩),
 (44,⟨0x222000ff2026020064026220000202202,[],[(10,[.keep [1,2,3,4] [4,9001,9002]],[]),(13,[.keep [1,2,3,4,6] [4,9001,9002]],[.keep [1,2,3,4,6] [4,9001,9002]]),(19,[.keep [] [9001,9002]],[])]⟩),
 (12,⟨0x2227222000012,[(5,[.canon (.s 3) 9001 0,.canon (.s 4) 9002 0])],[]⟩),
 (26,⟨0x22222262222202000022012,[],[(8,[.keep [3,7,8,9] []],[.keep [3,7,8,9] []]),(14,[.keep [3] []],[])]⟩),
 (153,⟨0x26c4426201,[],[]⟩),
 (197,⟨0x26c4444026402201,[],[]⟩),
 (198,⟨0x26442201,[],[]⟩),
 (181,⟨0x22064c402644c00222600200020064440264402201,[],[(8,[.keep [2] []],[]),(14,[.keep [0,18,19] []],[.keep [0,18,19] []]),(20,[.keep [] []],[]),(30,[.keep [2] []],[]),(35,[.keep [2] []],[])]⟩),
 (182,⟨0x26222212,[],[]⟩),
 (183,⟨0x26222212,[],[]⟩),
 (106,⟨0x22226260002000201,[],[(6,[.keep [0,1,7,8] []],[.keep [0,1,7,8] []]),(12,[.keep [] []],[]),(22,[.keep [4] []],[]),(27,[.keep [4] []],[])]⟩),
 (161,⟨0x226221,[],[]⟩),
 (154,⟨0x222222022222026c0c4402222022020000020022220026c0c44422220202602012,[],[(11,[.keep [4] []],[]),(17,[.keep [4] []],[]),(23,[.keep [5,32,33,34] [5]],[.keep [5,32,33,34] [5]]),(29,[.keep [5] [5]],[]),(40,[.keep [4] []],[]),(46,[.keep [4] []],[]),(55,[.keep [4] []],[]),(59,[.keep [4] []],[])]⟩),
 (155,⟨0x2212,[],[]⟩),
 (185,⟨0x2644426c4402622222022202644422202020122,[],[(18,[.keep [1,3,5,19] [3,5]],[])]⟩),
 (187,⟨0x26222212,[],[]⟩),
 (199,⟨0x22226260002000201,[],[(6,[.keep [0,1,7,8] []],[.keep [0,1,7,8] []]),(12,[.keep [] []],[]),(22,[.keep [4] []],[]),(27,[.keep [4] []],[])]⟩),
 (186,⟨0x226221,[],[]⟩),
 (156,⟨0x2202626220026444022622202022020000020022220026c44022220022e02222226220202200202620201222,[],[(12,[.keep [3,4,5,7,8] [3,4,5,7]],[]),(19,[.keep [6] []],[]),(25,[.keep [6] []],[]),(31,[.keep [6] []],[]),(37,[.keep [5,7,52,53,54] [5,7]],[.keep [5,7,52,53,54] [5,7]]),(43,[.keep [] []],[]),(54,[.keep [6] []],[]),(60,[.keep [6] []],[]),(65,[.keep [6] []],[])]⟩),
 (200,⟨0x26c44426c440222012,[],[]⟩),
 (188,⟨0x2662262221222,[],[]⟩),
 (157,⟨0x2202326222002202001ef200220022022226200223262220022022226200202022020202020200002,[],[(8,[.keep [1,2,3,4,5,12] [1,2,3,4,5,10]],[.keep [] [1,2,3,4,5,10]]),(27,[.keep [] [1,2,3,4,5,10]],[]),(39,[.keep [] [1,2,3,4,5,10]],[]),(47,[.keep [] [1,2,3,4,5,10]],[]),(53,[.keep [2,3,4] [2,3,4,10]],[])]⟩),
 (189,⟨0x222622262222264444c4400222020262222262622020262020222620220122,[],[(12,[.canon (.s 7) 2007 2,.keep [1,5,7,8] [5,2007]],[])]⟩),
 (158,⟨0x20222622230026000226002020000e200262220202622002202202020200022,[],[(6,[.keep [2,3,4,5,13] [2,3,4,5]],[.keep [] [2,3,4,5]]),(14,[.canon (.s 8) 2008 2,.keep [2,3,4,5,6,7,8,13] [2,3,4,5,6,16,2008]],[.canon (.s 8) 2008 2,.keep [2,3,4,5,6,7,8,13] [2,3,4,5,6,16,2008]]),(20,[.keep [2,3,4,5,13] [2,3,4,5]],[]),(29,[.canon (.s 8) 2008 2,.keep [2,3,4,5,6,7,8,13,36,37,38] [2,3,4,5,6,16,2008]],[.canon (.s 8) 2008 2,.keep [2,3,4,5,6,7,8,13,36,37,38] [2,3,4,5,6,16,2008]]),(35,[.canon (.s 8) 2008 2,.keep [2,3,4,5,6,7,8,13] [2,3,4,5,6,16,2008]],[]),(46,[.keep [] [2,3,4,5]],[]),(58,[.keep [4,5] [4,5]],[])]⟩),
 (117,⟨0x20022222020262222222022202002202222202e2002020202222222202600200022002022220002,[],[(8,[.keep [2,3] [2,3]],[]),(14,[.keep [1,2,3,22,23] [1,2,3]],[.keep [1,2,3,22,23] [1,2,3]]),(20,[.keep [1,2,3] [1,2,3]],[]),(32,[.keep [2,3] [2,3]],[]),(39,[.keep [1,2,3,36] [1,2,3]],[.keep [] [1,2,3]]),(51,[.keep [] [1,2,3]],[]),(61,[.keep [2,3] [2,3]],[]),(71,[.keep [2,3] [2,3]],[]),(75,[.keep [2,3] [2,3]],[])]⟩),
 (82,⟨0x2222302022212,[],[]⟩),
 (159,⟨0x264426402201,[],[]⟩),
 (119,⟨0x26c4444c4404440222006c4404440264402644026c444044026440222012,[],[]⟩),
 (121,⟨0x22e222212,[],[]⟩),
 (120,⟨0x226221,[],[]⟩),
 (160,⟨0x22226260002000201,[],[(6,[.drop [2,3,4,5,6,9,10,11,12,13,14,15,16,17,18]],[.drop [2,3,4,5,6,9,10,11,12,13,14,15,16,17,18]]),(12,[.drop [0,1,2,3,4,5,6,7,8,9,10,11,12,13,14,15,16,17,18]],[]),(22,[.drop [0,1,2,3,5,6,7,8,9,10,11,12,13,14,15,16,17,18]],[]),(27,[.drop [0,1,2,3,5,6,7,8,9,10,11,12,13,14,15,16,17,18]],[])]⟩),
 (118,⟨0x226622064402640222220122,[(20,[.closeB 5])],[]⟩),
 (83,⟨0x26222200012,[(5,[.canon (.s 3) 9004 0,.canon (.s 4) 9003 0])],[]⟩),
 (123,⟨0x26c444422012,[],[]⟩),
 (162,⟨0x2622212,[],[]⟩),
 (124,⟨0x262226222122,[],[]⟩),
 (122,⟨0x2644426c404026c40426200222644426440262022026001cf444042644026200202012,[],[]⟩),
 (146,⟨0x2262212,[],[]⟩),
 (103,⟨0x264c4442600122,[(10,[.closeB 3])],[]⟩),
 (84,⟨0x2622122,[],[]⟩),
 (56,⟨0x221,[],[]⟩),
 (127,⟨0x221,[],[]⟩),
 (126,⟨0x2622222212,[],[]⟩),
 (125,⟨0x22622012,[(5,[.closeB 1])],[]⟩),
 (85,⟨0x22212,[],[]⟩),
 (131,⟨0x222222626002620002220012201,[],[(8,[.keep [0] []],[]),(14,[.keep [0,3,4] []],[.keep [0,3,4] []]),(20,[.keep [3] []],[])]⟩),
 (132,⟨0x222222626002620002220012201,[],[(8,[.keep [0] []],[]),(14,[.keep [0,3,4] []],[.keep [0,3,4] []]),(20,[.keep [3] []],[])]⟩),
 (89,⟨0x2622200,[],[]⟩),
 (129,⟨0x22222226c04422202020000226222012,[],[(8,[.keep [2,7,15,16,17] []],[.keep [2,7,15,16,17] []]),(14,[.keep [7] []],[])]⟩),
 (201,⟨0x2622212,[],[]⟩),
 (190,⟨0x26222122,[],[]⟩),
 (163,⟨0x220020262262220026c4400220002220112,[],[]⟩),
 (168,⟨0x26200201,[],[(8,[.canon (.s 2) 4004 1],[]),(12,[.canon (.s 2) 4004 1],[])]⟩),
 (179,⟨0x222e202202236222002020000222202000002226200222622222020000200,[(21,[.closeS (.s 25)]),(57,[.closeS (.s 54)])],[(6,[.canon (.s 3) 2003 1,.keep [0,1,3,11,12,13] [2003]],[.canon (.s 3) 2003 1,.keep [0,1,3,11,12,13] [2003]]),(12,[.canon (.s 3) 2003 1,.keep [0,1,3] [2003]],[]),(23,[.keep [] []],[]),(28,[.canon (.s 3) 2003 1,.keep [0,3,29,30,31] [2003]],[.canon (.s 3) 2003 1,.keep [0,3,29,30,31] [2003]]),(34,[.keep [] []],[]),(43,[.canon (.s 3) 2003 1,.keep [0,3,6,29,30,31,37,38,39] [2003]],[.canon (.s 3) 2003 1,.keep [0,3,6,29,30,31,37,38,39] [2003]]),(49,[.canon (.s 3) 2003 1,.keep [0,3,6,29,30,31] [2003]],[]),(59,[.keep [] []],[])]⟩),
 (145,⟨0x2212,[],[]⟩),
 (164,⟨0x22262260202220122,[],[(8,[.canon (.c 5 0) 4100 1,.keep [3,5,9] [3,5,4100]],[.canon (.c 5 0) 4100 1,.keep [] [3,5,4100]])]⟩),
 (130,⟨0x2222202622622220022022202e2001112,[],[]⟩),
 (87,⟨0x26223222002e2220222e2220222222226222220222222020022,[],[]⟩),
 (88,⟨0x26444222012,[],[]⟩),
 (133,⟨0x262201,[],[]⟩),
 (90,⟨0x22222622220622020260006402201,[],[]⟩),
 (57,⟨0x22222022001ef622226202062020620202662222620202226622226202020262222202022002064422222202622202222002002202026222002222202062222201022,[],[(22,[.keep [3,4,7,8,9,10] [3,4,7,9]],[]),(49,[.keep [4,11] [4,11]],[])]⟩),
 (128,⟨0x2262212,[],[]⟩),
 (86,⟨0x226222222302026222220122,[(21,[.closeB 2])],[]⟩),
 (55,⟨0x22622022200226000264402220122,[],[]⟩),
 (102,⟨0x2222002220002220112,[],[]⟩),
 (69,⟨0x6c44222222022212,[],[]⟩),
 (140,⟨0x2262212,[],[]⟩),
 (96,⟨0x2262222622222200202020202020122,[(28,[.closeB 2])],[(24,[.keep [2,3,6,7] [2,3]],[]),(34,[.keep [2,3,13] [2,3]],[])]⟩),
 (62,⟨0x2622222022006c444c0444264026c440022022202600122,[],[]⟩),
 (101,⟨0x226022222022,[],[(6,[.keep [3,4,8] [3,4]],[.keep [] [3,4]]),(16,[.keep [] [3,4]],[]),(20,[.keep [4] [4]],[])]⟩),
 (97,⟨0x262262220026c444c0400264026c4400220002220112,[],[]⟩),
 (107,⟨0x26222212,[],[]⟩),
 (71,⟨0x226226222226022620220122,[],[]⟩),
 (195,⟨0x26222221,[],[]⟩),
 (213,⟨0x22226260002000201,[],[(6,[.keep [0,1,7,8] []],[.keep [0,1,7,8] []]),(12,[.keep [] []],[]),(22,[.keep [4] []],[]),(27,[.keep [4] []],[])]⟩),
 (194,⟨0x226221,[],[]⟩),
 (175,⟨0x264c4422012,[],[]⟩),
 (176,⟨0x2206c444c440422022200000212,[],[(6,[.keep [2,7,8,9] [2]],[.keep [2,7,8,9] [2]]),(12,[.keep [] []],[]),(22,[.keep [4] []],[]),(27,[.keep [4] []],[])]⟩),
 (177,⟨0x26c444422012,[],[]⟩),
 (180,⟨0x200226c0442602020202202022000222,[],[(8,[.keep [6,7] [6,7]],[]),(14,[.keep [4,5,6,7,15] [4,5,6,7]],[.keep [] [4,5,6,7]]),(24,[.keep [] [4,5,6,7]],[]),(28,[.keep [6,7] [6,7]],[])]⟩),
 (166,⟨0x2220622102,[],[]⟩),
 (196,⟨0x2200222202262222626200203202026220220220200000622260202220000001002,[],[(6,[.keep [1,2,4,5,13,14,15] [2,4,5]],[.keep [1,2,4,5,13,14,15] [2,4,5]]),(12,[.keep [4,5] [4,5]],[]),(20,[.keep [1,2,4,5,7,13,14,15,27,28,29] [2,4,5]],[.keep [1,2,4,5,7,13,14,15,27,28,29] [2,4,5]]),(26,[.keep [1,2,4,5,13,14,15] [2,4,5]],[]),(44,[.keep [4,5,6] [4,5]],[]),(50,[.keep [4,5,6] [4,5]],[])]⟩),
 (178,⟨0x22223300200262212,[],[]⟩),
 (144,⟨0x2202620220000222026202200002220262022000000260012,[],[(8,[.keep [6] []],[]),(14,[.keep [1,2,3,17,18,19] [3]],[.keep [1,2,3,17,18,19] [3]]),(20,[.keep [1,2,3] [3]],[]),(30,[.keep [6] []],[]),(37,[.keep [1,3,28,29,30] [3]],[.keep [1,3,28,29,30] [3]]),(43,[.keep [1,3] [3]],[]),(53,[.keep [6] []],[]),(60,[.keep [3,39,40,41] [3]],[.keep [3,39,40,41] [3]]),(66,[.keep [] []],[]),(76,[.keep [6] []],[]),(81,[.keep [6] []],[])]⟩),
 (147,⟨0x2220622102,[],[]⟩),
 (108,⟨0x22222622226c4c4404022222020262006c04022202020000626202260200202202e600200112,[],[(18,[.canon (.s 11) 2011 1,.keep [1,3,4,11,36,37,38] [4,2011]],[.canon (.s 11) 2011 1,.keep [1,3,4,11,36,37,38] [4,2011]]),(24,[.canon (.s 11) 2011 1,.keep [11] [2011]],[])]⟩),
 (72,⟨0x22232202001ef22202220122,[],[]⟩),
 (46,⟨0x266222226222002662222262220022266222226222002022622222202622202262222202622202222020122,[],[]⟩),
 (47,⟨0x26c44444262220026c44444262220022226222222022222020266222226222002026622222622200202662222262220020266222226222002020122,[],[(36,[.keep [2,3,6,67] [2,3]],[])]⟩),
 (63,⟨0x262236302e22202036002020e222022200122,[(33,[.closeS (.c 9 1),.closeS (.c 9 2)])],[]⟩),
 (33,⟨0x2222262001ef020022000222260200202202e0001122,[],[(18,[.canon (.s 9) 2009 1,.keep [1,3,5,9,25,26] [3,5,2009]],[.canon (.s 9) 2009 1,.keep [1,3,5,9,25,26] [3,5,2009]]),(24,[.canon (.s 9) 2009 1,.keep [9] [2009]],[])]⟩),
 (105,⟨0x26442201,[],[]⟩),
 (104,⟨0x2222212,[],[]⟩),
 (70,⟨0x2644422012,[],[]⟩),
 (141,⟨0x2222306222030622222022262222302622022002020000200202000020002,[(53,[.closeS (.s 49)]),(59,[.closeS (.c 3 0),.closeS (.c 3 1)])],[(8,[.canon (.c 3 0) 4060 1,.canon (.c 3 1) 4061 1,.keep [1,2,3,11,12,13] [1,2,3,4060,4061]],[.canon (.c 3 0) 4060 1,.canon (.c 3 1) 4061 1,.keep [1,2,3,11,12,13] [1,2,3,4060,4061]]),(14,[.canon (.c 3 0) 4060 1,.canon (.c 3 1) 4061 1,.keep [2,3] [2,3,4060,4061]],[]),(25,[.canon (.s 6) 2006 2,.canon (.c 3 0) 4060 1,.canon (.c 3 1) 4061 1,.keep [1,2,3,5,6,11,12,13,18,19,20] [1,2,3,5,2006,4060,4061]],[.canon (.s 6) 2006 2,.canon (.c 3 0) 4060 1,.canon (.c 3 1) 4061 1,.keep [1,2,3,5,6,11,12,13,18,19,20] [1,2,3,5,2006,4060,4061]]),(31,[.canon (.s 6) 2006 2,.canon (.c 3 0) 4060 1,.canon (.c 3 1) 4061 1,.keep [1,2,3,5,6,11,12,13] [1,2,3,5,2006,4060,4061]],[]),(44,[.canon (.s 6) 2006 2,.canon (.c 3 0) 4060 1,.canon (.c 3 1) 4061 1,.keep [1,2,3,5,6,9,11,12,13,18,19,20] [1,2,3,5,9,2006,4060,4061]],[])]⟩),
 (167,⟨0x26262222020262620260220626020260012,[],[]⟩),
 (212,⟨0x26201,[],[]⟩),
 (193,⟨0x62206000200222202201,[],[]⟩),
 (171,⟨0x62222222220262222620062002220000001,[],[(6,[.keep [0,1,9,10,11] []],[.keep [0,1,9,10,11] []]),(12,[.keep [0,1] []],[]),(23,[.keep [4] []],[]),(34,[.keep [4] []],[]),(43,[.keep [4] []],[]),(47,[.keep [4] []],[])]⟩),
 (170,⟨0x26221,[],[]⟩),
 (174,⟨0x2206262026002000200620201,[],[(8,[.keep [4] []],[]),(14,[.keep [0,1,12,13] []],[.keep [0,1,12,13] []]),(20,[.keep [] []],[]),(30,[.keep [4] []],[]),(35,[.keep [4] []],[])]⟩),
 (173,⟨0x26221,[],[]⟩),
 (142,⟨0x222302222262223622020220e0002000202200002012,[(32,[.closeS (.s 34)])],[(8,[.canon (.s 5) 2005 1,.keep [2,5,10,11,12] [2,2005]],[.canon (.s 5) 2005 1,.keep [2,5,10,11,12] [2,2005]]),(14,[.canon (.s 5) 2005 1,.keep [5] [2005]],[]),(22,[.canon (.s 5) 2005 1,.keep [2,5,7,10,11,12,17,18] [2,2005]],[.canon (.s 5) 2005 1,.keep [2,5,7,10,11,12,17,18] [2,2005]]),(28,[.canon (.s 5) 2005 1,.keep [2,5,10,11,12] [2,2005]],[])]⟩),
 (98,⟨0x2226202620200202620222000222222202000220112,[(16,[.closeS (.s 16)])],[(8,[.canon (.s 2) 2002 1,.keep [2,3] [2002]],[]),(20,[.closeS (.s 5),.canon (.s 6) 2006 1,.keep [4,5,6,7] [4,2006]],[.closeS (.s 5),.canon (.s 6) 2006 1,.keep [4,5,6,7] [4,2006]]),(26,[.canon (.s 6) 2006 1,.keep [6] [2006]],[]),(37,[.canon (.s 2) 2002 1,.keep [2,3] [2002]],[]),(43,[.canon (.s 2) 2002 1,.keep [2,3] [2002]],[])]⟩),
 (64,⟨0x222222220222112,[],[]⟩),
 (34,⟨0x222022112,[],[]⟩),
 (100,⟨0x222226262222022200000202022026202112,[],[(18,[.canon (.s 7) 2007 2,.keep [7,17,18,19] [2007]],[.canon (.s 7) 2007 2,.keep [7,17,18,19] [2007]]),(24,[.canon (.s 7) 2007 2,.keep [7] [2007]],[])]⟩),
 (68,⟨0x22222626226220222200000202022023202600112,[],[(18,[.canon (.s 8) 2008 1,.keep [2,8,20,21,22] [2,2008]],[.canon (.s 8) 2008 1,.keep [2,8,20,21,22] [2,2008]]),(24,[.canon (.s 8) 2008 1,.keep [8] [2008]],[])]⟩),
 (60,⟨0x22222226260e22022002202220260022000000200220222022000020200220220200220260011122,[],[(10,[.canon (.s 5) 2005 1,.keep [4,5,6] [2005]],[]),(20,[.canon (.s 5) 2005 1,.keep [4,5,6] [2005]],[]),(28,[.canon (.s 5) 2005 1,.keep [4,5,6] [2005]],[]),(38,[.canon (.s 5) 2005 1,.keep [4,5,6] [2005]],[]),(46,[.canon (.s 11) 2011 1,.keep [2,3,9,11,37,38,39] [2,3,2011]],[.canon (.s 11) 2011 1,.keep [2,3,9,11,37,38,39] [2,3,2011]]),(52,[.canon (.s 11) 2011 1,.keep [9,11] [2011]],[]),(65,[.canon (.s 5) 2005 1,.keep [4,5,6] [2005]],[]),(71,[.canon (.s 5) 2005 1,.keep [4,5,6] [2005]],[])]⟩),
 (27,⟨0x222222320026221122,[],[]⟩),
 (45,⟨0x222e222064422026202220202220260022202006c4404022026001022,[],[(10,[.keep [1,3,4,6,8,10] [4,6,8]],[]),(36,[.keep [1,4,8,10,11] [4,8]],[])]⟩),
 (14,⟨0x262220220220202e0221122,[],[]⟩),
 (8,⟨0x2206c4c40422222202e02006c4c4c0004c0026c404c002644c00262202022200000206c4444c0404026c4400264026c40402644222264442222022202202220260022222222202e00006402640220020122,[],[(8,[.keep [6] []],[]),(16,[.keep [6] []],[]),(26,[.keep [6] []],[]),(38,[.keep [6] []],[]),(46,[.keep [6] []],[]),(52,[.keep [1,3,5,7,9,98,99,100] [3,5]],[.keep [1,3,5,7,9,98,99,100] [3,5]]),(58,[.keep [] []],[]),(69,[.keep [6] []],[]),(78,[.keep [6] []],[]),(83,[.keep [6] []],[])]⟩)]
end Go.VE
namespace Go.VE
namespace trace_events_c1
def Av:List RO:=[o1 20 (.s 18) [],o2 21 (ix 5) [.s 16,.s 18] [],o2 22 (lD 5) [.s 21] [21],o2 6 (.a (.alloc 5 [.int .i64 0,.int .i64 0,.int .i64 0,.int .i64 0,.bE])) [] [],o1 5 (.s 20) [20],oz (.l (.store 5)) [.s 6,.s 22] [22]]
def yg:List RO:=[o1 23 (.s 0) [],o1 24 (.s 3) [],o1 25 (.s 5) [5],o2 26 (bI .add) [.s 25,.k (.int .i64 1)] [25],o2 27 (.p (.build [.int .i64 0,.int .i64 0] [(0,1),(1,1)])) [.s 24,.s 26] [24,26],o2 28 (lD 5) [.s 6] [6],
 o2 29 .c [.s 23,.s 27,.s 28] [23,27,28],o2 30 (.p .not) [.s 29] [29]]
def vt:List RO:=[o2 31 (bI .add) [.s 18,.k (.int .i64 1)] [],o1 18 (.s 31) [31]]
def Dj:RC:=.hg (.seq (.ops [o2 19 (bI .lss) [.s 18,.s 17] []]) (.seq (.cond (.s 19) .skip (.exit 2)) (.seq (.block 3 (.seq (.ops Av) (.seq (.ops yg) (.cond (.s 30) .ret .skip)))) (.ops vt)))) (.keep [0,3,8,9,10,16,17,18] [])
def Ig:List RO:=[o1 12 (.s 10) [],o2 13 (ix 3) [.s 8,.s 10] [],o2 14 (lD 3) [.s 13] [13],o2 4 (.a (.alloc 3 [.str ByteArray.empty,.bE,.bE])) [] [],o1 3 (.s 12) [12],oz (.l (.store 3)) [.s 4,.s 14] [14]]
def E0:List RO:=[o2 15 (fa 2) [.s 4] [],o2 16 (ld 1) [.s 15] [15],o2 17 ln [.s 16] [],o1 18 (.k (.int .i64 0)) []]
def Du:List RO:=[o2 32 (bI .add) [.s 10,.k (.int .i64 1)] [],o1 10 (.s 32) [32]]
def U2:RC:=.block 2 (.gh (.keep [0,3,8,9,10,16,17,18] []) (.loop Dj))
def LJ:RC:=.hg (.seq (.ops [o2 11 (bI .lss) [.s 10,.s 9] []]) (.seq (.cond (.s 11) .skip (.exit 0)) (.seq (.block 1 (.seq (.ops Ig) (.seq (.ops E0) U2))) (.ops Du)))) (.keep [0,8,9,10] [])
def Qa:List RO:=[o2 7 (fa 0) [.s 1] [1],o2 8 (ld 1) [.s 7] [7],o2 9 ln [.s 8] [],o1 10 (.k (.int .i64 0)) []]
def U1:RC:=.block 0 (.gh (.keep [0,8,9,10] []) (.loop LJ))
def text:RF:=⟨33,[],.seq (.ops Qa) U1⟩
section
variable {S:Sys}
abbrev I1 (ps:Sl bM) (i:Int) (B:List (List V)) (more:Bool) (y:Nat):St:=⟨[(0,.yl y),Cv 8 ps,Iv 9 (len ps),Iv 10 i],[],[],B,more,y⟩
abbrev I2 (ps:Sl bM) (i:Int) (es:Sl Event) (j:Int) (B:List (List V)) (more:Bool) (y:Nat):St:=⟨[(0,.yl y),Iv 3 i,Cv 8 ps,Iv 9 (len ps),Iv 10 i,Cv 16 es,Iv 17 (len es),Iv 18 j],[],[],B,more,y⟩
abbrev S2 (ps:Sl bM) (i:Int) (es:Sl Event) (j:Int) (b:Bool) (B:List (List V)) (more:Bool) (y:Nat):St:=⟨[(0,.yl y),Iv 3 i,Cv 8 ps,Iv 9 (len ps),Iv 10 i,Cv 16 es,Iv 17 (len es),Iv 18 j,Bv 19 b],[],[],B,more,y⟩
theorem SC (ps:Sl bM) (i:Int) (es:Sl Event) (j:Int) (B:List (List V)) (more:Bool) (y:Nat) (D:decide (j<len es)=false) :
 rn S.bare mA some (.rc Dj) [] (I2 ps i es j B more y)=some (.exit 2,S2 ps i es j false B more y):=by
 refine Le.get ?_;refine Kf (n:=7) (fo':=.rc (.cond (.s 19) .skip (.exit 2))) (fs':=[.seq (.seq (.block 3 (.seq (.ops Av) (.seq (.ops yg) (.cond (.s 30) .ret .skip)))) (.ops vt)),.gst (.keep [0,3,8,9,10,16,17,18] [])]) (λb=>S2 ps i es j b B more y) D (by kernel_rfl) ?_
 exact Le.of_eq (by kernel_rfl)
theorem T7 (ps:Sl bM) (i:Int) (es:Sl Event) (j:Int) (e:Event) (B:List (List V)) (more:Bool) (y:Nat) (G:decide (j<len es)=true) (D:idx es j=some e) (J:(!(more || !B.isEmpty))=false) :
 rn S.bare mA some (.rc Dj) [] (I2 ps i es j ([enc (⟨i,IntKind.wrap .i64 (j+1)⟩:aY),enc e]::B) more y)=some (.norm,I2 ps i es (IntKind.wrap .i64 (j+1)) B more y):=by
 refine Le.get ?_;refine Kt (n:=7) (fo':=.rc (.cond (.s 19) .skip (.exit 2))) (fs':=[.seq (.seq (.block 3 (.seq (.ops Av) (.seq (.ops yg) (.cond (.s 30) .ret .skip)))) (.ops vt)),.gst (.keep [0,3,8,9,10,16,17,18] [])]) (λb=>S2 ps i es j b ([enc (⟨i,IntKind.wrap .i64 (j+1)⟩:aY),enc e]::B) more y) G (by kernel_rfl) ?_
 refine NL D ?_;refine NH 8 false [] (Av.drop 1) [.seq (.seq (.ops yg) (.cond (.s 30) .ret .skip)),.blk 3,.seq (.ops vt),.gst (.keep [0,3,8,9,10,16,17,18] [])] ⟨[(0,.yl y),Iv 3 i,Cv 8 ps,Iv 9 (len ps),Iv 10 i,Cv 16 es,Iv 17 (len es),Iv 18 j,Bv 19 true,Iv 20 j],[],[],([enc (⟨i,IntKind.wrap .i64 (j+1)⟩:aY),enc e]::B),more,y⟩ .i64 rfl (by kernel_rfl) λx h1=>?_
 obtain rfl:x=e:=by rw[D]at h1;cases h1;rfl
 refine SU 1 false [] (Av.drop 3) [.seq (.seq (.ops yg) (.cond (.s 30) .ret .skip)),.blk 3,.seq (.ops vt),.gst (.keep [0,3,8,9,10,16,17,18] [])] ⟨[(0,.yl y),Iv 3 i,Cv 8 ps,Iv 9 (len ps),Iv 10 i,Cv 16 es,Iv 17 (len es),Iv 18 j,Bv 19 true,Iv 20 j,Cv 22 x],[],[],([enc (⟨i,IntKind.wrap .i64 (j+1)⟩:aY),enc x]::B),more,y⟩ [iv 0,iv 0,iv 0,iv 0,.v .bE] rfl (by simp only[cK,wz,pg,qD,oS,qT,sB,qQ,rU,o8,qP,wA,sy,rT,sK,sA,uG,uL,qL,sI,SV.cM];rfl) (by kernel_rfl) ?_
 refine Ast 1 false [] (Av.drop 5) [.seq (.seq (.ops yg) (.cond (.s 30) .ret .skip)),.blk 3,.seq (.ops vt),.gst (.keep [0,3,8,9,10,16,17,18] [])] ⟨[(0,.yl y),Iv 3 i,Cv 8 ps,Iv 9 (len ps),Iv 10 i,Cv 16 es,Iv 17 (len es),Iv 18 j,Bv 19 true,Cv 22 x,Pv 6,Iv 5 j],[Xb 6 (⟨0,0,0,0,.nil⟩:Event)],[],([enc (⟨i,IntKind.wrap .i64 (j+1)⟩:aY),enc x]::B),more,y⟩ 6 0 x [iv 0,iv 0,iv 0,iv 0,.v .bE] ((cells x).map .v) rfl (by kernel_rfl) ?_
 refine UN (n:=10) (q:=yg.drop 6) (fs':=[.seq (.cond (.s 30) .ret .skip),.blk 3,.seq (.ops vt),.gst (.keep [0,3,8,9,10,16,17,18] [])]) (st:=⟨[(0,.yl y),Iv 3 i,Cv 8 ps,Iv 9 (len ps),Iv 10 i,Cv 16 es,Iv 17 (len es),Iv 18 j,Bv 19 true,(23,.yl y),Cv 27 (⟨i,IntKind.wrap .i64 (j+1)⟩:aY),Cv 28 x],[Xb 6 x],[],([enc (⟨i,IntKind.wrap .i64 (j+1)⟩:aY),enc x]::B),more,y⟩) (vs:=[cv (⟨i,IntKind.wrap .i64 (j+1)⟩:aY),cv x]) (by kernel_rfl) rfl (by kernel_rfl) (by kernel_rfl) rfl rfl ?_
 refine Kf (n:=3) (fo':=.rc (.cond (.s 30) .ret .skip)) (fs':=[.blk 3,.seq (.ops vt),.gst (.keep [0,3,8,9,10,16,17,18] [])]) (λb=>⟨[(0,.yl y),Iv 3 i,Cv 8 ps,Iv 9 (len ps),Iv 10 i,Cv 16 es,Iv 17 (len es),Iv 18 j,Bv 19 true,Bv 30 b],[Xb 6 x],[],B,more,y⟩) J (by kernel_rfl) ?_
 exact Le.of_eq (by kernel_rfl)
theorem Ql (ps:Sl bM) (i:Int) (es:Sl Event) (j:Int) (e:Event) (B:List (List V)) (more:Bool) (y:Nat) (G:decide (j<len es)=true) (D:idx es j=some e) (J:(!(more || !B.isEmpty))=true) :
 rn S.bare mA some (.rc Dj) [] (I2 ps i es j ([enc (⟨i,IntKind.wrap .i64 (j+1)⟩:aY),enc e]::B) more y)=some (.ret,⟨[(0,.yl y),Iv 3 i,Cv 8 ps,Iv 9 (len ps),Iv 10 i,Cv 16 es,Iv 17 (len es),Iv 18 j,Bv 19 true,Bv 30 true],[Xb 6 e],[],B,more,y⟩):=by
 refine Le.get ?_;refine Kt (n:=7) (fo':=.rc (.cond (.s 19) .skip (.exit 2))) (fs':=[.seq (.seq (.block 3 (.seq (.ops Av) (.seq (.ops yg) (.cond (.s 30) .ret .skip)))) (.ops vt)),.gst (.keep [0,3,8,9,10,16,17,18] [])]) (λb=>S2 ps i es j b ([enc (⟨i,IntKind.wrap .i64 (j+1)⟩:aY),enc e]::B) more y) G (by kernel_rfl) ?_
 refine NL D ?_;refine NH 8 false [] (Av.drop 1) [.seq (.seq (.ops yg) (.cond (.s 30) .ret .skip)),.blk 3,.seq (.ops vt),.gst (.keep [0,3,8,9,10,16,17,18] [])] ⟨[(0,.yl y),Iv 3 i,Cv 8 ps,Iv 9 (len ps),Iv 10 i,Cv 16 es,Iv 17 (len es),Iv 18 j,Bv 19 true,Iv 20 j],[],[],([enc (⟨i,IntKind.wrap .i64 (j+1)⟩:aY),enc e]::B),more,y⟩ .i64 rfl (by kernel_rfl) λx h1=>?_
 obtain rfl:x=e:=by rw[D]at h1;cases h1;rfl
 refine SU 1 false [] (Av.drop 3) [.seq (.seq (.ops yg) (.cond (.s 30) .ret .skip)),.blk 3,.seq (.ops vt),.gst (.keep [0,3,8,9,10,16,17,18] [])] ⟨[(0,.yl y),Iv 3 i,Cv 8 ps,Iv 9 (len ps),Iv 10 i,Cv 16 es,Iv 17 (len es),Iv 18 j,Bv 19 true,Iv 20 j,Cv 22 x],[],[],([enc (⟨i,IntKind.wrap .i64 (j+1)⟩:aY),enc x]::B),more,y⟩ [iv 0,iv 0,iv 0,iv 0,.v .bE] rfl (by simp only[cK,wz,pg,qD,oS,qT,sB,qQ,rU,o8,qP,wA,sy,rT,sK,sA,uG,uL,qL,sI,SV.cM];rfl) (by kernel_rfl) ?_
 refine Ast 1 false [] (Av.drop 5) [.seq (.seq (.ops yg) (.cond (.s 30) .ret .skip)),.blk 3,.seq (.ops vt),.gst (.keep [0,3,8,9,10,16,17,18] [])] ⟨[(0,.yl y),Iv 3 i,Cv 8 ps,Iv 9 (len ps),Iv 10 i,Cv 16 es,Iv 17 (len es),Iv 18 j,Bv 19 true,Cv 22 x,Pv 6,Iv 5 j],[Xb 6 (⟨0,0,0,0,.nil⟩:Event)],[],([enc (⟨i,IntKind.wrap .i64 (j+1)⟩:aY),enc x]::B),more,y⟩ 6 0 x [iv 0,iv 0,iv 0,iv 0,.v .bE] ((cells x).map .v) rfl (by kernel_rfl) ?_
 refine UN (n:=10) (q:=yg.drop 6) (fs':=[.seq (.cond (.s 30) .ret .skip),.blk 3,.seq (.ops vt),.gst (.keep [0,3,8,9,10,16,17,18] [])]) (st:=⟨[(0,.yl y),Iv 3 i,Cv 8 ps,Iv 9 (len ps),Iv 10 i,Cv 16 es,Iv 17 (len es),Iv 18 j,Bv 19 true,(23,.yl y),Cv 27 (⟨i,IntKind.wrap .i64 (j+1)⟩:aY),Cv 28 x],[Xb 6 x],[],([enc (⟨i,IntKind.wrap .i64 (j+1)⟩:aY),enc x]::B),more,y⟩) (vs:=[cv (⟨i,IntKind.wrap .i64 (j+1)⟩:aY),cv x]) (by kernel_rfl) rfl (by kernel_rfl) (by kernel_rfl) rfl rfl ?_
 refine Kt (n:=3) (fo':=.rc (.cond (.s 30) .ret .skip)) (fs':=[.blk 3,.seq (.ops vt),.gst (.keep [0,3,8,9,10,16,17,18] [])]) (λb=>⟨[(0,.yl y),Iv 3 i,Cv 8 ps,Iv 9 (len ps),Iv 10 i,Cv 16 es,Iv 17 (len es),Iv 18 j,Bv 19 true,Bv 30 b],[Xb 6 x],[],B,more,y⟩) J (by kernel_rfl) ?_
 exact Le.of_eq (by kernel_rfl)
abbrev S1 (ps:Sl bM) (i:Int) (b:Bool) (B:List (List V)) (more:Bool) (y:Nat):St:=⟨[(0,.yl y),Cv 8 ps,Iv 9 (len ps),Iv 10 i,Bv 11 b],[],[],B,more,y⟩
theorem Ty (ps:Sl bM) (i:Int) (B:List (List V)) (more:Bool) (y:Nat) (D:decide (i<len ps)=false) :
 rn S.bare mA some (.rc LJ) [] (I1 ps i B more y)=some (.exit 0,S1 ps i false B more y):=by
 refine Le.get ?_;refine Kf (n:=7) (fo':=.rc (.cond (.s 11) .skip (.exit 0))) (fs':=[.seq (.seq (.block 1 (.seq (.ops Ig) (.seq (.ops E0) U2))) (.ops Du)),.gst (.keep [0,8,9,10] [])]) (λb=>S1 ps i b B more y) D (by kernel_rfl) ?_
 exact Le.of_eq (by kernel_rfl)
def PN:List Fm:=[.blk 2,.blk 1,.seq (.ops Du),.gst (.keep [0,8,9,10] [])]
theorem P4 (ps:Sl bM) (i:Int) (p:bM) (B:List (List V)) (more:Bool) (y:Nat) (r:Out×St) (G:decide (i<len ps)=true) (D:idx ps i=some p)
 (h:rn S.bare mA some (.rc (.loop Dj)) PN (I2 ps i p.events 0 B more y)=some r):rn S.bare mA some (.rc LJ) [] (I1 ps i B more y)=some r:=by
 refine Le.get ?_;refine Kt (n:=7) (fo':=.rc (.cond (.s 11) .skip (.exit 0))) (fs':=[.seq (.seq (.block 1 (.seq (.ops Ig) (.seq (.ops E0) U2))) (.ops Du)),.gst (.keep [0,8,9,10] [])]) (λb=>S1 ps i b B more y) G (by kernel_rfl) ?_
 refine NL D ?_;refine NH 8 false [] (Ig.drop 1) [.seq (.seq (.ops E0) U2),.blk 1,.seq (.ops Du),.gst (.keep [0,8,9,10] [])] ⟨[(0,.yl y),Cv 8 ps,Iv 9 (len ps),Iv 10 i,Bv 11 true,Iv 12 i],[],[],B,more,y⟩ .i64 rfl (by kernel_rfl) λx h1=>?_
 obtain rfl:x=p:=by rw[D]at h1;cases h1;rfl
 refine SU 1 false [] (Ig.drop 3) [.seq (.seq (.ops E0) U2),.blk 1,.seq (.ops Du),.gst (.keep [0,8,9,10] [])] ⟨[(0,.yl y),Cv 8 ps,Iv 9 (len ps),Iv 10 i,Bv 11 true,Iv 12 i,Cv 14 x],[],[],B,more,y⟩ [.v (.str ByteArray.empty),.v .bE,.v .bE] rfl (by simp only[cK,wz,pg,qD,oS,qT,sB,qQ,rU,o8,qP,wA,sy,rT,sK,sA,uG,uL,qL,sI,SV.cM];rfl) (by kernel_rfl) ?_
 refine Ast 1 false [] (Ig.drop 5) [.seq (.seq (.ops E0) U2),.blk 1,.seq (.ops Du),.gst (.keep [0,8,9,10] [])] ⟨[(0,.yl y),Cv 8 ps,Iv 9 (len ps),Iv 10 i,Bv 11 true,Cv 14 x,Pv 4,Iv 3 i],[Xb 4 (⟨ByteArray.empty,.nil,.nil⟩:bM)],[],B,more,y⟩ 4 0 x [.v (.str ByteArray.empty),.v .bE,.v .bE] ((cells x).map .v) rfl (by kernel_rfl) ?_
 refine SA 6 false [] (E0.drop 2) [.seq U2,.blk 1,.seq (.ops Du),.gst (.keep [0,8,9,10] [])] ⟨[(0,.yl y),Cv 8 ps,Iv 9 (len ps),Iv 10 i,Bv 11 true,Pv 4,Iv 3 i,Cv 16 x.events],[Xb 4 x],[],B,more,y⟩ x.events rfl (by kernel_rfl) ?_
 refine zo (n:=5) (fo':=.rc (.loop Dj)) (fs':=PN) (st':=I2 ps i x.events 0 B more y) (by kernel_rfl) (Le.of_eq h)
theorem Rf (ps:Sl bM) (i:Int) (es:Sl Event) (j:Int) (B:List (List V)) (more:Bool) (y:Nat) :
 rn S.bare mA some (.ex 2) PN (S2 ps i es j false B more y)=some (.norm,I1 ps (IntKind.wrap .i64 (i+1)) B more y):=by kernel_rfl
theorem wrap_small (n:Nat) (h:n<9223372036854775807):IntKind.wrap .i64 ((n:Int)+1)=((n+1:Nat):Int):=by
 simp[IntKind.wrap,IntKind.bits,IntKind.signed];omega
abbrev eI (x:aY×Event):List V:=[enc x.1,enc x.2]
theorem tH.step {x:List V} {D rest:List (List V)} {more:Bool} (h:tH D (x::rest) more):∃B,D=x::B/\((!(more || !B.isEmpty))=false/\tH B rest more\/(!(more || !B.isEmpty))=true/\B=[]):=by
 rcases h with⟨rfl,rfl⟩|⟨rfl,u,r,hr⟩
 .exact⟨rest,rfl,.inl ⟨rfl,.inl ⟨rfl,rfl⟩⟩⟩
 .cases D with
  | nil=>exact absurd rfl u
  | cons w D=>
   simp only[List.cons_append,List.cons.injEq]at hr;obtain⟨rfl,rfl⟩:=hr;refine⟨D,rfl,?_⟩
   cases D with
   | nil=>exact .inr ⟨rfl,rfl⟩
   | cons z A=>exact .inl ⟨rfl,.inr ⟨rfl,by simp,r,rfl⟩⟩
theorem sC {α:Type} {s:Sl α} {j:Nat} {x:α} {r:List α} (h:s.l.drop j=x::r):idx s (j:Int)=some x/\decide ((j:Int)<len s)=true/\s.l.drop (j+1)=r:=by
 have h1:j<s.l.length:=by
  apply Classical.byContradiction;intro w;rw[List.drop_eq_nil_of_le (by omega)]at h;cases h
 have u:=List.drop_eq_getElem_cons h1;rw[u]at h;simp only[List.cons.injEq]at h;refine⟨?_,by simp[len,h1],h.2⟩
 unfold idx;rw[if_pos (by omega)]
 simp[ζd h1,h.1]
variable {Q:Out×St->Option (Out×St)} {fs:List Fm}
theorem inner (ps:Sl bM) (i:Int) (es:Sl Event) (T:es.l.length<9223372036854775807) (more:Bool) (y:Nat) (R:List (List V)):∀(rem:List Event) (j:Nat),es.l.drop j=rem->∀D,tH D ((jJ i j rem).map eI++R) more ->
 (∃(B:List (List V)) (U:Int),tH B R more/\rn S.bare mA Q (.rc (.loop Dj)) fs (I2 ps i es j D more y)=rn S.bare mA Q (.ex 2) fs (S2 ps i es U false B more y)) \/
 (∃st':St,st'.want=[]/\rn S.bare mA Q (.rc (.loop Dj)) fs (I2 ps i es j D more y)=Q (.ret,st'))
 | [],j,hd,D,G=>by
  have h1:decide ((j:Int)<len es)=false:=by
   have:es.l.length<=j:=by simpa using hd
   simp[len];omega
  exact .inl ⟨D,j,by simpa [jJ]using G,DR (SC ps i es j D more y h1)⟩
 | e::rem,j,hd,D,G=>by
  obtain⟨h1,z,O⟩:=sC hd;have X:j<es.l.length:=by simpa [len]using z
  simp only[jJ,List.map_cons,List.cons_append]at G;obtain⟨B,rfl,u⟩:=tH.step G;have A:=wrap_small j (by omega)
  have w:((j:Int)+1)=IntKind.wrap .i64 ((j:Int)+1):=by rw[A];simp
  rcases u with⟨u,C⟩|⟨u,rfl⟩
  .have k:=T7 (S:=S) ps i es j e B more y z h1 u;rw[<-w]at k;have J:=D_ (Q:=Q) (fs:=fs) k;have L:=inner ps i es T more y R rem (j+1) O B (by push_cast;exact C)
   rw[show ((j+1:Nat):Int)=(j:Int)+1 from rfl]at L;rcases L with⟨I,W,g1,g2⟩|⟨st',g1,g2⟩
   .exact .inl ⟨I,W,g1,J.trans g2⟩
   .exact .inr ⟨st',g1,J.trans g2⟩
  .have k:=Ql (S:=S) ps i es j e [] more y z h1 u;rw[<-w]at k;exact .inr ⟨_,by rfl,DG k⟩
theorem outer (ps:Sl bM) (J:ps.l.length<9223372036854775807) (D:∀p∈ps.l,p.events.l.length<9223372036854775807) (more:Bool) (y:Nat):∀(rem:List bM) (i:Nat),ps.l.drop i=rem->∀B,tH B ((fS i rem).map eI) more ->
 rn S.bare mA Qi (.rc (.loop LJ)) [.blk 0] (I1 ps i B more y)=some ()
 | [],i,hd,B,G=>by
  have h1:decide ((i:Int)<len ps)=false:=by
   have:ps.l.length<=i:=by simpa using hd
   simp[len];omega
  rw[DR (Ty ps i B more y h1)];have:B=[]:=by
   rcases G with⟨_,rfl⟩|⟨_,A,r,hr⟩
   .rfl
   .have:B=[]:=by cases B with
     | nil=>rfl
     | cons=>simp[fS]at hr
    exact absurd this A
  subst this;rfl
 | p::rem,i,hd,B,G=>by
  obtain⟨h1,u,C⟩:=sC hd;have hi:i<ps.l.length:=by simpa [len]using u
  have I:p∈ps.l:=List.mem_of_mem_drop (i:=i) (by rw[hd];exact List.mem_cons_self ..)
  simp only[fS,List.map_append]at G;have w:=wrap_small i (by omega)
  rcases inner (S:=S) (Q:=some) (fs:=PN) ps i p.events (D p I) more y _ p.events.l 0 rfl B G with⟨z,L,g1,g2⟩|⟨st',g1,g2⟩
  .rw[Rf,w]at g2;rw[D_ (P4 ps i p B more y _ u h1 g2)];exact outer ps J D more y rem (i+1) C z g1
  .rw[DG (P4 ps i p B more y _ u h1 g2)];simp[Qi,g1]
theorem all (t:Trace) (B:List (aY×Event)) (h:iC t=some B) (D:List (List V)) (more:Bool) (G:tH D (B.map eI) more) (y:Nat) :
 rn S.bare mA Qi (.rc text.body) [] ⟨tS 0 (([]:List V).map .v++.yl y::[V.fptr (cells t)].map .v),[],[],D,more,y⟩=some ():=by
 unfold iC at h;split at h
 .rename_i hk;cases h;simp only[ζh,List.all_eq_true,ni,decide_eq_true_eq]at hk;refine Le.get ?_;refine SA 4 false [] (Qa.drop 2) [.seq U1] ⟨[(0,.yl y),Cv 8 t.procs],[],[],D,more,y⟩ t.procs rfl (by kernel_rfl) ?_
  refine zo (n:=5) (fo':=.rc (.loop LJ)) (fs':=[.blk 0]) (st':=I1 t.procs 0 D more y) (by kernel_rfl) (Le.of_eq ?_)
  exact outer t.procs hk.1 hk.2 more y t.procs.l 0 rfl D G
 .cases h
end
theorem uM {α:Type} [bq α] {a b:Sl α} (h:bQ a=bQ b):rows a.l=rows b.l:=by
 cases a <;> cases b <;> first|rfl|(simp only[bQ,Sl.k,mS,V.fsl.injEq,true_and,reduceCtorEq]at h;done)|(simp only[bQ,Sl.k,mS,V.fsl.injEq,true_and,reduceCtorEq]at h;exact h)
theorem u7 (p:Int):∀(es B:List Event) (j:Int),rows es=rows B->(jJ p j es).map eI=(jJ p j B).map eI
 | [],[],_,_=>rfl
 | [],_::_,_,h=>by simp[rows]at h
 | _::_,[],_,h=>by simp[rows]at h
 | e::es,D::B,j,h=>by
  simp only[rows,List.map_cons,List.cons.injEq]at h;have h1:enc e=enc D:=by show V.agg (cells e)=V.agg (cells D);rw[h.1]
  simp only[jJ,List.map_cons,eI,h1,u7 p es B (j+1) h.2]
theorem Cc:∀(ps B:List bM) (i:Int),rows ps=rows B->(fS i ps).map eI=(fS i B).map eI
 | [],[],_,_=>rfl
 | [],_::_,_,h=>by simp[rows]at h
 | _::_,[],_,h=>by simp[rows]at h
 | p::ps,p'::B,i,h=>by
  simp only[rows,List.map_cons,List.cons.injEq]at h;have h1:bQ p.events=bQ p'.events:=by
   have:=h.1;change [V.str p.name,bQ p.vars,bQ p.events]=[V.str p'.name,bQ p'.vars,bQ p'.events]at this;simp only[List.cons.injEq]at this;exact this.2.2.1
  simp only[fS,List.map_append,u7 i _ _ 0 (uM h1),Cc ps B (i+1) h.2]
def ud (f:FuncId) (g:FuncId) (a b:List V) (xs:List (List V)):Prop:=∃(t:Trace) (u:List (aY×Event)),g=f/\a=[]/\b=[.fptr (cells t)]/\iC t=some u/\xs=u.map eI
theorem ud.uniq {f g:FuncId} {a b:List V} {xs ys:List (List V)} (h:ud f g a b xs) (k:ud f g a b ys):xs=ys:=by
 obtain⟨t,B,rfl,rfl,rfl,h1,rfl⟩:=h;obtain⟨z,A,_,_,w,u,rfl⟩:=k;simp only[List.cons.injEq,V.fptr.injEq,and_true]at w;have C:bQ t.procs=bQ z.procs:=by
  change [bQ t.procs]=[bQ z.procs]at w;simpa using w
 unfold iC at h1 u;split at h1 <;> split at u <;> simp only[ζa,reduceCtorEq]at h1 u;subst h1 u;exact Cc _ _ 0 (uM C)
end trace_events_c1
end Go.VE
namespace Go.VE
open Go.Proofs.YtlmckmkfopljoaaGreatDoor
noncomputable section
noncomputable def EI (f:FuncId):Option Dl:=bif Nat.beq f 172 then some (rE E)else bif Nat.beq f 169 then some (rB E)else none
noncomputable def Sb:Sys:=⟨E,λn=>n,λ_ _ _=>none,wq E,EI⟩
theorem Ge:∀f q,EI f=some q->mb E f q:=by
 intro f q h;unfold EI at h
 cases h1:Nat.beq f 172 with
 | true=>
  rw[h1]at h;cases h;have:=Nat.eq_of_beq_eq_true h1;subst this;exact OY w8 (by kernel_rfl) (by kernel_rfl) (AY (by kernel_rfl))
 | false=>
  rw[h1]at h
  cases h1:Nat.beq f 169 with
  | true=>
   rw[h1]at h;cases h;have:=Nat.eq_of_beq_eq_true h1;subst this;exact ND (by kernel_rfl) (by kernel_rfl) (by kernel_rfl) (by kernel_rfl)
  | false=>
   rw[h1]at h;cases h
def Tx:pF:=M5 E some (lk JR)
abbrev cB:bS:=cU Sb Tx
theorem R8:qb Sb Tx where
 fn f rf h:=let ⟨u,h1,w⟩:=A9 h;⟨u,some,h1,w8,w⟩
 wL f z y h:=D0 h
 prm:=Ge
theorem LF:∀f a b xs,Sb.items f a b=some xs->dZ Sb f a b xs:=λf a b xs h=>by cases h
end
end Go.VE
namespace Go.VE
noncomputable section
namespace IB
def eu (s0:Sl Int):Option (Sl Int):=
 (Sl.isNil s0).bind λu=>
 bp u
 (some Sl.nil)
 ((ve (Sl.row []:Sl Int) s0).bind λw=>
 some w)
theorem kf:yD Sb cB 168 (λs0:Sl Int=>[enc s0]) (λz=>eu z):=yD.mk' (pU (Tx 168)) (λs0=>SX 9 λu _=>bB 2 4 aZ (MO 7 5 7 λw _=>aZ))
namespace b7
def nU (Y:Int) (T:Sl Event) (U W:Int) (G:Sl Assign) (J:Int) (ws:List (List V)) (B:Sl Int) (D:Int) (more:Bool):Option (Fw ((Sl Int)×Int) (Sl Int) Empty):=
 bp (decide (D<J))
 ((idx G D).bind λu=>
 (Sl.rM B u.var).bind λw=>
 (Sl.put B w (u.value:Int)).bind λz=>
 some (.n (z,IntKind.wrap .i64 (D+1))))
 (some (.x B))
def W3 (B:Sl Int) (Y:Int) (J:Sl Event) (D G:Int) (T:Sl Assign) (U W:Int) (ws:List (List V)) (more:Bool):Option (Fw ((Sl Int)×Int×Int×(List (List V))) (List (List V)) (List (List V))):=
 (cE (λq:(Sl Int)×Int=>nU Y J D G T U ws q.1 q.2 more) (B,W)).bind (Fw.elim
 (λe=>((eu e).bind Sl.whole).bind λw=>
 (yl ws more [.int .i64 (IntKind.wrap .i64 (Y+1)),enc w]).bind λu=>
 bp u.1
 (some (.n (e,D,IntKind.wrap .i64 (G+1),u.2)))
 (some (.r u.2)))
 (λe=>Empty.elim e))
def dn (D:Sl Event) (G:Sl Int) (J B:Int) (T:List (List V)) (more:Bool):Option (Fw ((Sl Int)×Int×Int×(List (List V))) (List (List V)) (List (List V))):=
 bp (decide (B<J))
 ((idx D B).bind λu=>
 W3 G B D J B u.assign (len u.assign) 0 T more)
 (some (.x T))
def W2 (B:Sl Int) (D:Sl Event) (G J:Int) (T:List (List V)) (more:Bool):Option (List (List V)):=
 (cE (λq:(Sl Int)×Int×Int×(List (List V))=>dn D q.1 q.2.1 q.2.2.1 q.2.2.2 more) (B,G,J,T)).bind (Fw.elim
 (λe=>some e)
 (λe=>some e))
def bK (T:bM) (G:Sl Var) (J:Int) (U:List (List V)) (B:Sl Int) (D:Int) (more:Bool):Option (Fw ((Sl Int)×Int) (Sl Int) Empty):=
 bp (decide (D<J))
 ((idx G D).bind λu=>
 (fZ B (u.init_:Int)).bind λw=>
 some (.n (w,IntKind.wrap .i64 (D+1))))
 (some (.x B))
def W1 (B:bM) (D:Sl Int) (G:Sl Var) (J T:Int) (U:List (List V)) (more:Bool):Option (List (List V)):=
 (cE (λq:(Sl Int)×Int=>bK B G J U q.1 q.2 more) (D,T)).bind (Fw.elim
 (λe=>((eu e).bind Sl.whole).bind λw=>
 (yl U more [.int .i64 0,enc w]).bind λu=>
 bp u.1
 (b7.W2 e B.events (len B.events) 0 u.2 more)
 (some u.2))
 (λe=>Empty.elim e))
end b7
def b7 (D:List (List V)) (B:bM) (more:Bool):Option (List (List V)):=
 b7.W1 B (Sl.nil:Sl Int) B.vars (len B.vars) 0 D more
open b7 in
theorem wm (more:Bool) (y:Nat) (J:List (List V)) (B:bM):Le ((b7 J B more).bind λr=>some r) (bX Sb cB Qw (.rc (tb Tx 179),[],⟨tS 0 (.yl y::[V.fptr (cells B)].map .v),[],[],J,more,y⟩)):=
 cz 10 B.vars (k9 6 (λA=>⟨[(0,.yl y),Kv 1 B,Ov 3,Cv 11 B.vars,Iv 12 (len B.vars),Iv 13 A.2],[Lb 2003 A.1],[],J,more,y⟩) (λC=>(0,⟨[(0,.yl y),Kv 1 B,Ov 3],[Lb 2003 C],[],J,more,y⟩)) (λA=>bB 8 14 (cg 7 λS _=>qq 10 2003 20 21 λT _=>aZ) aZ) (λC=>PB 7 25 kf C λI _=>UL 1 [.int .i64 0,enc I] λQ _=>dK 3 27 (cz 7 B.events (iI 6 (λu=>⟨[(0,.yl y),Ov 3,Cv 29 B.events,Iv 30 u.2.1,Iv 31 u.2.2.1],[Lb 2003 u.1],[],u.2.2.2,more,y⟩) (λw=>(2,⟨[],[],[],w,more,y⟩)) (λw=>⟨[],[],[],w,more,y⟩) (λu=>bB 8 32 (cg 8 λz _=>pP 3 7 0 z (cz 7 z.assign (k9 6 (λD=>⟨[(0,.yl y),Ov 3,Iv 6 u.2.2.1,Cv 29 B.events,Iv 30 u.2.1,Iv 31 u.2.2.1,Cv 37 z.assign,Iv 38 (len z.assign),Iv 39 D.2],[Lb 2003 D.1],[],u.2.2.2,more,y⟩) (λG=>(4,⟨[(0,.yl y),Ov 3,Iv 6 u.2.2.1,Cv 29 B.events,Iv 30 u.2.1,Iv 31 u.2.2.1],[Lb 2003 G],[],u.2.2.2,more,y⟩)) (λD=>bB 8 40 (cg 7 λL _=>CI .i64 11 2003 λU _=>Nw 0 2003 (.int .i64 L.value) λW _=>aZ) aZ) (λG=>PB 8 54 kf G λO _=>UL 1 [.int .i64 (IntKind.wrap .i64 (u.2.2.1+1)),enc O] λX _=>dK 3 56 aZ aZ)))) aZ) (λw=>aZ) (λw=>aZ))) aZ))
end IB
end
end Go.VE
namespace Go.VE
open IB
def uC:List Assign->Sl Int->Option (Sl Int)
 | [],s=>some s
 | a::r,s=>(Sl.rM s a.var).bind λj=>(Sl.put s j a.value).bind (uC r)
def uc:List Var->Sl Int->Option (Sl Int)
 | [],s=>some s
 | v::r,s=>(fZ s v.init_).bind (uc r)
def Jc (s:Sl Int):Option (Sl Int):=(eu s).bind Sl.whole
def uf:Int->List Event->Sl Int->Option (List (Int×Sl Int))
 | _,[],_=>some []
 | k,e::r,s=>(uC e.assign.l s).bind λn=>(Jc n).bind λc=>(uf (k+1) r n).map ((k+1,c)::·)
def iw (p:bM):Option (List (Int×Sl Int)):=
 if ni p.vars.l.length&&(ni p.events.l.length&&p.events.l.all λe=>ni e.assign.l.length)then
  (uc p.vars.l .nil).bind λs=>(Jc s).bind λc=>(uf 0 p.events.l s).map ((0,c)::·)
 else none
namespace IST
abbrev eI (x:Int×Sl Int):List V:=[enc x.1,enc x.2]
theorem AS {n:Nat} (h:ni n=true):n<9223372036854775807:=by simpa [ni]using h
theorem wrap_small (n:Nat) (h:n<9223372036854775807):IntKind.wrap .i64 ((n:Int)+1)=((n+1:Nat):Int):=by
 simp[IntKind.wrap,IntKind.bits,IntKind.signed];omega
theorem sC {α:Type} {s:Sl α} {j:Nat} {x:α} {r:List α} (h:s.l.drop j=x::r):idx s (j:Int)=some x/\decide ((j:Int)<len s)=true/\s.l.drop (j+1)=r:=by
 have h1:j<s.l.length:=by
  apply Classical.byContradiction;intro w;rw[List.drop_eq_nil_of_le (by omega)]at h;cases h
 have u:=List.drop_eq_getElem_cons h1;rw[u]at h;simp only[List.cons.injEq]at h;refine⟨?_,by simp[len,h1],h.2⟩
 unfold idx;rw[if_pos (by omega)]
 simp[ζd h1,h.1]
theorem Gq {α:Type} {s:Sl α} {j:Nat} (h:s.l.drop j=[]):decide ((j:Int)<len s)=false:=by
 have:s.l.length<=j:=by simpa using h
 simp[len];omega
theorem UE (p:bM) (v:Sl Var) (J:v.l.length<9223372036854775807) (D:List (List V)) (more:Bool):∀(rem:List Var) (j:Nat),v.l.drop j=rem->∀s B,uc rem s=some B ->
 cE (λq:Sl Int×Int=>b7.bK p v (len v) D q.1 q.2 more) (s,(j:Int))=some (.x B)
 | [],j,hd,s,B,h=>by
  cases h;rw[fq];simp only[b7.bK,Gq hd,bp,ζb,Bool.false_eq_true,if_false]
 | x::rem,j,hd,s,B,h=>by
  obtain⟨h1,G,T⟩:=sC hd;have w:j<v.l.length:=by simpa [len]using G
  simp only[uc,ζg]at h;obtain⟨n,u,h⟩:=h;rw[fq];simp only[b7.bK,h1,G,u,bp,ζb,if_true,wrap_small j (by omega)]
  exact UE p v J D more rem (j+1) T n B h
theorem set (k:Int) (es:Sl Event) (a b:Int) (v:Sl Assign) (J:v.l.length<9223372036854775807) (D:List (List V)) (more:Bool):∀(rem:List Assign) (j:Nat),v.l.drop j=rem->∀s B,uC rem s=some B ->
 cE (λq:Sl Int×Int=>b7.nU k es a b v (len v) D q.1 q.2 more) (s,(j:Int))=some (.x B)
 | [],j,hd,s,B,h=>by
  cases h;rw[fq];simp only[b7.nU,Gq hd,bp,ζb,Bool.false_eq_true,if_false]
 | x::rem,j,hd,s,B,h=>by
  obtain⟨h1,G,T⟩:=sC hd;have w:j<v.l.length:=by simpa [len]using G
  simp only[uC,ζg]at h;obtain⟨i,hi,n,u,h⟩:=h;rw[fq];simp only[b7.nU,h1,G,hi,u,bp,ζb,if_true,wrap_small j (by omega)]
  exact set k es a b v J D more rem (j+1) T n B h
theorem tH.step {x:List V} {D rest:List (List V)} {more:Bool} (h:tH D (x::rest) more):∃B,yl D more x=some ((more || !B.isEmpty),B)/\((more || !B.isEmpty)=true/\tH B rest more\/(more || !B.isEmpty)=false/\B=[]):=by
 rcases h with⟨rfl,rfl⟩|⟨rfl,u,r,hr⟩
 .exact⟨rest,by simp[yl],.inl ⟨rfl,.inl ⟨rfl,rfl⟩⟩⟩
 .cases D with
  | nil=>exact absurd rfl u
  | cons w D=>
   simp only[List.cons_append,List.cons.injEq]at hr;obtain⟨rfl,rfl⟩:=hr;refine⟨D,by simp[yl],?_⟩
   cases D with
   | nil=>exact .inr ⟨rfl,rfl⟩
   | cons z A=>exact .inl ⟨rfl,.inr ⟨rfl,by simp,r,rfl⟩⟩
theorem eP (es:Sl Event) (U:es.l.length<9223372036854775807) (G:∀e∈es.l,e.assign.l.length<9223372036854775807) (more:Bool):∀(rem:List Event) (j:Nat),es.l.drop j=rem->∀s B,uf (j:Int) rem s=some B->∀D,tH D (B.map eI) more ->
 ∃J:List (List V),J=[]/\(cE (λq:Sl Int×Int×Int×List (List V)=>b7.dn es q.1 q.2.1 q.2.2.1 q.2.2.2 more) (s,len es,(j:Int),D)=some (.x J)\/cE (λq:Sl Int×Int×Int×List (List V)=>b7.dn es q.1 q.2.1 q.2.2.1 q.2.2.2 more) (s,len es,(j:Int),D)=some (.r J))
 | [],j,hd,s,B,h,D,T=>by
  cases h;have:D=[]:=by
   rcases T with⟨_,rfl⟩|⟨_,I,r,hr⟩
   .rfl
   .cases D with
    | nil=>rfl
    | cons=>simp at hr
  subst this;refine⟨[],rfl,.inl ?_⟩;rw[fq];simp only[b7.dn,Gq hd,bp,ζb,Bool.false_eq_true,if_false]
 | e::rem,j,hd,s,B,h,D,T=>by
  obtain⟨h1,C,L⟩:=sC hd;have Y:j<es.l.length:=by simpa [len]using C
  have O:e∈es.l:=List.mem_of_mem_drop (i:=j) (by rw[hd];exact List.mem_cons_self ..)
  simp only[uf,ζg,ζf]at h;obtain⟨n,I,c,hc,r,hr,rfl⟩:=h;have hc:(eu n).bind Sl.whole=some c:=hc;obtain⟨w,z,Q⟩:=tH.step T;have A:=wrap_small j (by omega)
  have z:yl D more [.int .i64 ((j+1:Nat):Int),enc c]=some ((more || !w.isEmpty),w):=z;rw[fq];have u:=set j es (len es) j e.assign (G e O) D more e.assign.l 0 rfl s n I;rw[show ((0:Nat):Int)=0 from rfl]at u;rcases Q with⟨g1,g2⟩|⟨g1,rfl⟩
  .obtain⟨S,W,X⟩:=eP es U G more rem (j+1) L n r hr w g2;refine⟨S,W,?_⟩;rw[g1]at z;simp only[b7.dn,b7.W3,h1,C,u,hc,z,bp,ζb,if_true,Fw.elim,A];exact X
  .refine⟨[],rfl,.inr ?_⟩;rw[g1]at z;simp only[b7.dn,b7.W3,h1,C,u,hc,A,z,bp,ζb,if_true,if_false,Bool.false_eq_true,Fw.elim]
theorem all (p:bM) (B:List (Int×Sl Int)) (h:iw p=some B) (D:List (List V)) (more:Bool) (G:tH D (B.map eI) more):b7 D p more=some []:=by
 unfold iw at h;split at h
 .rename_i hk;simp only[ζh,List.all_eq_true]at hk;obtain⟨k1,A,C⟩:=hk;simp only[ζg,ζf]at h;obtain⟨s,I,c,hc,r,hr,rfl⟩:=h;have hc:(eu s).bind Sl.whole=some c:=hc;obtain⟨u,w,J⟩:=tH.step G;have hi:=UE p p.vars (AS k1) D more p.vars.l 0 rfl .nil s I;rw[show ((0:Nat):Int)=0 from rfl]at hi;have w:yl D more [.int .i64 0,enc c]=some ((more || !u.isEmpty),u):=w;unfold b7 b7.W1;simp only[hi,ζb,Fw.elim,hc,w];rcases J with⟨g1,g2⟩|⟨g1,rfl⟩
  .obtain⟨O,rfl,z⟩:=eP p.events (AS A) (λe L=>AS (C e L)) more p.events.l 0 rfl s r hr u g2
   rw[show ((0:Nat):Int)=0 from rfl]at z;rw[g1];simp only[bp,if_true,b7.W2];rcases z with q|q <;> (rw[q];rfl)
  .rw[g1];rfl
 .cases h
theorem uM {α:Type} [bq α] {a b:Sl α} (h:bQ a=bQ b):rows a.l=rows b.l:=by
 cases a <;> cases b <;> first|rfl|(simp only[bQ,Sl.k,mS,V.fsl.injEq,true_and,reduceCtorEq]at h;done)|(simp only[bQ,Sl.k,mS,V.fsl.injEq,true_and,reduceCtorEq]at h;exact h)
theorem Fe:∀(a b:List Var),rows a=rows b->∀s,uc a s=uc b s
 | [],[],_,_=>rfl
 | [],_::_,h,_=>by simp[rows]at h
 | _::_,[],h,_=>by simp[rows]at h
 | x::a,y::b,h,s=>by
  simp only[rows,List.map_cons,List.cons.injEq]at h;have h1:x.init_=y.init_:=by
   have:=h.1;change [V.str x.name,V.int .i64 x.init_]=[V.str y.name,V.int .i64 y.init_]at this;simpa using (List.cons.inj (List.cons.inj this).2).1
  simp only[uc,h1,funext (Fe a b h.2)]
theorem FF:∀(a b:List Assign),rows a=rows b->∀s,uC a s=uC b s
 | [],[],_,_=>rfl
 | [],_::_,h,_=>by simp[rows]at h
 | _::_,[],h,_=>by simp[rows]at h
 | x::a,y::b,h,s=>by
  simp only[rows,List.map_cons,List.cons.injEq]at h;have h1:=h.1;change [V.int .i64 x.var,V.int .i64 x.value]=[V.int .i64 y.var,V.int .i64 y.value]at h1;simp only[List.cons.injEq,V.int.injEq,true_and,and_true]at h1;simp only[uC,h1.1,h1.2,funext (FF a b h.2)]
theorem G3 {x y:Event} (h:cells x=cells y):rows x.assign.l=rows y.assign.l:=by
 change [V.int .i64 x.kind,V.int .i64 x.peer,V.int .i64 x.message,V.int .i64 x.time,bQ x.assign]=[V.int .i64 y.kind,V.int .i64 y.peer,V.int .i64 y.message,V.int .i64 y.time,bQ y.assign]at h;simp only[List.cons.injEq]at h;exact uM h.2.2.2.2.1
theorem u7:∀(a b:List Event),rows a=rows b->∀k s,uf k a s=uf k b s
 | [],[],_,_,_=>rfl
 | [],_::_,h,_,_=>by simp[rows]at h
 | _::_,[],h,_,_=>by simp[rows]at h
 | x::a,y::b,h,k,s=>by
  simp only[rows,List.map_cons,List.cons.injEq]at h;simp only[uf,FF _ _ (G3 h.1),u7 a b h.2]
theorem Bd {α:Type} [bq α] {a b:List α} (h:rows a=rows b):a.length=b.length:=by
 have:=congrArg List.length h;simpa [rows]using this
theorem Gd:∀(a b:List Event),rows a=rows b->(a.all λe=>ni e.assign.l.length)=b.all λe=>ni e.assign.l.length
 | [],[],_=>rfl
 | [],_::_,h=>by simp[rows]at h
 | _::_,[],h=>by simp[rows]at h
 | x::a,y::b,h=>by
  simp only[rows,List.map_cons,List.cons.injEq]at h;simp only[List.all_cons,Bd (G3 h.1),Gd a b h.2]
def ud (f:FuncId) (g:FuncId) (a b:List V) (xs:List (List V)):Prop:=∃(p:bM) (u:List (Int×Sl Int)),g=f/\a=[]/\b=[.fptr (cells p)]/\iw p=some u/\xs=u.map eI
theorem ud.uniq {f g:FuncId} {a b:List V} {xs ys:List (List V)} (h:ud f g a b xs) (k:ud f g a b ys):xs=ys:=by
 obtain⟨p,B,rfl,rfl,rfl,h1,rfl⟩:=h;obtain⟨w,z,_,_,u,A,rfl⟩:=k;simp only[List.cons.injEq,V.fptr.injEq,and_true]at u;change [V.str p.name,bQ p.vars,bQ p.events]=[V.str w.name,bQ w.vars,bQ w.events]at u;simp only[List.cons.injEq]at u;have r1:=uM u.2.1;have r2:=uM u.2.2.1;unfold iw at h1 A;rw[Bd r1,Bd r2,Gd _ _ r2,Fe _ _ r1,funext (λs=>u7 _ _ r2 0 s)]at h1
 have e:=h1.symm.trans A;cases e;rfl
end IST
end Go.VE
namespace Go.VE
open Go.Proofs.YtlmckmkfopljoaaGreatDoor
noncomputable section
def Fi (f:FuncId) (a b:List V) (xs:List (List V)):Prop:=trace_events_c1.ud 184 f a b xs\/IST.ud 179 f a b xs
noncomputable def Sy:Sys:=⟨E,λn=>n,wS Fi,wq E,EI⟩
abbrev cL:bS:=cU Sy Tx
theorem RK:Sy.prm 172=some (rE Sy.E):=by kernel_rfl
theorem QF:Sy.prm 169=some (rB Sy.E):=by kernel_rfl
theorem Sf:∃fi,E.ft 184=some fi/\vO E some fi trace_events_c1.text:=SY (by kernel_rfl)
theorem JQ:qb Sy Tx where
 fn f rf h:=let ⟨u,h1,w⟩:=A9 h;⟨u,some,h1,w8,w⟩
 wL f z y h:=D0 h
 prm:=Ge
theorem GP (p:bM) (B:List (Int×Sl Int)) (h1:iw p=some B):dZ Sy 179 [] [.fptr (cells p)] (B.map IST.eI):=by
 have w:Tx 179=some (pU (Tx 179)):=yI (by kernel_rfl)
 obtain⟨D,z,A⟩:=A9 w;have e1:Nat.ble (([]:List V).length+1+[V.fptr (cells p)].length) (pU (Tx 179)).na=true:=by kernel_rfl
 have e2:(pU (Tx 179)).rs=[]:=by kernel_rfl
 have e3:Sy.E=Sb.E:=rfl;exact Pb e3 Ge (vV R8 LF) LF z w8 A (Nat.le_of_ble_eq_true e1) e2 λu more C y=>IB.wm more y u p [] (by rw[IST.all p B h1 u more C];rfl)
theorem CC:∀f a b xs,Sy.items f a b=some xs->dZ Sy f a b xs:=by
 intro f a b xs h;have h:Fi f a b xs:=JU h;rcases h with h|h
 .obtain⟨t,u,rfl,rfl,rfl,h1,rfl⟩:=h;obtain⟨C,w,z⟩:=Sf;exact M4 Sy w w8 z (Nat.le_of_ble_eq_true rfl) rfl λA more B y=>trace_events_c1.all t u h1 A more B y
 .obtain⟨p,u,rfl,rfl,rfl,h1,rfl⟩:=h;exact GP p u h1
theorem xI (t:Trace) (B:List (aY×Event)) (h:iC t=some B):Sy.items 184 [] [.fptr (cells t)]=some (B.map λx:aY×Event=>[enc x.1,enc x.2]):=
 BH (.inl ⟨t,B,rfl,rfl,rfl,h,rfl⟩) (λu hy=>by rcases hy with hy|hy <;> first|exact hy.uniq ⟨t,B,rfl,rfl,rfl,h,rfl⟩|(obtain⟨_,_,hy,_⟩:=hy;exact absurd hy (by decide)))
theorem Dp (p:bM) (B:List (Int×Sl Int)) (h:iw p=some B):Sy.items 179 [] [.fptr (cells p)]=some (B.map λx:Int×Sl Int=>[enc x.1,enc x.2]):=
 BH (.inr ⟨p,B,rfl,rfl,rfl,h,rfl⟩) (λu hy=>by rcases hy with hy|hy <;> first|exact hy.uniq ⟨p,B,rfl,rfl,rfl,h,rfl⟩|(obtain⟨_,_,hy,_⟩:=hy;exact absurd hy (by decide)))
theorem Lo:Sy.wL 10 []=some (.bool true):=D4 (HT rfl ⟨1,[],by kernel_rfl⟩)
end
end Go.VE
namespace Go.VE
noncomputable section
def u5:Option Bool:=some true
instance RQ:Fc Sy cL u5:=⟨10,[],λr:Bool=>[.bool r],true,fK.wL (by kernel_rfl) (by kernel_rfl) Lo⟩
namespace fJ
def bK (s0:Sl bM) (D:Int) (B:Int) (p1:bM->Option Bool):Option (Fw Int Unit Int):=
 bp (decide (B<D))
 ((idx s0 B).bind λu=>
 (p1 u).bind λw=>
 bp w
 (some (.r B))
 (some (.n (IntKind.wrap .i64 (B+1)))))
 (some (.x ()))
def W1 (s0:Sl bM) (B D:Int) (p1:bM->Option Bool):Option Int:=
 (cE (λq:Int=>bK s0 B q p1) D).bind (Fw.elim
 (λe=>some (-1))
 (λe=>some e))
end fJ
def fJ (s0:Sl bM) (p1:bM->Option Bool):Option Int:=
 fJ.W1 s0 (len s0) 0 p1
open fJ in
abbrev vo (g1:FuncId) (e1:List V) (p1:bM->Option Bool) (h1:kC Sy cL g1 [] e1 (λz:bM=>[enc z]) (λr:Bool=>[.bool r]) p1 true) (s0:Sl bM):Fc Sy cL (fJ s0 p1):=Fc.M 66 [enc s0,.clo g1 [] e1] (cz 9 s0 (iI 5 (λw=>(cK [Cv 0 s0,(1,.v (.clo g1 [] e1)),Iv 7 (len s0),Iv 8 w] [])) (λu=>(0,(cK [] []))) (λu=>(cK [Iv 4 u] [])) (λw=>bB 7 9 (cg 16 λA _=>xe 1 h1.f A λB _=>bB 2 16 aZ aZ) aZ) (λu=>aZ) (λu=>aZ)))
def fC (s0:Sl bM) (p1:bM->Option Bool):Option Bool:=
 (fJ s0 p1).bind λu=>
 some (decide (u>=0))
abbrev nF (g1:FuncId) (e1:List V) (p1:bM->Option Bool) (h1:kC Sy cL g1 [] e1 (λz:bM=>[enc z]) (λr:Bool=>[.bool r]) p1 true) (s0:Sl bM):Fc Sy cL (fC s0 p1):=Fc.M 40 [enc s0,.clo g1 [] e1] (bA (F:=vo g1 e1 p1 h1 s0) 9 λu _=>aZ)
namespace e_
def bK (s0:Sl Event) (D:Int) (B:Int) (p1:Event->Option Bool):Option (Fw Int Unit Int):=
 bp (decide (B<D))
 ((idx s0 B).bind λu=>
 (p1 u).bind λw=>
 bp w
 (some (.r B))
 (some (.n (IntKind.wrap .i64 (B+1)))))
 (some (.x ()))
def W1 (s0:Sl Event) (B D:Int) (p1:Event->Option Bool):Option Int:=
 (cE (λq:Int=>bK s0 B q p1) D).bind (Fw.elim
 (λe=>some (-1))
 (λe=>some e))
end e_
def e_ (s0:Sl Event) (p1:Event->Option Bool):Option Int:=
 e_.W1 s0 (len s0) 0 p1
open e_ in
abbrev vc (g1:FuncId) (e1:List V) (p1:Event->Option Bool) (h1:kC Sy cL g1 [] e1 (λz:Event=>[enc z]) (λr:Bool=>[.bool r]) p1 true) (s0:Sl Event):Fc Sy cL (e_ s0 p1):=Fc.M 67 [enc s0,.clo g1 [] e1] (cz 9 s0 (iI 5 (λw=>(cK [Cv 0 s0,(1,.v (.clo g1 [] e1)),Iv 7 (len s0),Iv 8 w] [])) (λu=>(0,(cK [] []))) (λu=>(cK [Iv 4 u] [])) (λw=>bB 7 9 (cg 16 λA _=>xe 1 h1.f A λB _=>bB 2 16 aZ aZ) aZ) (λu=>aZ) (λu=>aZ)))
def gD (s0:Sl Event) (p1:Event->Option Bool):Option Bool:=
 (e_ s0 p1).bind λu=>
 some (decide (u>=0))
abbrev ng (g1:FuncId) (e1:List V) (p1:Event->Option Bool) (h1:kC Sy cL g1 [] e1 (λz:Event=>[enc z]) (λr:Bool=>[.bool r]) p1 true) (s0:Sl Event):Fc Sy cL (gD s0 p1):=Fc.M 42 [enc s0,.clo g1 [] e1] (bA (F:=vc g1 e1 p1 h1 s0) 9 λu _=>aZ)
def nr (B:Event):Option Bool:=
 some (decide ((len B.assign)>20))
instance L3 (B:Event):Fc Sy cL (nr B):=Fc.M 43 [enc B] (ck 2 1 B (cz 7 B.assign aZ))
def kz (B:bM):Option Bool:=
 (bp (decide ((len B.events)>70))
 (some true)
 (some (decide ((len B.vars)>20))):Option Bool).bind λu=>
 (bp u
 (some true)
 ((gD B.events (λz=>nr z)).bind λw=>
 some w):Option Bool).bind λA=>
 some A
instance PA (B:bM):Fc Sy cL (kz B):=Fc.M 41 [enc B] (ck 2 1 B (cz 7 B.events (b_ 2 5 [7] 12 (bB 2 7 (bt 5) (cz 2 B.vars (bt 2))) λu=>b_ 1 4 [1,13] 17 (bB 1 13 (bt 4) (bA (F:=ng 43 [] (λz=>nr z) kC.pV B.events) 2 λw _=>bt 1)) λA=>aZ)))
def uB (B:Trace):Option Bool:=
 (bp (decide ((len B.procs)>10))
 (some true)
 ((fC B.procs (λz=>kz z)).bind λu=>
 some u):Option Bool).bind λw=>
 some w
instance SP (B:Trace):Fc Sy cL (uB B):=Fc.M 11 [enc B] (ck 2 1 B (cz 7 B.procs (b_ 2 4 [1,7] 11 (bB 2 7 (bt 4) (bA (F:=nF 41 [] (λz=>kz z) kC.pV B.procs) 2 λu _=>bt 1)) λw=>aZ)))
namespace ec
def dn (D:Int) (G:Pred) (J B:Int) (r:(Pred×Int×Int)->Option Int):Option (Fw (Int×Int) Int Empty):=
 (bp (decide (J<(len G.l)))
 (some (decide (B<=300)))
 (some false):Option Bool).bind λu=>
 bp u
 ((idx G.l J).bind λw=>
 (r (w,IntKind.wrap .i64 (D+1),B)).bind λz=>
 some (.n (IntKind.wrap .i64 (J+1),z)))
 (some (.x B))
def W2 (B J:Int) (G:Pred) (D:Int) (r:(Pred×Int×Int)->Option Int):Option Int:=
 (cE (λq:Int×Int=>dn B G q.1 q.2 r) (J,D)).bind (Fw.elim
 (λe=>some e)
 (λe=>Empty.elim e))
def J1 (B:Int) (G:Pred) (D:Int) (r:(Pred×Int×Int)->Option Int):Option Int:=
 ec.W2 B 0 G D r
theorem jd (r:(Pred×Int×Int)->Option Int) (hr:uR Sy cL 44 (λz:Pred×Int×Int=>[cv z.1,iv z.2.1,.ptr 9001 0,.ptr 9002 0]) (λz:Pred×Int×Int=>[(9001,bx (z.2.2:Int)),(9002,.box [.clo 44 [] [.ptr 9001 0,.ptr 9002 0]])]) (λr:Int=>[]) (λ(z:Pred×Int×Int) (r:Int)=>[(9001,bx (r:Int)),(9002,.box [.clo 44 [] [.ptr 9001 0,.ptr 9002 0]])]) r) (B:Int) (G:Pred) (D:Int):Le ((J1 B G D r).bind (λr=>some ([],[(9001,bx (r:Int)),(9002,.box [.clo 44 [] [.ptr 9001 0,.ptr 9002 0]])]))) (bX Sy cL (Bs (tr Tx 44) [9001,9002]) (oF (tb Tx 44) [1,1,1,0] [] ⟨[Iv 1 B,(2,.ptr 9001 0),(3,.ptr 9002 0),Pv 4],[Xb 4 G,(9001,.box [iv D]),(9002,.box [.clo 44 [] [.ptr 9001 0,.ptr 9002 0]])],[9001,9002],[],true,0⟩)):=
 k9 7 (λu=>⟨[Iv 1 B,(2,.ptr 9001 0),(3,.ptr 9002 0),Pv 4,Iv 6 u.1],[Xb 4 G,(9001,.box [iv u.2]),(9002,.box [.clo 44 [] [.ptr 9001 0,.ptr 9002 0]])],[9001,9002],[],true,0⟩) (λw=>(0,⟨[],[(9001,.box [iv w]),(9002,.box [.clo 44 [] [.ptr 9001 0,.ptr 9002 0]])],[9001,9002],[],true,0⟩)) (λu=>iB 7 13 (Pred.kD G.l) (cz 0 G.l (b_ 2 3 [16] 19 (bB 2 16 (bt 3) (bt 3)) λC=>bB 2 19 (iB 9 24 (Pred.kD G.l) (cg 1 λA _=>Qz 3 (mj.of (A,IntKind.wrap .i64 (B+1),u.2) hr) λI _=>aZ)) aZ))) (λw=>aZ)
end ec
def fV (D:Pred) (B G:Int) (r:(Pred×Int×Int)->Option Int):Option Int:=
 bp (decide (B>40))
 (ec.J1 B D 1000 r)
 (ec.J1 B D (IntKind.wrap .i64 (G+1)) r)
open ec in
theorem yj (r:(Pred×Int×Int)->Option Int) (hr:uR Sy cL 44 (λz:Pred×Int×Int=>[cv z.1,iv z.2.1,.ptr 9001 0,.ptr 9002 0]) (λz:Pred×Int×Int=>[(9001,bx (z.2.2:Int)),(9002,.box [.clo 44 [] [.ptr 9001 0,.ptr 9002 0]])]) (λr:Int=>[]) (λ(z:Pred×Int×Int) (r:Int)=>[(9001,bx (r:Int)),(9002,.box [.clo 44 [] [.ptr 9001 0,.ptr 9002 0]])]) r) (D:Pred) (B G:Int):∀J,fV D B G r=some J->∃m',cL 44 [cv D,iv B,.ptr 9001 0,.ptr 9002 0] [(9001,bx (G:Int)),(9002,.box [.clo 44 [] [.ptr 9001 0,.ptr 9002 0]])]=some (((λr:Int=>[]) J).map .v,m')/\∀T,jM m' ([(9001,bx (G:Int)),(9002,.box [.clo 44 [] [.ptr 9001 0,.ptr 9002 0]])].map (·.1)) T=some (lG T ((λr:Int=>[(9001,bx (r:Int)),(9002,.box [.clo 44 [] [.ptr 9001 0,.ptr 9002 0]])]) J)):=
 (mj.mk' 44 [cv D,iv B,.ptr 9001 0,.ptr 9002 0] [(9001,bx (G:Int)),(9002,.box [.clo 44 [] [.ptr 9001 0,.ptr 9002 0]])] (λr:Int=>[]) (λr:Int=>[(9001,bx (r:Int)),(9002,.box [.clo 44 [] [.ptr 9001 0,.ptr 9002 0]])]) (ck 2 4 D (bB 16 10 (nq 6 (jd r hr B D 1000)) (nq 4 (jd r hr B D (IntKind.wrap .i64 (G+1)))))):mj Sy cL (fV D B G r)).h
def ec (D:Pred) (B G:Int):Option Int:=fG (λr (z:Pred×Int×Int)=>fV z.1 z.2.1 z.2.2 r) 100000 (D,B,G)
abbrev Bm (D:Pred) (B G:Int):mj Sy cL (ec D B G):=mj.of (D,B,G) (uR.fix (A:=λz:Pred×Int×Int=>[cv z.1,iv z.2.1,.ptr 9001 0,.ptr 9002 0]) (O:=λz:Pred×Int×Int=>[(9001,bx (z.2.2:Int)),(9002,.box [.clo 44 [] [.ptr 9001 0,.ptr 9002 0]])]) (E:=λr:Int=>[]) (M:=λ(z:Pred×Int×Int) (r:Int)=>[(9001,bx (r:Int)),(9002,.box [.clo 44 [] [.ptr 9001 0,.ptr 9002 0]])]) (b:=(λr (z:Pred×Int×Int)=>fV z.1 z.2.1 z.2.2 r)) (by kernel_rfl) (by kernel_rfl) (by kernel_rfl) (λr hr z=>yj r hr z.1 z.2.1 z.2.2) 100000)
def sX (B:Pred):Option Bool:=
 (ec B 0 0).bind λu=>
 some (decide (u>300))
instance RS (B:Pred):Fc Sy cL (sX B):=Fc.M 12 [enc B] (ck 2 1 B (tj 26 (Bm B 0 0) λu _=>aZ))
namespace gQ
def bK (G:Sl bM) (J:Int) (D B:Int):Option (Fw (Int×Int) Int Empty):=
 bp (decide (B<J))
 ((idx G B).bind λu=>
 some (.n (IntKind.wrap .i64 (D+(len u.events)),IntKind.wrap .i64 (B+1))))
 (some (.x D))
def W1 (B:Int) (D:Sl bM) (G J:Int):Option Bool:=
 (cE (λq:Int×Int=>bK D G q.1 q.2) (B,J)).bind (Fw.elim
 (λe=>some (decide (e>40)))
 (λe=>Empty.elim e))
end gQ
def gQ (B:Trace):Option Bool:=
 gQ.W1 0 B.procs (len B.procs) 0
open gQ in
instance RZ (B:Trace):Fc Sy cL (gQ B):=Fc.M 26 [enc B] (ck 2 1 B (cz 13 B.procs (k9 5 (λu=>(cK [Iv 3 u.1,Cv 7 B.procs,Iv 8 (len B.procs),Iv 9 u.2] [])) (λw=>(0,(cK [Iv 3 w] []))) (λu=>bB 7 10 (cg 7 λz _=>pP 2 5 0 z (cz 6 z.events aZ)) aZ) (λw=>aZ))))
def mg (G D B:Int):Option Bool:=
 (bp (decide (G>=D))
 (some (decide (G<=B)))
 (some false):Option Bool).bind λu=>
 some u
instance Uk (G D B:Int):Fc Sy cL (mg G D B):=Fc.M 153 [.int .i64 G,.int .i64 D,.int .i64 B] (b_ 11 4 [0,2,10] 14 (bB 11 10 (bt 4) (bt 4)) λu=>aZ)
def ov (B:Int):Option Bool:=
 (bp (decide (B>=97))
 (some (decide (B<=122)))
 (some false):Option Bool).bind λu=>
 (bp u
 (some true)
 ((bp (decide (B>=65))
 (some (decide (B<=90)))
 (some false):Option Bool).bind λw=>
 some w):Option Bool).bind λz=>
 some z
instance RA (B:Int):Fc Sy cL (ov B):=Fc.M 197 [.int .u8 B] (b_ 10 3 [5] 8 (bB 10 5 (bt 3) (bt 3)) λu=>b_ 1 7 [0,9] 16 (bB 1 9 (bt 7) (b_ 3 3 [0,12] 15 (bB 3 12 (bt 3) (bt 3)) λw=>bt 1)) λz=>aZ)
def s9 (B:Int):Option Bool:=
 (bp (decide (B>=48))
 (some (decide (B<=57)))
 (some false):Option Bool).bind λu=>
 some u
instance R5 (B:Int):Fc Sy cL (s9 B):=Fc.M 198 [.int .u8 B] (b_ 10 3 [0,5] 8 (bB 10 5 (bt 3) (bt 3)) λu=>aZ)
namespace fD
def bK (s0:ByteArray) (D:Int) (B:Int):Option (Fw Int Unit Unit):=
 bp (decide (B<D))
 ((mU s0 B).bind λz=>
 (ov z).bind λA=>
 (bp A
 (some false)
 ((mU s0 B).bind λC=>
 (s9 C).bind λG=>
 some (!G)):Option Bool).bind λI=>
 (bp I
 ((mU s0 B).bind λu=>
 some (!(u==95)))
 (some false):Option Bool).bind λw=>
 bp w
 (some (.r ()))
 (some (.n (IntKind.wrap .i64 (B+1)))))
 (some (.x ()))
def W1 (s0:ByteArray) (B D:Int):Option Bool:=
 (cE (λq:Int=>bK s0 B q) D).bind (Fw.elim
 (λe=>some true)
 (λe=>some false))
end fD
def fD (s0:ByteArray):Option Bool:=
 (bp (ByteArray.toList s0==ByteArray.toList ByteArray.empty)
 (some true)
 (some (decide (((ByteArray.size s0:Nat):Int)>16))):Option Bool).bind λu=>
 (bp u
 (some true)
 ((mU s0 0).bind λw=>
 (ov w).bind λz=>
 some (!z)):Option Bool).bind λA=>
 bp A
 (some false)
 (fD.W1 s0 ((ByteArray.size s0:Nat):Int) 0)
open fD in
instance RD (s0:ByteArray):Fc Sy cL (fD s0):=Fc.M 181 [.str s0] (b_ 11 4 [6] 10 (bB 11 6 (bt 4) (bt 4)) λB=>b_ 1 5 [11] 16 (bB 1 11 (bt 5) (KA 1 .i64 λC _=>bA 0 λD _=>bt 2)) λG=>bB 2 16 aZ (iI 13 (λw=>(cK [(0,.v (.str s0)),Iv 18 ((ByteArray.size s0:Nat):Int),Iv 19 w] [])) (λu=>(0,(cK [] []))) (λu=>(cK [Bv 2 false] [])) (λw=>bB 7 20 (KA 15 .i64 λI _=>bA 0 λJ _=>b_ 2 6 [27] 33 (dK 2 27 (bt 6) (KA 2 .i64 λL _=>bA 0 λO _=>bt 2)) λQ=>b_ 1 5 [3,34] 39 (bB 1 34 (KA 2 .i64 λz _=>bt 2) (bt 5)) λA=>bB 2 39 aZ aZ) aZ) (λu=>aZ) (λu=>aZ)))
def iT (B D:bM):Option Bool:=
 some (ByteArray.toList B.name==ByteArray.toList D.name)
instance He (B D:bM):Fc Sy cL (iT B D):=Fc.M 182 [enc B,.fptr (cells D)] (ck 2 2 B aZ)
def iP (B D:Var):Option Bool:=
 some (ByteArray.toList B.name==ByteArray.toList D.name)
instance G_ (B D:Var):Fc Sy cL (iP B D):=Fc.M 183 [enc B,.fptr (cells D)] (aZ)
namespace eA
def bK (s0:Sl Var) (D:Int) (B:Int) (p1:Var->Option Bool):Option (Fw Int Unit Int):=
 bp (decide (B<D))
 ((idx s0 B).bind λu=>
 (p1 u).bind λw=>
 bp w
 (some (.r B))
 (some (.n (IntKind.wrap .i64 (B+1)))))
 (some (.x ()))
def W1 (s0:Sl Var) (B D:Int) (p1:Var->Option Bool):Option Int:=
 (cE (λq:Int=>bK s0 B q p1) D).bind (Fw.elim
 (λe=>some (-1))
 (λe=>some e))
end eA
def eA (s0:Sl Var) (p1:Var->Option Bool):Option Int:=
 eA.W1 s0 (len s0) 0 p1
open eA in
abbrev l9 (g1:FuncId) (e1:List V) (p1:Var->Option Bool) (h1:kC Sy cL g1 [] e1 (λz:Var=>[enc z]) (λr:Bool=>[.bool r]) p1 true) (s0:Sl Var):Fc Sy cL (eA s0 p1):=Fc.M 106 [enc s0,.clo g1 [] e1] (cz 9 s0 (iI 5 (λw=>(cK [Cv 0 s0,(1,.v (.clo g1 [] e1)),Iv 7 (len s0),Iv 8 w] [])) (λu=>(0,(cK [] []))) (λu=>(cK [Iv 4 u] [])) (λw=>bB 7 9 (cg 16 λA _=>xe 1 h1.f A λB _=>bB 2 16 aZ aZ) aZ) (λu=>aZ) (λu=>aZ)))
def fT (s0:Sl Var) (p1:Var->Option Bool):Option Bool:=
 (eA s0 p1).bind λu=>
 some (decide (u>=0))
abbrev nY (g1:FuncId) (e1:List V) (p1:Var->Option Bool) (h1:kC Sy cL g1 [] e1 (λz:Var=>[enc z]) (λr:Bool=>[.bool r]) p1 true) (s0:Sl Var):Fc Sy cL (fT s0 p1):=Fc.M 161 [enc s0,.clo g1 [] e1] (bA (F:=l9 g1 e1 p1 h1 s0) 9 λu _=>aZ)
namespace dY
def bK (D:Sl Var) (G:Int) (J:bM) (B:Int):Option (Fw Int Unit Int):=
 bp (decide (B<G))
 ((idx D B).bind λu=>
 (fD u.name).bind λC=>
 (bp C
 ((jm J.vars none (some B)).bind λI=>
 (fT I (λz=>iP z u)).bind λL=>
 some L)
 (some true):Option Bool).bind λw=>
 bp w
 (some (.r 13))
 ((mg u.init_ (-1073741824) 1073741824).bind λA=>
 bp A
 (some (.n (IntKind.wrap .i64 (B+1))))
 (some (.r 2))))
 (some (.x ()))
def W1 (D:Sl Var) (G J:Int) (B:bM):Option Int:=
 (cE (λq:Int=>bK D G B q) J).bind (Fw.elim
 (λe=>bp (decide ((len B.events)>64))
 (some 5)
 (some 0))
 (λe=>some e))
end dY
def dY (D:Trace) (p1:Int):Option Int:=
 (idx D.procs p1).bind λu=>
 (fD u.name).bind λw=>
 (bp w
 ((jm D.procs none (some p1)).bind λA=>
 (fC A (λz=>iT z u)).bind λB=>
 some B)
 (some true):Option Bool).bind λC=>
 bp C
 (some 13)
 (bp (decide ((len u.vars)>8))
 (some 5)
 (dY.W1 u.vars (len u.vars) 0 u))
open dY in
instance Ku (D:Trace) (p1:Int):Fc Sy cL (dY D p1):=Fc.M 154 [enc D,.int .i64 p1] (ck 2 2 D (cg 8 λu _=>pP 2 5 0 u (bA 8 λL _=>b_ 2 7 [1,2,18] 25 (dK 2 18 (GY 3 false true [.int .i64 p1] λC _=>dg (F:=nF 182 [.fptr (cells u)] (λz=>iT z u) kC.pV C) 1 λO _=>bt 1) (bt 7)) λQ=>bB 3 13 aZ (cz 5 u.vars (bB 4 26 aZ (cz 9 u.vars (iI 5 (λA=>(cK [Pv 5,Cv 32 u.vars,Iv 33 (len u.vars),Iv 34 A] [Xb 5 u])) (λw=>(1,(cK [Pv 5] [Xb 5 u]))) (λw=>(cK [Iv 4 w] [])) (λA=>bB 7 35 (cg 8 λB _=>bA 11 λS _=>b_ 2 7 [6,44] 51 (dK 2 44 (GY 3 false true [.int .i64 A] λG _=>dg (F:=nY 183 [.fptr (cells B)] (λz=>iP z B) kC.pV G) 1 λT _=>bt 1) (bt 7)) λI=>bB 3 39 aZ (bA 5 λJ _=>dK 4 52 aZ aZ)) aZ) (λw=>cz 7 u.events (bB 3 61 aZ aZ)) (λw=>aZ))))))))
def jk (B:Trace):Option Trace:=
 some B
instance Rt (B:Trace):Fc Sy cL (jk B):=Fc.NE (λr:Trace=>[(.clo 184 [] [.fptr (cells r)])]) 155 [enc B] (ck 2 1 B aZ)
namespace gK
def J1 (p1:Int) (D:Bool) (G:Trace) (B:Event):Option Bool:=
 bp D
 ((mg B.peer 0 (IntKind.wrap .i64 ((len G.procs)-1))).bind λu=>
 (bp u
 (some (!(B.peer==p1)))
 (some false):Option Bool).bind λw=>
 (bp w
 ((mg B.message 0 199).bind λz=>
 some z)
 (some false):Option Bool).bind λA=>
 some A)
 (some false)
end gK
def gK (B:Trace) (p1:Int) (e2:Event):Option Bool:=
 bp (e2.kind==1)
 ((bp (e2.peer==0)
 (some (e2.message==0))
 (some false):Option Bool).bind λu=>
 some u)
 (bp (e2.kind==2)
 (gK.J1 p1 true B e2)
 (gK.J1 p1 (e2.kind==3) B e2))
open gK in
instance Qj (B:Trace) (p1:Int) (e2:Event):Fc Sy cL (gK B p1 e2):=Fc.M 185 [enc B,.int .i64 p1,enc e2] (ck 2 3 B (ck 0 5 e2 (bB 17 9 (b_ 7 4 [5,14] 18 (bB 7 14 (bt 4) (bt 4)) λC=>aZ) (bB 8 19 (tN 4 (bB 0 19 (cz 7 B.procs (bA 1 λu _=>b_ 1 5 [1,29] 34 (bB 1 29 (bt 5) (bt 5)) λw=>b_ 1 4 [5,35] 39 (bB 1 35 (bA 2 λz _=>bt 1) (bt 4)) λA=>aZ)) aZ)) (tN 7 (bB 0 19 (cz 7 B.procs (bA 1 λu _=>b_ 1 5 [1,29] 34 (bB 1 29 (bt 5) (bt 5)) λw=>b_ 1 4 [5,35] 39 (bB 1 35 (bA 2 λz _=>bt 1) (bt 4)) λA=>aZ)) aZ))))))
def jD (B D:Assign):Option Bool:=
 some (B.var==D.var)
instance H7 (B D:Assign):Fc Sy cL (jD B D):=Fc.M 187 [enc B,.fptr (cells D)] (aZ)
namespace eS
def bK (s0:Sl Assign) (D:Int) (B:Int) (p1:Assign->Option Bool):Option (Fw Int Unit Int):=
 bp (decide (B<D))
 ((idx s0 B).bind λu=>
 (p1 u).bind λw=>
 bp w
 (some (.r B))
 (some (.n (IntKind.wrap .i64 (B+1)))))
 (some (.x ()))
def W1 (s0:Sl Assign) (B D:Int) (p1:Assign->Option Bool):Option Int:=
 (cE (λq:Int=>bK s0 B q p1) D).bind (Fw.elim
 (λe=>some (-1))
 (λe=>some e))
end eS
def eS (s0:Sl Assign) (p1:Assign->Option Bool):Option Int:=
 eS.W1 s0 (len s0) 0 p1
open eS in
abbrev uv (g1:FuncId) (e1:List V) (p1:Assign->Option Bool) (h1:kC Sy cL g1 [] e1 (λz:Assign=>[enc z]) (λr:Bool=>[.bool r]) p1 true) (s0:Sl Assign):Fc Sy cL (eS s0 p1):=Fc.M 199 [enc s0,.clo g1 [] e1] (cz 9 s0 (iI 5 (λw=>(cK [Cv 0 s0,(1,.v (.clo g1 [] e1)),Iv 7 (len s0),Iv 8 w] [])) (λu=>(0,(cK [] []))) (λu=>(cK [Iv 4 u] [])) (λw=>bB 7 9 (cg 16 λA _=>xe 1 h1.f A λB _=>bB 2 16 aZ aZ) aZ) (λu=>aZ) (λu=>aZ)))
def gm (s0:Sl Assign) (p1:Assign->Option Bool):Option Bool:=
 (eS s0 p1).bind λu=>
 some (decide (u>=0))
abbrev rS (g1:FuncId) (e1:List V) (p1:Assign->Option Bool) (h1:kC Sy cL g1 [] e1 (λz:Assign=>[enc z]) (λr:Bool=>[.bool r]) p1 true) (s0:Sl Assign):Fc Sy cL (gm s0 p1):=Fc.M 186 [enc s0,.clo g1 [] e1] (bA (F:=uv g1 e1 p1 h1 s0) 9 λu _=>aZ)
namespace dz
def dn (D:Sl Assign) (G:Int) (J:Event) (T:bM) (B:Int):Option (Fw Int Unit Int):=
 bp (decide (B<G))
 ((idx D B).bind λu=>
 (mg u.var 0 (IntKind.wrap .i64 ((len T.vars)-1))).bind λC=>
 (bp C
 ((mg u.value (-1073741824) 1073741824).bind λI=>
 some (!I))
 (some true):Option Bool).bind λL=>
 bp L
 (some (.r 2))
 ((jm J.assign none (some B)).bind λw=>
 (gm w (λz=>jD z u)).bind λA=>
 bp A
 (some (.r 8))
 (some (.n (IntKind.wrap .i64 (B+1))))))
 (some (.x ()))
def W2 (B:Sl Assign) (D G:Int) (J:Event) (T:bM):Option Int:=
 (cE (λq:Int=>dn B D J T q) G).bind (Fw.elim
 (λe=>some 0)
 (λe=>some e))
def J1 (D:Int) (J:Trace) (G:aY) (B:Event) (T:bM):Option Int:=
 (gK J G.proc B).bind λu=>
 bp u
 ((mg B.time 0 1099511627776).bind λw=>
 (bp w
 (some (decide (B.time<D)))
 (some true):Option Bool).bind λz=>
 bp z
 (some 11)
 (bp (decide ((len B.assign)>8))
 (some 5)
 (dz.W2 B.assign (len B.assign) 0 B T)))
 (some 3)
theorem jd (D:Int) (T:Trace) (J:aY) (B:Event) (G:bM):Le ((J1 D T J B G).bind (λr=>some [.int .i64 r])) (bX Sy cL (nk (tr Tx 156)) (oF (tb Tx 156) [1,1,1,1,0] [] (cK [Pv 3,Pv 4,Pv 5,Pv 7,Iv 8 D] [Xb 3 T,Xb 4 J,Xb 5 B,Xb 7 G]))):=
 bA 8 λL _=>dK 4 28 (bA 5 λO _=>b_ 2 5 [8,40] 45 (dK 2 40 (bt 5) (bt 5)) λQ=>bB 3 35 aZ (cz 5 B.assign (bB 4 46 aZ (cz 9 B.assign (iI 5 (λw=>(cK [Pv 5,Pv 7,Cv 52 B.assign,Iv 53 (len B.assign),Iv 54 w] [Xb 5 B,Xb 7 G])) (λu=>(1,(cK [] []))) (λu=>(cK [Iv 6 u] [])) (λw=>bB 7 55 (cg 8 λA _=>cz 13 G.vars (bA 1 λS _=>b_ 2 5 [68] 73 (dK 2 68 (bA 2 λU _=>bt 2) (bt 5)) λW=>bB 3 59 aZ (GY 6 false true [.int .i64 w] λC _=>dg (F:=rS 187 [.fptr (cells A)] (λz=>jD z A) kC.pV C) 1 λI _=>bB 3 74 aZ aZ))) aZ) (λu=>aZ) (λu=>aZ)))))) aZ
end dz
def dz (D:Trace) (B:aY) (e2:Event):Option Int:=
 (idx D.procs B.proc).bind λu=>
 bp (decide (B.index>1))
 ((idx u.events (IntKind.wrap .i64 (B.index-2))).bind λw=>
 dz.J1 w.time D B e2 u)
 (dz.J1 0 D B e2 u)
open dz in
instance LH (D:Trace) (B:aY) (e2:Event):Fc Sy cL (dz D B e2):=Fc.M 156 [enc D,enc B,enc e2] (ck 2 3 D (ck 1 5 e2 (cg 9 λu _=>pP 2 7 0 u (bB 15 19 (cg 7 λw _=>nq 6 (jd w.time D B e2 u)) (nq 4 (jd 0 D B e2 u))))))
def o4 (B:Event) (D G:Int):Option Bool:=
 (bp (B.kind==2)
 (some (B.message==D))
 (some false):Option Bool).bind λu=>
 (bp u
 (some (B.peer==G))
 (some false):Option Bool).bind λw=>
 some w
instance NI (B:Event) (D G:Int):Fc Sy cL (o4 B D G):=Fc.M 200 [enc B,.fptr (cells D),.fptr (cells G)] (ck 2 3 B (b_ 9 5 [1,8] 13 (bB 9 8 (bt 5) (bt 5)) λu=>b_ 1 5 [2,3,14] 19 (bB 1 14 (bt 5) (bt 5)) λw=>aZ))
def sQ (D:Trace) (p1 G B:Int):Option Bool:=
 (idx D.procs p1).bind λu=>
 (gD u.events (λz=>o4 z G B)).bind λw=>
 some w
instance R2 (G:Trace) (p1 D B:Int):Fc Sy cL (sQ G p1 D B):=Fc.M 188 [enc G,.int .i64 p1,.int .i64 D,.int .i64 B] (ck 2 4 G (cg 10 λu _=>dg (F:=ng 200 [.fptr (cells D),.fptr (cells B)] (λz=>o4 z D B) kC.pV u.events) 3 λw _=>aZ))
namespace d_
def jt (D G:Trace) (J:Option (cq 200 bD)) (T:aY) (U:Int) (x:aY×Event) (B:cq 200 bD):Option (Fw (cq 200 bD) Empty (aY×Int×(cq 200 bD))):=
 bp (x.2.kind==2)
 ((cq.at B x.2.message).bind λu=>
 bp (decide (u.from_.index>0))
 (some (.r (x.1,8,B)))
 ((cq.at B x.2.message).bind λw=>
 some (.n (cq.set B x.2.message (⟨x.1,w.to_⟩:bD)))))
 (bp (x.2.kind==3)
 ((cq.at B x.2.message).bind λz=>
 bp (decide (z.to_.index>0))
 (some (.r (x.1,8,B)))
 ((sQ G x.2.peer x.2.message x.1.proc).bind λA=>
 bp A
 ((cq.at B x.2.message).bind λC=>
 some (.n (cq.set B x.2.message (⟨C.from_,x.1⟩:bD))))
 (some (.r (x.1,7,B)))))
 (some (.n B)))
def E1 (B G:Trace) (J:Option (cq 200 bD)) (T:aY) (U:Int) (D:cq 200 bD):Option ((Option (cq 200 bD))×aY×Int):=
 (iC B).bind λu=>(jC (λ(x:aY×Event) (q:cq 200 bD)=>jt B G J T U x q) u D).bind (Fw.o5
 (λq=>some (some q,⟨0,0⟩,0))
 (λe=>Empty.elim e)
 (λe=>some ((none:Option (cq 200 bD)),e.1,e.2.1)))
end d_
def d_ (B:Trace):Option ((Option (cq 200 bD))×aY×Int):=
 (jk B).bind λu=>
 d_.E1 u B (none:Option (cq 200 bD)) (⟨0,0⟩:aY) 0 (cq.K6 200 (⟨⟨0,0⟩,⟨0,0⟩⟩:bD))
open d_ in
instance Ko (B:Trace):Fc Sy cL (d_ B):=Fc.N 157 [enc B] (ck 2 1 B (ck 8 10 (cq.K6 200 (⟨⟨0,0⟩,⟨0,0⟩⟩:bD)) (Tq 0 5 (cK [Pv 1,Pv 2,Pv 3,Pv 4,Pv 10] [Xb 1 B,(2,.box [cv (none:Option (cq 200 bD))]),Xb 3 (⟨0,0⟩:aY),(4,.box [iv 0]),Xb 10 (cq.K6 200 (⟨⟨0,0⟩,⟨0,0⟩⟩:bD))]) [cv (none:Option (cq 200 bD))] (by simp only[cK,wz,pg,qD,oS,qT,sB,qQ,rU,o8,qP,wA,sy,rT,sK,sA,uG,uL,qL,sI];rfl) (bA 7 λA _=>C8 λL C=>Ab 4 [Pv 1,Pv 2,Pv 3,Pv 4,Pv 5,(12,.v (.clo 184 [] [.fptr (cells A)]))] (λw=>[Xb 1 B,(2,.box [cv (none:Option (cq 200 bD))]),Xb 3 (⟨0,0⟩:aY),(4,.box [iv 0]),(5,.box [.ptr 10 0]),Xb 10 w]) (λz=>Empty.elim z) (λz=>[Xb 1 B,(2,.box [cv (none:Option (cq 200 bD))]),Xb 3 z.1,(4,.box [iv z.2.1]),(5,.box [.ptr 10 0]),Xb 10 z.2.2]) (xI A L C) (λu w=>Tq 2 6 ⟨[Pv 1,Pv 2,Pv 3,Pv 4,Pv 5,(12,.v (.clo 184 [] [.fptr (cells A)])),Cv 13 u.1,Cv 14 u.2],[Xb 1 B,(2,.box [cv (none:Option (cq 200 bD))]),Xb 3 (⟨0,0⟩:aY),(4,.box [iv 0]),(5,.box [.ptr 10 0]),Xb 10 w],[1,2,3,4,5],[],true,0⟩ [iv 0,iv 0] (by simp only[cK,wz,pg,qD,oS,qT,sB,qQ,rU,o8,qP,wA,sy,rT,sK,sA,uG,uL,qL,sI];rfl) (Tq 4 7 ⟨[Pv 1,Pv 2,Pv 3,Pv 4,Pv 5,(12,.v (.clo 184 [] [.fptr (cells A)])),Cv 14 u.2,Pv 6],[Xb 1 B,(2,.box [cv (none:Option (cq 200 bD))]),Xb 3 (⟨0,0⟩:aY),(4,.box [iv 0]),(5,.box [.ptr 10 0]),Xb 10 w,Xb 6 u.1],[1,2,3,4,5],[],true,0⟩ [iv 0,iv 0,iv 0,iv 0,.v .bE] (by simp only[cK,wz,pg,qD,oS,qT,sB,qQ,rU,o8,qP,wA,sy,rT,sK,sA,uG,uL,qL,sI];rfl) (pP 0 7 0 u.2 (wW 1 (bB 22 19 (Er 7 .i64 10 λD O=>PO 2 1 false 10 w u.2.message 1 D O (.int .i64 D.from_.index) (by rfl) (bB 3 28 aZ (Er 8 .i64 10 λG Q=>Pr 1 10 w u.2.message 0 G Q (⟨u.1,G.to_⟩:bD) u.1 rfl aZ))) (bB 7 36 (Er 7 .i64 10 λI S=>PO 2 1 false 10 w u.2.message 3 I S (.int .i64 I.to_.index) (by rfl) (bB 3 45 aZ (bA 12 λU _=>dK 3 54 (Er 8 .i64 10 λJ T=>Pr 1 10 w u.2.message 2 J T (⟨J.from_,u.1⟩:bD) u.1 rfl aZ) aZ))) aZ)))))) (λw=>Uh 13 (cK [Pv 2,Pv 3,Pv 4] [(2,.box [.ptr 10 0]),Xb 3 (⟨0,0⟩:aY),(4,.box [iv 0]),Xb 10 w]) [.ptr 10 0,cv (⟨0,0⟩:aY),iv 0] (QA (d:=10) (x:=w) (vs:=[enc (⟨0,0⟩:aY),.int .i64 0]) (by kernel_rfl)) (by kernel_rfl)) (λx=>Empty.elim x) (λz=>aZ)))))
namespace iD
def J1 (D:cq 200 bD) (B:Sl aY) (J:Sl Event) (G:aY):Option (Sl aY):=
 (idx J (IntKind.wrap .i64 (G.index-1))).bind λu=>
 (bp (u.kind==2)
 ((cq.at D u.message).bind λw=>
 some (decide (w.to_.index>0)))
 (some false):Option Bool).bind λz=>
 bp z
 ((cq.at D u.message).bind λA=>
 (fZ B (A.to_:aY)).bind λC=>
 some C)
 (some B)
theorem jd (B:cq 200 bD) (D:Sl aY) (J:Sl Event) (G:aY):Le ((J1 B D J G).bind (λr=>some [enc r])) (bX Sy cL (nk (tr Tx 189)) (oF (tb Tx 189) [1,1,1,1,0,0] [] (cK [Kv 1 B,Pv 5,Ov 7,Cv 8 J] [Xb 5 G,Lb 2007 D]))):=
 cg 7 λu _=>pP 2 9 0 u (b_ 8 10 [40] 50 (bB 8 40 (JV 4 .i64 λw z=>NF 0 2 B u.message 0 w z (NF 0 1 B u.message 2 w z (Je 0 1 false B u.message 3 w z (.int .i64 w.to_.index) (by rfl) (bt 2)))) (bt 10)) λI=>bB 2 50 (JV 7 .i64 λA C=>NF 0 2 B u.message 0 A C (Je 0 2 true B u.message 2 A C (enc A.to_) (by rfl) (qq 1 2007 59 60 λL _=>aZ))) aZ)
end iD
def iD (D:Trace) (B:cq 200 bD) (x2:aY):Option (Sl aY):=
 (idx D.procs x2.proc).bind λu=>
 bp (decide (x2.index<(len u.events)))
 (iD.J1 B (Sl.row [⟨x2.proc,IntKind.wrap .i64 (x2.index+1)⟩]:Sl aY) u.events x2)
 (iD.J1 B (Sl.nil:Sl aY) u.events x2)
open iD in
instance RW (D:Trace) (B:cq 200 bD) (x2:aY):Fc Sy cL (iD D B x2):=Fc.N 189 [enc D,.fptr (cells B),enc x2] (ck 2 3 D (cg 15 λu _=>cz 11 u.events (bB 3 21 (Uc 10 29 30 .bE (⟨x2.proc,IntKind.wrap .i64 (x2.index+1)⟩:aY) (nq 5 (jd B (Sl.row [⟨x2.proc,IntKind.wrap .i64 (x2.index+1)⟩]:Sl aY) u.events x2))) (nq 5 (jd B (Sl.nil:Sl aY) u.events x2)))))
namespace gI
def nU (T:Trace) (U:Sl aY) (W:Int) (Y:Trace) (aa:cq 200 bD) (ab:aY) (ad:Bool) (J:aY) (B:Sl aY) (G:Int) (D:Mo aY Bool):Option (Fw ((Sl aY)×Int×(Mo aY Bool)) ((Sl aY)×(Mo aY Bool)) Unit):=
 bp (decide (G<W))
 ((idx U G).bind λu=>
 bp (SD u J)
 (some (.r ()))
 (bp (CD D u false)
 (some (.n (B,IntKind.wrap .i64 (G+1),D)))
 ((fZ B (u:aY)).bind λw=>
 some (.n (w,IntKind.wrap .i64 (G+1),qp D u true)))))
 (some (.x (B,D)))
def W3 (D:Sl aY) (B:Trace) (T:Sl aY) (U W:Int) (Y:Trace) (aa:cq 200 bD) (ab:aY) (ad:Bool) (G:aY) (J:Mo aY Bool):Option (Fw ((Sl aY)×(Mo aY Bool)) Unit Unit):=
 (cE (λq:(Sl aY)×Int×(Mo aY Bool)=>nU B T U Y aa ab ad G q.1 q.2.1 q.2.2) (D,W,J)).bind (Fw.elim
 (λe=>some (.n (e.1,e.2)))
 (λe=>some (.r ())))
def dn (D G:Trace) (J:cq 200 bD) (W:aY) (Y:Bool) (T:aY) (B:Sl aY) (U:Mo aY Bool):Option (Fw ((Sl aY)×(Mo aY Bool)) Unit Unit):=
 bp (decide ((len B)>0))
 ((Sl.rM B (IntKind.wrap .i64 ((len B)-1))).bind λw=>
 (Sl.get B w).bind λz=>
 (nH B none (some (IntKind.wrap .i64 ((len B)-1)))).bind λA=>
 (iD G J z).bind λu=>
 W3 A D u (len u) 0 G J W Y T U)
 (some (.x ()))
def W2 (G:Sl aY) (B T:Trace) (U:cq 200 bD) (W:aY) (Y:Bool) (D:aY) (J:Mo aY Bool):Option (Fw Unit Empty aY):=
 (cE (λq:(Sl aY)×(Mo aY Bool)=>dn B T U W Y D q.1 q.2) (G,J)).bind (Fw.elim
 (λe=>some (.n ()))
 (λe=>some (.r D)))
def jt (B D:Trace) (G:cq 200 bD) (J:aY) (T:Bool) (x:aY×Event):Option (Fw Unit Empty aY):=
 W2 (Sl.row [x.1]:Sl aY) B D G J T x.1 []
def E1 (B D:Trace) (G:cq 200 bD) (J:aY) (T:Bool):Option (aY×Bool):=
 (iC B).bind λu=>(jC (λ(x:aY×Event) (q:Unit)=>jt B D G J T x) u ()).bind (Fw.o5
 (λq=>some (⟨0,0⟩,false))
 (λe=>Empty.elim e)
 (λe=>some (e,true)))
end gI
def gI (B:Trace) (D:cq 200 bD):Option (aY×Bool):=
 (jk B).bind λu=>
 gI.E1 u B D (⟨0,0⟩:aY) false
open gI in
instance RI (B:Trace) (D:cq 200 bD):Fc Sy cL (gI B D):=Fc.M 158 [enc B,.fptr (cells D)] (ck 2 2 B (bA 9 λw _=>C8 λT O=>Ab 4 [Pv 2,Pv 3,Pv 4,Pv 5,(13,.v (.clo 184 [] [.fptr (cells w)]))] (λQ=>[Xb 2 B,(3,.box [cp D]),Xb 4 (⟨0,0⟩:aY),(5,.box [bv false])]) (λG=>Empty.elim G) (λG=>[Xb 2 B,(3,.box [cp D]),Xb 4 G,(5,.box [bv true])]) (xI w T O) (λA Q=>wW 4 (iI 18 (λu=>⟨[Pv 2,Pv 3,Pv 4,Pv 5,Pv 6,(7,.mp 16),Ov 8,(13,.v (.clo 184 [] [.fptr (cells w)]))],[Xb 2 B,(3,.box [cp D]),Xb 4 (⟨0,0⟩:aY),(5,.box [bv false]),Xb 6 A.1,(16,vh u.2),Lb 2008 u.1],[2,3,4,5],[],true,0⟩) (λI=>(2,⟨[Pv 2,Pv 3,Pv 4,Pv 5,(13,.v (.clo 184 [] [.fptr (cells w)]))],[Xb 2 B,(3,.box [cp D]),Xb 4 (⟨0,0⟩:aY),(5,.box [bv false])],[2,3,4,5],[],true,0⟩)) (λI=>⟨[],[Xb 2 B,(3,.box [cp D]),Xb 4 A.1,(5,.box [bv true])],[2,3,4,5],[],true,0⟩) (λu=>JB 6 2008 u.1 (bB 3 21 (JB 8 2008 u.1 (CI .i64 1 2008 λU _=>Sg 0 2008 0 2 true (λJ=>.agg [.int .i64 J.proc,.int .i64 J.index]) λJ _=>JB 8 2008 u.1 (Un 1 false true 2008 32 [.int .i64 (IntKind.wrap .i64 ((len u.1)-1))] λW _=>bA 8 λL _=>cz 0 L (iI 6 (λz=>⟨[Pv 2,Pv 3,Pv 4,Pv 5,Pv 6,(7,.mp 16),Ov 8,(13,.v (.clo 184 [] [.fptr (cells w)])),Cv 36 L,Iv 37 (len L),Iv 38 z.2.1],[Xb 2 B,(3,.box [cp D]),Xb 4 (⟨0,0⟩:aY),(5,.box [bv false]),Xb 6 A.1,(16,vh z.2.2),Lb 2008 z.1],[2,3,4,5],[],true,0⟩) (λC=>(4,⟨[Pv 2,Pv 3,Pv 4,Pv 5,Pv 6,(7,.mp 16),Ov 8,(13,.v (.clo 184 [] [.fptr (cells w)]))],[Xb 2 B,(3,.box [cp D]),Xb 4 (⟨0,0⟩:aY),(5,.box [bv false]),Xb 6 A.1,(16,vh C.2),Lb 2008 C.1],[2,3,4,5],[],true,0⟩)) (λC=>⟨[],[Xb 2 B,(3,.box [cp D]),Xb 4 A.1,(5,.box [bv true])],[2,3,4,5],[],true,0⟩) (λz=>bB 8 39 (cg 7 λS _=>bB 13 44 aZ (Uv 7 16 z.2.2 S false (dK 3 49 aZ (U5 5 16 z.2.2 S true (qq 6 2008 54 55 λX _=>aZ))))) aZ) (λC=>aZ) (λC=>aZ))))) aZ)) (λI=>aZ) (λI=>aZ))) (λQ=>aZ) (λx=>Empty.elim x) (λG=>aZ)))
namespace gu
def HU (B D:Trace) (G:aY) (J:Int) (x:aY×Event):Option (Fw Unit Empty (aY×Int)):=
 (dz D x.1 x.2).bind λu=>
 bp (u==0)
 (some (.n ()))
 (some (.r (x.1,u)))
def E2 (B D:Trace) (G:aY) (J:Int):Option (aY×Int):=
 (iC B).bind λz=>(jC (λ(x:aY×Event) (q:Unit)=>HU B D G J x) z ()).bind (Fw.o5
 (λq=>(d_ D).bind λu=>
 bp (u.2.2==0)
 ((u.1).bind λA=>
 (gI D A).bind λw=>
 bp w.2
 (some (w.1,10))
 (some (⟨0,0⟩,0)))
 (some (u.2.1,u.2.2)))
 (λe=>Empty.elim e)
 (λe=>some (e.1,e.2)))
def bK (D:Int) (G:Trace) (J:aY) (T:Int) (B:Int):Option (Fw Int Unit (aY×Int)):=
 bp (decide (B<D))
 ((dY G B).bind λu=>
 bp (u==0)
 (some (.n (IntKind.wrap .i64 (B+1))))
 (some (.r ((⟨B,0⟩:aY),u))))
 (some (.x ()))
def W1 (J T:Int) (B:Trace) (D:aY) (G:Int):Option (aY×Int):=
 (cE (λq:Int=>bK J B D G q) T).bind (Fw.elim
 (λe=>(jk B).bind λu=>
 gu.E2 u B D G)
 (λe=>some (e.1,e.2)))
end gu
def gu (B:Trace):Option (aY×Int):=
 (mg (len B.procs) 1 8).bind λu=>
 bp u
 (gu.W1 (len B.procs) 0 B (⟨0,0⟩:aY) 0)
 (some (⟨0,0⟩,1))
open gu in
instance R4 (B:Trace):Fc Sy cL (gu B):=Fc.M 117 [enc B] (ck 2 1 B (cz 9 B.procs (bA 0 λL _=>dK 3 18 (cz 8 B.procs (iI 5 (λA=>(cK [Pv 1,Pv 2,Pv 3,Iv 22 (len B.procs),Iv 23 A] [Xb 1 B,Xb 2 (⟨0,0⟩:aY),(3,.box [iv 0])])) (λu=>(0,(cK [Pv 1,Pv 2,Pv 3] [Xb 1 B,Xb 2 (⟨0,0⟩:aY),(3,.box [iv 0])]))) (λu=>(cK [Pv 2,Pv 3] [Xb 2 u.1,(3,.box [iv u.2])])) (λA=>bB 7 24 (bA 15 λO _=>dK 9 30 aZ aZ) aZ) (λu=>bA 6 λz _=>C8 λI C=>Ab 4 [Pv 1,Pv 2,Pv 3,(36,.v (.clo 184 [] [.fptr (cells z)]))] (λD=>[Xb 1 B,Xb 2 (⟨0,0⟩:aY),(3,.box [iv 0])]) (λw=>Empty.elim w) (λw=>[Xb 1 B,Xb 2 w.1,(3,.box [iv w.2])]) (xI z I C) (λJ D=>pP 8 7 0 J.2 (wW 1 (bA 7 λQ _=>dK 9 44 aZ aZ))) (λD=>bA 5 λG _=>dK 17 54 (Vk 8 (λS=>(cK [Pv 2,Pv 3,(36,.v (.clo 184 [] [.fptr (cells z)])),Pv 10,Iv 11 G.2.2,Bv 54 false,Cv 58 B,Cv 59 S] [Xb 1 B,Xb 2 (⟨0,0⟩:aY),(3,.box [iv 0]),Xb 10 G.2.1])) λT _=>bA 0 λU _=>bB 13 63 aZ aZ) aZ) (λx=>Empty.elim x) (λw=>aZ)) (λu=>aZ))) aZ)))
def cH (B:Trace):Option Bool:=
 (gu B).bind λu=>
 some (u.2==0)
instance RU (B:Trace):Fc Sy cL (cH B):=Fc.M 82 [enc B] (ck 2 1 B (bA 6 λu _=>aZ))
def sw (B:Int):Option Bool:=
 (bp (B==2)
 (some true)
 (some (B==3)):Option Bool).bind λu=>
 (bp u
 (some true)
 (some (B==4)):Option Bool).bind λw=>
 some w
instance O7 (B:Int):Fc Sy cL (sw B):=Fc.M 159 [.int .i64 B] (b_ 10 3 [5] 8 (bB 10 5 (bt 3) (bt 3)) λu=>b_ 1 3 [0,9] 12 (bB 1 9 (bt 3) (bt 3)) λw=>aZ)
def jx (B:Pred):Option Bool:=
 (bp (decide (B.kind<1))
 (some true)
 (some (decide (B.kind>=22))):Option Bool).bind λz=>
 (bp z
 (some true)
 ((cq.at xT B.kind).bind λA=>
 some (!((len B.l)==A))):Option Bool).bind λC=>
 (bp C
 (some true)
 (some (decide (B.n<0))):Option Bool).bind λD=>
 (bp D
 (some true)
 (some (decide (B.n>1125899906842624))):Option Bool).bind λG=>
 (bp G
 (some true)
 ((bp (B.n==0)
 (some false)
 (some (!(B.kind==1))):Option Bool).bind λI=>
 some I):Option Bool).bind λJ=>
 bp J
 (some false)
 ((sw B.kind).bind λL=>
 (bp L
 (some true)
 ((bp (B.proc==0)
 (some (B.peer==0))
 (some false):Option Bool).bind λO=>
 (bp O
 (some (ByteArray.toList B.name==ByteArray.toList ByteArray.empty))
 (some false):Option Bool).bind λu=>
 some u):Option Bool).bind λw=>
 some w)
instance PL (B:Pred):Fc Sy cL (jx B):=Fc.M 119 [enc B] (ck 2 1 B (b_ 10 4 [6] 10 (bB 10 6 (bt 4) (bt 4)) λC=>b_ 1 9 [11] 20 (bB 1 11 (bt 9) (iB 2 13 (Pred.kD B.l) (cz 0 B.l (JV 2 .i64 λu w=>Je 0 1 false xT B.kind 0 u w (.int .i64 u) (by rfl) (bt 2))))) λD=>b_ 1 4 [21] 25 (bB 1 21 (bt 4) (bt 4)) λG=>b_ 1 4 [26] 30 (bB 1 26 (bt 4) (bt 4)) λI=>b_ 1 9 [31] 40 (bB 1 31 (bt 9) (b_ 4 4 [35] 39 (dK 4 35 (bt 4) (bt 4)) λJ=>bt 1)) λL=>bB 2 40 aZ (bA 7 λO _=>b_ 1 14 [1,44] 58 (bB 1 44 (bt 14) (b_ 4 4 [48] 52 (bB 4 48 (bt 4) (bt 4)) λQ=>b_ 1 4 [1,53] 57 (bB 1 53 (bt 4) (bt 4)) λz=>bt 1)) λA=>aZ)))
def gG (D:Pred) (G B:Int) (r:(Pred×Int×Int)->Option (Bool×Int)):Option (Bool×Int):=
 (r (D,IntKind.wrap .i64 (G+1),B)).bind λu=>
 some ((!u.1),u.2)
abbrev vm (r:(Pred×Int×Int)->Option (Bool×Int)) (hr:uR Sy cL 118 (λz:Pred×Int×Int=>[cv z.1,iv z.2.1,.ptr 9004 0,.ptr 9003 0]) (λz:Pred×Int×Int=>[(9004,bx (z.2.2:Int)),(9003,.box [.clo 118 [] [.ptr 9004 0,.ptr 9003 0]])]) (λr:Bool×Int=>[.bool r.1]) (λ(z:Pred×Int×Int) (r:Bool×Int)=>[(9004,bx (r.2:Int)),(9003,.box [.clo 118 [] [.ptr 9004 0,.ptr 9003 0]])]) r) (D:Pred) (G B:Int):mj Sy cL (gG D G B r):=mj.mk' 121 [cv D,.ptr 9003 0,.v (.fptr (cells G))] [(9003,.box [.clo 118 [] [.ptr 9004 0,.ptr 9003 0]]),(9004,bx (B:Int))] (λr:Bool×Int=>[.bool r.1]) (λr:Bool×Int=>[(9003,.box [.clo 118 [] [.ptr 9004 0,.ptr 9003 0]]),(9004,bx (r.2:Int))]) (ck 2 3 D (tj 9 (mj.of (D,IntKind.wrap .i64 (G+1),B) hr) λu _=>aZ))
section
variable {σ:Type} {gf:FuncId} {ex:List SV} {os:σ->c7} {p:Pred->σ->Option (Bool×σ)} (h:vw Sy cL (.clo gf [] ex) gf ex os p) (s0:Sl Pred) (x:σ)
abbrev tg:mj Sy cL (Nq s0 p x):=mj.mk' 160 [cv s0,(.clo gf [] ex)] (os x) (λr=>[.int .i64 r.1]) (λr=>os r.2)
 (cz 9 s0 (iI 5 (λq=>⟨[Cv 0 s0,(1,(.clo gf [] ex)),Iv 7 (len s0),Iv 8 q.1],os q.2,(os x).map (·.1),[],true,0⟩) (λe=>(0,⟨[],os e,(os x).map (·.1),[],true,0⟩)) (λe=>⟨[Iv 4 e.1],os e.2,(os x).map (·.1),[],true,0⟩)
  (λq=>bB 7 9 (cg 16 λy _=>Me 1 h y q.2 λr _=>bB 2 16 aZ aZ) aZ) (λe=>EG 9 h [.int .i64 (-1)] rfl) (λe=>Le.of_eq (G1 h (ys:=[.int .i64 e.1]) (by kernel_rfl) rfl)))) (hp:=λr=>h.wi x r.2)
abbrev tL:mj Sy cL (xy s0 p x):=mj.mk' 120 [cv s0,(.clo gf [] ex)] (os x) (λr=>[.bool r.1]) (λr=>os r.2)
 (IL 9 (tg h s0 x) (h.hd x (enc s0)) (λr=>h.put x r.2) λy _=>EG 5 h [.bool (decide (y.1>=0))] rfl) (hp:=λr=>h.wi x r.2)
end
section
variable {σ:Type} {gf:FuncId} {ex:List V} {os:σ->c7} {p:Pred->σ->Option (Bool×σ)} (h:vw Sy cL (.v (.clo gf [] ex)) gf (ex.map .v) os p) (s0:Sl Pred) (x:σ)
abbrev tF:mj Sy cL (Nq s0 p x):=mj.mk' 160 [cv s0,(.v (.clo gf [] ex))] (os x) (λr=>[.int .i64 r.1]) (λr=>os r.2)
 (cz 9 s0 (iI 5 (λq=>⟨[Cv 0 s0,(1,(.v (.clo gf [] ex))),Iv 7 (len s0),Iv 8 q.1],os q.2,(os x).map (·.1),[],true,0⟩) (λe=>(0,⟨[],os e,(os x).map (·.1),[],true,0⟩)) (λe=>⟨[Iv 4 e.1],os e.2,(os x).map (·.1),[],true,0⟩)
  (λq=>bB 7 9 (cg 16 λy _=>Me 1 h y q.2 λr _=>bB 2 16 aZ aZ) aZ) (λe=>EG 9 h [.int .i64 (-1)] rfl) (λe=>Le.of_eq (G1 h (ys:=[.int .i64 e.1]) (by kernel_rfl) rfl)))) (hp:=λr=>h.wi x r.2)
abbrev iF:mj Sy cL (xy s0 p x):=mj.mk' 120 [cv s0,(.v (.clo gf [] ex))] (os x) (λr=>[.bool r.1]) (λr=>os r.2)
 (IL 9 (tF h s0 x) (h.hd x (enc s0)) (λr=>h.put x r.2) λy _=>EG 5 h [.bool (decide (y.1>=0))] rfl) (hp:=λr=>h.wi x r.2)
end
def dV (G:Pred) (B D:Int) (r:(Pred×Int×Int)->Option (Bool×Int)):Option (Bool×Int):=
 (bp (decide ((IntKind.wrap .i64 (D-1))<0))
 (some true)
 (some (decide (B>20))):Option Bool).bind λw=>
 (bp w
 (some true)
 ((jx G).bind λz=>
 some (!z)):Option Bool).bind λA=>
 bp A
 (some (false,IntKind.wrap .i64 (D-1)))
 ((xy G.l (λx s=>gG x B s r) (IntKind.wrap .i64 (D-1))).bind λu=>
 some ((!u.1),u.2))
theorem vq (r:(Pred×Int×Int)->Option (Bool×Int)) (hr:uR Sy cL 118 (λz:Pred×Int×Int=>[cv z.1,iv z.2.1,.ptr 9004 0,.ptr 9003 0]) (λz:Pred×Int×Int=>[(9004,bx (z.2.2:Int)),(9003,.box [.clo 118 [] [.ptr 9004 0,.ptr 9003 0]])]) (λr:Bool×Int=>[.bool r.1]) (λ(z:Pred×Int×Int) (r:Bool×Int)=>[(9004,bx (r.2:Int)),(9003,.box [.clo 118 [] [.ptr 9004 0,.ptr 9003 0]])]) r) (D:Pred) (B G:Int):∀J,dV D B G r=some J->∃m',cL 118 [cv D,iv B,.ptr 9004 0,.ptr 9003 0] [(9004,bx (G:Int)),(9003,.box [.clo 118 [] [.ptr 9004 0,.ptr 9003 0]])]=some (((λr:Bool×Int=>[.bool r.1]) J).map .v,m')/\∀T,jM m' ([(9004,bx (G:Int)),(9003,.box [.clo 118 [] [.ptr 9004 0,.ptr 9003 0]])].map (·.1)) T=some (lG T ((λr:Bool×Int=>[(9004,bx (r.2:Int)),(9003,.box [.clo 118 [] [.ptr 9004 0,.ptr 9003 0]])]) J)):=
 (mj.mk' 118 [cv D,iv B,.ptr 9004 0,.ptr 9003 0] [(9004,bx (G:Int)),(9003,.box [.clo 118 [] [.ptr 9004 0,.ptr 9003 0]])] (λr:Bool×Int=>[.bool r.1]) (λr:Bool×Int=>[(9004,bx (r.2:Int)),(9003,.box [.clo 118 [] [.ptr 9004 0,.ptr 9003 0]])]) (ck 2 4 D (b_ 17 3 [11] 14 (bB 17 11 (bt 3) (bt 3)) λu=>b_ 1 4 [15] 19 (bB 1 15 (bt 4) (bA 1 λw _=>bt 2)) λA=>bB 2 19 aZ (iB 7 21 (Pred.kD D.l) (tj 2 (tL (vw.Vz (σ:=Int) (g:=121) (e:=[.ptr 9003 0,cp B]) (os:=λs=>[(9003,.box [.clo 118 [] [.ptr 9004 0,.ptr 9003 0]]),(9004,bx (s:Int))]) (p:=(λx s=>gG x B s r)) (λx s=>vm r hr x B s)) D.l (IntKind.wrap .i64 (G-1))) λC _=>aZ)))):mj Sy cL (dV D B G r)).h
def oJ (D:Pred) (B G:Int):Option (Bool×Int):=fG (λr (z:Pred×Int×Int)=>dV z.1 z.2.1 z.2.2 r) 100000 (D,B,G)
abbrev ya (D:Pred) (B G:Int):mj Sy cL (oJ D B G):=mj.of (D,B,G) (uR.fix (A:=λz:Pred×Int×Int=>[cv z.1,iv z.2.1,.ptr 9004 0,.ptr 9003 0]) (O:=λz:Pred×Int×Int=>[(9004,bx (z.2.2:Int)),(9003,.box [.clo 118 [] [.ptr 9004 0,.ptr 9003 0]])]) (E:=λr:Bool×Int=>[.bool r.1]) (M:=λ(z:Pred×Int×Int) (r:Bool×Int)=>[(9004,bx (r.2:Int)),(9003,.box [.clo 118 [] [.ptr 9004 0,.ptr 9003 0]])]) (b:=(λr (z:Pred×Int×Int)=>dV z.1 z.2.1 z.2.2 r)) (by kernel_rfl) (by kernel_rfl) (by kernel_rfl) (λr hr z=>vq r hr z.1 z.2.1 z.2.2) 100000)
def kg (B:Pred):Option Bool:=
 (oJ B 1 200).bind λu=>
 some u.1
instance MU (B:Pred):Fc Sy cL (kg B):=Fc.M 83 [enc B] (ck 2 1 B (tj 26 (ya B 1 200) λu _=>aZ))
def jb (B:Trace) (p1:Int):Option Bool:=
 (bp (decide (p1>=0))
 (some (decide (p1<(len B.procs))))
 (some false):Option Bool).bind λu=>
 some u
instance MY (B:Trace) (p1:Int):Fc Sy cL (jb B p1):=Fc.M 123 [enc B,.int .i64 p1] (ck 2 2 B (b_ 8 6 [1,2,7] 13 (bB 8 7 (cz 3 B.procs (bt 2)) (bt 6)) λu=>aZ))
def mq (B:Var) (D:ByteArray):Option Bool:=
 some (ByteArray.toList B.name==ByteArray.toList D)
instance KK (B:Var) (D:ByteArray):Fc Sy cL (mq B D):=Fc.M 162 [enc B,.fptr (cells D)] (aZ)
def oW (D:Trace) (p1:Int) (B:ByteArray):Option Bool:=
 (idx D.procs p1).bind λu=>
 (fT u.vars (λz=>mq z B)).bind λw=>
 some w
instance Np (D:Trace) (p1:Int) (B:ByteArray):Fc Sy cL (oW D p1 B):=Fc.M 124 [enc D,.int .i64 p1,.str B] (ck 2 3 D (cg 9 λu _=>dg (F:=nY 162 [.fptr (cells B)] (λz=>mq z B) kC.pV u.vars) 3 λw _=>aZ))
def jo (B:Pred) (D:Trace):Option Bool:=
 bp (B.kind==2)
 ((jb D B.proc).bind λA=>
 (bp A
 (some (B.peer==0))
 (some false):Option Bool).bind λC=>
 (bp C
 ((oW D B.proc B.name).bind λG=>
 some G)
 (some false):Option Bool).bind λI=>
 some I)
 (bp (B.kind==3)
 ((jb D B.proc).bind λJ=>
 (bp J
 (some (B.peer==0))
 (some false):Option Bool).bind λL=>
 (bp L
 (some (ByteArray.toList B.name==ByteArray.toList ByteArray.empty))
 (some false):Option Bool).bind λO=>
 some O)
 (bp (B.kind==4)
 ((jb D B.proc).bind λQ=>
 (bp Q
 ((jb D B.peer).bind λS=>
 some S)
 (some false):Option Bool).bind λu=>
 (bp u
 (some (!(B.proc==B.peer)))
 (some false):Option Bool).bind λw=>
 (bp w
 (some (ByteArray.toList B.name==ByteArray.toList ByteArray.empty))
 (some false):Option Bool).bind λz=>
 some z)
 (some true)))
instance HO (B:Pred) (D:Trace):Fc Sy cL (jo B D):=Fc.M 122 [enc B,.fptr (cells D)] (ck 2 2 B (bB 17 6 (bA 6 λA _=>b_ 1 4 [12] 16 (bB 1 12 (bt 4) (bt 4)) λC=>b_ 1 7 [1,2,17] 24 (bB 1 17 (bA 5 λG _=>bt 1) (bt 7)) λI=>aZ) (bB 7 25 (bA 6 λJ _=>b_ 1 4 [31] 35 (bB 1 31 (bt 4) (bt 4)) λL=>b_ 1 4 [2,36] 40 (bB 1 36 (bt 4) (bt 4)) λO=>aZ) (bB 7 41 (bA 6 λQ _=>b_ 1 5 [1,47] 52 (bB 1 47 (bA 3 λS _=>bt 1) (bt 5)) λu=>b_ 1 6 [53] 59 (bB 1 53 (bt 6) (bt 6)) λw=>b_ 1 4 [2,60] 64 (bB 1 60 (bt 4) (bt 4)) λz=>aZ) aZ))))
def qo (B:Pred) (p1:Pred->Option Bool) (r:Pred->Option Bool):Option Bool:=
 (r B).bind λu=>
 some (!u)
abbrev zy (g1:FuncId) (e1:List V) (p1:Pred->Option Bool) (h1:kC Sy cL g1 [] e1 (λz:Pred=>[enc z]) (λr:Bool=>[.bool r]) p1 true) (r:Pred->Option Bool) (hr:fK Sy cL 103 (λz:Pred=>[enc z,.clo g1 [] e1]) (λr:Bool=>[.bool r]) r true) (B:Pred):Fc Sy cL (qo B p1 r):=Fc.M 146 [enc B,.fptr [.clo g1 [] e1]] (ck 2 2 B (bA (F:=Fc.of B hr) 7 λu _=>aZ))
def h_ (D:Pred) (p1:Pred->Option Bool) (r:Pred->Option Bool):Option Bool:=
 (p1 D).bind λw=>
 (bp w
 ((xy D.l (λx u=>((λz=>qo z p1 r) x).map λb=>(b,u)) ()).bind λA=>
 some (!A.1))
 (some false):Option Bool).bind λB=>
 some B
theorem yE (g1:FuncId) (e1:List V) (p1:Pred->Option Bool) (h1:kC Sy cL g1 [] e1 (λz:Pred=>[enc z]) (λr:Bool=>[.bool r]) p1 true) (r:Pred->Option Bool) (hr:fK Sy cL 103 (λz:Pred=>[enc z,.clo g1 [] e1]) (λr:Bool=>[.bool r]) r true) (B:Pred):Le ((h_ B p1 r).bind λr=>some [.bool r]) (iG cL 103 [enc B,.clo g1 [] e1]):=
 (Fc.M 103 [enc B,.clo g1 [] e1] (ck 2 2 B (xe 8 h1.f B λw _=>Km 1 6 [] (λu=>(cK [Bv 14 u] [Xb 2 B])) (bB 1 8 (iB 2 10 (Pred.kD B.l) (tj 2 (iF (vw.Pu (g:=146) (e:=[.fptr [.clo g1 [] e1]]) (p:=(λz=>qo z p1 r)) (kC.pV (F:=λz=>zy g1 e1 p1 h1 r hr z))) B.l ()) λA _=>bt 2)) (bt 7)) λu=>aZ)):Fc Sy cL (h_ B p1 r)).F.h ()
def lM (B:Pred) (p1:Pred->Option Bool):Option Bool:=fG (λr (z:Pred)=>h_ z p1 r) 100000 B
abbrev rK (g1:FuncId) (e1:List V) (p1:Pred->Option Bool) (h1:kC Sy cL g1 [] e1 (λz:Pred=>[enc z]) (λr:Bool=>[.bool r]) p1 true) (B:Pred):Fc Sy cL (lM B p1):=Fc.of B (fK.fix (A:=λz:Pred=>[enc z,.clo g1 [] e1]) (E:=λr:Bool=>[.bool r]) (sc:=true) (b:=(λr (z:Pred)=>h_ z p1 r)) (by kernel_rfl) (λ_ _=>rfl) (λr hr z=>yE g1 e1 p1 h1 r hr z) 100000)
def mB (B:Trace) (p1:Pred):Option Bool:=
 (lM p1 (λz=>jo z B)).bind λu=>
 some u
instance KN (B:Trace) (p1:Pred):Fc Sy cL (mB B p1):=Fc.M 84 [enc B,enc p1] (ck 2 2 B (ck 0 3 p1 (dg (F:=rK 122 [.fptr (cells B)] (λz=>jo z B) kC.pV p1) 7 λu _=>aZ)))
def kj (B:Int):Option Int:=
 bp (decide (B<=8))
 (some 1)
 (some 2)
instance MW (B:Int):Fc Sy cL (kj B):=Fc.M 56 [.int .i64 B] (bB 12 4 aZ aZ)
def qi (B:Int):Option Int:=
 bp (decide (B<=12))
 (some 1)
 (some 2)
instance PU (B:Int):Fc Sy cL (qi B):=Fc.M 127 [.int .i64 B] (bB 12 4 aZ aZ)
def kM (B D:Pred):Option Bool:=
 (kj B.kind).bind λu=>
 (qi D.kind).bind λw=>
 some (!(u==w))
instance Ho (B D:Pred):Fc Sy cL (kM B D):=Fc.M 126 [enc B,.fptr (cells D)] (ck 2 2 B (dg 7 λu _=>dg 2 λw _=>aZ))
def g_ (B:Pred):Option Bool:=
 (xy B.l (λx u=>((λz=>kM z B) x).map λb=>(b,u)) ()).bind λw=>
 some (!w.1)
instance KL (B:Pred):Fc Sy cL (g_ B):=Fc.M 125 [enc B] (ck 2 1 B (iB 7 4 (Pred.kD B.l) (tj 2 (iF (vw.Pu (g:=126) (e:=[.fptr (cells B)]) (p:=(λz=>kM z B)) kC.pV) B.l ()) λu _=>aZ)))
def mQ (B:Pred):Option Bool:=
 (lM B (λz=>g_ z)).bind λu=>
 some u
instance OW (B:Pred):Fc Sy cL (mQ B):=Fc.M 85 [enc B] (ck 2 1 B (bA (F:=rK 125 [] (λz=>g_ z) kC.pV B) 6 λu _=>aZ))
namespace en
def dn (D:Sl Int) (B i4:Int):Option (Fw (Int×Int) Int Empty):=
 bp (decide (i4<(len D)))
 ((idx D i4).bind λu=>
 some (.n ((if u<B then u else B),IntKind.wrap .i64 (i4+1))))
 (some (.x B))
def W2 (B:Sl Int) (D i4:Int):Option Int:=
 (cE (λq:Int×Int=>dn B q.1 q.2) (D,i4)).bind (Fw.elim
 (λe=>some e)
 (λe=>Empty.elim e))
def J1 (B:Sl Int):Option Int:=
 (idx B 0).bind λu=>
 en.W2 B u 1
end en
def en (B:Sl Int):Option Int:=
 bp (decide ((len B)<1))
 (none)
 (en.J1 B)
open en in
instance Nj (B:Sl Int):Fc Sy cL (en B):=Fc.M 131 [enc B] (cz 9 B (bB 3 7 ((Le.none _)) (tN 4 (cg 3 λz _=>k9 12 (λu=>(cK [Cv 0 B,Iv 3 u.1,Iv 4 u.2] [])) (λw=>(0,(cK [Iv 3 w] []))) (λu=>cz 6 B (bB 3 15 (cg 9 λA _=>aZ) aZ)) (λw=>aZ)))))
namespace eo
def dn (D:Sl Int) (B i4:Int):Option (Fw (Int×Int) Int Empty):=
 bp (decide (i4<(len D)))
 ((idx D i4).bind λu=>
 some (.n ((if u>B then u else B),IntKind.wrap .i64 (i4+1))))
 (some (.x B))
def W2 (B:Sl Int) (D i4:Int):Option Int:=
 (cE (λq:Int×Int=>dn B q.1 q.2) (D,i4)).bind (Fw.elim
 (λe=>some e)
 (λe=>Empty.elim e))
def J1 (B:Sl Int):Option Int:=
 (idx B 0).bind λu=>
 eo.W2 B u 1
end eo
def eo (B:Sl Int):Option Int:=
 bp (decide ((len B)<1))
 (none)
 (eo.J1 B)
open eo in
instance N3 (B:Sl Int):Fc Sy cL (eo B):=Fc.M 132 [enc B] (cz 9 B (bB 3 7 ((Le.none _)) (tN 4 (cg 3 λz _=>k9 12 (λu=>(cK [Cv 0 B,Iv 3 u.1,Iv 4 u.2] [])) (λw=>(0,(cK [Iv 3 w] []))) (λu=>cz 6 B (bB 3 15 (cg 9 λA _=>aZ) aZ)) (λw=>aZ)))))
def kq (B:Sl Int):Option bL:=
 (en B).bind λu=>
 (eo B).bind λw=>
 some ⟨u,w⟩
instance PD (B:Sl Int):Fc Sy cL (kq B):=Fc.M 89 [enc B] (bA 8 λu _=>bA 1 λw _=>aZ)
namespace ez
def bK (T:Int) (D:Sl Event) (G:Int) (J B:Int):Option (Fw (Int×Int) Int Empty):=
 bp (decide (B<G))
 ((idx D B).bind λu=>
 (bp (u.kind==2)
 (some (u.peer==T))
 (some false):Option Bool).bind λw=>
 bp w
 (some (.n (IntKind.wrap .i64 (J+1),IntKind.wrap .i64 (B+1))))
 (some (.n (J,IntKind.wrap .i64 (B+1)))))
 (some (.x J))
def W1 (J T:Int) (B:Sl Event) (D G:Int):Option Int:=
 (cE (λq:Int×Int=>bK J B D q.1 q.2) (T,G)).bind (Fw.elim
 (λe=>some e)
 (λe=>Empty.elim e))
end ez
def ez (B:Trace) (p1 D:Int):Option Int:=
 (idx B.procs p1).bind λu=>
 ez.W1 D 0 u.events (len u.events) 0
open ez in
instance KJ (B:Trace) (p1 D:Int):Fc Sy cL (ez B p1 D):=Fc.M 129 [enc B,.int .i64 p1,.int .i64 D] (ck 2 3 B (cg 14 λu _=>cz 2 u.events (k9 5 (λw=>(cK [Iv 2 D,Iv 7 w.1,Cv 15 u.events,Iv 16 (len u.events),Iv 17 w.2] [])) (λz=>(0,(cK [Iv 7 z] []))) (λw=>bB 7 18 (cg 7 λA _=>pP 2 9 0 A (b_ 8 5 [9,24] 29 (bB 8 24 (bt 5) (bt 5)) λC=>bB 2 29 aZ aZ)) aZ) (λz=>aZ))))
def mo (B:Var) (D:ByteArray):Option Bool:=
 some (ByteArray.toList B.name==ByteArray.toList D)
instance KO (B:Var) (D:ByteArray):Fc Sy cL (mo B D):=Fc.M 201 [enc B,.fptr (cells D)] (aZ)
def sD (D:bM) (B:ByteArray):Option Int:=
 (eA D.vars (λz=>mo z B)).bind λu=>
 some u
instance NQ (D:bM) (B:ByteArray):Fc Sy cL (sD D B):=Fc.M 190 [enc D,.str B] (ck 2 2 D (dg (F:=l9 201 [.fptr (cells B)] (λz=>mo z B) kC.pV D.vars) 9 λu _=>aZ))
def pX (D:Trace) (p1:Int) (B:ByteArray):Option (Int×Int):=
 (cH D).bind λw=>
 bp w
 ((bp (decide (p1<0))
 (some true)
 (some (decide (p1>=(len D.procs)))):Option Bool).bind λz=>
 bp z
 (some (0,2))
 ((idx D.procs p1).bind λA=>
 (sD A B).bind λu=>
 bp (decide (u<0))
 (some (0,13))
 (some (u,0))))
 (some (0,1))
instance P8 (D:Trace) (p1:Int) (B:ByteArray):Fc Sy cL (pX D p1 B):=Fc.M 163 [enc D,.int .i64 p1,.str B] (ck 2 3 D (bA 9 λu _=>dK 4 9 (b_ 6 6 [16] 22 (bB 6 16 (bt 6) (cz 3 D.procs (bt 2))) λw=>bB 3 13 aZ (cg 9 λz _=>bA 2 λA _=>bB 10 31 aZ aZ)) aZ))
def eu (s0:Sl Int):Option (Sl Int):=
 (Sl.isNil s0).bind λu=>
 bp u
 (some Sl.nil)
 ((ve (Sl.row []:Sl Int) s0).bind λw=>
 some w)
theorem kf:yD Sy cL 168 (λs0:Sl Int=>[enc s0]) (λz=>eu z):=yD.mk' (pU (Tx 168)) (λs0=>SX 9 λu _=>bB 2 4 aZ (MO 7 5 7 λw _=>aZ))
def lV (B:bM):Option bM:=
 some B
instance MV (B:bM):Fc Sy cL (lV B):=Fc.NE (λr:bM=>[(.clo 179 [] [.fptr (cells r)])]) 145 [enc B] (ck 2 1 B aZ)
namespace eY
def jt (D:bM) (G:Int) (x:Int×(Sl Int)) (B:Sl Int):Option (Fw (Sl Int) Empty Empty):=
 (idx x.2 G).bind λu=>
 (fZ B (u:Int)).bind λw=>
 some (.n w)
def E1 (B:bM) (G:Int) (D:Sl Int):Option (Sl Int):=
 (iw B).bind λu=>(jC (λ(x:Int×(Sl Int)) (q:Sl Int)=>jt B G x q) u D).bind (Fw.o5
 (λq=>some q)
 (λe=>Empty.elim e)
 (λe=>Empty.elim e))
end eY
def eY (B:bM) (i1:Int):Option (Sl Int):=
 (lV B).bind λu=>
 eY.E1 u i1 (Sl.nil:Sl Int)
open eY in
instance M0 (B:bM) (i1:Int):Fc Sy cL (eY B i1):=Fc.N 164 [enc B,.int .i64 i1] (ck 2 2 B (bA 13 λz _=>C8 λC A=>Ab 5 [Pv 3,Pv 5,(9,.v (.clo 179 [] [.fptr (cells z)]))] (λu=>[(3,.box [iv i1]),(5,.box [.own 4100]),Lb 4100 u]) (λw=>Empty.elim w) (λw=>Empty.elim w) (Dp z C A) (λD u=>wW 3 (cg 7 λG _=>qq 2 4100 17 18 λI _=>aZ)) (λu=>aZ) (λx=>Empty.elim x) (λx=>Empty.elim x)))
def o_ (D:Trace) (p1:Int) (B:ByteArray):Option (Int×Int×Int):=
 (pX D p1 B).bind λu=>
 bp (u.2==0)
 ((idx D.procs p1).bind λz=>
 (eY z u.1).bind λw=>
 (en w).bind λA=>
 (eo w).bind λC=>
 some (A,C,0))
 (some (0,0,u.2))
instance Nx (D:Trace) (p1:Int) (B:ByteArray):Fc Sy cL (o_ D p1 B):=Fc.M 130 [enc D,.int .i64 p1,.str B] (ck 2 3 D (bA 10 λu _=>dK 14 19 (cg 8 λw _=>bA 2 λz _=>bA 6 λA _=>bA 1 λC _=>aZ) aZ))
def ku (B:Trace) (p1:Pred):Option bL:=
 bp (p1.kind==1)
 ((kq (Sl.row [p1.n]:Sl Int)).bind λw=>
 some w)
 (bp (p1.kind==3)
 ((idx B.procs p1.proc).bind λz=>
 some ⟨0,len z.events⟩)
 (bp (p1.kind==4)
 ((ez B p1.proc p1.peer).bind λA=>
 some ⟨0,A⟩)
 ((o_ B p1.proc p1.name).bind λu=>
 some ⟨u.1,u.2.1⟩)))
instance Pz (B:Trace) (p1:Pred):Fc Sy cL (ku B p1):=Fc.M 87 [enc B,enc p1] (ck 2 2 B (ck 0 3 p1 (bB 17 10 (dg 6 λw _=>aZ) (bB 7 16 (cg 7 λu _=>cz 2 u.events aZ) (bB 7 27 (bA 8 λz _=>aZ) (bA 11 λA _=>aZ))))))
def gW (B:bL):Option Bool:=
 (bp (decide (B.low<(-1125899906842624)))
 (some true)
 (some (decide (B.high>1125899906842624))):Option Bool).bind λu=>
 some u
instance EC (B:bL):Fc Sy cL (gW B):=Fc.M 88 [enc B] (b_ 12 4 [1,6] 10 (bB 12 6 (bt 4) (bt 4)) λu=>aZ)
def rq (a0:Int):Option Int:=
 some (if(IntKind.wrap .i64 (0-a0))>a0 then(IntKind.wrap .i64 (0-a0))else a0)
instance QC (a0:Int):Fc Sy cL (rq a0):=Fc.M 133 [.int .i64 a0] (aZ)
def iN (a0 B:Int):Option Int:=
 (bp (a0==0)
 (some true)
 (some (B==0)):Option Bool).bind λu=>
 bp u
 (some 0)
 ((rq a0).bind λw=>
 (rq B).bind λz=>
 (zd .i64 1125899906842624 z).bind λA=>
 bp (decide (w>A))
 (bp ((decide (a0<0))==(decide (B<0)))
 (some 1125899906842625)
 (some (IntKind.wrap .i64 (0-1125899906842625))))
 (some (IntKind.wrap .i64 (a0*B))))
instance Mb (a0 B:Int):Fc Sy cL (iN a0 B):=Fc.M 90 [.int .i64 a0,.int .i64 B] (b_ 11 3 [8] 11 (bB 11 8 (bt 3) (bt 3)) λu=>bB 2 11 aZ (bA 15 λw _=>bA 1 λz _=>U_ 0 λA _=>bB 3 20 (dK 15 25 aZ aZ) aZ))
namespace c_
def J2 (D B:bL) (r:(Trace×Pred)->Option (bL×Bool)):Option (bL×Bool):=
 (gW B).bind λu=>
 some (B,(!u))
def J1 (U T:Bool) (J:Pred) (G B D:bL) (r:(Trace×Pred)->Option (bL×Bool)):Option (bL×Bool):=
 (bp U
 (some (!T))
 (some true):Option Bool).bind λA=>
 bp A
 (some (⟨0,0⟩,false))
 (bp (J.kind==5)
 (c_.J2 G (⟨IntKind.wrap .i64 (0-B.high),IntKind.wrap .i64 (0-B.low)⟩:bL) r)
 (bp (J.kind==6)
 (c_.J2 G (⟨IntKind.wrap .i64 (B.low+D.low),IntKind.wrap .i64 (B.high+D.high)⟩:bL) r)
 (bp (J.kind==7)
 (c_.J2 G (⟨IntKind.wrap .i64 (B.low-D.high),IntKind.wrap .i64 (B.high-D.low)⟩:bL) r)
 ((iN B.low D.low).bind λC=>
 (iN B.low D.high).bind λI=>
 (iN B.high D.low).bind λu=>
 (iN B.high D.high).bind λw=>
 (kq (Sl.row [C,I,u,w]:Sl Int)).bind λz=>
 c_.J2 G z r))))
theorem jd (r:(Trace×Pred)->Option (bL×Bool)) (hr:fK Sy cL 57 (λz:Trace×Pred=>[enc z.1,enc z.2]) (λr:bL×Bool=>[enc r.1,.bool r.2]) r true) (D B:Bool) (G:Pred) (J T U:bL):Le ((J1 D B G J T U r).bind (λr=>some [enc r.1,.bool r.2])) (bX Sy cL (nk (tr Tx 57)) (oF (tb Tx 57) [1,1,1,1,1,0] [] (cK [Pv 3,Pv 4,Pv 7,Bv 8 D,Pv 9,Bv 10 B] [Xb 3 G,Xb 4 J,Xb 7 T,Xb 9 U]))):=
 b_ 6 3 [10,48] 51 (dK 6 48 (bt 3) (bt 3)) λI=>bB 2 51 aZ (bB 22 77 (tN 14 (dg 4 λu _=>aZ)) (bB 7 86 (tN 18 (dg 4 λu _=>aZ)) (bB 7 99 (tN 18 (dg 4 λu _=>aZ)) (dg 6 λL _=>dg 4 λO _=>dg 4 λw _=>dg 4 λA _=>dg 1 λC _=>tN 5 (dg 4 λu _=>aZ)))))
end c_
def fu (B:Trace) (p1:Pred) (r:(Trace×Pred)->Option (bL×Bool)):Option (bL×Bool):=
 bp ((len p1.l)==0)
 ((ku B p1).bind λw=>
 (gW w).bind λA=>
 some (w,(!A)))
 ((idx p1.l 0).bind λC=>
 (r (B,C)).bind λu=>
 bp ((len p1.l)==2)
 ((idx p1.l 1).bind λD=>
 (r (B,D)).bind λz=>
 c_.J1 u.2 z.2 p1 (⟨0,0⟩:bL) u.1 z.1 r)
 (c_.J1 u.2 true p1 (⟨0,0⟩:bL) u.1 u.1 r))
open c_ in
theorem xw (r:(Trace×Pred)->Option (bL×Bool)) (hr:fK Sy cL 57 (λz:Trace×Pred=>[enc z.1,enc z.2]) (λr:bL×Bool=>[enc r.1,.bool r.2]) r true) (B:Trace) (p1:Pred):Le ((fu B p1 r).bind λr=>some [enc r.1,.bool r.2]) (iG cL 57 [enc B,enc p1]):=
 (Fc.M 57 [enc B,enc p1] (ck 2 2 B (ck 0 3 p1 (iB 9 13 (Pred.kD p1.l) (cz 0 p1.l (bB 3 15 (bA 5 λD _=>dg 8 λG _=>aZ) (iB 8 26 (Pred.kD p1.l) (cg 0 λA _=>dg (F:=Fc.of (B,A) hr) 1 λu _=>iB 21 34 (Pred.kD p1.l) (cz 0 p1.l (bB 3 36 (iB 5 40 (Pred.kD p1.l) (cg 0 λC _=>dg (F:=Fc.of (B,C) hr) 1 λw _=>nq 8 (jd r hr u.2 w.2 p1 (⟨0,0⟩:bL) u.1 w.1))) (nq 4 (jd r hr u.2 true p1 (⟨0,0⟩:bL) u.1 u.1))))))))))):Fc Sy cL (fu B p1 r)).F.h ()
def c_ (B:Trace) (p1:Pred):Option (bL×Bool):=fG (λr (z:Trace×Pred)=>fu z.1 z.2 r) 100000 (B,p1)
instance MS (B:Trace) (p1:Pred):Fc Sy cL (c_ B p1):=Fc.of (B,p1) (fK.fix (A:=λz:Trace×Pred=>[enc z.1,enc z.2]) (E:=λr:bL×Bool=>[enc r.1,.bool r.2]) (sc:=true) (b:=(λr (z:Trace×Pred)=>fu z.1 z.2 r)) (by kernel_rfl) (λ_ _=>rfl) (λr hr z=>xw r hr z.1 z.2) 100000)
def mm (B:Pred) (D:Trace) (r:(Trace×Pred)->Option Bool):Option Bool:=
 (r (D,B)).bind λu=>
 some (!u)
abbrev yo (r:(Trace×Pred)->Option Bool) (hr:fK Sy cL 86 (λz:Trace×Pred=>[enc z.1,enc z.2]) (λr:Bool=>[.bool r]) r true) (B:Pred) (D:Trace):Fc Sy cL (mm B D r):=Fc.M 128 [enc B,.fptr (cells D)] (ck 2 2 B (bA (F:=Fc.of (D,B) hr) 7 λu _=>aZ))
def fU (D:Trace) (p1:Pred) (r:(Trace×Pred)->Option Bool):Option Bool:=
 (kj p1.kind).bind λw=>
 bp (w==1)
 ((c_ D p1).bind λA=>
 some A.2)
 ((xy p1.l (λx u=>((λz=>mm z D r) x).map λb=>(b,u)) ()).bind λB=>
 some (!B.1))
theorem yp (r:(Trace×Pred)->Option Bool) (hr:fK Sy cL 86 (λz:Trace×Pred=>[enc z.1,enc z.2]) (λr:Bool=>[.bool r]) r true) (B:Trace) (p1:Pred):Le ((fU B p1 r).bind λr=>some [.bool r]) (iG cL 86 [enc B,enc p1]):=
 (Fc.M 86 [enc B,enc p1] (ck 2 2 B (ck 0 3 p1 (bA 8 λu _=>bB 3 10 (bA 5 λw _=>aZ) (iB 7 19 (Pred.kD p1.l) (tj 2 (iF (vw.Pu (g:=128) (e:=[.fptr (cells B)]) (p:=(λz=>mm z B r)) (kC.pV (F:=λz=>yo r hr z B))) p1.l ()) λA _=>aZ))))):Fc Sy cL (fU B p1 r)).F.h ()
def sF (B:Trace) (p1:Pred):Option Bool:=fG (λr (z:Trace×Pred)=>fU z.1 z.2 r) 100000 (B,p1)
instance Pg (B:Trace) (p1:Pred):Fc Sy cL (sF B p1):=Fc.of (B,p1) (fK.fix (A:=λz:Trace×Pred=>[enc z.1,enc z.2]) (E:=λr:Bool=>[.bool r]) (sc:=true) (b:=(λr (z:Trace×Pred)=>fU z.1 z.2 r)) (by kernel_rfl) (λ_ _=>rfl) (λr hr z=>yp r hr z.1 z.2) 100000)
def iR (B:Trace) (p1:Pred):Option Int:=
 (cH B).bind λu=>
 (bp u
 ((kg p1).bind λw=>
 some (!w))
 (some true):Option Bool).bind λz=>
 bp z
 (some 1)
 ((mB B p1).bind λA=>
 bp A
 ((mQ p1).bind λC=>
 bp C
 ((sF B p1).bind λD=>
 bp D
 (some 0)
 (some 9))
 (some 14))
 (some 13))
instance Ou (B:Trace) (p1:Pred):Fc Sy cL (iR B p1):=Fc.M 55 [enc B,enc p1] (ck 2 2 B (ck 0 3 p1 (bA 8 λu _=>b_ 2 4 [9] 13 (dK 2 9 (bA 1 λw _=>bt 2) (bt 4)) λz=>bB 3 5 aZ (bA 5 λA _=>dK 4 14 (bA 4 λC _=>dK 4 19 (bA 5 λD _=>dK 4 23 aZ aZ) aZ) aZ))))
def qc (B:Pred):Option (Int×Int):=
 (kg B).bind λu=>
 bp u
 ((mQ B).bind λw=>
 bp w
 ((kj B.kind).bind λz=>
 some (z,0))
 (some (0,14)))
 (some (0,1))
instance PT (B:Pred):Fc Sy cL (qc B):=Fc.M 102 [enc B] (ck 2 1 B (bA 9 λu _=>dK 4 4 (bA 4 λw _=>dK 4 8 (bA 8 λz _=>aZ) aZ) aZ))
def jK (D:Pred) (B:Int):Option Int:=
 (qc D).bind λu=>
 (bp (u.2==0)
 (some (!(u.1==B)))
 (some true):Option Bool).bind λw=>
 bp w
 (some 14)
 (some 0)
instance Ns (D:Pred) (B:Int):Fc Sy cL (jK D B):=Fc.M 69 [enc D,.int .i64 B] (ck 2 2 D (bA 7 λu _=>b_ 12 4 [1,5,14] 18 (dK 12 14 (bt 4) (bt 4)) λw=>bB 2 18 aZ aZ))
def mC (B:Pred) (D:Int) (r:(Int×Pred)->Option Bool):Option Bool:=
 (r (D,B)).bind λu=>
 some (!u)
abbrev yq (r:(Int×Pred)->Option Bool) (hr:fK Sy cL 96 (λz:Int×Pred=>[.int .i64 z.1,enc z.2]) (λr:Bool=>[.bool r]) r true) (B:Pred) (D:Int):Fc Sy cL (mC B D r):=Fc.M 140 [enc B,.fptr (cells D)] (ck 2 2 B (bA (F:=Fc.of (D,B) hr) 7 λu _=>aZ))
namespace dS
def J2 (G:Bool) (B:Int) (D:Pred) (r:(Int×Pred)->Option Bool):Option Bool:=
 bp G
 (some (D.proc==B))
 ((xy D.l (λx u=>((λz=>mC z B r) x).map λb=>(b,u)) ()).bind λw=>
 some (!w.1))
def J1 (G:Int) (J:Bool) (B:Int) (D:Pred) (r:(Int×Pred)->Option Bool):Option Bool:=
 bp J
 (some false)
 (bp (G==2)
 (dS.J2 true B D r)
 (dS.J2 (G==3) B D r))
theorem Pk (r:(Int×Pred)->Option Bool) (hr:fK Sy cL 96 (λz:Int×Pred=>[.int .i64 z.1,enc z.2]) (λr:Bool=>[.bool r]) r true) (G:Bool) (B:Int) (D:Pred):Le ((J2 G B D r).bind (λr=>some [.bool r])) (bX Sy cL (nk (tr Tx 96)) (oF (tb Tx 96) [1,0,1,0,1,0,1,1,0] [] (cK [Pv 2,Pv 3,Bv 13 G] [(2,.box [iv B]),Xb 3 D]))):=
 bB 0 13 aZ (iB 8 21 (Pred.kD D.l) (tj 2 (iF (vw.Pu (g:=140) (e:=[.fptr (cells B)]) (p:=(λz=>mC z B r)) (kC.pV (F:=λz=>yq r hr z B))) D.l ()) λu _=>aZ))
theorem jd (r:(Int×Pred)->Option Bool) (hr:fK Sy cL 96 (λz:Int×Pred=>[.int .i64 z.1,enc z.2]) (λr:Bool=>[.bool r]) r true) (G:Int) (J:Bool) (B:Int) (D:Pred):Le ((J1 G J B D r).bind (λr=>some [.bool r])) (bX Sy cL (nk (tr Tx 96)) (oF (tb Tx 96) [1,0,1,0,1,0] [] (cK [Pv 2,Pv 3,Iv 6 G,Bv 7 J] [(2,.box [iv B]),Xb 3 D]))):=
 bB 0 7 aZ (bB 8 13 (nq 4 (Pk r hr true B D)) (nq 7 (Pk r hr (G==3) B D)))
end dS
def fW (B:Int) (p1:Pred) (r:(Int×Pred)->Option Bool):Option Bool:=
 bp (p1.kind==4)
 (dS.J1 p1.kind true B p1 r)
 (bp (p1.kind==18)
 (dS.J1 p1.kind true B p1 r)
 (bp (p1.kind==19)
 (dS.J1 p1.kind true B p1 r)
 (bp (p1.kind==20)
 (dS.J1 p1.kind true B p1 r)
 (dS.J1 p1.kind (p1.kind==21) B p1 r))))
open dS in
theorem ym (r:(Int×Pred)->Option Bool) (hr:fK Sy cL 96 (λz:Int×Pred=>[.int .i64 z.1,enc z.2]) (λr:Bool=>[.bool r]) r true) (B:Int) (p1:Pred):Le ((fW B p1 r).bind λr=>some [.bool r]) (iG cL 96 [.int .i64 B,enc p1]):=
 (Fc.M 96 [.int .i64 B,enc p1] (ck 3 3 p1 (bB 18 7 (nq 4 (jd r hr p1.kind true B p1)) (bB 7 7 (nq 4 (jd r hr p1.kind true B p1)) (bB 7 7 (nq 4 (jd r hr p1.kind true B p1)) (bB 7 7 (nq 4 (jd r hr p1.kind true B p1)) (nq 7 (jd r hr p1.kind (p1.kind==21) B p1))))))):Fc Sy cL (fW B p1 r)).F.h ()
def dS (B:Int) (p1:Pred):Option Bool:=fG (λr (z:Int×Pred)=>fW z.1 z.2 r) 100000 (B,p1)
instance NO (B:Int) (p1:Pred):Fc Sy cL (dS B p1):=Fc.of (B,p1) (fK.fix (A:=λz:Int×Pred=>[.int .i64 z.1,enc z.2]) (E:=λr:Bool=>[.bool r]) (sc:=true) (b:=(λr (z:Int×Pred)=>fW z.1 z.2 r)) (by kernel_rfl) (λ_ _=>rfl) (λr hr z=>ym r hr z.1 z.2) 100000)
def pq (D:Trace) (B J:Int) (p3:Pred):Option Int:=
 (iR D p3).bind λu=>
 bp (u==0)
 ((bp (decide (B<0))
 (some true)
 (some (decide (B>=(len D.procs)))):Option Bool).bind λz=>
 (bp z
 (some true)
 (some (decide (J<0))):Option Bool).bind λA=>
 (bp A
 (some true)
 ((idx D.procs B).bind λC=>
 some (decide (J>(len C.events)))):Option Bool).bind λG=>
 bp G
 (some 2)
 ((jK p3 2).bind λw=>
 bp (w==0)
 ((dS B p3).bind λI=>
 bp I
 (some 0)
 (some 15))
 (some w)))
 (some u)
instance Oh (D:Trace) (B G:Int) (p3:Pred):Fc Sy cL (pq D B G p3):=Fc.M 62 [enc D,.int .i64 B,.int .i64 G,enc p3] (ck 2 4 D (ck 0 7 p3 (bA 8 λw _=>dK 9 15 (b_ 9 6 [19] 25 (bB 9 19 (bt 6) (cz 3 D.procs (bt 2))) λz=>b_ 1 3 [26] 29 (bB 1 26 (bt 3) (bt 3)) λA=>b_ 1 10 [2,4,30] 40 (bB 1 30 (bt 10) (cg 4 λu _=>cz 2 u.events (bt 2))) λC=>bB 2 40 aZ (bA 7 λI _=>dK 9 44 (bA 8 λJ _=>dK 3 49 aZ aZ) aZ)) aZ)))
namespace eD
def jt (B:bM) (D:Int) (x:Int×(Sl Int)) (G:Sl Int):Option (Fw (Sl Int) Empty (Sl Int)):=
 bp (x.1==D)
 (some (.r x.2))
 (some (.n (Sl.nil:Sl Int)))
def E1 (B:bM) (D:Int) (G:Sl Int):Option (Sl Int):=
 (iw B).bind λu=>(jC (λ(x:Int×(Sl Int)) (q:Sl Int)=>jt B D x q) u G).bind (Fw.o5
 (λq=>some Sl.nil)
 (λe=>Empty.elim e)
 (λe=>some e))
end eD
def eD (B:bM) (k1:Int):Option (Sl Int):=
 (lV B).bind λu=>
 eD.E1 u k1 (Sl.nil:Sl Int)
open eD in
instance Pc (B:bM) (k1:Int):Fc Sy cL (eD B k1):=Fc.N 101 [enc B,.int .i64 k1] (ck 2 2 B (bA 8 λw _=>C8 λC z=>Ab 4 [Pv 3,Pv 4,(8,.v (.clo 179 [] [.fptr (cells w)]))] (λA=>[(3,.box [iv k1]),(4,.box [.v .bE])]) (λu=>Empty.elim u) (λu=>[(3,.box [iv k1]),(4,.box [cv u])]) (Dp w C z) (λD A=>wW 8 (bB 9 13 (pP 4 4 0 D.2 aZ) aZ)) (λA=>aZ) (λx=>Empty.elim x) (λu=>aZ)))
def pn (B:Trace) (p1 D:Int):Option ((Sl Int)×Int):=
 (cH B).bind λu=>
 bp u
 ((bp (decide (p1<0))
 (some true)
 (some (decide (p1>=(len B.procs)))):Option Bool).bind λw=>
 (bp w
 (some true)
 (some (decide (D<0))):Option Bool).bind λz=>
 (bp z
 (some true)
 ((idx B.procs p1).bind λA=>
 some (decide (D>(len A.events)))):Option Bool).bind λC=>
 bp C
 (some (Sl.nil,2))
 ((idx B.procs p1).bind λG=>
 (eD G D).bind λI=>
 some (I,0)))
 (some (Sl.nil,1))
instance M_ (B:Trace) (p1 D:Int):Fc Sy cL (pn B p1 D):=Fc.N 97 [enc B,.int .i64 p1,.int .i64 D] (ck 2 3 B (bA 9 λw _=>dK 4 8 (b_ 6 6 [15] 21 (bB 6 15 (bt 6) (cz 3 B.procs (bt 2))) λz=>b_ 1 3 [22] 25 (bB 1 22 (bt 3) (bt 3)) λA=>b_ 1 10 [26] 36 (bB 1 26 (bt 10) (cg 4 λu _=>cz 2 u.events (bt 2))) λC=>bB 3 12 aZ (cg 9 λG _=>bA 2 λI _=>aZ)) aZ))
def iV (B:Var) (D:Pred):Option Bool:=
 some (ByteArray.toList B.name==ByteArray.toList D.name)
instance D2 (B:Var) (D:Pred):Fc Sy cL (iV B D):=Fc.M 107 [enc B,.fptr (cells D)] (aZ)
def jP (D:br) (p1:Pred):Option Int:=
 (idx D.t.procs p1.proc).bind λu=>
 (eA u.vars (λz=>iV z p1)).bind λw=>
 (idx D.values p1.proc).bind λA=>
 (idx A w).bind λB=>
 some B
instance ER (B:br) (p1:Pred):Fc Sy cL (jP B p1):=Fc.M 71 [enc B,enc p1] (ck 2 2 B (ck 0 3 p1 (cg 10 λu _=>dg (F:=l9 107 [.fptr (cells p1)] (λz=>iV z p1) kC.pV u.vars) 3 λw _=>cg 9 λA _=>cg 2 λC _=>aZ)))
def mJ (B:Sl Int) (D:Trace):Option Bool:=
 some (!((len B)==(len D.procs)))
instance Rx (B:Sl Int) (D:Trace):Fc Sy cL (mJ B D):=Fc.M 195 [enc B,.fptr (cells D)] (cz 8 B (cz 2 D.procs aZ))
namespace fE
def bK (s0:Sl (Sl Int)) (D:Int) (B:Int) (p1:(Sl Int)->Option Bool):Option (Fw Int Unit Int):=
 bp (decide (B<D))
 ((idx s0 B).bind λu=>
 (p1 u).bind λw=>
 bp w
 (some (.r B))
 (some (.n (IntKind.wrap .i64 (B+1)))))
 (some (.x ()))
def W1 (s0:Sl (Sl Int)) (B D:Int) (p1:(Sl Int)->Option Bool):Option Int:=
 (cE (λq:Int=>bK s0 B q p1) D).bind (Fw.elim
 (λe=>some (-1))
 (λe=>some e))
end fE
def fE (s0:Sl (Sl Int)) (p1:(Sl Int)->Option Bool):Option Int:=
 fE.W1 s0 (len s0) 0 p1
open fE in
abbrev vn (g1:FuncId) (e1:List V) (p1:(Sl Int)->Option Bool) (h1:kC Sy cL g1 [] e1 (λz:Sl Int=>[enc z]) (λr:Bool=>[.bool r]) p1 true) (s0:Sl (Sl Int)):Fc Sy cL (fE s0 p1):=Fc.M 213 [enc s0,.clo g1 [] e1] (cz 9 s0 (iI 5 (λw=>(cK [Cv 0 s0,(1,.v (.clo g1 [] e1)),Iv 7 (len s0),Iv 8 w] [])) (λu=>(0,(cK [] []))) (λu=>(cK [Iv 4 u] [])) (λw=>bB 7 9 (cg 16 λA _=>xe 1 h1.f A λB _=>bB 2 16 aZ aZ) aZ) (λu=>aZ) (λu=>aZ)))
def jc (s0:Sl (Sl Int)) (p1:(Sl Int)->Option Bool):Option Bool:=
 (fE s0 p1).bind λu=>
 some (decide (u>=0))
abbrev tP (g1:FuncId) (e1:List V) (p1:(Sl Int)->Option Bool) (h1:kC Sy cL g1 [] e1 (λz:Sl Int=>[enc z]) (λr:Bool=>[.bool r]) p1 true) (s0:Sl (Sl Int)):Fc Sy cL (jc s0 p1):=Fc.M 194 [enc s0,.clo g1 [] e1] (bA (F:=vn g1 e1 p1 h1 s0) 9 λu _=>aZ)
def za (B:Trace) (D:Sl (Sl Int)):Option Bool:=
 (cH B).bind λu=>
 (bp u
 ((jc D (λz=>mJ z B)).bind λw=>
 some (!w))
 (some false):Option Bool).bind λA=>
 some A
instance TC (B:Trace) (D:Sl (Sl Int)):Fc Sy cL (za B D):=Fc.M 175 [enc B,enc D] (ck 2 2 B (bA 6 λu _=>b_ 1 5 [1,2,7] 12 (bB 1 7 (dg (F:=tP 195 [.fptr (cells B)] (λz=>mJ z B) kC.pV D) 2 λw _=>bt 2) (bt 5)) λA=>aZ))
namespace iZ
def bK (G:Sl Int) (J:Int) (D:Trace) (B:Int):Option (Fw Int Unit Unit):=
 bp (decide (B<J))
 ((idx G B).bind λu=>
 (bp (decide (u<0))
 (some true)
 ((idx D.procs B).bind λw=>
 some (decide (u>(len w.events)))):Option Bool).bind λz=>
 bp z
 (some (.r ()))
 (some (.n (IntKind.wrap .i64 (B+1)))))
 (some (.x ()))
def W1 (D:Sl Int) (G J:Int) (B:Trace):Option Bool:=
 (cE (λq:Int=>bK D G B q) J).bind (Fw.elim
 (λe=>some true)
 (λe=>some false))
end iZ
def iZ (D:Trace) (B:Sl Int):Option Bool:=
 iZ.W1 B (len B) 0 D
open iZ in
instance R3 (D:Trace) (B:Sl Int):Fc Sy cL (iZ D B):=Fc.M 176 [enc D,enc B] (ck 2 2 D (cz 7 B (iI 5 (λw=>(cK [Pv 2,Cv 7 B,Iv 8 (len B),Iv 9 w] [Xb 2 D])) (λu=>(0,(cK [] []))) (λu=>(cK [Bv 4 false] [])) (λw=>bB 7 10 (cg 8 λA _=>b_ 10 10 [5,6,16] 26 (bB 10 16 (bt 10) (cg 4 λz _=>cz 2 z.events (bt 2))) λC=>bB 2 26 aZ aZ) aZ) (λu=>aZ) (λu=>aZ))))
def Ak (B:Trace) (p1:Int):Option Bool:=
 (bp (decide (p1>=0))
 (some (decide (p1<(len B.procs))))
 (some false):Option Bool).bind λu=>
 some u
instance R1 (B:Trace) (p1:Int):Fc Sy cL (Ak B p1):=Fc.M 177 [enc B,.int .i64 p1] (ck 2 2 B (b_ 8 6 [1,2,7] 13 (bB 8 7 (cz 3 B.procs (bt 2)) (bt 6)) λu=>aZ))
namespace jQ
def jt (D:Trace) (B G:Int) (J:aY) (T:Bool) (x:aY×Event):Option (Fw Unit Empty aY):=
 (bp (x.2.kind==B)
 (some (x.2.message==G))
 (some false):Option Bool).bind λu=>
 bp u
 (some (.r x.1))
 (some (.n ()))
def E1 (B:Trace) (D G:Int) (J:aY) (T:Bool):Option (aY×Bool):=
 (iC B).bind λu=>(jC (λ(x:aY×Event) (q:Unit)=>jt B D G J T x) u ()).bind (Fw.o5
 (λq=>some (⟨0,0⟩,false))
 (λe=>Empty.elim e)
 (λe=>some (e,true)))
end jQ
def jQ (D:Trace) (B G:Int):Option (aY×Bool):=
 (cH D).bind λu=>
 bp u
 ((jk D).bind λw=>
 jQ.E1 w B G (⟨0,0⟩:aY) false)
 (some (⟨0,0⟩,false))
open jQ in
instance SL (G:Trace) (B D:Int):Fc Sy cL (jQ G B D):=Fc.M 180 [enc G,.int .i64 B,.int .i64 D] (ck 2 3 G (bA 10 λJ _=>dK 3 12 (bA 7 λw _=>C8 λC z=>Ab 4 [Pv 4,Pv 5,Pv 6,Pv 7,(15,.v (.clo 184 [] [.fptr (cells w)]))] (λA=>[(4,.box [iv B]),(5,.box [iv D]),Xb 6 (⟨0,0⟩:aY),(7,.box [bv false])]) (λu=>Empty.elim u) (λu=>[(4,.box [iv B]),(5,.box [iv D]),Xb 6 u,(7,.box [bv true])]) (xI w C z) (λI A=>pP 8 9 0 I.2 (wW 1 (b_ 9 5 [9,22] 27 (bB 9 22 (bt 5) (bt 5)) λL=>bB 2 27 aZ aZ))) (λA=>aZ) (λx=>Empty.elim x) (λu=>aZ)) aZ))
def oh (B:Trace) (m1:Int):Option (aY×Bool):=
 (jQ B 2 m1).bind λu=>
 some (u.1,u.2)
instance QG (B:Trace) (m1:Int):Fc Sy cL (oh B m1):=Fc.M 166 [enc B,.int .i64 m1] (ck 2 2 B (bA 8 λu _=>aZ))
namespace gw
def dn (W:Sl Int) (p7:Int) (Y:Sl Int) (aa ab:Int) (J:Sl Event) (T:Int) (U:Trace) (G D:aY) (B:Int):Option (Fw Int Unit (aY×aY)):=
 bp (decide (B<T))
 ((idx J B).bind λw=>
 bp (w.kind==3)
 ((oh U w.message).bind λu=>
 (idx W u.1.proc).bind λz=>
 bp (decide (u.1.index>z))
 (some (.r (u.1,(⟨p7,IntKind.wrap .i64 (B+1)⟩:aY))))
 (some (.n (IntKind.wrap .i64 (B+1)))))
 (some (.n (IntKind.wrap .i64 (B+1)))))
 (some (.x ()))
def W2 (c1:Sl Int) (p7:Int) (J:Sl Int) (T G:Int) (U:Sl Event) (W Y:Int) (aa:Trace) (D B:aY):Option (Fw Int Unit (aY×aY)):=
 (cE (λq:Int=>dn c1 p7 J T G U W aa D B q) Y).bind (Fw.elim
 (λe=>some (.n (IntKind.wrap .i64 (G+1))))
 (λe=>some (.r (e.1,e.2))))
def bK (W J:Sl Int) (T:Int) (U:Trace) (G B:aY) (D:Int):Option (Fw Int Unit (aY×aY)):=
 bp (decide (D<T))
 ((idx J D).bind λw=>
 (idx U.procs D).bind λz=>
 (jm z.events none (some w)).bind λu=>
 W2 W D J T D u (len u) 0 U G B)
 (some (.x ()))
def W1 (W G:Sl Int) (J T:Int) (U:Trace) (D B:aY):Option (aY×aY×Bool):=
 (cE (λq:Int=>bK W G J U D B q) T).bind (Fw.elim
 (λe=>some (⟨0,0⟩,⟨0,0⟩,false))
 (λe=>some (e.1,e.2,true)))
end gw
def gw (D:Trace) (B:Sl Int):Option (aY×aY×Bool):=
 gw.W1 B B (len B) 0 D (⟨0,0⟩:aY) (⟨0,0⟩:aY)
open gw in
instance RT (D:Trace) (B:Sl Int):Fc Sy cL (gw D B):=Fc.M 196 [enc D,enc B] (ck 2 2 D (cz 9 B (iI 5 (λu=>(cK [Cv 1 B,Pv 2,Pv 4,Pv 5,Cv 13 B,Iv 14 (len B),Iv 15 u] [Xb 2 D,Xb 4 (⟨0,0⟩:aY),Xb 5 (⟨0,0⟩:aY)])) (λw=>(0,(cK [Pv 4,Pv 5] [Xb 4 (⟨0,0⟩:aY),Xb 5 (⟨0,0⟩:aY)]))) (λw=>(cK [Pv 4,Pv 5,Bv 6 true] [Xb 4 w.1,Xb 5 w.2])) (λu=>bB 7 16 (cg 8 λG _=>cg 10 λJ _=>GY 3 false true [.int .i64 G] λA _=>cz 0 A (iI 5 (λC=>(cK [Cv 1 B,Pv 2,Pv 4,Pv 5,Iv 7 u,Cv 13 B,Iv 14 (len B),Iv 15 u,Cv 27 A,Iv 28 (len A),Iv 29 C] [Xb 2 D,Xb 4 (⟨0,0⟩:aY),Xb 5 (⟨0,0⟩:aY)])) (λz=>(2,(cK [Cv 1 B,Pv 2,Pv 4,Pv 5,Cv 13 B,Iv 14 (len B),Iv 15 u] [Xb 2 D,Xb 4 (⟨0,0⟩:aY),Xb 5 (⟨0,0⟩:aY)]))) (λz=>(cK [Pv 4,Pv 5,Bv 6 true] [Xb 4 z.1,Xb 5 z.2])) (λC=>bB 7 30 (cg 8 λI _=>pP 3 10 0 I (dK 10 36 (bA 8 λL _=>cg 15 λO _=>bB 4 51 aZ aZ) aZ)) aZ) (λz=>aZ) (λz=>aZ))) aZ) (λw=>aZ) (λw=>aZ))))
def x_ (B:Trace) (D:Sl Int):Option Bool:=
 (gw B D).bind λu=>
 some (!u.2.2)
instance Sd (B:Trace) (D:Sl Int):Fc Sy cL (x_ B D):=Fc.M 178 [enc B,enc D] (ck 2 2 B (bA 7 λu _=>aZ))
namespace e8
def nU (D:Sl (Sl Int)) (G:Int) (J:Trace) (B:Int):Option (Fw Int Unit Unit):=
 bp (decide (B<G))
 ((idx D B).bind λu=>
 (x_ J u).bind λw=>
 bp w
 (some (.n (IntKind.wrap .i64 (B+1))))
 (some (.r ())))
 (some (.x ()))
def W3 (B:Sl (Sl Int)) (D G:Int) (J:Trace):Option Int:=
 (cE (λq:Int=>nU B D J q) G).bind (Fw.elim
 (λe=>some 0)
 (λe=>some 18))
def dn (T:Sl (Sl Int)) (D:Sl Int) (G:Int) (J:Trace) (B:Int):Option (Fw Int Unit Unit):=
 bp (decide (B<G))
 ((idx D B).bind λu=>
 (Ak J u).bind λw=>
 bp w
 (some (.n (IntKind.wrap .i64 (B+1))))
 (some (.r ())))
 (some (.x ()))
def W2 (D:Sl (Sl Int)) (G:Sl Int) (J T:Int) (B:Trace):Option Int:=
 (cE (λq:Int=>dn D G J B q) T).bind (Fw.elim
 (λe=>e8.W3 D (len D) 0 B)
 (λe=>some 2))
def bK (U:Sl (Sl Int)) (D:Sl Int) (G:Sl (Sl Int)) (J:Int) (T:Trace) (B:Int):Option (Fw Int Unit Unit):=
 bp (decide (B<J))
 ((idx G B).bind λu=>
 (iZ T u).bind λw=>
 bp w
 (some (.n (IntKind.wrap .i64 (B+1))))
 (some (.r ())))
 (some (.x ()))
def W1 (U:Sl (Sl Int)) (B:Sl Int) (G:Sl (Sl Int)) (J T:Int) (D:Trace):Option Int:=
 (cE (λq:Int=>bK U B G J D q) T).bind (Fw.elim
 (λe=>e8.W2 U B (len B) 0 D)
 (λe=>some 2))
end e8
def e8 (G:Trace) (D:Sl (Sl Int)) (B:Sl Int):Option Int:=
 (za G D).bind λu=>
 bp u
 (e8.W1 D B D (len D) 0 G)
 (some 1)
open e8 in
instance Tz (G:Trace) (D:Sl (Sl Int)) (B:Sl Int):Fc Sy cL (e8 G D B):=Fc.M 144 [enc G,enc D,enc B] (ck 2 3 G (bA 8 λJ _=>dK 3 16 (cz 7 D (iI 5 (λA=>(cK [Cv 1 D,Cv 2 B,Pv 3,Cv 17 D,Iv 18 (len D),Iv 19 A] [Xb 3 G])) (λu=>(0,(cK [Cv 1 D,Cv 2 B,Pv 3] [Xb 3 G]))) (λu=>(cK [Iv 6 2] [])) (λA=>bB 7 20 (cg 7 λL _=>bA 8 λO _=>dK 3 26 aZ aZ) aZ) (λu=>cz 6 B (iI 5 (λC=>(cK [Cv 1 D,Pv 3,Cv 28 B,Iv 29 (len B),Iv 30 C] [Xb 3 G])) (λw=>(2,(cK [Cv 1 D,Pv 3] [Xb 3 G]))) (λw=>(cK [Iv 6 2] [])) (λC=>bB 7 31 (cg 7 λQ _=>bA 8 λS _=>dK 3 37 aZ aZ) aZ) (λw=>cz 6 D (iI 5 (λI=>(cK [Pv 3,Cv 39 D,Iv 40 (len D),Iv 41 I] [Xb 3 G])) (λz=>(4,(cK [] []))) (λz=>(cK [Iv 6 18] [])) (λI=>bB 7 42 (cg 7 λT _=>bA 8 λU _=>dK 3 48 aZ aZ) aZ) (λz=>aZ) (λz=>aZ))) (λw=>aZ))) (λu=>aZ))) aZ))
def wV (B:Trace) (m1:Int):Option (aY×Bool):=
 (jQ B 3 m1).bind λu=>
 some (u.1,u.2)
instance NS (B:Trace) (m1:Int):Fc Sy cL (wV B m1):=Fc.M 147 [enc B,.int .i64 m1] (ck 2 2 B (bA 8 λu _=>aZ))
namespace mN
def bK (U:Sl Int) (W:Int) (J:Sl Event) (T:Trace) (B:Sl Int) (G D:Int):Option (Fw ((Sl Int)×Int×Int) (Sl Int) Empty):=
 bp (decide (D<G))
 ((idx J D).bind λu=>
 (bp (u.kind==2)
 (some (!(u.peer==W)))
 (some true):Option Bool).bind λA=>
 bp A
 (some (.n (B,G,IntKind.wrap .i64 (D+1))))
 ((wV T u.message).bind λw=>
 (bp w.2
 ((idx U w.1.proc).bind λC=>
 some (decide (w.1.index>C)))
 (some true):Option Bool).bind λI=>
 bp I
 ((fZ B (u.message:Int)).bind λz=>
 some (.n (z,G,IntKind.wrap .i64 (D+1))))
 (some (.n (B,G,IntKind.wrap .i64 (D+1))))))
 (some (.x B))
def W1 (U:Sl Int) (W:Int) (B:Sl Int) (D:Sl Event) (G J:Int) (T:Trace):Option ((Sl Int)×Int):=
 (cE (λq:(Sl Int)×Int×Int=>bK U W D T q.1 q.2.1 q.2.2) (B,G,J)).bind (Fw.elim
 (λe=>some (e,0))
 (λe=>Empty.elim e))
end mN
def mN (B:Trace) (D:Sl Int) (p2 G:Int):Option ((Sl Int)×Int):=
 (e8 B (Sl.row [D]:Sl (Sl Int)) (Sl.row [p2,G]:Sl Int)).bind λu=>
 bp (u==0)
 ((idx B.procs p2).bind λz=>
 (idx D p2).bind λA=>
 (jm z.events none (some A)).bind λw=>
 mN.W1 D G (Sl.nil:Sl Int) w (len w) 0 B)
 (some (Sl.nil,u))
open mN in
instance Rg (B:Trace) (D:Sl Int) (p2 G:Int):Fc Sy cL (mN B D p2 G):=Fc.N 108 [enc B,enc D,.int .i64 p2,.int .i64 G] (ck 2 4 B (Ga 9 18 ([D]:List (Sl Int)) (dg 3 λJ _=>dK 9 24 (cg 14 λL _=>cg 4 λA _=>GY 1 false true [.int .i64 A] λw _=>cz 0 w (k9 6 (λu=>(cK [Cv 1 D,Iv 3 G,Pv 4,Ov 11,Cv 36 w,Iv 37 u.2.1,Iv 38 u.2.2] [Xb 4 B,Lb 2011 u.1])) (λz=>(0,(cK [Ov 11] [Lb 2011 z]))) (λu=>bB 8 39 (cg 7 λC _=>pP 2 13 0 C (b_ 9 5 [45] 50 (dK 9 45 (bt 5) (bt 5)) λO=>bB 2 50 aZ (bA 8 λQ _=>b_ 13 9 [14,60] 69 (dK 13 60 (cg 5 λS _=>bt 3) (bt 9)) λT=>bB 2 69 (qq 6 2011 73 74 λI _=>aZ) aZ))) aZ) (λz=>aZ))) aZ)))
def qF (B:br) (p1:Pred):Option Int:=
 (mN B.t B.counts p1.proc p1.peer).bind λu=>
 some (len u.1)
instance Hf (B:br) (p1:Pred):Fc Sy cL (qF B p1):=Fc.M 72 [enc B,enc p1] (ck 2 2 B (ck 0 3 p1 (bA 13 λu _=>cz 10 u.1 aZ)))
def c9 (B:br) (p1:Pred) (r:(br×Pred)->Option Int):Option Int:=
 bp (p1.kind==1)
 (some p1.n)
 (bp (p1.kind==2)
 ((jP B p1).bind λJ=>
 some J)
 (bp (p1.kind==3)
 ((idx B.counts p1.proc).bind λL=>
 some L)
 (bp (p1.kind==4)
 ((qF B p1).bind λO=>
 some O)
 (bp (p1.kind==5)
 ((idx p1.l 0).bind λQ=>
 (r (B,Q)).bind λS=>
 some (IntKind.wrap .i64 (0-S)))
 (bp (p1.kind==6)
 ((idx p1.l 0).bind λT=>
 (r (B,T)).bind λU=>
 (idx p1.l 1).bind λW=>
 (r (B,W)).bind λX=>
 some (IntKind.wrap .i64 (U+X)))
 (bp (p1.kind==7)
 ((idx p1.l 0).bind λu=>
 (r (B,u)).bind λw=>
 (idx p1.l 1).bind λz=>
 (r (B,z)).bind λA=>
 some (IntKind.wrap .i64 (w-A)))
 ((idx p1.l 0).bind λC=>
 (r (B,C)).bind λD=>
 (idx p1.l 1).bind λG=>
 (r (B,G)).bind λI=>
 some (IntKind.wrap .i64 (D*I)))))))))
theorem uu (r:(br×Pred)->Option Int) (hr:fK Sy cL 46 (λz:br×Pred=>[enc z.1,enc z.2]) (λr:Int=>[.int .i64 r]) r true) (B:br) (p1:Pred):Le ((c9 B p1 r).bind λr=>some [.int .i64 r]) (iG cL 46 [enc B,enc p1]):=
 (Fc.M 46 [enc B,enc p1] (ck 2 2 B (ck 0 3 p1 (bB 17 7 aZ (bB 7 11 (bA 5 λS _=>aZ) (bB 7 16 (cg 7 λT _=>aZ) (bB 7 24 (bA 5 λU _=>aZ) (bB 7 29 (iB 6 33 (Pred.kD p1.l) (cg 0 λD _=>dg (F:=Fc.of (B,D) hr) 1 λW _=>aZ)) (bB 7 38 (iB 6 42 (Pred.kD p1.l) (cg 0 λG _=>dg (F:=Fc.of (B,G) hr) 1 λX _=>iB 3 48 (Pred.kD p1.l) (cg 0 λI _=>dg (F:=Fc.of (B,I) hr) 1 λY _=>aZ))) (bB 7 53 (iB 6 57 (Pred.kD p1.l) (cg 0 λu _=>dg (F:=Fc.of (B,u) hr) 1 λJ _=>iB 3 63 (Pred.kD p1.l) (cg 0 λw _=>dg (F:=Fc.of (B,w) hr) 1 λL _=>aZ))) (iB 9 70 (Pred.kD p1.l) (cg 0 λA _=>dg (F:=Fc.of (B,A) hr) 1 λO _=>iB 3 76 (Pred.kD p1.l) (cg 0 λC _=>dg (F:=Fc.of (B,C) hr) 1 λQ _=>aZ)))))))))))):Fc Sy cL (c9 B p1 r)).F.h ()
def dL (B:br) (p1:Pred):Option Int:=fG (λr (z:br×Pred)=>c9 z.1 z.2 r) 100000 (B,p1)
instance HN (B:br) (p1:Pred):Fc Sy cL (dL B p1):=Fc.of (B,p1) (fK.fix (A:=λz:br×Pred=>[enc z.1,enc z.2]) (E:=λr:Int=>[.int .i64 r]) (sc:=true) (b:=(λr (z:br×Pred)=>c9 z.1 z.2 r)) (by kernel_rfl) (λ_ _=>rfl) (λr hr z=>uu r hr z.1 z.2) 100000)
namespace dc
def J1 (U:Int) (T:Bool) (D:br) (B:Pred) (r:(br×Pred)->Option Bool):Option Bool:=
 bp T
 (some (B.kind==13))
 (bp (U==15)
 ((idx B.l 0).bind λu=>
 (r (D,u)).bind λw=>
 some (!w))
 (bp (U==16)
 ((idx B.l 0).bind λz=>
 (r (D,z)).bind λA=>
 (bp A
 ((idx B.l 1).bind λC=>
 (r (D,C)).bind λG=>
 some G)
 (some false):Option Bool).bind λI=>
 some I)
 ((idx B.l 0).bind λJ=>
 (r (D,J)).bind λL=>
 (bp L
 (some true)
 ((idx B.l 1).bind λO=>
 (r (D,O)).bind λQ=>
 some Q):Option Bool).bind λS=>
 some S)))
theorem jd (r:(br×Pred)->Option Bool) (hr:fK Sy cL 47 (λz:br×Pred=>[enc z.1,enc z.2]) (λr:Bool=>[.bool r]) r true) (T:Int) (G:Bool) (B:br) (D:Pred):Le ((J1 T G B D r).bind (λr=>some [.bool r])) (bX Sy cL (nk (tr Tx 47)) (oF (tb Tx 47) [1,0,1,0,1,1,1,1,1,1,1,1,1,0] [] (cK [Pv 2,Pv 3,Iv 6 T,Bv 67 G] [Xb 2 B,Xb 3 D]))):=
 bB 0 67 aZ (bB 7 73 (iB 6 77 (Pred.kD D.l) (cg 0 λA _=>dg (F:=Fc.of (B,A) hr) 1 λO _=>aZ)) (bB 7 82 (iB 6 86 (Pred.kD D.l) (cg 0 λC _=>dg (F:=Fc.of (B,C) hr) 1 λQ _=>Km 1 7 [96,89] (λu=>(cK [Bv 67 false,Bv 73 false,Bv 82 true,Bv 97 u] [Xb 2 B,Xb 3 D])) (bB 1 90 (iB 3 93 (Pred.kD D.l) (cg 0 λI _=>dg (F:=Fc.of (B,I) hr) 1 λS _=>bt 1)) (bt 7)) λu=>aZ)) (iB 9 100 (Pred.kD D.l) (cg 0 λJ _=>dg (F:=Fc.of (B,J) hr) 1 λU _=>Km 1 7 [110,103] (λw=>(cK [Bv 67 false,Bv 73 false,Bv 82 false,Bv 111 w] [Xb 2 B,Xb 3 D])) (bB 1 104 (bt 7) (iB 3 107 (Pred.kD D.l) (cg 0 λL _=>dg (F:=Fc.of (B,L) hr) 1 λW _=>bt 1))) λw=>aZ))))
end dc
def dw (B:br) (p1:Pred) (r:(br×Pred)->Option Bool):Option Bool:=
 bp (p1.kind==9)
 ((idx p1.l 0).bind λI=>
 (dL B I).bind λJ=>
 (idx p1.l 1).bind λL=>
 (dL B L).bind λO=>
 some (J==O))
 (bp (p1.kind==10)
 ((idx p1.l 0).bind λQ=>
 (dL B Q).bind λS=>
 (idx p1.l 1).bind λT=>
 (dL B T).bind λU=>
 some (!(S==U)))
 (bp (p1.kind==11)
 ((idx p1.l 0).bind λW=>
 (dL B W).bind λu=>
 (idx p1.l 1).bind λw=>
 (dL B w).bind λz=>
 some (decide (u<z)))
 (bp (p1.kind==12)
 ((idx p1.l 0).bind λA=>
 (dL B A).bind λC=>
 (idx p1.l 1).bind λD=>
 (dL B D).bind λG=>
 some (decide (C<=G)))
 (bp (p1.kind==13)
 (dc.J1 p1.kind true B p1 r)
 (dc.J1 p1.kind (p1.kind==14) B p1 r)))))
open dc in
theorem u6 (r:(br×Pred)->Option Bool) (hr:fK Sy cL 47 (λz:br×Pred=>[enc z.1,enc z.2]) (λr:Bool=>[.bool r]) r true) (B:br) (p1:Pred):Le ((dw B p1 r).bind λr=>some [.bool r]) (iG cL 47 [enc B,enc p1]):=
 (Fc.M 47 [enc B,enc p1] (ck 2 2 B (ck 0 3 p1 (bB 17 7 (iB 6 11 (Pred.kD p1.l) (cg 0 λJ _=>dg 1 λL _=>iB 3 17 (Pred.kD p1.l) (cg 0 λO _=>dg 1 λQ _=>aZ))) (bB 7 22 (iB 6 26 (Pred.kD p1.l) (cg 0 λS _=>dg 1 λT _=>iB 3 32 (Pred.kD p1.l) (cg 0 λU _=>dg 1 λW _=>aZ))) (bB 7 37 (iB 6 41 (Pred.kD p1.l) (cg 0 λX _=>dg 1 λu _=>iB 3 47 (Pred.kD p1.l) (cg 0 λw _=>dg 1 λA _=>aZ))) (bB 7 52 (iB 6 56 (Pred.kD p1.l) (cg 0 λC _=>dg 1 λD _=>iB 3 62 (Pred.kD p1.l) (cg 0 λG _=>dg 1 λI _=>aZ))) (bB 8 67 (nq 4 (jd r hr p1.kind true B p1)) (nq 7 (jd r hr p1.kind (p1.kind==14) B p1))))))))):Fc Sy cL (dw B p1 r)).F.h ()
def dc (B:br) (p1:Pred):Option Bool:=fG (λr (z:br×Pred)=>dw z.1 z.2 r) 100000 (B,p1)
instance H8 (B:br) (p1:Pred):Fc Sy cL (dc B p1):=Fc.of (B,p1) (fK.fix (A:=λz:br×Pred=>[enc z.1,enc z.2]) (E:=λr:Bool=>[.bool r]) (sc:=true) (b:=(λr (z:br×Pred)=>dw z.1 z.2 r)) (by kernel_rfl) (λ_ _=>rfl) (λr hr z=>u6 r hr z.1 z.2) 100000)
def dy (D:Trace) (B T:Int) (p3:Pred):Option Bool:=
 (uU (len D.procs) (0:Int)).bind λu=>
 (uU (len D.procs) (Sl.nil:Sl Int)).bind λw=>
 (Sl.rM u B).bind λz=>
 (Sl.put u z (T:Int)).bind λA=>
 (pn D B T).bind λC=>
 (Sl.rM w B).bind λG=>
 (Sl.put w G (C.1:Sl Int)).bind λI=>
 (dc (⟨D,A,I⟩:br) p3).bind λJ=>
 some J
instance K_ (D:Trace) (B G:Int) (p3:Pred):Fc Sy cL (dy D B G p3):=Fc.M 63 [enc D,.int .i64 B,.int .i64 G,enc p3] (ck 2 4 D (ck 0 7 p3 (cz 8 D.procs (SF 0 14 λu _=>cz 2 D.procs (SF 0 18 λw _=>TZ 0 [cv D,.own 14,.own 18] [cv D.procs,.own 14,.own 18] [.bE,.bE,.bE] [(0,1),(1,1),(2,1)] (by simp only[Cj,LX,OB,Jz,LL,Jo,iS,wQ,uK,wJ,wD];rfl) (U3 1 9 0 [cv D.procs,.own 14,.own 18] (by simp only[List.all_cons,Tf,Om,Qc,Oj,mW,lg,mP,l_,Ru];rfl) (CI .i64 8 14 λz _=>Nw 0 14 (.int .i64 G) λA _=>bA 10 λC _=>CI .i64 3 18 λI _=>Ug 0 18 λJ _=>bA 8 λL _=>aZ)))))))
namespace eF
def bK (D J:Int) (T:Trace) (U:Pred) (B:Sl Bool) (G:Int):Option (Fw ((Sl Bool)×Int) (Sl Bool) Empty):=
 bp (decide (G<J))
 ((dy T D G U).bind λu=>
 (fZ B (u:Bool)).bind λw=>
 some (.n (w,IntKind.wrap .i64 (G+1))))
 (some (.x B))
def W1 (B:Int) (D:Sl Bool) (G J:Int) (T:Trace) (U:Pred):Option ((Sl Bool)×Int):=
 (cE (λq:(Sl Bool)×Int=>bK B G T U q.1 q.2) (D,J)).bind (Fw.elim
 (λe=>some (e,0))
 (λe=>Empty.elim e))
end eF
def eF (D:Trace) (B:Int) (p2:Pred):Option ((Sl Bool)×Int):=
 (pq D B 0 p2).bind λu=>
 bp (u==0)
 ((idx D.procs B).bind λw=>
 eF.W1 B (Sl.nil:Sl Bool) (IntKind.wrap .i64 ((len w.events)+1)) 0 D p2)
 (some (Sl.nil,u))
open eF in
instance MZ (D:Trace) (B:Int) (p2:Pred):Fc Sy cL (eF D B p2):=Fc.N 33 [enc D,.int .i64 B,enc p2] (ck 2 3 D (ck 0 5 p2 (bA 10 λA _=>dK 9 16 (cg 14 λw _=>cz 2 w.events (k9 7 (λu=>(cK [Iv 1 B,Pv 3,Pv 5,Ov 9,Iv 25 (IntKind.wrap .i64 ((len w.events)+1)),Iv 26 u.2] [Xb 3 D,Xb 5 p2,Lb 2009 u.1])) (λz=>(0,(cK [Ov 9] [Lb 2009 z]))) (λu=>bB 8 27 (bA 17 λC _=>qq 1 2009 35 36 λG _=>aZ) aZ) (λz=>aZ))) aZ)))
def pH (B:Int):Option Bool:=
 (bp (decide (B>=18))
 (some (decide (B<=21)))
 (some false):Option Bool).bind λu=>
 some u
instance KP (B:Int):Fc Sy cL (pH B):=Fc.M 105 [.int .i64 B] (b_ 10 3 [0,5] 8 (bB 10 5 (bt 3) (bt 3)) λu=>aZ)
def kI (B:Pred):Option Bool:=
 (pH B.kind).bind λu=>
 some (!u)
instance HK (B:Pred):Fc Sy cL (kI B):=Fc.M 104 [enc B] (ck 2 1 B (bA 7 λu _=>aZ))
def kA (B:Pred):Option Bool:=
 (kg B).bind λu=>
 (bp u
 ((lM B (λz=>kI z)).bind λw=>
 some (!w))
 (some false):Option Bool).bind λA=>
 some A
instance KM (B:Pred):Fc Sy cL (kA B):=Fc.M 70 [enc B] (ck 2 1 B (bA 6 λu _=>b_ 1 4 [1,5] 9 (bB 1 5 (bA (F:=rK 104 [] (λz=>kI z) kC.pV B) 1 λw _=>bt 2) (bt 4)) λA=>aZ))
namespace jq
def J3 (B:Sl aY) (U:Sl bM) (W Y:Int) (aa:Sl Event) (ab G:Int) (J:Trace) (ad T:bZ) (ae:bM) (D:aY):Option (Fw ((Sl aY)×Int×Trace×bZ×bZ) ((Sl aY)×Trace×bZ) Empty):=
 (fZ B (D:aY)).bind λu=>
 some (.n (u,IntKind.wrap .i64 (G+1),J,(⟨Sl.nil,Sl.nil⟩:bZ),T))
def dn (W:Sl bM) (Y aa:Int) (J:Sl Event) (T:Int) (ab:bM) (B:Sl aY) (D:Int) (G:Trace) (ad U:bZ):Option (Fw ((Sl aY)×Int×Trace×bZ×bZ) ((Sl aY)×Trace×bZ) Empty):=
 bp (decide (D<T))
 ((idx J D).bind λu=>
 bp (u.kind==3)
 ((oh G u.message).bind λw=>
 J3 B W Y aa J T D G (⟨Sl.nil,Sl.nil⟩:bZ) U ab w.1)
 (J3 B W Y aa J T D G (⟨Sl.nil,Sl.nil⟩:bZ) U ab (⟨0,0⟩:aY)))
 (some (.x (B,G,U)))
def W2 (B:Sl aY) (J:Sl bM) (T D:Int) (U:Sl Event) (W Y:Int) (aa:Trace) (ab ad:bZ) (G:bM):Option (Fw (Int×Trace×bZ×bZ) bZ Empty):=
 (cE (λq:(Sl aY)×Int×Trace×bZ×bZ=>dn J T D U W G q.1 q.2.1 q.2.2.1 q.2.2.2.1 q.2.2.2.2) (B,Y,aa,ab,ad)).bind (Fw.elim
 (λe=>(fZ e.2.2.lengths (len G.events:Int)).bind λu=>
 (fZ e.2.2.need (e.1:Sl aY)).bind λw=>
 some (.n (IntKind.wrap .i64 (D+1),e.2.1,(⟨Sl.nil,Sl.nil⟩:bZ),(⟨u,w⟩:bZ))))
 (λe=>Empty.elim e))
def bK (D:Sl bM) (G:Int) (B:Int) (T:Trace) (U J:bZ):Option (Fw (Int×Trace×bZ×bZ) bZ Empty):=
 bp (decide (B<G))
 ((idx D B).bind λu=>
 W2 (Sl.nil:Sl aY) D G B u.events (len u.events) 0 T (⟨Sl.nil,Sl.nil⟩:bZ) J u)
 (some (.x J))
def W1 (B:Sl bM) (D G:Int) (J:Trace) (T U:bZ):Option bZ:=
 (cE (λq:Int×Trace×bZ×bZ=>bK B D q.1 q.2.1 q.2.2.1 q.2.2.2) (G,J,T,U)).bind (Fw.elim
 (λe=>some e)
 (λe=>Empty.elim e))
end jq
def jq (B:Trace):Option bZ:=
 jq.W1 B.procs (len B.procs) 0 B (⟨Sl.nil,Sl.nil⟩:bZ) (⟨Sl.nil,Sl.nil⟩:bZ)
open jq in
instance UI (B:Trace):Fc Sy cL (jq B):=Fc.N 141 [enc B] (ck 2 1 B (cz 13 B.procs (k9 7 (λu=>(cK [Pv 1,Pv 2,Pv 3,Cv 11 B.procs,Iv 12 (len B.procs),Iv 13 u.1] [Xb 1 u.2.1,Xb 2 (⟨Sl.nil,Sl.nil⟩:bZ),(3,.box [.own 4060,.own 4061]),Lb 4060 u.2.2.2.lengths,Lb 4061 u.2.2.2.need])) (λC=>(0,(cK [Pv 2,Pv 3] [Xb 2 (⟨Sl.nil,Sl.nil⟩:bZ),(3,.box [.own 4060,.own 4061]),Lb 4060 C.lengths,Lb 4061 C.need]))) (λu=>bB 9 14 (cg 7 λw _=>pP 2 5 0 w (cz 12 w.events (k9 8 (λz=>(cK [Pv 1,Pv 2,Pv 3,Pv 5,Ov 6,Cv 11 B.procs,Iv 12 (len B.procs),Iv 13 u.1,Cv 18 w.events,Iv 19 (len w.events),Iv 20 z.2.1] [Xb 1 z.2.2.1,Xb 2 (⟨Sl.nil,Sl.nil⟩:bZ),(3,.box [.own 4060,.own 4061]),Xb 5 w,Lb 2006 z.1,Lb 4060 z.2.2.2.2.lengths,Lb 4061 z.2.2.2.2.need])) (λA=>(2,(cK [Pv 1,Pv 2,Pv 3,Pv 5,Ov 6,Cv 11 B.procs,Iv 12 (len B.procs),Iv 13 u.1] [Xb 1 A.2.1,Xb 2 (⟨Sl.nil,Sl.nil⟩:bZ),(3,.box [.own 4060,.own 4061]),Xb 5 w,Lb 2006 A.1,Lb 4060 A.2.2.lengths,Lb 4061 A.2.2.need]))) (λz=>bB 10 21 (cg 7 λD _=>pP 2 8 0 D (bB 15 26 (bA 5 λI _=>tN 10 (qq 4 2006 36 37 λG _=>aZ)) (tN 7 (qq 4 2006 36 37 λG _=>aZ)))) aZ) (λA=>cz 8 w.events (qq 1 4060 44 45 λJ _=>Ga 9 50 ([A.1]:List (Sl aY)) (qq 0 4061 50 51 λL _=>aZ)))))) aZ) (λC=>pP 7 2 0 C aZ))))
def nh (G:bZ) (B:Sl Int) (p2:Int):Option Bool:=
 (idx B p2).bind λw=>
 (idx G.lengths p2).bind λz=>
 bp (w==z)
 (some false)
 ((idx G.need p2).bind λA=>
 (idx B p2).bind λC=>
 (idx A C).bind λu=>
 (idx B u.proc).bind λD=>
 some (decide (u.index<=D)))
instance K7 (B:bZ) (D:Sl Int) (p2:Int):Fc Sy cL (nh B D p2):=Fc.M 167 [enc B,enc D,.int .i64 p2] (ck 2 3 B (cg 8 λu _=>cg 4 λw _=>bB 4 17 aZ (cg 8 λz _=>cg 3 λA _=>cg 1 λC _=>cg 12 λG _=>aZ)))
def qj (B:Int):Option Bool:=
 some (!(B==B))
instance PJ (B:Int):Fc Sy cL (qj B):=Fc.M 212 [.int .i64 B] (aZ)
def n9 (B D:Int):Option Int:=
 (qj B).bind λw=>
 (qj D).bind λu=>
 bp w
 (bp u
 (some 0)
 (some (-1)))
 (bp u
 (some 1)
 (bp (decide (B<D))
 (some (-1))
 (bp (decide (B>D))
 (some 1)
 (some 0))))
instance MX (B D:Int):Fc Sy cL (n9 B D):=Fc.M 193 [.int .i64 B,.int .i64 D] (bA 8 λu _=>bA 6 λw _=>bB 9 11 (bB 7 12 aZ aZ) (bB 9 13 aZ (bB 11 16 aZ (bB 11 19 aZ aZ))))
namespace eC
def bK (J D T:Sl Int) (G:Int) (B:Int):Option (Fw Int Unit Int):=
 bp (decide (B<G))
 ((idx T B).bind λw=>
 bp (decide (B>=(len D)))
 (some (.r 1))
 ((idx D B).bind λz=>
 (n9 w z).bind λu=>
 bp (u==0)
 (some (.n (IntKind.wrap .i64 (B+1))))
 (some (.r u))))
 (some (.x ()))
def W1 (B D T:Sl Int) (G J:Int):Option Int:=
 (cE (λq:Int=>bK B D T G q) J).bind (Fw.elim
 (λe=>bp (decide ((len B)<(len D)))
 (some (-1))
 (some 0))
 (λe=>some e))
end eC
def eC (B D:Sl Int):Option Int:=
 eC.W1 B D B (len B) 0
open eC in
instance I5 (B D:Sl Int):Fc Sy cL (eC B D):=Fc.M 171 [enc B,enc D] (cz 9 B (iI 5 (λw=>(cK [Cv 0 B,Cv 1 D,Cv 9 B,Iv 10 (len B),Iv 11 w] [])) (λu=>(0,(cK [Cv 0 B,Cv 1 D] []))) (λu=>(cK [Iv 4 u] [])) (λw=>bB 7 12 (cg 8 λz _=>cz 10 D (bB 3 19 aZ (cg 7 λA _=>bA 8 λC _=>dK 9 28 aZ aZ))) aZ) (λu=>cz 6 B (cz 1 D (bB 3 35 aZ aZ))) (λu=>aZ)))
def iQ (a0 B:Sl Int):Option Int:=
 (eC a0 B).bind λu=>
 some u
instance KC (a0 B:Sl Int):Fc Sy cL (iQ a0 B):=Fc.M 170 [enc a0,enc B] (bA 9 λu _=>aZ)
namespace eH
def bK (D G:Sl Int) (J:Int) (B:Int):Option (Fw Int Unit Unit):=
 bp (decide (B<J))
 ((idx D B).bind λu=>
 (idx G B).bind λw=>
 bp (u==w)
 (some (.n (IntKind.wrap .i64 (B+1))))
 (some (.r ())))
 (some (.x ()))
def W1 (B D:Sl Int) (G J:Int):Option Bool:=
 (cE (λq:Int=>bK B D G q) J).bind (Fw.elim
 (λe=>some true)
 (λe=>some false))
end eH
def eH (B D:Sl Int):Option Bool:=
 bp ((len B)==(len D))
 (eH.W1 B D (len B) 0)
 (some false)
open eH in
instance LO (B D:Sl Int):Fc Sy cL (eH B D):=Fc.M 174 [enc B,enc D] (cz 9 B (cz 1 D (dK 3 10 (cz 7 B (iI 5 (λw=>(cK [Cv 0 B,Cv 1 D,Iv 12 (len B),Iv 13 w] [])) (λu=>(0,(cK [] []))) (λu=>(cK [Bv 4 false] [])) (λw=>bB 7 14 (cg 15 λz _=>cg 3 λA _=>dK 4 24 aZ aZ) aZ) (λu=>aZ) (λu=>aZ))) aZ)))
def jV (a0 B:Sl Int):Option Bool:=
 (eH a0 B).bind λu=>
 some u
instance J5 (a0 B:Sl Int):Fc Sy cL (jV a0 B):=Fc.M 173 [enc a0,enc B] (bA 9 λu _=>aZ)
namespace dQ
def dn (T:Sl Int) (U:Sl (Sl Int)) (W Y G:Int) (J:bZ) (D:Sl (Sl Int)) (B:Int):Option (Fw ((Sl (Sl Int))×Int) (Sl (Sl Int)) Empty):=
 bp (decide (B<G))
 ((nh J T B).bind λw=>
 bp w
 (((eu T).bind Sl.whole).bind λu=>
 (Sl.rM u B).bind λz=>
 (Sl.get u z).bind λA=>
 (Sl.rM u B).bind λC=>
 (Sl.put u C (IntKind.wrap .i64 (A+1):Int)).bind λI=>
 (fZ D (I:Sl Int)).bind λL=>
 some (.n (L,IntKind.wrap .i64 (B+1))))
 (some (.n (D,IntKind.wrap .i64 (B+1)))))
 (some (.x D))
def W2 (B:Sl (Sl Int)) (Y:Sl Int) (J:Sl (Sl Int)) (D G T U:Int) (W:bZ):Option (Fw ((Sl (Sl Int))×Int×Int) (Sl (Sl Int)) Empty):=
 (cE (λq:(Sl (Sl Int))×Int=>dn Y J D G T W q.1 q.2) (B,U)).bind (Fw.elim
 (λe=>some (.n (e,D,IntKind.wrap .i64 (G+1))))
 (λe=>Empty.elim e))
def bK (G:Sl (Sl Int)) (T:bZ) (B:Sl (Sl Int)) (J D:Int):Option (Fw ((Sl (Sl Int))×Int×Int) (Sl (Sl Int)) Empty):=
 bp (decide (D<J))
 ((idx G D).bind λu=>
 W2 B u G J D (len u) 0 T)
 (some (.x B))
def W1 (B D:Sl (Sl Int)) (G J:Int) (T:bZ):Option (Sl (Sl Int)):=
 (cE (λq:(Sl (Sl Int))×Int×Int=>bK D T q.1 q.2.1 q.2.2) (B,G,J)).bind (Fw.elim
 (λe=>(xR e iQ).bind λw=>
 (wk w jV).bind λu=>
 some u)
 (λe=>Empty.elim e))
end dQ
def dQ (D:bZ) (B:Sl (Sl Int)):Option (Sl (Sl Int)):=
 dQ.W1 (Sl.nil:Sl (Sl Int)) B (len B) 0 D
open dQ in
instance MT (D:bZ) (B:Sl (Sl Int)):Fc Sy cL (dQ D B):=Fc.N 142 [enc D,enc B] (ck 2 2 D (cz 12 B (k9 6 (λu=>(cK [Pv 2,Ov 5,Cv 10 B,Iv 11 u.2.1,Iv 12 u.2.2] [Xb 2 D,Lb 2005 u.1])) (λG=>(0,(cK [Ov 5] [Lb 2005 G]))) (λu=>bB 8 13 (cg 7 λw _=>cz 7 w (k9 6 (λA=>(cK [Pv 2,Ov 5,Cv 7 w,Cv 10 B,Iv 11 u.2.1,Iv 12 u.2.2,Iv 17 (len w),Iv 18 A.2] [Xb 2 D,Lb 2005 A.1])) (λI=>(2,(cK [Pv 2,Ov 5,Cv 10 B,Iv 11 u.2.1,Iv 12 u.2.2] [Xb 2 D,Lb 2005 I]))) (λA=>bB 8 19 (bA 16 λO _=>bB 2 24 (Vg 4 26 kf w λQ _=>CI .i64 7 26 λS _=>Sg 0 26 0 1 false (λC=>.int .i64 C) λC _=>CI .i64 1 26 λT _=>Nw 0 26 (.int .i64 (IntKind.wrap .i64 (C+1))) λJ _=>Ga 6 35 ([J]:List (Sl Int)) (qq 0 2005 35 36 λU _=>aZ)) aZ) aZ) (λI=>aZ))) aZ) (λG=>TY 5 2005 JQ CC QF (fK.pV (λz=>inferInstanceAs (Fc Sy cL (iQ z.1 z.2))) default (λ_=>rfl) (λ_=>rfl) (λ_=>rfl) (λ_=>rfl)) λW _=>TN 5 2005 42 JQ CC RK (fK.pV (λz=>inferInstanceAs (Fc Sy cL (jV z.1 z.2))) default (λ_=>rfl) (λ_=>rfl) (λ_=>rfl) (λ_=>rfl)) λL _=>aZ))))
namespace iY
def bK (J:bZ) (B:Sl (Sl Int)) (G:Sl (Sl (Sl Int))) (D:Int):Option (Fw ((Sl (Sl Int))×(Sl (Sl (Sl Int)))×Int) (Sl (Sl (Sl Int))) Unit):=
 bp (decide ((len B)>0))
 (bp (decide ((IntKind.wrap .i64 (D+(len B)))>5000))
 (some (.r ()))
 ((fZ G (B:Sl (Sl Int))).bind λu=>
 (dQ J B).bind λw=>
 some (.n (w,u,IntKind.wrap .i64 (D+(len B))))))
 (some (.x G))
def W1 (B:Sl (Sl Int)) (G:Sl (Sl (Sl Int))) (D:Int) (J:bZ):Option ((Sl (Sl (Sl Int)))×Int):=
 (cE (λq:(Sl (Sl Int))×(Sl (Sl (Sl Int)))×Int=>bK J q.1 q.2.1 q.2.2) (B,G,D)).bind (Fw.elim
 (λe=>some (e,0))
 (λe=>some ((Sl.nil:Sl (Sl (Sl Int))),16)))
end iY
def iY (B:Trace):Option ((Sl (Sl (Sl Int)))×Int):=
 (cH B).bind λu=>
 bp u
 ((jq B).bind λw=>
 (uU (len B.procs) (0:Int)).bind λz=>
 iY.W1 (Sl.row [z]:Sl (Sl Int)) (Sl.nil:Sl (Sl (Sl Int))) 0 w)
 (some ((Sl.nil:Sl (Sl (Sl Int))),1))
open iY in
instance R6 (B:Trace):Fc Sy cL (iY B):=Fc.N 98 [enc B] (ck 2 1 B (bA 8 λC _=>dK 3 10 (bA 6 λz _=>pP 1 4 0 z (cz 6 B.procs (SF 0 16 λA _=>Ga 1 17 ([A]:List (Sl Int)) (iI 18 (λu=>(cK [Pv 4,Cv 5 u.1,Ov 6,Iv 7 u.2.2] [Xb 4 z,Lb 2006 u.2.1])) (λw=>(0,(cK [Ov 6] [Lb 2006 w]))) (λw=>(cK [Ov 2,Iv 3 16] [Lb 2002 (Sl.nil:Sl (Sl (Sl Int)))])) (λu=>cz 7 u.1 (bB 3 20 (cz 10 u.1 (bB 10 29 aZ (Ga 6 32 ([u.1]:List (Sl (Sl Int))) (qq 0 2006 32 33 λD _=>bA 7 λG _=>aZ)))) aZ)) (λw=>aZ) (λw=>aZ))))) aZ))
def eW (s:Sl (Sl (Sl Int))):Option (Sl (Sl Int)):=if s.l.length<=2147483648/\(s.l.flatMap Sl.l).length<=2147483648 then some (zl s)else none
instance JA (s:Sl (Sl (Sl Int))):Fc Sy cL (eW s):=Fc.of (A:=λz:Sl (Sl (Sl Int))=>[enc z]) (E:=λr:Sl (Sl Int)=>[enc r]) (p:=eW) (n:=99) (z:=s) (fK.Vb (by kernel_rfl) (by kernel_rfl) (λz r h=>by
 unfold eW at h;split at h
 .rename_i hc;cases h;exact D4 (Rc (E:=Sy.E) (N:=λn=>n) (gid:=143) (nm:=some) (λ_ _ h=>(Option.some.inj h).symm) rfl (by kernel_rfl) (by kernel_rfl) (AY (by kernel_rfl)) (AY (by kernel_rfl)) rfl z hc.1 hc.2)
 .cases h))
def vr (B:Trace):Option ((Sl (Sl Int))×Int):=
 (iY B).bind λu=>
 (eW u.1).bind λw=>
 some (w,u.2)
instance TB (B:Trace):Fc Sy cL (vr B):=Fc.N 64 [enc B] (ck 2 1 B (bA 7 λu _=>bA 10 λw _=>aZ))
def qC (B:Trace):Option ((Sl (Sl Int))×Int):=
 (vr B).bind λu=>
 some (u.1,u.2)
instance TE (B:Trace):Fc Sy cL (qC B):=Fc.N 34 [enc B] (ck 2 1 B (bA 7 λu _=>aZ))
namespace iz
def bK (G:Sl Int) (J:Int) (B:Sl aY) (D:Int):Option (Fw ((Sl aY)×Int) (Sl aY) Empty):=
 bp (decide (D<J))
 ((idx G D).bind λu=>
 bp (decide (u>0))
 ((fZ B (⟨D,u⟩:aY)).bind λw=>
 some (.n (w,IntKind.wrap .i64 (D+1))))
 (some (.n (B,IntKind.wrap .i64 (D+1)))))
 (some (.x B))
def W1 (B:Sl aY) (D:Sl Int) (G J:Int):Option ((Sl aY)×Int):=
 (cE (λq:(Sl aY)×Int=>bK D G q.1 q.2) (B,J)).bind (Fw.elim
 (λe=>some (e,0))
 (λe=>Empty.elim e))
end iz
def iz (D:Trace) (B:Sl Int):Option ((Sl aY)×Int):=
 (e8 D (Sl.row [B]:Sl (Sl Int)) (Sl.nil:Sl Int)).bind λu=>
 bp (u==0)
 (iz.W1 (Sl.nil:Sl aY) B (len B) 0)
 (some (Sl.nil,u))
open iz in
instance QT (D:Trace) (B:Sl Int):Fc Sy cL (iz D B):=Fc.N 100 [enc D,enc B] (ck 2 2 D (Ga 9 12 ([B]:List (Sl Int)) (dg 0 λz _=>dK 9 15 (cz 12 B (k9 6 (λu=>(cK [Ov 7,Cv 17 B,Iv 18 (len B),Iv 19 u.2] [Lb 2007 u.1])) (λw=>(0,(cK [Ov 7] [Lb 2007 w]))) (λu=>bB 8 20 (cg 8 λA _=>bB 11 25 (qq 7 2007 30 31 λC _=>aZ) aZ) aZ) (λw=>aZ))) aZ)))
namespace fQ
def bK (G:Sl Int) (J:Int) (T:Trace) (D:Sl (Sl Int)) (B:Int):Option (Fw ((Sl (Sl Int))×Int) (Sl (Sl Int)) Empty):=
 bp (decide (B<J))
 ((idx G B).bind λu=>
 (idx T.procs B).bind λw=>
 (eD w u).bind λz=>
 (fZ D (z:Sl Int)).bind λA=>
 some (.n (A,IntKind.wrap .i64 (B+1))))
 (some (.x D))
def W1 (B:Sl (Sl Int)) (D:Sl Int) (G J:Int) (T:Trace):Option ((Sl (Sl Int))×Int):=
 (cE (λq:(Sl (Sl Int))×Int=>bK D G T q.1 q.2) (B,J)).bind (Fw.elim
 (λe=>some (e,0))
 (λe=>Empty.elim e))
end fQ
def fQ (D:Trace) (B:Sl Int):Option ((Sl (Sl Int))×Int):=
 (iz D B).bind λu=>
 bp (u.2==0)
 (fQ.W1 (Sl.nil:Sl (Sl Int)) B (len B) 0 D)
 (some (Sl.nil,u.2))
open fQ in
instance RY (D:Trace) (B:Sl Int):Fc Sy cL (fQ D B):=Fc.N 68 [enc D,enc B] (ck 2 2 D (bA 9 λA _=>dK 13 18 (cz 12 B (k9 6 (λu=>(cK [Pv 2,Ov 8,Cv 20 B,Iv 21 (len B),Iv 22 u.2] [Xb 2 D,Lb 2008 u.1])) (λw=>(0,(cK [Ov 8] [Lb 2008 w]))) (λu=>bB 8 23 (cg 8 λC _=>cg 10 λG _=>bA 2 λz _=>Ga 0 35 ([z]:List (Sl Int)) (qq 0 2008 35 36 λI _=>aZ)) aZ) (λw=>aZ))) aZ))
namespace eX
def bK (W J:Sl (Sl Int)) (T:Int) (G:Trace) (U:Pred) (B:Sl Bool) (D:Int):Option (Fw ((Sl Bool)×Int) (Sl Bool) ((Sl (Sl Int))×(Sl Bool)×Int)):=
 bp (decide (D<T))
 ((idx J D).bind λw=>
 (fQ G w).bind λu=>
 bp (u.2==0)
 ((dc (⟨G,w,u.1⟩:br) U).bind λz=>
 (fZ B (z:Bool)).bind λA=>
 some (.n (A,IntKind.wrap .i64 (D+1))))
 (some (.r ((Sl.nil:Sl (Sl Int)),(Sl.nil:Sl Bool),u.2))))
 (some (.x B))
def W1 (W:Sl (Sl Int)) (B:Sl Bool) (D:Sl (Sl Int)) (G J:Int) (T:Trace) (U:Pred):Option ((Sl (Sl Int))×(Sl Bool)×Int):=
 (cE (λq:(Sl Bool)×Int=>bK W D G T U q.1 q.2) (B,J)).bind (Fw.elim
 (λe=>some (W,e,0))
 (λe=>some (e.1,e.2.1,e.2.2)))
end eX
def eX (B:Trace) (p1:Pred):Option ((Sl (Sl Int))×(Sl Bool)×Int):=
 (iR B p1).bind λw=>
 bp (w==0)
 ((jK p1 2).bind λz=>
 bp (z==0)
 ((kA p1).bind λA=>
 bp A
 (some (Sl.nil,(Sl.nil:Sl Bool),15))
 ((qC B).bind λu=>
 bp (u.2==0)
 (eX.W1 u.1 (Sl.nil:Sl Bool) u.1 (len u.1) 0 B p1)
 (some (Sl.nil,(Sl.nil:Sl Bool),u.2))))
 (some (Sl.nil,(Sl.nil:Sl Bool),z)))
 (some (Sl.nil,(Sl.nil:Sl Bool),w))
open eX in
instance Qt (B:Trace) (p1:Pred):Fc Sy cL (eX B p1):=Fc.N 60 [enc B,enc p1] (ck 2 2 B (ck 0 3 p1 (bA 10 λD _=>dK 9 20 (bA 7 λG _=>dK 9 25 (bA 7 λI _=>bB 2 28 aZ (bA 6 λw _=>dK 14 35 (cz 12 w.1 (iI 6 (λz=>(cK [Pv 2,Pv 3,Cv 9 w.1,Ov 11,Cv 37 w.1,Iv 38 (len w.1),Iv 39 z.2] [Xb 2 B,Xb 3 p1,Lb 2011 z.1])) (λu=>(0,(cK [Cv 9 w.1,Ov 11] [Lb 2011 u]))) (λu=>(cK [Cv 4 u.1,Ov 5,Iv 6 u.2.2] [Lb 2005 u.2.1])) (λz=>bB 8 40 (cg 7 λA _=>bA 8 λC _=>dK 14 50 (Gi 8 (⟨B,A,C.1⟩:br) [enc B,enc A,enc C.1] [.bE,.bE,.bE] [(0,1),(1,1),(2,1)] (by simp only[qZ,tq,iS,wQ,uK,wJ,wD];rfl) rfl (bA 1 λJ _=>qq 1 2011 59 60 λL _=>aZ)) aZ) aZ) (λu=>aZ) (λu=>aZ))) aZ)) aZ) aZ)))
def su (B:Trace) (p1:Pred):Option ((Sl Bool)×Int):=
 (eX B p1).bind λu=>
 some (u.2.1,u.2.2)
instance N4 (B:Trace) (p1:Pred):Fc Sy cL (su B p1):=Fc.N 27 [enc B,enc p1] (ck 2 2 B (ck 0 3 p1 (bA 8 λu _=>aZ)))
namespace gO
def J2 (J:Sl Int) (B:Int) (D:Sl (Sl Int)) (G:Trace) (T:br):Option (br×Int):=
 some (⟨G,J,D⟩,B)
def J1 (T:Sl Int) (B G:Int) (D:Trace) (J:Pred) (U:br):Option (br×Int):=
 bp (G==0)
 ((fQ D T).bind λu=>
 bp (u.2==0)
 ((jK J B).bind λw=>
 (bp (w==0)
 ((kA J).bind λz=>
 some z)
 (some false):Option Bool).bind λA=>
 bp A
 (gO.J2 T 15 u.1 D (⟨⟨Sl.nil⟩,Sl.nil,Sl.nil⟩:br))
 (gO.J2 T w u.1 D (⟨⟨Sl.nil⟩,Sl.nil,Sl.nil⟩:br)))
 (some (⟨⟨Sl.nil⟩,Sl.nil,Sl.nil⟩,u.2)))
 (some (⟨⟨Sl.nil⟩,Sl.nil,Sl.nil⟩,G))
theorem jd (G:Sl Int) (D J:Int) (B:Trace) (T:Pred) (U:br):Le ((J1 G D J B T U).bind (λr=>some [enc r.1,.int .i64 r.2])) (bX Sy cL (nk (tr Tx 45)) (oF (tb Tx 45) [1,1,1,0] [] (cK [Cv 1 G,Iv 3 D,Pv 4,Pv 6,Pv 8,Iv 10 J] [Xb 4 B,Xb 6 T,Xb 8 (⟨⟨Sl.nil⟩,Sl.nil,Sl.nil⟩:br)]))):=
 dK 7 26 (bA 7 λu _=>dK 14 36 (bA 8 λw _=>b_ 8 3 [6,44] 47 (bB 8 44 (bA 1 λz _=>bt 1) (bt 3)) λA=>bB 2 47 (tN 6 (Gi 5 (⟨B,G,u.1⟩:br) [enc B,enc G,enc u.1] [.bE,.bE,.bE] [(0,1),(1,1),(2,1)] (by simp only[qZ,tq,iS,wQ,uK,wJ,wD];rfl) rfl (pP 1 8 0 (⟨B,G,u.1⟩:br) aZ))) (tN 4 (Gi 5 (⟨B,G,u.1⟩:br) [enc B,enc G,enc u.1] [.bE,.bE,.bE] [(0,1),(1,1),(2,1)] (by simp only[qZ,tq,iS,wQ,uK,wJ,wD];rfl) rfl (pP 1 8 0 (⟨B,G,u.1⟩:br) aZ)))) (Gi 3 (⟨⟨Sl.nil⟩,Sl.nil,Sl.nil⟩:br) [] [.bE,.bE,.bE] [] (by simp only[qZ,tq,iS,wQ,uK,wJ,wD];rfl) rfl (pP 1 8 0 (⟨⟨Sl.nil⟩,Sl.nil,Sl.nil⟩:br) aZ))) (Gi 3 (⟨⟨Sl.nil⟩,Sl.nil,Sl.nil⟩:br) [] [.bE,.bE,.bE] [] (by simp only[qZ,tq,iS,wQ,uK,wJ,wD];rfl) rfl (pP 1 8 0 (⟨⟨Sl.nil⟩,Sl.nil,Sl.nil⟩:br) aZ))
end gO
def gO (D:Trace) (G:Sl Int) (p2:Pred) (B:Int):Option (br×Int):=
 (iR D p2).bind λu=>
 (bp (u==1)
 (some false)
 (some (!((len G)==(len D.procs)))):Option Bool).bind λw=>
 bp w
 (gO.J1 G B 1 D p2 (⟨⟨Sl.nil⟩,Sl.nil,Sl.nil⟩:br))
 (gO.J1 G B u D p2 (⟨⟨Sl.nil⟩,Sl.nil,Sl.nil⟩:br))
open gO in
instance RX (D:Trace) (G:Sl Int) (p2:Pred) (B:Int):Fc Sy cL (gO D G p2 B):=Fc.N 45 [enc D,enc G,enc p2,.int .i64 B] (ck 2 4 D (ck 0 6 p2 (bA 8 λu _=>b_ 9 7 [17] 24 (dK 9 17 (bt 7) (cz 1 G (cz 2 D.procs (bt 2)))) λw=>bB 2 24 (nq 6 (jd G B 1 D p2 (⟨⟨Sl.nil⟩,Sl.nil,Sl.nil⟩:br))) (nq 4 (jd G B u D p2 (⟨⟨Sl.nil⟩,Sl.nil,Sl.nil⟩:br))))))
def qh (B:Trace) (D:Sl Int) (p2:Pred):Option (Bool×Int):=
 (gO B D p2 2).bind λu=>
 bp (u.2==0)
 ((dc u.1 p2).bind λw=>
 some (w,0))
 (some (false,u.2))
instance PW (B:Trace) (D:Sl Int) (p2:Pred):Fc Sy cL (qh B D p2):=Fc.M 14 [enc B,enc D,enc p2] (ck 2 3 B (ck 0 5 p2 (bA 9 λu _=>pP 4 8 0 u.1 (dK 10 18 (bA 7 λw _=>aZ) aZ))))
namespace dM
def bK (D:Int) (l7 G:Sl Bool) (W:Sl (Sl Int)) (Y:Int) (J:Trace) (aa:Pred) (B:Int):Option (Fw Int Unit Unit):=
 bp (decide (B<Y))
 ((idx W B).bind λu=>
 (bp ((len u)==(len J.procs))
 ((idx u D).bind λz=>
 some (decide (z<0)))
 (some true):Option Bool).bind λA=>
 (bp A
 (some true)
 ((idx u D).bind λC=>
 some (decide (C>=(len l7)))):Option Bool).bind λI=>
 (bp I
 (some true)
 ((idx G B).bind λL=>
 (idx u D).bind λO=>
 (idx l7 O).bind λQ=>
 some (!(L==Q))):Option Bool).bind λS=>
 bp S
 (some (.r ()))
 ((qh J u aa).bind λw=>
 (bp (w.2==0)
 ((idx G B).bind λT=>
 some (!(w.1==T)))
 (some true):Option Bool).bind λU=>
 bp U
 (some (.r ()))
 (some (.n (IntKind.wrap .i64 (B+1))))))
 (some (.x ()))
def W1 (D:Int) (Y B:Sl Bool) (J:Sl (Sl Int)) (T G:Int) (U:Trace) (W:Pred):Option Bool:=
 (cE (λq:Int=>bK D Y B J T U W q) G).bind (Fw.elim
 (λe=>some true)
 (λe=>some false))
end dM
def dM (D:Trace) (B:Int) (p2:Pred):Option Bool:=
 (u5).bind λQ=>
 bp Q
 ((uB D).bind λS=>
 (bp S
 (some true)
 ((sX p2).bind λT=>
 some T):Option Bool).bind λU=>
 (bp U
 (some true)
 ((gQ D).bind λW=>
 some W):Option Bool).bind λX=>
 bp X
 (some true)
 ((eF D B p2).bind λz=>
 bp (z.2==0)
 ((su D p2).bind λu=>
 (qC D).bind λw=>
 bp (u.2==16)
 ((bp (w.2==16)
 (some ((len u.1)==0))
 (some false):Option Bool).bind λA=>
 some A)
 ((bp (u.2==0)
 (some (!(w.2==0)))
 (some true):Option Bool).bind λC=>
 (bp C
 (some true)
 (some (!((len u.1)==(len w.1)))):Option Bool).bind λG=>
 (bp G
 (some true)
 (some (decide (B<0))):Option Bool).bind λI=>
 (bp I
 (some true)
 (some (decide (B>=(len D.procs)))):Option Bool).bind λJ=>
 (bp J
 (some true)
 ((idx D.procs B).bind λL=>
 some (!((len z.1)==(IntKind.wrap .i64 ((len L.events)+1))))):Option Bool).bind λO=>
 bp O
 (some false)
 (dM.W1 B z.1 u.1 w.1 (len w.1) 0 D p2)))
 (some ((len z.1)==0))))
 (some false)
open dM in
instance vX (D:Trace) (B:Int) (p2:Pred):Fc Sy cL (dM D B p2):=Fc.M 8 [enc D,.int .i64 B,enc p2] (ck 2 3 D (ck 0 5 p2 (bA 6 λai _=>dK 3 18 (bA 7 λaj _=>b_ 1 3 [21] 24 (bB 1 21 (bt 3) (bA 1 λak _=>bt 1)) λal=>b_ 1 3 [25] 28 (bB 1 25 (bt 3) (bA 1 λam _=>bt 1)) λan=>bB 2 28 aZ (bA 8 λu _=>dK 14 37 (bA 7 λz _=>bA 10 λw _=>bB 14 53 (b_ 6 4 [9,56] 60 (bB 6 56 (cz 1 z.1 (bt 2)) (bt 4)) λJ=>aZ) (b_ 9 3 [12,63] 66 (dK 9 63 (bt 3) (bt 3)) λL=>b_ 1 6 [67] 73 (bB 1 67 (bt 6) (cz 1 z.1 (cz 1 w.1 (bt 2)))) λO=>b_ 1 3 [74] 77 (bB 1 74 (bt 3) (bt 3)) λQ=>b_ 1 6 [78] 84 (bB 1 78 (bt 6) (cz 3 D.procs (bt 2))) λS=>b_ 1 12 [85] 97 (bB 1 85 (bt 12) (cz 1 u.1 (cg 3 λC _=>cz 2 C.events (bt 3)))) λT=>bB 2 97 aZ (cz 7 w.1 (iI 5 (λG=>(cK [Iv 1 B,Pv 3,Pv 5,Cv 7 u.1,Cv 9 z.1,Cv 98 w.1,Iv 99 (len w.1),Iv 100 G] [Xb 3 D,Xb 5 p2])) (λA=>(0,(cK [] []))) (λA=>(cK [Bv 6 false] [])) (λG=>bB 7 101 (cg 8 λI _=>cz 9 I (cz 2 D.procs (b_ 2 6 [111] 117 (dK 2 111 (cg 2 λU _=>bt 3) (bt 6)) λW=>b_ 1 8 [118] 126 (bB 1 118 (bt 8) (cg 2 λX _=>cz 2 u.1 (bt 2))) λY=>b_ 1 13 [127] 140 (bB 1 127 (bt 13) (cg 2 λZ _=>cg 4 λaa _=>cg 1 λab _=>bt 3)) λad=>bB 2 140 aZ (bA 8 λae _=>b_ 12 7 [13,15,150] 157 (dK 12 150 (cg 3 λaf _=>bt 3) (bt 7)) λah=>bB 2 157 aZ aZ)))) aZ) (λA=>aZ) (λA=>aZ))))) (cz 4 u.1 aZ))) aZ)))
end
end Go.VE
