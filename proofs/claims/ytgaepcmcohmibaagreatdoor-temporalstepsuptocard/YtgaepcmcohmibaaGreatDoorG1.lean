/- Functions. -/
import Derived.Test.YtgaepcmcohmibaaGreatDoorK1
import Derived.Test.YtgaepcmcohmibaaGreatDoorT1
set_option linter.all false
open List(all_cons all_nil map_cons)
open Go.IntKind(signed wrap)
open Nat(beq)
open Empty(elim)
open ByteArray(toList)
namespace Go.VE
theorem Zf{p:Prop}(h:p:=by kernel_rfl):p:=h
structure Pred where
 kind:Int
 n:Int
 proc:Int
 peer:Int
 name:ByteArray
 l:Sl Pred
mutual
def Pred.Sn:Pred->Zu
 |⟨f0,f1,B,D,G,f5⟩=>[.int .i64 f0,.int .i64 f1,.int .i64 B,.int .i64 D,.str G,Pred.Fu f5]
def Pred.Fu:Sl Pred->V
 |.nil=>.bD|.emp=>.c7|.row l=>.fsl 6 (Pred.Mx l)|.part l=>.fsl 6 (Pred.Mx l)
def Pred.Mx:aX Pred->Zt
 |[]=>[]|x::r=>Pred.Sn x::Pred.Mx r
end
instance:Inhabited Pred:=⟨⟨default,default,default,default,default,Sl.nil⟩⟩
mutual
theorem Pred.Qz:∀x:Pred,V.cB x.Sn=true
 |⟨f0,f1,B,D,G,f5⟩=>by simp only[Pred.Sn,V.cB,V.good,Pred.Gx,Bool.and_self]
theorem Pred.Gx:∀x:Sl Pred,V.good (Pred.Fu x)=true
 |.nil=>rfl|.emp=>rfl|.row l=>by simp only[Pred.Fu,V.good,Pred.Al]|.part l=>by simp only[Pred.Fu,V.good,Pred.Al]
theorem Pred.Al:∀x:aX Pred,V.l9 (Pred.Mx x)=true
 |[]=>rfl|x::r=>by simp only[Pred.Mx,V.l9,Pred.Qz,Pred.Al,Bool.and_self]
end
theorem Pred.QU(s:Sl Pred):V.one (Pred.Fu s)=true:=by cases s<;>simp[Pred.Fu,V.one]
instance:bp Pred where
 cells x:=[.int .i64 x.kind,.int .i64 x.n,.int .i64 x.proc,.int .i64 x.peer,.str x.name,Pred.Fu x.l]
 agg:=true
 size:=6
 len _:=rfl
 good x:=by simp only[V.cB,V.good,Pred.Gx,Bool.and_self]
 one x:=by simp only[all_cons,all_nil,o9,ng,oR,Pred.QU,Bool.and_self]
 plain h:=by cases h
structure Var where
 name:ByteArray
 init_:Int
 deriving Inhabited
instance:bp Var where
 cells x:=[.str x.name,.int .i64 x.init_]
 agg:=true
 size:=2
 len _:=rfl
 good x:=by simp only[V.cB,V.good,kf,Bool.and_self]
 one x:=by simp only[all_cons,all_nil,o9,ng,oR,ot,Bool.and_self]
 plain h:=by cases h
structure Assign where
 var:Int
 value:Int
 deriving Inhabited
instance:bp Assign where
 cells x:=[.int .i64 x.var,.int .i64 x.value]
 agg:=true
 size:=2
 len _:=rfl
 good x:=by simp only[V.cB,V.good,kf,Bool.and_self]
 one x:=by simp only[all_cons,all_nil,o9,ng,oR,ot,Bool.and_self]
 plain h:=by cases h
structure Event where
 kind:Int
 peer:Int
 message:Int
 time:Int
 assign:Sl Assign
 deriving Inhabited
abbrev Zn:=Event
instance:bp Zn where
 cells x:=[.int .i64 x.kind,.int .i64 x.peer,.int .i64 x.message,.int .i64 x.time,enc x.assign]
 agg:=true
 size:=5
 len _:=rfl
 good x:=by simp only[V.cB,V.good,kf,Bool.and_self]
 one x:=by simp only[all_cons,all_nil,o9,ng,oR,ot,Bool.and_self]
 plain h:=by cases h
structure cn where
 name:ByteArray
 vars:Sl Var
 events:Sl Event
 deriving Inhabited
instance:bp cn where
 cells x:=[.str x.name,enc x.vars,enc x.events]
 agg:=true
 size:=3
 len _:=rfl
 good x:=by simp only[V.cB,V.good,kf,Bool.and_self]
 one x:=by simp only[all_cons,all_nil,o9,ng,oR,ot,Bool.and_self]
 plain h:=by cases h
structure Trace where
 procs:Sl cn
 deriving Inhabited
abbrev Zj:=Trace
instance:bp Zj where
 cells x:=[enc x.procs]
 agg:=true
 size:=1
 len _:=rfl
 good x:=by simp only[V.cB,V.good,kf,Bool.and_self]
 one x:=by simp only[all_cons,all_nil,o9,ng,oR,ot,Bool.and_self]
 plain h:=by cases h
structure br where
 from_:aZ
 to_:aZ
 deriving Inhabited
instance:bp br where
 cells x:=[.int .i64 x.from_.proc,.int .i64 x.from_.index,.int .i64 x.to_.proc,.int .i64 x.to_.index]
 agg:=true
 size:=4
 len _:=rfl
 good x:=by simp only[V.cB,V.good,kf,Bool.and_self]
 one x:=by simp only[all_cons,all_nil,o9,ng,oR,ot,Bool.and_self]
 plain h:=by cases h
structure bZ where
 lengths:Sl Int
 need:Sl (Sl aZ)
 deriving Inhabited
instance:bp bZ where
 cells x:=[enc x.lengths,enc x.need]
 agg:=true
 size:=2
 len _:=rfl
 good x:=by simp only[V.cB,V.good,kf,Bool.and_self]
 one x:=by simp only[all_cons,all_nil,o9,ng,oR,ot,Bool.and_self]
 plain h:=by cases h
structure bQ where
 t:Trace
 l:Sl (Sl Int)
 next:Sl (Sl Int)
 deriving Inhabited
instance:bp bQ where
 cells x:=[enc x.t.procs,enc x.l,enc x.next]
 agg:=true
 size:=3
 len _:=rfl
 good x:=by simp only[V.cB,V.good,kf,Bool.and_self]
 one x:=by simp only[all_cons,all_nil,o9,ng,oR,ot,Bool.and_self]
 plain h:=by cases h
def hD(p:Int):Int->aX Zn->aX (aZ×Zn)
 |_,[]=>[]|j,e::r=>(⟨p,j+1⟩,e)::hD p (j+1) r
def eY:Int->aX cn->aX (aZ×Zn)
 |_,[]=>[]|i,p::r=>hD i 0 p.events.l++eY (i+1) r
def ED(n:Nat):Zl:=decide (n<9223372036854775807)
def iF(t:Zj):aY (aX (aZ×Zn)):=if ED t.procs.l.length&&t.procs.l.all λp=>ED p.events.l.length then some (eY 0 t.procs.l)else none
end Go.VE
namespace Go.VE
def Po:Nat->Nat->Nat->Zv
 |0,_,_=>[]|f+1,i,m=>bif m % 2==1 then i::Po f (i+1) (m / 2)else Po f (i+1) (m / 2)
def gK(g m:Nat)(l:Zv:=[]):Gh:=.keep (Po 128 0 g) (Po 128 0 m++l)
def g2(n g m:Nat)(l:Zv:=[]):Nat×Z5×Z5:=(n,[gK g m l],[gK g m l])
def g1(n g m:Nat)(l:Zv:=[]):Nat×Z5×Z5:=(n,[gK g m l],[])
def G2(n:Nat)(x:Z5):Nat×Z5×Z5:=(n,x,x)
def G1(n:Nat)(x:Z5):Nat×Z5×Z5:=(n,x,[])
def cS(i n:Nat):Gh:=.canon (.s i) (2000+i) n
def cC(i j n:Nat):Gh:=.canon (.c i j) (4000+20*i+j) n
def e0(n m:Nat):Nat×GD:=(n,⟨m,[],[]⟩)
def e1(n m:Nat)(l:aX (Nat×Z5×Z5)):Nat×GD:=(n,⟨m,[],l⟩)
def Kw:aX (Nat×GD):=[ e1 39 0x22226260002000201 [g2 6 387 0,g1 12 0 0,g1 22 16 0,g1 27 16 0],e0 15 0x226221,e1 40 0x22226260002000201 [g2 6 387 0,g1 12 0 0,g1 22 16 0,g1 27 16 0],e0 17 0x226221,e0 18 0x2222212,e0 16 0x264442644402222012,e1 5 0x26444264440264422022262222202000020012 [g2 8 906 2,g1 14 10 2],e0 59 0x26c4426201,e0 129 0x26c4444026402201,e0 130 0x26442201,e1 88 0x22064c402644c00222600200020064440264402201 [g1 8 4 0,g2 14 786433 0,g1 20 0 0,g1 30 4 0,g1 35 4 0],e0 89 0x26222212,e0 91 0x26222212,e1 131 0x22226260002000201 [g2 6 387 0,g1 12 0 0,g1 22 16 0,g1 27 16 0],e0 90 0x226221,e1 60 0x222222022222026c0c4402222022020000020022220026c0c44422220202602012 [g1 11 16 0,g1 17 16 0,g2 23 30064771104 32,g1 29 32 32,g1 40 16 0,g1 46 16 0,g1 55 16 0,g1 59 16 0],e0 61 0x2212,e1 93 0x2644426c4402622222022202644422202020122 [g1 18 524330 40],e0 95 0x26222212,e1 132 0x22226260002000201 [g2 6 387 0,g1 12 0 0,g1 22 16 0,g1 27 16 0],e0 94 0x226221,e1 62 0x2202626220026444022622202022020000020022220026c44022220022e02222226220202200202620201222 [g1 12 440 184,g1 19 64 0,g1 25 64 0,g1 31 64 0,g2 37 31525197391593632 160,g1 43 0 0,g1 54 64 0,g1 60 64 0,g1 65 64 0],e0 133 0x26c44426c440222012,e0 96 0x2662262221222,e1 63 0x2202326222002202001ef200220022022226200223262220022022226200202022020202020200002 [(8,[gK 4158 1086],[gK 0 1086]),g1 27 0 1086,g1 39 0 1086,g1 47 0 1086,g1 53 28 1052],e1 97 0x222622262222264444c4400222020262222262622020262020222620220122 [G1 12 [cS 7 2,gK 418 32 [2007]]],e1 64 0x20222622230026000226002020000e200262220202622002202202020200022 [(6,[gK 8252 60],[gK 0 60]),G2 14 [cS 8 2,gK 8700 65660 [2008]],g1 20 8252 60,G2 29 [cS 8 2,gK 481036345852 65660 [2008]],G1 35 [cS 8 2,gK 8700 65660 [2008]],g1 46 0 60,g1 58 48 48],e1 41 0x20022222020262222222022202002202222202e2002020202222222202600200022002022220002 [g1 8 12 12,g2 14 12582926 14,g1 20 14 14,g1 32 12 12,(39,[gK 68719476750 14],[gK 0 14]),g1 51 0 14,g1 61 12 12,g1 71 12 12,g1 75 12 12],e0 19 0x2222302022212,e0 20 0x26442201,e1 140 0x200226c0442602020202202022000222 [g1 8 192 192,(14,[gK 33008 240],[gK 0 240]),g1 24 0 240,g1 28 192 192],e0 104 0x2220622102,(134,⟨0x2222306222030622222022262222302622022002020000200202000020002,[(53,[.closeS (.s 49)]),(59,[.closeS (.c 3 0),.closeS (.c 3 1)])],[G2 8 [cC 3 0 1,cC 3 1 1,gK 14350 14 [4060,4061]],G1 14 [cC 3 0 1,cC 3 1 1,gK 12 12 [4060,4061]],G2 25 [cS 6 2,cC 3 0 1,cC 3 1 1,gK 1849454 46 [2006,4060,4061]],G1 31 [cS 6 2,cC 3 0 1,cC 3 1 1,gK 14446 46 [2006,4060,4061]],G1 44 [cS 6 2,cC 3 0 1,cC 3 1 1,gK 1849966 558 [2006,4060,4061]]]⟩),e0 153 0x26262222020262620260220626020260012,e1 56 0x26200201 [G1 8 [.canon (.s 2) 4004 1],G1 12 [.canon (.s 2) 4004 1]],e0 187 0x26201,e0 171 0x62206000200222202201,e1 156 0x62222222220262222620062002220000001 [g2 6 3587 0,g1 12 3 0,g1 23 16 0,g1 34 16 0,g1 43 16 0,g1 47 16 0],e0 155 0x26221,e1 159 0x2206262026002000200620201 [g1 8 16 0,g2 14 12291 0,g1 20 0 0,g1 30 16 0,g1 35 16 0],e0 158 0x26221,(135,⟨0x222302222262223622020220e0002000202200002012,[(32,[.closeS (.s 34)])],[G2 8 [cS 5 1,gK 7204 4 [2005]],G1 14 [cS 5 1,gK 32 0 [2005]],G2 22 [cS 5 1,gK 400548 4 [2005]],G1 28 [cS 5 1,gK 7204 4 [2005]]]⟩),(98,⟨0x2226202620200202620222000222222202000220112,[(16,[.closeS (.s 16)])],[G1 8 [cS 2 1,gK 12 0 [2002]],G2 20 [.closeS (.s 5),cS 6 1,gK 240 16 [2006]],G1 26 [cS 6 1,gK 64 0 [2006]],G1 37 [cS 2 1,gK 12 0 [2002]],G1 43 [cS 2 1,gK 12 0 [2002]]]⟩),e0 65 0x222222220222112,e0 42 0x222022112,e1 43 0x2222236222022200000222201 [G2 8 [cS 3 1,gK 3592 0 [2003]],G1 14 [cS 3 1,gK 8 0 [2003]]],e0 138 0x26222221,e1 160 0x22226260002000201 [g2 6 387 0,g1 12 0 0,g1 22 16 0,g1 27 16 0],e0 137 0x226221,e0 100 0x264c4422012,e1 101 0x2206c444c440422022200000212 [g2 6 900 4,g1 12 0 0,g1 22 16 0,g1 27 16 0],e0 102 0x26c444422012,e1 139 0x2200222202262222626200203202026220220220200000622260202220000001002 [g2 6 57398 52,g1 12 48 48,g2 20 939581622 52,g1 26 57398 52,g1 44 112 48,g1 50 112 48],e0 103 0x22223300200262212,e1 66 0x2202620220000222026202200002220262022000000260012 [g1 8 64 0,g2 14 917518 8,g1 20 14 8,g1 30 64 0,g2 37 1879048202 8,g1 43 10 8,g1 53 64 0,g2 60 3848290697224 8,g1 66 0 0,g1 76 64 0,g1 81 64 0],e0 67 0x262622220320202622202202026262022602012,e0 44 0x2236220202220022e002002622260202600202202e20200112,(21,⟨0x22223226222220022262622022222202e2002000200220000222600227222022200000020202202220220112,[(79,[.closeS (.s 74)])],[g2 18 234881106 16777218,g1 24 82 16777218,G2 37 [cC 40 2 1,gK 15393162789442 1099528404994 [4802]],G1 43 [cC 40 2 1,gK 512 1099511627776 [4802]],G2 54 [cS 12 1,cC 40 2 1,gK 859818092927554 1099528404994 [2012,4802]],G1 60 [cS 12 1,cC 40 2 1,gK 15393162793538 1099528404994 [2012,4802]]]⟩),e1 77 0x22226260002000201 [g2 6 387 0,g1 12 0 0,g1 22 16 0,g1 27 16 0],e0 50 0x226221,e0 30 0x2221,e0 29 0x2644422201,e0 45 0x26c4444402262226c4444402262222264422622202644226222021,(27,⟨0x2222236e2000022262262022200002602220020222222022222201,[(46,[.closeS (.s 50)])],[G2 8 [cS 5 1,gK 99 0 [2005]],G1 14 [cS 5 1,gK 32 0 [2005]],G2 23 [cS 5 1,cS 7 1,gK 30064771299 0 [2005,2007]],G1 29 [cS 5 1,cS 7 1,gK 227 0 [2005,2007]]]⟩),(22,⟨0x2662122,[(5,[.closeB 4,.closeB 5])],[]⟩),e0 6 0x2e222002622220202022202220222002220002220112,e0 141 0x26c4444026402201,e0 142 0x26442201,e1 105 0x222064c002644c00222600620000644402644022201 [g1 8 4 0,g2 14 9 0,g1 20 0 0,g1 28 4 0,g1 33 4 0],e0 106 0x26442201,e1 68 0x2222222022226020222062260202260206000022226020622000022202220620226020600002220202602012 [g1 10 16 0,g2 16 102 36,g1 22 32 32,g1 30 16 0,g1 39 16 0,g2 45 160 32,g1 51 32 32,g1 60 16 0,g2 66 416 32,g1 72 160 32,g1 80 16 0,g1 88 16 0,g1 97 16 0,g1 101 16 0],e1 69 0x2222220620226020600006444026c444c04040222020260206220000222006cc44c4444c04040440264402220064402644026c04026c44040264402644022200644022202202026022602012 [g1 13 64 0,g1 20 64 0,g1 22 142 136,g1 28 64 0,g1 36 64 0,g2 42 394 136,g1 48 0 0,g1 59 64 0,g2 64 1930 648,g1 70 394 136,g1 78 64 0,g1 84 64 0],e0 107 0x2262222262022022,e1 108 0x20222222262226c0442602020260226020622260200062200002 [g2 6 206 72,g1 12 64 64,g2 18 462 72,g1 24 206 72,g1 34 64 64,g1 40 64 64],e1 70 0x2222226cc40444cc4040444022202602262020622262020000220060e20200022020600122 [g2 30 236 44,g1 36 64 0],e1 71 0x22206222602026006220002222203622000622262002062202202026260022602062226020260062200002222012 [G2 6 [cS 3 1,gK 10 2 [2003]],G2 14 [cS 3 1,gK 58 2 [2003]],G1 20 [cS 3 1,gK 26 2 [2003]],G2 24 [cS 3 1,gK 58 2 [2003]],G1 30 [cS 3 1,gK 58 2 [2003]],G1 43 [cS 3 1,gK 58 2 [2003]],G1 46 [cS 3 1,gK 42 2 [2003]],G1 53 [cS 3 1,gK 10 2 [2003]],G2 59 [cS 3 1,gK 266 2 [2003]],g1 65 0 0,g1 73 4 0,g1 78 4 0],e1 109 0x22262622222202062026262202022200122 [G1 10 [cS 5 2,gK 44 12 [2005]],G1 20 [.canon (.s 4) 4004 2]],(72,⟨0x222222622600262000262016202620026202620022220220220262022226222222602026220000122,[(21,[.put 28])],[G2 8 [cS 5 1,.melt 2005,gK 108 12 [2005]],G1 14 [cS 5 1,.melt 2005,gK 44 12 [2005]],G2 23 [cS 5 1,.melt 2005,cS 7 2,gK 164 4 [2005,2007]],G1 29 [cS 5 1,.melt 2005,gK 32 0 [2005]],(37,[.take 2005 (.c 8 0) 1 6041],[.put 2005]),(42,[.take 2005 (.c 8 0) 1 6050],[.put 2005]),G2 48 [cS 5 1,.melt 2005,cS 7 2,cS 9 2,gK 1700 4 [2005,2007,2009]],G1 54 [cS 5 1,.melt 2005,cS 7 2,gK 164 4 [2005,2007]]]⟩),e1 46 0x202222220222620260600206200622260200062200002020222222222220260020620062226020006220002222222226222202e0006222602000622000222222222026006220000206444022220102 [g1 8 12 4,g2 14 22 6,g1 20 6 6,g1 30 12 4,g2 37 70 6,g1 43 6 6,g2 49 198 6,g1 55 70 6,g1 65 12 4,g2 73 518 6,g1 79 6 6,g2 85 1542 6,g1 91 518 6,g1 103 12 4,g1 113 12 4,g2 119 8198 6,g1 125 4 4,g2 131 24582 6,g1 137 8198 6,g1 147 12 4,g1 153 12 4],e0 23 0x2222302022212,e0 24 0x26442201,e0 74 0x2236226200026201,e1 110 0x22206c444c0404c0022260062000062202012 [g1 8 16 0,g2 14 38 4,g1 20 0 0,g1 28 16 0,g1 33 16 0],e1 111 0x2222220626220202062202202026022602062600006200012 [g2 6 38 4,g1 12 0 0,g2 18 102 4,g1 24 38 4,g1 39 16 0,g1 46 16 0],e0 73 0x26c44260012,e1 47 0x2222226260026cc000262226020260062000012 [G2 8 [cS 5 1,gK 102 4 [2005]],G1 14 [cS 5 1,gK 32 0 [2005]]],e1 112 0x2222226260026200001 [g2 8 25 0,g1 14 8 0],e1 75 0x222262622260262600260062000262222620201 [g1 8 16 0,g2 14 35 0,g1 20 0 0,g1 28 16 0,g1 33 16 0],e1 76 0x2220626002600620000620201 [g1 8 16 0,g2 14 35 0,g1 20 0 0,g1 28 16 0,g1 33 16 0],e1 48 0x26622226222266000226c04c00262002226c04c002620001 [g2 6 35 0,g1 12 35 0],(25,⟨0x222222222226260026200026260006200000022026022200222220112,[(7,[.closeS (.s 13)])],[G2 8 [.closeS (.s 4),cS 5 1,gK 50 2 [2005]],G1 14 [cS 5 1,gK 32 0 [2005]],G1 24 [cS 2 1,gK 12 0 [2002]],G2 32 [.closeS (.s 4),cS 5 1,gK 242 2 [2005]],G1 38 [cS 5 1,gK 98 2 [2005]],G2 46 [.closeS (.s 4),cS 5 1,gK 1010 2 [2005]],G1 52 [.closeS (.s 4),cS 5 1,gK 242 2 [2005]],G1 61 [cS 2 1,gK 12 0 [2002]]]⟩),e1 78 0x22222602600620001 [g2 6 35 0,g1 12 0 0,g1 20 16 0,g1 25 16 0],(51,⟨0x22222222366262600026000062000262600062000222012,[(5,[.melt 11])],[G2 8 [cS 5 1,.melt 2005,gK 102 4 [2005]],G1 14 [cS 5 1,.melt 2005,gK 32 0 [2005]],G2 22 [cS 5 1,.melt 2005,gK 486 4 [2005]],G1 28 [cS 5 1,.melt 2005,gK 102 4 [2005]],(31,[.take 2005 (.s 6) 1 6030],[.put 2005])]⟩),e1 31 0x22222366ccc44404c44044c002260000222264c4c04c00022264c4c04c0002262260000202226002022222220260212 [G2 10 [cS 12 1,gK 14364 0 [2012]],G1 16 [cS 12 1,gK 4096 0 [2012]],G2 25 [cS 12 1,gK 129052 0 [2012]],G1 31 [cS 12 1,gK 63516 0 [2012]]],e1 49 0x222223622600006200022201 [G2 8 [cS 3 1,gK 25 0 [2003]],G1 14 [cS 3 1,gK 8 0 [2003]]],(26,⟨0x22001ef222222001ef2222222001ef2222202001ef2222202222362260000620002220222160062000222012,[(46,[.closeS (.s 47)]),(54,[.closeS (.s 54)]),(62,[.closeS (.s 61),.closeS (.s 62)]),(69,[.closeS (.s 67),.closeS (.s 68)])],[G2 8 [cS 9 1,gK 1566 16 [2009]],G1 14 [cS 9 1,gK 542 16 [2009]],G2 25 [cS 9 1,cS 11 1,gK 6686 16 [2009,2011]],G1 31 [cS 9 1,cS 11 1,gK 2590 16 [2009,2011]]]⟩),e0 7 0x2001ef22220062020002222202200022000220112,e0 28 0x26c4444c442260226c4444c442260221,(8,⟨0x26e20026c4444040262222020202220222022200220112222,[(47,[.closeB 7,.closeB 6,.closeB 5])],[]⟩),e0 9 0x2003ef22222006c40402620200022222022000220112,e1 10 0x2220626002600620000620201 [g1 8 16 0,g2 14 35 0,g1 20 0 0,g1 28 16 0,g1 33 16 0],e0 3 0x26c4426c4426c44262222202001ef222222202001ef000022202e02022202e000064402644022002012]
namespace trace_events_c1
def zX:Zy:=[o1 20 (.s 18) [],o2 21 (ix 5) [.s 16,.s 18] [],o2 22 (lD 5) [.s 21] [21],o2 6 (.a (.alloc 5 [.int .i64 0,.int .i64 0,.int .i64 0,.int .i64 0,.bD])) [] [],o1 5 (.s 20) [20],oz (.l (.store 5)) [.s 6,.s 22] [22]]
def w_:Zy:=[o1 23 (.s 0) [],o1 24 (.s 3) [],o1 25 (.s 5) [5],o2 26 (bI .add) [.s 25,.k (.int .i64 1)] [25],o2 27 (.p (.build [.int .i64 0,.int .i64 0] [(0,1),(1,1)])) [.s 24,.s 26] [24,26],o2 28 (lD 5) [.s 6] [6],o2 29 .c [.s 23,.s 27,.s 28] [23,27,28],o2 30 (.p .not) [.s 29] [29]]
def vh:Zy:=[o2 31 (bI .add) [.s 18,.k (.int .i64 1)] [],o1 18 (.s 31) [31]]
def D9:RC:=.hg (.seq (.ops [o2 19 (bI .lss) [.s 18,.s 17] []]) (.seq (.cond (.s 19) .skip (.exit 2)) (.seq (.block 3 (.seq (.ops zX) (.seq (.ops w_) (.cond (.s 30) .ret .skip)))) (.ops vh)))) (.keep [0,3,8,9,10,16,17,18] [])
def HI:Zy:=[o1 12 (.s 10) [],o2 13 (ix 3) [.s 8,.s 10] [],o2 14 (lD 3) [.s 13] [13],o2 4 (.a (.alloc 3 [.str ByteArray.empty,.bD,.bD])) [] [],o1 3 (.s 12) [12],oz (.l (.store 3)) [.s 4,.s 14] [14]]
def EN:Zy:=[o2 15 (fa 2) [.s 4] [],o2 16 (ld 1) [.s 15] [15],o2 17 ln [.s 16] [],o1 18 (.k (.int .i64 0)) []]
def DM:Zy:=[o2 32 (bI .add) [.s 10,.k (.int .i64 1)] [],o1 10 (.s 32) [32]]
def U2:RC:=.block 2 (.gh (.keep [0,3,8,9,10,16,17,18] []) (.loop D9))
def My:RC:=.hg (.seq (.ops [o2 11 (bI .lss) [.s 10,.s 9] []]) (.seq (.cond (.s 11) .skip (.exit 0)) (.seq (.block 1 (.seq (.ops HI) (.seq (.ops EN) U2))) (.ops DM)))) (.keep [0,8,9,10] [])
def Qa:Zy:=[o2 7 (fa 0) [.s 1] [1],o2 8 (ld 1) [.s 7] [7],o2 9 ln [.s 8] [],o1 10 (.k (.int .i64 0)) []]
def U1:RC:=.block 0 (.gh (.keep [0,8,9,10] []) (.loop My))
def text:RF:=⟨33,[],.seq (.ops Qa) U1⟩
section
variable{S:Sys}
abbrev I1(ps:Sl cn)(i:Int)(B:aX (aX V))(more:Bool)(y:Nat):St:=⟨[(0,.yl y),Cv 8 ps,Iv 9 (len ps),Iv 10 i],[],[],B,more,y⟩
abbrev I2(ps:Sl cn)(i:Int)(es:Sl Event)(j:Int)(B:aX (aX V))(more:Bool)(y:Nat):St:=⟨[(0,.yl y),Iv 3 i,Cv 8 ps,Iv 9 (len ps),Iv 10 i,Cv 16 es,Iv 17 (len es),Iv 18 j],[],[],B,more,y⟩
abbrev S2(ps:Sl cn)(i:Int)(es:Sl Event)(j:Int)(b:Bool)(B:aX (aX V))(more:Bool)(y:Nat):St:=⟨[(0,.yl y),Iv 3 i,Cv 8 ps,Iv 9 (len ps),Iv 10 i,Cv 16 es,Iv 17 (len es),Iv 18 j,Bv 19 b],[],[],B,more,y⟩
theorem SI(ps:Sl cn)(i:Int)(es:Sl Zn)(j:Int)(B:Zt)(more:Zl)(y:Nat)(D:decide (j<len es)=false):
 rn S.bare mD some (.rc D9) [] (I2 ps i es j B more y)=some (.exit 2,S2 ps i es j false B more y):=by
 refine Le.get ?_;refine Kf (n:=7) (fo':=.rc (.cond (.s 19) .skip (.exit 2))) (fs':=[.seq (.seq (.block 3 (.seq (.ops zX) (.seq (.ops w_) (.cond (.s 30) .ret .skip)))) (.ops vh)),.gst (.keep [0,3,8,9,10,16,17,18] [])]) (λb=>S2 ps i es j b B more y) D Zf ?_
 exact Le.of_eq Zf
theorem TI(ps:Sl cn)(i:Int)(es:Sl Zn)(j:Int)(e:Zn)(B:Zt)(more:Zl)(y:Nat)(D:decide (j<len es)=true)(G:idx es j=some e)(J:(!(more|| !B.isEmpty))=false):
 rn S.bare mD some (.rc D9) [] (I2 ps i es j ([enc (⟨i,wrap .i64 (j+1)⟩:aZ),enc e]::B) more y)=some (.norm,I2 ps i es (wrap .i64 (j+1)) B more y):=by
 refine Le.get ?_;refine Kt (n:=7) (fo':=.rc (.cond (.s 19) .skip (.exit 2))) (fs':=[.seq (.seq (.block 3 (.seq (.ops zX) (.seq (.ops w_) (.cond (.s 30) .ret .skip)))) (.ops vh)),.gst (.keep [0,3,8,9,10,16,17,18] [])]) (λb=>S2 ps i es j b ([enc (⟨i,wrap .i64 (j+1)⟩:aZ),enc e]::B) more y) D Zf ?_
 refine Nt G ?_;refine Nw 8 false [] (zX.drop 1) [.seq (.seq (.ops w_) (.cond (.s 30) .ret .skip)),.blk 3,.seq (.ops vh),.gst (.keep [0,3,8,9,10,16,17,18] [])] ⟨[(0,.yl y),Iv 3 i,Cv 8 ps,Iv 9 (len ps),Iv 10 i,Cv 16 es,Iv 17 (len es),Iv 18 j,Bv 19 true,Iv 20 j],[],[],([enc (⟨i,wrap .i64 (j+1)⟩:aZ),enc e]::B),more,y⟩ .i64 rfl Zf λx a=>?_
 obtain rfl:x=e:=Zd
 refine R3 1 false [] (zX.drop 3) [.seq (.seq (.ops w_) (.cond (.s 30) .ret .skip)),.blk 3,.seq (.ops vh),.gst (.keep [0,3,8,9,10,16,17,18] [])] ⟨[(0,.yl y),Iv 3 i,Cv 8 ps,Iv 9 (len ps),Iv 10 i,Cv 16 es,Iv 17 (len es),Iv 18 j,Bv 19 true,Iv 20 j,Cv 22 x],[],[],([enc (⟨i,wrap .i64 (j+1)⟩:aZ),enc x]::B),more,y⟩ [iv 0,iv 0,iv 0,iv 0,.v .bD] rfl (by simp only[bE,v8,oW,qM,pg,qC,sG,qN,sy,oQ,qT,vN,sJ,sq,sn,sj,uq,uv,qF,sK,SV.cu];rfl) Zf ?_
 refine Ast 1 false [] (zX.drop 5) [.seq (.seq (.ops w_) (.cond (.s 30) .ret .skip)),.blk 3,.seq (.ops vh),.gst (.keep [0,3,8,9,10,16,17,18] [])] ⟨[(0,.yl y),Iv 3 i,Cv 8 ps,Iv 9 (len ps),Iv 10 i,Cv 16 es,Iv 17 (len es),Iv 18 j,Bv 19 true,Cv 22 x,Pv 6,Iv 5 j],[Xb 6 (⟨0,0,0,0,.nil⟩:Zn)],[],([enc (⟨i,wrap .i64 (j+1)⟩:aZ),enc x]::B),more,y⟩ 6 0 x [iv 0,iv 0,iv 0,iv 0,.v .bD] ((cells x).map .v) rfl Zf ?_
 refine UM (n:=10) (q:=w_.drop 6) (fs':=[.seq (.cond (.s 30) .ret .skip),.blk 3,.seq (.ops vh),.gst (.keep [0,3,8,9,10,16,17,18] [])]) (st:=⟨[(0,.yl y),Iv 3 i,Cv 8 ps,Iv 9 (len ps),Iv 10 i,Cv 16 es,Iv 17 (len es),Iv 18 j,Bv 19 true,(23,.yl y),Cv 27 (⟨i,wrap .i64 (j+1)⟩:aZ),Cv 28 x],[Xb 6 x],[],([enc (⟨i,wrap .i64 (j+1)⟩:aZ),enc x]::B),more,y⟩) (vs:=[cv (⟨i,wrap .i64 (j+1)⟩:aZ),cv x]) Zf rfl Zf Zf rfl rfl ?_
 refine Kf (n:=3) (fo':=.rc (.cond (.s 30) .ret .skip)) (fs':=[.blk 3,.seq (.ops vh),.gst (.keep [0,3,8,9,10,16,17,18] [])]) (λb=>⟨[(0,.yl y),Iv 3 i,Cv 8 ps,Iv 9 (len ps),Iv 10 i,Cv 16 es,Iv 17 (len es),Iv 18 j,Bv 19 true,Bv 30 b],[Xb 6 x],[],B,more,y⟩) J Zf ?_
 exact Le.of_eq Zf
theorem Qe(ps:Sl cn)(i:Int)(es:Sl Zn)(j:Int)(e:Zn)(B:Zt)(more:Zl)(y:Nat)(D:decide (j<len es)=true)(G:idx es j=some e)(J:(!(more|| !B.isEmpty))=true):
 rn S.bare mD some (.rc D9) [] (I2 ps i es j ([enc (⟨i,wrap .i64 (j+1)⟩:aZ),enc e]::B) more y)=some (.ret,⟨[(0,.yl y),Iv 3 i,Cv 8 ps,Iv 9 (len ps),Iv 10 i,Cv 16 es,Iv 17 (len es),Iv 18 j,Bv 19 true,Bv 30 true],[Xb 6 e],[],B,more,y⟩):=by
 refine Le.get ?_;refine Kt (n:=7) (fo':=.rc (.cond (.s 19) .skip (.exit 2))) (fs':=[.seq (.seq (.block 3 (.seq (.ops zX) (.seq (.ops w_) (.cond (.s 30) .ret .skip)))) (.ops vh)),.gst (.keep [0,3,8,9,10,16,17,18] [])]) (λb=>S2 ps i es j b ([enc (⟨i,wrap .i64 (j+1)⟩:aZ),enc e]::B) more y) D Zf ?_
 refine Nt G ?_;refine Nw 8 false [] (zX.drop 1) [.seq (.seq (.ops w_) (.cond (.s 30) .ret .skip)),.blk 3,.seq (.ops vh),.gst (.keep [0,3,8,9,10,16,17,18] [])] ⟨[(0,.yl y),Iv 3 i,Cv 8 ps,Iv 9 (len ps),Iv 10 i,Cv 16 es,Iv 17 (len es),Iv 18 j,Bv 19 true,Iv 20 j],[],[],([enc (⟨i,wrap .i64 (j+1)⟩:aZ),enc e]::B),more,y⟩ .i64 rfl Zf λx a=>?_
 obtain rfl:x=e:=Zd
 refine R3 1 false [] (zX.drop 3) [.seq (.seq (.ops w_) (.cond (.s 30) .ret .skip)),.blk 3,.seq (.ops vh),.gst (.keep [0,3,8,9,10,16,17,18] [])] ⟨[(0,.yl y),Iv 3 i,Cv 8 ps,Iv 9 (len ps),Iv 10 i,Cv 16 es,Iv 17 (len es),Iv 18 j,Bv 19 true,Iv 20 j,Cv 22 x],[],[],([enc (⟨i,wrap .i64 (j+1)⟩:aZ),enc x]::B),more,y⟩ [iv 0,iv 0,iv 0,iv 0,.v .bD] rfl (by simp only[bE,v8,oW,qM,pg,qC,sG,qN,sy,oQ,qT,vN,sJ,sq,sn,sj,uq,uv,qF,sK,SV.cu];rfl) Zf ?_
 refine Ast 1 false [] (zX.drop 5) [.seq (.seq (.ops w_) (.cond (.s 30) .ret .skip)),.blk 3,.seq (.ops vh),.gst (.keep [0,3,8,9,10,16,17,18] [])] ⟨[(0,.yl y),Iv 3 i,Cv 8 ps,Iv 9 (len ps),Iv 10 i,Cv 16 es,Iv 17 (len es),Iv 18 j,Bv 19 true,Cv 22 x,Pv 6,Iv 5 j],[Xb 6 (⟨0,0,0,0,.nil⟩:Zn)],[],([enc (⟨i,wrap .i64 (j+1)⟩:aZ),enc x]::B),more,y⟩ 6 0 x [iv 0,iv 0,iv 0,iv 0,.v .bD] ((cells x).map .v) rfl Zf ?_
 refine UM (n:=10) (q:=w_.drop 6) (fs':=[.seq (.cond (.s 30) .ret .skip),.blk 3,.seq (.ops vh),.gst (.keep [0,3,8,9,10,16,17,18] [])]) (st:=⟨[(0,.yl y),Iv 3 i,Cv 8 ps,Iv 9 (len ps),Iv 10 i,Cv 16 es,Iv 17 (len es),Iv 18 j,Bv 19 true,(23,.yl y),Cv 27 (⟨i,wrap .i64 (j+1)⟩:aZ),Cv 28 x],[Xb 6 x],[],([enc (⟨i,wrap .i64 (j+1)⟩:aZ),enc x]::B),more,y⟩) (vs:=[cv (⟨i,wrap .i64 (j+1)⟩:aZ),cv x]) Zf rfl Zf Zf rfl rfl ?_
 refine Kt (n:=3) (fo':=.rc (.cond (.s 30) .ret .skip)) (fs':=[.blk 3,.seq (.ops vh),.gst (.keep [0,3,8,9,10,16,17,18] [])]) (λb=>⟨[(0,.yl y),Iv 3 i,Cv 8 ps,Iv 9 (len ps),Iv 10 i,Cv 16 es,Iv 17 (len es),Iv 18 j,Bv 19 true,Bv 30 b],[Xb 6 x],[],B,more,y⟩) J Zf ?_
 exact Le.of_eq Zf
abbrev S1(ps:Sl cn)(i:Int)(b:Bool)(B:aX (aX V))(more:Bool)(y:Nat):St:=⟨[(0,.yl y),Cv 8 ps,Iv 9 (len ps),Iv 10 i,Bv 11 b],[],[],B,more,y⟩
theorem RW(ps:Sl cn)(i:Int)(B:Zt)(more:Zl)(y:Nat)(D:decide (i<len ps)=false):
 rn S.bare mD some (.rc My) [] (I1 ps i B more y)=some (.exit 0,S1 ps i false B more y):=by
 refine Le.get ?_;refine Kf (n:=7) (fo':=.rc (.cond (.s 11) .skip (.exit 0))) (fs':=[.seq (.seq (.block 1 (.seq (.ops HI) (.seq (.ops EN) U2))) (.ops DM)),.gst (.keep [0,8,9,10] [])]) (λb=>S1 ps i b B more y) D Zf ?_
 exact Le.of_eq Zf
def Pt:Z3:=[.blk 2,.blk 1,.seq (.ops DM),.gst (.keep [0,8,9,10] [])]
theorem OZ(ps:Sl cn)(i:Int)(p:cn)(B:Zt)(more:Zl)(y:Nat)(r:Out×St)(D:decide (i<len ps)=true)(G:idx ps i=some p)
 (h:rn S.bare mD some (.rc (.loop D9)) Pt (I2 ps i p.events 0 B more y)=some r):rn S.bare mD some (.rc My) [] (I1 ps i B more y)=some r:=by
 refine Le.get ?_;refine Kt (n:=7) (fo':=.rc (.cond (.s 11) .skip (.exit 0))) (fs':=[.seq (.seq (.block 1 (.seq (.ops HI) (.seq (.ops EN) U2))) (.ops DM)),.gst (.keep [0,8,9,10] [])]) (λb=>S1 ps i b B more y) D Zf ?_
 refine Nt G ?_;refine Nw 8 false [] (HI.drop 1) [.seq (.seq (.ops EN) U2),.blk 1,.seq (.ops DM),.gst (.keep [0,8,9,10] [])] ⟨[(0,.yl y),Cv 8 ps,Iv 9 (len ps),Iv 10 i,Bv 11 true,Iv 12 i],[],[],B,more,y⟩ .i64 rfl Zf λx a=>?_
 obtain rfl:x=p:=Zd
 refine R3 1 false [] (HI.drop 3) [.seq (.seq (.ops EN) U2),.blk 1,.seq (.ops DM),.gst (.keep [0,8,9,10] [])] ⟨[(0,.yl y),Cv 8 ps,Iv 9 (len ps),Iv 10 i,Bv 11 true,Iv 12 i,Cv 14 x],[],[],B,more,y⟩ [.v (.str ByteArray.empty),.v .bD,.v .bD] rfl (by simp only[bE,v8,oW,qM,pg,qC,sG,qN,sy,oQ,qT,vN,sJ,sq,sn,sj,uq,uv,qF,sK,SV.cu];rfl) Zf ?_
 refine Ast 1 false [] (HI.drop 5) [.seq (.seq (.ops EN) U2),.blk 1,.seq (.ops DM),.gst (.keep [0,8,9,10] [])] ⟨[(0,.yl y),Cv 8 ps,Iv 9 (len ps),Iv 10 i,Bv 11 true,Cv 14 x,Pv 4,Iv 3 i],[Xb 4 (⟨ByteArray.empty,.nil,.nil⟩:cn)],[],B,more,y⟩ 4 0 x [.v (.str ByteArray.empty),.v .bD,.v .bD] ((cells x).map .v) rfl Zf ?_
 refine R7 6 false [] (EN.drop 2) [.seq U2,.blk 1,.seq (.ops DM),.gst (.keep [0,8,9,10] [])] ⟨[(0,.yl y),Cv 8 ps,Iv 9 (len ps),Iv 10 i,Bv 11 true,Pv 4,Iv 3 i,Cv 16 x.events],[Xb 4 x],[],B,more,y⟩ x.events rfl Zf ?_
 refine Ae (n:=5) (fo':=.rc (.loop D9)) (fs':=Pt) (st':=I2 ps i x.events 0 B more y) Zf (Le.of_eq h)
theorem Q5(ps:Sl cn)(i:Int)(es:Sl Zn)(j:Int)(B:Zt)(more:Zl)(y:Nat):
 rn S.bare mD some (.ex 2) Pt (S2 ps i es j false B more y)=some (.norm,I1 ps (wrap .i64 (i+1)) B more y):=by kernel_rfl
theorem wrap_small(n:Nat)(h:n<9223372036854775807):wrap .i64 ((n:Int)+1)=((n+1:Nat):Int):=by simp[wrap,IntKind.bits,signed];omega
abbrev eI(x:aZ×Event):aX V:=[enc x.1,enc x.2]
theorem A2.step{x:Zu}{D rest:Zt}{more:Zl}(h:A2 D (x::rest) more):∃B,D=x::B/\((!(more|| !B.isEmpty))=false/\A2 B rest more\/(!(more|| !B.isEmpty))=true/\B=[]):=by rcases h with⟨rfl,rfl⟩|⟨rfl,u,r,a⟩;exact⟨rest,rfl,.inl ⟨rfl,.inl ⟨rfl,rfl⟩⟩⟩;cases D with|nil=>grind|cons w D=>simp only[List.cons_append,List.cons.injEq]at a;obtain⟨rfl,rfl⟩:=a;refine⟨D,rfl,?_⟩;cases D with|nil=>grind|cons z C=>exact .inl ⟨rfl,.inr ⟨rfl,Zc,r,rfl⟩⟩
theorem GO{α:Type}{s:Sl α}{j:Nat}{x:α}{r:aX α}(h:s.l.drop j=x::r):idx s (j:Int)=some x/\decide ((j:Int)<len s)=true/\s.l.drop (j+1)=r:=by
 have a:j<s.l.length:=by apply Classical.byContradiction;intro w;rw[List.drop_eq_nil_of_le Za]at h;cases h
 have u:=List.drop_eq_getElem_cons a;rw[u]at h;simp only[List.cons.injEq]at h;refine⟨?_,Zd,h.2⟩;unfold idx;simp_all
variable{Q:Out×St->aY (Out×St)}{fs:Z3}
theorem inner(ps:Sl cn)(i:Int)(es:Sl Zn)(O:es.l.length<9223372036854775807)(more:Zl)(y:Nat)(R:Zt):∀(a:aX Zn)(j:Nat),es.l.drop j=a->∀D,A2 D ((hD i j a).map eI++R) more->
 (∃(B:Zt)(T:Int),A2 B R more/\rn S.bare mD Q (.rc (.loop D9)) fs (I2 ps i es j D more y)=rn S.bare mD Q (.ex 2) fs (S2 ps i es T false B more y))\/
 (∃st':St,st'.want=[]/\rn S.bare mD Q (.rc (.loop D9)) fs (I2 ps i es j D more y)=Q (.ret,st'))
 |[],j,J,D,G=>by have b:decide ((j:Int)<len es)=false:=(by simp_all);exact .inl ⟨D,j,by simpa[hD]using G,DL (SI ps i es j D more y b)⟩|e::a,j,J,D,G=>by have⟨b,z,C⟩:=GO J;have W:j<es.l.length:=Zd;simp only[hD,map_cons,List.cons_append]at G;obtain⟨B,rfl,u⟩:=A2.step G;have I:=wrap_small j Za;have w:((j:Int)+1)=wrap .i64 ((j:Int)+1):=Zd;rcases u with⟨u,L⟩|⟨u,rfl⟩;have k:=TI (S:=S) ps i es j e B more y z b u;rw[<-w]at k;have k2:=Dl (Q:=Q) (fs:=fs) k;have U:=inner ps i es O more y R a (j+1) C B Zd;rw[show((j+1:Nat):Int)=(j:Int)+1 from rfl]at U;grind;have k:=Qe (S:=S) ps i es j e [] more y z b u;rw[<-w]at k;exact .inr ⟨_,by rfl,DG k⟩
theorem outer(ps:Sl cn)(O:ps.l.length<9223372036854775807)(D:∀p∈ps.l,p.events.l.length<9223372036854775807)(more:Zl)(y:Nat):∀(a:aX cn)(i:Nat),ps.l.drop i=a->∀B,A2 B ((eY i a).map eI) more->
 rn S.bare mD Qi (.rc (.loop My)) [.blk 0] (I1 ps i B more y)=some ()
 |[],i,J,B,G=>by
  have b:decide ((i:Int)<len ps)=false:=by simp_all
  rw[DL (RW ps i B more y b)];have:B=[]:=by
   rcases G with⟨_,rfl⟩|⟨_,L,r,c⟩;rfl;have:B=[]:=by cases B with
    |nil=>rfl|cons=>simp[eY]at c
   grind
  subst this;rfl
 |p::a,i,J,B,G=>by have⟨b,z,C⟩:=GO J;have T:i<ps.l.length:=Zd;have I:p∈ps.l:=List.mem_of_mem_drop (i:=i) Zd;simp only[eY,List.map_append]at G;have u:=wrap_small i Za;rcases inner (S:=S) (Q:=some) (fs:=Pt) ps i p.events (D p I) more y _ p.events.l 0 rfl B G with⟨w,U,g1,g2⟩|⟨st',g1,g2⟩;rw[Q5,u]at g2;rw[Dl (OZ ps i p B more y _ z b g2)];exact outer ps O D more y a (i+1) C w g1;rw[DG (OZ ps i p B more y _ z b g2)];simp[Qi,g1]
theorem all(t:Zj)(B:aX (aZ×Zn))(h:iF t=some B)(D:Zt)(more:Zl)(G:A2 D (B.map eI) more)(y:Nat):
 rn S.bare mD Qi (.rc text.body) [] ⟨vA 0 (([]:Zu).map .v++.yl y::[V.fptr (cells t)].map .v),[],[],D,more,y⟩=some ():=by
 unfold iF at h;split at h
 .rename_i hk;cases h;simp only[ζh,List.all_eq_true,ED,decide_eq_true_eq]at hk;refine Le.get ?_;refine R7 4 false [] (Qa.drop 2) [.seq U1] ⟨[(0,.yl y),Cv 8 t.procs],[],[],D,more,y⟩ t.procs rfl Zf ?_
  refine Ae (n:=5) (fo':=.rc (.loop My)) (fs':=[.blk 0]) (st':=I1 t.procs 0 D more y) Zf (Le.of_eq ?_)
  exact outer t.procs hk.1 hk.2 more y t.procs.l 0 rfl D G
 simp_all
end
theorem Iu{α:Type}[bp α]{a b:Sl α}(h:cg a=cg b):rows a.l=rows b.l:=by cases a<;>cases b<;>first|rfl|(simp only[cg,Sl.k,jC,V.fsl.injEq,true_and,reduceCtorEq]at h;done)|(simp only[cg,Sl.k,jC,V.fsl.injEq,true_and,reduceCtorEq]at h;omega)
theorem Gi(p:Int):∀(es B:aX Zn)(j:Int),rows es=rows B->(hD p j es).map eI=(hD p j B).map eI
 |[],[],_,_=>rfl|[],_::_,_,h=>by simp[rows]at h|_::_,[],_,h=>by simp[rows]at h|e::es,D::B,j,h=>by simp only[rows,map_cons,List.cons.injEq]at h;have a:enc e=enc D:=(by show V.agg (cells e)=V.agg (cells D);rw[h.1]);simp only[hD,map_cons,eI,a,Gi p es B (j+1) h.2]
theorem Bf:∀(ps B:aX cn)(i:Int),rows ps=rows B->(eY i ps).map eI=(eY i B).map eI
 |[],[],_,_=>rfl|[],_::_,_,h=>by simp[rows]at h|_::_,[],_,h=>by simp[rows]at h|p::ps,p'::B,i,h=>by simp only[rows,map_cons,List.cons.injEq]at h;have a:cg p.events=cg p'.events:=(by have:=h.1;change[V.str p.name,cg p.vars,cg p.events]=[V.str p'.name,cg p'.vars,cg p'.events]at this;grind);simp only[eY,List.map_append,Gi i _ _ 0 (Iu a),Bf ps B (i+1) h.2]
def Em(f:Zk)(g:Zk)(a b:Zu)(xs:Zt):Prop:=∃(t:Zj)(u:aX (aZ×Zn)),g=f/\a=[]/\b=[.fptr (cells t)]/\iF t=some u/\xs=u.map eI
theorem Em.uniq{f g:Zk}{a b:Zu}{xs ys:Zt}(h:Em f g a b xs)(k:Em f g a b ys):xs=ys:=by
 obtain⟨t,C,rfl,rfl,rfl,c,rfl⟩:=h;obtain⟨w,z,_,_,B,u,rfl⟩:=k;simp only[List.cons.injEq,V.fptr.injEq,and_true]at B;have D:cg t.procs=cg w.procs:=by change[cg t.procs]=[cg w.procs]at B;grind
 unfold iF at c u;split at c<;>split at u<;>simp only[ζa,reduceCtorEq]at c u;subst c u;exact Bf _ _ 0 (Iu D)
end trace_events_c1
end Go.VE
namespace Go.VE
open Go.Proofs.YtgaepcmcohmibaaGreatDoor
noncomputable section
noncomputable def JQ(f:Zk):aY Dz:=bif beq f 157 then some (qY E)else bif beq f 154 then some (ru E)else none
noncomputable def Sy:Sys:=⟨E,λn=>n,vX (trace_events_c1.Em 92),yG E,JQ⟩
theorem P9:Sy.prm 157=some (qY Sy.E):=by kernel_rfl
theorem PV:Sy.prm 154=some (ru Sy.E):=by kernel_rfl
theorem Ss:∀f q,JQ f=some q->nq E f q:=by intro f q h;unfold JQ at h;cases a:beq f 157 with|true=>rw[a]at h;cases h;have:=Nat.eq_of_beq_eq_true a;subst this;exact Oc CL Zf Zf (AS Zf)|false=>rw[a]at h;cases a:beq f 154 with|true=>rw[a]at h;cases h;have:=Nat.eq_of_beq_eq_true a;subst this;exact OG Zf Zf Zf Zf|false=>rw[a]at h;cases h
def Tx:pI:=OH E some (lk Kw)
abbrev cL:bU:=cT Sy Tx
theorem Uj:∃fi,E.ft 92=some fi/\wB E some fi trace_events_c1.text:=Tn Zf
theorem IK:q_ Sy Tx where
 fn f rf h:=let⟨u,a,w⟩:=Ot h;⟨u,some,a,CL,w⟩
 xE f z y h:=KK h
 prm:=Ss
theorem Ct:∀f a b xs,Sy.items f a b=some xs->fF Sy f a b xs:=by intro f a b xs h;obtain⟨t,u,rfl,rfl,rfl,c,rfl⟩:=J6 h;have⟨D,w,z⟩:=Uj;exact Na Sy w CL z (Nat.le_of_ble_eq_true rfl) rfl λB more C y=>trace_events_c1.all t u c B more C y
theorem w6(t:Zj)(B:aX (aZ×Zn))(h:iF t=some B):Sy.items 92 [] [.fptr (cells t)]=some (B.map λx:aZ×Zn=>[enc x.1,enc x.2]):=J7 ⟨t,B,rfl,rfl,rfl,h,rfl⟩ λw u=>u.uniq ⟨t,B,rfl,rfl,rfl,h,rfl⟩
theorem K5:Sy.xE 4 []=some (.bool true):=Dq (G7 rfl ⟨1,[],by kernel_rfl⟩)
end
end Go.VE
namespace Go.VE
noncomputable section
def uI:aY Zl:=some true
instance QN:Fc Sy cL uI:=⟨4,[],λr:Zl=>[.bool r],true,kN.xE Zf Zf K5⟩
namespace fR
def bn(D:Sl cn)(G:Int)(B:Int)(p1:cn->aY Zl):aY (Fw Int Unit Int):=bl (decide (B<G)) ((idx D B).bind λu=>(p1 u).bind λw=>bl w (some (.r B)) (some (.n (wrap .i64 (B+1))))) (some (.x ()))
def W1(B:Sl cn)(D G:Int)(p1:cn->aY Zl):Z6:=(bM (λq:Int=>bn B D q p1) G).bind (Fw.elim (λe=>some (-1)) (λe=>some e))
end fR
def fR(B:Sl cn)(p1:cn->aY Zl):Z6:=fR.W1 B (len B) 0 p1
open fR in
abbrev uQ(g1:FuncId)(e1:aX V)(p1:cn->aY Bool)(a:pH Sy cL g1 [] e1 (λz:cn=>[enc z]) (λr:Bool=>[.bool r]) p1 true)(B:Sl cn):Fc Sy cL (fR B p1):=Fc.M 39 [enc B,.clo g1 [] e1] (bK 9 B (dO 5 (λw=>(bE [Cv 0 B,(1,.v (.clo g1 [] e1)),Iv 7 (len B),Iv 8 w] [])) (λu=>(0,(bE [] []))) (λu=>(bE [Iv 4 u] [])) (λw=>bt 7 9 (bR 16 λC _=>wV 1 a.f C λD _=>bt 2 16 bf bf) bf) (λu=>bf) (λu=>bf)))
def fJ(B:Sl cn)(p1:cn->aY Zl):aY Zl:=(fR B p1).bind λu=>some (decide (u>=0))
abbrev nM(g1:FuncId)(e1:aX V)(p1:cn->aY Bool)(a:pH Sy cL g1 [] e1 (λz:cn=>[enc z]) (λr:Bool=>[.bool r]) p1 true)(B:Sl cn):Fc Sy cL (fJ B p1):=Fc.M 15 [enc B,.clo g1 [] e1] (bB (F:=uQ g1 e1 p1 a B) 9 λu _=>bf)
namespace fu
def bn(D:Sl Zn)(G:Int)(B:Int)(p1:Zn->aY Zl):aY (Fw Int Unit Int):=bl (decide (B<G)) ((idx D B).bind λu=>(p1 u).bind λw=>bl w (some (.r B)) (some (.n (wrap .i64 (B+1))))) (some (.x ()))
def W1(B:Sl Zn)(D G:Int)(p1:Zn->aY Zl):Z6:=(bM (λq:Int=>bn B D q p1) G).bind (Fw.elim (λe=>some (-1)) (λe=>some e))
end fu
def fu(B:Sl Zn)(p1:Zn->aY Zl):Z6:=fu.W1 B (len B) 0 p1
open fu in
abbrev uM(g1:FuncId)(e1:aX V)(p1:Event->aY Bool)(a:pH Sy cL g1 [] e1 (λz:Event=>[enc z]) (λr:Bool=>[.bool r]) p1 true)(B:Sl Event):Fc Sy cL (fu B p1):=Fc.M 40 [enc B,.clo g1 [] e1] (bK 9 B (dO 5 (λw=>(bE [Cv 0 B,(1,.v (.clo g1 [] e1)),Iv 7 (len B),Iv 8 w] [])) (λu=>(0,(bE [] []))) (λu=>(bE [Iv 4 u] [])) (λw=>bt 7 9 (bR 16 λC _=>wV 1 a.f C λD _=>bt 2 16 bf bf) bf) (λu=>bf) (λu=>bf)))
def gJ(B:Sl Zn)(p1:Zn->aY Zl):aY Zl:=(fu B p1).bind λu=>some (decide (u>=0))
abbrev m_(g1:FuncId)(e1:aX V)(p1:Event->aY Bool)(a:pH Sy cL g1 [] e1 (λz:Event=>[enc z]) (λr:Bool=>[.bool r]) p1 true)(B:Sl Event):Fc Sy cL (gJ B p1):=Fc.M 17 [enc B,.clo g1 [] e1] (bB (F:=uM g1 e1 p1 a B) 9 λu _=>bf)
def nE(e0:Zn):aY Zl:=some (decide ((len e0.assign)>20))
instance KP(e0:Zn):Fc Sy cL (nE e0):=Fc.M 18 [enc e0] (dB 2 1 e0 (bK 7 e0.assign bf))
def lM(B:cn):aY Zl:=(bl (decide ((len B.events)>40)) (some true) (some (decide ((len B.vars)>20))):aY Zl).bind λu=>(bl u (some true) ((gJ B.events (λz=>nE z)).bind λw=>some w):aY Zl).bind λC=>some C
instance Pr(B:cn):Fc Sy cL (lM B):=Fc.M 16 [enc B] (dB 2 1 B (bK 7 B.events (b7 2 5 [7] 12 (bt 2 7 (bz 5) (bK 2 B.vars (bz 2))) λu=>b7 1 4 [1,13] 17 (bt 1 13 (bz 4) (bB (F:=m_ 18 [] (λz=>nE z) pH.vL B.events) 2 λw _=>bz 1)) λC=>bf)))
namespace iO
def bn(G:Sl cn)(J:Int)(O:Zj)(D B:Int):aY (Fw (Int×Int) Int Empty):=bl (decide (B<J)) ((idx G B).bind λu=>some (.n (wrap .i64 (D+(len u.events)),wrap .i64 (B+1)))) (some (.x D))
def W1(G:Int)(J:Sl cn)(O T:Int)(B:Zj):aY Zl:=(bM (λq:Int×Int=>bn J O B q.1 q.2) (G,T)).bind (Fw.elim (λe=>(bl (decide (e>30)) (some (!(e==36))) (some false):aY Zl).bind λu=>(bl u (some true) (some (decide ((len B.procs)>10))):aY Zl).bind λw=>(bl w (some true) ((fJ B.procs (λz=>lM z)).bind λC=>some C):aY Zl).bind λD=>some D) (λe=>elim e))
end iO
def iO(B:Zj):aY Zl:=iO.W1 0 B.procs (len B.procs) 0 B
open iO in
instance SR(B:Zj):Fc Sy cL (iO B):=Fc.M 5 [enc B] (dB 2 1 B (bK 13 B.procs (eO 5 (λu=>(bE [Pv 1,Iv 3 u.1,Cv 7 B.procs,Iv 8 (len B.procs),Iv 9 u.2] [Xb 1 B])) (λw=>(0,(bE [Pv 1,Iv 3 w] [Xb 1 B]))) (λu=>bt 7 10 (bR 7 λC _=>oC 2 5 0 C (bK 6 C.events bf)) bf) (λw=>b7 7 3 [3,21] 24 (bt 7 21 (bz 3) (bz 3)) λD=>b7 1 5 [25] 30 (bt 1 25 (bz 5) (bK 2 B.procs (bz 2))) λG=>b7 1 4 [1,31] 35 (bt 1 31 (bz 4) (bB (F:=nM 16 [] (λz=>lM z) pH.vL B.procs) 2 λI _=>bz 1)) λJ=>bf))))
def mq(G D B:Int):aY Zl:=(bl (decide (G>=D)) (some (decide (G<=B))) (some false):aY Zl).bind λu=>some u
instance TX(G D B:Int):Fc Sy cL (mq G D B):=Fc.M 59 [.int .i64 G,.int .i64 D,.int .i64 B] (b7 11 4 [0,2,10] 14 (bt 11 10 (bz 4) (bz 4)) λu=>bf)
def oM(B:Int):aY Zl:=(bl (decide (B>=97)) (some (decide (B<=122))) (some false):aY Zl).bind λu=>(bl u (some true) ((bl (decide (B>=65)) (some (decide (B<=90))) (some false):aY Zl).bind λw=>some w):aY Zl).bind λz=>some z
instance P6(B:Int):Fc Sy cL (oM B):=Fc.M 129 [.int .u8 B] (b7 10 3 [5] 8 (bt 10 5 (bz 3) (bz 3)) λu=>b7 1 7 [0,9] 16 (bt 1 9 (bz 7) (b7 3 3 [0,12] 15 (bt 3 12 (bz 3) (bz 3)) λw=>bz 1)) λz=>bf)
def sU(B:Int):aY Zl:=(bl (decide (B>=48)) (some (decide (B<=57))) (some false):aY Zl).bind λu=>some u
instance RB(B:Int):Fc Sy cL (sU B):=Fc.M 130 [.int .u8 B] (b7 10 3 [0,5] 8 (bt 10 5 (bz 3) (bz 3)) λu=>bf)
namespace fM
def bn(D:Zq)(G:Int)(B:Int):aY (Fw Int Unit Unit):=bl (decide (B<G)) ((j8 D B).bind λz=>(oM z).bind λC=>(bl C (some false) ((j8 D B).bind λI=>(sU I).bind λJ=>some (!J)):aY Zl).bind λL=>(bl L ((j8 D B).bind λu=>some (!(u==95))) (some false):aY Zl).bind λw=>bl w (some (.r ())) (some (.n (wrap .i64 (B+1))))) (some (.x ()))
def W1(G:Zq)(B D:Int):aY Zl:=(bM (λq:Int=>bn G B q) D).bind (Fw.elim (λe=>some true) (λe=>some false))
end fM
def fM(B:Zq):aY Zl:=(bl (toList B==toList ByteArray.empty) (some true) (some (decide (((ByteArray.size B:Nat):Int)>16))):aY Zl).bind λu=>(bl u (some true) ((j8 B 0).bind λw=>(oM w).bind λz=>some (!z)):aY Zl).bind λC=>bl C (some false) (fM.W1 B ((ByteArray.size B:Nat):Int) 0)
open fM in
instance QA(B:Zq):Fc Sy cL (fM B):=Fc.M 88 [.str B] (b7 11 4 [6] 10 (bt 11 6 (bz 4) (bz 4)) λD=>b7 1 5 [11] 16 (bt 1 11 (bz 5) (xB 1 .i64 λG _=>bB 0 λI _=>bz 2)) λJ=>bt 2 16 bf (dO 13 (λw=>(bE [(0,.v (.str B)),Iv 18 ((ByteArray.size B:Nat):Int),Iv 19 w] [])) (λu=>(0,(bE [] []))) (λu=>(bE [Bv 2 false] [])) (λw=>bt 7 20 (xB 15 .i64 λL _=>bB 0 λO _=>b7 2 6 [27] 33 (dA 2 27 (bz 6) (xB 2 .i64 λQ _=>bB 0 λS _=>bz 2)) λT=>b7 1 5 [3,34] 39 (bt 1 34 (xB 2 .i64 λz _=>bz 2) (bz 5)) λC=>bt 2 39 bf bf) bf) (λu=>bf) (λu=>bf)))
def jd(B D:cn):aY Zl:=some (toList B.name==toList D.name)
instance GW(B D:cn):Fc Sy cL (jd B D):=Fc.M 89 [enc B,.fptr (cells D)] (dB 2 2 B bf)
def iX(B D:Var):aY Zl:=some (toList B.name==toList D.name)
instance GX(B D:Var):Fc Sy cL (iX B D):=Fc.M 91 [enc B,.fptr (cells D)] (bf)
namespace gm
def bn(D:Sl Var)(G:Int)(B:Int)(p1:Var->aY Zl):aY (Fw Int Unit Int):=bl (decide (B<G)) ((idx D B).bind λu=>(p1 u).bind λw=>bl w (some (.r B)) (some (.n (wrap .i64 (B+1))))) (some (.x ()))
def W1(B:Sl Var)(D G:Int)(p1:Var->aY Zl):Z6:=(bM (λq:Int=>bn B D q p1) G).bind (Fw.elim (λe=>some (-1)) (λe=>some e))
end gm
def gm(B:Sl Var)(p1:Var->aY Zl):Z6:=gm.W1 B (len B) 0 p1
open gm in
abbrev vB(g1:FuncId)(e1:aX V)(p1:Var->aY Bool)(a:pH Sy cL g1 [] e1 (λz:Var=>[enc z]) (λr:Bool=>[.bool r]) p1 true)(B:Sl Var):Fc Sy cL (gm B p1):=Fc.M 131 [enc B,.clo g1 [] e1] (bK 9 B (dO 5 (λw=>(bE [Cv 0 B,(1,.v (.clo g1 [] e1)),Iv 7 (len B),Iv 8 w] [])) (λu=>(0,(bE [] []))) (λu=>(bE [Iv 4 u] [])) (λw=>bt 7 9 (bR 16 λC _=>wV 1 a.f C λD _=>bt 2 16 bf bf) bf) (λu=>bf) (λu=>bf)))
def iq(B:Sl Var)(p1:Var->aY Zl):aY Zl:=(gm B p1).bind λu=>some (decide (u>=0))
abbrev ua(g1:FuncId)(e1:aX V)(p1:Var->aY Bool)(a:pH Sy cL g1 [] e1 (λz:Var=>[enc z]) (λr:Bool=>[.bool r]) p1 true)(B:Sl Var):Fc Sy cL (iq B p1):=Fc.M 90 [enc B,.clo g1 [] e1] (bB (F:=vB g1 e1 p1 a B) 9 λu _=>bf)
namespace ec
def bn(D:Sl Var)(G:Int)(J:cn)(B:Int):aY (Fw Int Unit Int):=bl (decide (B<G)) ((idx D B).bind λu=>(fM u.name).bind λI=>(bl I ((ga J.vars none (some B)).bind λL=>(iq L (λz=>iX z u)).bind λO=>some O) (some true):aY Zl).bind λw=>bl w (some (.r 13)) ((mq u.init_ (-1073741824) 1073741824).bind λC=>bl C (some (.n (wrap .i64 (B+1)))) (some (.r 2)))) (some (.x ()))
def W1(D:Sl Var)(G J:Int)(B:cn):Z6:=(bM (λq:Int=>bn D G B q) J).bind (Fw.elim (λe=>bl (decide ((len B.events)>64)) (some 5) (some 0)) (λe=>some e))
end ec
def ec(G:Zj)(p1:Int):Z6:=(idx G.procs p1).bind λu=>(fM u.name).bind λw=>(bl w ((ga G.procs none (some p1)).bind λB=>(fJ B (λz=>jd z u)).bind λC=>some C) (some true):aY Zl).bind λD=>bl D (some 13) (bl (decide ((len u.vars)>8)) (some 5) (ec.W1 u.vars (len u.vars) 0 u))
open ec in
instance Jk(D:Zj)(p1:Int):Fc Sy cL (ec D p1):=Fc.M 60 [enc D,.int .i64 p1] (dB 2 2 D (bR 8 λu _=>oC 2 5 0 u (bB 8 λO _=>b7 2 7 [1,2,18] 25 (dA 2 18 (Co 3 false true [.int .i64 p1] λG _=>pY (F:=nM 89 [.fptr (cells u)] (λz=>jd z u) pH.vL G) 1 λQ _=>bz 1) (bz 7)) λS=>bt 3 13 bf (bK 5 u.vars (bt 4 26 bf (bK 9 u.vars (dO 5 (λB=>(bE [Pv 5,Cv 32 u.vars,Iv 33 (len u.vars),Iv 34 B] [Xb 5 u])) (λw=>(1,(bE [Pv 5] [Xb 5 u]))) (λw=>(bE [Iv 4 w] [])) (λB=>bt 7 35 (bR 8 λC _=>bB 11 λT _=>b7 2 7 [6,44] 51 (dA 2 44 (Co 3 false true [.int .i64 B] λI _=>pY (F:=ua 91 [.fptr (cells C)] (λz=>iX z C) pH.vL I) 1 λU _=>bz 1) (bz 7)) λJ=>bt 3 39 bf (bB 5 λL _=>dA 4 52 bf bf)) bf) (λw=>bK 7 u.events (bt 3 61 bf bf)) (λw=>bf))))))))
def jv(B:Zj):aY Zj:=some B
instance PW(B:Zj):Fc Sy cL (jv B):=Fc.NE (λr:Zj=>[(.clo 92 [] [.fptr (cells r)])]) 61 [enc B] (dB 2 1 B bf)
namespace gT
def J1(p1:Int)(D:Zl)(G:Zj)(B:Zn):aY Zl:=bl D ((mq B.peer 0 (wrap .i64 ((len G.procs)-1))).bind λu=>(bl u (some (!(B.peer==p1))) (some false):aY Zl).bind λw=>(bl w ((mq B.message 0 199).bind λz=>some z) (some false):aY Zl).bind λC=>some C) (some false)
end gT
def gT(B:Zj)(p1:Int)(e2:Zn):aY Zl:=bl (e2.kind==1) ((bl (e2.peer==0) (some (e2.message==0)) (some false):aY Zl).bind λu=>some u) (bl (e2.kind==2) (gT.J1 p1 true B e2) (gT.J1 p1 (e2.kind==3) B e2))
open gT in
instance Qb(B:Zj)(p1:Int)(e2:Zn):Fc Sy cL (gT B p1 e2):=Fc.M 93 [enc B,.int .i64 p1,enc e2] (dB 2 3 B (dB 0 5 e2 (bt 17 9 (b7 7 4 [5,14] 18 (bt 7 14 (bz 4) (bz 4)) λD=>bf) (bt 8 19 (ya 4 (bt 0 19 (bK 7 B.procs (bB 1 λu _=>b7 1 5 [1,29] 34 (bt 1 29 (bz 5) (bz 5)) λw=>b7 1 4 [5,35] 39 (bt 1 35 (bB 2 λz _=>bz 1) (bz 4)) λC=>bf)) bf)) (ya 7 (bt 0 19 (bK 7 B.procs (bB 1 λu _=>b7 1 5 [1,29] 34 (bt 1 29 (bz 5) (bz 5)) λw=>b7 1 4 [5,35] 39 (bt 1 35 (bB 2 λz _=>bz 1) (bz 4)) λC=>bf)) bf))))))
def jH(B D:Assign):aY Zl:=some (B.var==D.var)
instance HK(B D:Assign):Fc Sy cL (jH B D):=Fc.M 95 [enc B,.fptr (cells D)] (bf)
namespace eS
def bn(D:Sl Assign)(G:Int)(B:Int)(p1:Assign->aY Zl):aY (Fw Int Unit Int):=bl (decide (B<G)) ((idx D B).bind λu=>(p1 u).bind λw=>bl w (some (.r B)) (some (.n (wrap .i64 (B+1))))) (some (.x ()))
def W1(B:Sl Assign)(D G:Int)(p1:Assign->aY Zl):Z6:=(bM (λq:Int=>bn B D q p1) G).bind (Fw.elim (λe=>some (-1)) (λe=>some e))
end eS
def eS(B:Sl Assign)(p1:Assign->aY Zl):Z6:=eS.W1 B (len B) 0 p1
open eS in
abbrev ug(g1:FuncId)(e1:aX V)(p1:Assign->aY Bool)(a:pH Sy cL g1 [] e1 (λz:Assign=>[enc z]) (λr:Bool=>[.bool r]) p1 true)(B:Sl Assign):Fc Sy cL (eS B p1):=Fc.M 132 [enc B,.clo g1 [] e1] (bK 9 B (dO 5 (λw=>(bE [Cv 0 B,(1,.v (.clo g1 [] e1)),Iv 7 (len B),Iv 8 w] [])) (λu=>(0,(bE [] []))) (λu=>(bE [Iv 4 u] [])) (λw=>bt 7 9 (bR 16 λC _=>wV 1 a.f C λD _=>bt 2 16 bf bf) bf) (λu=>bf) (λu=>bf)))
def gp(B:Sl Assign)(p1:Assign->aY Zl):aY Zl:=(eS B p1).bind λu=>some (decide (u>=0))
abbrev sx(g1:FuncId)(e1:aX V)(p1:Assign->aY Bool)(a:pH Sy cL g1 [] e1 (λz:Assign=>[enc z]) (λr:Bool=>[.bool r]) p1 true)(B:Sl Assign):Fc Sy cL (gp B p1):=Fc.M 94 [enc B,.clo g1 [] e1] (bB (F:=ug g1 e1 p1 a B) 9 λu _=>bf)
namespace dm
def bP(D:Sl Assign)(G:Int)(J:Zn)(O:cn)(B:Int):aY (Fw Int Unit Int):=bl (decide (B<G)) ((idx D B).bind λu=>(mq u.var 0 (wrap .i64 ((len O.vars)-1))).bind λI=>(bl I ((mq u.value (-1073741824) 1073741824).bind λL=>some (!L)) (some true):aY Zl).bind λQ=>bl Q (some (.r 2)) ((ga J.assign none (some B)).bind λw=>(gp w (λz=>jH z u)).bind λC=>bl C (some (.r 8)) (some (.n (wrap .i64 (B+1)))))) (some (.x ()))
def W2(B:Sl Assign)(D G:Int)(J:Zn)(O:cn):Z6:=(bM (λq:Int=>bP B D J O q) G).bind (Fw.elim (λe=>some 0) (λe=>some e))
def J1(D:Int)(J:Zj)(G:aZ)(B:Zn)(O:cn):Z6:=(gT J G.proc B).bind λu=>bl u ((mq B.time 0 1099511627776).bind λw=>(bl w (some (decide (B.time<D))) (some true):aY Zl).bind λz=>bl z (some 11) (bl (decide ((len B.assign)>8)) (some 5) (dm.W2 B.assign (len B.assign) 0 B O))) (some 3)
theorem uV(D:Int)(O:Zj)(J:aZ)(B:Zn)(G:cn):Le ((J1 D O J B G).bind (λr=>some [.int .i64 r])) (b8 Sy cL (ql (tr Tx 62)) (tM (tb Tx 62) [1,1,1,1,0] [] (bE [Pv 3,Pv 4,Pv 5,Pv 7,Iv 8 D] [Xb 3 O,Xb 4 J,Xb 5 B,Xb 7 G]))):=bB 8 λQ _=>dA 4 28 (bB 5 λS _=>b7 2 5 [8,40] 45 (dA 2 40 (bz 5) (bz 5)) λT=>bt 3 35 bf (bK 5 B.assign (bt 4 46 bf (bK 9 B.assign (dO 5 (λw=>(bE [Pv 5,Pv 7,Cv 52 B.assign,Iv 53 (len B.assign),Iv 54 w] [Xb 5 B,Xb 7 G])) (λu=>(1,(bE [] []))) (λu=>(bE [Iv 6 u] [])) (λw=>bt 7 55 (bR 8 λC _=>bK 13 G.vars (bB 1 λU _=>b7 2 5 [68] 73 (dA 2 68 (bB 2 λW _=>bz 2) (bz 5)) λX=>bt 3 59 bf (Co 6 false true [.int .i64 w] λI _=>pY (F:=sx 95 [.fptr (cells C)] (λz=>jH z C) pH.vL I) 1 λL _=>bt 3 74 bf bf))) bf) (λu=>bf) (λu=>bf)))))) bf
end dm
def dm(D:Zj)(B:aZ)(e2:Zn):Z6:=(idx D.procs B.proc).bind λu=>bl (decide (B.index>1)) ((idx u.events (wrap .i64 (B.index-2))).bind λw=>dm.J1 w.time D B e2 u) (dm.J1 0 D B e2 u)
open dm in
instance L0(D:Zj)(B:aZ)(e2:Zn):Fc Sy cL (dm D B e2):=Fc.M 62 [enc D,enc B,enc e2] (dB 2 3 D (dB 1 5 e2 (bR 9 λu _=>oC 2 7 0 u (bt 15 19 (bR 7 λw _=>C3 6 (uV w.time D B e2 u)) (C3 4 (uV 0 D B e2 u))))))
def pq(e0:Zn)(B D:Int):aY Zl:=(bl (e0.kind==2) (some (e0.message==B)) (some false):aY Zl).bind λu=>(bl u (some (e0.peer==D)) (some false):aY Zl).bind λw=>some w
instance MK(e0:Zn)(B D:Int):Fc Sy cL (pq e0 B D):=Fc.M 133 [enc e0,.fptr (cells B),.fptr (cells D)] (dB 2 3 e0 (b7 9 5 [1,8] 13 (bt 9 8 (bz 5) (bz 5)) λu=>b7 1 5 [2,3,14] 19 (bt 1 14 (bz 5) (bz 5)) λw=>bf))
def s6(D:Zj)(p1 G B:Int):aY Zl:=(idx D.procs p1).bind λu=>(gJ u.events (λz=>pq z G B)).bind λw=>some w
instance Rs(G:Zj)(p1 D B:Int):Fc Sy cL (s6 G p1 D B):=Fc.M 96 [enc G,.int .i64 p1,.int .i64 D,.int .i64 B] (dB 2 4 G (bR 10 λu _=>pY (F:=m_ 133 [.fptr (cells D),.fptr (cells B)] (λz=>pq z D B) pH.vL u.events) 3 λw _=>bf))
namespace en
def si(D G:Zj)(J:aY (cm 200 br))(O:aZ)(T:Int)(x:aZ×Zn)(B:cm 200 br):aY (Fw (cm 200 br) Empty (aZ×Int×(cm 200 br))):=bl (x.2.kind==2) ((cm.at B x.2.message).bind λu=>bl (decide (u.from_.index>0)) (some (.r (x.1,8,B))) ((cm.at B x.2.message).bind λw=>some (.n (cm.set B x.2.message (⟨x.1,w.to_⟩:br))))) (bl (x.2.kind==3) ((cm.at B x.2.message).bind λz=>bl (decide (z.to_.index>0)) (some (.r (x.1,8,B))) ((s6 G x.2.peer x.2.message x.1.proc).bind λC=>bl C ((cm.at B x.2.message).bind λI=>some (.n (cm.set B x.2.message (⟨I.from_,x.1⟩:br)))) (some (.r (x.1,7,B))))) (some (.n B)))
def E1(B G:Zj)(J:aY (cm 200 br))(O:aZ)(T:Int)(D:cm 200 br):aY ((aY (cm 200 br))×aZ×Int):=(iF B).bind λu=>(nF (λ(x:aZ×Zn)(q:cm 200 br)=>si B G J O T x q) u D).bind (Fw.vf (λq=>some (some q,⟨0,0⟩,0)) (λe=>elim e) (λe=>some ((none:aY (cm 200 br)),e.1,e.2.1)))
end en
def en(B:Zj):aY ((aY (cm 200 br))×aZ×Int):=(jv B).bind λu=>en.E1 u B (none:aY (cm 200 br)) (⟨0,0⟩:aZ) 0 (cm.Ld 200 (⟨⟨0,0⟩,⟨0,0⟩⟩:br))
open en in
instance JZ(D:Zj):Fc Sy cL (en D):=Fc.N 63 [enc D] (dB 2 1 D (dB 8 10 (cm.Ld 200 (⟨⟨0,0⟩,⟨0,0⟩⟩:br)) (R5 0 5 (bE [Pv 1,Pv 2,Pv 3,Pv 4,Pv 10] [Xb 1 D,(2,.box [cv (none:aY (cm 200 br))]),Xb 3 (⟨0,0⟩:aZ),(4,.box [iv 0]),Xb 10 (cm.Ld 200 (⟨⟨0,0⟩,⟨0,0⟩⟩:br))]) [cv (none:aY (cm 200 br))] (by simp only[bE,v8,oW,qM,pg,qC,sG,qN,sy,oQ,qT,vN,sJ,sq,sn,sj,uq,uv,qF,sK];rfl) (bB 7 λB _=>IL λO C=>Ey 4 [Pv 1,Pv 2,Pv 3,Pv 4,Pv 5,(12,.v (.clo 92 [] [.fptr (cells B)]))] (λw=>[Xb 1 D,(2,.box [cv (none:aY (cm 200 br))]),Xb 3 (⟨0,0⟩:aZ),(4,.box [iv 0]),(5,.box [.ptr 10 0]),Xb 10 w]) (λz=>elim z) (λz=>[Xb 1 D,(2,.box [cv (none:aY (cm 200 br))]),Xb 3 z.1,(4,.box [iv z.2.1]),(5,.box [.ptr 10 0]),Xb 10 z.2.2]) (w6 B O C) (λu w=>R5 2 6 ⟨[Pv 1,Pv 2,Pv 3,Pv 4,Pv 5,(12,.v (.clo 92 [] [.fptr (cells B)])),Cv 13 u.1,Cv 14 u.2],[Xb 1 D,(2,.box [cv (none:aY (cm 200 br))]),Xb 3 (⟨0,0⟩:aZ),(4,.box [iv 0]),(5,.box [.ptr 10 0]),Xb 10 w],[1,2,3,4,5],[],true,0⟩ [iv 0,iv 0] (by simp only[bE,v8,oW,qM,pg,qC,sG,qN,sy,oQ,qT,vN,sJ,sq,sn,sj,uq,uv,qF,sK];rfl) (R5 4 7 ⟨[Pv 1,Pv 2,Pv 3,Pv 4,Pv 5,(12,.v (.clo 92 [] [.fptr (cells B)])),Cv 14 u.2,Pv 6],[Xb 1 D,(2,.box [cv (none:aY (cm 200 br))]),Xb 3 (⟨0,0⟩:aZ),(4,.box [iv 0]),(5,.box [.ptr 10 0]),Xb 10 w,Xb 6 u.1],[1,2,3,4,5],[],true,0⟩ [iv 0,iv 0,iv 0,iv 0,.v .bD] (by simp only[bE,v8,oW,qM,pg,qC,sG,qN,sy,oQ,qT,vN,sJ,sq,sn,sj,uq,uv,qF,sK];rfl) (oC 0 7 0 u.2 (A9 1 (bt 22 19 (Ew 7 .i64 10 λG Q=>OS 2 1 false 10 w u.2.message 1 G Q (.int .i64 G.from_.index) (by rfl) (bt 3 28 bf (Ew 8 .i64 10 λI S=>O7 1 10 w u.2.message 0 I S (⟨u.1,I.to_⟩:br) u.1 rfl bf))) (bt 7 36 (Ew 7 .i64 10 λJ T=>OS 2 1 false 10 w u.2.message 3 J T (.int .i64 J.to_.index) (by rfl) (bt 3 45 bf (bB 12 λW _=>dA 3 54 (Ew 8 .i64 10 λL U=>O7 1 10 w u.2.message 2 L U (⟨L.from_,u.1⟩:br) u.1 rfl bf) bf))) bf)))))) (λw=>TE 13 (bE [Pv 2,Pv 3,Pv 4] [(2,.box [.ptr 10 0]),Xb 3 (⟨0,0⟩:aZ),(4,.box [iv 0]),Xb 10 w]) [.ptr 10 0,cv (⟨0,0⟩:aZ),iv 0] (PX (d:=10) (x:=w) (vs:=[enc (⟨0,0⟩:aZ),.int .i64 0]) Zf) Zf) (λx=>elim x) (λz=>bf)))))
namespace iG
def J1(D:cm 200 br)(B:Sl aZ)(J:Sl Zn)(G:aZ):aY (Sl aZ):=(idx J (wrap .i64 (G.index-1))).bind λu=>(bl (u.kind==2) ((cm.at D u.message).bind λw=>some (decide (w.to_.index>0))) (some false):aY Zl).bind λz=>bl z ((cm.at D u.message).bind λC=>(eW B (C.to_:aZ)).bind λI=>some I) (some B)
theorem uV(B:cm 200 br)(D:Sl aZ)(J:Sl Zn)(G:aZ):Le ((J1 B D J G).bind (λr=>some [enc r])) (b8 Sy cL (ql (tr Tx 97)) (tM (tb Tx 97) [1,1,1,1,0,0] [] (bE [Kv 1 B,Pv 5,Ov 7,Cv 8 J] [Xb 5 G,Lb 2007 D]))):=bR 7 λu _=>oC 2 9 0 u (b7 8 10 [40] 50 (bt 8 40 (O8 4 .i64 λw z=>NC 0 2 B u.message 0 w z (NC 0 1 B u.message 2 w z (O2 0 1 false B u.message 3 w z (.int .i64 w.to_.index) (by rfl) (bz 2)))) (bz 10)) λL=>bt 2 50 (O8 7 .i64 λC I=>NC 0 2 B u.message 0 C I (O2 0 2 true B u.message 2 C I (enc C.to_) (by rfl) (oB 1 2007 59 60 λO _=>bf))) bf)
end iG
def iG(D:Zj)(B:cm 200 br)(x2:aZ):aY (Sl aZ):=(idx D.procs x2.proc).bind λu=>bl (decide (x2.index<(len u.events))) (iG.J1 B (Sl.row [⟨x2.proc,wrap .i64 (x2.index+1)⟩]:Sl aZ) u.events x2) (iG.J1 B (Sl.nil:Sl aZ) u.events x2)
open iG in
instance RM(D:Zj)(B:cm 200 br)(x2:aZ):Fc Sy cL (iG D B x2):=Fc.N 97 [enc D,.fptr (cells B),enc x2] (dB 2 3 D (bR 15 λu _=>bK 11 u.events (bt 3 21 (Pd 10 29 30 .bD (⟨x2.proc,wrap .i64 (x2.index+1)⟩:aZ) (C3 5 (uV B (Sl.row [⟨x2.proc,wrap .i64 (x2.index+1)⟩]:Sl aZ) u.events x2))) (C3 5 (uV B (Sl.nil:Sl aZ) u.events x2)))))
namespace gY
def dU(O:Zj)(T:Sl aZ)(U:Int)(W:Zj)(Y:cm 200 br)(a:aZ)(b:Zl)(J:aZ)(B:Sl aZ)(G:Int)(D:Mo aZ Zl):aY (Fw ((Sl aZ)×Int×(Mo aZ Zl)) ((Sl aZ)×(Mo aZ Zl)) Unit):=bl (decide (G<U)) ((idx T G).bind λu=>bl (HZ u J) (some (.r ())) (bl (rL D u false) (some (.n (B,wrap .i64 (G+1),D))) ((eW B (u:aZ)).bind λw=>some (.n (w,wrap .i64 (G+1),mP D u true))))) (some (.x (B,D)))
def W3(D:Sl aZ)(B:Zj)(O:Sl aZ)(T U:Int)(W:Zj)(Y:cm 200 br)(a:aZ)(b:Zl)(G:aZ)(J:Mo aZ Zl):aY (Fw ((Sl aZ)×(Mo aZ Zl)) Unit Unit):=(bM (λq:(Sl aZ)×Int×(Mo aZ Zl)=>dU B O T W Y a b G q.1 q.2.1 q.2.2) (D,U,J)).bind (Fw.elim (λe=>some (.n (e.1,e.2))) (λe=>some (.r ())))
def bP(D G:Zj)(J:cm 200 br)(U:aZ)(W:Zl)(O:aZ)(B:Sl aZ)(T:Mo aZ Zl):aY (Fw ((Sl aZ)×(Mo aZ Zl)) Unit Unit):=bl (decide ((len B)>0)) ((Sl.iB B (wrap .i64 ((len B)-1))).bind λw=>(Sl.get B w).bind λz=>(ku B none (some (wrap .i64 ((len B)-1)))).bind λC=>(iG G J z).bind λu=>W3 C D u (len u) 0 G J U W O T) (some (.x ()))
def W2(G:Sl aZ)(B O:Zj)(T:cm 200 br)(U:aZ)(W:Zl)(D:aZ)(J:Mo aZ Zl):aY (Fw Unit Empty aZ):=(bM (λq:(Sl aZ)×(Mo aZ Zl)=>bP B O T U W D q.1 q.2) (G,J)).bind (Fw.elim (λe=>some (.n ())) (λe=>some (.r D)))
def si(B D:Zj)(G:cm 200 br)(J:aZ)(O:Zl)(x:aZ×Zn):aY (Fw Unit Empty aZ):=W2 (Sl.row [x.1]:Sl aZ) B D G J O x.1 []
def E1(B D:Zj)(G:cm 200 br)(J:aZ)(O:Zl):aY (aZ×Zl):=(iF B).bind λu=>(nF (λ(x:aZ×Zn)(q:Unit)=>si B D G J O x) u ()).bind (Fw.vf (λq=>some (⟨0,0⟩,false)) (λe=>elim e) (λe=>some (e,true)))
end gY
def gY(B:Zj)(D:cm 200 br):aY (aZ×Zl):=(jv B).bind λu=>gY.E1 u B D (⟨0,0⟩:aZ) false
open gY in
instance Re(B:Zj)(G:cm 200 br):Fc Sy cL (gY B G):=Fc.M 64 [enc B,.fptr (cells G)] (dB 2 2 B (bB 9 λw _=>IL λU Q=>Ey 4 [Pv 2,Pv 3,Pv 4,Pv 5,(13,.v (.clo 92 [] [.fptr (cells w)]))] (λS=>[Xb 2 B,(3,.box [cp G]),Xb 4 (⟨0,0⟩:aZ),(5,.box [bv false])]) (λI=>elim I) (λI=>[Xb 2 B,(3,.box [cp G]),Xb 4 I,(5,.box [bv true])]) (w6 w U Q) (λC S=>A9 4 (dO 18 (λu=>⟨[Pv 2,Pv 3,Pv 4,Pv 5,Pv 6,(7,.mp 16),Ov 8,(13,.v (.clo 92 [] [.fptr (cells w)]))],[Xb 2 B,(3,.box [cp G]),Xb 4 (⟨0,0⟩:aZ),(5,.box [bv false]),Xb 6 C.1,(16,pO u.2),Lb 2008 u.1],[2,3,4,5],[],true,0⟩) (λJ=>(2,⟨[Pv 2,Pv 3,Pv 4,Pv 5,(13,.v (.clo 92 [] [.fptr (cells w)]))],[Xb 2 B,(3,.box [cp G]),Xb 4 (⟨0,0⟩:aZ),(5,.box [bv false])],[2,3,4,5],[],true,0⟩)) (λJ=>⟨[],[Xb 2 B,(3,.box [cp G]),Xb 4 C.1,(5,.box [bv true])],[2,3,4,5],[],true,0⟩) (λu=>zC 6 2008 u.1 (bt 3 21 (zC 8 2008 u.1 (jE .i64 1 2008 λW _=>pL 0 2008 0 2 true (λL=>.agg [.int .i64 L.proc,.int .i64 L.index]) λL _=>zC 8 2008 u.1 (Pp 1 false true 2008 32 [.int .i64 (wrap .i64 ((len u.1)-1))] λX _=>bB 8 λO _=>bK 0 O (dO 6 (λz=>⟨[Pv 2,Pv 3,Pv 4,Pv 5,Pv 6,(7,.mp 16),Ov 8,(13,.v (.clo 92 [] [.fptr (cells w)])),Cv 36 O,Iv 37 (len O),Iv 38 z.2.1],[Xb 2 B,(3,.box [cp G]),Xb 4 (⟨0,0⟩:aZ),(5,.box [bv false]),Xb 6 C.1,(16,pO z.2.2),Lb 2008 z.1],[2,3,4,5],[],true,0⟩) (λD=>(4,⟨[Pv 2,Pv 3,Pv 4,Pv 5,Pv 6,(7,.mp 16),Ov 8,(13,.v (.clo 92 [] [.fptr (cells w)]))],[Xb 2 B,(3,.box [cp G]),Xb 4 (⟨0,0⟩:aZ),(5,.box [bv false]),Xb 6 C.1,(16,pO D.2),Lb 2008 D.1],[2,3,4,5],[],true,0⟩)) (λD=>⟨[],[Xb 2 B,(3,.box [cp G]),Xb 4 C.1,(5,.box [bv true])],[2,3,4,5],[],true,0⟩) (λz=>bt 8 39 (bR 7 λT _=>bt 13 44 bf (Pz 7 16 z.2.2 T false (dA 3 49 bf (S5 5 16 z.2.2 T true (oB 6 2008 54 55 λY _=>bf))))) bf) (λD=>bf) (λD=>bf))))) bf)) (λJ=>bf) (λJ=>bf))) (λS=>bf) (λx=>elim x) (λI=>bf)))
namespace gD
def Ip(B D:Zj)(G:aZ)(J:Int)(x:aZ×Zn):aY (Fw Unit Empty (aZ×Int)):=(dm D x.1 x.2).bind λu=>bl (u==0) (some (.n ())) (some (.r (x.1,u)))
def E2(B D:Zj)(G:aZ)(J:Int):aY (aZ×Int):=(iF B).bind λz=>(nF (λ(x:aZ×Zn)(q:Unit)=>Ip B D G J x) z ()).bind (Fw.vf (λq=>(en D).bind λu=>bl (u.2.2==0) ((u.1).bind λC=>(gY D C).bind λw=>bl w.2 (some (w.1,10)) (some (⟨0,0⟩,0))) (some (u.2.1,u.2.2))) (λe=>elim e) (λe=>some (e.1,e.2)))
def bn(D:Int)(G:Zj)(J:aZ)(O:Int)(B:Int):aY (Fw Int Unit (aZ×Int)):=bl (decide (B<D)) ((ec G B).bind λu=>bl (u==0) (some (.n (wrap .i64 (B+1)))) (some (.r ((⟨B,0⟩:aZ),u)))) (some (.x ()))
def W1(J O:Int)(B:Zj)(D:aZ)(G:Int):aY (aZ×Int):=(bM (λq:Int=>bn J B D G q) O).bind (Fw.elim (λe=>(jv B).bind λu=>gD.E2 u B D G) (λe=>some (e.1,e.2)))
end gD
def gD(B:Zj):aY (aZ×Int):=(mq (len B.procs) 1 8).bind λu=>bl u (gD.W1 (len B.procs) 0 B (⟨0,0⟩:aZ) 0) (some (⟨0,0⟩,1))
open gD in
instance Rz(B:Zj):Fc Sy cL (gD B):=Fc.M 41 [enc B] (dB 2 1 B (bK 9 B.procs (bB 0 λO _=>dA 3 18 (bK 8 B.procs (dO 5 (λC=>(bE [Pv 1,Pv 2,Pv 3,Iv 22 (len B.procs),Iv 23 C] [Xb 1 B,Xb 2 (⟨0,0⟩:aZ),(3,.box [iv 0])])) (λu=>(0,(bE [Pv 1,Pv 2,Pv 3] [Xb 1 B,Xb 2 (⟨0,0⟩:aZ),(3,.box [iv 0])]))) (λu=>(bE [Pv 2,Pv 3] [Xb 2 u.1,(3,.box [iv u.2])])) (λC=>bt 7 24 (bB 15 λQ _=>dA 9 30 bf bf) bf) (λu=>bB 6 λz _=>IL λJ D=>Ey 4 [Pv 1,Pv 2,Pv 3,(36,.v (.clo 92 [] [.fptr (cells z)]))] (λG=>[Xb 1 B,Xb 2 (⟨0,0⟩:aZ),(3,.box [iv 0])]) (λw=>elim w) (λw=>[Xb 1 B,Xb 2 w.1,(3,.box [iv w.2])]) (w6 z J D) (λL G=>oC 8 7 0 L.2 (A9 1 (bB 7 λS _=>dA 9 44 bf bf))) (λG=>bB 5 λI _=>dA 17 54 (Oo 8 (λT=>(bE [Pv 2,Pv 3,(36,.v (.clo 92 [] [.fptr (cells z)])),Pv 10,Iv 11 I.2.2,Bv 54 false,Cv 58 B,Cv 59 T] [Xb 1 B,Xb 2 (⟨0,0⟩:aZ),(3,.box [iv 0]),Xb 10 I.2.1])) λU _=>bB 0 λW _=>bt 13 63 bf bf) bf) (λx=>elim x) (λw=>bf)) (λu=>bf))) bf)))
def dH(B:Zj):aY Zl:=(gD B).bind λu=>some (u.2==0)
instance RE(B:Zj):Fc Sy cL (dH B):=Fc.M 19 [enc B] (dB 2 1 B (bB 6 λu _=>bf))
def jA(B:Int):aY Zl:=(bl (decide (B>=18)) (some (decide (B<=21))) (some false):aY Zl).bind λu=>some u
instance KB(B:Int):Fc Sy cL (jA B):=Fc.M 20 [.int .i64 B] (b7 10 3 [0,5] 8 (bt 10 5 (bz 3) (bz 3)) λu=>bf)
namespace kE
def si(D:Zj)(B G:Int)(J:aZ)(O:Zl)(x:aZ×Zn):aY (Fw Unit Empty aZ):=(bl (x.2.kind==B) (some (x.2.message==G)) (some false):aY Zl).bind λu=>bl u (some (.r x.1)) (some (.n ()))
def E1(B:Zj)(D G:Int)(J:aZ)(O:Zl):aY (aZ×Zl):=(iF B).bind λu=>(nF (λ(x:aZ×Zn)(q:Unit)=>si B D G J O x) u ()).bind (Fw.vf (λq=>some (⟨0,0⟩,false)) (λe=>elim e) (λe=>some (e,true)))
end kE
def kE(D:Zj)(B G:Int):aY (aZ×Zl):=(dH D).bind λu=>bl u ((jv D).bind λw=>kE.E1 w B G (⟨0,0⟩:aZ) false) (some (⟨0,0⟩,false))
open kE in
instance SH(G:Zj)(B D:Int):Fc Sy cL (kE G B D):=Fc.M 140 [enc G,.int .i64 B,.int .i64 D] (dB 2 3 G (bB 10 λL _=>dA 3 12 (bB 7 λw _=>IL λI z=>Ey 4 [Pv 4,Pv 5,Pv 6,Pv 7,(15,.v (.clo 92 [] [.fptr (cells w)]))] (λC=>[(4,.box [iv B]),(5,.box [iv D]),Xb 6 (⟨0,0⟩:aZ),(7,.box [bv false])]) (λu=>elim u) (λu=>[(4,.box [iv B]),(5,.box [iv D]),Xb 6 u,(7,.box [bv true])]) (w6 w I z) (λJ C=>oC 8 9 0 J.2 (A9 1 (b7 9 5 [9,22] 27 (bt 9 22 (bz 5) (bz 5)) λO=>bt 2 27 bf bf))) (λC=>bf) (λx=>elim x) (λu=>bf)) bf))
def mL(B:Zj)(m1:Int):aY (aZ×Zl):=(kE B 2 m1).bind λu=>some (u.1,u.2)
instance Qs(B:Zj)(m1:Int):Fc Sy cL (mL B m1):=Fc.M 104 [enc B,.int .i64 m1] (dB 2 2 B (bB 8 λu _=>bf))
namespace jx
def J3(B:Sl aZ)(T:Sl cn)(U W:Int)(Y:Sl Zn)(a G:Int)(J:Zj)(b O:bZ)(c:cn)(D:aZ):aY (Fw ((Sl aZ)×Int×Zj×bZ×bZ) ((Sl aZ)×Zj×bZ) Empty):=(eW B (D:aZ)).bind λu=>some (.n (u,wrap .i64 (G+1),J,(⟨Sl.nil,Sl.nil⟩:bZ),O))
def bP(U:Sl cn)(W Y:Int)(J:Sl Zn)(O:Int)(a:cn)(B:Sl aZ)(D:Int)(G:Zj)(b T:bZ):aY (Fw ((Sl aZ)×Int×Zj×bZ×bZ) ((Sl aZ)×Zj×bZ) Empty):=bl (decide (D<O)) ((idx J D).bind λu=>bl (u.kind==3) ((mL G u.message).bind λw=>J3 B U W Y J O D G (⟨Sl.nil,Sl.nil⟩:bZ) T a w.1) (J3 B U W Y J O D G (⟨Sl.nil,Sl.nil⟩:bZ) T a (⟨0,0⟩:aZ))) (some (.x (B,G,T)))
def W2(B:Sl aZ)(J:Sl cn)(O D:Int)(T:Sl Zn)(U W:Int)(Y:Zj)(a b:bZ)(G:cn):aY (Fw (Int×Zj×bZ×bZ) bZ Empty):=(bM (λq:(Sl aZ)×Int×Zj×bZ×bZ=>bP J O D T U G q.1 q.2.1 q.2.2.1 q.2.2.2.1 q.2.2.2.2) (B,W,Y,a,b)).bind (Fw.elim (λe=>(eW e.2.2.lengths (len G.events:Int)).bind λu=>(eW e.2.2.need (e.1:Sl aZ)).bind λw=>some (.n (wrap .i64 (D+1),e.2.1,(⟨Sl.nil,Sl.nil⟩:bZ),(⟨u,w⟩:bZ)))) (λe=>elim e))
def bn(D:Sl cn)(G:Int)(B:Int)(O:Zj)(T J:bZ):aY (Fw (Int×Zj×bZ×bZ) bZ Empty):=bl (decide (B<G)) ((idx D B).bind λu=>W2 (Sl.nil:Sl aZ) D G B u.events (len u.events) 0 O (⟨Sl.nil,Sl.nil⟩:bZ) J u) (some (.x J))
def W1(B:Sl cn)(D G:Int)(J:Zj)(O T:bZ):aY bZ:=(bM (λq:Int×Zj×bZ×bZ=>bn B D q.1 q.2.1 q.2.2.1 q.2.2.2) (G,J,O,T)).bind (Fw.elim (λe=>some e) (λe=>elim e))
end jx
def jx(B:Zj):aY bZ:=jx.W1 B.procs (len B.procs) 0 B (⟨Sl.nil,Sl.nil⟩:bZ) (⟨Sl.nil,Sl.nil⟩:bZ)
open jx in
instance UA(D:Zj):Fc Sy cL (jx D):=Fc.N 134 [enc D] (dB 2 1 D (bK 13 D.procs (eO 7 (λu=>(bE [Pv 1,Pv 2,Pv 3,Cv 11 D.procs,Iv 12 (len D.procs),Iv 13 u.1] [Xb 1 u.2.1,Xb 2 (⟨Sl.nil,Sl.nil⟩:bZ),(3,.box [.own 4060,.own 4061]),Lb 4060 u.2.2.2.lengths,Lb 4061 u.2.2.2.need])) (λC=>(0,(bE [Pv 2,Pv 3] [Xb 2 (⟨Sl.nil,Sl.nil⟩:bZ),(3,.box [.own 4060,.own 4061]),Lb 4060 C.lengths,Lb 4061 C.need]))) (λu=>bt 9 14 (bR 7 λw _=>oC 2 5 0 w (bK 12 w.events (eO 8 (λz=>(bE [Pv 1,Pv 2,Pv 3,Pv 5,Ov 6,Cv 11 D.procs,Iv 12 (len D.procs),Iv 13 u.1,Cv 18 w.events,Iv 19 (len w.events),Iv 20 z.2.1] [Xb 1 z.2.2.1,Xb 2 (⟨Sl.nil,Sl.nil⟩:bZ),(3,.box [.own 4060,.own 4061]),Xb 5 w,Lb 2006 z.1,Lb 4060 z.2.2.2.2.lengths,Lb 4061 z.2.2.2.2.need])) (λB=>(2,(bE [Pv 1,Pv 2,Pv 3,Pv 5,Ov 6,Cv 11 D.procs,Iv 12 (len D.procs),Iv 13 u.1] [Xb 1 B.2.1,Xb 2 (⟨Sl.nil,Sl.nil⟩:bZ),(3,.box [.own 4060,.own 4061]),Xb 5 w,Lb 2006 B.1,Lb 4060 B.2.2.lengths,Lb 4061 B.2.2.need]))) (λz=>bt 10 21 (bR 7 λG _=>oC 2 8 0 G (bt 15 26 (bB 5 λJ _=>ya 10 (oB 4 2006 36 37 λI _=>bf)) (ya 7 (oB 4 2006 36 37 λI _=>bf)))) bf) (λB=>bK 8 w.events (oB 1 4060 44 45 λL _=>zI 9 50 ([B.1]:aX (Sl aZ)) (oB 0 4061 50 51 λO _=>bf)))))) bf) (λC=>oC 7 2 0 C bf))))
def ni(J:bZ)(B:Zg)(p2:Int):aY Zl:=(idx B p2).bind λw=>(idx J.lengths p2).bind λz=>bl (w==z) (some false) ((idx J.need p2).bind λC=>(idx B p2).bind λD=>(idx C D).bind λu=>(idx B u.proc).bind λG=>some (decide (u.index<=G)))
instance Ls(B:bZ)(D:Zg)(p2:Int):Fc Sy cL (ni B D p2):=Fc.M 153 [enc B,enc D,.int .i64 p2] (dB 2 3 B (bR 8 λu _=>bR 4 λw _=>bt 4 17 bf (bR 8 λz _=>bR 3 λC _=>bR 1 λG _=>bR 12 λI _=>bf)))
def lC(B:Zg):aY Zg:=(Sl.isNil B).bind λu=>bl u (some Sl.nil) ((nD (Sl.row []:Zg) B).bind λw=>some w)
theorem qL:AR Sy cL 56 (λB:Zg=>[enc B]) (λz=>lC z):=AR.mk' (rQ (Tx 56)) (λB=>UQ 9 λu _=>bt 2 4 bf (ym 7 5 7 λw _=>bf))
def p8(B:Int):aY Zl:=some (!(B==B))
instance Pg(B:Int):Fc Sy cL (p8 B):=Fc.M 187 [.int .i64 B] (bf)
def n9(B D:Int):Z6:=(p8 B).bind λw=>(p8 D).bind λu=>bl w (bl u (some 0) (some (-1))) (bl u (some 1) (bl (decide (B<D)) (some (-1)) (bl (decide (B>D)) (some 1) (some 0))))
instance MD(B D:Int):Fc Sy cL (n9 B D):=Fc.M 171 [.int .i64 B,.int .i64 D] (bB 8 λu _=>bB 6 λw _=>bt 9 11 (bt 7 12 bf bf) (bt 9 13 bf (bt 11 16 bf (bt 11 19 bf bf))))
namespace eC
def bn(J D O:Zg)(G:Int)(B:Int):aY (Fw Int Unit Int):=bl (decide (B<G)) ((idx O B).bind λw=>bl (decide (B>=(len D))) (some (.r 1)) ((idx D B).bind λz=>(n9 w z).bind λu=>bl (u==0) (some (.n (wrap .i64 (B+1)))) (some (.r u)))) (some (.x ()))
def W1(B D O:Zg)(G J:Int):Z6:=(bM (λq:Int=>bn B D O G q) J).bind (Fw.elim (λe=>bl (decide ((len B)<(len D))) (some (-1)) (some 0)) (λe=>some e))
end eC
def eC(B D:Zg):Z6:=eC.W1 B D B (len B) 0
open eC in
instance Ke(B D:Zg):Fc Sy cL (eC B D):=Fc.M 156 [enc B,enc D] (bK 9 B (dO 5 (λw=>(bE [Cv 0 B,Cv 1 D,Cv 9 B,Iv 10 (len B),Iv 11 w] [])) (λu=>(0,(bE [Cv 0 B,Cv 1 D] []))) (λu=>(bE [Iv 4 u] [])) (λw=>bt 7 12 (bR 8 λz _=>bK 10 D (bt 3 19 bf (bR 7 λC _=>bB 8 λG _=>dA 9 28 bf bf))) bf) (λu=>bK 6 B (bK 1 D (bt 3 35 bf bf))) (λu=>bf)))
def jc(a0 B:Zg):Z6:=(eC a0 B).bind λu=>some u
instance Kg(a0 B:Zg):Fc Sy cL (jc a0 B):=Fc.M 155 [enc a0,enc B] (bB 9 λu _=>bf)
namespace eF
def bn(D G:Zg)(J:Int)(B:Int):aY (Fw Int Unit Unit):=bl (decide (B<J)) ((idx D B).bind λu=>(idx G B).bind λw=>bl (u==w) (some (.n (wrap .i64 (B+1)))) (some (.r ()))) (some (.x ()))
def W1(B D:Zg)(G J:Int):aY Zl:=(bM (λq:Int=>bn B D G q) J).bind (Fw.elim (λe=>some true) (λe=>some false))
end eF
def eF(B D:Zg):aY Zl:=bl ((len B)==(len D)) (eF.W1 B D (len B) 0) (some false)
open eF in
instance LM(B D:Zg):Fc Sy cL (eF B D):=Fc.M 159 [enc B,enc D] (bK 9 B (bK 1 D (dA 3 10 (bK 7 B (dO 5 (λw=>(bE [Cv 0 B,Cv 1 D,Iv 12 (len B),Iv 13 w] [])) (λu=>(0,(bE [] []))) (λu=>(bE [Bv 4 false] [])) (λw=>bt 7 14 (bR 15 λz _=>bR 3 λC _=>dA 4 24 bf bf) bf) (λu=>bf) (λu=>bf))) bf)))
def jS(a0 B:Zg):aY Zl:=(eF a0 B).bind λu=>some u
instance IW(a0 B:Zg):Fc Sy cL (jS a0 B):=Fc.M 158 [enc a0,enc B] (bB 9 λu _=>bf)
namespace dQ
def bP(T:Zg)(U:Zb)(W Y G:Int)(J:bZ)(D:Zb)(B:Int):aY (Fw ((Zb)×Int) Zb Empty):=bl (decide (B<G)) ((ni J T B).bind λw=>bl w (((lC T).bind Sl.whole).bind λu=>(Sl.iB u B).bind λz=>(Sl.get u z).bind λC=>(Sl.iB u B).bind λI=>(Sl.put u I (wrap .i64 (C+1):Int)).bind λL=>(eW D (L:Zg)).bind λO=>some (.n (O,wrap .i64 (B+1)))) (some (.n (D,wrap .i64 (B+1))))) (some (.x D))
def W2(B:Zb)(W:Zg)(J:Zb)(D G O T:Int)(U:bZ):aY (Fw ((Zb)×Int×Int) Zb Empty):=(bM (λq:(Zb)×Int=>bP W J D G O U q.1 q.2) (B,T)).bind (Fw.elim (λe=>some (.n (e,D,wrap .i64 (G+1)))) (λe=>elim e))
def bn(G:Zb)(O:bZ)(B:Zb)(J D:Int):aY (Fw ((Zb)×Int×Int) Zb Empty):=bl (decide (D<J)) ((idx G D).bind λu=>W2 B u G J D (len u) 0 O) (some (.x B))
def W1(B D:Zb)(G J:Int)(O:bZ):aY Zb:=(bM (λq:(Zb)×Int×Int=>bn D O q.1 q.2.1 q.2.2) (B,G,J)).bind (Fw.elim (λe=>(wS e jc).bind λw=>(vw w jS).bind λu=>some u) (λe=>elim e))
end dQ
def dQ(D:bZ)(B:Zb):aY Zb:=dQ.W1 (Sl.nil:Zb) B (len B) 0 D
open dQ in
instance MC(G:bZ)(B:Zb):Fc Sy cL (dQ G B):=Fc.N 135 [enc G,enc B] (dB 2 2 G (bK 12 B (eO 6 (λu=>(bE [Pv 2,Ov 5,Cv 10 B,Iv 11 u.2.1,Iv 12 u.2.2] [Xb 2 G,Lb 2005 u.1])) (λI=>(0,(bE [Ov 5] [Lb 2005 I]))) (λu=>bt 8 13 (bR 7 λw _=>bK 7 w (eO 6 (λC=>(bE [Pv 2,Ov 5,Cv 7 w,Cv 10 B,Iv 11 u.2.1,Iv 12 u.2.2,Iv 17 (len w),Iv 18 C.2] [Xb 2 G,Lb 2005 C.1])) (λJ=>(2,(bE [Pv 2,Ov 5,Cv 10 B,Iv 11 u.2.1,Iv 12 u.2.2] [Xb 2 G,Lb 2005 J]))) (λC=>bt 8 19 (bB 16 λQ _=>bt 2 24 (Jc 4 26 qL w λS _=>jE .i64 7 26 λT _=>pL 0 26 0 1 false (λD=>.int .i64 D) λD _=>jE .i64 1 26 λU _=>tN 0 26 (.int .i64 (wrap .i64 (D+1))) λL _=>zI 6 35 ([L]:aX Zg) (oB 0 2005 35 36 λW _=>bf)) bf) bf) (λJ=>bf))) bf) (λI=>TH 5 2005 IK Ct PV (kN.vL (λz=>inferInstanceAs (Fc Sy cL (jc z.1 z.2))) default (λ_=>rfl) (λ_=>rfl) (λ_=>rfl) (λ_=>rfl)) λX _=>TN 5 2005 42 IK Ct P9 (kN.vL (λz=>inferInstanceAs (Fc Sy cL (jS z.1 z.2))) default (λ_=>rfl) (λ_=>rfl) (λ_=>rfl) (λ_=>rfl)) λO _=>bf))))
namespace ji
def bn(J:bZ)(B:Zb)(G:Sl Zb)(D:Int):aY (Fw ((Zb)×(Sl Zb)×Int) (Sl Zb) Unit):=bl (decide ((len B)>0)) (bl (decide ((wrap .i64 (D+(len B)))>5000)) (some (.r ())) ((eW G (B:Zb)).bind λu=>(dQ J B).bind λw=>some (.n (w,u,wrap .i64 (D+(len B)))))) (some (.x G))
def W1(B:Zb)(G:Sl Zb)(D:Int)(J:bZ):aY ((Sl Zb)×Int):=(bM (λq:(Zb)×(Sl Zb)×Int=>bn J q.1 q.2.1 q.2.2) (B,G,D)).bind (Fw.elim (λe=>some (e,0)) (λe=>some ((Sl.nil:Sl Zb),16)))
end ji
def ji(B:Zj):aY ((Sl Zb)×Int):=(dH B).bind λu=>bl u ((jx B).bind λw=>(jT (len B.procs) (0:Int)).bind λz=>ji.W1 (Sl.row [z]:Zb) (Sl.nil:Sl Zb) 0 w) (some ((Sl.nil:Sl Zb),1))
open ji in
instance RA(B:Zj):Fc Sy cL (ji B):=Fc.N 98 [enc B] (dB 2 1 B (bB 8 λD _=>dA 3 10 (bB 6 λz _=>oC 1 4 0 z (bK 6 B.procs (yO 0 16 λC _=>zI 1 17 ([C]:aX Zg) (dO 18 (λu=>(bE [Pv 4,Cv 5 u.1,Ov 6,Iv 7 u.2.2] [Xb 4 z,Lb 2006 u.2.1])) (λw=>(0,(bE [Ov 6] [Lb 2006 w]))) (λw=>(bE [Ov 2,Iv 3 16] [Lb 2002 (Sl.nil:Sl Zb)])) (λu=>bK 7 u.1 (bt 3 20 (bK 10 u.1 (bt 10 29 bf (zI 6 32 ([u.1]:aX Zb) (oB 0 2006 32 33 λG _=>bB 7 λI _=>bf)))) bf)) (λw=>bf) (λw=>bf))))) bf))
def e_(s:Sl Zb):aY Zb:=if s.l.length<=2147483648/\(s.l.flatMap Sl.l).length<=2147483648 then some (Aw s)else none
instance Jy(s:Sl Zb):Fc Sy cL (e_ s):=Fc.of (A:=λz:Sl Zb=>[enc z]) (E:=λr:Zb=>[enc r]) (p:=e_) (n:=99) (z:=s) (kN.U5 Zf Zf (λz r h=>by
 unfold e_ at h;split at h
 next a=>cases h;exact Dq (QG (E:=Sy.E) (N:=λn=>n) (gid:=136) (nm:=some) (λ_ _ h=>(Option.some.inj h).symm) rfl Zf Zf (AS Zf) (AS Zf) rfl z a.1 a.2)
 cases h))
def oG(B:Zj):aY ((Zb)×Int):=(ji B).bind λu=>(e_ u.1).bind λw=>some (w,u.2)
instance Tq(B:Zj):Fc Sy cL (oG B):=Fc.N 65 [enc B] (dB 2 1 B (bB 7 λu _=>bB 10 λw _=>bf))
def oL(B:Zj):aY ((Zb)×Int):=(oG B).bind λu=>some (u.1,u.2)
instance To(B:Zj):Fc Sy cL (oL B):=Fc.N 42 [enc B] (dB 2 1 B (bB 7 λu _=>bf))
namespace gw
def bn(J:Zg)(D:Int)(G:Sl U8)(B:Int):aY (Fw ((Sl U8)×Int) (Sl U8) Empty):=bl (decide (B<D)) ((idx J B).bind λu=>(Sl.iB G B).bind λw=>(Sl.put G w (⟨wrap .u8 u⟩:U8)).bind λz=>some (.n (z,wrap .i64 (B+1)))) (some (.x G))
def W1(G:Sl U8)(J:Zg)(B D:Int):aY Zq:=(bM (λq:(Sl U8)×Int=>bn J B q.1 q.2) (G,D)).bind (Fw.elim (λe=>some (Jt e)) (λe=>elim e))
end gw
def gw(B:Zg):aY Zq:=(jT (len B) (⟨0⟩:U8)).bind λu=>gw.W1 u B (len B) 0
open gw in
instance PL(B:Zg):Fc Sy cL (gw B):=Fc.M 43 [enc B] (bK 8 B (yO 0 8 λC _=>bK 7 B (eO 6 (λu=>(bE [Ov 3,Cv 9 B,Iv 10 (len B),Iv 11 u.2] [Lb 2003 u.1])) (λw=>(0,(bE [Ov 3] [Lb 2003 w]))) (λu=>bt 8 12 (bR 8 λz _=>jE .i64 10 2003 λD _=>tN 0 2003 (.int .u8 (wrap .u8 z)) λG _=>bf) bf) (λw=>TW 5 2003 w bf))))
def mR(B:Zg)(D:Zj):aY Zl:=some (!((len B)==(len D.procs)))
instance Ra(B:Zg)(D:Zj):Fc Sy cL (mR B D):=Fc.M 138 [enc B,.fptr (cells D)] (bK 8 B (bK 2 D.procs bf))
namespace fK
def bn(D:Zb)(G:Int)(B:Int)(p1:(Zg)->aY Zl):aY (Fw Int Unit Int):=bl (decide (B<G)) ((idx D B).bind λu=>(p1 u).bind λw=>bl w (some (.r B)) (some (.n (wrap .i64 (B+1))))) (some (.x ()))
def W1(B:Zb)(D G:Int)(p1:(Zg)->aY Zl):Z6:=(bM (λq:Int=>bn B D q p1) G).bind (Fw.elim (λe=>some (-1)) (λe=>some e))
end fK
def fK(B:Zb)(p1:(Zg)->aY Zl):Z6:=fK.W1 B (len B) 0 p1
open fK in
abbrev uR(g1:FuncId)(e1:aX V)(p1:(Sl Int)->aY Bool)(a:pH Sy cL g1 [] e1 (λz:Sl Int=>[enc z]) (λr:Bool=>[.bool r]) p1 true)(B:Sl (Sl Int)):Fc Sy cL (fK B p1):=Fc.M 160 [enc B,.clo g1 [] e1] (bK 9 B (dO 5 (λw=>(bE [Cv 0 B,(1,.v (.clo g1 [] e1)),Iv 7 (len B),Iv 8 w] [])) (λu=>(0,(bE [] []))) (λu=>(bE [Iv 4 u] [])) (λw=>bt 7 9 (bR 16 λC _=>wV 1 a.f C λD _=>bt 2 16 bf bf) bf) (λu=>bf) (λu=>bf)))
def jt(B:Zb)(p1:(Zg)->aY Zl):aY Zl:=(fK B p1).bind λu=>some (decide (u>=0))
abbrev tJ(g1:FuncId)(e1:aX V)(p1:(Sl Int)->aY Bool)(a:pH Sy cL g1 [] e1 (λz:Sl Int=>[enc z]) (λr:Bool=>[.bool r]) p1 true)(B:Sl (Sl Int)):Fc Sy cL (jt B p1):=Fc.M 137 [enc B,.clo g1 [] e1] (bB (F:=uR g1 e1 p1 a B) 9 λu _=>bf)
def xS(D:Zj)(G:Zb):aY Zl:=(dH D).bind λu=>(bl u ((jt G (λz=>mR z D)).bind λw=>some (!w)) (some false):aY Zl).bind λB=>some B
instance Tr(B:Zj)(D:Zb):Fc Sy cL (xS B D):=Fc.M 100 [enc B,enc D] (dB 2 2 B (bB 6 λu _=>b7 1 5 [1,2,7] 12 (bt 1 7 (pY (F:=tJ 138 [.fptr (cells B)] (λz=>mR z B) pH.vL D) 2 λw _=>bz 2) (bz 5)) λC=>bf))
namespace jf
def bn(G:Zg)(J:Int)(D:Zj)(B:Int):aY (Fw Int Unit Unit):=bl (decide (B<J)) ((idx G B).bind λu=>(bl (decide (u<0)) (some true) ((idx D.procs B).bind λw=>some (decide (u>(len w.events)))):aY Zl).bind λz=>bl z (some (.r ())) (some (.n (wrap .i64 (B+1))))) (some (.x ()))
def W1(D:Zg)(G J:Int)(B:Zj):aY Zl:=(bM (λq:Int=>bn D G B q) J).bind (Fw.elim (λe=>some true) (λe=>some false))
end jf
def jf(D:Zj)(B:Zg):aY Zl:=jf.W1 B (len B) 0 D
open jf in
instance Rr(D:Zj)(B:Zg):Fc Sy cL (jf D B):=Fc.M 101 [enc D,enc B] (dB 2 2 D (bK 7 B (dO 5 (λw=>(bE [Pv 2,Cv 7 B,Iv 8 (len B),Iv 9 w] [Xb 2 D])) (λu=>(0,(bE [] []))) (λu=>(bE [Bv 4 false] [])) (λw=>bt 7 10 (bR 8 λC _=>b7 10 10 [5,6,16] 26 (bt 10 16 (bz 10) (bR 4 λz _=>bK 2 z.events (bz 2))) λG=>bt 2 26 bf bf) bf) (λu=>bf) (λu=>bf))))
def sL(B:Zj)(p1:Int):aY Zl:=(bl (decide (p1>=0)) (some (decide (p1<(len B.procs)))) (some false):aY Zl).bind λu=>some u
instance RP(B:Zj)(p1:Int):Fc Sy cL (sL B p1):=Fc.M 102 [enc B,.int .i64 p1] (dB 2 2 B (b7 8 6 [1,2,7] 13 (bt 8 7 (bK 3 B.procs (bz 2)) (bz 6)) λu=>bf))
namespace gB
def bP(U:Zg)(p7:Int)(W:Zg)(Y a:Int)(J:Sl Zn)(O:Int)(T:Zj)(G D:aZ)(B:Int):aY (Fw Int Unit (aZ×aZ)):=bl (decide (B<O)) ((idx J B).bind λw=>bl (w.kind==3) ((mL T w.message).bind λu=>(idx U u.1.proc).bind λz=>bl (decide (u.1.index>z)) (some (.r (u.1,(⟨p7,wrap .i64 (B+1)⟩:aZ)))) (some (.n (wrap .i64 (B+1))))) (some (.n (wrap .i64 (B+1))))) (some (.x ()))
def W2(a:Zg)(p7:Int)(J:Zg)(O G:Int)(T:Sl Zn)(U W:Int)(Y:Zj)(D B:aZ):aY (Fw Int Unit (aZ×aZ)):=(bM (λq:Int=>bP a p7 J O G T U Y D B q) W).bind (Fw.elim (λe=>some (.n (wrap .i64 (G+1)))) (λe=>some (.r (e.1,e.2))))
def bn(U J:Zg)(O:Int)(T:Zj)(G B:aZ)(D:Int):aY (Fw Int Unit (aZ×aZ)):=bl (decide (D<O)) ((idx J D).bind λw=>(idx T.procs D).bind λz=>(ga z.events none (some w)).bind λu=>W2 U D J O D u (len u) 0 T G B) (some (.x ()))
def W1(U G:Zg)(J O:Int)(T:Zj)(D B:aZ):aY (aZ×aZ×Zl):=(bM (λq:Int=>bn U G J T D B q) O).bind (Fw.elim (λe=>some (⟨0,0⟩,⟨0,0⟩,false)) (λe=>some (e.1,e.2,true)))
end gB
def gB(D:Zj)(B:Zg):aY (aZ×aZ×Zl):=gB.W1 B B (len B) 0 D (⟨0,0⟩:aZ) (⟨0,0⟩:aZ)
open gB in
instance RD(D:Zj)(B:Zg):Fc Sy cL (gB D B):=Fc.M 139 [enc D,enc B] (dB 2 2 D (bK 9 B (dO 5 (λu=>(bE [Cv 1 B,Pv 2,Pv 4,Pv 5,Cv 13 B,Iv 14 (len B),Iv 15 u] [Xb 2 D,Xb 4 (⟨0,0⟩:aZ),Xb 5 (⟨0,0⟩:aZ)])) (λw=>(0,(bE [Pv 4,Pv 5] [Xb 4 (⟨0,0⟩:aZ),Xb 5 (⟨0,0⟩:aZ)]))) (λw=>(bE [Pv 4,Pv 5,Bv 6 true] [Xb 4 w.1,Xb 5 w.2])) (λu=>bt 7 16 (bR 8 λI _=>bR 10 λL _=>Co 3 false true [.int .i64 I] λC _=>bK 0 C (dO 5 (λG=>(bE [Cv 1 B,Pv 2,Pv 4,Pv 5,Iv 7 u,Cv 13 B,Iv 14 (len B),Iv 15 u,Cv 27 C,Iv 28 (len C),Iv 29 G] [Xb 2 D,Xb 4 (⟨0,0⟩:aZ),Xb 5 (⟨0,0⟩:aZ)])) (λz=>(2,(bE [Cv 1 B,Pv 2,Pv 4,Pv 5,Cv 13 B,Iv 14 (len B),Iv 15 u] [Xb 2 D,Xb 4 (⟨0,0⟩:aZ),Xb 5 (⟨0,0⟩:aZ)]))) (λz=>(bE [Pv 4,Pv 5,Bv 6 true] [Xb 4 z.1,Xb 5 z.2])) (λG=>bt 7 30 (bR 8 λJ _=>oC 3 10 0 J (dA 10 36 (bB 8 λO _=>bR 15 λQ _=>bt 4 51 bf bf) bf)) bf) (λz=>bf) (λz=>bf))) bf) (λw=>bf) (λw=>bf))))
def wU(B:Zj)(D:Zg):aY Zl:=(gB B D).bind λu=>some (!u.2.2)
instance Sd(B:Zj)(D:Zg):Fc Sy cL (wU B D):=Fc.M 103 [enc B,enc D] (dB 2 2 B (bB 7 λu _=>bf))
namespace eu
def dU(D:Zb)(G:Int)(J:Zj)(B:Int):aY (Fw Int Unit Unit):=bl (decide (B<G)) ((idx D B).bind λu=>(wU J u).bind λw=>bl w (some (.n (wrap .i64 (B+1)))) (some (.r ()))) (some (.x ()))
def W3(B:Zb)(D G:Int)(J:Zj):Z6:=(bM (λq:Int=>dU B D J q) G).bind (Fw.elim (λe=>some 0) (λe=>some 18))
def bP(O:Zb)(D:Zg)(G:Int)(J:Zj)(B:Int):aY (Fw Int Unit Unit):=bl (decide (B<G)) ((idx D B).bind λu=>(sL J u).bind λw=>bl w (some (.n (wrap .i64 (B+1)))) (some (.r ()))) (some (.x ()))
def W2(D:Zb)(G:Zg)(J O:Int)(B:Zj):Z6:=(bM (λq:Int=>bP D G J B q) O).bind (Fw.elim (λe=>eu.W3 D (len D) 0 B) (λe=>some 2))
def bn(T:Zb)(D:Zg)(G:Zb)(J:Int)(O:Zj)(B:Int):aY (Fw Int Unit Unit):=bl (decide (B<J)) ((idx G B).bind λu=>(jf O u).bind λw=>bl w (some (.n (wrap .i64 (B+1)))) (some (.r ()))) (some (.x ()))
def W1(T:Zb)(B:Zg)(G:Zb)(J O:Int)(D:Zj):Z6:=(bM (λq:Int=>bn T B G J D q) O).bind (Fw.elim (λe=>eu.W2 T B (len B) 0 D) (λe=>some 2))
end eu
def eu(G:Zj)(D:Zb)(B:Zg):Z6:=(xS G D).bind λu=>bl u (eu.W1 D B D (len D) 0 G) (some 1)
open eu in
instance Tt(G:Zj)(D:Zb)(B:Zg):Fc Sy cL (eu G D B):=Fc.M 66 [enc G,enc D,enc B] (dB 2 3 G (bB 8 λL _=>dA 3 16 (bK 7 D (dO 5 (λC=>(bE [Cv 1 D,Cv 2 B,Pv 3,Cv 17 D,Iv 18 (len D),Iv 19 C] [Xb 3 G])) (λu=>(0,(bE [Cv 1 D,Cv 2 B,Pv 3] [Xb 3 G]))) (λu=>(bE [Iv 6 2] [])) (λC=>bt 7 20 (bR 7 λO _=>bB 8 λQ _=>dA 3 26 bf bf) bf) (λu=>bK 6 B (dO 5 (λI=>(bE [Cv 1 D,Pv 3,Cv 28 B,Iv 29 (len B),Iv 30 I] [Xb 3 G])) (λw=>(2,(bE [Cv 1 D,Pv 3] [Xb 3 G]))) (λw=>(bE [Iv 6 2] [])) (λI=>bt 7 31 (bR 7 λS _=>bB 8 λT _=>dA 3 37 bf bf) bf) (λw=>bK 6 D (dO 5 (λJ=>(bE [Pv 3,Cv 39 D,Iv 40 (len D),Iv 41 J] [Xb 3 G])) (λz=>(4,(bE [] []))) (λz=>(bE [Iv 6 18] [])) (λJ=>bt 7 42 (bR 7 λU _=>bB 8 λW _=>dA 3 48 bf bf) bf) (λz=>bf) (λz=>bf))) (λw=>bf))) (λu=>bf))) bf))
def sV(D:Zj)(G:Zg)(p2:Int):aY Zl:=(idx D.procs p2).bind λz=>(idx G p2).bind λB=>(idx z.events B).bind λu=>bl (u.kind==3) ((mL D u.message).bind λw=>(idx G w.1.proc).bind λC=>some (decide (w.1.index<=C))) (some true)
instance RH(B:Zj)(D:Zg)(p2:Int):Fc Sy cL (sV B D p2):=Fc.M 67 [enc B,enc D,.int .i64 p2] (dB 2 3 B (bR 8 λw _=>bR 4 λz _=>bR 1 λu _=>oC 2 7 0 u (dA 10 24 (bB 8 λC _=>bR 15 λG _=>bf) bf)))
def sZ(D:Zj)(B:Zg)(p2:Int):aY ((Zg)×Int):=(eu D (Sl.row [B]:Zb) (Sl.row [p2]:Zg)).bind λw=>bl (w==0) ((idx B p2).bind λz=>(idx D.procs p2).bind λC=>bl (z==(len C.events)) (some (Sl.nil,4)) ((sV D B p2).bind λG=>bl G (((lC B).bind Sl.whole).bind λu=>(Sl.iB u p2).bind λI=>(Sl.get u I).bind λJ=>(Sl.iB u p2).bind λL=>(Sl.put u L (wrap .i64 (J+1):Int)).bind λO=>some (O,0)) (some (Sl.nil,11)))) (some (Sl.nil,w))
instance RJ(D:Zj)(B:Zg)(p2:Int):Fc Sy cL (sZ D B p2):=Fc.N 44 [enc D,enc B,.int .i64 p2] (dB 2 3 D (zI 9 12 ([B]:aX Zg) (pY 2 λz _=>dA 9 17 (bR 9 λC _=>bR 4 λw _=>bK 2 w.events (bt 4 19 bf (bB 6 λG _=>dA 4 32 (Jc 7 39 qL B λI _=>jE .i64 7 39 λJ _=>pL 0 39 0 1 false (λu=>.int .i64 u) λu _=>jE .i64 1 39 λL _=>tN 0 39 (.int .i64 (wrap .i64 (u+1))) λO _=>bf) bf))) bf)))
namespace cW
def dU(O:Zg)(W:Zb)(Y a T:Int)(U:Zj)(J:Mo ByteArray Int)(B:Zg)(G:Int)(D:bQ):aY (Fw ((Zg)×Int×bQ) ((Zg)×(Mo ByteArray Int)×bQ) Empty):=bl (decide (G<T)) ((sZ U O G).bind λu=>bl (u.2==0) ((gw u.1).bind λw=>(eW B (rL J w 0:Int)).bind λz=>some (.n (z,wrap .i64 (G+1),D))) (some (.n (B,wrap .i64 (G+1),D)))) (some (.x (B,J,D)))
def W3(O B:Zg)(T:Zb)(U D W Y:Int)(a:Zj)(G:Mo ByteArray Int)(J:bQ):aY (Fw (Int×(Mo ByteArray Int)×bQ) bQ Empty):=(bM (λq:(Zg)×Int×bQ=>dU O T U D W a G q.1 q.2.1 q.2.2) (B,Y,J)).bind (Fw.elim (λe=>(eW e.2.2.next (e.1:Zg)).bind λu=>some (.n (wrap .i64 (D+1),e.2.1,(⟨e.2.2.t,e.2.2.l,u⟩:bQ)))) (λe=>elim e))
def bP(G:Zb)(J:Int)(T:Zj)(D:Int)(O:Mo ByteArray Int)(B:bQ):aY (Fw (Int×(Mo ByteArray Int)×bQ) bQ Empty):=bl (decide (D<J)) ((idx G D).bind λu=>W3 u (Sl.nil:Zg) G J D (len u) 0 T O B) (some (.x B))
def W2(G:Zb)(J O:Int)(T:Zj)(B:Mo ByteArray Int)(D:bQ):aY ((aY bQ)×Int):=(bM (λq:Int×(Mo ByteArray Int)×bQ=>bP G J T q.1 q.2.1 q.2.2) (O,B,D)).bind (Fw.elim (λe=>some (some e,0)) (λe=>elim e))
def bn(T G:Zb)(J:Int)(O:Zj)(B:Int)(D:Mo ByteArray Int):aY (Fw (Int×(Mo ByteArray Int)) (Mo ByteArray Int) Empty):=bl (decide (B<J)) ((idx G B).bind λu=>(gw u).bind λw=>some (.n (wrap .i64 (B+1),mP D w B))) (some (.x D))
def W1(G J:Zb)(O T:Int)(B:Zj)(D:Mo ByteArray Int):aY ((aY bQ)×Int):=(bM (λq:Int×(Mo ByteArray Int)=>bn G J O B q.1 q.2) (T,D)).bind (Fw.elim (λe=>cW.W2 G (len G) 0 B e (⟨B,G,Sl.nil⟩:bQ)) (λe=>elim e))
end cW
def cW(B:Zj):aY ((aY bQ)×Int):=(oL B).bind λu=>bl (u.2==0) (cW.W1 u.1 u.1 (len u.1) 0 B []) (some (none,u.2))
open cW in
instance OQ(D:Zj):Fc Sy cL (cW D):=Fc.N 21 [enc D] (dB 2 1 D (bB 7 λu _=>dA 14 22 (bK 13 u.1 (eO 5 (λC=>(bE [Pv 1,Cv 4 u.1,(6,.mp 24),Cv 25 u.1,Iv 26 (len u.1),Iv 27 C.1] [Xb 1 D,(24,pO C.2)])) (λJ=>(0,(bE [Pv 1,Cv 4 u.1,(6,.mp 24)] [Xb 1 D,(24,pO J)]))) (λC=>bt 7 28 (bR 8 λQ _=>bB 8 λL _=>S5 1 24 C.2 L C.1 bf) bf) (λJ=>U9 6 (⟨D,u.1,Sl.nil⟩:bQ) [enc D,enc u.1] [.bD,.bD,.bD] [(0,1),(1,1)] (by simp only[Jl,LO,ow,S9,Q6,S_,Tm];rfl) rfl (dB 0 40 (⟨D,u.1,Sl.nil⟩:bQ) (bK 7 u.1 (eO 6 (λw=>(bE [Pv 1,(6,.mp 24),(9,.ptr 40 0),Cv 41 u.1,Iv 42 (len u.1),Iv 43 w.1] [Xb 1 D,(24,pO w.2.1),(40,.box [cv w.2.2.t.procs,cv w.2.2.l,.own 4802]),Lb 4802 w.2.2.next])) (λG=>(2,(bE [(9,.ptr 40 0)] [(40,.box [cv G.t.procs,cv G.l,.own 4802]),Lb 4802 G.next]))) (λw=>bt 8 44 (bR 7 λI _=>bK 13 I (eO 7 (λB=>(bE [Pv 1,(6,.mp 24),(9,.ptr 40 0),Cv 11 I,Ov 12,Cv 41 u.1,Iv 42 (len u.1),Iv 43 w.1,Iv 48 (len I),Iv 49 B.2.1] [Xb 1 D,(24,pO w.2.1),(40,.box [cv B.2.2.t.procs,cv B.2.2.l,.own 4802]),Lb 2012 B.1,Lb 4802 B.2.2.next])) (λz=>(4,(bE [Pv 1,(6,.mp 24),(9,.ptr 40 0),Ov 12,Cv 41 u.1,Iv 42 (len u.1),Iv 43 w.1] [Xb 1 D,(24,pO z.2.1),(40,.box [cv z.2.2.t.procs,cv z.2.2.l,.own 4802]),Lb 2012 z.1,Lb 4802 z.2.2.next]))) (λB=>bt 9 50 (bB 16 λS _=>bt 13 60 (bB 5 λO _=>Pz 0 24 w.2.1 O 0 (oB 1 2012 66 67 λT _=>bf)) bf) bf) (λz=>zI 10 75 ([z.1]:aX Zg) (oB 0 4802 75 76 λU _=>bf)))) bf) (λG=>bf))))))) bf))
namespace eN
def bn(D:Sl Zl)(G:Zl)(J:Int)(B:Int):aY (Fw Int Unit Int):=bl (decide (B<J)) ((idx D B).bind λu=>bl (G==u) (some (.r B)) (some (.n (wrap .i64 (B+1))))) (some (.x ()))
def W1(B:Sl Zl)(D:Zl)(G J:Int):Z6:=(bM (λq:Int=>bn B D G q) J).bind (Fw.elim (λe=>some (-1)) (λe=>some e))
end eN
def eN(B:Sl Zl)(D:Zl):Z6:=eN.W1 B D (len B) 0
open eN in
instance KA(B:Sl Zl)(D:Zl):Fc Sy cL (eN B D):=Fc.M 77 [enc B,.bool D] (bK 9 B (dO 5 (λw=>(bE [Cv 0 B,Bv 1 D,Iv 7 (len B),Iv 8 w] [])) (λu=>(0,(bE [] []))) (λu=>(bE [Iv 4 u] [])) (λw=>bt 7 9 (bR 16 λz _=>bt 4 16 bf bf) bf) (λu=>bf) (λu=>bf)))
def hU(B:Sl Zl)(D:Zl):aY Zl:=(eN B D).bind λu=>some (decide (u>=0))
instance HA(B:Sl Zl)(D:Zl):Fc Sy cL (hU B D):=Fc.M 50 [enc B,.bool D] (bB 9 λu _=>bf)
def lN(B:Sl Zl):aY Zl:=(hU B true).bind λu=>some u
instance OO(B:Sl Zl):Fc Sy cL (lN B):=Fc.M 30 [enc B] (bB 8 λu _=>bf)
def mW(B:Sl Zl):aY Zl:=(bl (decide ((len B)>0)) ((hU B false).bind λu=>some (!u)) (some false):aY Zl).bind λw=>some w
instance QS(B:Sl Zl):Fc Sy cL (mW B):=Fc.M 29 [enc B] (bK 8 B (b7 2 4 [0,6] 10 (bt 2 6 (bB 1 λu _=>bz 2) (bz 4)) λw=>bf))
def fS(G:Int)(B:Sl Zl)(O:Int)(J:Sl Zl):aY Zl:=bl (O==18) ((idx J G).bind λI=>(bl I (some true) ((lN B).bind λL=>some L):aY Zl).bind λQ=>some Q) (bl (O==19) ((idx J G).bind λS=>(bl S (some true) ((mW B).bind λT=>some T):aY Zl).bind λU=>some U) (bl (O==20) ((idx J G).bind λW=>(bl W ((bl ((len B)==0) (some true) ((lN B).bind λX=>some X):aY Zl).bind λY=>some Y) (some false):aY Zl).bind λu=>some u) ((idx J G).bind λw=>(bl w ((bl ((len B)==0) (some true) ((mW B).bind λz=>some z):aY Zl).bind λC=>some C) (some false):aY Zl).bind λD=>some D)))
instance Eh(D:Int)(B:Sl Zl)(G:Int)(J:Sl Zl):Fc Sy cL (fS D B G J):=Fc.M 45 [.int .i64 D,enc B,.fptr (cells G),.fptr (cells J)] (bt 18 8 (bR 5 λL _=>b7 2 3 [1,14] 17 (bt 2 14 (bz 3) (bB 1 λO _=>bz 1)) λQ=>bf) (bt 7 18 (bR 5 λS _=>b7 2 3 [1,24] 27 (bt 2 24 (bz 3) (bB 1 λT _=>bz 1)) λU=>bf) (bt 7 28 (bR 5 λW _=>b7 2 8 [1,34] 42 (bt 2 34 (bK 1 B (b7 2 3 [1,38] 41 (bt 2 38 (bz 3) (bB 1 λX _=>bz 1)) λY=>bz 1)) (bz 8)) λu=>bf) (bR 8 λw _=>b7 2 8 [1,47] 55 (bt 2 47 (bK 1 B (b7 2 3 [1,51] 54 (bt 2 51 (bz 3) (bB 1 λz _=>bz 1)) λC=>bz 1)) (bz 8)) λI=>bf))))
namespace cQ
def bP(T:bQ)(D:Sl Zl)(U:Int)(J:Zg)(O:Int)(B:Sl Zl)(G:Int)(p1:(Int×(Sl Zl))->aY Zl):aY (Fw ((Sl Zl)×Int) (Sl Zl) Empty):=bl (decide (G<O)) ((idx J G).bind λu=>(Sl.iB D u).bind λw=>(Sl.get D w).bind λz=>(eW B (z:Zl)).bind λC=>some (.n (C,wrap .i64 (G+1)))) (some (.x B))
def W2(J:bQ)(B:Sl Zl)(G:Int)(D:Sl Zl)(O:Zg)(T U:Int)(p1:(Int×(Sl Zl))->aY Zl):aY (Fw ((Sl Zl)×Int) (Sl Zl) Empty):=(bM (λq:(Sl Zl)×Int=>bP J B G O T q.1 q.2 p1) (D,U)).bind (Fw.elim (λe=>(p1 (G,e)).bind λu=>(Sl.iB B G).bind λw=>(Sl.put B w (u:Zl)).bind λz=>some (.n (z,wrap .i64 (G-1)))) (λe=>elim e))
def bn(D:bQ)(B:Sl Zl)(G:Int)(p1:(Int×(Sl Zl))->aY Zl):aY (Fw ((Sl Zl)×Int) (Sl Zl) Empty):=bl (decide (G>=0)) ((idx D.next G).bind λu=>W2 D B G (Sl.nil:Sl Zl) u (len u) 0 p1) (some (.x B))
def W1(D:bQ)(B:Sl Zl)(G:Int)(p1:(Int×(Sl Zl))->aY Zl):aY (Sl Zl):=(bM (λq:(Sl Zl)×Int=>bn D q.1 q.2 p1) (B,G)).bind (Fw.elim (λe=>some e) (λe=>elim e))
end cQ
def cQ(B:bQ)(p1:(Int×(Sl Zl))->aY Zl):aY (Sl Zl):=(jT (len B.l) (false:Zl)).bind λu=>cQ.W1 B u (wrap .i64 ((len B.l)-1)) p1
open cQ in
abbrev pK(g1:FuncId)(e1:aX V)(p1:(Int×(Sl Bool))->aY Bool)(a:pH Sy cL g1 [] e1 (λz:Int×(Sl Bool)=>[.int .i64 z.1,enc z.2]) (λr:Bool=>[.bool r]) p1 true)(B:bQ):Fc Sy cL (cQ B p1):=Fc.N 27 [.fptr (cells B),.clo g1 [] e1] (bK 11 B.l (yO 0 15 λL _=>bK 10 B.l (eO 7 (λu=>(bE [Kv 0 B,(1,.v (.clo g1 [] e1)),Ov 5,Iv 6 u.2] [Lb 2005 u.1])) (λG=>(0,(bE [Ov 5] [Lb 2005 G]))) (λu=>bt 9 23 (bR 18 λw _=>bK 1 w (eO 7 (λC=>(bE [Kv 0 B,(1,.v (.clo g1 [] e1)),Ov 5,Iv 6 u.2,Ov 7,Cv 32 w,Iv 33 (len w),Iv 34 C.2] [Lb 2005 u.1,Lb 2007 C.1])) (λD=>(2,(bE [Kv 0 B,(1,.v (.clo g1 [] e1)),Ov 5,Iv 6 u.2,Ov 7] [Lb 2005 u.1,Lb 2007 D]))) (λC=>bt 9 35 (bR 7 λO _=>jE .i64 8 2005 λQ _=>pL 0 2005 0 1 false (λI=>.bool I) λI _=>oB 1 2007 43 44 λS _=>bf) bf) (λD=>wV 9 a.f (u.2,D) λJ _=>jE .i64 0 2005 λT _=>tN 0 2005 (.bool J) λU _=>bf))) bf) (λG=>bf))))
def mG(D:bQ)(B:Int)(G:Sl Zl):aY (Sl Zl):=(cQ D (λz=>fS z.1 z.2 B G)).bind λu=>some u
instance GV(G:bQ)(B:Int)(D:Sl Zl):Fc Sy cL (mG G B D):=Fc.N 22 [.fptr (cells G),.int .i64 B,enc D] (dB 3 5 D (bB (F:=pK 45 [.fptr (cells B),.fptr (cells D)] (λz=>fS z.1 z.2 B D) pH.vL G) 9 λu _=>bf))
def iI(G:Zj)(B:Int)(J:Sl Zl):aY ((Sl Zl)×Int):=(dH G).bind λz=>bl z ((jA B).bind λC=>bl C ((cW G).bind λu=>bl (u.2==0) ((u.1).bind λw=>bl ((len J)==(len w.l)) ((mG w B J).bind λD=>some (D,0)) (some (Sl.nil,3))) (some (Sl.nil,u.2))) (some (Sl.nil,2))) (some (Sl.nil,1))
instance Pj(G:Zj)(B:Int)(D:Sl Zl):Fc Sy cL (iI G B D):=Fc.N 6 [enc G,.int .i64 B,enc D] (dB 2 3 G (bB 9 λC _=>dA 4 10 (bB 4 λI _=>dA 4 14 (bB 7 λu _=>dA 16 23 (bK 4 D (Oo 1 (λz=>(bE [Iv 1 B,Cv 2 D,Bv 10 false,Bv 14 false,Cv 8 z,Iv 9 u.2,Bv 23 false,Iv 29 (len D),Cv 30 z] [Xb 3 G])) λw _=>bK 3 w.l (dA 4 27 (bB 9 λJ _=>bf) bf))) bf) bf) bf))
def nN(B:Int):aY Zl:=(bl (decide (B>=65)) (some (decide (B<=90))) (some false):aY Zl).bind λu=>(bl u (some true) ((bl (decide (B>=97)) (some (decide (B<=122))) (some false):aY Zl).bind λw=>some w):aY Zl).bind λz=>some z
instance Pe(B:Int):Fc Sy cL (nN B):=Fc.M 141 [.int .u8 B] (b7 10 3 [5] 8 (bt 10 5 (bz 3) (bz 3)) λu=>b7 1 7 [0,9] 16 (bt 1 9 (bz 7) (b7 3 3 [0,12] 15 (bt 3 12 (bz 3) (bz 3)) λw=>bz 1)) λz=>bf)
def rJ(B:Int):aY Zl:=(bl (decide (B>=48)) (some (decide (B<=57))) (some false):aY Zl).bind λu=>some u
instance Rn(B:Int):Fc Sy cL (rJ B):=Fc.M 142 [.int .u8 B] (b7 10 3 [0,5] 8 (bt 10 5 (bz 3) (bz 3)) λu=>bf)
namespace gC
def bn(B:Zq)(i3:Int):aY (Fw Int Unit Unit):=bl (decide (i3<((ByteArray.size B:Nat):Int))) ((j8 B i3).bind λz=>(nN z).bind λC=>(bl C (some false) ((j8 B i3).bind λD=>(rJ D).bind λG=>some (!G)):aY Zl).bind λI=>(bl I ((j8 B i3).bind λu=>some (!(u==95))) (some false):aY Zl).bind λw=>bl w (some (.r ())) (some (.n (wrap .i64 (i3+1))))) (some (.x ()))
def W1(B:Zq)(i3:Int):aY Zl:=(bM (λq:Int=>bn B q) i3).bind (Fw.elim (λe=>some true) (λe=>some false))
end gC
def gC(B:Zq):aY Zl:=(bl (decide (((ByteArray.size B:Nat):Int)<1)) (some true) (some (decide (((ByteArray.size B:Nat):Int)>16))):aY Zl).bind λu=>(bl u (some true) ((j8 B 0).bind λw=>(nN w).bind λz=>some (!z)):aY Zl).bind λC=>bl C (some false) (gC.W1 B 1)
open gC in
instance Rq(B:Zq):Fc Sy cL (gC B):=Fc.M 105 [.str B] (b7 12 4 [7] 11 (bt 12 7 (bz 4) (bz 4)) λD=>b7 1 5 [12] 17 (bt 1 12 (bz 5) (xB 1 .i64 λG _=>bB 0 λI _=>bz 2)) λJ=>bt 2 17 bf (dO 11 (λw=>(bE [(0,.v (.str B)),Iv 3 w] [])) (λu=>(0,(bE [] []))) (λu=>(bE [Bv 2 false] [])) (λw=>bt 10 21 (xB 9 .i64 λL _=>bB 0 λO _=>b7 2 6 [29] 35 (dA 2 29 (bz 6) (xB 2 .i64 λQ _=>bB 0 λS _=>bz 2)) λT=>b7 1 5 [36] 41 (bt 1 36 (xB 2 .i64 λz _=>bz 2) (bz 5)) λC=>bt 2 41 bf bf) bf) (λu=>bf) (λu=>bf)))
def ov(B:Int):aY Zl:=(bl (decide (B>=(-1073741824))) (some (decide (B<=1073741824))) (some false):aY Zl).bind λu=>some u
instance QX(B:Int):Fc Sy cL (ov B):=Fc.M 106 [.int .i64 B] (b7 10 3 [0,5] 8 (bt 10 5 (bz 3) (bz 3)) λu=>bf)
namespace dM
def dU(G:Int)(B:cn)(D:Int):aY (Fw Int Unit Unit):=bl (decide (D<G)) ((idx B.vars D).bind λu=>(idx B.vars G).bind λw=>bl (toList u.name==toList w.name) (some (.r ())) (some (.n (wrap .i64 (D+1))))) (some (.x ()))
def W3(D G:Int)(B:cn):aY (Fw Int Unit Int):=(bM (λq:Int=>dU D B q) G).bind (Fw.elim (λe=>(idx B.vars D).bind λu=>(ov u.init_).bind λw=>bl w (some (.n (wrap .i64 (D+1)))) (some (.r 2))) (λe=>some (.r 13)))
def bP(B:cn)(D:Int):aY (Fw Int Unit Int):=bl (decide (D<(len B.vars))) ((idx B.vars D).bind λu=>(gC u.name).bind λw=>bl w (W3 D 0 B) (some (.r 13))) (some (.x ()))
def W2(D:Int)(B:cn):Z6:=(bM (λq:Int=>bP B q) D).bind (Fw.elim (λe=>bl (decide ((len B.events)>64)) (some 5) (some 0)) (λe=>some e))
def bn(p1:Int)(B:Zj)(D:cn)(G:Int):aY (Fw Int Unit Unit):=bl (decide (G<p1)) ((idx B.procs G).bind λu=>bl (toList u.name==toList D.name) (some (.r ())) (some (.n (wrap .i64 (G+1))))) (some (.x ()))
def W1(p1 G:Int)(D:Zj)(B:cn):Z6:=(bM (λq:Int=>bn p1 D B q) G).bind (Fw.elim (λe=>bl (decide ((len B.vars)>8)) (some 5) (dM.W2 0 B)) (λe=>some 13))
end dM
def dM(B:Zj)(p1:Int):Z6:=(idx B.procs p1).bind λu=>(gC u.name).bind λw=>bl w (dM.W1 p1 0 B u) (some 13)
open dM in
instance Rt(J:Zj)(p1:Int):Fc Sy cL (dM J p1):=Fc.M 68 [enc J,.int .i64 p1] (dB 2 2 J (bR 8 λu _=>oC 2 5 0 u (bB 7 λI _=>dA 3 17 (dO 11 (λD=>(bE [Iv 1 p1,Pv 2,Pv 5,Iv 6 D] [Xb 2 J,Xb 5 u])) (λB=>(0,(bE [Pv 5] [Xb 5 u]))) (λB=>(bE [Iv 4 13] [])) (λD=>bt 9 20 (bR 10 λL _=>bt 7 31 bf bf) bf) (λB=>bK 7 u.vars (bt 3 35 bf (dO 11 (λw=>(bE [Pv 5,Iv 7 w] [Xb 5 u])) (λz=>(2,(bE [Pv 5] [Xb 5 u]))) (λz=>(bE [Iv 4 z] [])) (λw=>bK 7 u.vars (bt 3 40 (bR 11 λO _=>bB 2 λQ _=>dA 3 50 (dO 11 (λG=>(bE [Pv 5,Iv 7 w,Iv 8 G] [Xb 5 u])) (λC=>(4,(bE [Pv 5,Iv 7 w] [Xb 5 u]))) (λC=>(bE [Iv 4 13] [])) (λG=>bt 9 53 (bR 10 λS _=>bR 5 λT _=>bt 5 68 bf bf) bf) (λC=>bR 7 λU _=>bB 2 λW _=>dA 3 76 bf bf) (λC=>bf)) bf) bf)) (λz=>bK 7 u.events (bt 3 80 bf bf)) (λz=>bf)))) (λB=>bf)) bf)))
namespace dN
def dU(p1 k8:Int)(J:Zj)(D:Zn)(G:Assign)(B:Int):aY (Fw Int Unit Unit):=bl (decide (B<k8)) ((idx D.assign B).bind λu=>bl (u.var==G.var) (some (.r ())) (some (.n (wrap .i64 (B+1))))) (some (.x ()))
def W3(p1 k8 B:Int)(D:Zj)(G:Zn)(J:Assign):aY (Fw Int Unit Int):=(bM (λq:Int=>dU p1 k8 D G J q) B).bind (Fw.elim (λe=>some (.n (wrap .i64 (k8+1)))) (λe=>some (.r 8)))
def bP(p1:Int)(D:Zj)(B:Zn)(k8:Int):aY (Fw Int Unit Int):=bl (decide (k8<(len B.assign))) ((idx B.assign k8).bind λu=>(bl (decide (u.var<0)) (some true) ((idx D.procs p1).bind λw=>some (decide (u.var>=(len w.vars)))):aY Zl).bind λz=>(bl z (some true) ((ov u.value).bind λC=>some (!C)):aY Zl).bind λG=>bl G (some (.r 2)) (W3 p1 k8 0 D B u)) (some (.x ()))
def W2(p1 k8:Int)(B:Zj)(D:Zn):Z6:=(bM (λq:Int=>bP p1 B D q) k8).bind (Fw.elim (λe=>some 0) (λe=>some e))
def J1(p1 i2:Int)(D:Zj)(B:Zn):Z6:=(bl (decide (B.time<0)) (some true) (some (decide (B.time>1099511627776))):aY Zl).bind λu=>(bl u (some true) ((bl (decide (i2>0)) ((idx D.procs p1).bind λw=>(idx w.events (wrap .i64 (i2-1))).bind λz=>some (decide (B.time<z.time))) (some false):aY Zl).bind λC=>some C):aY Zl).bind λG=>bl G (some 11) (bl (decide ((len B.assign)>8)) (some 5) (dN.W2 p1 0 D B))
theorem uV(p1 i2:Int)(D:Zj)(B:Zn):Le ((J1 p1 i2 D B).bind (λr=>some [.int .i64 r])) (b8 Sy cL (ql (tr Tx 69)) (tM (tb Tx 69) [1,1,1,0] [] (bE [Iv 1 p1,Iv 2 i2,Pv 3,Pv 7] [Xb 3 D,Xb 7 B]))):=b7 7 4 [71] 75 (bt 7 71 (bz 4) (bz 4)) λL=>b7 1 19 [2,76] 95 (bt 1 76 (bz 19) (b7 3 15 [2,79] 94 (bt 3 79 (bR 5 λO _=>bR 4 λQ _=>bz 4) (bz 15)) λS=>bz 1)) λT=>bt 2 95 bf (bK 8 B.assign (bt 3 99 bf (dO 11 (λu=>(bE [Iv 1 p1,Pv 3,Pv 7,Iv 8 u] [Xb 3 D,Xb 7 B])) (λw=>(0,(bE [] []))) (λw=>(bE [Iv 6 w] [])) (λu=>bK 7 B.assign (bt 3 104 (bR 10 λz _=>b7 12 11 [115] 126 (bt 12 115 (bz 11) (bR 5 λI _=>bK 2 I.vars (bz 2))) λU=>Pu 1 5 [130] (λC=>(bE [Iv 1 p1,Pv 3,Pv 7,Iv 8 u,Bv 104 true,Pv 9,Bv 132 C] [Xb 3 D,Xb 7 B,Xb 9 z])) (bt 1 127 (bz 5) (pY 2 λW _=>bz 2)) λC=>bt 2 132 bf (dO 10 (λJ=>(bE [Iv 1 p1,Pv 3,Pv 7,Iv 8 u,Pv 9,Iv 10 J] [Xb 3 D,Xb 7 B,Xb 9 z])) (λG=>(2,(bE [Iv 1 p1,Pv 3,Pv 7,Iv 8 u] [Xb 3 D,Xb 7 B]))) (λG=>(bE [Iv 6 8] [])) (λJ=>bt 9 135 (bR 10 λX _=>bt 7 146 bf bf) bf) (λG=>bf) (λG=>bf))) bf)) (λw=>bf) (λw=>bf))))
end dN
def dN(B:Zj)(p1 i2:Int):Z6:=(idx B.procs p1).bind λw=>(idx w.events i2).bind λu=>bl (u.kind==1) ((bl (u.peer==0) (some (!(u.message==0))) (some true):aY Zl).bind λz=>bl z (some 3) (dN.J1 p1 i2 B u)) ((bl (u.kind==2) (some false) (some (!(u.kind==3))):aY Zl).bind λC=>(bl C (some true) (some (decide (u.peer<0))):aY Zl).bind λD=>(bl D (some true) (some (decide (u.peer>=(len B.procs)))):aY Zl).bind λG=>(bl G (some true) (some (u.peer==p1)):aY Zl).bind λI=>(bl I (some true) (some (decide (u.message<0))):aY Zl).bind λJ=>(bl J (some true) (some (decide (u.message>199))):aY Zl).bind λL=>bl L (some 3) (dN.J1 p1 i2 B u))
open dN in
instance RG(B:Zj)(p1 i2:Int):Fc Sy cL (dN B p1 i2):=Fc.M 69 [enc B,.int .i64 p1,.int .i64 i2] (dB 2 3 B (bR 8 λw _=>bR 3 λu _=>oC 2 7 0 u (bt 10 22 (b7 7 4 [26] 30 (dA 7 26 (bz 4) (bz 4)) λz=>bt 2 30 bf (C3 4 (uV p1 i2 B u))) (b7 7 4 [34] 38 (dA 7 34 (bz 4) (bz 4)) λC=>b7 1 4 [39] 43 (bt 1 39 (bz 4) (bz 4)) λD=>b7 1 7 [44] 51 (bt 1 44 (bz 7) (bK 4 B.procs (bz 2))) λG=>b7 1 5 [52] 57 (bt 1 52 (bz 5) (bz 5)) λI=>b7 1 4 [58] 62 (bt 1 58 (bz 4) (bz 4)) λJ=>b7 1 4 [63] 67 (bt 1 63 (bz 4) (bz 4)) λL=>bt 2 67 bf (C3 4 (uV p1 i2 B u))))))
def tc(D:Zj)(B:aZ):aY Zn:=(idx D.procs B.proc).bind λu=>(idx u.events (wrap .i64 (B.index-1))).bind λw=>some w
instance Tp(B:Zj)(D:aZ):Fc Sy cL (tc B D):=Fc.N 107 [enc B,enc D] (dB 2 2 B (bR 10 λw _=>bR 5 λu _=>oC 1 4 0 u bf))
namespace dz
def bP(B G p7:Int)(D:Zj)(J:aZ)(a:Int):aY (Fw Int Unit aZ):=(idx D.procs p7).bind λw=>bl (decide (a<(len w.events))) ((idx D.procs p7).bind λz=>(idx z.events a).bind λu=>(bl (u.kind==B) (some (u.message==G)) (some false):aY Zl).bind λC=>bl C (some (.r (⟨p7,wrap .i64 (a+1)⟩:aZ))) (some (.n (wrap .i64 (a+1))))) (some (.x ()))
def W2(B J p7 a:Int)(D:Zj)(G:aZ):aY (Fw Int Unit aZ):=(bM (λq:Int=>bP B J p7 D G q) a).bind (Fw.elim (λe=>some (.n (wrap .i64 (p7+1)))) (λe=>some (.r e)))
def bn(B J:Int)(D:Zj)(G:aZ)(p7:Int):aY (Fw Int Unit aZ):=bl (decide (p7<(len D.procs))) (W2 B J p7 0 D G) (some (.x ()))
def W1(B J p7:Int)(D:Zj)(G:aZ):aY aZ:=(bM (λq:Int=>bn B J D G q) p7).bind (Fw.elim (λe=>some ⟨0,0⟩) (λe=>some e))
end dz
def dz(D:Zj)(B G:Int):aY aZ:=dz.W1 B G 0 D (⟨0,0⟩:aZ)
open dz in
instance RN(D:Zj)(B G:Int):Fc Sy cL (dz D B G):=Fc.M 108 [enc D,.int .i64 B,.int .i64 G] (dB 2 3 D (dO 11 (λu=>(bE [Iv 1 B,Iv 2 G,Pv 3,Pv 6,Iv 7 u] [Xb 3 D,Xb 6 (⟨0,0⟩:aZ)])) (λw=>(0,(bE [Pv 6] [Xb 6 (⟨0,0⟩:aZ)]))) (λw=>(bE [Pv 6] [Xb 6 w])) (λu=>bK 7 D.procs (bt 3 14 (dO 12 (λC=>(bE [Iv 1 B,Iv 2 G,Pv 3,Pv 6,Iv 7 u,Iv 8 C] [Xb 3 D,Xb 6 (⟨0,0⟩:aZ)])) (λz=>(2,(bE [Iv 1 B,Iv 2 G,Pv 3,Pv 6,Iv 7 u] [Xb 3 D,Xb 6 (⟨0,0⟩:aZ)]))) (λz=>(bE [Pv 6] [Xb 6 z])) (λC=>bR 8 λI _=>bK 2 I.events (bt 3 25 (bR 10 λL _=>bR 3 λJ _=>oC 2 9 0 J (b7 9 5 [9,41] 46 (bt 9 41 (bz 5) (bz 5)) λO=>bt 2 46 bf bf)) bf)) (λz=>bf) (λz=>bf)) bf)) (λw=>bf) (λw=>bf)))
namespace gZ
def bn(G:Zj)(J:aZ)(D:Zn)(B:Zl)(O:Int):aY (Fw (Zl×Int) Bool Empty):=(idx G.procs D.peer).bind λw=>bl (decide (O<(len w.events))) ((idx G.procs D.peer).bind λz=>(idx z.events O).bind λu=>(bl B (some true) ((bl (u.kind==2) (some (u.message==D.message)) (some false):aY Zl).bind λC=>(bl C (some (u.peer==J.proc)) (some false):aY Zl).bind λI=>some I):aY Zl).bind λL=>some (.n (L,wrap .i64 (O+1)))) (some (.x B))
def W1(B:Zl)(O:Int)(D:Zj)(G:aZ)(J:Zn):Z6:=(bM (λq:Zl×Int=>bn D G J q.1 q.2) (B,O)).bind (Fw.elim (λe=>bl e (some 0) (some 7)) (λe=>elim e))
end gZ
def gZ(B:Zj)(D:aZ):Z6:=(tc B D).bind λu=>bl (u.kind==1) (some 0) ((dz B u.kind u.message).bind λw=>bl (HZ w D) (bl (u.kind==3) (gZ.W1 false 0 B D u) (some 0)) (some 8))
open gZ in
instance Pq(B:Zj)(D:aZ):Fc Sy cL (gZ B D):=Fc.M 70 [enc B,enc D] (dB 2 2 B (bB 8 λw _=>oC 1 5 0 w (bt 10 14 bf (pY 11 λI _=>dA 4 22 (bt 11 25 (eO 14 (λu=>(bE [Pv 2,Pv 3,Pv 5,Bv 6 u.1,Iv 7 u.2] [Xb 2 B,Xb 3 D,Xb 5 w])) (λz=>(0,(bE [Bv 6 z] []))) (λu=>bR 9 λC _=>bK 2 C.events (bt 3 35 (bR 11 λJ _=>bR 3 λG _=>oC 2 8 0 G (b7 5 18 [8,49] 67 (bt 5 49 (bz 18) (b7 4 6 [53] 59 (bt 4 53 (bz 6) (bz 6)) λL=>b7 1 6 [8,60] 66 (bt 1 60 (bz 6) (bz 6)) λO=>bz 1)) λQ=>bf)) bf)) (λz=>dA 8 69 bf bf)) bf) bf))))
namespace dR
def J4(B:Zg)(p5:Int)(D:Zj):aY (Fw ((Zg)×Zl) ((Zg)×Zl) Empty):=(Sl.iB B p5).bind λu=>(Sl.get B u).bind λw=>(Sl.iB B p5).bind λz=>(Sl.put B z (wrap .i64 (w+1):Int)).bind λC=>some (.n (C,true))
def dU(p5:Int)(G:Zj)(B:Zg)(D:Zl):aY (Fw ((Zg)×Zl) ((Zg)×Zl) Empty):=(Sl.iB B p5).bind λI=>(Sl.get B I).bind λJ=>(idx G.procs p5).bind λL=>bl (decide (J<(len L.events))) ((idx G.procs p5).bind λO=>(Sl.iB B p5).bind λQ=>(Sl.get B Q).bind λS=>(idx O.events S).bind λu=>bl (u.kind==3) ((dz G 2 u.message).bind λw=>(Sl.iB B w.proc).bind λz=>(Sl.get B z).bind λC=>bl (decide (C<w.index)) (some (.x (B,D))) (J4 B p5 G)) (J4 B p5 G)) (some (.x (B,D)))
def W3(D:Zg)(B:Zl)(p5:Int)(G:Zj):aY (Fw ((Zg)×Zl×Int) ((Zg)×Zl) Empty):=(bM (λq:(Zg)×Zl=>dU p5 G q.1 q.2) (D,B)).bind (Fw.elim (λe=>some (.n (e.1,e.2,wrap .i64 (p5+1)))) (λe=>elim e))
def bP(G:Zj)(D:Zg)(B:Zl)(p5:Int):aY (Fw ((Zg)×Zl×Int) ((Zg)×Zl) Empty):=bl (decide (p5<(len G.procs))) (W3 D B p5 G) (some (.x (D,B)))
def W2(D:Zg)(B:Zl)(p5:Int)(G:Zj):aY (Fw Zg Zg Empty):=(bM (λq:(Zg)×Zl×Int=>bP G q.1 q.2.1 q.2.2) (D,B,p5)).bind (Fw.elim (λe=>bl e.2 (some (.n e.1)) (some (.x e.1))) (λe=>elim e))
def vU(B:Zg)(D:Zj)(G:Int):aY (Fw Int Unit Unit):=bl (decide (G<(len D.procs))) ((Sl.iB B G).bind λu=>(Sl.get B u).bind λw=>(idx D.procs G).bind λz=>bl (decide (w<(len z.events))) (some (.r ())) (some (.n (wrap .i64 (G+1))))) (some (.x ()))
def W5(B:Zg)(G:Int)(D:Zj):aY Zl:=(bM (λq:Int=>vU B D q) G).bind (Fw.elim (λe=>some true) (λe=>some false))
def bn(D:Zj)(B:Zg):aY (Fw Zg Zg Empty):=W2 B false 0 D
def W1(B:Zg)(D:Zj):aY Zl:=(bM (λq:Zg=>bn D q) B).bind (Fw.elim (λe=>dR.W5 e 0 D) (λe=>elim e))
end dR
def dR(B:Zj):aY Zl:=(jT (len B.procs) (0:Int)).bind λu=>dR.W1 u B
open dR in
instance NY(B:Zj):Fc Sy cL (dR B):=Fc.M 71 [enc B] (dB 2 1 B (bK 7 B.procs (yO 0 12 λb _=>eO 7 (λO=>(bE [Pv 1,Ov 3] [Xb 1 B,Lb 2003 O])) (λD=>(0,(bE [Pv 1,Ov 3] [Xb 1 B,Lb 2003 D]))) (λO=>eO 17 (λw=>(bE [Pv 1,Ov 3,Bv 4 w.2.1,Iv 5 w.2.2] [Xb 1 B,Lb 2003 w.1])) (λG=>(2,(bE [Pv 1,Ov 3,Bv 4 G.2] [Xb 1 B,Lb 2003 G.1]))) (λw=>bK 8 B.procs (bt 3 17 (eO 8 (λI=>(bE [Pv 1,Ov 3,Bv 4 I.2,Iv 5 w.2.2] [Xb 1 B,Lb 2003 I.1])) (λJ=>(4,(bE [Pv 1,Ov 3,Bv 4 J.2,Iv 5 w.2.2] [Xb 1 B,Lb 2003 J.1]))) (λI=>jE .i64 7 2003 λc _=>pL 0 2003 0 1 false (λQ=>.int .i64 Q) λQ _=>bR 3 λZ _=>bK 2 Z.events (bt 3 31 (bR 9 λd _=>jE .i64 4 2003 λe _=>pL 0 2003 0 1 false (λS=>.int .i64 S) λS _=>bR 0 λa _=>oC 2 6 0 a (bt 10 46 (bB 6 λf _=>jE .i64 9 2003 λg _=>pL 0 2003 0 1 false (λz=>.int .i64 z) λz _=>bt 5 58 bf (ya 5 (jE .i64 4 2003 λT _=>pL 0 2003 0 1 false (λu=>.int .i64 u) λu _=>jE .i64 1 2003 λU _=>tN 0 2003 (.int .i64 (wrap .i64 (u+1))) λW _=>bf))) (ya 5 (jE .i64 4 2003 λT _=>pL 0 2003 0 1 false (λu=>.int .i64 u) λu _=>jE .i64 1 2003 λU _=>tN 0 2003 (.int .i64 (wrap .i64 (u+1))) λW _=>bf)))) bf)) (λJ=>bf)) bf)) (λG=>dA 8 66 bf bf)) (λD=>dO 11 (λX=>(bE [Pv 1,Ov 3,Iv 8 X] [Xb 1 B,Lb 2003 D])) (λL=>(6,(bE [] []))) (λL=>(bE [Bv 2 false] [])) (λX=>bK 8 B.procs (bt 3 71 (jE .i64 9 2003 λh _=>pL 0 2003 0 1 false (λC=>.int .i64 C) λC _=>bR 3 λY _=>bK 2 Y.events (bt 3 85 bf bf)) bf)) (λL=>bf) (λL=>bf)))))
namespace c9
def J1(B:Sl aZ)(D:Zj)(G:aZ):aY (Sl aZ):=(tc D G).bind λu=>bl (u.kind==3) ((dz D 2 u.message).bind λw=>(eW B (w:aZ)).bind λz=>some z) (some B)
end c9
def c9(D:Zj)(B:aZ):aY (Sl aZ):=bl (decide (B.index>1)) (c9.J1 (Sl.row [⟨B.proc,wrap .i64 (B.index-1)⟩]:Sl aZ) D B) (c9.J1 (Sl.nil:Sl aZ) D B)
open c9 in
theorem rK(D:Zj)(B:aZ):AR Sy cL 109 (λ_:Unit=>[enc D,enc B]) (λ_=>c9 D B):=AR.mk' (rQ (Tx 109)) (λ_=>dB 2 2 D (bt 17 9 (Pd 10 17 18 .bD (⟨B.proc,wrap .i64 (B.index-1)⟩:aZ) (ya 5 (bB 4 λu _=>oC 1 6 0 u (bt 10 24 (bB 6 λw _=>oB 1 2005 30 31 λz _=>bf) bf)))) (ya 5 (bB 4 λu _=>oC 1 6 0 u (bt 10 24 (bB 6 λw _=>oB 1 2005 30 31 λz _=>bf) bf)))))
namespace fq
def dU(J:Sl (Sl Zl))(B:Sl aZ)(O:Zj)(D:Sl aZ)(G:Int):aY (Fw ((Sl aZ)×Int) (Sl aZ) Empty):=bl (decide (G<(len B))) ((Sl.iB B G).bind λu=>(Sl.get B u).bind λw=>(eW D (w:aZ)).bind λz=>some (.n (z,wrap .i64 (G+1)))) (some (.x D))
def W3(B:Sl (Sl Zl))(D G:Sl aZ)(J:Int)(O:Zj):aY (Fw ((Sl (Sl Zl))×(Sl aZ)) (Sl (Sl Zl)) Empty):=(bM (λq:(Sl aZ)×Int=>dU B G O q.1 q.2) (D,J)).bind (Fw.elim (λe=>some (.n (B,e))) (λe=>elim e))
def bP(G:Zj)(D:Sl (Sl Zl))(B:Sl aZ):aY (Fw ((Sl (Sl Zl))×(Sl aZ)) (Sl (Sl Zl)) Empty):=bl (decide ((len B)>0)) ((Sl.iB B 0).bind λU=>(Sl.get B U).bind λu=>(ku B (some 1) none).bind λI=>((idx D u.proc).bind Sl.whole).bind λC=>(Sl.iB C u.index).bind λJ=>(Sl.get C J).bind λL=>(Sl.whole C).bind λw=>bl L (some (.n (lU D u.proc w,I))) (((idx (lU D u.proc w) u.proc).bind Sl.whole).bind λz=>(Sl.iB z u.index).bind λO=>(Sl.put z O (true:Zl)).bind λQ=>(Sl.whole Q).bind λS=>((c9 G u).bind Sl.whole).bind λT=>W3 (lU (lU D u.proc w) u.proc S) I T 0 G)) (some (.x D))
def W2(D:Sl (Sl Zl))(B:Sl aZ)(G:Zj):aY (Sl (Sl Zl)):=(bM (λq:(Sl (Sl Zl))×(Sl aZ)=>bP G q.1 q.2) (D,B)).bind (Fw.elim (λe=>some e) (λe=>elim e))
def bn(D:Zj)(G:aZ)(B:Sl (Sl Zl))(p6:Int):aY (Fw ((Sl (Sl Zl))×Int) (Sl (Sl Zl)) Empty):=bl (decide (p6<(len D.procs))) ((idx D.procs p6).bind λu=>(jT (wrap .i64 ((len u.events)+1)) (false:Zl)).bind λw=>(Sl.whole w).bind λz=>(eW B (z:Sl Zl)).bind λC=>some (.n (C,wrap .i64 (p6+1)))) (some (.x B))
def W1(D:Sl (Sl Zl))(p6:Int)(B:Zj)(G:aZ):aY (Sl (Sl Zl)):=(bM (λq:(Sl (Sl Zl))×Int=>bn B G q.1 q.2) (D,p6)).bind (Fw.elim (λe=>((c9 B G).bind Sl.whole).bind λu=>fq.W2 e u B) (λe=>elim e))
end fq
def fq(B:Zj)(D:aZ):aY (Sl (Sl Zl)):=fq.W1 (Sl.nil:Sl (Sl Zl)) 0 B D
open fq in
instance RI(B:Zj)(T:aZ):Fc Sy cL (fq B T):=Fc.N 72 [enc B,enc T] (dB 2 2 B (eO 19 (λL=>(bE [Pv 2,Pv 3,Ov 5,Iv 6 L.2] [Xb 2 B,Xb 3 T,(2005,rT L.1)])) (λS=>(0,(bE [Pv 2,Pv 3,Ov 5] [Xb 2 B,Xb 3 T,(2005,rT S)]))) (λL=>bK 9 B.procs (bt 3 15 (bR 10 λX _=>bK 2 X.events (yO 1 27 λa _=>U7 (α:=Zl) 0 28 27 (Ez 0 28 27 Sr λb _=>Um 0 2005 28 29 λc _=>bf))) bf)) (λS=>Jc 6 32 (rK B T) () λY _=>eO 9 (λw=>(bE [Pv 2,Ov 5,Ov 7] [Xb 2 B,(2005,rT w.1),Lb 2007 w.2])) (λU=>(2,(bE [Ov 5] [(2005,rT U)]))) (λw=>zC 8 2007 w.2 (bt 3 35 (jE .i64 7 2007 λd _=>pL 0 2007 0 2 true (λu=>.agg [.int .i64 u.proc,.int .i64 u.index]) λu _=>Pp 7 true false 2007 40 [.int .i64 1] λe _=>E4 5 2005 6041 (.c 8 0) λf O=>IM 5 2005 6041 .i64 O (NN 0 2005 6041 O (jE .i64 2 6041 λZ _=>pL 0 6041 0 1 false (λD=>.bool D) λD _=>Ez 1 2005 6041 O λG _=>bt 1 49 bf (E4 4 2005 6050 (.c 8 0) λg z=>IM 5 2005 6050 .i64 z (NN 0 2005 6050 z (jE .i64 2 6050 λh _=>tN 0 6050 (.bool true) λi _=>Ez 1 2005 6050 z λI _=>Jc 5 60 (rK B u) () λJ _=>eO 14 (λQ=>(bE [Pv 2,Ov 5,Ov 7,Ov 9,Iv 10 Q.2] [Xb 2 B,(2005,rT (lU (lU w.1 u.proc G) u.proc I)),Lb 2007 Q.1,Lb 2009 J])) (λW=>(4,(bE [Pv 2,Ov 5,Ov 7] [Xb 2 B,(2005,rT (lU (lU w.1 u.proc G) u.proc I)),Lb 2007 W]))) (λQ=>zC 10 2009 J (bt 3 64 (jE .i64 9 2009 λj _=>pL 0 2009 0 2 true (λC=>.agg [.int .i64 C.proc,.int .i64 C.index]) λC _=>oB 1 2007 72 73 λk _=>bf) bf)) (λW=>bf))))))) bf)) (λU=>bf))))
namespace cO
def dU(p6:Int)(B:Zj)(G:aZ)(D:Int):aY (Fw Int Unit (Int×aZ)):=(idx B.procs p6).bind λw=>bl (decide (D<(len w.events))) ((dN B p6 D).bind λu=>bl (u==0) (some (.n (wrap .i64 (D+1)))) (some (.r (u,(⟨p6,wrap .i64 (D+1)⟩:aZ))))) (some (.x ()))
def W3(p6 G:Int)(B:Zj)(D:aZ):aY (Fw Int Unit (Int×aZ)):=(bM (λq:Int=>dU p6 B D q) G).bind (Fw.elim (λe=>some (.n (wrap .i64 (p6+1)))) (λe=>some (.r (e.1,e.2))))
def vU(G:Int)(D:Zj)(J:aZ)(B:Int):aY (Fw Int Unit (Int×aZ)):=(idx D.procs G).bind λw=>bl (decide (B<(len w.events))) ((gZ D (⟨G,wrap .i64 (B+1)⟩:aZ)).bind λu=>bl (u==0) (some (.n (wrap .i64 (B+1)))) (some (.r (u,(⟨G,wrap .i64 (B+1)⟩:aZ))))) (some (.x ()))
def W5(J B:Int)(D:Zj)(G:aZ):aY (Fw Int Unit (Int×aZ)):=(bM (λq:Int=>vU J D G q) B).bind (Fw.elim (λe=>some (.n (wrap .i64 (J+1)))) (λe=>some (.r (e.1,e.2))))
def Ik(D:Int)(G:Zj)(J:aZ)(B:Int):aY (Fw Int Unit aZ):=(idx G.procs D).bind λw=>bl (decide (B<(len w.events))) ((fq G (⟨D,wrap .i64 (B+1)⟩:aZ)).bind λz=>(idx z D).bind λC=>(idx C (wrap .i64 (B+1))).bind λu=>bl u (some (.r (⟨D,wrap .i64 (B+1)⟩:aZ))) (some (.n (wrap .i64 (B+1))))) (some (.x ()))
def W7(B D:Int)(G:Zj)(J:aZ):aY (Fw Int Unit aZ):=(bM (λq:Int=>Ik B G J q) D).bind (Fw.elim (λe=>some (.n (wrap .i64 (B+1)))) (λe=>some (.r e)))
def Ir(B:Zj)(G:aZ)(D:Int):aY (Fw Int Unit aZ):=bl (decide (D<(len B.procs))) (W7 D 0 B G) (some (.x ()))
def W6(B:Int)(D:Zj)(G:aZ):aY (aZ×Int):=(bM (λq:Int=>Ir D G q) B).bind (Fw.elim (λe=>some (⟨0,0⟩,0)) (λe=>some (e,10)))
def Im(B:Zj)(D:aZ)(G:Int):aY (Fw Int Unit (Int×aZ)):=bl (decide (G<(len B.procs))) (W5 G 0 B D) (some (.x ()))
def W4(G:Int)(B:Zj)(D:aZ):aY (aZ×Int):=(bM (λq:Int=>Im B D q) G).bind (Fw.elim (λe=>(dR B).bind λu=>bl u (some (⟨0,0⟩,0)) (cO.W6 0 B D)) (λe=>some (e.2,e.1)))
def bP(B:Zj)(D:aZ)(p6:Int):aY (Fw Int Unit (Int×aZ)):=bl (decide (p6<(len B.procs))) (W3 p6 0 B D) (some (.x ()))
def W2(p6:Int)(B:Zj)(D:aZ):aY (aZ×Int):=(bM (λq:Int=>bP B D q) p6).bind (Fw.elim (λe=>cO.W4 0 B D) (λe=>some (e.2,e.1)))
def bn(B:Zj)(D:aZ)(p4:Int):aY (Fw Int Unit (Int×aZ)):=bl (decide (p4<(len B.procs))) ((dM B p4).bind λu=>bl (u==0) (some (.n (wrap .i64 (p4+1)))) (some (.r (u,(⟨p4,0⟩:aZ))))) (some (.x ()))
def W1(p4:Int)(B:Zj)(D:aZ):aY (aZ×Int):=(bM (λq:Int=>bn B D q) p4).bind (Fw.elim (λe=>cO.W2 0 B D) (λe=>some (e.2,e.1)))
end cO
def cO(B:Zj):aY (aZ×Int):=(bl (decide ((len B.procs)<1)) (some true) (some (decide ((len B.procs)>8))):aY Zl).bind λu=>bl u (some (⟨0,0⟩,1)) (cO.W1 0 B (⟨0,0⟩:aZ))
open cO in
instance QZ(B:Zj):Fc Sy cL (cO B):=Fc.M 46 [enc B] (dB 2 1 B (bK 9 B.procs (b7 2 5 [20] 25 (bt 2 20 (bz 5) (bK 2 B.procs (bz 2))) λa=>bt 2 25 bf (dO 11 (λQ=>(bE [Pv 1,Pv 2,Iv 4 Q] [Xb 1 B,Xb 2 (⟨0,0⟩:aZ)])) (λu=>(0,(bE [Pv 1,Pv 2] [Xb 1 B,Xb 2 (⟨0,0⟩:aZ)]))) (λu=>(bE [Pv 2,Iv 3 u.1] [Xb 2 u.2])) (λQ=>bK 7 B.procs (bt 3 31 (bB 9 λb _=>dA 9 38 bf bf) bf)) (λu=>dO 10 (λG=>(bE [Pv 1,Pv 2,Iv 6 G] [Xb 1 B,Xb 2 (⟨0,0⟩:aZ)])) (λw=>(2,(bE [Pv 1,Pv 2] [Xb 1 B,Xb 2 (⟨0,0⟩:aZ)]))) (λw=>(bE [Pv 2,Iv 3 w.1] [Xb 2 w.2])) (λG=>bK 7 B.procs (bt 3 46 (dO 12 (λS=>(bE [Pv 1,Pv 2,Iv 6 G,Iv 7 S] [Xb 1 B,Xb 2 (⟨0,0⟩:aZ)])) (λz=>(4,(bE [Pv 1,Pv 2,Iv 6 G] [Xb 1 B,Xb 2 (⟨0,0⟩:aZ)]))) (λz=>(bE [Pv 2,Iv 3 z.1] [Xb 2 z.2])) (λS=>bR 8 λW _=>bK 2 W.events (bt 3 57 (bB 10 λc _=>dA 9 65 bf bf) bf)) (λz=>bf) (λz=>bf)) bf)) (λw=>dO 10 (λI=>(bE [Pv 1,Pv 2,Iv 9 I] [Xb 1 B,Xb 2 (⟨0,0⟩:aZ)])) (λC=>(6,(bE [Pv 1,Pv 2] [Xb 1 B,Xb 2 (⟨0,0⟩:aZ)]))) (λC=>(bE [Pv 2,Iv 3 C.1] [Xb 2 C.2])) (λI=>bK 7 B.procs (bt 3 75 (dO 12 (λT=>(bE [Pv 1,Pv 2,Iv 9 I,Iv 10 T] [Xb 1 B,Xb 2 (⟨0,0⟩:aZ)])) (λD=>(8,(bE [Pv 1,Pv 2,Iv 9 I] [Xb 1 B,Xb 2 (⟨0,0⟩:aZ)]))) (λD=>(bE [Pv 2,Iv 3 D.1] [Xb 2 D.2])) (λT=>bR 8 λX _=>bK 2 X.events (bt 3 86 (bB 19 λd _=>dA 9 97 bf bf) bf)) (λD=>bf) (λD=>bf)) bf)) (λC=>bB 6 λZ _=>bt 2 101 bf (dO 11 (λJ=>(bE [Pv 1,Pv 2,Iv 13 J] [Xb 1 B,Xb 2 (⟨0,0⟩:aZ)])) (λL=>(10,(bE [Pv 2] [Xb 2 (⟨0,0⟩:aZ)]))) (λL=>(bE [Pv 2,Iv 3 10] [Xb 2 L])) (λJ=>bK 7 B.procs (bt 3 107 (dO 12 (λU=>(bE [Pv 1,Pv 2,Iv 13 J,Iv 14 U] [Xb 1 B,Xb 2 (⟨0,0⟩:aZ)])) (λO=>(12,(bE [Pv 1,Pv 2,Iv 13 J] [Xb 1 B,Xb 2 (⟨0,0⟩:aZ)]))) (λO=>(bE [Pv 2,Iv 3 10] [Xb 2 O])) (λU=>bR 8 λY _=>bK 2 Y.events (bt 3 118 (bB 19 λe _=>bR 1 λf _=>bR 3 λg _=>bt 3 134 bf bf) bf)) (λO=>bf) (λO=>bf)) bf)) (λL=>bf) (λL=>bf))) (λC=>bf)) (λw=>bf)) (λu=>bf)))))
def oE(B:Zj):aY Zl:=(cO B).bind λu=>some (u.2==0)
instance QJ(B:Zj):Fc Sy cL (oE B):=Fc.M 23 [enc B] (dB 2 1 B (bB 6 λu _=>bf))
def qG(B:Int):aY Zl:=(bl (decide (B>=18)) (some (decide (B<=21))) (some false):aY Zl).bind λu=>some u
instance Tu(B:Int):Fc Sy cL (qG B):=Fc.M 24 [.int .i64 B] (b7 10 3 [0,5] 8 (bt 10 5 (bz 3) (bz 3)) λu=>bf)
def pT(D:Zg)(p1:Int):aY Zg:=(nD (Sl.row []:Zg) D).bind λu=>(Sl.iB u p1).bind λw=>(Sl.get u w).bind λz=>(Sl.iB u p1).bind λB=>(Sl.put u B (wrap .i64 (z+1):Int)).bind λC=>some C
instance RQ(B:Zg)(p1:Int):Fc Sy cL (pT B p1):=Fc.N 74 [enc B,.int .i64 p1] (ym 9 6 8 λw _=>jE .i64 9 8 λz _=>pL 0 8 0 1 false (λu=>.int .i64 u) λu _=>jE .i64 1 8 λC _=>tN 0 8 (.int .i64 (wrap .i64 (u+1))) λD _=>bf)
namespace lY
def bn(B:Zg)(D:Zj)(p5:Int):aY (Fw Int Unit Unit):=bl (decide (p5<(len B))) ((idx B p5).bind λu=>(bl (decide (u<0)) (some true) ((idx B p5).bind λw=>(idx D.procs p5).bind λz=>some (decide (w>(len z.events)))):aY Zl).bind λC=>bl C (some (.r ())) (some (.n (wrap .i64 (p5+1))))) (some (.x ()))
def W1(B:Zg)(p5:Int)(D:Zj):aY Zl:=(bM (λq:Int=>bn B D q) p5).bind (Fw.elim (λe=>some true) (λe=>some false))
end lY
def lY(D:Zj)(B:Zg):aY Zl:=bl ((len B)==(len D.procs)) (lY.W1 B 0 D) (some false)
open lY in
instance S0(D:Zj)(B:Zg):Fc Sy cL (lY D B):=Fc.M 110 [enc D,enc B] (dB 2 2 D (bK 7 B (bK 2 D.procs (dA 3 11 (dO 11 (λw=>(bE [Cv 1 B,Pv 2,Iv 5 w] [Xb 2 D])) (λu=>(0,(bE [] []))) (λu=>(bE [Bv 4 false] [])) (λw=>bK 6 B (bt 3 15 (bR 9 λC _=>b7 3 13 [23] 36 (bt 3 23 (bz 13) (bR 2 λG _=>bR 4 λz _=>bK 2 z.events (bz 2))) λI=>bt 2 36 bf bf) bf)) (λu=>bf) (λu=>bf)) bf))))
namespace dy
def bP(B:Zg)(p5:Int)(D:Zj)(G:Int):aY (Fw Int Unit Unit):=(idx B p5).bind λz=>bl (decide (G<z)) ((idx D.procs p5).bind λC=>(idx C.events G).bind λu=>bl (u.kind==3) ((dz D 2 u.message).bind λw=>(idx B w.proc).bind λI=>bl (decide (w.index>I)) (some (.r ())) (some (.n (wrap .i64 (G+1))))) (some (.n (wrap .i64 (G+1))))) (some (.x ()))
def W2(B:Zg)(p5 G:Int)(D:Zj):aY (Fw Int Unit Unit):=(bM (λq:Int=>bP B p5 D q) G).bind (Fw.elim (λe=>some (.n (wrap .i64 (p5+1)))) (λe=>some (.r ())))
def bn(B:Zg)(D:Zj)(p5:Int):aY (Fw Int Unit Unit):=bl (decide (p5<(len B))) (W2 B p5 0 D) (some (.x ()))
def W1(B:Zg)(p5:Int)(D:Zj):aY Zl:=(bM (λq:Int=>bn B D q) p5).bind (Fw.elim (λe=>some true) (λe=>some false))
end dy
def dy(D:Zj)(B:Zg):aY Zl:=dy.W1 B 0 D
open dy in
instance Ky(D:Zj)(B:Zg):Fc Sy cL (dy D B):=Fc.M 111 [enc D,enc B] (dB 2 2 D (dO 11 (λu=>(bE [Cv 1 B,Pv 2,Iv 5 u] [Xb 2 D])) (λw=>(0,(bE [] []))) (λw=>(bE [Bv 4 false] [])) (λu=>bK 6 B (bt 3 12 (dO 12 (λC=>(bE [Cv 1 B,Pv 2,Iv 5 u,Iv 6 C] [Xb 2 D])) (λz=>(2,(bE [Cv 1 B,Pv 2,Iv 5 u] [Xb 2 D]))) (λz=>(bE [Bv 4 false] [])) (λC=>bR 7 λI _=>bt 4 20 (bR 10 λJ _=>bR 3 λG _=>oC 2 7 0 G (bt 9 34 (bB 6 λL _=>bR 11 λO _=>bt 4 46 bf bf) bf)) bf) (λz=>bf) (λz=>bf)) bf)) (λw=>bf) (λw=>bf)))
def u_(B:Zj)(D:Zg):aY Zl:=(lY B D).bind λu=>(bl u ((dy B D).bind λw=>some w) (some false):aY Zl).bind λz=>some z
instance Tw(B:Zj)(D:Zg):Fc Sy cL (u_ B D):=Fc.M 73 [enc B,enc D] (dB 2 2 B (bB 7 λu _=>b7 1 4 [1,2,8] 12 (bt 1 8 (bB 2 λw _=>bz 1) (bz 4)) λz=>bf))
namespace gE
def bn(G:Zg)(D:Zj)(B:Zb)(p6:Int):aY (Fw ((Zb)×Int) Zb Empty):=bl (decide (p6<(len G))) ((idx G p6).bind λu=>(idx D.procs p6).bind λw=>(bl (decide (u<(len w.events))) ((pT G p6).bind λz=>(u_ D z).bind λC=>some C) (some false):aY Zl).bind λI=>bl I ((pT G p6).bind λJ=>(eW B (J:Zg)).bind λL=>some (.n (L,wrap .i64 (p6+1)))) (some (.n (B,wrap .i64 (p6+1))))) (some (.x B))
def W1(G:Zg)(B:Zb)(p6:Int)(D:Zj):aY Zb:=(bM (λq:(Zb)×Int=>bn G D q.1 q.2) (B,p6)).bind (Fw.elim (λe=>some e) (λe=>elim e))
end gE
def gE(B:Zj)(D:Zg):aY Zb:=gE.W1 D (Sl.nil:Zb) 0 B
open gE in
instance RK(B:Zj)(D:Zg):Fc Sy cL (gE B D):=Fc.N 47 [enc B,enc D] (dB 2 2 B (eO 17 (λu=>(bE [Cv 1 D,Pv 2,Ov 5,Iv 6 u.2] [Xb 2 B,Lb 2005 u.1])) (λw=>(0,(bE [Ov 5] [Lb 2005 w]))) (λu=>bK 7 D (bt 3 10 (bR 9 λI _=>bR 4 λC _=>bK 2 C.events (Pu 2 6 [30,29] (λz=>(bE [Cv 1 D,Pv 2,Ov 5,Iv 6 u.2,Bv 10 true,Bv 31 z] [Xb 2 B,Lb 2005 u.1])) (bt 2 25 (bB 3 λJ _=>pY 0 λL _=>bz 1) (bz 6)) λz=>bt 2 31 (bB 5 λG _=>zI 0 36 ([G]:aX Zg) (oB 0 2005 36 37 λO _=>bf)) bf)) bf)) (λw=>bf)))
namespace fW
def bn(B:Zg)(D i4:Int):aY (Fw (Int×Int) Int Empty):=bl (decide (i4<(len B))) ((idx B i4).bind λu=>some (.n (wrap .i64 (D+u),wrap .i64 (i4+1)))) (some (.x D))
def W1(B:Zg)(D i4:Int):Z6:=(bM (λq:Int×Int=>bn B q.1 q.2) (D,i4)).bind (Fw.elim (λe=>some e) (λe=>elim e))
end fW
def fW(B:Zg):Z6:=fW.W1 B 0 0
open fW in
instance Ru(B:Zg):Fc Sy cL (fW B):=Fc.M 112 [enc B] (eO 18 (λu=>(bE [Cv 0 B,Iv 3 u.1,Iv 4 u.2] [])) (λw=>(0,(bE [Iv 3 w] []))) (λu=>bK 6 B (bt 3 8 (bR 9 λz _=>bf) bf)) (λw=>bf))
namespace gq
def bn(a0 D:Zg)(B:Int):aY (Fw Int Unit Zl):=bl (decide (B<(len a0))) ((idx a0 B).bind λu=>(idx D B).bind λw=>bl (u==w) (some (.n (wrap .i64 (B+1)))) ((idx a0 B).bind λz=>(idx D B).bind λC=>some (.r (decide (z<C))))) (some (.x ()))
def W1(a0 B:Zg)(D:Int):aY Zl:=(bM (λq:Int=>bn a0 B q) D).bind (Fw.elim (λe=>some false) (λe=>some e))
end gq
def gq(a0 B:Zg):aY Zl:=(fW a0).bind λu=>(fW B).bind λw=>bl (u==w) (gq.W1 a0 B 0) ((fW a0).bind λz=>(fW B).bind λC=>some (decide (z<C)))
open gq in
instance O6(a0 B:Zg):Fc Sy cL (gq a0 B):=Fc.M 75 [enc a0,enc B] (bB 9 λz _=>bB 1 λC _=>dA 3 10 (dO 11 (λw=>(bE [Cv 0 a0,Cv 1 B,Iv 5 w] [])) (λu=>(0,(bE [] []))) (λu=>(bE [Bv 4 u] [])) (λw=>bK 6 a0 (bt 3 19 (bR 9 λD _=>bR 3 λG _=>dA 4 30 bf (bR 5 λI _=>bR 3 λJ _=>bf)) bf)) (λu=>bf) (λu=>bf)) (bB 4 λL _=>bB 1 λO _=>bf))
namespace dP
def bn(a0 D:Zg)(B:Int):aY (Fw Int Unit Unit):=bl (decide (B<(len a0))) ((idx a0 B).bind λu=>(idx D B).bind λw=>bl (u==w) (some (.n (wrap .i64 (B+1)))) (some (.r ()))) (some (.x ()))
def W1(a0 B:Zg)(D:Int):aY Zl:=(bM (λq:Int=>bn a0 B q) D).bind (Fw.elim (λe=>some true) (λe=>some false))
end dP
def dP(a0 B:Zg):aY Zl:=bl ((len a0)==(len B)) (dP.W1 a0 B 0) (some false)
open dP in
instance MB(a0 B:Zg):Fc Sy cL (dP a0 B):=Fc.M 76 [enc a0,enc B] (bK 9 a0 (bK 1 B (dA 3 10 (dO 11 (λw=>(bE [Cv 0 a0,Cv 1 B,Iv 5 w] [])) (λu=>(0,(bE [] []))) (λu=>(bE [Bv 4 false] [])) (λw=>bK 6 a0 (bt 3 14 (bR 9 λz _=>bR 3 λC _=>dA 4 25 bf bf) bf)) (λu=>bf) (λu=>bf)) bf)))
namespace gu
def bn(D:Zb)(G:Zg)(B:Int):aY (Fw Int Int Empty):=(bl (decide (B<(len D))) ((idx D B).bind λu=>(gq u G).bind λw=>some w) (some false):aY Zl).bind λz=>bl z (some (.n (wrap .i64 (B+1)))) (some (.x B))
def W1(B:Zb)(G:Zg)(D:Int):aY Zb:=(bM (λq:Int=>bn B G q) D).bind (Fw.elim (λe=>(bl (decide (e<(len B))) ((idx B e).bind λz=>(dP z G).bind λC=>some C) (some false):aY Zl).bind λI=>bl I (some B) ((ga B none (some e)).bind λJ=>(nD (Sl.row []:Zb) J).bind λL=>(eW L (G:Zg)).bind λO=>(ga B (some e) none).bind λu=>(nD O u).bind λw=>some w)) (λe=>elim e))
end gu
def gu(B:Zb)(D:Zg):aY Zb:=gu.W1 B D 0
open gu in
instance Pn(B:Zb)(D:Zg):Fc Sy cL (gu B D):=Fc.N 48 [enc B,enc D] (eO 13 (λw=>(bE [Cv 0 B,Cv 1 D,Iv 5 w] [])) (λu=>(0,(bE [Cv 0 B,Cv 1 D,Iv 5 u] []))) (λw=>bK 6 B (b7 2 7 [11] 18 (bt 2 11 (bR 2 λG _=>bB 2 λI _=>bz 1) (bz 7)) λJ=>bt 2 18 bf bf)) (λu=>bK 7 B (b7 2 7 [25] 32 (bt 2 25 (bR 2 λL _=>bB 2 λO _=>bz 1) (bz 7)) λQ=>bt 2 32 bf (zI 5 34 ([]:aX Zg) (Co 2 false true [.int .i64 u] λS _=>ym 0 34 38 λT _=>zI 7 41 ([D]:aX Zg) (oB 0 38 41 42 λU _=>Co 8 true false [.int .i64 u] λz _=>ym 0 42 47 λC _=>bf))))))
namespace dL
def dU(D G:Zb)(T:Int)(J:Zb)(O:Zj)(B:Zb)(k9:Int):aY (Fw ((Zb)×Int) Zb Empty):=bl (decide (k9<(len J))) ((idx J k9).bind λu=>(gu B u).bind λw=>some (.n (w,wrap .i64 (k9+1)))) (some (.x B))
def W3(B G D:Zb)(O:Int)(T:Zb)(k9:Int)(J:Zj):aY (Fw ((Zb)×Int) Zb Empty):=(bM (λq:(Zb)×Int=>dU B G O T J q.1 q.2) (D,k9)).bind (Fw.elim (λe=>some (.n (e,wrap .i64 (O+1)))) (λe=>elim e))
def bP(B G:Zb)(J:Zj)(D:Zb)(O:Int):aY (Fw ((Zb)×Int) Zb Empty):=bl (decide (O<(len B))) ((idx B O).bind λu=>(gE J u).bind λw=>W3 B G D O w 0 J) (some (.x D))
def W2(B D G:Zb)(O:Int)(J:Zj):aY (Fw ((Zb)×(Zb)) Zb Unit):=(bM (λq:(Zb)×Int=>bP B D J q.1 q.2) (G,O)).bind (Fw.elim (λe=>some (.n (e,D))) (λe=>elim e))
def bn(G:Zj)(B D:Zb):aY (Fw ((Zb)×(Zb)) Zb Unit):=bl (decide ((len B)>0)) ((nD D B).bind λu=>bl (decide ((len u)>5000)) (some (.r ())) (W2 B u (Sl.nil:Zb) 0 G)) (some (.x D))
def W1(B D:Zb)(G:Zj):aY ((Zb)×Zl):=(bM (λq:(Zb)×(Zb)=>bn G q.1 q.2) (B,D)).bind (Fw.elim (λe=>some (e,true)) (λe=>some ((Sl.nil:Zb),false)))
end dL
def dL(B:Zj):aY ((Zb)×Zl):=(jT (len B.procs) (0:Int)).bind λu=>dL.W1 (Sl.row [u]:Zb) (Sl.nil:Zb) B
open dL in
instance Rw(B:Zj):Fc Sy cL (dL B):=Fc.N 25 [enc B] (dB 2 1 B (bK 8 B.procs (yO 0 13 λL _=>zI 1 14 ([L]:aX Zg) (dO 13 (λu=>(bE [Pv 1,Cv 4 u.1,Ov 5] [Xb 1 B,Lb 2005 u.2])) (λC=>(0,(bE [Ov 5] [Lb 2005 C]))) (λC=>(bE [Ov 2,Bv 3 false] [Lb 2002 (Sl.nil:Zb)])) (λu=>bK 7 u.1 (bt 3 17 (ym 8 2005 20 λw _=>zC 7 20 w (bt 3 23 bf (eO 18 (λz=>(bE [Pv 1,Cv 4 u.1,Ov 5,Cv 6 z.1,Iv 7 z.2] [Xb 1 B,Lb 2005 w])) (λG=>(2,(bE [Pv 1,Ov 5,Cv 6 G] [Xb 1 B,Lb 2005 w]))) (λz=>bK 8 u.1 (bt 3 27 (bR 10 λO _=>bB 1 λI _=>eO 12 (λD=>(bE [Pv 1,Cv 4 u.1,Ov 5,Cv 6 D.1,Iv 7 z.2,Cv 8 I,Iv 9 D.2] [Xb 1 B,Lb 2005 w])) (λJ=>(4,(bE [Pv 1,Cv 4 u.1,Ov 5,Cv 6 J,Iv 7 z.2] [Xb 1 B,Lb 2005 w]))) (λD=>bK 8 I (bt 3 39 (bR 9 λQ _=>bB 1 λS _=>bf) bf)) (λJ=>bf)) bf)) (λG=>bf)))) bf)) (λC=>bf) (λC=>bf)))))
namespace mm
def bn(D:Zb)(G:Zg)(B:Int):aY (Fw Int Unit Int):=bl (decide (B<(len D))) ((idx D B).bind λu=>(dP u G).bind λw=>bl w (some (.r B)) (some (.n (wrap .i64 (B+1))))) (some (.x ()))
def W1(B:Zb)(D:Zg)(G:Int):Z6:=(bM (λq:Int=>bn B D q) G).bind (Fw.elim (λe=>some (-1)) (λe=>some e))
end mm
def mm(B:Zb)(D:Zg):Z6:=mm.W1 B D 0
open mm in
instance Ry(B:Zb)(D:Zg):Fc Sy cL (mm B D):=Fc.M 78 [enc B,enc D] (dO 13 (λw=>(bE [Cv 0 B,Cv 1 D,Iv 5 w] [])) (λu=>(0,(bE [] []))) (λu=>(bE [Iv 4 u] [])) (λw=>bK 6 B (bt 3 9 (bR 9 λz _=>bB 2 λC _=>bt 2 17 bf bf) bf)) (λu=>bf) (λu=>bf))
namespace fU
def bP(O:Zb)(G:Int)(J:Zb)(T:Zj)(B:Zb)(k8:Int):aY (Fw ((Zb)×Int) Zb Empty):=bl (decide (k8<(len J))) (((idx B G).bind Sl.whole).bind λw=>(idx J k8).bind λz=>(mm O z).bind λC=>(eW w (C:Int)).bind λD=>(Sl.whole D).bind λu=>some (.n (lU B G u,wrap .i64 (k8+1)))) (some (.x B))
def W2(J B:Zb)(G:Int)(O:Zb)(k8:Int)(D:Zj):aY (Fw ((Zb)×Int) Zb Empty):=(bM (λq:(Zb)×Int=>bP J G O D q.1 q.2) (B,k8)).bind (Fw.elim (λe=>some (.n (e,wrap .i64 (G+1)))) (λe=>elim e))
def bn(G:Zb)(D:Zj)(B:Zb)(J:Int):aY (Fw ((Zb)×Int) Zb Empty):=bl (decide (J<(len G))) ((idx G J).bind λu=>(gE D u).bind λw=>W2 G B J w 0 D) (some (.x B))
def W1(G B:Zb)(J:Int)(D:Zj):aY Zb:=(bM (λq:(Zb)×Int=>bn G D q.1 q.2) (B,J)).bind (Fw.elim (λe=>some e) (λe=>elim e))
end fU
def fU(D:Zj)(B:Zb):aY Zb:=(jT (len B) (Sl.nil:Zg)).bind λu=>fU.W1 B u 0 D
open fU in
instance Rx(D:Zj)(B:Zb):Fc Sy cL (fU D B):=Fc.N 51 [enc D,enc B] (dB 2 2 D (bK 6 B (yO 0 11 λO J=>Sc 0 11 (PR J) (eO 13 (λu=>(bE [Cv 1 B,Pv 2,Ov 5,Iv 6 u.2] [Xb 2 D,(2005,rT u.1)])) (λC=>(0,(bE [Ov 5] [(2005,rT C)]))) (λu=>bK 8 B (bt 3 15 (bR 10 λQ _=>bB 1 λG _=>eO 12 (λz=>(bE [Cv 1 B,Pv 2,Ov 5,Iv 6 u.2,Cv 7 G,Iv 8 z.2] [Xb 2 D,(2005,rT z.1)])) (λI=>(2,(bE [Cv 1 B,Pv 2,Ov 5,Iv 6 u.2] [Xb 2 D,(2005,rT I)]))) (λz=>bK 8 G (bt 3 27 (E4 5 2005 6030 (.s 6) λS w=>IM 6 2005 6030 .i64 w (NN 0 2005 6030 w (bR 3 λT _=>pY 1 λU _=>oB 1 6030 42 43 λW _=>IM 0 2005 6030 .i64 w (UW 0 2005 6030 43 w (Ez 1 2005 43 w λL _=>bf))))) bf)) (λI=>bf)) bf)) (λC=>bf)))))
namespace d_
def bP(a2 a:Sl Zl)(Y:Zl)(J:Zb)(B:Sl Zl)(O:Int)(G D:Zl)(BI:Int):aY (Fw (Zl×Zl×Int) (Zl×Zl) Empty):=(idx J O).bind λL=>bl (decide (BI<(len L))) ((bl G (some true) ((idx J O).bind λQ=>(idx Q BI).bind λS=>(Sl.iB B S).bind λT=>(Sl.get B T).bind λU=>some U):aY Zl).bind λW=>(bl D ((idx J O).bind λu=>(idx u BI).bind λw=>(Sl.iB B w).bind λz=>(Sl.get B z).bind λC=>some C) (some false):aY Zl).bind λI=>some (.n (W,I,wrap .i64 (BI+1)))) (some (.x (G,D)))
def W2(a2 W:Sl Zl)(D:Zl)(U:Zb)(B:Sl Zl)(G:Int)(O J:Zl)(BI:Int):aY (Fw ((Sl Zl)×Int) (Sl Zl) Empty):=(bM (λq:Zl×Zl×Int=>bP a2 W D U B G q.1 q.2.1 q.2.2) (O,J,BI)).bind (Fw.elim (λe=>(idx W G).bind λu=>(bl u (some true) ((idx a2 G).bind λw=>(bl w ((bl D (some e.2) (some false):aY Zl).bind λz=>(bl z (some true) ((bl D (some false) (some e.1):aY Zl).bind λC=>some C):aY Zl).bind λI=>some I) (some false):aY Zl).bind λL=>some L):aY Zl).bind λQ=>(Sl.iB B G).bind λS=>(Sl.put B S (Q:Zl)).bind λT=>some (.n (T,wrap .i64 (G-1)))) (λe=>elim e))
def bn(a2 O:Sl Zl)(G:Zl)(J:Zb)(B:Sl Zl)(D:Int):aY (Fw ((Sl Zl)×Int) (Sl Zl) Empty):=bl (decide (D>=0)) ((idx J D).bind λu=>W2 a2 O G J B D false (decide ((len u)>0)) 0) (some (.x B))
def W1(a2 O:Sl Zl)(D:Zl)(G:Zb)(B:Sl Zl)(J:Int):aY (Sl Zl):=(bM (λq:(Sl Zl)×Int=>bn a2 O D G q.1 q.2) (B,J)).bind (Fw.elim (λe=>some e) (λe=>elim e))
end d_
def d_(G:Zj)(D:Zb)(a2 J:Sl Zl)(B:Zl):aY (Sl Zl):=(fU G D).bind λu=>(jT (len D) (false:Zl)).bind λw=>d_.W1 a2 J B u w (wrap .i64 ((len D)-1))
open d_ in
instance Qq(T:Zj)(O:Zb)(a2 G:Sl Zl)(B:Zl):Fc Sy cL (d_ T O a2 G B):=Fc.N 31 [enc T,enc O,enc a2,enc G,.bool B] (dB 2 5 T (bB 7 λC _=>bK 6 O (yO 0 22 λa _=>bK 7 O (eO 7 (λu=>(bE [Cv 2 a2,Cv 3 G,Bv 4 B,Cv 11 C,Ov 12,Iv 13 u.2] [Lb 2012 u.1])) (λI=>(0,(bE [Ov 12] [Lb 2012 I]))) (λu=>bt 9 27 (bR 9 λQ _=>bK 1 Q (eO 14 (λw=>(bE [Cv 2 a2,Cv 3 G,Bv 4 B,Cv 11 C,Ov 12,Iv 13 u.2,Bv 14 w.1,Bv 15 w.2.1,Iv 16 w.2.2] [Lb 2012 u.1])) (λD=>(2,(bE [Cv 2 a2,Cv 3 G,Bv 4 B,Cv 11 C,Ov 12,Iv 13 u.2,Bv 14 D.1,Bv 15 D.2] [Lb 2012 u.1]))) (λw=>bR 8 λS _=>bK 1 S (bt 3 42 (b7 9 11 [46] 57 (bt 9 46 (bz 11) (bR 3 λb _=>bR 2 λc _=>jE .i64 1 2012 λd _=>pL 0 2012 0 1 false (λJ=>.bool J) λJ _=>bz 1)) λe=>b7 6 11 [59] 70 (bt 6 59 (bR 3 λU _=>bR 2 λW _=>jE .i64 1 2012 λX _=>pL 0 2012 0 1 false (λz=>.bool z) λz _=>bz 1) (bz 11)) λY=>bf) bf)) (λD=>bR 7 λZ _=>b7 2 18 [14,15,77] 95 (bt 2 77 (bz 18) (bR 2 λf _=>b7 2 12 [14,15,82] 94 (bt 2 82 (b7 2 2 [15,84] 86 (bt 2 84 (bz 2) (bz 2)) λg=>b7 1 6 [14,87] 93 (bt 1 87 (bz 6) (b7 3 2 [14,90] 92 (dA 3 90 (bz 2) (bz 2)) λh=>bz 1)) λi=>bz 1) (bz 12)) λj=>bz 1)) λL=>jE .i64 0 2012 λk _=>tN 0 2012 (.bool L) λl _=>bf))) bf) (λI=>bf)))))
namespace hG
def bn(D:Sl Zl)(B:Sl Zl)(i4:Int):aY (Fw ((Sl Zl)×Int) (Sl Zl) Empty):=bl (decide (i4<(len D))) ((idx D i4).bind λu=>(Sl.iB B i4).bind λw=>(Sl.put B w ((!u):Zl)).bind λz=>some (.n (z,wrap .i64 (i4+1)))) (some (.x B))
def W1(D B:Sl Zl)(i4:Int):aY (Sl Zl):=(bM (λq:(Sl Zl)×Int=>bn D q.1 q.2) (B,i4)).bind (Fw.elim (λe=>some e) (λe=>elim e))
end hG
def hG(B:Sl Zl):aY (Sl Zl):=(jT (len B) (false:Zl)).bind λu=>hG.W1 B u 0
open hG in
instance SS(B:Sl Zl):Fc Sy cL (hG B):=Fc.N 49 [enc B] (bK 8 B (yO 0 7 λC _=>eO 12 (λu=>(bE [Cv 0 B,Ov 3,Iv 4 u.2] [Lb 2003 u.1])) (λw=>(0,(bE [Ov 3] [Lb 2003 w]))) (λu=>bK 7 B (bt 3 11 (bR 10 λz _=>jE .i64 2 2003 λD _=>tN 0 2003 (.bool (!z)) λG _=>bf) bf)) (λw=>bf)))
namespace eE
def bP(U:Zb)(G:Int)(J O:Sl Zl)(T:Zj)(B:Sl Zl)(D:Int):aY (Fw ((Sl Zl)×Int) (Sl Zl) Empty):=bl (decide (D<(len J))) ((idx J D).bind λu=>(Sl.iB B D).bind λw=>(Sl.put B w ((!u):Zl)).bind λz=>some (.n (z,wrap .i64 (D+1)))) (some (.x B))
def W2(J:Zb)(B:Int)(T D O:Sl Zl)(U:Int)(G:Zj):aY (Sl Zl):=(bM (λq:(Sl Zl)×Int=>bP J B T D G q.1 q.2) (O,U)).bind (Fw.elim (λe=>bl (B==18) ((d_ G J D T false).bind λI=>some I) (bl (B==19) ((d_ G J D T true).bind λL=>some L) (bl (B==20) ((d_ G J D e true).bind λu=>(hG u).bind λw=>some w) ((d_ G J D e false).bind λz=>(hG z).bind λC=>some C)))) (λe=>elim e))
def bn(T:Zb)(G:Int)(J:Sl Zl)(O:Zj)(B:Sl Zl)(D:Int):aY (Fw ((Sl Zl)×Int) (Sl Zl) Empty):=bl (decide (D<(len J))) ((Sl.iB B D).bind λu=>(Sl.put B u (true:Zl)).bind λw=>some (.n (w,wrap .i64 (D+1)))) (some (.x B))
def W1(T:Zb)(B:Int)(J D:Sl Zl)(O:Int)(G:Zj):aY (Sl Zl):=(bM (λq:(Sl Zl)×Int=>bn T B J G q.1 q.2) (D,O)).bind (Fw.elim (λe=>(jT (len J) (false:Zl)).bind λu=>eE.W2 T B J e u 0 G) (λe=>elim e))
end eE
def eE(G:Zj)(J:Zb)(B:Int)(D:Sl Zl):aY (Sl Zl):=(jT (len D) (false:Zl)).bind λu=>eE.W1 J B D u 0 G
open eE in
instance QO(G:Zj)(J:Zb)(B:Int)(D:Sl Zl):Fc Sy cL (eE G J B D):=Fc.N 26 [enc G,enc J,.int .i64 B,enc D] (dB 2 4 G (bK 6 D (yO 0 15 λT _=>eO 12 (λw=>(bE [Cv 1 J,Iv 2 B,Cv 3 D,Pv 4,Ov 9,Iv 10 w.2] [Xb 4 G,Lb 2009 w.1])) (λu=>(0,(bE [Cv 1 J,Iv 2 B,Cv 3 D,Pv 4,Ov 9] [Xb 4 G,Lb 2009 u]))) (λw=>bK 7 D (bt 3 19 (jE .i64 8 2009 λU _=>tN 0 2009 (.bool true) λW _=>bf) bf)) (λu=>bK 5 D (yO 0 27 λX _=>eO 13 (λz=>(bE [Cv 1 J,Iv 2 B,Cv 3 D,Pv 4,Ov 9,Ov 11,Iv 12 z.2] [Xb 4 G,Lb 2009 u,Lb 2011 z.1])) (λC=>(2,(bE [Cv 1 J,Iv 2 B,Cv 3 D,Pv 4,Ov 9,Ov 11] [Xb 4 G,Lb 2009 u,Lb 2011 C]))) (λz=>bK 8 D (bt 3 31 (bR 10 λI _=>jE .i64 2 2011 λY _=>tN 0 2011 (.bool (!I)) λZ _=>bf) bf)) (λC=>bt 15 43 (bB 8 λa _=>bf) (bt 7 50 (bB 8 λb _=>bf) (bt 7 57 (bB 9 λL _=>bB 0 λO _=>bf) (bB 12 λQ _=>bB 0 λS _=>bf)))))))))
def kO(D:Zj)(B:Int)(x2:Sl Zl):aY ((Sl Zl)×Int):=(oE D).bind λw=>bl w ((qG B).bind λz=>bl z ((dL D).bind λu=>bl u.2 (bl ((len x2)==(len u.1)) ((eE D u.1 B x2).bind λC=>some (C,0)) (some (Sl.nil,3))) (some (Sl.nil,16))) (some (Sl.nil,2))) (some (Sl.nil,1))
instance RL(D:Zj)(B:Int)(x2:Sl Zl):Fc Sy cL (kO D B x2):=Fc.N 7 [enc D,.int .i64 B,enc x2] (dB 2 3 D (bB 8 λw _=>dA 3 12 (bB 7 λz _=>dA 3 15 (bB 6 λu _=>dA 14 22 (bK 7 x2 (bK 1 u.1 (dA 3 27 (bB 9 λC _=>bf) bf))) bf) bf) bf))
def kz(D:Int)(B:Sl Zl)(W:Zl)(T U:Sl Zl):aY Zl:=bl W ((idx T D).bind λw=>(bl w (some true) ((idx U D).bind λz=>(bl z ((mW B).bind λC=>some C) (some false):aY Zl).bind λG=>some G):aY Zl).bind λI=>some I) ((idx T D).bind λJ=>(bl J (some true) ((idx U D).bind λL=>(bl L ((lN B).bind λO=>some O) (some false):aY Zl).bind λQ=>some Q):aY Zl).bind λu=>some u)
instance Kz(D:Int)(B:Sl Zl)(G:Zl)(J O:Sl Zl):Fc Sy cL (kz D B G J O):=Fc.M 28 [.int .i64 D,enc B,.fptr (cells G),.fptr (cells J),.fptr (cells O)] (bt 11 8 (bR 5 λw _=>b7 2 9 [0,1,4,13] 22 (bt 2 13 (bz 9) (bR 2 λz _=>b7 2 3 [1,18] 21 (bt 2 18 (bB 1 λC _=>bz 1) (bz 3)) λI=>bz 1)) λL=>bf) (bR 7 λQ _=>b7 2 9 [0,1,4,27] 36 (bt 2 27 (bz 9) (bR 2 λS _=>b7 2 3 [1,32] 35 (bt 2 32 (bB 1 λT _=>bz 1) (bz 3)) λU=>bz 1)) λu=>bf))
def iW(J:Zj)(a1 O:Sl Zl)(B:Zl):aY ((Sl Zl)×Int):=(dH J).bind λC=>bl C ((cW J).bind λu=>bl (u.2==0) ((u.1).bind λw=>(bl ((len a1)==(len w.l)) (some (!((len O)==(len w.l)))) (some true):aY Zl).bind λD=>bl D (some (Sl.nil,3)) ((cQ w (λz=>kz z.1 z.2 B O a1)).bind λG=>some (G,0))) (some (Sl.nil,u.2))) (some (Sl.nil,1))
instance Nd(G:Zj)(a1 D:Sl Zl)(B:Zl):Fc Sy cL (iW G a1 D B):=Fc.N 8 [enc G,enc a1,enc D,.bool B] (dB 2 4 G (dB 0 5 a1 (dB 0 6 D (bB 9 λI _=>dA 3 14 (bB 6 λw _=>dA 16 20 (bK 4 a1 (Oo 1 (λC=>(bE [Pv 5,Pv 6,Pv 7,Bv 14 false,Cv 10 C,Iv 11 w.2,Bv 20 false,Iv 26 (len a1),Cv 27 C] [Xb 4 G,(5,.box [cv a1]),(6,.box [cv D]),(7,.box [bv B])])) λu _=>bK 3 u.l (b7 2 9 [33] 42 (dA 2 33 (bK 1 D (bK 4 u.l (bz 2))) (bz 9)) λJ=>bt 3 24 bf (bB (F:=pK 28 [.fptr (cells B),.fptr (cells D),.fptr (cells a1)] (λz=>kz z.1 z.2 B D a1) pH.vL u) 11 λL _=>bf)))) bf) bf))))
def jK(D:Zj)(a1 G:Sl Zl)(B:Zl):aY ((Sl Zl)×Int):=(oE D).bind λw=>bl w ((dL D).bind λu=>bl u.2 ((bl ((len a1)==(len u.1)) (some (!((len G)==(len u.1)))) (some true):aY Zl).bind λz=>bl z (some (Sl.nil,3)) ((d_ D u.1 a1 G B).bind λC=>some (C,0))) (some (Sl.nil,16))) (some (Sl.nil,1))
instance NM(D:Zj)(a1 G:Sl Zl)(B:Zl):Fc Sy cL (jK D a1 G B):=Fc.N 9 [enc D,enc a1,enc G,.bool B] (dB 2 4 D (bB 8 λw _=>dA 3 14 (bB 6 λu _=>dA 14 21 (bK 7 a1 (bK 1 u.1 (b7 2 6 [27] 33 (dA 2 27 (bK 1 G (bK 1 u.1 (bz 2))) (bz 6)) λz=>bt 2 33 bf (bB 10 λC _=>bf)))) bf) bf))
namespace eo
def bn(a0 D:Sl Zl)(B:Int):aY (Fw Int Unit Unit):=bl (decide (B<(len a0))) ((idx a0 B).bind λu=>(idx D B).bind λw=>bl (u==w) (some (.n (wrap .i64 (B+1)))) (some (.r ()))) (some (.x ()))
def W1(a0 B:Sl Zl)(D:Int):aY Zl:=(bM (λq:Int=>bn a0 B q) D).bind (Fw.elim (λe=>some true) (λe=>some false))
end eo
def eo(a0 B:Sl Zl):aY Zl:=bl ((len a0)==(len B)) (eo.W1 a0 B 0) (some false)
open eo in
instance KC(a0 B:Sl Zl):Fc Sy cL (eo a0 B):=Fc.M 10 [enc a0,enc B] (bK 9 a0 (bK 1 B (dA 3 10 (dO 11 (λw=>(bE [Cv 0 a0,Cv 1 B,Iv 5 w] [])) (λu=>(0,(bE [] []))) (λu=>(bE [Bv 4 false] [])) (λw=>bK 6 a0 (bt 3 14 (bR 9 λz _=>bR 3 λC _=>dA 4 25 bf bf) bf)) (λu=>bf) (λu=>bf)) bf)))
def kK(G:Zj)(B:Int)(a2 T:Sl Zl)(D:Zl):aY Zl:=(uI).bind λQ=>bl Q ((iO G).bind λS=>(bl S (some true) (some (decide ((len a2)>5001))):aY Zl).bind λU=>(bl U (some true) (some (decide ((len T)>5001))):aY Zl).bind λW=>bl W (some true) ((iI G B a2).bind λu=>(kO G B a2).bind λw=>(iW G a2 T D).bind λz=>(jK G a2 T D).bind λC=>(eo u.1 w.1).bind λX=>(bl X (some (u.2==w.2)) (some false):aY Zl).bind λI=>(bl I ((eo z.1 C.1).bind λJ=>some J) (some false):aY Zl).bind λL=>(bl L (some (z.2==C.2)) (some false):aY Zl).bind λO=>some O)) (some false)
instance vn(G:Zj)(B:Int)(a2 J:Sl Zl)(D:Zl):Fc Sy cL (kK G B a2 J D):=Fc.M 3 [enc G,.int .i64 B,enc a2,enc J,.bool D] (dB 2 5 G (bB 6 λI _=>dA 3 20 (bB 7 λL _=>b7 1 4 [23] 27 (bt 1 23 (bz 4) (bK 1 a2 (bz 2))) λO=>b7 1 4 [28] 32 (bt 1 28 (bz 4) (bK 1 J (bz 2))) λQ=>bt 2 32 bf (bB 8 λS _=>bB 12 λT _=>bB 13 λU _=>bB 13 λW _=>bB 11 λX _=>b7 1 4 [12,14,66] 70 (bt 1 66 (bz 4) (bz 4)) λu=>b7 1 4 [15,17,71] 75 (bt 1 71 (bB 2 λw _=>bz 1) (bz 4)) λz=>b7 1 4 [16,18,76] 80 (bt 1 76 (bz 4) (bz 4)) λC=>bf)) bf))
end
end Go.VE
