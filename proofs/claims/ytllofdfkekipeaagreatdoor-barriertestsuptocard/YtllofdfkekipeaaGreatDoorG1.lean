/-
 Each function of the program that the law reaches: its plain form, and that it comes to that.
-/
import Derived.Test.YtllofdfkekipeaaGreatDoorK1
import Derived.Test.YtllofdfkekipeaaGreatDoorT1
set_option linter.all false
noncomputable section
open List(all_cons all_nil map_append map_cons mem_map mem_of_getElem? replicate)
open Go.IntKind(signed wrap)
open Nat(beq zero_add)
open Empty(elim)
open ByteArray(toList)
namespace Go.VE
theorem Zf{p:Prop}(h:p:=by kernel_rfl):p:=h
structure Assign where
 var:Int
 value:Int
 deriving Inhabited
instance:br Assign where
 cells x:=[.int .i64 x.var,.int .i64 x.value]
 agg:=true
 size:=2
 len _:=rfl
 good x:=by simp only[V.cr,V.good,iu,Bool.and_self]
 one x:=by simp only[all_cons,all_nil,lV,j9,lU,kU,Bool.and_self]
 plain h:=by cases h
structure Event where
 kind:Int
 peer:Int
 message:Int
 time:Int
 assign:Sl Assign
 deriving Inhabited
abbrev Zn:=Event
instance:br Zn where
 cells x:=[.int .i64 x.kind,.int .i64 x.peer,.int .i64 x.message,.int .i64 x.time,enc x.assign]
 agg:=true
 size:=5
 len _:=rfl
 good x:=by simp only[V.cr,V.good,iu,Bool.and_self]
 one x:=by simp only[all_cons,all_nil,lV,j9,lU,kU,Bool.and_self]
 plain h:=by cases h
structure Var where
 name:ByteArray
 init_:Int
 deriving Inhabited
instance:br Var where
 cells x:=[.str x.name,.int .i64 x.init_]
 agg:=true
 size:=2
 len _:=rfl
 good x:=by simp only[V.cr,V.good,iu,Bool.and_self]
 one x:=by simp only[all_cons,all_nil,lV,j9,lU,kU,Bool.and_self]
 plain h:=by cases h
structure cg where
 name:ByteArray
 vars:Sl Var
 events:Sl Event
 deriving Inhabited
instance:br cg where
 cells x:=[.str x.name,enc x.vars,enc x.events]
 agg:=true
 size:=3
 len _:=rfl
 good x:=by simp only[V.cr,V.good,iu,Bool.and_self]
 one x:=by simp only[all_cons,all_nil,lV,j9,lU,kU,Bool.and_self]
 plain h:=by cases h
structure Trace where
 procs:Sl cg
 deriving Inhabited
abbrev Zj:=Trace
instance:br Zj where
 cells x:=[enc x.procs]
 agg:=true
 size:=1
 len _:=rfl
 good x:=by simp only[V.cr,V.good,iu,Bool.and_self]
 one x:=by simp only[all_cons,all_nil,lV,j9,lU,kU,Bool.and_self]
 plain h:=by cases h
structure Pred where
 kind:Int
 n:Int
 proc:Int
 peer:Int
 name:ByteArray
 l:Sl Pred
mutual
def Pred.TL:Pred->Zu
 |⟨f0,f1,f2,f3,B,f5⟩=>[.int .i64 f0,.int .i64 f1,.int .i64 f2,.int .i64 f3,.str B,Pred.HB f5]
def Pred.HB:Sl Pred->V
 |.nil=>.bG|.emp=>.dw|.row l=>.fsl 6 (Pred.L6 l)|.part l=>.fsl 6 (Pred.L6 l)
def Pred.L6:aY Pred->Zt
 |[]=>[]|x::r=>Pred.TL x::Pred.L6 r
end
instance:Inhabited Pred:=⟨⟨default,default,default,default,default,Sl.nil⟩⟩
mutual
theorem Pred.R_:∀x:Pred,V.cr x.TL=true
 |⟨f0,f1,f2,f3,B,f5⟩=>by simp only[Pred.TL,V.cr,V.good,Pred.G0,Bool.and_self]
theorem Pred.G0:∀x:Sl Pred,V.good (Pred.HB x)=true
 |.nil=>rfl|.emp=>rfl|.row l=>by simp only[Pred.HB,V.good,Pred.By]|.part l=>by simp only[Pred.HB,V.good,Pred.By]
theorem Pred.By:∀x:aY Pred,V.mS (Pred.L6 x)=true
 |[]=>rfl|x::r=>by simp only[Pred.L6,V.mS,Pred.R_,Pred.By,Bool.and_self]
end
theorem Pred.RK(s:Sl Pred):V.one (Pred.HB s)=true:=by cases s<;>simp[Pred.HB,V.one]
instance:br Pred where
 cells x:=[.int .i64 x.kind,.int .i64 x.n,.int .i64 x.proc,.int .i64 x.peer,.str x.name,Pred.HB x.l]
 agg:=true
 size:=6
 len _:=rfl
 good x:=by simp only[V.cr,V.good,Pred.G0,Bool.and_self]
 one x:=by simp only[all_cons,all_nil,lV,j9,lU,Pred.RK,Bool.and_self]
 plain h:=by cases h
structure Span where
 proc:Int
 from_:Int
 to_:Int
 deriving Inhabited
instance:br Span where
 cells x:=[.int .i64 x.proc,.int .i64 x.from_,.int .i64 x.to_]
 agg:=true
 size:=3
 len _:=rfl
 good x:=by simp only[V.cr,V.good,iu,Bool.and_self]
 one x:=by simp only[all_cons,all_nil,lV,j9,lU,kU,Bool.and_self]
 plain h:=by cases h
structure Answer where
 mode:Int
 holds:Bool
 kind:Int
 cut:Sl Int
 cuts:Sl (Sl Int)
 run:Sl (Sl Int)
 spans:Sl Span
 value:Int
 deriving Inhabited
instance:br Answer where
 cells x:=[.int .i64 x.mode,.bool x.holds,.int .i64 x.kind,enc x.cut,enc x.cuts,enc x.run,enc x.spans,.int .i64 x.value]
 agg:=true
 size:=8
 len _:=rfl
 good x:=by simp only[V.cr,V.good,iu,Bool.and_self]
 one x:=by simp only[all_cons,all_nil,lV,j9,lU,kU,Bool.and_self]
 plain h:=by cases h
structure bt where
 from_:a_
 to_:a_
 deriving Inhabited
instance:br bt where
 cells x:=[.int .i64 x.from_.proc,.int .i64 x.from_.index,.int .i64 x.to_.proc,.int .i64 x.to_.index]
 agg:=true
 size:=4
 len _:=rfl
 good x:=by simp only[V.cr,V.good,iu,Bool.and_self]
 one x:=by simp only[all_cons,all_nil,lV,j9,lU,kU,Bool.and_self]
 plain h:=by cases h
structure b9 where
 lengths:Sl Int
 need:Sl (Sl a_)
 deriving Inhabited
instance:br b9 where
 cells x:=[enc x.lengths,enc x.need]
 agg:=true
 size:=2
 len _:=rfl
 good x:=by simp only[V.cr,V.good,iu,Bool.and_self]
 one x:=by simp only[all_cons,all_nil,lV,j9,lU,kU,Bool.and_self]
 plain h:=by cases h
structure dc where
 t:Trace
 needs:Sl (Sl a_)
 deriving Inhabited
instance:br dc where
 cells x:=[enc x.t.procs,enc x.needs]
 agg:=true
 size:=2
 len _:=rfl
 good x:=by simp only[V.cr,V.good,iu,Bool.and_self]
 one x:=by simp only[all_cons,all_nil,lV,j9,lU,kU,Bool.and_self]
 plain h:=by cases h
structure bF where
 list:Sl (Sl Int)
 index:yJ (bU 8 Int) Int
 next:Sl (Sl Int)
 deriving Inhabited
instance:br bF where
 cells x:=[enc x.list,enc x.index,enc x.next]
 agg:=true
 size:=3
 len _:=rfl
 good x:=by simp only[V.cr,V.good,iu,Bool.and_self]
 one x:=by simp only[all_cons,all_nil,lV,j9,lU,kU,Jh,Bool.and_self]
 plain h:=by cases h
def iz(p:Int):Int->aY Zn->aY (a_×Zn)
 |_,[]=>[]|j,e::r=>(⟨p,j+1⟩,e)::iz p (j+1) r
def fF:Int->aY cg->aY (a_×Zn)
 |_,[]=>[]|i,p::r=>iz i 0 p.events.l++fF (i+1) r
def Ft(n:Nat):Zl:=decide (n<9223372036854775807)
def iU(t:Zj):aZ (aY (a_×Zn)):=if Ft t.procs.l.length&&t.procs.l.all λp=>Ft p.events.l.length then some (fF 0 t.procs.l)else none
end Go.VE
namespace Go.VE
def QE:Nat->Nat->Nat->Zv
 |0,_,_=>[]|f+1,i,m=>bif m % 2==1 then i::QE f (i+1) (m / 2)else QE f (i+1) (m / 2)
def gK(g m:Nat)(l:Zv:=[]):Gh:=.keep (QE 128 0 g) (QE 128 0 m++l)
def g2(n g m:Nat)(l:Zv:=[]):Nat×Z5×Z5:=(n,[gK g m l],[gK g m l])
def g1(n g m:Nat)(l:Zv:=[]):Nat×Z5×Z5:=(n,[gK g m l],[])
def G2(n:Nat)(x:Z5):Nat×Z5×Z5:=(n,x,x)
def G1(n:Nat)(x:Z5):Nat×Z5×Z5:=(n,x,[])
def cS(i n:Nat):Gh:=.canon (.s i) (2000+i) n
def cC(i j n:Nat):Gh:=.canon (.c i j) (4000+20*i+j) n
def e0(n m:Nat):Nat×GD:=(n,⟨m,[],[]⟩)
def e1(n m:Nat)(l:aY (Nat×Z5×Z5)):Nat×GD:=(n,⟨m,[],l⟩)
def JY:aY (Nat×GD):=[ e1 36 0x22226260002000201 [g2 6 387 0,g1 12 0 0,g1 22 16 0,g1 27 16 0],e0 16 0x226221,e0 17 0x2222212,e1 37 0x22226260002000201 [g2 6 387 0,g1 12 0 0,g1 22 16 0,g1 27 16 0],e0 18 0x226221,e0 19 0x2222212,e1 5 0x222222206444264402644402644402600262202202000020012 [g2 8 3622 4,g1 14 4 4,g1 26 16 0,g1 31 16 0],e1 38 0x22226260002000201 [g2 6 387 0,g1 12 0 0,g1 22 16 0,g1 27 16 0],e0 20 0x226221,e0 21 0x22221,e0 6 0x2644422201,e0 87 0x26c4444026402201,e0 88 0x26442201,e1 64 0x222064c002644c00222600620000644402644022201 [g1 8 4 0,g2 14 9 0,g1 20 0 0,g1 28 4 0,g1 33 4 0],e0 65 0x26442201,e1 39 0x2222222022226020222062260202260206000022226020622000022202220620226020600002220202602012 [g1 10 16 0,g2 16 102 36,g1 22 32 32,g1 30 16 0,g1 39 16 0,g2 45 160 32,g1 51 32 32,g1 60 16 0,g2 66 416 32,g1 72 160 32,g1 80 16 0,g1 88 16 0,g1 97 16 0,g1 101 16 0],e1 40 0x2222220620226020600006444026c444c04040222020260206220000222006cc44c4444c04040440264402220064402644026c04026c44040264402644022200644022202202026022602012 [g1 13 64 0,g1 20 64 0,g1 22 142 136,g1 28 64 0,g1 36 64 0,g2 42 394 136,g1 48 0 0,g1 59 64 0,g2 64 1930 648,g1 70 394 136,g1 78 64 0,g1 84 64 0],e0 66 0x2262222262022022,e1 67 0x20222222262226c0442602020260226020622260200062200002 [g2 6 206 72,g1 12 64 64,g2 18 462 72,g1 24 206 72,g1 34 64 64,g1 40 64 64],e1 41 0x2222226cc40444cc4040444022202602262020622262020000220060e20200022020600122 [g2 30 236 44,g1 36 64 0],e1 42 0x22206222602026006220002222203622000622262002062202202026260022602062226020260062200002222012 [G2 6 [cS 3 1,gK 10 2 [2003]],G2 14 [cS 3 1,gK 58 2 [2003]],G1 20 [cS 3 1,gK 26 2 [2003]],G2 24 [cS 3 1,gK 58 2 [2003]],G1 30 [cS 3 1,gK 58 2 [2003]],G1 43 [cS 3 1,gK 58 2 [2003]],G1 46 [cS 3 1,gK 42 2 [2003]],G1 53 [cS 3 1,gK 10 2 [2003]],G2 59 [cS 3 1,gK 266 2 [2003]],g1 65 0 0,g1 73 4 0,g1 78 4 0],e1 68 0x22262622222202062026262202022200122 [G1 10 [cS 5 2,gK 44 12 [2005]]],e1 22 0x202222220222620260600206200622260200062200002020222222222220260020620062226020006220002222222226222202e0006222602000622000222222222026006220000206444022220102 [g1 8 12 4,g2 14 22 6,g1 20 6 6,g1 30 12 4,g2 37 70 6,g1 43 6 6,g2 49 198 6,g1 55 70 6,g1 65 12 4,g2 73 518 6,g1 79 6 6,g2 85 1542 6,g1 91 518 6,g1 103 12 4,g1 113 12 4,g2 119 8198 6,g1 125 4 4,g2 131 24582 6,g1 137 8198 6,g1 147 12 4,g1 153 12 4],e0 7 0x2222302022212,e0 70 0x2236226200026201,e1 89 0x22206c444c0404c0022260062000062202012 [g1 8 16 0,g2 14 38 4,g1 20 0 0,g1 28 16 0,g1 33 16 0],e1 90 0x2222220626220202062202202026022602062600006200012 [g2 6 38 4,g1 12 0 0,g2 18 102 4,g1 24 38 4,g1 39 16 0,g1 46 16 0],e0 69 0x26c44260012,e1 44 0x2222226260026cc000262226020260062000012 [G2 8 [cS 5 1,gK 102 4 [2005]],G1 14 [cS 5 1,gK 32 0 [2005]]],e1 58 0x2222226260026200001 [g2 8 25 0,g1 14 8 0],e1 71 0x222262622260262600260062000262222620201 [g1 8 16 0,g2 14 35 0,g1 20 0 0,g1 28 16 0,g1 33 16 0],e1 72 0x2220626002600620000620201 [g1 8 16 0,g2 14 35 0,g1 20 0 0,g1 28 16 0,g1 33 16 0],e1 45 0x26622226222266000226c04c00262002226c04c002620001 [g2 6 35 0,g1 12 35 0],(23,⟨0x222222222226260026200026260006200000022026022200222220112,[(7,[.closeS (.s 13)])],[G2 8 [.closeS (.s 4),cS 5 1,gK 50 2 [2005]],G1 14 [cS 5 1,gK 32 0 [2005]],G1 24 [cS 2 1,gK 12 0 [2002]],G2 32 [.closeS (.s 4),cS 5 1,gK 242 2 [2005]],G1 38 [cS 5 1,gK 98 2 [2005]],G2 46 [.closeS (.s 4),cS 5 1,gK 1010 2 [2005]],G1 52 [.closeS (.s 4),cS 5 1,gK 242 2 [2005]],G1 61 [cS 2 1,gK 12 0 [2002]]]⟩),e0 8 0x2644422222022212,e0 104 0x26c4426201,e0 167 0x26c4444026402201,e0 168 0x26442201,e1 131 0x22064c402644c00222600200020064440264402201 [g1 8 4 0,g2 14 786433 0,g1 20 0 0,g1 30 4 0,g1 35 4 0],e0 133 0x26222212,e1 169 0x22226260002000201 [g2 6 387 0,g1 12 0 0,g1 22 16 0,g1 27 16 0],e0 132 0x226221,e0 134 0x26222212,e1 105 0x222222022222026c0c4402222022020000020022220026c0c44422220202602012 [g1 11 16 0,g1 17 16 0,g2 23 30064771104 32,g1 29 32 32,g1 40 16 0,g1 46 16 0,g1 55 16 0,g1 59 16 0],e0 106 0x2212,e1 136 0x2644426c4402622222022202644422202020122 [g1 18 524330 40],e0 138 0x26222212,e1 170 0x22226260002000201 [g2 6 387 0,g1 12 0 0,g1 22 16 0,g1 27 16 0],e0 137 0x226221,e1 107 0x2202626220026444022622202022020000020022220026c44022220022e02222226220202200202620201222 [g1 12 440 184,g1 19 64 0,g1 25 64 0,g1 31 64 0,g2 37 31525197391593632 160,g1 43 0 0,g1 54 64 0,g1 60 64 0,g1 65 64 0],e0 171 0x26c44426c440222012,e0 139 0x2662262221222,e1 108 0x2202326222002202001ef200220022022226200223262220022022226200202022020202020200002 [(8,[gK 4158 1086],[gK 0 1086]),g1 27 0 1086,g1 39 0 1086,g1 47 0 1086,g1 53 28 1052],e1 140 0x222622262222264444c4400222020262222262622020262020222620220122 [G1 12 [cS 7 2,gK 418 32 [2007]]],e1 109 0x20222622230026000226002020000e200262220202622002202202020200022 [(6,[gK 8252 60],[gK 0 60]),G2 14 [cS 8 2,gK 8700 65660 [2008]],g1 20 8252 60,G2 29 [cS 8 2,gK 481036345852 65660 [2008]],G1 35 [cS 8 2,gK 8700 65660 [2008]],g1 46 0 60,g1 58 48 48],e1 91 0x20022222020262222222022202002202222202e2002020202222222202600200022002022220002 [g1 8 12 12,g2 14 12582926 14,g1 20 14 14,g1 32 12 12,(39,[gK 68719476750 14],[gK 0 14]),g1 51 0 14,g1 61 12 12,g1 71 12 12,g1 75 12 12],e0 73 0x2222302022212,e0 141 0x26222221,e0 110 0x264c4422012,e1 111 0x2206c444c440422022200000212 [g2 6 900 4,g1 12 0 0,g1 22 16 0,g1 27 16 0],e0 112 0x26c444422012,e1 172 0x200226c0442602020202202022000222 [g1 8 192 192,(14,[gK 33008 240],[gK 0 240]),g1 24 0 240,g1 28 192 192],e0 143 0x2220622102,e1 142 0x2200222202262222626200203202026220220220200000622260202220000001002 [g2 6 57398 52,g1 12 48 48,g2 20 939581622 52,g1 26 57398 52,g1 44 112 48,g1 50 112 48],e0 113 0x22223300200262212,e1 92 0x2202620220000222026202200002220262022000000260012 [g1 8 64 0,g2 14 917518 8,g1 20 14 8,g1 30 64 0,g2 37 1879048202 8,g1 43 10 8,g1 53 64 0,g2 60 3848290697224 8,g1 66 0 0,g1 76 64 0,g1 81 64 0],e0 75 0x22622212,e0 74 0x226221,(114,⟨0x2222306222030622222022262222302622022002020000200202000020002,[(53,[.closeS (.s 49)]),(59,[.closeS (.c 3 0),.closeS (.c 3 1)])],[G2 8 [cC 3 0 1,cC 3 1 1,gK 14350 14 [4060,4061]],G1 14 [cC 3 0 1,cC 3 1 1,gK 12 12 [4060,4061]],G2 25 [cS 6 2,cC 3 0 1,cC 3 1 1,gK 1849454 46 [2006,4060,4061]],G1 31 [cS 6 2,cC 3 0 1,cC 3 1 1,gK 14446 46 [2006,4060,4061]],G1 44 [cS 6 2,cC 3 0 1,cC 3 1 1,gK 1849966 558 [2006,4060,4061]]]⟩),e0 144 0x26262222020262620260220626020260012,e1 28 0x26200201 [G1 8 [.canon (.s 2) 4004 1],G1 12 [.canon (.s 2) 4004 1]],e0 197 0x26201,e0 175 0x62206000200222202201,e1 147 0x62222222220262222620062002220000001 [g2 6 3587 0,g1 12 3 0,g1 23 16 0,g1 34 16 0,g1 43 16 0,g1 47 16 0],e0 146 0x26221,e1 86 0x2206262026002000200620201 [g1 8 16 0,g2 14 12291 0,g1 20 0 0,g1 30 16 0,g1 35 16 0],e0 149 0x26221,(115,⟨0x222302222262223622020220e0002000202200002012,[(32,[.closeS (.s 34)])],[G2 8 [cS 5 1,gK 7204 4 [2005]],G1 14 [cS 5 1,gK 32 0 [2005]],G2 22 [cS 5 1,gK 400548 4 [2005]],G1 28 [cS 5 1,gK 7204 4 [2005]]]⟩),(94,⟨0x2226202620200202620222000222222202000220112,[(16,[.closeS (.s 16)])],[G1 8 [cS 2 1,gK 12 0 [2002]],G2 20 [.closeS (.s 5),cS 6 1,gK 240 16 [2006]],G1 26 [cS 6 1,gK 64 0 [2006]],G1 37 [cS 2 1,gK 12 0 [2002]],G1 43 [cS 2 1,gK 12 0 [2002]]]⟩),e0 79 0x222222220222112,e0 50 0x222022112,e0 93 0x26c4444222012,e0 78 0x22226202226022620221022,(48,⟨0x2222322622222002226222230262022002020000220202000020222012,[(49,[.closeS (.s 46)])],[G2 8 [cC 12 1 1,gK 114698 4098 [4241]],G1 14 [cC 12 1 1,gK 8 4096 [4241]],G2 25 [cS 6 2,cC 12 1 1,gK 14794826 4098 [2006,4241]],G1 31 [cS 6 2,cC 12 1 1,gK 114762 4098 [2006,4241]],G1 44 [cS 6 2,cC 12 1 1,gK 14795338 4610 [2006,4241]]]⟩),e1 47 0x22222262222220000222201 [G2 8 [cS 3 1,gK 3592 0 [2003]],G1 14 [cS 3 1,gK 8 0 [2003]]],e0 76 0x26c4c44440222020262620260222206c44c044404c0026c4002201,e0 77 0x2236220202221,e1 46 0x22222764c440222002226cc4c4004001cf000222000202622002260020222022322022000022200222202202220220002600002220002220112 [g2 41 15393162790720 1649267441664,g1 47 1856 1649267441664,g2 58 10048 1649267441664,g1 64 1024 1099511627776,g2 75 885443715538058536768 1649267441664,g1 81 59200 1649267441664],e0 49 0x22222221,e0 24 0x226222222022022202620112,e0 9 0x2220622112,(25,⟨0x2222322622222002226222222202622220342202202020002002200002227222222022200000022600202202220222112,[(75,[gK 1180599563589410376768 167772160 [2011,4542]]),(88,[.closeS (.s 81)])],[g2 18 1879048272 167772160,g1 24 80 167772160,G2 35 [cC 27 2 1,gK 61572651155520 167772160 [4542]],G1 41 [cC 27 2 1,gK 64 167772160 [4542]],G2 52 [cS 11 1,cC 27 2 1,gK 3439272371686464 167772160 [2011,4542]],G1 58 [cS 11 1,cC 27 2 1,gK 61572651157568 167772160 [2011,4542]]]⟩),(27,⟨0x2222221620220000262222000262222200262222226002226002220000022200120222222011,[(39,[.closeS (.s 43)]),(74,[.closeS (.s 7)])],[G2 12 [cS 1 1,cS 6 1,cS 7 1,gK 58720451 0 [2001,2006,2007]],G1 18 [cS 1 1,cS 7 1,gK 130 0 [2001,2007]],G1 40 [cS 1 1,gK 50 0 [2001]],G2 45 [cS 1 1,cS 6 1,cS 7 1,gK 16140901064554578115 0 [2001,2006,2007]],G1 51 [cS 1 1,cS 6 1,cS 7 1,gK 58720451 0 [2001,2006,2007]],G1 61 [cS 1 1,gK 50 0 [2001]]]⟩),(10,⟨0x22222622221620222320260016002260022200000222002216622222002200002222222020220222022200222022022202600112,[(82,[.canon (.s 78) 2001 1]),(97,[.closeS (.s 89)])],[G2 36 [cS 9 1,gK 30786325578496 0 [2009]],G1 42 [cS 9 1,gK 768 0 [2009]],G2 55 [cS 9 1,cS 12 1,gK 16140901064495862528 0 [2009,2012]],G1 61 [cS 12 1,gK 4096 0 [2012]]]⟩),e0 51 0x262222212,e1 52 0x22206c444c0404c002226006200012 [g2 6 38 4,g1 12 0 0,g1 20 16 0,g1 25 16 0],e0 80 0x26262222020622202202026222622012,e1 53 0x22222202001ef000062600006200012 [g2 6 38 4,g1 12 0 0,g2 18 102 4,g1 24 38 4,g1 32 16 0,g1 38 16 0],e0 29 0x26c4426c0026c0022012,e1 11 0x2200222220222222002626000620000022000220112 [g1 8 48 0,g1 16 48 0,g2 22 70 4,g1 28 4 4,g1 36 48 0,g1 47 48 0,g1 51 48 0],e1 31 0x2220626002600620000620201 [g1 8 16 0,g2 14 35 0,g1 20 0 0,g1 28 16 0,g1 33 16 0],e1 54 0x2220602600620001 [g2 6 35 0,g1 12 0 0,g1 20 16 0,g1 25 16 0],e0 81 0x262226222260212,e1 55 0x22222262026003cf4c000002e00062000012 [G2 8 [cS 5 1,gK 102 4 [2005]],G1 14 [cS 5 1,gK 32 0 [2005]]],e0 57 0x22362202026201,e1 56 0x22222602600620001 [g2 6 35 0,g1 12 0 0,g1 20 16 0,g1 25 16 0],e1 59 0x2222226222260202622000012 [G2 8 [cS 3 1,gK 26 2 [2003]],G1 14 [cS 3 1,gK 8 0 [2003]]],e1 30 0x222620222222266000262600062000260062202022022200022202222221600266626002600006200026260001600622006260002022202220112 [G2 8 [cS 8 1,gK 782 8 [2008]],G1 14 [cS 8 1,gK 266 8 [2008]],G1 29 [cS 8 1,gK 782 8 [2008]],G2 34 [cS 8 1,gK 3854 8 [2008]],G1 40 [cS 8 1,gK 782 8 [2008]],G2 64 [cS 8 1,cS 13 1,gK 12554 8 [2008,2013]],G1 70 [cS 13 1,gK 8192 0 [2013]],G2 78 [cS 8 1,cS 13 1,gK 61706 8 [2008,2013]],G1 84 [cS 8 1,cS 13 1,gK 12554 8 [2008,2013]],G1 94 [cS 8 1,cS 13 1,gK 12554 8 [2008,2013]]],e0 12 0x22223202e22212,e1 60 0x2220626002600620000620201 [g1 8 16 0,g2 14 35 0,g1 20 0 0,g1 28 16 0,g1 33 16 0],e1 32 0x2220602600620001 [g2 6 35 0,g1 12 0 0,g1 20 16 0,g1 25 16 0],(14,⟨0x2222222e00026620066000620002222622600262600062000012,[(25,[.closeS (.s 7)]),(41,[.closeS (.s 10)])],[G2 8 [cS 7 1,gK 398 8 [2007]],G1 14 [cS 7 1,gK 138 8 [2007]],g2 27 650 8,g1 33 128 0]⟩),e1 13 0x22202626002600620000620201 [g1 8 16 0,g2 14 35 0,g1 20 0 0,g1 28 16 0,g1 33 16 0],e0 3 0x264426e22222644222222064426022e00026c442644426c0422220222026002220260022202600206c44044026440264402644022012]
namespace trace_events_c1
def Bd:Zy:=[o1 20 (.s 18) [],o2 21 (ix 5) [.s 16,.s 18] [],o2 22 (lD 5) [.s 21] [21],o2 6 (.a (.alloc 5 [.int .i64 0,.int .i64 0,.int .i64 0,.int .i64 0,.bG])) [] [],o1 5 (.s 20) [20],oz (.l (.store 5)) [.s 6,.s 22] [22]]
def yK:Zy:=[o1 23 (.s 0) [],o1 24 (.s 3) [],o1 25 (.s 5) [5],o2 26 (bI .add) [.s 25,.k (.int .i64 1)] [25],o2 27 (.p (.build [.int .i64 0,.int .i64 0] [(0,1),(1,1)])) [.s 24,.s 26] [24,26],o2 28 (lD 5) [.s 6] [6],o2 29 .c [.s 23,.s 27,.s 28] [23,27,28],o2 30 (.p .not) [.s 29] [29]]
def vM:Zy:=[o2 31 (bI .add) [.s 18,.k (.int .i64 1)] [],o1 18 (.s 31) [31]]
def EV:RC:=.hg (.seq (.ops [o2 19 (bI .lss) [.s 18,.s 17] []]) (.seq (.cond (.s 19) .skip (.exit 2)) (.seq (.block 3 (.seq (.ops Bd) (.seq (.ops yK) (.cond (.s 30) .ret .skip)))) (.ops vM)))) (.keep [0,3,8,9,10,16,17,18] [])
def Ja:Zy:=[o1 12 (.s 10) [],o2 13 (ix 3) [.s 8,.s 10] [],o2 14 (lD 3) [.s 13] [13],o2 4 (.a (.alloc 3 [.str ByteArray.empty,.bG,.bG])) [] [],o1 3 (.s 12) [12],oz (.l (.store 3)) [.s 4,.s 14] [14]]
def HM:Zy:=[o2 15 (fa 2) [.s 4] [],o2 16 (ld 1) [.s 15] [15],o2 17 ln [.s 16] [],o1 18 (.k (.int .i64 0)) []]
def Ey:Zy:=[o2 32 (bI .add) [.s 10,.k (.int .i64 1)] [],o1 10 (.s 32) [32]]
def U2:RC:=.block 2 (.gh (.keep [0,3,8,9,10,16,17,18] []) (.loop EV))
def Mz:RC:=.hg (.seq (.ops [o2 11 (bI .lss) [.s 10,.s 9] []]) (.seq (.cond (.s 11) .skip (.exit 0)) (.seq (.block 1 (.seq (.ops Ja) (.seq (.ops HM) U2))) (.ops Ey)))) (.keep [0,8,9,10] [])
def Qa:Zy:=[o2 7 (fa 0) [.s 1] [1],o2 8 (ld 1) [.s 7] [7],o2 9 ln [.s 8] [],o1 10 (.k (.int .i64 0)) []]
def U1:RC:=.block 0 (.gh (.keep [0,8,9,10] []) (.loop Mz))
def text:RF:=⟨33,[],.seq (.ops Qa) U1⟩
section
variable{S:Sys}
abbrev I1(ps:Sl cg)(i:Int)(B:aY (aY V))(more:Bool)(y:Nat):St:=⟨[(0,.yl y),Cv 8 ps,Iv 9 (len ps),Iv 10 i],[],[],B,more,y⟩
abbrev I2(ps:Sl cg)(i:Int)(es:Sl Event)(j:Int)(B:aY (aY V))(more:Bool)(y:Nat):St:=⟨[(0,.yl y),Iv 3 i,Cv 8 ps,Iv 9 (len ps),Iv 10 i,Cv 16 es,Iv 17 (len es),Iv 18 j],[],[],B,more,y⟩
abbrev S2(ps:Sl cg)(i:Int)(es:Sl Event)(j:Int)(b:Bool)(B:aY (aY V))(more:Bool)(y:Nat):St:=⟨[(0,.yl y),Iv 3 i,Cv 8 ps,Iv 9 (len ps),Iv 10 i,Cv 16 es,Iv 17 (len es),Iv 18 j,Bv 19 b],[],[],B,more,y⟩
theorem TI(ps:Sl cg)(i:Int)(es:Sl Zn)(j:Int)(B:Zt)(more:Zl)(y:Nat)(G:decide (j<len es)=false):
 rn S.bare nr some (.rc EV) [] (I2 ps i es j B more y)=some (.exit 2,S2 ps i es j false B more y):=by
 refine Le.get ?_;refine Kf (n:=7) (fo':=.rc (.cond (.s 19) .skip (.exit 2))) (fs':=[.seq (.seq (.block 3 (.seq (.ops Bd) (.seq (.ops yK) (.cond (.s 30) .ret .skip)))) (.ops vM)),.gst (.keep [0,3,8,9,10,16,17,18] [])]) (λb=>S2 ps i es j b B more y) G Zf ?_
 exact Le.of_eq Zf
theorem VA(ps:Sl cg)(i:Int)(es:Sl Zn)(j:Int)(e:Zn)(B:Zt)(more:Zl)(y:Nat)(G:decide (j<len es)=true)(J:idx es j=some e)(O:(!(more|| !B.isEmpty))=false):
 rn S.bare nr some (.rc EV) [] (I2 ps i es j ([enc (⟨i,wrap .i64 (j+1)⟩:a_),enc e]::B) more y)=some (.norm,I2 ps i es (wrap .i64 (j+1)) B more y):=by
 refine Le.get ?_;refine Kt (n:=7) (fo':=.rc (.cond (.s 19) .skip (.exit 2))) (fs':=[.seq (.seq (.block 3 (.seq (.ops Bd) (.seq (.ops yK) (.cond (.s 30) .ret .skip)))) (.ops vM)),.gst (.keep [0,3,8,9,10,16,17,18] [])]) (λb=>S2 ps i es j b ([enc (⟨i,wrap .i64 (j+1)⟩:a_),enc e]::B) more y) G Zf ?_
 refine OQ J ?_;refine Pw 8 false [] (Bd.drop 1) [.seq (.seq (.ops yK) (.cond (.s 30) .ret .skip)),.blk 3,.seq (.ops vM),.gst (.keep [0,3,8,9,10,16,17,18] [])] ⟨[(0,.yl y),Iv 3 i,Cv 8 ps,Iv 9 (len ps),Iv 10 i,Cv 16 es,Iv 17 (len es),Iv 18 j,Bv 19 true,Iv 20 j],[],[],([enc (⟨i,wrap .i64 (j+1)⟩:a_),enc e]::B),more,y⟩ .i64 rfl Zf λx a=>?_
 obtain rfl:x=e:=Zd
 refine T4 1 false [] (Bd.drop 3) [.seq (.seq (.ops yK) (.cond (.s 30) .ret .skip)),.blk 3,.seq (.ops vM),.gst (.keep [0,3,8,9,10,16,17,18] [])] ⟨[(0,.yl y),Iv 3 i,Cv 8 ps,Iv 9 (len ps),Iv 10 i,Cv 16 es,Iv 17 (len es),Iv 18 j,Bv 19 true,Iv 20 j,Cv 22 x],[],[],([enc (⟨i,wrap .i64 (j+1)⟩:a_),enc x]::B),more,y⟩ [iv 0,iv 0,iv 0,iv 0,.v .bG] rfl (by simp only[bz,xk,qd,rS,qj,ru,s7,rD,sU,pY,rH,xz,s8,tF,ta,tq,vh,u_,rq,sX,SV.cM];rfl) Zf ?_
 refine Ast 1 false [] (Bd.drop 5) [.seq (.seq (.ops yK) (.cond (.s 30) .ret .skip)),.blk 3,.seq (.ops vM),.gst (.keep [0,3,8,9,10,16,17,18] [])] ⟨[(0,.yl y),Iv 3 i,Cv 8 ps,Iv 9 (len ps),Iv 10 i,Cv 16 es,Iv 17 (len es),Iv 18 j,Bv 19 true,Cv 22 x,Pv 6,Iv 5 j],[Xb 6 (⟨0,0,0,0,.nil⟩:Zn)],[],([enc (⟨i,wrap .i64 (j+1)⟩:a_),enc x]::B),more,y⟩ 6 0 x [iv 0,iv 0,iv 0,iv 0,.v .bG] ((cells x).map .v) rfl Zf ?_
 refine Wh (n:=10) (q:=yK.drop 6) (fs':=[.seq (.cond (.s 30) .ret .skip),.blk 3,.seq (.ops vM),.gst (.keep [0,3,8,9,10,16,17,18] [])]) (st:=⟨[(0,.yl y),Iv 3 i,Cv 8 ps,Iv 9 (len ps),Iv 10 i,Cv 16 es,Iv 17 (len es),Iv 18 j,Bv 19 true,(23,.yl y),Cv 27 (⟨i,wrap .i64 (j+1)⟩:a_),Cv 28 x],[Xb 6 x],[],([enc (⟨i,wrap .i64 (j+1)⟩:a_),enc x]::B),more,y⟩) (vs:=[cv (⟨i,wrap .i64 (j+1)⟩:a_),cv x]) Zf rfl Zf Zf rfl rfl ?_
 refine Kf (n:=3) (fo':=.rc (.cond (.s 30) .ret .skip)) (fs':=[.blk 3,.seq (.ops vM),.gst (.keep [0,3,8,9,10,16,17,18] [])]) (λb=>⟨[(0,.yl y),Iv 3 i,Cv 8 ps,Iv 9 (len ps),Iv 10 i,Cv 16 es,Iv 17 (len es),Iv 18 j,Bv 19 true,Bv 30 b],[Xb 6 x],[],B,more,y⟩) O Zf ?_
 exact Le.of_eq Zf
theorem Rm(ps:Sl cg)(i:Int)(es:Sl Zn)(j:Int)(e:Zn)(B:Zt)(more:Zl)(y:Nat)(G:decide (j<len es)=true)(J:idx es j=some e)(O:(!(more|| !B.isEmpty))=true):
 rn S.bare nr some (.rc EV) [] (I2 ps i es j ([enc (⟨i,wrap .i64 (j+1)⟩:a_),enc e]::B) more y)=some (.ret,⟨[(0,.yl y),Iv 3 i,Cv 8 ps,Iv 9 (len ps),Iv 10 i,Cv 16 es,Iv 17 (len es),Iv 18 j,Bv 19 true,Bv 30 true],[Xb 6 e],[],B,more,y⟩):=by
 refine Le.get ?_;refine Kt (n:=7) (fo':=.rc (.cond (.s 19) .skip (.exit 2))) (fs':=[.seq (.seq (.block 3 (.seq (.ops Bd) (.seq (.ops yK) (.cond (.s 30) .ret .skip)))) (.ops vM)),.gst (.keep [0,3,8,9,10,16,17,18] [])]) (λb=>S2 ps i es j b ([enc (⟨i,wrap .i64 (j+1)⟩:a_),enc e]::B) more y) G Zf ?_
 refine OQ J ?_;refine Pw 8 false [] (Bd.drop 1) [.seq (.seq (.ops yK) (.cond (.s 30) .ret .skip)),.blk 3,.seq (.ops vM),.gst (.keep [0,3,8,9,10,16,17,18] [])] ⟨[(0,.yl y),Iv 3 i,Cv 8 ps,Iv 9 (len ps),Iv 10 i,Cv 16 es,Iv 17 (len es),Iv 18 j,Bv 19 true,Iv 20 j],[],[],([enc (⟨i,wrap .i64 (j+1)⟩:a_),enc e]::B),more,y⟩ .i64 rfl Zf λx a=>?_
 obtain rfl:x=e:=Zd
 refine T4 1 false [] (Bd.drop 3) [.seq (.seq (.ops yK) (.cond (.s 30) .ret .skip)),.blk 3,.seq (.ops vM),.gst (.keep [0,3,8,9,10,16,17,18] [])] ⟨[(0,.yl y),Iv 3 i,Cv 8 ps,Iv 9 (len ps),Iv 10 i,Cv 16 es,Iv 17 (len es),Iv 18 j,Bv 19 true,Iv 20 j,Cv 22 x],[],[],([enc (⟨i,wrap .i64 (j+1)⟩:a_),enc x]::B),more,y⟩ [iv 0,iv 0,iv 0,iv 0,.v .bG] rfl (by simp only[bz,xk,qd,rS,qj,ru,s7,rD,sU,pY,rH,xz,s8,tF,ta,tq,vh,u_,rq,sX,SV.cM];rfl) Zf ?_
 refine Ast 1 false [] (Bd.drop 5) [.seq (.seq (.ops yK) (.cond (.s 30) .ret .skip)),.blk 3,.seq (.ops vM),.gst (.keep [0,3,8,9,10,16,17,18] [])] ⟨[(0,.yl y),Iv 3 i,Cv 8 ps,Iv 9 (len ps),Iv 10 i,Cv 16 es,Iv 17 (len es),Iv 18 j,Bv 19 true,Cv 22 x,Pv 6,Iv 5 j],[Xb 6 (⟨0,0,0,0,.nil⟩:Zn)],[],([enc (⟨i,wrap .i64 (j+1)⟩:a_),enc x]::B),more,y⟩ 6 0 x [iv 0,iv 0,iv 0,iv 0,.v .bG] ((cells x).map .v) rfl Zf ?_
 refine Wh (n:=10) (q:=yK.drop 6) (fs':=[.seq (.cond (.s 30) .ret .skip),.blk 3,.seq (.ops vM),.gst (.keep [0,3,8,9,10,16,17,18] [])]) (st:=⟨[(0,.yl y),Iv 3 i,Cv 8 ps,Iv 9 (len ps),Iv 10 i,Cv 16 es,Iv 17 (len es),Iv 18 j,Bv 19 true,(23,.yl y),Cv 27 (⟨i,wrap .i64 (j+1)⟩:a_),Cv 28 x],[Xb 6 x],[],([enc (⟨i,wrap .i64 (j+1)⟩:a_),enc x]::B),more,y⟩) (vs:=[cv (⟨i,wrap .i64 (j+1)⟩:a_),cv x]) Zf rfl Zf Zf rfl rfl ?_
 refine Kt (n:=3) (fo':=.rc (.cond (.s 30) .ret .skip)) (fs':=[.blk 3,.seq (.ops vM),.gst (.keep [0,3,8,9,10,16,17,18] [])]) (λb=>⟨[(0,.yl y),Iv 3 i,Cv 8 ps,Iv 9 (len ps),Iv 10 i,Cv 16 es,Iv 17 (len es),Iv 18 j,Bv 19 true,Bv 30 b],[Xb 6 x],[],B,more,y⟩) O Zf ?_
 exact Le.of_eq Zf
abbrev S1(ps:Sl cg)(i:Int)(b:Bool)(B:aY (aY V))(more:Bool)(y:Nat):St:=⟨[(0,.yl y),Cv 8 ps,Iv 9 (len ps),Iv 10 i,Bv 11 b],[],[],B,more,y⟩
theorem UC(ps:Sl cg)(i:Int)(B:Zt)(more:Zl)(y:Nat)(G:decide (i<len ps)=false):
 rn S.bare nr some (.rc Mz) [] (I1 ps i B more y)=some (.exit 0,S1 ps i false B more y):=by
 refine Le.get ?_;refine Kf (n:=7) (fo':=.rc (.cond (.s 11) .skip (.exit 0))) (fs':=[.seq (.seq (.block 1 (.seq (.ops Ja) (.seq (.ops HM) U2))) (.ops Ey)),.gst (.keep [0,8,9,10] [])]) (λb=>S1 ps i b B more y) G Zf ?_
 exact Le.of_eq Zf
def QD:Z3:=[.blk 2,.blk 1,.seq (.ops Ey),.gst (.keep [0,8,9,10] [])]
theorem P4(ps:Sl cg)(i:Int)(p:cg)(B:Zt)(more:Zl)(y:Nat)(r:Out×St)(G:decide (i<len ps)=true)(J:idx ps i=some p)
 (h:rn S.bare nr some (.rc (.loop EV)) QD (I2 ps i p.events 0 B more y)=some r):rn S.bare nr some (.rc Mz) [] (I1 ps i B more y)=some r:=by
 refine Le.get ?_;refine Kt (n:=7) (fo':=.rc (.cond (.s 11) .skip (.exit 0))) (fs':=[.seq (.seq (.block 1 (.seq (.ops Ja) (.seq (.ops HM) U2))) (.ops Ey)),.gst (.keep [0,8,9,10] [])]) (λb=>S1 ps i b B more y) G Zf ?_
 refine OQ J ?_;refine Pw 8 false [] (Ja.drop 1) [.seq (.seq (.ops HM) U2),.blk 1,.seq (.ops Ey),.gst (.keep [0,8,9,10] [])] ⟨[(0,.yl y),Cv 8 ps,Iv 9 (len ps),Iv 10 i,Bv 11 true,Iv 12 i],[],[],B,more,y⟩ .i64 rfl Zf λx a=>?_
 obtain rfl:x=p:=Zd
 refine T4 1 false [] (Ja.drop 3) [.seq (.seq (.ops HM) U2),.blk 1,.seq (.ops Ey),.gst (.keep [0,8,9,10] [])] ⟨[(0,.yl y),Cv 8 ps,Iv 9 (len ps),Iv 10 i,Bv 11 true,Iv 12 i,Cv 14 x],[],[],B,more,y⟩ [.v (.str ByteArray.empty),.v .bG,.v .bG] rfl (by simp only[bz,xk,qd,rS,qj,ru,s7,rD,sU,pY,rH,xz,s8,tF,ta,tq,vh,u_,rq,sX,SV.cM];rfl) Zf ?_
 refine Ast 1 false [] (Ja.drop 5) [.seq (.seq (.ops HM) U2),.blk 1,.seq (.ops Ey),.gst (.keep [0,8,9,10] [])] ⟨[(0,.yl y),Cv 8 ps,Iv 9 (len ps),Iv 10 i,Bv 11 true,Cv 14 x,Pv 4,Iv 3 i],[Xb 4 (⟨ByteArray.empty,.nil,.nil⟩:cg)],[],B,more,y⟩ 4 0 x [.v (.str ByteArray.empty),.v .bG,.v .bG] ((cells x).map .v) rfl Zf ?_
 refine UP 6 false [] (HM.drop 2) [.seq U2,.blk 1,.seq (.ops Ey),.gst (.keep [0,8,9,10] [])] ⟨[(0,.yl y),Cv 8 ps,Iv 9 (len ps),Iv 10 i,Bv 11 true,Pv 4,Iv 3 i,Cv 16 x.events],[Xb 4 x],[],B,more,y⟩ x.events rfl Zf ?_
 refine Dr (n:=5) (fo':=.rc (.loop EV)) (fs':=QD) (st':=I2 ps i x.events 0 B more y) Zf (Le.of_eq h)
theorem Rg(ps:Sl cg)(i:Int)(es:Sl Zn)(j:Int)(B:Zt)(more:Zl)(y:Nat):
 rn S.bare nr some (.ex 2) QD (S2 ps i es j false B more y)=some (.norm,I1 ps (wrap .i64 (i+1)) B more y):=by kernel_rfl
theorem wrap_small(n:Nat)(h:n<9223372036854775807):wrap .i64 ((n:Int)+1)=((n+1:Nat):Int):=by simp[wrap,IntKind.bits,signed];omega
abbrev eI(x:a_×Event):aY V:=[enc x.1,enc x.2]
theorem Dc.step{x:Zu}{G rest:Zt}{more:Zl}(h:Dc G (x::rest) more):∃B,G=x::B/\((!(more|| !B.isEmpty))=false/\Dc B rest more\/(!(more|| !B.isEmpty))=true/\B=[]):=by rcases h with⟨rfl,rfl⟩|⟨rfl,u,r,a⟩;exact⟨rest,rfl,.inl ⟨rfl,.inl ⟨rfl,rfl⟩⟩⟩;cases G with|nil=>grind|cons w G=>simp only[List.cons_append,List.cons.injEq]at a;obtain⟨rfl,rfl⟩:=a;refine⟨G,rfl,?_⟩;cases G with|nil=>grind|cons z C=>exact .inl ⟨rfl,.inr ⟨rfl,Zc,r,rfl⟩⟩
theorem Gg{α:Type}{s:Sl α}{j:Nat}{x:α}{r:aY α}(h:s.l.drop j=x::r):idx s (j:Int)=some x/\decide ((j:Int)<len s)=true/\s.l.drop (j+1)=r:=by
 have a:j<s.l.length:=by apply Classical.byContradiction;intro w;rw[List.drop_eq_nil_of_le Za]at h;cases h
 have u:=List.drop_eq_getElem_cons a;rw[u]at h;simp only[List.cons.injEq]at h;refine⟨?_,Zd,h.2⟩;unfold idx;simp_all
variable{Q:Out×St->aZ (Out×St)}{fs:Z3}
theorem inner(ps:Sl cg)(i:Int)(es:Sl Zn)(U:es.l.length<9223372036854775807)(more:Zl)(y:Nat)(R:Zt):∀(a:aY Zn)(j:Nat),es.l.drop j=a->∀G,Dc G ((iz i j a).map eI++R) more->
 (∃(B:Zt)(W:Int),Dc B R more/\rn S.bare nr Q (.rc (.loop EV)) fs (I2 ps i es j G more y)=rn S.bare nr Q (.ex 2) fs (S2 ps i es W false B more y))\/
 (∃st':St,st'.want=[]/\rn S.bare nr Q (.rc (.loop EV)) fs (I2 ps i es j G more y)=Q (.ret,st'))
 |[],j,O,G,J=>by have b:decide ((j:Int)<len es)=false:=(by simp_all);exact .inl ⟨G,j,by simpa[iz]using J,EH (TI ps i es j G more y b)⟩|e::a,j,O,G,J=>by have⟨b,z,C⟩:=Gg O;have T:j<es.l.length:=Zd;simp only[iz,map_cons,List.cons_append]at J;obtain⟨B,rfl,u⟩:=Dc.step J;have D:=wrap_small j Za;have w:((j:Int)+1)=wrap .i64 ((j:Int)+1):=Zd;rcases u with⟨u,I⟩|⟨u,rfl⟩;have k:=VA (S:=S) ps i es j e B more y z b u;rw[<-w]at k;have k2:=D5 (Q:=Q) (fs:=fs) k;have L:=inner ps i es U more y R a (j+1) C B Zd;rw[show((j+1:Nat):Int)=(j:Int)+1 from rfl]at L;grind;have k:=Rm (S:=S) ps i es j e [] more y z b u;rw[<-w]at k;exact .inr ⟨_,by rfl,EB k⟩
theorem outer(ps:Sl cg)(U:ps.l.length<9223372036854775807)(G:∀p∈ps.l,p.events.l.length<9223372036854775807)(more:Zl)(y:Nat):∀(a:aY cg)(i:Nat),ps.l.drop i=a->∀B,Dc B ((fF i a).map eI) more->
 rn S.bare nr Qi (.rc (.loop Mz)) [.blk 0] (I1 ps i B more y)=some ()
 |[],i,O,B,J=>by
  have b:decide ((i:Int)<len ps)=false:=by simp_all
  rw[EH (UC ps i B more y b)];have:B=[]:=by
   rcases J with⟨_,rfl⟩|⟨_,I,r,c⟩;rfl;have:B=[]:=by cases B with
    |nil=>rfl|cons=>simp[fF]at c
   grind
  subst this;rfl
 |p::a,i,O,B,J=>by have⟨b,z,C⟩:=Gg O;have L:i<ps.l.length:=Zd;have D:p∈ps.l:=List.mem_of_mem_drop (i:=i) Zd;simp only[fF,map_append]at J;have u:=wrap_small i Za;rcases inner (S:=S) (Q:=some) (fs:=QD) ps i p.events (G p D) more y _ p.events.l 0 rfl B J with⟨w,T,g1,g2⟩|⟨st',g1,g2⟩;rw[Rg,u]at g2;rw[D5 (P4 ps i p B more y _ z b g2)];exact outer ps U G more y a (i+1) C w g1;rw[EB (P4 ps i p B more y _ z b g2)];simp[Qi,g1]
theorem all(t:Zj)(B:aY (a_×Zn))(h:iU t=some B)(G:Zt)(more:Zl)(J:Dc G (B.map eI) more)(y:Nat):
 rn S.bare nr Qi (.rc text.body) [] ⟨wT 0 (([]:Zu).map .v++.yl y::[V.fptr (cells t)].map .v),[],[],G,more,y⟩=some ():=by
 unfold iU at h;split at h
 .rename_i hk;cases h;simp only[ζh,List.all_eq_true,Ft,decide_eq_true_eq]at hk;refine Le.get ?_;refine UP 4 false [] (Qa.drop 2) [.seq U1] ⟨[(0,.yl y),Cv 8 t.procs],[],[],G,more,y⟩ t.procs rfl Zf ?_
  refine Dr (n:=5) (fo':=.rc (.loop Mz)) (fs':=[.blk 0]) (st':=I1 t.procs 0 G more y) Zf (Le.of_eq ?_)
  exact outer t.procs hk.1 hk.2 more y t.procs.l 0 rfl G J
 simp_all
end
theorem I8{α:Type}[br α]{a b:Sl α}(h:ck a=ck b):rows a.l=rows b.l:=by cases a<;>cases b<;>first|rfl|(simp only[ck,Sl.k,ov,V.fsl.injEq,true_and,reduceCtorEq]at h;done)|(simp only[ck,Sl.k,ov,V.fsl.injEq,true_and,reduceCtorEq]at h;omega)
theorem G5(p:Int):∀(es B:aY Zn)(j:Int),rows es=rows B->(iz p j es).map eI=(iz p j B).map eI
 |[],[],_,_=>rfl|[],_::_,_,h=>by simp[rows]at h|_::_,[],_,h=>by simp[rows]at h|e::es,G::B,j,h=>by simp only[rows,map_cons,List.cons.injEq]at h;have a:enc e=enc G:=(by show V.agg (cells e)=V.agg (cells G);rw[h.1]);simp only[iz,map_cons,eI,a,G5 p es B (j+1) h.2]
theorem Cl:∀(ps B:aY cg)(i:Int),rows ps=rows B->(fF i ps).map eI=(fF i B).map eI
 |[],[],_,_=>rfl|[],_::_,_,h=>by simp[rows]at h|_::_,[],_,h=>by simp[rows]at h|p::ps,p'::B,i,h=>by simp only[rows,map_cons,List.cons.injEq]at h;have a:ck p.events=ck p'.events:=(by have:=h.1;change[V.str p.name,ck p.vars,ck p.events]=[V.str p'.name,ck p'.vars,ck p'.events]at this;grind);simp only[fF,map_append,G5 i _ _ 0 (I8 a),Cl ps B (i+1) h.2]
def Fz(f:Zk)(g:Zk)(a b:Zu)(xs:Zt):Prop:=∃(t:Zj)(u:aY (a_×Zn)),g=f/\a=[]/\b=[.fptr (cells t)]/\iU t=some u/\xs=u.map eI
theorem Fz.uniq{f g:Zk}{a b:Zu}{xs ys:Zt}(h:Fz f g a b xs)(k:Fz f g a b ys):xs=ys:=by
 obtain⟨t,C,rfl,rfl,rfl,c,rfl⟩:=h;obtain⟨w,z,_,_,B,u,rfl⟩:=k;simp only[List.cons.injEq,V.fptr.injEq,and_true]at B;have D:ck t.procs=ck w.procs:=by change[ck t.procs]=[ck w.procs]at B;grind
 unfold iU at c u;split at c<;>split at u<;>simp only[ζa,reduceCtorEq]at c u;subst c u;exact Cl _ _ 0 (I8 D)
end trace_events_c1
end Go.VE
namespace Go.VE
open Go.Proofs.YtllofdfkekipeaaGreatDoor
noncomputable section
def Kj(f:Zk):aZ E6:=bif beq f 148 then some (sH E)else bif beq f 145 then some (sM E)else none
def Sy:Sys:=⟨E,λn=>n,xB (trace_events_c1.Fz 135),Ac E,Kj⟩
theorem SB:Sy.prm 148=some (sH Sy.E):=by kernel_rfl
theorem R3:Sy.prm 145=some (sM Sy.E):=by kernel_rfl
theorem UH:∀f q,Kj f=some q->nW E f q:=by intro f q h;unfold Kj at h;cases a:beq f 148 with|true=>rw[a]at h;cases h;have:=Nat.eq_of_beq_eq_true a;subst this;exact OT AJ Zf Zf (BP Zf)|false=>rw[a]at h;cases a:beq f 145 with|true=>rw[a]at h;cases h;have:=Nat.eq_of_beq_eq_true a;subst this;exact Oy Zf Zf Zf Zf|false=>rw[a]at h;cases h
def Tx:pR:=N0 E some (lk JY)
abbrev cL:bZ:=cW Sy Tx
theorem Tw:∃fi,E.ft 135=some fi/\xK E some fi trace_events_c1.text:=UI Zf
theorem FF:qK Sy Tx where
 fn f rf h:=let⟨u,a,w⟩:=Oo h;⟨u,some,a,AJ,w⟩
 yG f z y h:=MO h
 prm:=UH
theorem Ax:∀f a b xs,Sy.items f a b=some xs->fE Sy f a b xs:=by intro f a b xs h;obtain⟨t,u,rfl,rfl,rfl,c,rfl⟩:=KG h;have⟨D,w,z⟩:=Tw;exact PR Sy w AJ z (Nat.le_of_ble_eq_true rfl) rfl λB more C y=>trace_events_c1.all t u c B more C y
theorem yA(t:Zj)(B:aY (a_×Zn))(h:iU t=some B):Sy.items 135 [] [.fptr (cells t)]=some (B.map λx:a_×Zn=>[enc x.1,enc x.2]):=Lr ⟨t,B,rfl,rfl,rfl,h,rfl⟩ λw u=>u.uniq ⟨t,B,rfl,rfl,rfl,h,rfl⟩
theorem ME:Sy.yG 4 []=some (.bool true):=vU (ID rfl ⟨1,[],by kernel_rfl⟩)
end
end Go.VE
namespace Go.VE
noncomputable section
def ud(G:Zj)(B:a_):aZ Zn:=(idx G.procs B.proc).bind λu=>(idx u.events (wrap .i64 (B.index-1))).bind λw=>some w
instance UY(B:Zj)(G:a_):Fc Sy cL (ud B G):=Fc.N 66 [enc B,enc G] (dm 2 2 B (bR 10 λw _=>bR 5 λu _=>ow 1 4 0 u bg))
namespace dG
def bS(B J p7:Int)(G:Zj)(O:a_)(a:Int):aZ (Fw Int Unit a_):=(idx G.procs p7).bind λw=>bp (decide (a<(len w.events))) ((idx G.procs p7).bind λz=>(idx z.events a).bind λu=>(bp (u.kind==B) (some (u.message==J)) (some false):aZ Zl).bind λC=>bp C (some (.r (⟨p7,wrap .i64 (a+1)⟩:a_))) (some (.n (wrap .i64 (a+1))))) (some (.x ()))
def W2(B O p7 a:Int)(G:Zj)(J:a_):aZ (Fw Int Unit a_):=(bM (λq:Int=>bS B O p7 G J q) a).bind (Fw.elim (λe=>some (.n (wrap .i64 (p7+1)))) (λe=>some (.r e)))
def bn(B O:Int)(G:Zj)(J:a_)(p7:Int):aZ (Fw Int Unit a_):=bp (decide (p7<(len G.procs))) (W2 B O p7 0 G J) (some (.x ()))
def W1(B O p7:Int)(G:Zj)(J:a_):aZ a_:=(bM (λq:Int=>bn B O G J q) p7).bind (Fw.elim (λe=>some ⟨0,0⟩) (λe=>some e))
end dG
def dG(G:Zj)(B J:Int):aZ a_:=dG.W1 B J 0 G (⟨0,0⟩:a_)
open dG in
instance S_(G:Zj)(B J:Int):Fc Sy cL (dG G B J):=Fc.M 67 [enc G,.int .i64 B,.int .i64 J] (dm 2 3 G (dx 11 (λu=>(bz [Iv 1 B,Iv 2 J,Pv 3,Pv 6,Iv 7 u] [Xb 3 G,Xb 6 (⟨0,0⟩:a_)])) (λw=>(0,(bz [Pv 6] [Xb 6 (⟨0,0⟩:a_)]))) (λw=>(bz [Pv 6] [Xb 6 w])) (λu=>bN 7 G.procs (bu 3 14 (dx 12 (λC=>(bz [Iv 1 B,Iv 2 J,Pv 3,Pv 6,Iv 7 u,Iv 8 C] [Xb 3 G,Xb 6 (⟨0,0⟩:a_)])) (λz=>(2,(bz [Iv 1 B,Iv 2 J,Pv 3,Pv 6,Iv 7 u] [Xb 3 G,Xb 6 (⟨0,0⟩:a_)]))) (λz=>(bz [Pv 6] [Xb 6 z])) (λC=>bR 8 λD _=>bN 2 D.events (bu 3 25 (bR 10 λL _=>bR 3 λI _=>ow 2 9 0 I (cm 9 5 [9,41] 46 (bu 9 41 (bC 5) (bC 5)) λO=>bu 2 46 bg bg)) bg)) (λz=>bg) (λz=>bg)) bg)) (λw=>bg) (λw=>bg)))
namespace dL
def J1(B:Sl a_)(G:Zj)(J:a_):aZ (Sl a_):=(ud G J).bind λu=>bp (u.kind==3) ((dG G 2 u.message).bind λw=>(fP B (w:a_)).bind λz=>some z) (some B)
end dL
def dL(G:Zj)(B:a_):aZ (Sl a_):=bp (decide (B.index>1)) (dL.J1 (Sl.row [⟨B.proc,wrap .i64 (B.index-1)⟩]:Sl a_) G B) (dL.J1 (Sl.nil:Sl a_) G B)
open dL in
theorem yL(G:Zj)(B:a_):Le ((dL G B).bind λr=>some (cB r)) (b7 Sy cL (yX (tr Tx 68)) (.rc (tb Tx 68),[],start ([enc G,enc B].map .v) [])):=dm 2 2 G (bu 17 9 (P8 10 17 18 .bG (⟨B.proc,wrap .i64 (B.index-1)⟩:a_) (wW 5 (bA 4 λu _=>ow 1 6 0 u (bu 10 24 (bA 6 λw _=>lG 1 2005 30 31 λz _=>bg) bg)))) (wW 5 (bA 4 λu _=>ow 1 6 0 u (bu 10 24 (bA 6 λw _=>lG 1 2005 30 31 λz _=>bg) bg))))
def nT(a:a_->aZ (Sl a_)):aY (aY Zl)×aY a_->aZ (Fw (aY (aY Zl)×aY a_) (aY (aY Zl)) Empty)
 |(out,[])=>some (.x out)|(out,y::rest)=>if 0<=y.proc/\0<=y.index then(out[y.proc.toNat]?).bind λrow=>(row[y.index.toNat]?).bind λb=>bp b (some (.n (out,rest))) ((a y).bind λmore=>if rest.length+more.l.length<=2147483648 then some (.n (out.set y.proc.toNat (row.set y.index.toNat true),rest++more.l))else none)else none
def gy(t:Zj):aY (aY Zl):=t.procs.l.map λP=>replicate (P.events.l.length+1) false
def zL(t:Zj):Zl:=decide (t.procs.l.length<=2147483648)&&t.procs.l.all λP=>decide (P.events.l.length+1<=2147483648)
def nested(out:aY (aY Zl)):Sl (Sl Zl):=if out=[]then .nil else .row (out.map .row)
def mU(t:Zj)(x:a_):aZ (Sl (Sl Zl)):=if zL t then(dL t x).bind λs=>(bM (nT (dL t)) (gy t,s.l)).bind (Fw.elim (λout=>some (nested out)) (λe=>elim e))else none
end
namespace pastX
abbrev vT:Nat->FuncId:=λn=>n
def r1:Zy:=[o2 2 (.a .box) [0] [],o2 3 (.a .box) [1] [],o1 4 (.k (.bG)) []]
def r2:Zy:=[o1 5 (.k (.bG)) []]
def r3:Zy:=[o1 6 (.k (.int .i64 0)) []]
def r4:Zy:=[o1 11 6 [],o2 12 (fa 0) [2] [],o2 13 (ld 1) [12] [],o2 14 ln [13] [],o2 15 (bI .lss) [11,14] []]
def r5:Zy:=[o1 18 5 [],o2 19 (fa 0) [2] [],o2 20 (ld 1) [19] [],o1 21 6 [],o2 22 (ix 3) [20,21] [],o2 23 (fa 2) [22] [],o2 24 (ld 1) [23] [],o2 25 ln [24] [],o2 26 (bI .add) [25,.k (.int .i64 1)] [],o2 27 (.a (.makeSl 1 [.bool false])) [26,26] [],o2 28 (.a (.buildSl 1 1 [.bG] [0])) [27] [],o2 29 (.l (.append 1)) [18,28] [],o1 5 29 []]
def r6:Zy:=[o1 16 6 [],o2 17 (bI .add) [16,.k (.int .i64 1)] [],o1 6 17 []]
def L1:RC:=.seq (.seq (.ops r4) (.cond (.s 15) (.skip) (.exit 0))) (.seq (.block 1 (.ops r5)) (.ops r6))
def r7:Zy:=[o2 30 (lD 1) [2] [],o2 31 (lD 2) [3] [],o2 32 .c [.f 68,30,31] [],o1 7 32 []]
def r8:Zy:=[o1 33 7 [],o2 34 ln [33] [],o2 35 (bI .gtr) [34,.k (.int .i64 0)] []]
def r9:Zy:=[o1 36 7 [],o2 37 (ix 2) [36,.k (.int .i64 0)] [],o2 38 (lD 2) [37] [],o2 8 (.a (.alloc 2 [.int .i64 0,.int .i64 0])) [] [],oz (su 2) [8,38] []]
def zx:Zy:=[o1 39 7 [],o2 40 (.p (.slice 2 true false)) [39,.k (.int .i64 1)] [],o1 7 40 []]
def Ae:Zy:=[o1 41 5 [],o2 42 (fa 0) [8] [],o2 43 (ld 1) [42] [],o2 44 (ix 1) [41,43] [],o2 45 (ld 1) [44] [],o2 46 (fa 1) [8] [],o2 47 (ld 1) [46] [],on 48 (ix 1) [45,47] [],on 49 (ld 1) [48] []]
def yV:Zy:=[o1 50 5 [],o2 51 (fa 0) [8] [],o2 52 (ld 1) [51] [],o2 53 (ix 1) [50,52] [],o2 54 (ld 1) [53] [],o2 55 (fa 1) [8] [],o2 56 (ld 1) [55] [],on 57 (ix 1) [54,56] [],oy (su 1) [57,.k (.bool true)] []]
def zQ:Zy:=[o2 58 (lD 1) [2] [],o2 59 (lD 2) [8] [],o2 60 .c [.f 68,58,59] [],o1 9 60 []]
def zb:Zy:=[o1 10 (.k (.int .i64 0)) []]
def zy:Zy:=[o1 61 10 [],o1 62 9 [],o2 63 ln [62] [],o2 64 (bI .lss) [61,63] []]
def r16:Zy:=[o1 67 7 [],o1 68 9 [],o1 69 10 [],o2 70 (ix 2) [68,69] [],o2 71 (lD 2) [70] [],o2 72 (.a (.buildSl 2 1 [.int .i64 0,.int .i64 0] [0])) [71] [],o2 73 (.l (.append 2)) [67,72] [],o1 7 73 []]
def Hg:Zy:=[o1 65 10 [],o2 66 (bI .add) [65,.k (.int .i64 1)] [],o1 10 66 []]
def L3:RC:=.seq (.seq (.ops zy) (.cond (.s 64) (.skip) (.exit 4))) (.seq (.block 5 (.ops r16)) (.ops Hg))
def L2:RC:=.seq (.seq (.ops r8) (.cond (.s 35) (.skip) (.exit 2))) (.block 3 (.seq (.ops r9) (.seq (.ops zx) (.seq (.seq (.oS Ae) (.cond (.s 49) (.exit 3) (.skip))) (.seq (.oS yV) (.seq (.ops zQ) (.seq (.ops zb) (.block 4 (.loop L3)))))))))
def Wf:Zy:=[o1 74 5 [],o1 4 74 []]
def code:RC:=.seq (.ops r1) (.seq (.ops r2) (.seq (.seq (.ops r3) (.block 0 (.loop L1))) (.seq (.ops r7) (.seq (.block 2 (.loop L2)) (.seq (.ops Wf) (.ret))))))
abbrev vm:=Go.Proofs.YtllofdfkekipeaaGreatDoor.E
def jL(out:aY (aY Zl)):Zt:=out.map λr=>r.map V.bool
theorem shape:∃fi,vm.ft (vT 43)=some fi/\bL ⟨vm,some,fi.ntmps⟩ false fi.body=some code/\2<=fi.ntmps/\fi.results=[.tmp 4]:=by
 have h:((vm.ft (vT 43)).map λfi=>(bL ⟨vm,some,fi.ntmps⟩ false fi.body,Nat.ble 2 fi.ntmps,fi.results))=some (some code,true,[.tmp 4]):=by kernel_rfl
 have⟨fi,a,u⟩:=ζf.1 h;simp only[ζc]at u;exact⟨fi,a,u.1,Nat.le_of_ble_eq_true u.2.1,u.2.2⟩
section
variable{E:Env}{N:Nat->Zk}{t:Zj}{x:a_}{k:Nat}{F:Zo}{H H1:bl}{call:dg}{b:aZ Nat}
theorem AG{o:RO}{l:Zy}{v:V}{r:Zo×bl}(a:o.gd=none)(c:gp E N call b o.now o.k (o.az.map (dW N F)) H=some (v,H1))(h:cq E N call b l (gz F o.dst v) H1=some r):cq E N call b (o::l) F H=some r:=by simp[cq,a,c];omega
theorem vp{o:RO}{l:Zy}{v:V}{r:Zo×bl}(a:o.gd=none)(c:gp E N call b o.now o.k (o.az.map (dW N F)) H=some (v,H))(h:cq E N call b l (gz F o.dst v) H=some r):cq E N call b (o::l) F H=some r:=AG a c h
theorem qT:cq E N call b [] F H=some (F,H):=rfl
theorem PO{α:Type}[br α](s:Sl α):mH (ck s)=some (.int .i64 s.l.length):=Em (N:=λn=>n) s
theorem cT(t:Zj):cells t=[ck t.procs]:=rfl
theorem cP(P:cg):cells P=[.str P.name,ck P.vars,ck P.events]:=rfl
theorem cY(y:a_):cells y=[.int .i64 y.proc,.int .i64 y.index]:=rfl
theorem Wq{s:Sl cg}{p:cg}{i:Nat}(h:s.l[i]?=some p):lu 3 (ck s) (i:Int)=some (.fptr (cells p)):=by have:=DW (N:=λn=>n) s .i64 i 3 rfl;simp[bJ]at this;rw[this,show idx s i=some p from by unfold idx;grind];rfl
attribute [local simp] PO cT cP cY Ob.rows mk cq gp dW bJ gz kS lq lg oP iM eS V.cells V.one Mk.val cut ec dS
theorem x4(a:get F 2=.hptr 0 0 0)(f6:get F 6=.int .i64 k)(b:H[0]?=some (.row 1 [cells t])):
 ∃F',cq E N call none r4 F H=some (F',H)/\get F' 15=.bool (decide (k<t.procs.l.length))/\(∀s,s<11->get F' s=get F s):=by
 refine⟨_,by simp[r4,a,f6,b];rfl,Zc,?_⟩
 simp;grind
theorem xD{n:Nat}(h:n<=2147483648):wrap .i64 ((n:Int)+1)=((n+1:Nat):Int):=by simp[wrap,IntKind.bits];omega
theorem x5{P:cg}{o:Nat}{ids:Zv}{rows:Zt}(a:get F 2=.hptr 0 0 0)(f6:get F 6=.int .i64 k)(b:H[0]?=some (.row 1 [cells t]))(B:t.procs.l[k]?=some P)(J:P.events.l.length+1<=2147483648)
 (G:mj H (get F 5) o ids rows)(c:rows.length+1<=2147483648):
 ∃F' H',cq E N call none r5 F H=some (F',H')/\mj H' (get F' 5) (H.length+2) (ids++[H.length]) (rows++[replicate (P.events.l.length+1) (.bool false)])/\H.length<=H'.length/\(∀id,id<H.length->id≠o\/rows=[]->H'[id]?=H[id]?)/\(∀s,s<11->s≠5->get F' s=get F s):=by
 have⟨H',p1,p2,p3,p4⟩:=G.push (replicate (P.events.l.length+1) (.bool false)) c;have z:=xD (n:=P.events.l.length) Za
 have u:(P.events.l.length:Int)+1<=2147483648:=Za
 have w:(0:Int)<=(P.events.l.length:Int)+1:=Za
 simp[jo]at p1;refine⟨_,H',by simp[r5,a,f6,b,Wq B,z,w,u,p1];rfl,by simpa using p2,p3,p4,λs C D=>?_⟩
 simp
 repeat (rw[if_neg Za])
theorem x6(f6:get F 6=.int .i64 k)(a:k<=2147483648):∃F',cq E N call none r6 F H=some (F',H)/\get F' 6=.int .i64 ((k+1:Nat):Int)/\(∀s,s<11->s≠6->get F' s=get F s):=by refine⟨_,by simp[r6,f6];rfl,by simp[xD a],?_⟩;simp;grind
end
structure P1(t:Trace)(x:a_)(k:Nat)(F:Frame)(H:bl):Prop where
 f2:get F 2=.hptr 0 0 0
 f3:get F 3=.hptr 1 0 0
 f6:get F 6=.int .i64 k
 h0:H[0]?=some (.row 1 [cells t])
 h1:H[1]?=some (.row 2 [cells x])
 ns:∃o ids,mj H (get F 5) o ids (jL ((gy t).take k))/\(k≠0->2<=o)/\∀id∈ids,2<=id
theorem vl(out:aY (aY Zl)):(jL out).length=out.length:=by simp[jL]
theorem Kw{E:Env}{N:Nat->Zk}{t:Zj}{x:a_}(J:zL t=true):∀(m k:Nat)(F:Zo)(H:bl),k+m=t.procs.l.length->P1 t x k F H->∃F' H',lP E N L1 F H (.exit 0) F' H'/\P1 t x t.procs.l.length F' H':=by
 have B:t.procs.l.length<=2147483648/\∀P∈t.procs.l,P.events.l.length+1<=2147483648:=by simpa[zL]using J
 intro m;induction m with|zero=>intro k F H a p;have C:k=t.procs.l.length:=Za;obtain⟨F1,e1,e2,e3⟩:=x4 (E:=E) (call:=⟨0,λ_ _ _=>none⟩) p.f2 p.f6 p.h0;refine⟨F1,H,lP.stop (Ex.tD (Ex.seq (Ex.cR λc=>?_) (Ex.o9 ?_ Ex.exit)) Zc) Zc,?_⟩;have:cq E N c none r4 F H=cq E N ⟨0,λ_ _ _=>none⟩ none r4 F H:=rfl;exact e1;show get F1 15=_;rw[e2];simp[C];subst C;exact⟨by rw[e3 2 Za];exact p.f2,by rw[e3 3 Za];exact p.f3,by rw[e3 6 Za];exact p.f6,p.h0,p.h1,by rw[e3 5 Za];exact p.ns⟩|succ m Z=>
  intro k F H a p;have w:k<t.procs.l.length:=Za;obtain⟨o,ids,U,b,d⟩:=p.ns;obtain⟨F1,e1,e2,e3⟩:=x4 (E:=E) (N:=N) (call:=⟨0,λ_ _ _=>none⟩) p.f2 p.f6 p.h0;have W:=ζd w;have D:((gy t).take k).length=k:=by simp[gy];omega
  have I:mj H (get F1 5) o ids (jL ((gy t).take k)):=by rw[e3 5 Za];exact U
  obtain⟨g,H2,g1,g2,g3,g4,g5⟩:=x5 (E:=E) (N:=N) (call:=⟨0,λ_ _ _=>none⟩) (by rw[e3 2 Za];exact p.f2) (by rw[e3 6 Za];exact p.f6) p.h0 W (B.2 _ (List.getElem_mem w)) I (by rw[vl,D];omega);obtain⟨X,e,f,L⟩:=x6 (E:=E) (N:=N) (call:=⟨0,λ_ _ _=>none⟩) (H:=H2) (by rw[g5 6 Za Za,e3 6 Za];exact p.f6) Za;have Y:=U.lt;have O:=(ζe.1 p.h0).1;have Q:=(ζe.1 p.h1).1;have u:∀i,i<2->i<H.length->H2[i]?=H[i]?:=λi j Y=>g4 i Y (by
   by_cases G:k=0
   .subst G;right;simp[jL]
   left;have:=b G;omega)
  have S:P1 t x (k+1) X H2:=by
   refine⟨by rw[L 2 Za Za,g5 2 Za Za,e3 2 Za];exact p.f2,by rw[L 3 Za Za,g5 3 Za Za,e3 3 Za];exact p.f3,f,
    by rw[u 0 Za O];exact p.h0,by rw[u 1 Za Q];exact p.h1,H.length+2,ids++[H.length],?_,λ_=>Za,λid T=>?_⟩
   rw[L 5 Za Za];have z:jL ((gy t).take (k+1))=jL ((gy t).take k)++[replicate (t.procs.l[k].events.l.length+1) (.bool false)]:=by rw[List.take_add_one];have:(gy t)[k]?=some (replicate (t.procs.l[k].events.l.length+1) false):=(by simp[gy,W]);rw[this];simp[jL]
   rw[z];exact g2;rcases List.mem_append.1 T with h|h;exact d id h;simp at h;omega
  obtain⟨F',H',r1,r2⟩:=Z (k+1) X H2 Za S;refine⟨F',H',lP.step (Ex.seq (Ex.seq (Ex.cR λc=>e1) (Ex.mK ?_ Ex.skip)) (Ex.seq (Ex.block (Ex.cR λc=>g1)) (Ex.cR λc=>e))) r1,r2⟩;show get F1 15=_;rw[e2];simp[w]
section
attribute [local simp] PO cT cP cY Ob.rows mk cq gp dW bJ gz kS lq lg oP iM eS V.cells V.one Mk.val cut ec dS
variable{E:Env}{N:Nat->Zk}{t:Zj}{x y:a_}{F:Zo}{H:bl}{call:dg}
theorem x8{l:Zt}{id:Nat}(h:jW H (get F 7) l id):∃F',cq E N call none r8 F H=some (F',H)/\get F' 35=.bool (decide (0<l.length))/\(∀s,s<11->get F' s=get F s):=by refine⟨_,by simp[r8,h.len];rfl,Zc,?_⟩;simp;grind
theorem x9{l:Zt}{id:Nat}(h:jW H (get F 7) (cells y::l) id):∃F',cq E N call none r9 F H=some (F',H++[.row 2 [cells y]])/\get F' 8=.hptr H.length 0 0/\(∀s,s<11->s≠8->get F' s=get F s):=by have⟨p,p1,p2⟩:=h.get (i:=0) rfl;simp at p1 p2;refine⟨_,by simp[r9,p1,p2,eY];rfl,Zc,?_⟩;simp;grind
theorem Xf{c:Zu}{l:Zt}{id:Nat}(h:jW H (get F 7) (c::l) id):∃F',cq E N call none zx F H=some (F',H)/\jW H (get F' 7) l id/\(∃off m B,get F 7=.hsl id 2 off m/\get F' 7=.hsl id 2 B l.length)/\(∀s,s<11->s≠7->get F' s=get F s):=by have⟨w',p1,p2,off,m,B,p3,p4⟩:=h.tail;refine⟨_,by simp[zx,me,p1];rfl,by simpa using p2,⟨off,m,B,p3,by simpa using p4⟩,?_⟩;simp;grind
theorem Br(H:bl):H.take H.length=H:=List.take_length ..
theorem Wc{c:Nat}(hc:H[c]?=some (.row 2 [cells y])):dS H (.load 1 false) [.hptr c 0 0]=some (.int .i64 y.proc)/\dS H (.load 1 false) [.hptr c 0 1]=some (.int .i64 y.index)/\dS H (.load 2 true) [.hptr c 0 0]=some (enc y):=by refine⟨?_,?_,?_⟩<;>simp[dS,ec,hc,cut]<;>rfl
theorem Ux{c o:Nat}{ids:Zv}{rows:Zt}{p j:Nat}{r:Zu}{u:V}(B:get F 8=.hptr c 0 0)(hc:H[c]?=some (.row 2 [cells y]))(G:mj H (get F 5) o ids rows)(J:y.proc=p)(O:y.index=j)(a:rows[p]?=some r)(b:r[j]?=some u):
 ∃F',cq E N call (some H.length) Ae F H=some (F',H)/\get F' 49=u/\(∀s,s<11->get F' s=get F s):=by
 have⟨id,Q,w,z,C,D⟩:=G.cell a b;have⟨I,L,_⟩:=Wc hc;refine⟨_,by simp[-dS,Ae,B,J,O,I,L,w,z,C,D];rfl,Zc,?_⟩
 simp;grind
theorem Xk{c o:Nat}{ids:Zv}{rows:Zt}{p j:Nat}{r:Zu}{u:V}(G:get F 8=.hptr c 0 0)(hc:H[c]?=some (.row 2 [cells y]))(B:mj H (get F 5) o ids rows)(J:y.proc=p)(O:y.index=j)(a:rows[p]?=some r)(b:r[j]?=some u):
 ∃F' H',cq E N call (some H.length) yV F H=some (F',H')/\mj H' (get F' 5) o ids (rows.set p (r.set j (.bool true)))/\H'.length=H.length/\(∀i,i∉ids->H'[i]?=H[i]?)/\(∀s,s<11->get F' s=get F s):=by
 have⟨id,w,z,C,D,X⟩:=B.cell a b;have⟨I,L,_⟩:=Wc hc;have⟨H',Q,S,T,U⟩:=B.set a (ζe.1 b).1 w (u:=.bool true) rfl rfl;refine⟨_,H',by simp[-dS,yV,G,J,O,I,L,z,C,D,Q];rfl,by simpa using S,T,λi W=>U i λe=>W (e▸mem_of_getElem? w),?_⟩
 simp;grind
def Fs(E:Env)(N:Nat->Zk)(t:Zj)(a:a_->aZ (Sl a_)):Prop:=∀(y:a_)(s:Sl a_)(H:bl),a y=some s->∃w X id,(∃n,∀k,n<=k->fc E (run E k) (N 68) [enc t,enc y] H=some (w,H++X))/\jW (H++X) w (s.l.map cells) id/\(∀off m,w=.hsl id 2 off m->id=H.length)
theorem Wm{a d:Nat}(B:E.keep (N 68)=true){b:a_->aZ (Sl a_)}(G:Fs E N t b){s:Sl a_}(J:b y=some s)(f:get F 2=.hptr 0 0 0)(g:H[0]?=some (.row 1 [cells t])){c:Nat}(hc:H[c]?=some (.row 2 [cells y])):
 ∃w X id,jW (H++X) w (s.l.map cells) id/\(∀off m,w=.hsl id 2 off m->id=H.length)/\
  (get F 8=.hptr c 0 0->∃F',(∃n,∀k,n<=k->cq E N (run E k) none zQ F H=some (F',H++X))/\get F' 9=w/\(∀s,s<11->s≠9->get F' s=get F s))/\
  (get F 3=.hptr c 0 0->∃F',(∃n,∀k,n<=k->cq E N (run E k) none r7 F H=some (F',H++X))/\get F' 7=w/\(∀s,s<11->s≠7->get F' s=get F s)):=by
 have⟨w,X,id,⟨n,e1⟩,e2,e3⟩:=G y s H J;rw[show enc t=.agg (cells t)from rfl,show enc y=.agg (cells y)from rfl,cT,cY]at e1;refine⟨w,X,id,e2,e3,λu=>⟨_,⟨n,λk e=>by simp[zQ,f,u,g,hc,B,e1 k e];rfl⟩,Zc,?_⟩,λh=>⟨_,⟨n,λk e=>by simp[r7,f,h,g,hc,B,e1 k e];rfl⟩,Zc,?_⟩⟩<;>
  (simp;grind)
end
section
attribute [local simp] PO cT cP cY Ob.rows mk cq gp dW bJ gz kS lq lg oP iM eS V.cells V.one Mk.val cut ec dS
variable{E:Env}{N:Nat->Zk}{F:Zo}{H:bl}{call:dg}{i:Nat}
theorem Qg{l:Zt}{id:Nat}(a:get F 10=.int .i64 i)(h:jW H (get F 9) l id):∃F',cq E N call none zy F H=some (F',H)/\get F' 64=.bool (decide (i<l.length))/\(∀s,s<11->get F' s=get F s):=by refine⟨_,by simp[zy,a,h.len];rfl,Zc,?_⟩;simp;grind
theorem Xa{l G:Zt}{id B:Nat}{c:Zu}(a:get F 10=.int .i64 i)(h:jW H (get F 7) l id)(J:jW H (get F 9) G B)(hc:G[i]?=some c)(O:l.length+1<=2147483648):
 ∃F' H',cq E N call none r16 F H=some (F',H')/\jW H' (get F' 7) (l++[c]) (H.length+1)/\H'.length=H.length+2/\(∀i,i<H.length->(∀off m,get F 7=.hsl id 2 off m->i≠id)->H'[i]?=H[i]?)/\(∀s,s<11->s≠7->get F' s=get F s):=by
 have u:=J.c c (mem_of_getElem? hc);have⟨p,p1,p2⟩:=J.get hc;have⟨H',w,z,C,D⟩:=h.push u O;refine⟨_,H',by simp+contextual [-dS,-V.one,r16,a,p1,p2,w,u.1,List.all_eq_true.1 u.2];rfl,by simpa using z,C,D,?_⟩
 simp;grind
theorem Xh(a:get F 10=.int .i64 i)(b:i<=2147483648):∃F',cq E N call none Hg F H=some (F',H)/\get F' 10=.int .i64 ((i+1:Nat):Int)/\(∀s,s<11->s≠10->get F' s=get F s):=by refine⟨_,by simp[Hg,a];rfl,by simp[xD b],?_⟩;simp;grind
structure P3(l l9:List (List V))(B i:Nat)(F:Frame)(H:bl):Prop where
 f10:get F 10=.int .i64 i
 t9:∃id9,jW H (get F 9) l9 id9/\∃id,jW H (get F 7) l id/\(∀off m,get F 7=.hsl id 2 off m->B<=id/\∀off' m',get F 9=.hsl id9 2 off' m'->id≠id9)
 len:B<=H.length
theorem VK(G:Zt)(B:Nat)(Y:G.length<=2147483648):∀(m i:Nat)(l:Zt)(F:Zo)(H:bl),i+m=G.length->l.length+m<=2147483648->P3 l G B i F H->
 ∃F' H',lP E N L3 F H (.exit 4) F' H'/\(∃id,jW H' (get F' 7) (l++G.drop i) id/\∀off m,get F' 7=.hsl id 2 off m->B<=id)/\(∀s,s<7->get F' s=get F s)/\(∀j,j<B->H'[j]?=H[j]?)/\H.length<=H'.length:=by
 intro m
 induction m with
 |zero=>
  intro i l F H Z a p;obtain⟨u,t9,id,t7,C⟩:=p.t9;obtain⟨F1,e1,e2,e3⟩:=Qg (E:=E) (call:=⟨0,λ_ _ _=>none⟩) p.f10 t9
  refine⟨F1,H,lP.stop (Ex.tD (Ex.seq (Ex.cR λc=>e1) (Ex.o9 ?_ Ex.exit)) Zc) Zc,⟨id,?_,λoff m h=>?_⟩,λs T=>e3 s Za,λ_ _=>rfl,Nat.le_refl _⟩
  .show get F1 64=_
   grind
  .grind
  grind
 |succ m ih=>
  intro i l F H Z a p;have z:i<G.length:=Za
  obtain⟨u,t9,id,t7,C⟩:=p.t9;obtain⟨F1,e1,e2,e3⟩:=Qg (E:=E) (call:=⟨0,λ_ _ _=>none⟩) p.f10 t9
  have hc:=ζd z;have D:jW H (get F1 7) l id:=Zd
  have I:jW H (get F1 9) G u:=Zd
  obtain⟨e,H2,g1,g2,g3,g4,g5⟩:=Xa (E:=E) (call:=⟨0,λ_ _ _=>none⟩) (by rw[e3 10 Za];exact p.f10) D I hc Za
  obtain⟨U,b,d,J⟩:=Xh (E:=E) (call:=⟨0,λ_ _ _=>none⟩) (by rw[g5 10 Za Za,e3 10 Za];exact p.f10) Za
  have keep:∀j,j<H.length->(∀off m,get F 7=.hsl id 2 off m->j≠id)->H2[j]?=H[j]?:=λj L h=>g4 j L Zd
  have O:P3 (l++[G[i]]) G B (i+1) U H2:=by refine⟨d,⟨u,?_,H.length+1,Zd,λoff m h=>⟨by have:=p.len;omega,λw m' W=>?_⟩⟩,by have:=p.len;omega⟩;rw[J 9 Za Za,g5 9 Za Za,e3 9 Za];exact t9.heap λoff n X=>keep u (t9.lt X) λw m' Q=>Ne.symm ((C w m' Q).2 off n X);rw[J 9 Za Za,g5 9 Za Za,e3 9 Za]at W;have:=t9.lt W;omega
  obtain⟨F',H',r1,⟨S,r2,r3⟩,r4,r5,r6⟩:=ih (i+1) (l++[G[i]]) U H2 Za (by simp;omega) O
  refine⟨F',H',lP.step (Ex.seq (Ex.seq (Ex.cR λc=>e1) (Ex.mK ?_ Ex.skip)) (Ex.seq (Ex.block (Ex.cR λc=>g1)) (Ex.cR λc=>b))) r1,⟨S,?_,r3⟩,λs T=>?_,λj L=>?_,Za⟩
  .show get F1 64=_
   grind
  .rw[List.append_assoc]at r2;rw[List.drop_eq_getElem_cons z];exact r2
  .rw[r4 s T,J s Za Za,g5 s Za Za,e3 s Za]
  have:=p.len;rw[r5 j L,keep j Za λoff m h=>by have:=(C off m h).1;omega]
end
structure P2(t:Trace)(out:List (List Bool))(l:List a_)(F:Frame)(H:bl):Prop where
 f2:get F 2=.hptr 0 0 0
 h0:H[0]?=some (.row 1 [cells t])
 ns:∃B o ids id,mj H (get F 5) o ids (jL out)/\(out≠[]->1<=o/\o<B)/\(∀id∈ids,1<=id/\id<B)/\1<=B/\B<=H.length/\jW H (get F 7) (l.map cells) id/\∀off m,get F 7=.hsl id 2 off m->B<=id
theorem PU(out:aY (aY Zl))(p j:Nat)(row:aY Zl):jL (out.set p (row.set j true))=(jL out).set p ((row.map V.bool).set j (.bool true)):=by simp[jL]
theorem Ge{out:aY (aY Zl)}:jL out=[]↔out=[]:=by simp[jL]
theorem OC{a:a_->aZ (Sl a_)}{out:aY (aY Zl)}{y:a_}{rest:aY a_}{w:Fw (aY (aY Zl)×aY a_) (aY (aY Zl)) Empty}(h:nT a (out,y::rest)=some w):
 ∃(p j:Nat)(row:aY Zl)(b:Zl),y.proc=p/\y.index=j/\out[p]?=some row/\row[j]?=some b/\((b=true/\w=.n (out,rest))\/(b=false/\∃more,a y=some more/\rest.length+more.l.length<=2147483648/\w=.n (out.set p (row.set j true),rest++more.l))):=by
 simp only[nT]at h;split at h
 .have⟨row,h1,h⟩:=ζg.1 h;have⟨b,u,h⟩:=ζg.1 h;refine⟨y.proc.toNat,y.index.toNat,row,b,Za,Za,h1,u,?_⟩
  cases b with
  |true=>simp[bp]at h;grind|false=>
   have⟨more,z,h⟩:=ζg.1 h
   grind
 simp_all
theorem JA{E:Env}{N:Nat->Zk}{t:Zj}{f:a_->aZ (Sl a_)}(hd:E.keep (N 68)=true)(hD:Fs E N t f):∀(k:Nat)(out:aY (aY Zl))(l:aY a_)(G:aY (aY Zl))(F:Zo)(H:bl),
 jm (nT f) k (out,l)=some (.x G)->P2 t out l F H->∃F' H',lP E N L2 F H (.exit 2) F' H'/\P2 t G [] F' H':=by
 intro k
 induction k with
 |zero=>intro out l G F H h;simp[jm]at h|succ k ih=>
  intro out l G F H h p;have⟨B,o,ids,id,n1,n2,Y,n4,n5,t7,t8⟩:=p.ns;have⟨F1,e1,e2,e3⟩:=x8 (E:=E) (N:=N) (call:=⟨0,λ_ _ _=>none⟩) t7
  rw[List.length_map]at e2
  cases l with
  |nil=>
   simp only[jm,nT]at h;cases h;refine⟨F1,H,lP.stop (Ex.tD (Ex.seq (Ex.cR λc=>e1) (Ex.o9 ?_ Ex.exit)) Zc) Zc,?_⟩
   .show get F1 35=_;rw[e2];simp
   exact⟨by rw[e3 2 Za];exact p.f2,p.h0,B,o,ids,id,by rw[e3 5 Za];exact n1,n2,Y,n4,n5,by rw[e3 7 Za];exact t7,by rw[e3 7 Za];exact t8⟩
  |cons y rest=>
   simp only[jm]at h
   cases J:nT f (out,y::rest)with
   |none=>rw[J]at h;cases h|some w=>
   rw[J]at h;have⟨q,j,row,b,hq,hj,u,hb,L⟩:=OC J;have O:jW H (get F1 7) (cells y::rest.map cells) id:=by rw[e3 7 Za];exact t7
   have⟨F2,g1,g2,g3⟩:=x9 (E:=E) (N:=N) (call:=⟨0,λ_ _ _=>none⟩) O
   have aa:jW (H++[.row 2 [cells y]]) (get F2 7) (cells y::rest.map cells) id:=by rw[g3 7 Za Za];exact O.more _
   have⟨r,i1,i2,⟨D,m1,ab,i3,i4⟩,K⟩:=Xf (E:=E) (N:=N) (call:=⟨0,λ_ _ _=>none⟩) aa
   have Q:(H++[Ob.row 2 [cells y]])[H.length]?=some (.row 2 [cells y]):=Zc
   have M:get r 8=.hptr H.length 0 0:=by rw[K 8 Za Za];exact g2
   have f5:get r 5=get F 5:=by rw[K 5 Za Za,g3 5 Za Za,e3 5 Za]
   have P:get r 2=.hptr 0 0 0:=by rw[K 2 Za Za,g3 2 Za Za,e3 2 Za];exact p.f2
   have S:mj (H++[.row 2 [cells y]]) (get r 5) o ids (jL out):=by rw[f5];exact n1.more _
   have hr:(jL out)[q]?=some (row.map V.bool):=by simp[jL,u]
   have hu:(row.map V.bool)[j]?=some (.bool b):=by simp[hb]
   have T:B<=id:=by have:get F 7=.hsl id 2 D m1:=(by rw[<-i3,g3 7 Za Za,e3 7 Za]);exact t8 _ _ this
   have⟨R,j1,j2,z⟩:=Ux (E:=E) (N:=N) (call:=⟨0,λ_ _ _=>none⟩) M Q S hq hj hr hu
   have ad:dW N F1 (.s 35)=.bool true:=by show get F1 35=_;rw[e2];simp
   rcases L with⟨rfl,rfl⟩|⟨rfl,more,v,aq,rfl⟩
   .simp only at h;have U:P2 t out rest R (H++[.row 2 [cells y]]):=by
     refine⟨by rw[z 2 Za];exact P,by rw[List.getElem?_append_left (ζe.1 p.h0).1];exact p.h0,B,o,ids,id,by rw[z 5 Za];exact S,n2,Y,n4,by simp;omega,by rw[z 7 Za];exact i2,λoff m _=>T⟩
    have⟨F',H',r1,r2⟩:=ih out rest G R _ h U;exact⟨F',H',lP.step (Ex.seq (Ex.seq (Ex.cR λc=>e1) (Ex.mK ad Ex.skip)) (Ex.tW (Ex.seq (Ex.cR λc=>g1) (Ex.seq (Ex.cR λc=>i1) (Ex.tD (Ex.seq (Ex.oS rfl λc=>j1) (Ex.mK j2 Ex.exit)) Zc))))) r1,r2⟩
   simp only at h;have n6:mj (H++[.row 2 [cells y]]) (get R 5) o ids (jL out):=by rw[z 5 Za];exact S
   have⟨F5,C,k1,k2,k3,k4,k5⟩:=Xk (E:=E) (N:=N) (call:=⟨0,λ_ _ _=>none⟩) (by rw[z 8 Za];exact M) Q n6 hq hj hr hu
   have I:∀i,B<=i->i∉ids:=λi hi v=>by have:=(Y i v).2;omega
   have ah:C[H.length]?=some (.row 2 [cells y]):=by rw[k4 _ (I _ n5)];exact Q
   have W:C[0]?=some (.row 1 [cells t]):=by rw[k4 0 (λv=>by have:=(Y 0 v).1;omega),List.getElem?_append_left (ζe.1 p.h0).1];exact p.h0
   have⟨w9,X,ai,aj,m2,m3,_⟩:=Wm (a:=0) (d:=0) (F:=F5) hd hD v (by rw[k5 2 Za,z 2 Za];exact P) W ah
   have⟨Z,⟨nn,ak⟩,ae,o3⟩:=m3 (by rw[k5 8 Za,z 8 Za];exact M)
   have au:C.length=H.length+1:=by rw[k3];simp
   have i7:get Z 7=.hsl id 2 ab (rest.map cells).length:=by rw[o3 7 Za Za,k5 7 Za,z 7 Za];exact i4
   have ar:id<H.length:=by have:=O.lt (off:=D) (m:=m1) (by rw[<-i3,g3 7 Za Za]);exact this
   have t6:jW (C++X) (get Z 7) (rest.map cells) id:=by have:get Z 7=get r 7:=(by rw[o3 7 Za Za,k5 7 Za,z 7 Za]);rw[this];refine(i2.heap (H':=C) λoff n _=>k4 id (I id T)).more X
   have al:∃g,(∀c,cq E N c none zb Z (C++X)=some (g,C++X))/\get g 10=.int .i64 ((0:Nat):Int)/\∀s,s<10->get g s=get Z s:=⟨set Z 10 (.int .i64 0),λc=>by simp[zb,cq,gp,dW,bJ,gz],Zc,λs hs=>by rw[kS,if_neg Za]⟩
   have⟨g,u1,u2,x⟩:=al;have am:P3 (rest.map cells) (more.l.map cells) B 0 g (C++X):=by refine⟨u2,⟨ai,by rw[x 9 Za,ae];exact aj,id,by rw[x 7 Za];exact t6,λoff m hh=>⟨T,λaf m' h'=>?_⟩⟩,by simp;omega⟩;rw[x 9 Za,ae]at h';have:=m2 af m' h';omega
   have⟨A,H8,v1,⟨an,v2,v3⟩,v4,v5,v6⟩:=VK (E:=E) (N:=N) (more.l.map cells) B (by simp;omega) (more.l.map cells).length 0 (rest.map cells) g (C++X) Za (by simp;omega) am
   have ao:mj H8 (get A 5) o ids (jL (out.set q (row.set j true))):=by have h5:get A 5=get F5 5:=(by rw[v4 5 Za,x 5 Za,o3 5 Za Za]);rw[h5,PU];refine(k2.more X).heap (λap=>v5 o ?_) λi hi=>v5 i (Y i hi).2;have:out≠[]:=(by intro e;subst e;simp at u);exact(n2 this).2
   have U:P2 t (out.set q (row.set j true)) (rest++more.l) A H8:=by refine⟨by rw[v4 2 Za,x 2 Za,o3 2 Za Za,k5 2 Za,z 2 Za];exact P,?_,B,o,ids,an,ao,λap=>n2 (by intro e;subst e;simp at u),Y,n4,by simp at v6;omega,?_,v3⟩;rw[v5 0 Za,List.getElem?_append_left (ζe.1 W).1];exact W;rw[List.drop_zero]at v2;rw[map_append];exact v2
   have⟨F',H',w1,w2⟩:=ih _ _ G A H8 h U;exact⟨F',H',lP.step (Ex.seq (Ex.seq (Ex.cR λc=>e1) (Ex.mK ad Ex.skip)) (Ex.block (Ex.seq (Ex.cR λc=>g1) (Ex.seq (Ex.cR λc=>i1) (Ex.seq (Ex.seq (Ex.oS rfl λc=>j1) (Ex.o9 j2 Ex.skip)) (Ex.seq (Ex.oS rfl λc=>k1)
    (Ex.seq (Ex.ops ⟨nn,ak⟩) (Ex.seq (Ex.cR u1) (Ex.tW (Ex.loop v1)))))))))) w1,w2⟩
theorem P9{H:bl}{Z:Nat->Prop}{id:Nat}{r:aY Zl}(G:Z id)(h:H[id]?=some (.row 1 (jo (r.map V.bool)))):FR H Z (enc (Sl.row r)) (.hsl id 1 0 r.length):=by
 have e:bq H id=some (1,jo (r.map V.bool)):=by simp[bq,h,Ob.rows]
 have C:enc (Sl.row r)=.fsl 1 (rows r):=rfl;have D:(rows r).length=r.length:=by simp[rows]
 have hc:jo (r.map V.bool)=rows r:=by simp[jo,rows,Function.comp_def]
 rw[hc]at e;rw[C,<-D];refine .fsl 1 (rows r) id 0 (rows r) G e Za (λi a b d w=>?_) (λi j a b u v d w z B=>?_);grind;rw[zero_add,d]at w;cases w;rw[z]at B;cases B;refine .same u ?_;obtain⟨c,I,rfl⟩:∃c∈r,a=[V.bool c]:=by have:=mem_of_getElem? d;simp only[rows,mem_map]at this;obtain⟨c,hc,rfl⟩:=this;simp_all
 have:=mem_of_getElem? z;simp at this;subst this;rfl
theorem O_{H:bl}{w:V}{o:Nat}{ids:Zv}{out:aY (aY Zl)}(n:mj H w o ids (jL out)):∃Z,FR H Z (enc (nested out)) w/\(∀id,Z id->(bq H id).isSome=true)/\Deep H Z:=by
 have f:=n.v;by_cases Q:out=[];subst Q;rw[if_pos (show jL []=[]from rfl)]at f;subst f;exact⟨λ_=>False,.same _ rfl,λ_ h=>h.elim,⟨λ_ _ _ h=>h.elim⟩⟩;have I:jL out≠[]:=λh=>Q (Ge.1 h);rw[if_neg I,vl]at f;subst f;have S:=n.ob I;have J:=n.len;rw[vl]at J;have B:∀(i id:Nat)(r:aY Zl),ids[i]?=some id->out[i]?=some r->H[id]?=some (.row 1 (jo (r.map V.bool))):=λi id r e D=>n.r i id _ e (by simp[jL,D]);have C:∀(i:Nat)(c:Zu),(refs ids (jL out))[i]?=some c->∃id r,ids[i]?=some id/\out[i]?=some r/\c=[.hsl id 1 0 r.length]:=λi c h=>by have G:=(ζe.1 h).1;rw[th n.len,vl]at G;have e:=ζd (show i<ids.length from Za);have D:=ζd G;have T:=BF (rows:=jL out) (r:=out[i].map V.bool) e (by simp[jL,D]);grind
 have L:bq H o=some (1,refs ids (jL out)):=by simp[bq,S,Ob.rows]
 have O:∀id∈ids,∃(r:aY Zl),H[id]?=some (.row 1 (jo (r.map V.bool))):=λid z=>by have⟨i,G⟩:=List.getElem?_of_mem z;have U:=(ζe.1 G).1;exact⟨_,B i id _ G (ζd (show i<out.length from Za))⟩
 refine⟨λid=>id=o\/id∈ids,?_,λid h=>?_,⟨λid es ys h d c hc u hu=>?_⟩⟩;have g:enc (nested out)=.fsl 1 (rows (out.map Sl.row)):=by rw[nested,if_neg Q];rfl
 have U:(rows (out.map Sl.row)).length=out.length:=by simp[rows]
 rw[g,<-U];refine .fsl 1 _ o 0 (refs ids (jL out)) (.inl rfl) L (by rw[U,th n.len,vl];omega) (λi a b e D=>?_) (λi j a b u v e D T Y=>?_);rw[zero_add]at D;obtain⟨id,r,_,d,rfl⟩:=C i b D;simp[rows,d]at e;subst e;rfl;rw[zero_add]at D;obtain⟨id,r,z,d,rfl⟩:=C i b D;have k:a=[enc (Sl.row r)]:=by simp[rows,d]at e;exact e.symm
 subst k;cases j with|zero=>simp at T Y;subst T Y;exact P9 (.inr (mem_of_getElem? z)) (B i id r z d)|succ j=>simp_all
 rcases h with rfl|h;simp_all;have⟨r,d⟩:=O id h;simp[bq,d,Ob.rows];rcases h with rfl|h;rw[L]at d;cases d;have⟨i,G⟩:=List.getElem?_of_mem hc;obtain⟨id,r,z,W,rfl⟩:=C i c G;simp at hu;subst hu;exact⟨_,P9 (.inr (mem_of_getElem? z)) (B i id r z W)⟩;have⟨r,X⟩:=O id h;have:bq H id=some (1,jo (r.map V.bool)):=by simp[bq,X,Ob.rows]
 rw[this]at d;cases d;simp only[jo,mem_map]at hc;obtain⟨_,⟨c',_,rfl⟩,rfl⟩:=hc;simp at hu;subst hu;exact⟨_,.same _ rfl⟩
theorem SI{t:Zj}{x:a_}{out:aY (aY Zl)}{s:Sl a_}{b:a_->aZ (Sl a_)}(U:vm.keep (vT 68)=true)(W:Fs vm vT t b)(O:zL t=true)(g:b x=some s)(j:bM (nT b) (gy t,s.l)=some (.x out)):
 wD vm (vT 43) [enc t,enc x] (enc (nested out)):=by
 have⟨fi,g1,g2,g3,g4⟩:=shape;have⟨k,l⟩:=nQ.1 j;have p:∃F1,(∀c,cq vm vT c none r1 [enc t,enc x] []=some (F1,[.row 1 [cells t],.row 2 [cells x]]))/\get F1 2=.hptr 0 0 0/\get F1 3=.hptr 1 0 0:=by refine⟨_,λc=>AG (v:=.hptr 0 0 0) (H1:=[.row 1 [cells t]]) rfl ?_<|AG (v:=.hptr 1 0 0) (H1:=[.row 1 [cells t],.row 2 [cells x]]) rfl ?_<|vp (v:=.bG) rfl ?_ qT,?_,?_⟩;show(iM .box [enc t]).map _=_;simp only[iM,kK,oH,if_true,Option.map_some,eV];rfl;simp only[gp,map_cons,List.map_nil,dW,gz,kS,Nat.reduceEqDiff,if_false];show(iM .box [enc x]).map _=_;simp only[iM,kK,oH,if_true,Option.map_some,eV];rfl;simp[gp,dW,bJ];simp[gz];simp[gz]
 have⟨F1,q,r,y⟩:=p;have A:∃I,(∀c,cq vm vT c none r2 F1 [.row 1 [cells t],.row 2 [cells x]]=some (set F1 5 .bG,[.row 1 [cells t],.row 2 [cells x]]))/\(∀c,cq vm vT c none r3 (set F1 5 .bG) [.row 1 [cells t],.row 2 [cells x]]=some (I,[.row 1 [cells t],.row 2 [cells x]]))/\P1 t x 0 I [.row 1 [cells t],.row 2 [cells x]]:=by refine⟨set (set F1 5 .bG) 6 (.int .i64 0),λc=>by simp[r2,cq,gp,dW,bJ,gz],λc=>by simp[r3,cq,gp,dW,bJ,gz],by simp[r],by simp[y],Zc,rfl,rfl,0,[],?_,λh=>absurd rfl h,λid h=>by simp at h⟩;have:get (set (set F1 5 .bG) 6 (.int .i64 0)) 5=.bG:=Zc;rw[this,List.take_zero];exact mj.nil _ 0
 have⟨I,H,K,M⟩:=A;have⟨P,S,e1,e2⟩:=Kw (E:=vm) (N:=vT) O t.procs.l.length 0 I _ Za M
 have⟨o,ids,J,R,V⟩:=e2.ns;have T:(gy t).length=t.procs.l.length:=by simp[gy]
 rw[List.take_of_length_le Za]at J
 have⟨w,X,id,m1,m2,_,m4⟩:=Wm (a:=0) (d:=0) (F:=P) (E:=vm) (N:=vT) U W g e2.f2 e2.h0 (c:=1) e2.h1;have⟨Y,o1,o2,o3⟩:=m4 e2.f3;have Q:P2 t (gy t) s.l Y (S++X):=by refine⟨by rw[o3 2 Za Za];exact e2.f2,by rw[List.getElem?_append_left (ζe.1 e2.h0).1];exact e2.h0,S.length,o,ids,id,by rw[o3 5 Za Za];exact J.more X,λu=>?_,λi f=>⟨by have:=V i f;omega,J.lt.2 i f⟩,?_,Zc,by rw[o2];exact m1,λoff m h=>?_⟩;have z:jL (gy t)≠[]:=λh=>u (Ge.1 h);have:t.procs.l.length≠0:=(by intro h;apply u;exact List.eq_nil_of_length_eq_zero Za);have:=R this;exact⟨Za,J.lt.1 z⟩;have:=(ζe.1 e2.h0).1;omega;rw[o2]at h;have:=m2 off m h;omega
 have⟨C,L,p1,p2⟩:=JA U W k _ _ out Y _ l Q;have⟨B,o',aa,ab,q1,_⟩:=p2.ns;have l1:∃D,(∀c,cq vm vT c none Wf C L=some (D,L))/\get D 4=get C 5:=by refine⟨_,λc=>vp (v:=get C 5) rfl ?_<|vp (v:=get C 5) rfl ?_ qT,?_⟩;simp[gp,dW,bJ];simp[gp,dW,bJ,gz];simp[gz]
 have⟨D,y1,y2⟩:=l1;have e:Ex vm vT code [enc t,enc x] [] .ret D L:=Ex.seq (Ex.cR q) (Ex.seq (Ex.cR H) (Ex.seq (Ex.seq (Ex.cR K) (Ex.tW (Ex.loop e1))) (Ex.seq (Ex.ops o1) (Ex.seq (Ex.tW (Ex.loop p1)) (Ex.seq (Ex.cR y1) Ex.ret)))))
 have⟨n,G⟩:=e.run (nm:=some) AJ g1 g2 (show[enc t,enc x].length<=fi.ntmps from g3) (vs:=[get D 4]) (by rw[g4];rfl)
 have⟨Z,z1,z2,z3⟩:=O_ q1;exact⟨n,get C 5,L,Z,by rw[G,y2];rfl,z1,z2,z3⟩
theorem US(l:aY a_):∀c∈l.map (cells (α:=a_)),c.length=2/\c.all V.one=true/\c.all V.scalar=true:=λc hc=>by obtain⟨e,_,rfl⟩:=mem_map.1 hc;exact⟨rfl,rfl,rfl⟩
theorem Vy(t:Zj):Fs vm vT t (dL t):=by
 intro y s H B;have b:=yL t y;have I:=b (cB s) (by rw[B];rfl);have a:V.cr [enc t,enc y]=true:=by simp only[V.cr,iu,Bool.and_self]
 have w:s.k=.row\/s.k=.nil/\rows s.l=[]:=by have D:∀o z,(∃l,o=.row l)\/o=.nil->dL.J1 o t y=some z->(∃l,z=.row l)\/z=.nil:=λo z J u=>(by unfold dL.J1 at u;have⟨e,_,u⟩:=ζg.1 u;cases G:e.kind==3 with|true=>rw[G]at u;have⟨f,_,u⟩:=ζg.1 u;have⟨q,C,u⟩:=ζg.1 u;cases u;unfold fP at C;split at C;cases C;exact .inl ⟨_,rfl⟩;cases C|false=>rw[G]at u;cases u;exact J);have:(∃l,s=.row l)\/s=.nil:=(by unfold dL at B;cases hc:decide (y.index>1)with|true=>rw[hc]at B;exact D _ s (.inl ⟨_,rfl⟩) B|false=>rw[hc]at B;exact D _ s (.inr rfl) B);rcases this with⟨l,rfl⟩|rfl;exact .inl rfl;exact .inr ⟨rfl,rfl⟩
 have⟨n,z,H',r1,r2⟩:=UG FF Ax (T:=Tx) (f:=vT 68) (rf:=sQ (Tx 68)) Zf a (Nat.le_of_ble_eq_true Zf) (k:=s.k) (es:=2) (xs:=rows s.l) (λc hc=>(US s.l c hc).2.2) w I;refine GW (l:=s.l.map cells) (y:=z) (H1:=H') Zf a (US s.l) ⟨n,λk d=>(nC _ d).go _ _ _ _ r1⟩ ?_ H;rcases r2 with⟨L,rfl⟩|⟨id,rfl,O⟩;left;cases s<;>simp[Sl.k]at L;exact⟨rfl,rfl⟩;right;exact⟨id,by simp[rows],O⟩
end pastX
theorem O3(t:Zj)(x:a_)(r:Sl (Sl Zl))(h:mU t x=some r):Sy.yG 43 [enc t,enc x]=some (enc r):=by
 unfold mU at h;split at h;rename_i u;have⟨s,z,h⟩:=ζg.1 h;have⟨w,B,h⟩:=ζg.1 h;cases w with|n a=>exact elim a|r e=>exact elim e|x out=>cases h;exact vU (pastX.SI Zf (pastX.Vy t) u z B)
 cases h
noncomputable section
def r_:aZ Zl:=some true
instance SM:Fc Sy cL r_:=⟨4,[],λr:Zl=>[.bool r],true,kC.yG Zf Zf ME⟩
namespace eU
def bn(G:Sl Zn)(J:Int)(B:Int)(p1:Zn->aZ Zl):aZ (Fw Int Unit Int):=bp (decide (B<J)) ((idx G B).bind λu=>(p1 u).bind λw=>bp w (some (.r B)) (some (.n (wrap .i64 (B+1))))) (some (.x ()))
def W1(B:Sl Zn)(G J:Int)(p1:Zn->aZ Zl):Z6:=(bM (λq:Int=>bn B G q p1) J).bind (Fw.elim (λe=>some (-1)) (λe=>some e))
end eU
def eU(B:Sl Zn)(p1:Zn->aZ Zl):Z6:=eU.W1 B (len B) 0 p1
open eU in
abbrev pK(g1:FuncId)(e1:aY V)(p1:Event->aZ Bool)(a:qp Sy cL g1 [] e1 (λz:Event=>[enc z]) (λr:Bool=>[.bool r]) p1 true)(B:Sl Event):Fc Sy cL (eU B p1):=Fc.M 36 [enc B,.clo g1 [] e1] (bN 9 B (dx 5 (λw=>(bz [Cv 0 B,(1,.v (.clo g1 [] e1)),Iv 7 (len B),Iv 8 w] [])) (λu=>(0,(bz [] []))) (λu=>(bz [Iv 4 u] [])) (λw=>bu 7 9 (bR 16 λC _=>AP 1 a.f C λD _=>bu 2 16 bg bg) bg) (λu=>bg) (λu=>bg)))
def gR(B:Sl Zn)(p1:Zn->aZ Zl):aZ Zl:=(eU B p1).bind λu=>some (decide (u>=0))
abbrev nR(g1:FuncId)(e1:aY V)(p1:Event->aZ Bool)(a:qp Sy cL g1 [] e1 (λz:Event=>[enc z]) (λr:Bool=>[.bool r]) p1 true)(B:Sl Event):Fc Sy cL (gR B p1):=Fc.M 16 [enc B,.clo g1 [] e1] (bA (F:=pK g1 e1 p1 a B) 9 λu _=>bg)
def qI(B:Zn):aZ Zl:=some (decide ((len B.assign)>12))
instance Qh(B:Zn):Fc Sy cL (qI B):=Fc.M 17 [enc B] (dm 2 1 B (bN 7 B.assign bg))
namespace gx
def bn(G:Sl Var)(J:Int)(B:Int)(p1:Var->aZ Zl):aZ (Fw Int Unit Int):=bp (decide (B<J)) ((idx G B).bind λu=>(p1 u).bind λw=>bp w (some (.r B)) (some (.n (wrap .i64 (B+1))))) (some (.x ()))
def W1(B:Sl Var)(G J:Int)(p1:Var->aZ Zl):Z6:=(bM (λq:Int=>bn B G q p1) J).bind (Fw.elim (λe=>some (-1)) (λe=>some e))
end gx
def gx(B:Sl Var)(p1:Var->aZ Zl):Z6:=gx.W1 B (len B) 0 p1
open gx in
abbrev wH(g1:FuncId)(e1:aY V)(p1:Var->aZ Bool)(a:qp Sy cL g1 [] e1 (λz:Var=>[enc z]) (λr:Bool=>[.bool r]) p1 true)(B:Sl Var):Fc Sy cL (gx B p1):=Fc.M 37 [enc B,.clo g1 [] e1] (bN 9 B (dx 5 (λw=>(bz [Cv 0 B,(1,.v (.clo g1 [] e1)),Iv 7 (len B),Iv 8 w] [])) (λu=>(0,(bz [] []))) (λu=>(bz [Iv 4 u] [])) (λw=>bu 7 9 (bR 16 λC _=>AP 1 a.f C λD _=>bu 2 16 bg bg) bg) (λu=>bg) (λu=>bg)))
def gu(B:Sl Var)(p1:Var->aZ Zl):aZ Zl:=(gx B p1).bind λu=>some (decide (u>=0))
abbrev o_(g1:FuncId)(e1:aY V)(p1:Var->aZ Bool)(a:qp Sy cL g1 [] e1 (λz:Var=>[enc z]) (λr:Bool=>[.bool r]) p1 true)(B:Sl Var):Fc Sy cL (gu B p1):=Fc.M 18 [enc B,.clo g1 [] e1] (bA (F:=wH g1 e1 p1 a B) 9 λu _=>bg)
def qO(B:Var):aZ Zl:=some (decide (((ByteArray.size B.name:Nat):Int)>40))
instance Qv(B:Var):Fc Sy cL (qO B):=Fc.M 19 [enc B] (bg)
namespace jN
def bn(B:Int)(W:Sl cg)(J:Int)(Y:Zj)(U G:Int):aZ (Fw (Int×Int) Unit Unit):=bp (decide (G<J)) ((idx W G).bind λu=>(bp (decide ((wrap .i64 (U+(len u.events)))>B)) (some true) (some (decide ((len u.vars)>12))):aZ Zl).bind λw=>(bp w (some true) (some (decide (((ByteArray.size u.name:Nat):Int)>40))):aZ Zl).bind λC=>(bp C (some true) ((gR u.events (λz=>qI z)).bind λD=>some D):aZ Zl).bind λI=>(bp I (some true) ((gu u.vars (λz=>qO z)).bind λL=>some L):aZ Zl).bind λO=>bp O (some (.r ())) (some (.n (wrap .i64 (U+(len u.events)),wrap .i64 (G+1))))) (some (.x ()))
def W1(B U:Int)(W:Sl cg)(J O:Int)(G:Zj):aZ Zl:=(bM (λq:Int×Int=>bn B W J G q.1 q.2) (U,O)).bind (Fw.elim (λe=>some (decide ((len G.procs)<=10))) (λe=>some false))
end jN
def jN(G:Zj)(B:Int):aZ Zl:=jN.W1 B 0 G.procs (len G.procs) 0 G
open jN in
instance Ue(G:Zj)(B:Int):Fc Sy cL (jN G B):=Fc.M 5 [enc G,.int .i64 B] (dm 2 2 G (bN 13 G.procs (dx 5 (λw=>(bz [Iv 1 B,Pv 2,Iv 5 w.1,Cv 9 G.procs,Iv 10 (len G.procs),Iv 11 w.2] [Xb 2 G])) (λC=>(0,(bz [Pv 2] [Xb 2 G]))) (λC=>(bz [Bv 4 false] [])) (λw=>bu 7 12 (bR 7 λu _=>ow 2 7 0 u (bN 7 u.events (cm 10 5 [23] 28 (bu 10 23 (bC 5) (bN 2 u.vars (bC 2))) λD=>cm 1 5 [29] 34 (bu 1 29 (bC 5) (bC 5)) λI=>cm 1 4 [35] 39 (bu 1 35 (bC 4) (bA (F:=nR 17 [] (λz=>qI z) qp.wv u.events) 2 λJ _=>bC 1)) λL=>cm 1 4 [7,40] 44 (bu 1 40 (bC 4) (bA (F:=o_ 19 [] (λz=>qO z) qp.wv u.vars) 2 λO _=>bC 1)) λQ=>bu 2 44 bg bg))) bg) (λC=>bN 6 G.procs bg) (λC=>bg))))
namespace f_
def bn(G:Zb)(J:Int)(B:Int)(p1:(Zg)->aZ Zl):aZ (Fw Int Unit Int):=bp (decide (B<J)) ((idx G B).bind λu=>(p1 u).bind λw=>bp w (some (.r B)) (some (.n (wrap .i64 (B+1))))) (some (.x ()))
def W1(B:Zb)(G J:Int)(p1:(Zg)->aZ Zl):Z6:=(bM (λq:Int=>bn B G q p1) J).bind (Fw.elim (λe=>some (-1)) (λe=>some e))
end f_
def f_(B:Zb)(p1:(Zg)->aZ Zl):Z6:=f_.W1 B (len B) 0 p1
open f_ in
abbrev vK(g1:FuncId)(e1:aY V)(p1:(Sl Int)->aZ Bool)(a:qp Sy cL g1 [] e1 (λz:Sl Int=>[enc z]) (λr:Bool=>[.bool r]) p1 true)(B:Sl (Sl Int)):Fc Sy cL (f_ B p1):=Fc.M 38 [enc B,.clo g1 [] e1] (bN 9 B (dx 5 (λw=>(bz [Cv 0 B,(1,.v (.clo g1 [] e1)),Iv 7 (len B),Iv 8 w] [])) (λu=>(0,(bz [] []))) (λu=>(bz [Iv 4 u] [])) (λw=>bu 7 9 (bR 16 λC _=>AP 1 a.f C λD _=>bu 2 16 bg bg) bg) (λu=>bg) (λu=>bg)))
def gf(B:Zb)(p1:(Zg)->aZ Zl):aZ Zl:=(f_ B p1).bind λu=>some (decide (u>=0))
abbrev kX(g1:FuncId)(e1:aY V)(p1:(Sl Int)->aZ Bool)(a:qp Sy cL g1 [] e1 (λz:Sl Int=>[enc z]) (λr:Bool=>[.bool r]) p1 true)(B:Sl (Sl Int)):Fc Sy cL (gf B p1):=Fc.M 20 [enc B,.clo g1 [] e1] (bA (F:=vK g1 e1 p1 a B) 9 λu _=>bg)
def pe(B:Zg):aZ Zl:=some (decide ((len B)>12))
instance NA(B:Zg):Fc Sy cL (pe B):=Fc.M 21 [enc B] (bN 8 B bg)
def sx(B:Zb):aZ Zl:=(bp (decide ((len B)<=120)) ((gf B (λz=>pe z)).bind λu=>some (!u)) (some false):aZ Zl).bind λw=>some w
instance Sz(B:Zb):Fc Sy cL (sx B):=Fc.M 6 [enc B] (bN 8 B (cm 2 4 [0,6] 10 (bu 2 6 (bA (F:=kX 21 [] (λz=>pe z) qp.wv B) 1 λu _=>bC 2) (bC 4)) λw=>bg))
def ou(B:Int):aZ Zl:=(bp (decide (B>=65)) (some (decide (B<=90))) (some false):aZ Zl).bind λu=>(bp u (some true) ((bp (decide (B>=97)) (some (decide (B<=122))) (some false):aZ Zl).bind λw=>some w):aZ Zl).bind λz=>some z
instance QM(B:Int):Fc Sy cL (ou B):=Fc.M 87 [.int .u8 B] (cm 10 3 [5] 8 (bu 10 5 (bC 3) (bC 3)) λu=>cm 1 7 [0,9] 16 (bu 1 9 (bC 7) (cm 3 3 [0,12] 15 (bu 3 12 (bC 3) (bC 3)) λw=>bC 1)) λz=>bg)
def sA(B:Int):aZ Zl:=(bp (decide (B>=48)) (some (decide (B<=57))) (some false):aZ Zl).bind λu=>some u
instance S4(B:Int):Fc Sy cL (sA B):=Fc.M 88 [.int .u8 B] (cm 10 3 [0,5] 8 (bu 10 5 (bC 3) (bC 3)) λu=>bg)
namespace gH
def bn(B:Zq)(i3:Int):aZ (Fw Int Unit Unit):=bp (decide (i3<((ByteArray.size B:Nat):Int))) ((kD B i3).bind λz=>(ou z).bind λC=>(bp C (some false) ((kD B i3).bind λD=>(sA D).bind λG=>some (!G)):aZ Zl).bind λI=>(bp I ((kD B i3).bind λu=>some (!(u==95))) (some false):aZ Zl).bind λw=>bp w (some (.r ())) (some (.n (wrap .i64 (i3+1))))) (some (.x ()))
def W1(B:Zq)(i3:Int):aZ Zl:=(bM (λq:Int=>bn B q) i3).bind (Fw.elim (λe=>some true) (λe=>some false))
end gH
def gH(B:Zq):aZ Zl:=(bp (decide (((ByteArray.size B:Nat):Int)<1)) (some true) (some (decide (((ByteArray.size B:Nat):Int)>16))):aZ Zl).bind λu=>(bp u (some true) ((kD B 0).bind λw=>(ou w).bind λz=>some (!z)):aZ Zl).bind λC=>bp C (some false) (gH.W1 B 1)
open gH in
instance Tg(B:Zq):Fc Sy cL (gH B):=Fc.M 64 [.str B] (cm 12 4 [7] 11 (bu 12 7 (bC 4) (bC 4)) λD=>cm 1 5 [12] 17 (bu 1 12 (bC 5) (zK 1 .i64 λG _=>bA 0 λI _=>bC 2)) λJ=>bu 2 17 bg (dx 11 (λw=>(bz [(0,.v (.str B)),Iv 3 w] [])) (λu=>(0,(bz [] []))) (λu=>(bz [Bv 2 false] [])) (λw=>bu 10 21 (zK 9 .i64 λL _=>bA 0 λO _=>cm 2 6 [29] 35 (dA 2 29 (bC 6) (zK 2 .i64 λQ _=>bA 0 λS _=>bC 2)) λT=>cm 1 5 [36] 41 (bu 1 36 (zK 2 .i64 λz _=>bC 2) (bC 5)) λC=>bu 2 41 bg bg) bg) (λu=>bg) (λu=>bg)))
def pH(B:Int):aZ Zl:=(bp (decide (B>=(-1073741824))) (some (decide (B<=1073741824))) (some false):aZ Zl).bind λu=>some u
instance RT(B:Int):Fc Sy cL (pH B):=Fc.M 65 [.int .i64 B] (cm 10 3 [0,5] 8 (bu 10 5 (bC 3) (bC 3)) λu=>bg)
namespace eA
def dN(J:Int)(B:cg)(G:Int):aZ (Fw Int Unit Unit):=bp (decide (G<J)) ((idx B.vars G).bind λu=>(idx B.vars J).bind λw=>bp (toList u.name==toList w.name) (some (.r ())) (some (.n (wrap .i64 (G+1))))) (some (.x ()))
def W3(G J:Int)(B:cg):aZ (Fw Int Unit Int):=(bM (λq:Int=>dN G B q) J).bind (Fw.elim (λe=>(idx B.vars G).bind λu=>(pH u.init_).bind λw=>bp w (some (.n (wrap .i64 (G+1)))) (some (.r 2))) (λe=>some (.r 13)))
def bS(B:cg)(G:Int):aZ (Fw Int Unit Int):=bp (decide (G<(len B.vars))) ((idx B.vars G).bind λu=>(gH u.name).bind λw=>bp w (W3 G 0 B) (some (.r 13))) (some (.x ()))
def W2(G:Int)(B:cg):Z6:=(bM (λq:Int=>bS B q) G).bind (Fw.elim (λe=>bp (decide ((len B.events)>64)) (some 5) (some 0)) (λe=>some e))
def bn(p1:Int)(B:Zj)(G:cg)(J:Int):aZ (Fw Int Unit Unit):=bp (decide (J<p1)) ((idx B.procs J).bind λu=>bp (toList u.name==toList G.name) (some (.r ())) (some (.n (wrap .i64 (J+1))))) (some (.x ()))
def W1(p1 J:Int)(G:Zj)(B:cg):Z6:=(bM (λq:Int=>bn p1 G B q) J).bind (Fw.elim (λe=>bp (decide ((len B.vars)>8)) (some 5) (eA.W2 0 B)) (λe=>some 13))
end eA
def eA(B:Zj)(p1:Int):Z6:=(idx B.procs p1).bind λu=>(gH u.name).bind λw=>bp w (eA.W1 p1 0 B u) (some 13)
open eA in
instance Tv(J:Zj)(p1:Int):Fc Sy cL (eA J p1):=Fc.M 39 [enc J,.int .i64 p1] (dm 2 2 J (bR 8 λu _=>ow 2 5 0 u (bA 7 λI _=>dA 3 17 (dx 11 (λD=>(bz [Iv 1 p1,Pv 2,Pv 5,Iv 6 D] [Xb 2 J,Xb 5 u])) (λB=>(0,(bz [Pv 5] [Xb 5 u]))) (λB=>(bz [Iv 4 13] [])) (λD=>bu 9 20 (bR 10 λL _=>bu 7 31 bg bg) bg) (λB=>bN 7 u.vars (bu 3 35 bg (dx 11 (λw=>(bz [Pv 5,Iv 7 w] [Xb 5 u])) (λz=>(2,(bz [Pv 5] [Xb 5 u]))) (λz=>(bz [Iv 4 z] [])) (λw=>bN 7 u.vars (bu 3 40 (bR 11 λO _=>bA 2 λQ _=>dA 3 50 (dx 11 (λG=>(bz [Pv 5,Iv 7 w,Iv 8 G] [Xb 5 u])) (λC=>(4,(bz [Pv 5,Iv 7 w] [Xb 5 u]))) (λC=>(bz [Iv 4 13] [])) (λG=>bu 9 53 (bR 10 λS _=>bR 5 λT _=>bu 5 68 bg bg) bg) (λC=>bR 7 λU _=>bA 2 λW _=>dA 3 76 bg bg) (λC=>bg)) bg) bg)) (λz=>bN 7 u.events (bu 3 80 bg bg)) (λz=>bg)))) (λB=>bg)) bg)))
namespace ey
def dN(p1 k8:Int)(O:Zj)(G:Zn)(J:Assign)(B:Int):aZ (Fw Int Unit Unit):=bp (decide (B<k8)) ((idx G.assign B).bind λu=>bp (u.var==J.var) (some (.r ())) (some (.n (wrap .i64 (B+1))))) (some (.x ()))
def W3(p1 k8 B:Int)(G:Zj)(J:Zn)(O:Assign):aZ (Fw Int Unit Int):=(bM (λq:Int=>dN p1 k8 G J O q) B).bind (Fw.elim (λe=>some (.n (wrap .i64 (k8+1)))) (λe=>some (.r 8)))
def bS(p1:Int)(G:Zj)(B:Zn)(k8:Int):aZ (Fw Int Unit Int):=bp (decide (k8<(len B.assign))) ((idx B.assign k8).bind λu=>(bp (decide (u.var<0)) (some true) ((idx G.procs p1).bind λw=>some (decide (u.var>=(len w.vars)))):aZ Zl).bind λz=>(bp z (some true) ((pH u.value).bind λC=>some (!C)):aZ Zl).bind λD=>bp D (some (.r 2)) (W3 p1 k8 0 G B u)) (some (.x ()))
def W2(p1 k8:Int)(B:Zj)(G:Zn):Z6:=(bM (λq:Int=>bS p1 B G q) k8).bind (Fw.elim (λe=>some 0) (λe=>some e))
def J1(p1 i2:Int)(G:Zj)(B:Zn):Z6:=(bp (decide (B.time<0)) (some true) (some (decide (B.time>1099511627776))):aZ Zl).bind λu=>(bp u (some true) ((bp (decide (i2>0)) ((idx G.procs p1).bind λw=>(idx w.events (wrap .i64 (i2-1))).bind λz=>some (decide (B.time<z.time))) (some false):aZ Zl).bind λC=>some C):aZ Zl).bind λD=>bp D (some 11) (bp (decide ((len B.assign)>8)) (some 5) (ey.W2 p1 0 G B))
theorem wo(p1 i2:Int)(G:Zj)(B:Zn):Le ((J1 p1 i2 G B).bind (λr=>some [.int .i64 r])) (b7 Sy cL (qu (tr Tx 40)) (oc (tb Tx 40) [1,1,1,0] [] (bz [Iv 1 p1,Iv 2 i2,Pv 3,Pv 7] [Xb 3 G,Xb 7 B]))):=cm 7 4 [71] 75 (bu 7 71 (bC 4) (bC 4)) λL=>cm 1 19 [2,76] 95 (bu 1 76 (bC 19) (cm 3 15 [2,79] 94 (bu 3 79 (bR 5 λO _=>bR 4 λQ _=>bC 4) (bC 15)) λS=>bC 1)) λT=>bu 2 95 bg (bN 8 B.assign (bu 3 99 bg (dx 11 (λu=>(bz [Iv 1 p1,Pv 3,Pv 7,Iv 8 u] [Xb 3 G,Xb 7 B])) (λw=>(0,(bz [] []))) (λw=>(bz [Iv 6 w] [])) (λu=>bN 7 B.assign (bu 3 104 (bR 10 λz _=>cm 12 11 [115] 126 (bu 12 115 (bC 11) (bR 5 λI _=>bN 2 I.vars (bC 2))) λU=>Kg 1 5 [130] (λC=>(bz [Iv 1 p1,Pv 3,Pv 7,Iv 8 u,Bv 104 true,Pv 9,Bv 132 C] [Xb 3 G,Xb 7 B,Xb 9 z])) (bu 1 127 (bC 5) (jY 2 λW _=>bC 2)) λC=>bu 2 132 bg (dx 10 (λJ=>(bz [Iv 1 p1,Pv 3,Pv 7,Iv 8 u,Pv 9,Iv 10 J] [Xb 3 G,Xb 7 B,Xb 9 z])) (λD=>(2,(bz [Iv 1 p1,Pv 3,Pv 7,Iv 8 u] [Xb 3 G,Xb 7 B]))) (λD=>(bz [Iv 6 8] [])) (λJ=>bu 9 135 (bR 10 λX _=>bu 7 146 bg bg) bg) (λD=>bg) (λD=>bg))) bg)) (λw=>bg) (λw=>bg))))
end ey
def ey(B:Zj)(p1 i2:Int):Z6:=(idx B.procs p1).bind λw=>(idx w.events i2).bind λu=>bp (u.kind==1) ((bp (u.peer==0) (some (!(u.message==0))) (some true):aZ Zl).bind λz=>bp z (some 3) (ey.J1 p1 i2 B u)) ((bp (u.kind==2) (some false) (some (!(u.kind==3))):aZ Zl).bind λC=>(bp C (some true) (some (decide (u.peer<0))):aZ Zl).bind λD=>(bp D (some true) (some (decide (u.peer>=(len B.procs)))):aZ Zl).bind λG=>(bp G (some true) (some (u.peer==p1)):aZ Zl).bind λI=>(bp I (some true) (some (decide (u.message<0))):aZ Zl).bind λJ=>(bp J (some true) (some (decide (u.message>199))):aZ Zl).bind λL=>bp L (some 3) (ey.J1 p1 i2 B u))
open ey in
instance S7(B:Zj)(p1 i2:Int):Fc Sy cL (ey B p1 i2):=Fc.M 40 [enc B,.int .i64 p1,.int .i64 i2] (dm 2 3 B (bR 8 λw _=>bR 3 λu _=>ow 2 7 0 u (bu 10 22 (cm 7 4 [26] 30 (dA 7 26 (bC 4) (bC 4)) λz=>bu 2 30 bg (yx 4 (wo p1 i2 B u))) (cm 7 4 [34] 38 (dA 7 34 (bC 4) (bC 4)) λC=>cm 1 4 [39] 43 (bu 1 39 (bC 4) (bC 4)) λD=>cm 1 7 [44] 51 (bu 1 44 (bC 7) (bN 4 B.procs (bC 2))) λG=>cm 1 5 [52] 57 (bu 1 52 (bC 5) (bC 5)) λI=>cm 1 4 [58] 62 (bu 1 58 (bC 4) (bC 4)) λJ=>cm 1 4 [63] 67 (bu 1 63 (bC 4) (bC 4)) λL=>bu 2 67 bg (yx 4 (wo p1 i2 B u))))))
namespace iy
def bn(J:Zj)(O:a_)(G:Zn)(B:Zl)(U:Int):aZ (Fw (Zl×Int) Bool Empty):=(idx J.procs G.peer).bind λw=>bp (decide (U<(len w.events))) ((idx J.procs G.peer).bind λz=>(idx z.events U).bind λu=>(bp B (some true) ((bp (u.kind==2) (some (u.message==G.message)) (some false):aZ Zl).bind λC=>(bp C (some (u.peer==O.proc)) (some false):aZ Zl).bind λD=>some D):aZ Zl).bind λI=>some (.n (I,wrap .i64 (U+1)))) (some (.x B))
def W1(B:Zl)(U:Int)(G:Zj)(J:a_)(O:Zn):Z6:=(bM (λq:Zl×Int=>bn G J O q.1 q.2) (B,U)).bind (Fw.elim (λe=>bp e (some 0) (some 7)) (λe=>elim e))
end iy
def iy(B:Zj)(G:a_):Z6:=(ud B G).bind λu=>bp (u.kind==1) (some 0) ((dG B u.kind u.message).bind λw=>bp (IV w G) (bp (u.kind==3) (iy.W1 false 0 B G u) (some 0)) (some 8))
open iy in
instance QA(B:Zj)(G:a_):Fc Sy cL (iy B G):=Fc.M 41 [enc B,enc G] (dm 2 2 B (bA 8 λw _=>ow 1 5 0 w (bu 10 14 bg (jY 11 λI _=>dA 4 22 (bu 11 25 (eT 14 (λu=>(bz [Pv 2,Pv 3,Pv 5,Bv 6 u.1,Iv 7 u.2] [Xb 2 B,Xb 3 G,Xb 5 w])) (λz=>(0,(bz [Bv 6 z] []))) (λu=>bR 9 λC _=>bN 2 C.events (bu 3 35 (bR 11 λJ _=>bR 3 λD _=>ow 2 8 0 D (cm 5 18 [8,49] 67 (bu 5 49 (bC 18) (cm 4 6 [53] 59 (bu 4 53 (bC 6) (bC 6)) λL=>cm 1 6 [8,60] 66 (bu 1 60 (bC 6) (bC 6)) λO=>bC 1)) λQ=>bg)) bg)) (λz=>dA 8 69 bg bg)) bg) bg))))
namespace eD
def J4(B:Zg)(p5:Int)(G:Zj):aZ (Fw ((Zg)×Zl) ((Zg)×Zl) Empty):=(Sl.jc B p5).bind λu=>(Sl.get B u).bind λw=>(Sl.jc B p5).bind λz=>(Sl.put B z (wrap .i64 (w+1):Int)).bind λC=>some (.n (C,true))
def dN(p5:Int)(J:Zj)(B:Zg)(G:Zl):aZ (Fw ((Zg)×Zl) ((Zg)×Zl) Empty):=(Sl.jc B p5).bind λD=>(Sl.get B D).bind λI=>(idx J.procs p5).bind λL=>bp (decide (I<(len L.events))) ((idx J.procs p5).bind λO=>(Sl.jc B p5).bind λQ=>(Sl.get B Q).bind λS=>(idx O.events S).bind λu=>bp (u.kind==3) ((dG J 2 u.message).bind λw=>(Sl.jc B w.proc).bind λz=>(Sl.get B z).bind λC=>bp (decide (C<w.index)) (some (.x (B,G))) (J4 B p5 J)) (J4 B p5 J)) (some (.x (B,G)))
def W3(G:Zg)(B:Zl)(p5:Int)(J:Zj):aZ (Fw ((Zg)×Zl×Int) ((Zg)×Zl) Empty):=(bM (λq:(Zg)×Zl=>dN p5 J q.1 q.2) (G,B)).bind (Fw.elim (λe=>some (.n (e.1,e.2,wrap .i64 (p5+1)))) (λe=>elim e))
def bS(J:Zj)(G:Zg)(B:Zl)(p5:Int):aZ (Fw ((Zg)×Zl×Int) ((Zg)×Zl) Empty):=bp (decide (p5<(len J.procs))) (W3 G B p5 J) (some (.x (G,B)))
def W2(G:Zg)(B:Zl)(p5:Int)(J:Zj):aZ (Fw Zg Zg Empty):=(bM (λq:(Zg)×Zl×Int=>bS J q.1 q.2.1 q.2.2) (G,B,p5)).bind (Fw.elim (λe=>bp e.2 (some (.n e.1)) (some (.x e.1))) (λe=>elim e))
def qf(B:Zg)(G:Zj)(J:Int):aZ (Fw Int Unit Unit):=bp (decide (J<(len G.procs))) ((Sl.jc B J).bind λu=>(Sl.get B u).bind λw=>(idx G.procs J).bind λz=>bp (decide (w<(len z.events))) (some (.r ())) (some (.n (wrap .i64 (J+1))))) (some (.x ()))
def W5(B:Zg)(J:Int)(G:Zj):aZ Zl:=(bM (λq:Int=>qf B G q) J).bind (Fw.elim (λe=>some true) (λe=>some false))
def bn(G:Zj)(B:Zg):aZ (Fw Zg Zg Empty):=W2 B false 0 G
def W1(B:Zg)(G:Zj):aZ Zl:=(bM (λq:Zg=>bn G q) B).bind (Fw.elim (λe=>eD.W5 e 0 G) (λe=>elim e))
end eD
def eD(B:Zj):aZ Zl:=(od (len B.procs) (0:Int)).bind λu=>eD.W1 u B
open eD in
instance OD(B:Zj):Fc Sy cL (eD B):=Fc.M 42 [enc B] (dm 2 1 B (bN 7 B.procs (GK 0 12 λb _=>eT 7 (λO=>(bz [Pv 1,Ov 3] [Xb 1 B,Lb 2003 O])) (λD=>(0,(bz [Pv 1,Ov 3] [Xb 1 B,Lb 2003 D]))) (λO=>eT 17 (λw=>(bz [Pv 1,Ov 3,Bv 4 w.2.1,Iv 5 w.2.2] [Xb 1 B,Lb 2003 w.1])) (λG=>(2,(bz [Pv 1,Ov 3,Bv 4 G.2] [Xb 1 B,Lb 2003 G.1]))) (λw=>bN 8 B.procs (bu 3 17 (eT 8 (λI=>(bz [Pv 1,Ov 3,Bv 4 I.2,Iv 5 w.2.2] [Xb 1 B,Lb 2003 I.1])) (λJ=>(4,(bz [Pv 1,Ov 3,Bv 4 J.2,Iv 5 w.2.2] [Xb 1 B,Lb 2003 J.1]))) (λI=>jE .i64 7 2003 λc _=>pP 0 2003 0 1 false (λQ=>.int .i64 Q) λQ _=>bR 3 λZ _=>bN 2 Z.events (bu 3 31 (bR 9 λd _=>jE .i64 4 2003 λe _=>pP 0 2003 0 1 false (λS=>.int .i64 S) λS _=>bR 0 λa _=>ow 2 6 0 a (bu 10 46 (bA 6 λf _=>jE .i64 9 2003 λg _=>pP 0 2003 0 1 false (λz=>.int .i64 z) λz _=>bu 5 58 bg (wW 5 (jE .i64 4 2003 λT _=>pP 0 2003 0 1 false (λu=>.int .i64 u) λu _=>jE .i64 1 2003 λU _=>tB 0 2003 (.int .i64 (wrap .i64 (u+1))) λW _=>bg))) (wW 5 (jE .i64 4 2003 λT _=>pP 0 2003 0 1 false (λu=>.int .i64 u) λu _=>jE .i64 1 2003 λU _=>tB 0 2003 (.int .i64 (wrap .i64 (u+1))) λW _=>bg)))) bg)) (λJ=>bg)) bg)) (λG=>dA 8 66 bg bg)) (λD=>dx 11 (λX=>(bz [Pv 1,Ov 3,Iv 8 X] [Xb 1 B,Lb 2003 D])) (λL=>(6,(bz [] []))) (λL=>(bz [Bv 2 false] [])) (λX=>bN 8 B.procs (bu 3 71 (jE .i64 9 2003 λh _=>pP 0 2003 0 1 false (λC=>.int .i64 C) λC _=>bR 3 λY _=>bN 2 Y.events (bu 3 85 bg bg)) bg)) (λL=>bg) (λL=>bg)))))
instance Tt(t:Zj)(x:a_):Fc Sy cL (mU t x):=Fc.of (A:=λz:Zj×a_=>[enc z.1,enc z.2]) (E:=λr:Sl (Sl Zl)=>[enc r]) (p:=λz=>mU z.1 z.2) (n:=43) (z:=(t,x)) (kC.NY Zf Zf (λz r a=>O3 z.1 z.2 r a))
namespace cU
def dN(p6:Int)(B:Zj)(J:a_)(G:Int):aZ (Fw Int Unit (Int×a_)):=(idx B.procs p6).bind λw=>bp (decide (G<(len w.events))) ((ey B p6 G).bind λu=>bp (u==0) (some (.n (wrap .i64 (G+1)))) (some (.r (u,(⟨p6,wrap .i64 (G+1)⟩:a_))))) (some (.x ()))
def W3(p6 J:Int)(B:Zj)(G:a_):aZ (Fw Int Unit (Int×a_)):=(bM (λq:Int=>dN p6 B G q) J).bind (Fw.elim (λe=>some (.n (wrap .i64 (p6+1)))) (λe=>some (.r (e.1,e.2))))
def qf(J:Int)(G:Zj)(O:a_)(B:Int):aZ (Fw Int Unit (Int×a_)):=(idx G.procs J).bind λw=>bp (decide (B<(len w.events))) ((iy G (⟨J,wrap .i64 (B+1)⟩:a_)).bind λu=>bp (u==0) (some (.n (wrap .i64 (B+1)))) (some (.r (u,(⟨J,wrap .i64 (B+1)⟩:a_))))) (some (.x ()))
def W5(O B:Int)(G:Zj)(J:a_):aZ (Fw Int Unit (Int×a_)):=(bM (λq:Int=>qf O G J q) B).bind (Fw.elim (λe=>some (.n (wrap .i64 (O+1)))) (λe=>some (.r (e.1,e.2))))
def Jw(G:Int)(J:Zj)(O:a_)(B:Int):aZ (Fw Int Unit a_):=(idx J.procs G).bind λw=>bp (decide (B<(len w.events))) ((mU J (⟨G,wrap .i64 (B+1)⟩:a_)).bind λz=>(idx z G).bind λC=>(idx C (wrap .i64 (B+1))).bind λu=>bp u (some (.r (⟨G,wrap .i64 (B+1)⟩:a_))) (some (.n (wrap .i64 (B+1))))) (some (.x ()))
def W7(B G:Int)(J:Zj)(O:a_):aZ (Fw Int Unit a_):=(bM (λq:Int=>Jw B J O q) G).bind (Fw.elim (λe=>some (.n (wrap .i64 (B+1)))) (λe=>some (.r e)))
def IN(B:Zj)(J:a_)(G:Int):aZ (Fw Int Unit a_):=bp (decide (G<(len B.procs))) (W7 G 0 B J) (some (.x ()))
def W6(B:Int)(G:Zj)(J:a_):aZ (a_×Int):=(bM (λq:Int=>IN G J q) B).bind (Fw.elim (λe=>some (⟨0,0⟩,0)) (λe=>some (e,10)))
def u9(B:Zj)(G:a_)(J:Int):aZ (Fw Int Unit (Int×a_)):=bp (decide (J<(len B.procs))) (W5 J 0 B G) (some (.x ()))
def W4(J:Int)(B:Zj)(G:a_):aZ (a_×Int):=(bM (λq:Int=>u9 B G q) J).bind (Fw.elim (λe=>(eD B).bind λu=>bp u (some (⟨0,0⟩,0)) (cU.W6 0 B G)) (λe=>some (e.2,e.1)))
def bS(B:Zj)(G:a_)(p6:Int):aZ (Fw Int Unit (Int×a_)):=bp (decide (p6<(len B.procs))) (W3 p6 0 B G) (some (.x ()))
def W2(p6:Int)(B:Zj)(G:a_):aZ (a_×Int):=(bM (λq:Int=>bS B G q) p6).bind (Fw.elim (λe=>cU.W4 0 B G) (λe=>some (e.2,e.1)))
def bn(B:Zj)(G:a_)(p4:Int):aZ (Fw Int Unit (Int×a_)):=bp (decide (p4<(len B.procs))) ((eA B p4).bind λu=>bp (u==0) (some (.n (wrap .i64 (p4+1)))) (some (.r (u,(⟨p4,0⟩:a_))))) (some (.x ()))
def W1(p4:Int)(B:Zj)(G:a_):aZ (a_×Int):=(bM (λq:Int=>bn B G q) p4).bind (Fw.elim (λe=>cU.W2 0 B G) (λe=>some (e.2,e.1)))
end cU
def cU(B:Zj):aZ (a_×Int):=(bp (decide ((len B.procs)<1)) (some true) (some (decide ((len B.procs)>8))):aZ Zl).bind λu=>bp u (some (⟨0,0⟩,1)) (cU.W1 0 B (⟨0,0⟩:a_))
open cU in
instance Sm(B:Zj):Fc Sy cL (cU B):=Fc.M 22 [enc B] (dm 2 1 B (bN 9 B.procs (cm 2 5 [20] 25 (bu 2 20 (bC 5) (bN 2 B.procs (bC 2))) λa=>bu 2 25 bg (dx 11 (λQ=>(bz [Pv 1,Pv 2,Iv 4 Q] [Xb 1 B,Xb 2 (⟨0,0⟩:a_)])) (λu=>(0,(bz [Pv 1,Pv 2] [Xb 1 B,Xb 2 (⟨0,0⟩:a_)]))) (λu=>(bz [Pv 2,Iv 3 u.1] [Xb 2 u.2])) (λQ=>bN 7 B.procs (bu 3 31 (bA 9 λb _=>dA 9 38 bg bg) bg)) (λu=>dx 10 (λG=>(bz [Pv 1,Pv 2,Iv 6 G] [Xb 1 B,Xb 2 (⟨0,0⟩:a_)])) (λw=>(2,(bz [Pv 1,Pv 2] [Xb 1 B,Xb 2 (⟨0,0⟩:a_)]))) (λw=>(bz [Pv 2,Iv 3 w.1] [Xb 2 w.2])) (λG=>bN 7 B.procs (bu 3 46 (dx 12 (λS=>(bz [Pv 1,Pv 2,Iv 6 G,Iv 7 S] [Xb 1 B,Xb 2 (⟨0,0⟩:a_)])) (λz=>(4,(bz [Pv 1,Pv 2,Iv 6 G] [Xb 1 B,Xb 2 (⟨0,0⟩:a_)]))) (λz=>(bz [Pv 2,Iv 3 z.1] [Xb 2 z.2])) (λS=>bR 8 λW _=>bN 2 W.events (bu 3 57 (bA 10 λc _=>dA 9 65 bg bg) bg)) (λz=>bg) (λz=>bg)) bg)) (λw=>dx 10 (λI=>(bz [Pv 1,Pv 2,Iv 9 I] [Xb 1 B,Xb 2 (⟨0,0⟩:a_)])) (λC=>(6,(bz [Pv 1,Pv 2] [Xb 1 B,Xb 2 (⟨0,0⟩:a_)]))) (λC=>(bz [Pv 2,Iv 3 C.1] [Xb 2 C.2])) (λI=>bN 7 B.procs (bu 3 75 (dx 12 (λT=>(bz [Pv 1,Pv 2,Iv 9 I,Iv 10 T] [Xb 1 B,Xb 2 (⟨0,0⟩:a_)])) (λD=>(8,(bz [Pv 1,Pv 2,Iv 9 I] [Xb 1 B,Xb 2 (⟨0,0⟩:a_)]))) (λD=>(bz [Pv 2,Iv 3 D.1] [Xb 2 D.2])) (λT=>bR 8 λX _=>bN 2 X.events (bu 3 86 (bA 19 λd _=>dA 9 97 bg bg) bg)) (λD=>bg) (λD=>bg)) bg)) (λC=>bA 6 λZ _=>bu 2 101 bg (dx 11 (λJ=>(bz [Pv 1,Pv 2,Iv 13 J] [Xb 1 B,Xb 2 (⟨0,0⟩:a_)])) (λL=>(10,(bz [Pv 2] [Xb 2 (⟨0,0⟩:a_)]))) (λL=>(bz [Pv 2,Iv 3 10] [Xb 2 L])) (λJ=>bN 7 B.procs (bu 3 107 (dx 12 (λU=>(bz [Pv 1,Pv 2,Iv 13 J,Iv 14 U] [Xb 1 B,Xb 2 (⟨0,0⟩:a_)])) (λO=>(12,(bz [Pv 1,Pv 2,Iv 13 J] [Xb 1 B,Xb 2 (⟨0,0⟩:a_)]))) (λO=>(bz [Pv 2,Iv 3 10] [Xb 2 O])) (λU=>bR 8 λY _=>bN 2 Y.events (bu 3 118 (bA 19 λe _=>bR 1 λf _=>bR 3 λg _=>bu 3 134 bg bg) bg)) (λO=>bg) (λO=>bg)) bg)) (λL=>bg) (λL=>bg))) (λC=>bg)) (λw=>bg)) (λu=>bg)))))
def kE(B:Zj):aZ Zl:=(cU B).bind λu=>some (u.2==0)
instance SK(B:Zj):Fc Sy cL (kE B):=Fc.M 7 [enc B] (dm 2 1 B (bA 6 λu _=>bg))
def qy(G:Zg)(p1:Int):aZ Zg:=(mE (Sl.row []:Zg) G).bind λu=>(Sl.jc u p1).bind λw=>(Sl.get u w).bind λz=>(Sl.jc u p1).bind λB=>(Sl.put u B (wrap .i64 (z+1):Int)).bind λC=>some C
instance Te(B:Zg)(p1:Int):Fc Sy cL (qy B p1):=Fc.N 70 [enc B,.int .i64 p1] (uk 9 6 8 λw _=>jE .i64 9 8 λz _=>pP 0 8 0 1 false (λu=>.int .i64 u) λu _=>jE .i64 1 8 λC _=>tB 0 8 (.int .i64 (wrap .i64 (u+1))) λD _=>bg)
namespace mN
def bn(B:Zg)(G:Zj)(p5:Int):aZ (Fw Int Unit Unit):=bp (decide (p5<(len B))) ((idx B p5).bind λu=>(bp (decide (u<0)) (some true) ((idx B p5).bind λw=>(idx G.procs p5).bind λz=>some (decide (w>(len z.events)))):aZ Zl).bind λC=>bp C (some (.r ())) (some (.n (wrap .i64 (p5+1))))) (some (.x ()))
def W1(B:Zg)(p5:Int)(G:Zj):aZ Zl:=(bM (λq:Int=>bn B G q) p5).bind (Fw.elim (λe=>some true) (λe=>some false))
end mN
def mN(G:Zj)(B:Zg):aZ Zl:=bp ((len B)==(len G.procs)) (mN.W1 B 0 G) (some false)
open mN in
instance TB(G:Zj)(B:Zg):Fc Sy cL (mN G B):=Fc.M 89 [enc G,enc B] (dm 2 2 G (bN 7 B (bN 2 G.procs (dA 3 11 (dx 11 (λw=>(bz [Cv 1 B,Pv 2,Iv 5 w] [Xb 2 G])) (λu=>(0,(bz [] []))) (λu=>(bz [Bv 4 false] [])) (λw=>bN 6 B (bu 3 15 (bR 9 λC _=>cm 3 13 [23] 36 (bu 3 23 (bC 13) (bR 2 λD _=>bR 4 λz _=>bN 2 z.events (bC 2))) λI=>bu 2 36 bg bg) bg)) (λu=>bg) (λu=>bg)) bg))))
namespace dK
def bS(B:Zg)(p5:Int)(G:Zj)(J:Int):aZ (Fw Int Unit Unit):=(idx B p5).bind λz=>bp (decide (J<z)) ((idx G.procs p5).bind λC=>(idx C.events J).bind λu=>bp (u.kind==3) ((dG G 2 u.message).bind λw=>(idx B w.proc).bind λD=>bp (decide (w.index>D)) (some (.r ())) (some (.n (wrap .i64 (J+1))))) (some (.n (wrap .i64 (J+1))))) (some (.x ()))
def W2(B:Zg)(p5 J:Int)(G:Zj):aZ (Fw Int Unit Unit):=(bM (λq:Int=>bS B p5 G q) J).bind (Fw.elim (λe=>some (.n (wrap .i64 (p5+1)))) (λe=>some (.r ())))
def bn(B:Zg)(G:Zj)(p5:Int):aZ (Fw Int Unit Unit):=bp (decide (p5<(len B))) (W2 B p5 0 G) (some (.x ()))
def W1(B:Zg)(p5:Int)(G:Zj):aZ Zl:=(bM (λq:Int=>bn B G q) p5).bind (Fw.elim (λe=>some true) (λe=>some false))
end dK
def dK(G:Zj)(B:Zg):aZ Zl:=dK.W1 B 0 G
open dK in
instance Ly(G:Zj)(B:Zg):Fc Sy cL (dK G B):=Fc.M 90 [enc G,enc B] (dm 2 2 G (dx 11 (λu=>(bz [Cv 1 B,Pv 2,Iv 5 u] [Xb 2 G])) (λw=>(0,(bz [] []))) (λw=>(bz [Bv 4 false] [])) (λu=>bN 6 B (bu 3 12 (dx 12 (λC=>(bz [Cv 1 B,Pv 2,Iv 5 u,Iv 6 C] [Xb 2 G])) (λz=>(2,(bz [Cv 1 B,Pv 2,Iv 5 u] [Xb 2 G]))) (λz=>(bz [Bv 4 false] [])) (λC=>bR 7 λI _=>bu 4 20 (bR 10 λJ _=>bR 3 λD _=>ow 2 7 0 D (bu 9 34 (bA 6 λL _=>bR 11 λO _=>bu 4 46 bg bg) bg)) bg) (λz=>bg) (λz=>bg)) bg)) (λw=>bg) (λw=>bg)))
def vV(B:Zj)(G:Zg):aZ Zl:=(mN B G).bind λu=>(bp u ((dK B G).bind λw=>some w) (some false):aZ Zl).bind λz=>some z
instance UU(B:Zj)(G:Zg):Fc Sy cL (vV B G):=Fc.M 69 [enc B,enc G] (dm 2 2 B (bA 7 λu _=>cm 1 4 [1,2,8] 12 (bu 1 8 (bA 2 λw _=>bC 1) (bC 4)) λz=>bg))
namespace iT
def bn(J:Zg)(G:Zj)(B:Zb)(p6:Int):aZ (Fw ((Zb)×Int) Zb Empty):=bp (decide (p6<(len J))) ((idx J p6).bind λu=>(idx G.procs p6).bind λw=>(bp (decide (u<(len w.events))) ((qy J p6).bind λz=>(vV G z).bind λC=>some C) (some false):aZ Zl).bind λD=>bp D ((qy J p6).bind λI=>(fP B (I:Zg)).bind λL=>some (.n (L,wrap .i64 (p6+1)))) (some (.n (B,wrap .i64 (p6+1))))) (some (.x B))
def W1(J:Zg)(B:Zb)(p6:Int)(G:Zj):aZ Zb:=(bM (λq:(Zb)×Int=>bn J G q.1 q.2) (B,p6)).bind (Fw.elim (λe=>some e) (λe=>elim e))
end iT
def iT(B:Zj)(G:Zg):aZ Zb:=iT.W1 G (Sl.nil:Zb) 0 B
open iT in
instance To(B:Zj)(G:Zg):Fc Sy cL (iT B G):=Fc.N 44 [enc B,enc G] (dm 2 2 B (eT 17 (λu=>(bz [Cv 1 G,Pv 2,Ov 5,Iv 6 u.2] [Xb 2 B,Lb 2005 u.1])) (λw=>(0,(bz [Ov 5] [Lb 2005 w]))) (λu=>bN 7 G (bu 3 10 (bR 9 λI _=>bR 4 λC _=>bN 2 C.events (Kg 2 6 [30,29] (λz=>(bz [Cv 1 G,Pv 2,Ov 5,Iv 6 u.2,Bv 10 true,Bv 31 z] [Xb 2 B,Lb 2005 u.1])) (bu 2 25 (bA 3 λJ _=>jY 0 λL _=>bC 1) (bC 6)) λz=>bu 2 31 (bA 5 λD _=>ua 0 36 ([D]:aY Zg) (lG 0 2005 36 37 λO _=>bg)) bg)) bg)) (λw=>bg)))
namespace fI
def bn(B:Zg)(G i4:Int):aZ (Fw (Int×Int) Int Empty):=bp (decide (i4<(len B))) ((idx B i4).bind λu=>some (.n (wrap .i64 (G+u),wrap .i64 (i4+1)))) (some (.x G))
def W1(B:Zg)(G i4:Int):Z6:=(bM (λq:Int×Int=>bn B q.1 q.2) (G,i4)).bind (Fw.elim (λe=>some e) (λe=>elim e))
end fI
def fI(B:Zg):Z6:=fI.W1 B 0 0
open fI in
instance Ti(B:Zg):Fc Sy cL (fI B):=Fc.M 58 [enc B] (eT 18 (λu=>(bz [Cv 0 B,Iv 3 u.1,Iv 4 u.2] [])) (λw=>(0,(bz [Iv 3 w] []))) (λu=>bN 6 B (bu 3 8 (bR 9 λz _=>bg) bg)) (λw=>bg))
namespace gC
def bn(a0 G:Zg)(B:Int):aZ (Fw Int Unit Zl):=bp (decide (B<(len a0))) ((idx a0 B).bind λu=>(idx G B).bind λw=>bp (u==w) (some (.n (wrap .i64 (B+1)))) ((idx a0 B).bind λz=>(idx G B).bind λC=>some (.r (decide (z<C))))) (some (.x ()))
def W1(a0 B:Zg)(G:Int):aZ Zl:=(bM (λq:Int=>bn a0 B q) G).bind (Fw.elim (λe=>some false) (λe=>some e))
end gC
def gC(a0 B:Zg):aZ Zl:=(fI a0).bind λu=>(fI B).bind λw=>bp (u==w) (gC.W1 a0 B 0) ((fI a0).bind λz=>(fI B).bind λC=>some (decide (z<C)))
open gC in
instance QB(a0 B:Zg):Fc Sy cL (gC a0 B):=Fc.M 71 [enc a0,enc B] (bA 9 λz _=>bA 1 λC _=>dA 3 10 (dx 11 (λw=>(bz [Cv 0 a0,Cv 1 B,Iv 5 w] [])) (λu=>(0,(bz [] []))) (λu=>(bz [Bv 4 u] [])) (λw=>bN 6 a0 (bu 3 19 (bR 9 λD _=>bR 3 λG _=>dA 4 30 bg (bR 5 λI _=>bR 3 λJ _=>bg)) bg)) (λu=>bg) (λu=>bg)) (bA 4 λL _=>bA 1 λO _=>bg))
namespace dZ
def bn(a0 G:Zg)(B:Int):aZ (Fw Int Unit Unit):=bp (decide (B<(len a0))) ((idx a0 B).bind λu=>(idx G B).bind λw=>bp (u==w) (some (.n (wrap .i64 (B+1)))) (some (.r ()))) (some (.x ()))
def W1(a0 B:Zg)(G:Int):aZ Zl:=(bM (λq:Int=>bn a0 B q) G).bind (Fw.elim (λe=>some true) (λe=>some false))
end dZ
def dZ(a0 B:Zg):aZ Zl:=bp ((len a0)==(len B)) (dZ.W1 a0 B 0) (some false)
open dZ in
instance Ny(a0 B:Zg):Fc Sy cL (dZ a0 B):=Fc.M 72 [enc a0,enc B] (bN 9 a0 (bN 1 B (dA 3 10 (dx 11 (λw=>(bz [Cv 0 a0,Cv 1 B,Iv 5 w] [])) (λu=>(0,(bz [] []))) (λu=>(bz [Bv 4 false] [])) (λw=>bN 6 a0 (bu 3 14 (bR 9 λz _=>bR 3 λC _=>dA 4 25 bg bg) bg)) (λu=>bg) (λu=>bg)) bg)))
namespace gB
def bn(G:Zb)(J:Zg)(B:Int):aZ (Fw Int Int Empty):=(bp (decide (B<(len G))) ((idx G B).bind λu=>(gC u J).bind λw=>some w) (some false):aZ Zl).bind λz=>bp z (some (.n (wrap .i64 (B+1)))) (some (.x B))
def W1(B:Zb)(J:Zg)(G:Int):aZ Zb:=(bM (λq:Int=>bn B J q) G).bind (Fw.elim (λe=>(bp (decide (e<(len B))) ((idx B e).bind λz=>(dZ z J).bind λC=>some C) (some false):aZ Zl).bind λD=>bp D (some B) ((fN B none (some e)).bind λI=>(mE (Sl.row []:Zb) I).bind λL=>(fP L (J:Zg)).bind λO=>(fN B (some e) none).bind λu=>(mE O u).bind λw=>some w)) (λe=>elim e))
end gB
def gB(B:Zb)(G:Zg):aZ Zb:=gB.W1 B G 0
open gB in
instance QS(B:Zb)(G:Zg):Fc Sy cL (gB B G):=Fc.N 45 [enc B,enc G] (eT 13 (λw=>(bz [Cv 0 B,Cv 1 G,Iv 5 w] [])) (λu=>(0,(bz [Cv 0 B,Cv 1 G,Iv 5 u] []))) (λw=>bN 6 B (cm 2 7 [11] 18 (bu 2 11 (bR 2 λD _=>bA 2 λI _=>bC 1) (bC 7)) λJ=>bu 2 18 bg bg)) (λu=>bN 7 B (cm 2 7 [25] 32 (bu 2 25 (bR 2 λL _=>bA 2 λO _=>bC 1) (bC 7)) λQ=>bu 2 32 bg (ua 5 34 ([]:aY Zg) (z_ 2 false true [.int .i64 u] λS _=>uk 0 34 38 λT _=>ua 7 41 ([G]:aY Zg) (lG 0 38 41 42 λU _=>z_ 8 true false [.int .i64 u] λz _=>uk 0 42 47 λC _=>bg))))))
namespace dM
def dN(G J:Zb)(W:Int)(O:Zb)(U:Zj)(B:Zb)(k9:Int):aZ (Fw ((Zb)×Int) Zb Empty):=bp (decide (k9<(len O))) ((idx O k9).bind λu=>(gB B u).bind λw=>some (.n (w,wrap .i64 (k9+1)))) (some (.x B))
def W3(B J G:Zb)(U:Int)(W:Zb)(k9:Int)(O:Zj):aZ (Fw ((Zb)×Int) Zb Empty):=(bM (λq:(Zb)×Int=>dN B J U W O q.1 q.2) (G,k9)).bind (Fw.elim (λe=>some (.n (e,wrap .i64 (U+1)))) (λe=>elim e))
def bS(B J:Zb)(O:Zj)(G:Zb)(U:Int):aZ (Fw ((Zb)×Int) Zb Empty):=bp (decide (U<(len B))) ((idx B U).bind λu=>(iT O u).bind λw=>W3 B J G U w 0 O) (some (.x G))
def W2(B G J:Zb)(U:Int)(O:Zj):aZ (Fw ((Zb)×(Zb)) Zb Unit):=(bM (λq:(Zb)×Int=>bS B G O q.1 q.2) (J,U)).bind (Fw.elim (λe=>some (.n (e,G))) (λe=>elim e))
def bn(J:Zj)(B G:Zb):aZ (Fw ((Zb)×(Zb)) Zb Unit):=bp (decide ((len B)>0)) ((mE G B).bind λu=>bp (decide ((len u)>5000)) (some (.r ())) (W2 B u (Sl.nil:Zb) 0 J)) (some (.x G))
def W1(B G:Zb)(J:Zj):aZ ((Zb)×Zl):=(bM (λq:(Zb)×(Zb)=>bn J q.1 q.2) (B,G)).bind (Fw.elim (λe=>some (e,true)) (λe=>some ((Sl.nil:Zb),false)))
end dM
def dM(B:Zj):aZ ((Zb)×Zl):=(od (len B.procs) (0:Int)).bind λu=>dM.W1 (Sl.row [u]:Zb) (Sl.nil:Zb) B
open dM in
instance Ta(B:Zj):Fc Sy cL (dM B):=Fc.N 23 [enc B] (dm 2 1 B (bN 8 B.procs (GK 0 13 λL _=>ua 1 14 ([L]:aY Zg) (dx 13 (λu=>(bz [Pv 1,Cv 4 u.1,Ov 5] [Xb 1 B,Lb 2005 u.2])) (λC=>(0,(bz [Ov 5] [Lb 2005 C]))) (λC=>(bz [Ov 2,Bv 3 false] [Lb 2002 (Sl.nil:Zb)])) (λu=>bN 7 u.1 (bu 3 17 (uk 8 2005 20 λw _=>Dn 7 20 w (bu 3 23 bg (eT 18 (λz=>(bz [Pv 1,Cv 4 u.1,Ov 5,Cv 6 z.1,Iv 7 z.2] [Xb 1 B,Lb 2005 w])) (λG=>(2,(bz [Pv 1,Ov 5,Cv 6 G] [Xb 1 B,Lb 2005 w]))) (λz=>bN 8 u.1 (bu 3 27 (bR 10 λO _=>bA 1 λI _=>eT 12 (λD=>(bz [Pv 1,Cv 4 u.1,Ov 5,Cv 6 D.1,Iv 7 z.2,Cv 8 I,Iv 9 D.2] [Xb 1 B,Lb 2005 w])) (λJ=>(4,(bz [Pv 1,Cv 4 u.1,Ov 5,Cv 6 J,Iv 7 z.2] [Xb 1 B,Lb 2005 w]))) (λD=>bN 8 I (bu 3 39 (bR 9 λQ _=>bA 1 λS _=>bg) bg)) (λJ=>bg)) bg)) (λG=>bg)))) bg)) (λC=>bg) (λC=>bg)))))
def vo(B:Zj):aZ Zl:=(dM B).bind λu=>(bp u.2 (some (decide ((len u.1)<=400))) (some false):aZ Zl).bind λw=>some w
instance SX(B:Zj):Fc Sy cL (vo B):=Fc.M 8 [enc B] (dm 2 1 B (bA 6 λu _=>cm 11 4 [3,11] 15 (bu 11 11 (bN 1 u.1 (bC 2)) (bC 4)) λw=>bg))
def mT(J G B:Int):aZ Zl:=(bp (decide (J>=G)) (some (decide (J<=B))) (some false):aZ Zl).bind λu=>some u
instance VH(J G B:Int):Fc Sy cL (mT J G B):=Fc.M 104 [.int .i64 J,.int .i64 G,.int .i64 B] (cm 11 4 [0,2,10] 14 (bu 11 10 (bC 4) (bC 4)) λu=>bg)
def pT(B:Int):aZ Zl:=(bp (decide (B>=97)) (some (decide (B<=122))) (some false):aZ Zl).bind λu=>(bp u (some true) ((bp (decide (B>=65)) (some (decide (B<=90))) (some false):aZ Zl).bind λw=>some w):aZ Zl).bind λz=>some z
instance R9(B:Int):Fc Sy cL (pT B):=Fc.M 167 [.int .u8 B] (cm 10 3 [5] 8 (bu 10 5 (bC 3) (bC 3)) λu=>cm 1 7 [0,9] 16 (bu 1 9 (bC 7) (cm 3 3 [0,12] 15 (bu 3 12 (bC 3) (bC 3)) λw=>bC 1)) λz=>bg)
def tQ(B:Int):aZ Zl:=(bp (decide (B>=48)) (some (decide (B<=57))) (some false):aZ Zl).bind λu=>some u
instance S8(B:Int):Fc Sy cL (tQ B):=Fc.M 168 [.int .u8 B] (cm 10 3 [0,5] 8 (bu 10 5 (bC 3) (bC 3)) λu=>bg)
namespace fU
def bn(G:Zq)(J:Int)(B:Int):aZ (Fw Int Unit Unit):=bp (decide (B<J)) ((kD G B).bind λz=>(pT z).bind λC=>(bp C (some false) ((kD G B).bind λD=>(tQ D).bind λI=>some (!I)):aZ Zl).bind λL=>(bp L ((kD G B).bind λu=>some (!(u==95))) (some false):aZ Zl).bind λw=>bp w (some (.r ())) (some (.n (wrap .i64 (B+1))))) (some (.x ()))
def W1(J:Zq)(B G:Int):aZ Zl:=(bM (λq:Int=>bn J B q) G).bind (Fw.elim (λe=>some true) (λe=>some false))
end fU
def fU(B:Zq):aZ Zl:=(bp (toList B==toList ByteArray.empty) (some true) (some (decide (((ByteArray.size B:Nat):Int)>16))):aZ Zl).bind λu=>(bp u (some true) ((kD B 0).bind λw=>(pT w).bind λz=>some (!z)):aZ Zl).bind λC=>bp C (some false) (fU.W1 B ((ByteArray.size B:Nat):Int) 0)
open fU in
instance Se(B:Zq):Fc Sy cL (fU B):=Fc.M 131 [.str B] (cm 11 4 [6] 10 (bu 11 6 (bC 4) (bC 4)) λD=>cm 1 5 [11] 16 (bu 1 11 (bC 5) (zK 1 .i64 λG _=>bA 0 λI _=>bC 2)) λJ=>bu 2 16 bg (dx 13 (λw=>(bz [(0,.v (.str B)),Iv 18 ((ByteArray.size B:Nat):Int),Iv 19 w] [])) (λu=>(0,(bz [] []))) (λu=>(bz [Bv 2 false] [])) (λw=>bu 7 20 (zK 15 .i64 λL _=>bA 0 λO _=>cm 2 6 [27] 33 (dA 2 27 (bC 6) (zK 2 .i64 λQ _=>bA 0 λS _=>bC 2)) λT=>cm 1 5 [3,34] 39 (bu 1 34 (zK 2 .i64 λz _=>bC 2) (bC 5)) λC=>bu 2 39 bg bg) bg) (λu=>bg) (λu=>bg)))
def jk(B G:cg):aZ Zl:=some (toList B.name==toList G.name)
instance H6(B G:cg):Fc Sy cL (jk B G):=Fc.M 133 [enc B,.fptr (cells G)] (dm 2 2 B bg)
namespace gb
def bn(G:Sl cg)(J:Int)(B:Int)(p1:cg->aZ Zl):aZ (Fw Int Unit Int):=bp (decide (B<J)) ((idx G B).bind λu=>(p1 u).bind λw=>bp w (some (.r B)) (some (.n (wrap .i64 (B+1))))) (some (.x ()))
def W1(B:Sl cg)(G J:Int)(p1:cg->aZ Zl):Z6:=(bM (λq:Int=>bn B G q p1) J).bind (Fw.elim (λe=>some (-1)) (λe=>some e))
end gb
def gb(B:Sl cg)(p1:cg->aZ Zl):Z6:=gb.W1 B (len B) 0 p1
open gb in
abbrev vJ(g1:FuncId)(e1:aY V)(p1:cg->aZ Bool)(a:qp Sy cL g1 [] e1 (λz:cg=>[enc z]) (λr:Bool=>[.bool r]) p1 true)(B:Sl cg):Fc Sy cL (gb B p1):=Fc.M 169 [enc B,.clo g1 [] e1] (bN 9 B (dx 5 (λw=>(bz [Cv 0 B,(1,.v (.clo g1 [] e1)),Iv 7 (len B),Iv 8 w] [])) (λu=>(0,(bz [] []))) (λu=>(bz [Iv 4 u] [])) (λw=>bu 7 9 (bR 16 λC _=>AP 1 a.f C λD _=>bu 2 16 bg bg) bg) (λu=>bg) (λu=>bg)))
def h_(B:Sl cg)(p1:cg->aZ Zl):aZ Zl:=(gb B p1).bind λu=>some (decide (u>=0))
abbrev uF(g1:FuncId)(e1:aY V)(p1:cg->aZ Bool)(a:qp Sy cL g1 [] e1 (λz:cg=>[enc z]) (λr:Bool=>[.bool r]) p1 true)(B:Sl cg):Fc Sy cL (h_ B p1):=Fc.M 132 [enc B,.clo g1 [] e1] (bA (F:=vJ g1 e1 p1 a B) 9 λu _=>bg)
def jr(B G:Var):aZ Zl:=some (toList B.name==toList G.name)
instance HZ(B G:Var):Fc Sy cL (jr B G):=Fc.M 134 [enc B,.fptr (cells G)] (bg)
namespace eM
def bn(G:Sl Var)(J:Int)(O:cg)(B:Int):aZ (Fw Int Unit Int):=bp (decide (B<J)) ((idx G B).bind λu=>(fU u.name).bind λD=>(bp D ((fN O.vars none (some B)).bind λI=>(gu I (λz=>jr z u)).bind λL=>some L) (some true):aZ Zl).bind λw=>bp w (some (.r 13)) ((mT u.init_ (-1073741824) 1073741824).bind λC=>bp C (some (.n (wrap .i64 (B+1)))) (some (.r 2)))) (some (.x ()))
def W1(G:Sl Var)(J O:Int)(B:cg):Z6:=(bM (λq:Int=>bn G J B q) O).bind (Fw.elim (λe=>bp (decide ((len B.events)>64)) (some 5) (some 0)) (λe=>some e))
end eM
def eM(G:Zj)(p1:Int):Z6:=(idx G.procs p1).bind λu=>(fU u.name).bind λw=>(bp w ((fN G.procs none (some p1)).bind λB=>(h_ B (λz=>jk z u)).bind λC=>some C) (some true):aZ Zl).bind λD=>bp D (some 13) (bp (decide ((len u.vars)>8)) (some 5) (eM.W1 u.vars (len u.vars) 0 u))
open eM in
instance K3(G:Zj)(p1:Int):Fc Sy cL (eM G p1):=Fc.M 105 [enc G,.int .i64 p1] (dm 2 2 G (bR 8 λu _=>ow 2 5 0 u (bA 8 λO _=>cm 2 7 [1,2,18] 25 (dA 2 18 (z_ 3 false true [.int .i64 p1] λD _=>jY (F:=uF 133 [.fptr (cells u)] (λz=>jk z u) qp.wv D) 1 λQ _=>bC 1) (bC 7)) λS=>bu 3 13 bg (bN 5 u.vars (bu 4 26 bg (bN 9 u.vars (dx 5 (λB=>(bz [Pv 5,Cv 32 u.vars,Iv 33 (len u.vars),Iv 34 B] [Xb 5 u])) (λw=>(1,(bz [Pv 5] [Xb 5 u]))) (λw=>(bz [Iv 4 w] [])) (λB=>bu 7 35 (bR 8 λC _=>bA 11 λT _=>cm 2 7 [6,44] 51 (dA 2 44 (z_ 3 false true [.int .i64 B] λI _=>jY (F:=o_ 134 [.fptr (cells C)] (λz=>jr z C) qp.wv I) 1 λU _=>bC 1) (bC 7)) λJ=>bu 3 39 bg (bA 5 λL _=>dA 4 52 bg bg)) bg) (λw=>bN 7 u.events (bu 3 61 bg bg)) (λw=>bg))))))))
def jI(B:Zj):aZ Zj:=some B
instance SU(B:Zj):Fc Sy cL (jI B):=Fc.NE (λr:Zj=>[(.clo 135 [] [.fptr (cells r)])]) 106 [enc B] (dm 2 1 B bg)
namespace ir
def J1(p1:Int)(G:Zl)(J:Zj)(B:Zn):aZ Zl:=bp G ((mT B.peer 0 (wrap .i64 ((len J.procs)-1))).bind λu=>(bp u (some (!(B.peer==p1))) (some false):aZ Zl).bind λw=>(bp w ((mT B.message 0 199).bind λz=>some z) (some false):aZ Zl).bind λC=>some C) (some false)
end ir
def ir(B:Zj)(p1:Int)(e2:Zn):aZ Zl:=bp (e2.kind==1) ((bp (e2.peer==0) (some (e2.message==0)) (some false):aZ Zl).bind λu=>some u) (bp (e2.kind==2) (ir.J1 p1 true B e2) (ir.J1 p1 (e2.kind==3) B e2))
open ir in
instance Rt(B:Zj)(p1:Int)(e2:Zn):Fc Sy cL (ir B p1 e2):=Fc.M 136 [enc B,.int .i64 p1,enc e2] (dm 2 3 B (dm 0 5 e2 (bu 17 9 (cm 7 4 [5,14] 18 (bu 7 14 (bC 4) (bC 4)) λD=>bg) (bu 8 19 (wW 4 (bu 0 19 (bN 7 B.procs (bA 1 λu _=>cm 1 5 [1,29] 34 (bu 1 29 (bC 5) (bC 5)) λw=>cm 1 4 [5,35] 39 (bu 1 35 (bA 2 λz _=>bC 1) (bC 4)) λC=>bg)) bg)) (wW 7 (bu 0 19 (bN 7 B.procs (bA 1 λu _=>cm 1 5 [1,29] 34 (bu 1 29 (bC 5) (bC 5)) λw=>cm 1 4 [5,35] 39 (bu 1 35 (bA 2 λz _=>bC 1) (bC 4)) λC=>bg)) bg))))))
def jZ(B G:Assign):aZ Zl:=some (B.var==G.var)
instance IM(B G:Assign):Fc Sy cL (jZ B G):=Fc.M 138 [enc B,.fptr (cells G)] (bg)
namespace fm
def bn(G:Sl Assign)(J:Int)(B:Int)(p1:Assign->aZ Zl):aZ (Fw Int Unit Int):=bp (decide (B<J)) ((idx G B).bind λu=>(p1 u).bind λw=>bp w (some (.r B)) (some (.n (wrap .i64 (B+1))))) (some (.x ()))
def W1(B:Sl Assign)(G J:Int)(p1:Assign->aZ Zl):Z6:=(bM (λq:Int=>bn B G q p1) J).bind (Fw.elim (λe=>some (-1)) (λe=>some e))
end fm
def fm(B:Sl Assign)(p1:Assign->aZ Zl):Z6:=fm.W1 B (len B) 0 p1
open fm in
abbrev uO(g1:FuncId)(e1:aY V)(p1:Assign->aZ Bool)(a:qp Sy cL g1 [] e1 (λz:Assign=>[enc z]) (λr:Bool=>[.bool r]) p1 true)(B:Sl Assign):Fc Sy cL (fm B p1):=Fc.M 170 [enc B,.clo g1 [] e1] (bN 9 B (dx 5 (λw=>(bz [Cv 0 B,(1,.v (.clo g1 [] e1)),Iv 7 (len B),Iv 8 w] [])) (λu=>(0,(bz [] []))) (λu=>(bz [Iv 4 u] [])) (λw=>bu 7 9 (bR 16 λC _=>AP 1 a.f C λD _=>bu 2 16 bg bg) bg) (λu=>bg) (λu=>bg)))
def gE(B:Sl Assign)(p1:Assign->aZ Zl):aZ Zl:=(fm B p1).bind λu=>some (decide (u>=0))
abbrev tu(g1:FuncId)(e1:aY V)(p1:Assign->aZ Bool)(a:qp Sy cL g1 [] e1 (λz:Assign=>[enc z]) (λr:Bool=>[.bool r]) p1 true)(B:Sl Assign):Fc Sy cL (gE B p1):=Fc.M 137 [enc B,.clo g1 [] e1] (bA (F:=uO g1 e1 p1 a B) 9 λu _=>bg)
namespace dB
def bS(G:Sl Assign)(J:Int)(O:Zn)(U:cg)(B:Int):aZ (Fw Int Unit Int):=bp (decide (B<J)) ((idx G B).bind λu=>(mT u.var 0 (wrap .i64 ((len U.vars)-1))).bind λD=>(bp D ((mT u.value (-1073741824) 1073741824).bind λI=>some (!I)) (some true):aZ Zl).bind λL=>bp L (some (.r 2)) ((fN O.assign none (some B)).bind λw=>(gE w (λz=>jZ z u)).bind λC=>bp C (some (.r 8)) (some (.n (wrap .i64 (B+1)))))) (some (.x ()))
def W2(B:Sl Assign)(G J:Int)(O:Zn)(U:cg):Z6:=(bM (λq:Int=>bS B G O U q) J).bind (Fw.elim (λe=>some 0) (λe=>some e))
def J1(G:Int)(O:Zj)(J:a_)(B:Zn)(U:cg):Z6:=(ir O J.proc B).bind λu=>bp u ((mT B.time 0 1099511627776).bind λw=>(bp w (some (decide (B.time<G))) (some true):aZ Zl).bind λz=>bp z (some 11) (bp (decide ((len B.assign)>8)) (some 5) (dB.W2 B.assign (len B.assign) 0 B U))) (some 3)
theorem wo(G:Int)(U:Zj)(O:a_)(B:Zn)(J:cg):Le ((J1 G U O B J).bind (λr=>some [.int .i64 r])) (b7 Sy cL (qu (tr Tx 107)) (oc (tb Tx 107) [1,1,1,1,0] [] (bz [Pv 3,Pv 4,Pv 5,Pv 7,Iv 8 G] [Xb 3 U,Xb 4 O,Xb 5 B,Xb 7 J]))):=bA 8 λL _=>dA 4 28 (bA 5 λQ _=>cm 2 5 [8,40] 45 (dA 2 40 (bC 5) (bC 5)) λS=>bu 3 35 bg (bN 5 B.assign (bu 4 46 bg (bN 9 B.assign (dx 5 (λw=>(bz [Pv 5,Pv 7,Cv 52 B.assign,Iv 53 (len B.assign),Iv 54 w] [Xb 5 B,Xb 7 J])) (λu=>(1,(bz [] []))) (λu=>(bz [Iv 6 u] [])) (λw=>bu 7 55 (bR 8 λC _=>bN 13 J.vars (bA 1 λT _=>cm 2 5 [68] 73 (dA 2 68 (bA 2 λW _=>bC 2) (bC 5)) λX=>bu 3 59 bg (z_ 6 false true [.int .i64 w] λD _=>jY (F:=tu 138 [.fptr (cells C)] (λz=>jZ z C) qp.wv D) 1 λI _=>bu 3 74 bg bg))) bg) (λu=>bg) (λu=>bg)))))) bg
end dB
def dB(G:Zj)(B:a_)(e2:Zn):Z6:=(idx G.procs B.proc).bind λu=>bp (decide (B.index>1)) ((idx u.events (wrap .i64 (B.index-2))).bind λw=>dB.J1 w.time G B e2 u) (dB.J1 0 G B e2 u)
open dB in
instance LP(G:Zj)(B:a_)(e2:Zn):Fc Sy cL (dB G B e2):=Fc.M 107 [enc G,enc B,enc e2] (dm 2 3 G (dm 1 5 e2 (bR 9 λu _=>ow 2 7 0 u (bu 15 19 (bR 7 λw _=>yx 6 (wo w.time G B e2 u)) (yx 4 (wo 0 G B e2 u))))))
def pZ(e0:Zn)(B G:Int):aZ Zl:=(bp (e0.kind==2) (some (e0.message==B)) (some false):aZ Zl).bind λu=>(bp u (some (e0.peer==G)) (some false):aZ Zl).bind λw=>some w
instance Oc(e0:Zn)(B G:Int):Fc Sy cL (pZ e0 B G):=Fc.M 171 [enc e0,.fptr (cells B),.fptr (cells G)] (dm 2 3 e0 (cm 9 5 [1,8] 13 (bu 9 8 (bC 5) (bC 5)) λu=>cm 1 5 [2,3,14] 19 (bu 1 14 (bC 5) (bC 5)) λw=>bg))
def tH(G:Zj)(p1 J B:Int):aZ Zl:=(idx G.procs p1).bind λu=>(gR u.events (λz=>pZ z J B)).bind λw=>some w
instance Tq(J:Zj)(p1 G B:Int):Fc Sy cL (tH J p1 G B):=Fc.M 139 [enc J,.int .i64 p1,.int .i64 G,.int .i64 B] (dm 2 4 J (bR 10 λu _=>jY (F:=nR 171 [.fptr (cells G),.fptr (cells B)] (λz=>pZ z G B) qp.wv u.events) 3 λw _=>bg))
namespace eN
def sR(G J:Zj)(O:aZ (bU 200 bt))(U:a_)(W:Int)(x:a_×Zn)(B:bU 200 bt):aZ (Fw (bU 200 bt) Empty (a_×Int×(bU 200 bt))):=bp (x.2.kind==2) ((bU.at B x.2.message).bind λu=>bp (decide (u.from_.index>0)) (some (.r (x.1,8,B))) ((bU.at B x.2.message).bind λw=>some (.n (bU.set B x.2.message (⟨x.1,w.to_⟩:bt))))) (bp (x.2.kind==3) ((bU.at B x.2.message).bind λz=>bp (decide (z.to_.index>0)) (some (.r (x.1,8,B))) ((tH J x.2.peer x.2.message x.1.proc).bind λC=>bp C ((bU.at B x.2.message).bind λD=>some (.n (bU.set B x.2.message (⟨D.from_,x.1⟩:bt)))) (some (.r (x.1,7,B))))) (some (.n B)))
def E1(B J:Zj)(O:aZ (bU 200 bt))(U:a_)(W:Int)(G:bU 200 bt):aZ ((aZ (bU 200 bt))×a_×Int):=(iU B).bind λu=>(nU (λ(x:a_×Zn)(q:bU 200 bt)=>sR B J O U W x q) u G).bind (Fw.we (λq=>some (some q,⟨0,0⟩,0)) (λe=>elim e) (λe=>some ((none:aZ (bU 200 bt)),e.1,e.2.1)))
end eN
def eN(B:Zj):aZ ((aZ (bU 200 bt))×a_×Int):=(jI B).bind λu=>eN.E1 u B (none:aZ (bU 200 bt)) (⟨0,0⟩:a_) 0 (bU.EO 200 (⟨⟨0,0⟩,⟨0,0⟩⟩:bt))
open eN in
instance K9(G:Zj):Fc Sy cL (eN G):=Fc.N 108 [enc G] (dm 2 1 G (dm 8 10 (bU.EO 200 (⟨⟨0,0⟩,⟨0,0⟩⟩:bt)) (TO 0 5 (bz [Pv 1,Pv 2,Pv 3,Pv 4,Pv 10] [Xb 1 G,(2,.box [cv (none:aZ (bU 200 bt))]),Xb 3 (⟨0,0⟩:a_),(4,.box [iv 0]),Xb 10 (bU.EO 200 (⟨⟨0,0⟩,⟨0,0⟩⟩:bt))]) [cv (none:aZ (bU 200 bt))] (by simp only[bz,xk,qd,rS,qj,ru,s7,rD,sU,pY,rH,xz,s8,tF,ta,tq,vh,u_,rq,sX];rfl) (bA 7 λB _=>KF λO C=>FJ 4 [Pv 1,Pv 2,Pv 3,Pv 4,Pv 5,(12,.v (.clo 135 [] [.fptr (cells B)]))] (λw=>[Xb 1 G,(2,.box [cv (none:aZ (bU 200 bt))]),Xb 3 (⟨0,0⟩:a_),(4,.box [iv 0]),(5,.box [.ptr 10 0]),Xb 10 w]) (λz=>elim z) (λz=>[Xb 1 G,(2,.box [cv (none:aZ (bU 200 bt))]),Xb 3 z.1,(4,.box [iv z.2.1]),(5,.box [.ptr 10 0]),Xb 10 z.2.2]) (yA B O C) (λu w=>TO 2 6 ⟨[Pv 1,Pv 2,Pv 3,Pv 4,Pv 5,(12,.v (.clo 135 [] [.fptr (cells B)])),Cv 13 u.1,Cv 14 u.2],[Xb 1 G,(2,.box [cv (none:aZ (bU 200 bt))]),Xb 3 (⟨0,0⟩:a_),(4,.box [iv 0]),(5,.box [.ptr 10 0]),Xb 10 w],[1,2,3,4,5],[],true,0⟩ [iv 0,iv 0] (by simp only[bz,xk,qd,rS,qj,ru,s7,rD,sU,pY,rH,xz,s8,tF,ta,tq,vh,u_,rq,sX];rfl) (TO 4 7 ⟨[Pv 1,Pv 2,Pv 3,Pv 4,Pv 5,(12,.v (.clo 135 [] [.fptr (cells B)])),Cv 14 u.2,Pv 6],[Xb 1 G,(2,.box [cv (none:aZ (bU 200 bt))]),Xb 3 (⟨0,0⟩:a_),(4,.box [iv 0]),(5,.box [.ptr 10 0]),Xb 10 w,Xb 6 u.1],[1,2,3,4,5],[],true,0⟩ [iv 0,iv 0,iv 0,iv 0,.v .bG] (by simp only[bz,xk,qd,rS,qj,ru,s7,rD,sU,pY,rH,xz,s8,tF,ta,tq,vh,u_,rq,sX];rfl) (ow 0 7 0 u.2 (Cs 1 (bu 22 19 (Ah 7 .i64 10 λD Q=>Li 2 1 false 10 w u.2.message 1 D Q (.int .i64 D.from_.index) (by rfl) (bu 3 28 bg (Ah 8 .i64 10 λI S=>QJ 1 10 w u.2.message 0 I S (⟨u.1,I.to_⟩:bt) u.1 rfl bg))) (bu 7 36 (Ah 7 .i64 10 λJ T=>Li 2 1 false 10 w u.2.message 3 J T (.int .i64 J.to_.index) (by rfl) (bu 3 45 bg (bA 12 λW _=>dA 3 54 (Ah 8 .i64 10 λL U=>QJ 1 10 w u.2.message 2 L U (⟨L.from_,u.1⟩:bt) u.1 rfl bg) bg))) bg)))))) (λw=>Vc 13 (bz [Pv 2,Pv 3,Pv 4] [(2,.box [.ptr 10 0]),Xb 3 (⟨0,0⟩:a_),(4,.box [iv 0]),Xb 10 w]) [.ptr 10 0,cv (⟨0,0⟩:a_),iv 0] (RR (d:=10) (x:=w) (vs:=[enc (⟨0,0⟩:a_),.int .i64 0]) Zf) Zf) (λx=>elim x) (λz=>bg)))))
namespace iV
def J1(G:bU 200 bt)(B:Sl a_)(O:Sl Zn)(J:a_):aZ (Sl a_):=(idx O (wrap .i64 (J.index-1))).bind λu=>(bp (u.kind==2) ((bU.at G u.message).bind λw=>some (decide (w.to_.index>0))) (some false):aZ Zl).bind λz=>bp z ((bU.at G u.message).bind λC=>(fP B (C.to_:a_)).bind λD=>some D) (some B)
theorem wo(B:bU 200 bt)(G:Sl a_)(O:Sl Zn)(J:a_):Le ((J1 B G O J).bind (λr=>some [enc r])) (b7 Sy cL (qu (tr Tx 140)) (oc (tb Tx 140) [1,1,1,1,0,0] [] (bz [Kv 1 B,Pv 5,Ov 7,Cv 8 O] [Xb 5 J,Lb 2007 G]))):=bR 7 λu _=>ow 2 9 0 u (cm 8 10 [40] 50 (bu 8 40 (P7 4 .i64 λw z=>O4 0 2 B u.message 0 w z (O4 0 1 B u.message 2 w z (P6 0 1 false B u.message 3 w z (.int .i64 w.to_.index) (by rfl) (bC 2)))) (bC 10)) λI=>bu 2 50 (P7 7 .i64 λC D=>O4 0 2 B u.message 0 C D (P6 0 2 true B u.message 2 C D (enc C.to_) (by rfl) (lG 1 2007 59 60 λL _=>bg))) bg)
end iV
def iV(G:Zj)(B:bU 200 bt)(x2:a_):aZ (Sl a_):=(idx G.procs x2.proc).bind λu=>bp (decide (x2.index<(len u.events))) (iV.J1 B (Sl.row [⟨x2.proc,wrap .i64 (x2.index+1)⟩]:Sl a_) u.events x2) (iV.J1 B (Sl.nil:Sl a_) u.events x2)
open iV in
instance S9(G:Zj)(B:bU 200 bt)(x2:a_):Fc Sy cL (iV G B x2):=Fc.N 140 [enc G,.fptr (cells B),enc x2] (dm 2 3 G (bR 15 λu _=>bN 11 u.events (bu 3 21 (P8 10 29 30 .bG (⟨x2.proc,wrap .i64 (x2.index+1)⟩:a_) (yx 5 (wo B (Sl.row [⟨x2.proc,wrap .i64 (x2.index+1)⟩]:Sl a_) u.events x2))) (yx 5 (wo B (Sl.nil:Sl a_) u.events x2)))))
namespace ij
def dN(U:Zj)(W:Sl a_)(Y:Int)(a:Zj)(b:bU 200 bt)(c:a_)(d:Zl)(O:a_)(B:Sl a_)(J:Int)(G:Mo a_ Zl):aZ (Fw ((Sl a_)×Int×(Mo a_ Zl)) ((Sl a_)×(Mo a_ Zl)) Unit):=bp (decide (J<Y)) ((idx W J).bind λu=>bp (IV u O) (some (.r ())) (bp (iD G u false) (some (.n (B,wrap .i64 (J+1),G))) ((fP B (u:a_)).bind λw=>some (.n (w,wrap .i64 (J+1),kV G u true))))) (some (.x (B,G)))
def W3(G:Sl a_)(B:Zj)(U:Sl a_)(W Y:Int)(a:Zj)(b:bU 200 bt)(c:a_)(d:Zl)(J:a_)(O:Mo a_ Zl):aZ (Fw ((Sl a_)×(Mo a_ Zl)) Unit Unit):=(bM (λq:(Sl a_)×Int×(Mo a_ Zl)=>dN B U W a b c d J q.1 q.2.1 q.2.2) (G,Y,O)).bind (Fw.elim (λe=>some (.n (e.1,e.2))) (λe=>some (.r ())))
def bS(G J:Zj)(O:bU 200 bt)(Y:a_)(a:Zl)(U:a_)(B:Sl a_)(W:Mo a_ Zl):aZ (Fw ((Sl a_)×(Mo a_ Zl)) Unit Unit):=bp (decide ((len B)>0)) ((Sl.jc B (wrap .i64 ((len B)-1))).bind λw=>(Sl.get B w).bind λz=>(oq B none (some (wrap .i64 ((len B)-1)))).bind λC=>(iV J O z).bind λu=>W3 C G u (len u) 0 J O Y a U W) (some (.x ()))
def W2(J:Sl a_)(B U:Zj)(W:bU 200 bt)(Y:a_)(a:Zl)(G:a_)(O:Mo a_ Zl):aZ (Fw Unit Empty a_):=(bM (λq:(Sl a_)×(Mo a_ Zl)=>bS B U W Y a G q.1 q.2) (J,O)).bind (Fw.elim (λe=>some (.n ())) (λe=>some (.r G)))
def sR(B G:Zj)(J:bU 200 bt)(O:a_)(U:Zl)(x:a_×Zn):aZ (Fw Unit Empty a_):=W2 (Sl.row [x.1]:Sl a_) B G J O U x.1 []
def E1(B G:Zj)(J:bU 200 bt)(O:a_)(U:Zl):aZ (a_×Zl):=(iU B).bind λu=>(nU (λ(x:a_×Zn)(q:Unit)=>sR B G J O U x) u ()).bind (Fw.we (λq=>some (⟨0,0⟩,false)) (λe=>elim e) (λe=>some (e,true)))
end ij
def ij(B:Zj)(G:bU 200 bt):aZ (a_×Zl):=(jI B).bind λu=>ij.E1 u B G (⟨0,0⟩:a_) false
open ij in
instance S0(B:Zj)(G:bU 200 bt):Fc Sy cL (ij B G):=Fc.M 109 [enc B,.fptr (cells G)] (dm 2 2 B (bA 9 λw _=>KF λU Q=>FJ 4 [Pv 2,Pv 3,Pv 4,Pv 5,(13,.v (.clo 135 [] [.fptr (cells w)]))] (λS=>[Xb 2 B,(3,.box [cp G]),Xb 4 (⟨0,0⟩:a_),(5,.box [bv false])]) (λI=>elim I) (λI=>[Xb 2 B,(3,.box [cp G]),Xb 4 I,(5,.box [bv true])]) (yA w U Q) (λC S=>Cs 4 (dx 18 (λu=>⟨[Pv 2,Pv 3,Pv 4,Pv 5,Pv 6,(7,.mp 16),Ov 8,(13,.v (.clo 135 [] [.fptr (cells w)]))],[Xb 2 B,(3,.box [cp G]),Xb 4 (⟨0,0⟩:a_),(5,.box [bv false]),Xb 6 C.1,(16,iW u.2),Lb 2008 u.1],[2,3,4,5],[],true,0⟩) (λJ=>(2,⟨[Pv 2,Pv 3,Pv 4,Pv 5,(13,.v (.clo 135 [] [.fptr (cells w)]))],[Xb 2 B,(3,.box [cp G]),Xb 4 (⟨0,0⟩:a_),(5,.box [bv false])],[2,3,4,5],[],true,0⟩)) (λJ=>⟨[],[Xb 2 B,(3,.box [cp G]),Xb 4 C.1,(5,.box [bv true])],[2,3,4,5],[],true,0⟩) (λu=>Dn 6 2008 u.1 (bu 3 21 (Dn 8 2008 u.1 (jE .i64 1 2008 λW _=>pP 0 2008 0 2 true (λL=>.agg [.int .i64 L.proc,.int .i64 L.index]) λL _=>Dn 8 2008 u.1 (VZ 1 false true 2008 32 [.int .i64 (wrap .i64 ((len u.1)-1))] λX _=>bA 8 λO _=>bN 0 O (dx 6 (λz=>⟨[Pv 2,Pv 3,Pv 4,Pv 5,Pv 6,(7,.mp 16),Ov 8,(13,.v (.clo 135 [] [.fptr (cells w)])),Cv 36 O,Iv 37 (len O),Iv 38 z.2.1],[Xb 2 B,(3,.box [cp G]),Xb 4 (⟨0,0⟩:a_),(5,.box [bv false]),Xb 6 C.1,(16,iW z.2.2),Lb 2008 z.1],[2,3,4,5],[],true,0⟩) (λD=>(4,⟨[Pv 2,Pv 3,Pv 4,Pv 5,Pv 6,(7,.mp 16),Ov 8,(13,.v (.clo 135 [] [.fptr (cells w)]))],[Xb 2 B,(3,.box [cp G]),Xb 4 (⟨0,0⟩:a_),(5,.box [bv false]),Xb 6 C.1,(16,iW D.2),Lb 2008 D.1],[2,3,4,5],[],true,0⟩)) (λD=>⟨[],[Xb 2 B,(3,.box [cp G]),Xb 4 C.1,(5,.box [bv true])],[2,3,4,5],[],true,0⟩) (λz=>bu 8 39 (bR 7 λT _=>bu 13 44 bg (JJ 7 16 z.2.2 T false (dA 3 49 bg (KX 5 16 z.2.2 T true (lG 6 2008 54 55 λY _=>bg))))) bg) (λD=>bg) (λD=>bg))))) bg)) (λJ=>bg) (λJ=>bg))) (λS=>bg) (λx=>elim x) (λI=>bg)))
namespace gL
def IS(B G:Zj)(J:a_)(O:Int)(x:a_×Zn):aZ (Fw Unit Empty (a_×Int)):=(dB G x.1 x.2).bind λu=>bp (u==0) (some (.n ())) (some (.r (x.1,u)))
def E2(B G:Zj)(J:a_)(O:Int):aZ (a_×Int):=(iU B).bind λz=>(nU (λ(x:a_×Zn)(q:Unit)=>IS B G J O x) z ()).bind (Fw.we (λq=>(eN G).bind λu=>bp (u.2.2==0) ((u.1).bind λC=>(ij G C).bind λw=>bp w.2 (some (w.1,10)) (some (⟨0,0⟩,0))) (some (u.2.1,u.2.2))) (λe=>elim e) (λe=>some (e.1,e.2)))
def bn(G:Int)(J:Zj)(O:a_)(U:Int)(B:Int):aZ (Fw Int Unit (a_×Int)):=bp (decide (B<G)) ((eM J B).bind λu=>bp (u==0) (some (.n (wrap .i64 (B+1)))) (some (.r ((⟨B,0⟩:a_),u)))) (some (.x ()))
def W1(O U:Int)(B:Zj)(G:a_)(J:Int):aZ (a_×Int):=(bM (λq:Int=>bn O B G J q) U).bind (Fw.elim (λe=>(jI B).bind λu=>gL.E2 u B G J) (λe=>some (e.1,e.2)))
end gL
def gL(B:Zj):aZ (a_×Int):=(mT (len B.procs) 1 8).bind λu=>bp u (gL.W1 (len B.procs) 0 B (⟨0,0⟩:a_) 0) (some (⟨0,0⟩,1))
open gL in
instance Th(B:Zj):Fc Sy cL (gL B):=Fc.M 91 [enc B] (dm 2 1 B (bN 9 B.procs (bA 0 λO _=>dA 3 18 (bN 8 B.procs (dx 5 (λC=>(bz [Pv 1,Pv 2,Pv 3,Iv 22 (len B.procs),Iv 23 C] [Xb 1 B,Xb 2 (⟨0,0⟩:a_),(3,.box [iv 0])])) (λu=>(0,(bz [Pv 1,Pv 2,Pv 3] [Xb 1 B,Xb 2 (⟨0,0⟩:a_),(3,.box [iv 0])]))) (λu=>(bz [Pv 2,Pv 3] [Xb 2 u.1,(3,.box [iv u.2])])) (λC=>bu 7 24 (bA 15 λQ _=>dA 9 30 bg bg) bg) (λu=>bA 6 λz _=>KF λJ D=>FJ 4 [Pv 1,Pv 2,Pv 3,(36,.v (.clo 135 [] [.fptr (cells z)]))] (λG=>[Xb 1 B,Xb 2 (⟨0,0⟩:a_),(3,.box [iv 0])]) (λw=>elim w) (λw=>[Xb 1 B,Xb 2 w.1,(3,.box [iv w.2])]) (yA z J D) (λL G=>ow 8 7 0 L.2 (Cs 1 (bA 7 λS _=>dA 9 44 bg bg))) (λG=>bA 5 λI _=>dA 17 54 (JU 8 (λT=>(bz [Pv 2,Pv 3,(36,.v (.clo 135 [] [.fptr (cells z)])),Pv 10,Iv 11 I.2.2,Bv 54 false,Cv 58 B,Cv 59 T] [Xb 1 B,Xb 2 (⟨0,0⟩:a_),(3,.box [iv 0]),Xb 10 I.2.1])) λU _=>bA 0 λW _=>bu 13 63 bg bg) bg) (λx=>elim x) (λw=>bg)) (λu=>bg))) bg)))
def dV(B:Zj):aZ Zl:=(gL B).bind λu=>some (u.2==0)
instance Tm(B:Zj):Fc Sy cL (dV B):=Fc.M 73 [enc B] (dm 2 1 B (bA 6 λu _=>bg))
def nJ(B:Zg)(G:Zj):aZ Zl:=some (!((len B)==(len G.procs)))
instance Q8(B:Zg)(G:Zj):Fc Sy cL (nJ B G):=Fc.M 141 [enc B,.fptr (cells G)] (bN 8 B (bN 2 G.procs bg))
def zM(G:Zj)(J:Zb):aZ Zl:=(dV G).bind λu=>(bp u ((gf J (λz=>nJ z G)).bind λw=>some (!w)) (some false):aZ Zl).bind λB=>some B
instance U3(B:Zj)(G:Zb):Fc Sy cL (zM B G):=Fc.M 110 [enc B,enc G] (dm 2 2 B (bA 6 λu _=>cm 1 5 [1,2,7] 12 (bu 1 7 (jY (F:=kX 141 [.fptr (cells B)] (λz=>nJ z B) qp.wv G) 2 λw _=>bC 2) (bC 5)) λC=>bg))
namespace jG
def bn(J:Zg)(O:Int)(G:Zj)(B:Int):aZ (Fw Int Unit Unit):=bp (decide (B<O)) ((idx J B).bind λu=>(bp (decide (u<0)) (some true) ((idx G.procs B).bind λw=>some (decide (u>(len w.events)))):aZ Zl).bind λz=>bp z (some (.r ())) (some (.n (wrap .i64 (B+1))))) (some (.x ()))
def W1(G:Zg)(J O:Int)(B:Zj):aZ Zl:=(bM (λq:Int=>bn G J B q) O).bind (Fw.elim (λe=>some true) (λe=>some false))
end jG
def jG(G:Zj)(B:Zg):aZ Zl:=jG.W1 B (len B) 0 G
open jG in
instance Td(G:Zj)(B:Zg):Fc Sy cL (jG G B):=Fc.M 111 [enc G,enc B] (dm 2 2 G (bN 7 B (dx 5 (λw=>(bz [Pv 2,Cv 7 B,Iv 8 (len B),Iv 9 w] [Xb 2 G])) (λu=>(0,(bz [] []))) (λu=>(bz [Bv 4 false] [])) (λw=>bu 7 10 (bR 8 λC _=>cm 10 10 [5,6,16] 26 (bu 10 16 (bC 10) (bR 4 λz _=>bN 2 z.events (bC 2))) λD=>bu 2 26 bg bg) bg) (λu=>bg) (λu=>bg))))
def AX(B:Zj)(p1:Int):aZ Zl:=(bp (decide (p1>=0)) (some (decide (p1<(len B.procs)))) (some false):aZ Zl).bind λu=>some u
instance Tc(B:Zj)(p1:Int):Fc Sy cL (AX B p1):=Fc.M 112 [enc B,.int .i64 p1] (dm 2 2 B (cm 8 6 [1,2,7] 13 (bu 8 7 (bN 3 B.procs (bC 2)) (bC 6)) λu=>bg))
namespace lH
def sR(G:Zj)(B J:Int)(O:a_)(U:Zl)(x:a_×Zn):aZ (Fw Unit Empty a_):=(bp (x.2.kind==B) (some (x.2.message==J)) (some false):aZ Zl).bind λu=>bp u (some (.r x.1)) (some (.n ()))
def E1(B:Zj)(G J:Int)(O:a_)(U:Zl):aZ (a_×Zl):=(iU B).bind λu=>(nU (λ(x:a_×Zn)(q:Unit)=>sR B G J O U x) u ()).bind (Fw.we (λq=>some (⟨0,0⟩,false)) (λe=>elim e) (λe=>some (e,true)))
end lH
def lH(G:Zj)(B J:Int):aZ (a_×Zl):=(dV G).bind λu=>bp u ((jI G).bind λw=>lH.E1 w B J (⟨0,0⟩:a_) false) (some (⟨0,0⟩,false))
open lH in
instance Uy(J:Zj)(B G:Int):Fc Sy cL (lH J B G):=Fc.M 172 [enc J,.int .i64 B,.int .i64 G] (dm 2 3 J (bA 10 λL _=>dA 3 12 (bA 7 λw _=>KF λD z=>FJ 4 [Pv 4,Pv 5,Pv 6,Pv 7,(15,.v (.clo 135 [] [.fptr (cells w)]))] (λC=>[(4,.box [iv B]),(5,.box [iv G]),Xb 6 (⟨0,0⟩:a_),(7,.box [bv false])]) (λu=>elim u) (λu=>[(4,.box [iv B]),(5,.box [iv G]),Xb 6 u,(7,.box [bv true])]) (yA w D z) (λI C=>ow 8 9 0 I.2 (Cs 1 (cm 9 5 [9,22] 27 (bu 9 22 (bC 5) (bC 5)) λO=>bu 2 27 bg bg))) (λC=>bg) (λx=>elim x) (λu=>bg)) bg))
def pJ(B:Zj)(m1:Int):aZ (a_×Zl):=(lH B 2 m1).bind λu=>some (u.1,u.2)
instance Q2(B:Zj)(m1:Int):Fc Sy cL (pJ B m1):=Fc.M 143 [enc B,.int .i64 m1] (dm 2 2 B (bA 8 λu _=>bg))
namespace gM
def bS(Y:Zg)(p7:Int)(a:Zg)(b c:Int)(O:Sl Zn)(U:Int)(W:Zj)(J G:a_)(B:Int):aZ (Fw Int Unit (a_×a_)):=bp (decide (B<U)) ((idx O B).bind λw=>bp (w.kind==3) ((pJ W w.message).bind λu=>(idx Y u.1.proc).bind λz=>bp (decide (u.1.index>z)) (some (.r (u.1,(⟨p7,wrap .i64 (B+1)⟩:a_)))) (some (.n (wrap .i64 (B+1))))) (some (.n (wrap .i64 (B+1))))) (some (.x ()))
def W2(a:Zg)(p7:Int)(O:Zg)(U J:Int)(W:Sl Zn)(Y b:Int)(c:Zj)(G B:a_):aZ (Fw Int Unit (a_×a_)):=(bM (λq:Int=>bS a p7 O U J W Y c G B q) b).bind (Fw.elim (λe=>some (.n (wrap .i64 (J+1)))) (λe=>some (.r (e.1,e.2))))
def bn(Y O:Zg)(U:Int)(W:Zj)(J B:a_)(G:Int):aZ (Fw Int Unit (a_×a_)):=bp (decide (G<U)) ((idx O G).bind λw=>(idx W.procs G).bind λz=>(fN z.events none (some w)).bind λu=>W2 Y G O U G u (len u) 0 W J B) (some (.x ()))
def W1(Y J:Zg)(O U:Int)(W:Zj)(G B:a_):aZ (a_×a_×Zl):=(bM (λq:Int=>bn Y J O W G B q) U).bind (Fw.elim (λe=>some (⟨0,0⟩,⟨0,0⟩,false)) (λe=>some (e.1,e.2,true)))
end gM
def gM(G:Zj)(B:Zg):aZ (a_×a_×Zl):=gM.W1 B B (len B) 0 G (⟨0,0⟩:a_) (⟨0,0⟩:a_)
open gM in
instance Ts(G:Zj)(B:Zg):Fc Sy cL (gM G B):=Fc.M 142 [enc G,enc B] (dm 2 2 G (bN 9 B (dx 5 (λu=>(bz [Cv 1 B,Pv 2,Pv 4,Pv 5,Cv 13 B,Iv 14 (len B),Iv 15 u] [Xb 2 G,Xb 4 (⟨0,0⟩:a_),Xb 5 (⟨0,0⟩:a_)])) (λw=>(0,(bz [Pv 4,Pv 5] [Xb 4 (⟨0,0⟩:a_),Xb 5 (⟨0,0⟩:a_)]))) (λw=>(bz [Pv 4,Pv 5,Bv 6 true] [Xb 4 w.1,Xb 5 w.2])) (λu=>bu 7 16 (bR 8 λI _=>bR 10 λL _=>z_ 3 false true [.int .i64 I] λC _=>bN 0 C (dx 5 (λD=>(bz [Cv 1 B,Pv 2,Pv 4,Pv 5,Iv 7 u,Cv 13 B,Iv 14 (len B),Iv 15 u,Cv 27 C,Iv 28 (len C),Iv 29 D] [Xb 2 G,Xb 4 (⟨0,0⟩:a_),Xb 5 (⟨0,0⟩:a_)])) (λz=>(2,(bz [Cv 1 B,Pv 2,Pv 4,Pv 5,Cv 13 B,Iv 14 (len B),Iv 15 u] [Xb 2 G,Xb 4 (⟨0,0⟩:a_),Xb 5 (⟨0,0⟩:a_)]))) (λz=>(bz [Pv 4,Pv 5,Bv 6 true] [Xb 4 z.1,Xb 5 z.2])) (λD=>bu 7 30 (bR 8 λJ _=>ow 3 10 0 J (dA 10 36 (bA 8 λO _=>bR 15 λQ _=>bu 4 51 bg bg) bg)) bg) (λz=>bg) (λz=>bg))) bg) (λw=>bg) (λw=>bg))))
def yd(B:Zj)(G:Zg):aZ Zl:=(gM B G).bind λu=>some (!u.2.2)
instance Ut(B:Zj)(G:Zg):Fc Sy cL (yd B G):=Fc.M 113 [enc B,enc G] (dm 2 2 B (bA 7 λu _=>bg))
namespace fC
def dN(G:Zb)(J:Int)(O:Zj)(B:Int):aZ (Fw Int Unit Unit):=bp (decide (B<J)) ((idx G B).bind λu=>(yd O u).bind λw=>bp w (some (.n (wrap .i64 (B+1)))) (some (.r ()))) (some (.x ()))
def W3(B:Zb)(G J:Int)(O:Zj):Z6:=(bM (λq:Int=>dN B G O q) J).bind (Fw.elim (λe=>some 0) (λe=>some 18))
def bS(U:Zb)(G:Zg)(J:Int)(O:Zj)(B:Int):aZ (Fw Int Unit Unit):=bp (decide (B<J)) ((idx G B).bind λu=>(AX O u).bind λw=>bp w (some (.n (wrap .i64 (B+1)))) (some (.r ()))) (some (.x ()))
def W2(G:Zb)(J:Zg)(O U:Int)(B:Zj):Z6:=(bM (λq:Int=>bS G J O B q) U).bind (Fw.elim (λe=>fC.W3 G (len G) 0 B) (λe=>some 2))
def bn(W:Zb)(G:Zg)(J:Zb)(O:Int)(U:Zj)(B:Int):aZ (Fw Int Unit Unit):=bp (decide (B<O)) ((idx J B).bind λu=>(jG U u).bind λw=>bp w (some (.n (wrap .i64 (B+1)))) (some (.r ()))) (some (.x ()))
def W1(W:Zb)(B:Zg)(J:Zb)(O U:Int)(G:Zj):Z6:=(bM (λq:Int=>bn W B J O G q) U).bind (Fw.elim (λe=>fC.W2 W B (len B) 0 G) (λe=>some 2))
end fC
def fC(J:Zj)(G:Zb)(B:Zg):Z6:=(zM J G).bind λu=>bp u (fC.W1 G B G (len G) 0 J) (some 1)
open fC in
instance UT(J:Zj)(G:Zb)(B:Zg):Fc Sy cL (fC J G B):=Fc.M 92 [enc J,enc G,enc B] (dm 2 3 J (bA 8 λL _=>dA 3 16 (bN 7 G (dx 5 (λC=>(bz [Cv 1 G,Cv 2 B,Pv 3,Cv 17 G,Iv 18 (len G),Iv 19 C] [Xb 3 J])) (λu=>(0,(bz [Cv 1 G,Cv 2 B,Pv 3] [Xb 3 J]))) (λu=>(bz [Iv 6 2] [])) (λC=>bu 7 20 (bR 7 λO _=>bA 8 λQ _=>dA 3 26 bg bg) bg) (λu=>bN 6 B (dx 5 (λD=>(bz [Cv 1 G,Pv 3,Cv 28 B,Iv 29 (len B),Iv 30 D] [Xb 3 J])) (λw=>(2,(bz [Cv 1 G,Pv 3] [Xb 3 J]))) (λw=>(bz [Iv 6 2] [])) (λD=>bu 7 31 (bR 7 λS _=>bA 8 λT _=>dA 3 37 bg bg) bg) (λw=>bN 6 G (dx 5 (λI=>(bz [Pv 3,Cv 39 G,Iv 40 (len G),Iv 41 I] [Xb 3 J])) (λz=>(4,(bz [] []))) (λz=>(bz [Iv 6 18] [])) (λI=>bu 7 42 (bR 7 λU _=>bA 8 λW _=>dA 3 48 bg bg) bg) (λz=>bg) (λz=>bg))) (λw=>bg))) (λu=>bg))) bg))
def pW(B:Zj)(G:Zg):aZ Zl:=(fC B (Sl.row [G]:Zb) (Sl.nil:Zg)).bind λu=>some (u==0)
instance N1(B:Zj)(G:Zg):Fc Sy cL (pW B G):=Fc.M 75 [enc B,enc G] (dm 2 2 B (ua 7 7 ([G]:aY Zg) (jY 0 λu _=>bg)))
def mL(B:Zg)(G:Zj):aZ Zl:=(pW G B).bind λu=>some (!u)
instance Nz(B:Zg)(G:Zj):Fc Sy cL (mL B G):=Fc.M 74 [enc B,.fptr (cells G)] (bA 9 λu _=>bg)
namespace jU
def J3(B:Sl a_)(W:Sl cg)(Y a:Int)(b:Sl Zn)(c J:Int)(O:Zj)(d U:b9)(e:cg)(G:a_):aZ (Fw ((Sl a_)×Int×Zj×b9×b9) ((Sl a_)×Zj×b9) Empty):=(fP B (G:a_)).bind λu=>some (.n (u,wrap .i64 (J+1),O,(⟨Sl.nil,Sl.nil⟩:b9),U))
def bS(Y:Sl cg)(a b:Int)(O:Sl Zn)(U:Int)(c:cg)(B:Sl a_)(G:Int)(J:Zj)(d W:b9):aZ (Fw ((Sl a_)×Int×Zj×b9×b9) ((Sl a_)×Zj×b9) Empty):=bp (decide (G<U)) ((idx O G).bind λu=>bp (u.kind==3) ((pJ J u.message).bind λw=>J3 B Y a b O U G J (⟨Sl.nil,Sl.nil⟩:b9) W c w.1) (J3 B Y a b O U G J (⟨Sl.nil,Sl.nil⟩:b9) W c (⟨0,0⟩:a_))) (some (.x (B,J,W)))
def W2(B:Sl a_)(O:Sl cg)(U G:Int)(W:Sl Zn)(Y a:Int)(b:Zj)(c d:b9)(J:cg):aZ (Fw (Int×Zj×b9×b9) b9 Empty):=(bM (λq:(Sl a_)×Int×Zj×b9×b9=>bS O U G W Y J q.1 q.2.1 q.2.2.1 q.2.2.2.1 q.2.2.2.2) (B,a,b,c,d)).bind (Fw.elim (λe=>(fP e.2.2.lengths (len J.events:Int)).bind λu=>(fP e.2.2.need (e.1:Sl a_)).bind λw=>some (.n (wrap .i64 (G+1),e.2.1,(⟨Sl.nil,Sl.nil⟩:b9),(⟨u,w⟩:b9)))) (λe=>elim e))
def bn(G:Sl cg)(J:Int)(B:Int)(U:Zj)(W O:b9):aZ (Fw (Int×Zj×b9×b9) b9 Empty):=bp (decide (B<J)) ((idx G B).bind λu=>W2 (Sl.nil:Sl a_) G J B u.events (len u.events) 0 U (⟨Sl.nil,Sl.nil⟩:b9) O u) (some (.x O))
def W1(B:Sl cg)(G J:Int)(O:Zj)(U W:b9):aZ b9:=(bM (λq:Int×Zj×b9×b9=>bn B G q.1 q.2.1 q.2.2.1 q.2.2.2) (J,O,U,W)).bind (Fw.elim (λe=>some e) (λe=>elim e))
end jU
def jU(B:Zj):aZ b9:=jU.W1 B.procs (len B.procs) 0 B (⟨Sl.nil,Sl.nil⟩:b9) (⟨Sl.nil,Sl.nil⟩:b9)
open jU in
instance V7(G:Zj):Fc Sy cL (jU G):=Fc.N 114 [enc G] (dm 2 1 G (bN 13 G.procs (eT 7 (λu=>(bz [Pv 1,Pv 2,Pv 3,Cv 11 G.procs,Iv 12 (len G.procs),Iv 13 u.1] [Xb 1 u.2.1,Xb 2 (⟨Sl.nil,Sl.nil⟩:b9),(3,.box [.own 4060,.own 4061]),Lb 4060 u.2.2.2.lengths,Lb 4061 u.2.2.2.need])) (λC=>(0,(bz [Pv 2,Pv 3] [Xb 2 (⟨Sl.nil,Sl.nil⟩:b9),(3,.box [.own 4060,.own 4061]),Lb 4060 C.lengths,Lb 4061 C.need]))) (λu=>bu 9 14 (bR 7 λw _=>ow 2 5 0 w (bN 12 w.events (eT 8 (λz=>(bz [Pv 1,Pv 2,Pv 3,Pv 5,Ov 6,Cv 11 G.procs,Iv 12 (len G.procs),Iv 13 u.1,Cv 18 w.events,Iv 19 (len w.events),Iv 20 z.2.1] [Xb 1 z.2.2.1,Xb 2 (⟨Sl.nil,Sl.nil⟩:b9),(3,.box [.own 4060,.own 4061]),Xb 5 w,Lb 2006 z.1,Lb 4060 z.2.2.2.2.lengths,Lb 4061 z.2.2.2.2.need])) (λB=>(2,(bz [Pv 1,Pv 2,Pv 3,Pv 5,Ov 6,Cv 11 G.procs,Iv 12 (len G.procs),Iv 13 u.1] [Xb 1 B.2.1,Xb 2 (⟨Sl.nil,Sl.nil⟩:b9),(3,.box [.own 4060,.own 4061]),Xb 5 w,Lb 2006 B.1,Lb 4060 B.2.2.lengths,Lb 4061 B.2.2.need]))) (λz=>bu 10 21 (bR 7 λD _=>ow 2 8 0 D (bu 15 26 (bA 5 λJ _=>wW 10 (lG 4 2006 36 37 λI _=>bg)) (wW 7 (lG 4 2006 36 37 λI _=>bg)))) bg) (λB=>bN 8 w.events (lG 1 4060 44 45 λL _=>ua 9 50 ([B.1]:aY (Sl a_)) (lG 0 4061 50 51 λO _=>bg)))))) bg) (λC=>ow 7 2 0 C bg))))
def nZ(J:b9)(B:Zg)(p2:Int):aZ Zl:=(idx B p2).bind λw=>(idx J.lengths p2).bind λz=>bp (w==z) (some false) ((idx J.need p2).bind λC=>(idx B p2).bind λD=>(idx C D).bind λu=>(idx B u.proc).bind λG=>some (decide (u.index<=G)))
instance MM(B:b9)(G:Zg)(p2:Int):Fc Sy cL (nZ B G p2):=Fc.M 144 [enc B,enc G,.int .i64 p2] (dm 2 3 B (bR 8 λu _=>bR 4 λw _=>bu 4 17 bg (bR 8 λz _=>bR 3 λC _=>bR 1 λD _=>bR 12 λI _=>bg)))
def jh(B:Zg):aZ Zg:=(Sl.isNil B).bind λu=>bp u (some Sl.nil) ((mE (Sl.row []:Zg) B).bind λw=>some w)
theorem kO:FV Sy cL 28 (λB:Zg=>[enc B]) (λz=>jh z):=FV.mk' (sQ (Tx 28)) (λB=>Wy 9 λu _=>bu 2 4 bg (uk 7 5 7 λw _=>bg))
def qR(B:Int):aZ Zl:=some (!(B==B))
instance Qn(B:Int):Fc Sy cL (qR B):=Fc.M 197 [.int .i64 B] (bg)
def o8(B G:Int):Z6:=(qR B).bind λw=>(qR G).bind λu=>bp w (bp u (some 0) (some (-1))) (bp u (some 1) (bp (decide (B<G)) (some (-1)) (bp (decide (B>G)) (some 1) (some 0))))
instance NB(B G:Int):Fc Sy cL (o8 B G):=Fc.M 175 [.int .i64 B,.int .i64 G] (bA 8 λu _=>bA 6 λw _=>bu 9 11 (bu 7 12 bg bg) (bu 9 13 bg (bu 11 16 bg (bu 11 19 bg bg))))
namespace eW
def bn(O G U:Zg)(J:Int)(B:Int):aZ (Fw Int Unit Int):=bp (decide (B<J)) ((idx U B).bind λw=>bp (decide (B>=(len G))) (some (.r 1)) ((idx G B).bind λz=>(o8 w z).bind λu=>bp (u==0) (some (.n (wrap .i64 (B+1)))) (some (.r u)))) (some (.x ()))
def W1(B G U:Zg)(J O:Int):Z6:=(bM (λq:Int=>bn B G U J q) O).bind (Fw.elim (λe=>bp (decide ((len B)<(len G))) (some (-1)) (some 0)) (λe=>some e))
end eW
def eW(B G:Zg):Z6:=eW.W1 B G B (len B) 0
open eW in
instance Lx(B G:Zg):Fc Sy cL (eW B G):=Fc.M 147 [enc B,enc G] (bN 9 B (dx 5 (λw=>(bz [Cv 0 B,Cv 1 G,Cv 9 B,Iv 10 (len B),Iv 11 w] [])) (λu=>(0,(bz [Cv 0 B,Cv 1 G] []))) (λu=>(bz [Iv 4 u] [])) (λw=>bu 7 12 (bR 8 λz _=>bN 10 G (bu 3 19 bg (bR 7 λC _=>bA 8 λD _=>dA 9 28 bg bg))) bg) (λu=>bN 6 B (bN 1 G (bu 3 35 bg bg))) (λu=>bg)))
def jv(a0 B:Zg):Z6:=(eW a0 B).bind λu=>some u
instance Kz(a0 B:Zg):Fc Sy cL (jv a0 B):=Fc.M 146 [enc a0,enc B] (bA 9 λu _=>bg)
namespace e9
def bn(G J:Zg)(O:Int)(B:Int):aZ (Fw Int Unit Unit):=bp (decide (B<O)) ((idx G B).bind λu=>(idx J B).bind λw=>bp (u==w) (some (.n (wrap .i64 (B+1)))) (some (.r ()))) (some (.x ()))
def W1(B G:Zg)(J O:Int):aZ Zl:=(bM (λq:Int=>bn B G J q) O).bind (Fw.elim (λe=>some true) (λe=>some false))
end e9
def e9(B G:Zg):aZ Zl:=bp ((len B)==(len G)) (e9.W1 B G (len B) 0) (some false)
open e9 in
instance LX(B G:Zg):Fc Sy cL (e9 B G):=Fc.M 86 [enc B,enc G] (bN 9 B (bN 1 G (dA 3 10 (bN 7 B (dx 5 (λw=>(bz [Cv 0 B,Cv 1 G,Iv 12 (len B),Iv 13 w] [])) (λu=>(0,(bz [] []))) (λu=>(bz [Bv 4 false] [])) (λw=>bu 7 14 (bR 15 λz _=>bR 3 λC _=>dA 4 24 bg bg) bg) (λu=>bg) (λu=>bg))) bg)))
def kA(a0 B:Zg):aZ Zl:=(e9 a0 B).bind λu=>some u
instance Ld(a0 B:Zg):Fc Sy cL (kA a0 B):=Fc.M 149 [enc a0,enc B] (bA 9 λu _=>bg)
namespace eB
def bS(U:Zg)(W:Zb)(Y a J:Int)(O:b9)(G:Zb)(B:Int):aZ (Fw ((Zb)×Int) Zb Empty):=bp (decide (B<J)) ((nZ O U B).bind λw=>bp w (((jh U).bind Sl.whole).bind λu=>(Sl.jc u B).bind λz=>(Sl.get u z).bind λC=>(Sl.jc u B).bind λD=>(Sl.put u D (wrap .i64 (C+1):Int)).bind λI=>(fP G (I:Zg)).bind λL=>some (.n (L,wrap .i64 (B+1)))) (some (.n (G,wrap .i64 (B+1))))) (some (.x G))
def W2(B:Zb)(a:Zg)(O:Zb)(G J U W:Int)(Y:b9):aZ (Fw ((Zb)×Int×Int) Zb Empty):=(bM (λq:(Zb)×Int=>bS a O G J U Y q.1 q.2) (B,W)).bind (Fw.elim (λe=>some (.n (e,G,wrap .i64 (J+1)))) (λe=>elim e))
def bn(J:Zb)(U:b9)(B:Zb)(O G:Int):aZ (Fw ((Zb)×Int×Int) Zb Empty):=bp (decide (G<O)) ((idx J G).bind λu=>W2 B u J O G (len u) 0 U) (some (.x B))
def W1(B G:Zb)(J O:Int)(U:b9):aZ Zb:=(bM (λq:(Zb)×Int×Int=>bn G U q.1 q.2.1 q.2.2) (B,J,O)).bind (Fw.elim (λe=>(xV e jv).bind λw=>(wM w kA).bind λu=>some u) (λe=>elim e))
end eB
def eB(G:b9)(B:Zb):aZ Zb:=eB.W1 (Sl.nil:Zb) B (len B) 0 G
open eB in
instance NC(G:b9)(B:Zb):Fc Sy cL (eB G B):=Fc.N 115 [enc G,enc B] (dm 2 2 G (bN 12 B (eT 6 (λu=>(bz [Pv 2,Ov 5,Cv 10 B,Iv 11 u.2.1,Iv 12 u.2.2] [Xb 2 G,Lb 2005 u.1])) (λI=>(0,(bz [Ov 5] [Lb 2005 I]))) (λu=>bu 8 13 (bR 7 λw _=>bN 7 w (eT 6 (λC=>(bz [Pv 2,Ov 5,Cv 7 w,Cv 10 B,Iv 11 u.2.1,Iv 12 u.2.2,Iv 17 (len w),Iv 18 C.2] [Xb 2 G,Lb 2005 C.1])) (λJ=>(2,(bz [Pv 2,Ov 5,Cv 10 B,Iv 11 u.2.1,Iv 12 u.2.2] [Xb 2 G,Lb 2005 J]))) (λC=>bu 8 19 (bA 16 λQ _=>bu 2 24 (J6 4 26 kO w λS _=>jE .i64 7 26 λT _=>pP 0 26 0 1 false (λD=>.int .i64 D) λD _=>jE .i64 1 26 λU _=>tB 0 26 (.int .i64 (wrap .i64 (D+1))) λL _=>ua 6 35 ([L]:aY Zg) (lG 0 2005 35 36 λW _=>bg)) bg) bg) (λJ=>bg))) bg) (λI=>VY 5 2005 FF Ax R3 (kC.wv (λz=>inferInstanceAs (Fc Sy cL (jv z.1 z.2))) default (λ_=>rfl) (λ_=>rfl) (λ_=>rfl) (λ_=>rfl)) λX _=>V3 5 2005 42 FF Ax SB (kC.wv (λz=>inferInstanceAs (Fc Sy cL (kA z.1 z.2))) default (λ_=>rfl) (λ_=>rfl) (λ_=>rfl) (λ_=>rfl)) λO _=>bg))))
namespace jF
def bn(O:b9)(B:Zb)(J:Sl Zb)(G:Int):aZ (Fw ((Zb)×(Sl Zb)×Int) (Sl Zb) Unit):=bp (decide ((len B)>0)) (bp (decide ((wrap .i64 (G+(len B)))>5000)) (some (.r ())) ((fP J (B:Zb)).bind λu=>(eB O B).bind λw=>some (.n (w,u,wrap .i64 (G+(len B)))))) (some (.x J))
def W1(B:Zb)(J:Sl Zb)(G:Int)(O:b9):aZ ((Sl Zb)×Int):=(bM (λq:(Zb)×(Sl Zb)×Int=>bn O q.1 q.2.1 q.2.2) (B,J,G)).bind (Fw.elim (λe=>some (e,0)) (λe=>some ((Sl.nil:Sl Zb),16)))
end jF
def jF(B:Zj):aZ ((Sl Zb)×Int):=(dV B).bind λu=>bp u ((jU B).bind λw=>(od (len B.procs) (0:Int)).bind λz=>jF.W1 (Sl.row [z]:Zb) (Sl.nil:Sl Zb) 0 w) (some ((Sl.nil:Sl Zb),1))
open jF in
instance Tk(B:Zj):Fc Sy cL (jF B):=Fc.N 94 [enc B] (dm 2 1 B (bA 8 λD _=>dA 3 10 (bA 6 λz _=>ow 1 4 0 z (bN 6 B.procs (GK 0 16 λC _=>ua 1 17 ([C]:aY Zg) (dx 18 (λu=>(bz [Pv 4,Cv 5 u.1,Ov 6,Iv 7 u.2.2] [Xb 4 z,Lb 2006 u.2.1])) (λw=>(0,(bz [Ov 6] [Lb 2006 w]))) (λw=>(bz [Ov 2,Iv 3 16] [Lb 2002 (Sl.nil:Sl Zb)])) (λu=>bN 7 u.1 (bu 3 20 (bN 10 u.1 (bu 10 29 bg (ua 6 32 ([u.1]:aY Zb) (lG 0 2006 32 33 λG _=>bA 7 λI _=>bg)))) bg)) (λw=>bg) (λw=>bg))))) bg))
def fD(s:Sl Zb):aZ Zb:=if s.l.length<=2147483648/\(s.l.flatMap Sl.l).length<=2147483648 then some (BL s)else none
instance JL(s:Sl Zb):Fc Sy cL (fD s):=Fc.of (A:=λz:Sl Zb=>[enc z]) (E:=λr:Zb=>[enc r]) (p:=fD) (n:=95) (z:=s) (kC.NY Zf Zf (λz r h=>by
 unfold fD at h;split at h
 next hc=>cases h;exact vU (RB (E:=Sy.E) (N:=λn=>n) (gid:=116) (nm:=some) (λ_ _ h=>(Option.some.inj h).symm) rfl Zf Zf (BP Zf) (BP Zf) rfl z hc.1 hc.2)
 cases h))
def lM(B:Zj):aZ ((Zb)×Int):=(jF B).bind λu=>(fD u.1).bind λw=>some (w,u.2)
instance UX(B:Zj):Fc Sy cL (lM B):=Fc.N 79 [enc B] (dm 2 1 B (bA 7 λu _=>bA 10 λw _=>bg))
def uj(B:Zj):aZ ((Zb)×Int):=(lM B).bind λu=>some (u.1,u.2)
instance UZ(B:Zj):Fc Sy cL (uj B):=Fc.N 50 [enc B] (dm 2 1 B (bA 7 λu _=>bg))
def qL(a B:Zn):aZ Zl:=(bp (a.kind==2) (some (a.message==B.message)) (some false):aZ Zl).bind λu=>some u
instance QI(a B:Zn):Fc Sy cL (qL a B):=Fc.M 93 [enc a,.fptr (cells B)] (dm 2 2 a (cm 9 6 [1,2,7] 13 (bu 9 7 (bC 6) (bC 6)) λu=>bg))
def uU(B:Zj)(e1:Zn):aZ (a_×Zl):=(idx B.procs e1.peer).bind λw=>(eU w.events (λz=>qL z e1)).bind λu=>some (⟨e1.peer,wrap .i64 (u+1)⟩,decide (u>=0))
instance TQ(B:Zj)(e1:Zn):Fc Sy cL (uU B e1):=Fc.M 78 [enc B,enc e1] (dm 2 2 B (dm 0 3 e1 (bR 10 λu _=>jY (F:=pK 93 [.fptr (cells e1)] (λz=>qL z e1) qp.wv u.events) 3 λw _=>bg)))
namespace gP
def J3(U:Sl a_)(W:Sl cg)(Y a:Int)(b:Sl Zn)(c J:Int)(O:Zj)(B:a_)(G:dc):aZ (Fw ((Sl a_)×Int×Zj×dc) ((Sl a_)×Zj×dc) Empty):=(fP U (B:a_)).bind λu=>some (.n (u,wrap .i64 (J+1),O,G))
def bS(W:Sl cg)(Y b:Int)(O:Sl Zn)(U:Int)(a:Sl a_)(G:Int)(J:Zj)(B:dc):aZ (Fw ((Sl a_)×Int×Zj×dc) ((Sl a_)×Zj×dc) Empty):=bp (decide (G<U)) ((idx O G).bind λu=>bp (u.kind==3) ((uU J u).bind λw=>J3 a W Y b O U G J w.1 B) (J3 a W Y b O U G J (⟨0,0⟩:a_) B)) (some (.x (a,J,B)))
def W2(a:Sl a_)(J:Sl cg)(O B:Int)(U:Sl Zn)(W Y:Int)(b:Zj)(G:dc):aZ (Fw (Int×Zj×dc) dc Empty):=(bM (λq:(Sl a_)×Int×Zj×dc=>bS J O B U W q.1 q.2.1 q.2.2.1 q.2.2.2) (a,Y,b,G)).bind (Fw.elim (λe=>(fP e.2.2.needs (e.1:Sl a_)).bind λu=>some (.n (wrap .i64 (B+1),e.2.1,(⟨e.2.2.t,u⟩:dc)))) (λe=>elim e))
def bn(J:Sl cg)(O:Int)(G:Int)(U:Zj)(B:dc):aZ (Fw (Int×Zj×dc) dc Empty):=bp (decide (G<O)) ((idx J G).bind λu=>W2 (Sl.nil:Sl a_) J O G u.events (len u.events) 0 U B) (some (.x B))
def W1(G:Sl cg)(J O:Int)(U:Zj)(B:dc):aZ (aZ dc):=(bM (λq:Int×Zj×dc=>bn G J q.1 q.2.1 q.2.2) (O,U,B)).bind (Fw.elim (λe=>some (some e)) (λe=>elim e))
end gP
def gP(B:Zj):aZ (aZ dc):=gP.W1 B.procs (len B.procs) 0 B (⟨B,Sl.nil⟩:dc)
open gP in
instance VX(B:Zj):Fc Sy cL (gP B):=Fc.N 48 [enc B] (dm 2 1 B (Wo 6 (⟨B,Sl.nil⟩:dc) [enc B] [.bG,.bG] [(0,1)] (by simp only[KN,LB,kK,Mw,I_,LO,Mg];rfl) rfl (dm 0 12 (⟨B,Sl.nil⟩:dc) (bN 8 B.procs (eT 6 (λu=>(bz [Pv 1,(3,.ptr 12 0),Cv 14 B.procs,Iv 15 (len B.procs),Iv 16 u.1] [Xb 1 u.2.1,(12,.box [cv u.2.2.t.procs,.own 4241]),Lb 4241 u.2.2.needs])) (λD=>(0,(bz [(3,.ptr 12 0)] [(12,.box [cv D.t.procs,.own 4241]),Lb 4241 D.needs]))) (λu=>bu 8 17 (bR 7 λC _=>ow 2 5 0 C (bN 12 C.events (eT 7 (λw=>(bz [Pv 1,(3,.ptr 12 0),Ov 6,Cv 14 B.procs,Iv 15 (len B.procs),Iv 16 u.1,Cv 21 C.events,Iv 22 (len C.events),Iv 23 w.2.1] [Xb 1 w.2.2.1,(12,.box [cv w.2.2.2.t.procs,.own 4241]),Lb 2006 w.1,Lb 4241 w.2.2.2.needs])) (λz=>(2,(bz [Pv 1,(3,.ptr 12 0),Ov 6,Cv 14 B.procs,Iv 15 (len B.procs),Iv 16 u.1] [Xb 1 z.2.1,(12,.box [cv z.2.2.t.procs,.own 4241]),Lb 2006 z.1,Lb 4241 z.2.2.needs]))) (λw=>bu 9 24 (bR 7 λG _=>ow 2 8 0 G (bu 15 29 (bA 4 λJ _=>wW 9 (lG 4 2006 38 39 λI _=>bg)) (wW 6 (lG 4 2006 38 39 λI _=>bg)))) bg) (λz=>ua 10 47 ([z.1]:aY (Sl a_)) (lG 0 4241 47 48 λL _=>bg))))) bg) (λD=>bg))))))
namespace iQ
def bn(O:Zg)(G:Int)(J:Sl U8)(B:Int):aZ (Fw ((Sl U8)×Int) (Sl U8) Empty):=bp (decide (B<G)) ((idx O B).bind λu=>(fP J (⟨wrap .u8 u⟩:U8)).bind λw=>some (.n (w,wrap .i64 (B+1)))) (some (.x J))
def W1(J:Sl U8)(O:Zg)(B G:Int):aZ Zq:=(bM (λq:(Sl U8)×Int=>bn O B q.1 q.2) (J,G)).bind (Fw.elim (λe=>some (KV e)) (λe=>elim e))
end iQ
def iQ(B:Zg):aZ Zq:=(t_ (len B) (⟨0⟩:U8)).bind λu=>iQ.W1 u B (len B) 0
open iQ in
instance V8(B:Zg):Fc Sy cL (iQ B):=Fc.M 47 [enc B] (bN 8 B (WO (zero:=[.int .u8 0]) 0 8 λz _=>bN 7 B (eT 6 (λu=>(bz [Ov 3,Cv 9 B,Iv 10 (len B),Iv 11 u.2] [Lb 2003 u.1])) (λw=>(0,(bz [Ov 3] [Lb 2003 w]))) (λu=>bu 8 12 (bR 7 λC _=>lG 9 2003 18 19 λD _=>bg) bg) (λw=>VB 5 2003 w bg))))
def qM(O:dc)(B:Zg)(p2:Int):aZ Zl:=(bp (decide (p2<0)) (some true) (some (decide (p2>=(len B)))):aZ Zl).bind λw=>(bp w (some true) ((idx B p2).bind λz=>(idx O.needs p2).bind λC=>some (decide (z>=(len C)))):aZ Zl).bind λD=>bp D (some false) ((idx O.needs p2).bind λG=>(idx B p2).bind λI=>(idx G I).bind λu=>(bp (u.index==0) (some true) ((idx B u.proc).bind λJ=>some (decide (u.index<=J))):aZ Zl).bind λL=>some L)
instance Qk(G:dc)(B:Zg)(p2:Int):Fc Sy cL (qM G B p2):=Fc.M 76 [.fptr (cells G),enc B,.int .i64 p2] (cm 11 5 [10] 15 (bu 11 10 (bC 5) (bN 2 B (bC 2))) λw=>cm 1 14 [16] 30 (bu 1 16 (bC 14) (bR 2 λz _=>bR 6 λu _=>bN 1 u (bC 2))) λC=>bu 2 30 bg (bR 10 λD _=>bR 3 λI _=>bR 1 λJ _=>cm 11 9 [1,7,47] 56 (bu 11 47 (bC 9) (bR 5 λL _=>bC 3)) λO=>bg))
def vn(G:Zg)(p1:Int):aZ Zg:=((jh G).bind Sl.whole).bind λu=>(Sl.jc u p1).bind λw=>(Sl.get u w).bind λz=>(Sl.jc u p1).bind λB=>(Sl.put u B (wrap .i64 (z+1):Int)).bind λC=>some C
instance VD(B:Zg)(p1:Int):Fc Sy cL (vn B p1):=Fc.N 77 [enc B,.int .i64 p1] (J6 8 7 kO B λw _=>jE .i64 7 7 λz _=>pP 0 7 0 1 false (λu=>.int .i64 u) λu _=>jE .i64 1 7 λC _=>tB 0 7 (.int .i64 (wrap .i64 (u+1))) λD _=>bg)
namespace dH
def dN(Y:Zb)(U:dc)(a:Int)(J:Zg)(W:Int)(b O:Mo ByteArray Zl)(G:Zl)(B:Int):aZ (Fw (Zl×Int) Bool Empty):=bp (decide (B<W)) ((bp G (some true) ((qM U J B).bind λD=>(bp D ((vn J B).bind λu=>(iQ u).bind λw=>some (iD O w false)) (some false):aZ Zl).bind λz=>some z):aZ Zl).bind λC=>some (.n (C,wrap .i64 (B+1)))) (some (.x G))
def W3(O:Zb)(Y:dc)(U:Int)(J:Zg)(W:Zl)(a b:Int)(B G:Mo ByteArray Zl):aZ (Fw (Int×(Mo ByteArray Zl)) (Mo ByteArray Zl) Empty):=(bM (λq:Zl×Int=>dN O Y U J a B G q.1 q.2) (W,b)).bind (Fw.elim (λe=>(iQ J).bind λu=>(bp e ((iQ J).bind λw=>some (!iD B w false)) (some false):aZ Zl).bind λz=>some (.n (wrap .i64 (U-1),kV G u z))) (λe=>elim e))
def bS(B:Zb)(U:dc)(O:Mo ByteArray Zl)(G:Int)(J:Mo ByteArray Zl):aZ (Fw (Int×(Mo ByteArray Zl)) (Mo ByteArray Zl) Empty):=bp (decide (G>=0)) ((idx B G).bind λu=>W3 B U G u (G==(wrap .i64 ((len B)-1))) (len u) 0 O J) (some (.x J))
def W2(B:Zb)(O:dc)(U:Int)(G J:Mo ByteArray Zl):aZ ((yJ ByteArray Zl)×Int):=(bM (λq:Int×(Mo ByteArray Zl)=>bS B O G q.1 q.2) (U,J)).bind (Fw.elim (λe=>some (⟨some e⟩,0)) (λe=>elim e))
def bn(U:Zb)(Y:dc)(J:Zb)(O:Int)(W:Mo ByteArray Zl)(G:Int)(B:Mo ByteArray Zl):aZ (Fw (Int×(Mo ByteArray Zl)) (Mo ByteArray Zl) Empty):=bp (decide (G<O)) ((idx J G).bind λu=>(iQ u).bind λw=>some (.n (wrap .i64 (G+1),kV B w true))) (some (.x B))
def W1(B:Zb)(J:dc)(U:Zb)(W Y:Int)(O G:Mo ByteArray Zl):aZ ((yJ ByteArray Zl)×Int):=(bM (λq:Int×(Mo ByteArray Zl)=>bn B J U W G q.1 q.2) (Y,O)).bind (Fw.elim (λe=>dH.W2 B J (wrap .i64 ((len B)-1)) e G) (λe=>elim e))
end dH
def dH(B:Zj)(G:Zb):aZ ((yJ ByteArray Zl)×Int):=(dV B).bind λw=>bp w (bp (decide ((len G)>5000)) (some (⟨none⟩,5)) ((gf G (λz=>mL z B)).bind λC=>bp C (some (⟨none⟩,18)) ((uj B).bind λu=>bp (u.2==0) ((gP B).bind λD=>(D).bind λI=>dH.W1 u.1 I G (len G) 0 [] []) (some (⟨none⟩,u.2))))) (some (⟨none⟩,1))
open dH in
instance R1(O:Zj)(J:Zb):Fc Sy cL (dH O J):=Fc.NE (λr:(yJ ByteArray Zl)×Int=>[enc r.1,.int .i64 r.2]) 46 [enc O,enc J] (dm 2 2 O (bA 9 λb _=>dA 4 17 (bN 4 J (bu 4 21 bg (jY (F:=kX 74 [.fptr (cells O)] (λz=>mL z O) qp.wv J) 5 λc _=>bu 3 25 bg (bA 7 λu _=>dA 14 35 (bA 6 λd _=>JU 5 (λa=>(bz [Cv 1 J,Bv 17 false,Bv 21 false,Bv 25 false,Cv 6 u.1,Iv 7 u.2,Bv 35 false,Cv 8 a] [Xb 2 O])) λC _=>bN 10 J (eT 5 (λD=>(bz [Cv 6 u.1,Kv 8 C,(9,.mp 39),(10,.mp 40),Cv 41 J,Iv 42 (len J),Iv 43 D.1] [(39,iW D.2),(40,iW ([]:Mo ByteArray Zl))])) (λB=>(1,(bz [Cv 6 u.1,Kv 8 C,(9,.mp 39),(10,.mp 40)] [(39,iW B),(40,iW ([]:Mo ByteArray Zl))]))) (λD=>bu 7 44 (bR 7 λe _=>bA 7 λX _=>KX 0 39 D.2 X true bg) bg) (λB=>bN 6 u.1 (eT 6 (λw=>(bz [Cv 6 u.1,Kv 8 C,(9,.mp 39),(10,.mp 40),Iv 13 w.1] [(39,iW B),(40,iW w.2)])) (λL=>(3,(bz [(10,.mp 40)] [(40,iW L)]))) (λw=>bu 8 55 (bR 9 λG _=>bN 8 u.1 (bN 9 G (eT 5 (λI=>(bz [Cv 6 u.1,Kv 8 C,(9,.mp 39),(10,.mp 40),Iv 13 w.1,Cv 14 G,Bv 15 I.1,Iv 68 (len G),Iv 69 I.2] [(39,iW B),(40,iW w.2)])) (λQ=>(5,(bz [Cv 6 u.1,Kv 8 C,(9,.mp 39),(10,.mp 40),Iv 13 w.1,Cv 14 G,Bv 15 Q] [(39,iW B),(40,iW w.2)]))) (λI=>bu 7 70 (cm 14 13 [16,73] 86 (bu 14 73 (bC 13) (bA 3 λf _=>cm 1 7 [16,78] 85 (bu 1 78 (bA 3 λY _=>bA 0 λS _=>JJ 0 40 w.2 S false (bC 1)) (bC 7)) λZ=>bC 1)) λg=>bg) bg) (λQ=>bA 5 λT _=>cm 2 6 [14,92] 98 (bu 2 92 (bA 2 λU _=>JJ 0 39 B U false (bC 2)) (bC 6)) λW=>KX 0 40 w.2 T W bg)))) bg) (λL=>bg))))) bg)))) bg))
def nG(B:dc):aZ Zg:=(od (len B.needs) (0:Int)).bind λu=>some u
instance OA(B:dc):Fc Sy cL (nG B):=Fc.N 49 [.fptr (cells B)] (bN 11 B.needs (GK 0 8 λu _=>bg))
def ko(G:Zj)(J:Zb):aZ (Zl×Int):=(dH G J).bind λu=>bp (u.2==0) ((gP G).bind λw=>(w).bind λz=>(nG z).bind λB=>(iQ B).bind λC=>some ((!iD (uz u.1) C false),0)) (some (false,u.2))
instance Tn(B:Zj)(G:Zb):Fc Sy cL (ko B G):=Fc.M 24 [enc B,enc G] (dm 2 2 B (bA 8 λu _=>dA 14 15 (bA 7 λz _=>JU 0 (λC=>(bz [Iv 7 u.2,Bv 15 false,Cv 17 u.1,Cv 19 C] [Xb 2 B])) λD _=>bA 0 λI _=>bA 0 λw _=>LC 0 u.1 w false bg) bg))
def sj(B:Zj)(G:Zb):aZ (Zl×Int):=(ko B G).bind λu=>some (u.1,u.2)
instance T7(B:Zj)(G:Zb):Fc Sy cL (sj B G):=Fc.M 9 [enc B,enc G] (dm 2 2 B (bA 8 λu _=>bg))
def jV(c:Zg):aZ (bU 8 Int):=some (mD 8 c)
instance Qu(c:Zg):Fc Sy cL (jV c):=Fc.of (A:=λz:Zg=>[enc z]) (E:=λr:bU 8 Int=>[enc r]) (p:=jV) (n:=26) (b:=true) (z:=c) (kC.scalar (kC.NY Zf Zf (λz r h=>by
 cases h;exact vU (Q9 Zf rfl (λ_=>rfl) z))) K6)
namespace dJ
def dN(U:Zg)(Y:Zb)(a b W:Int)(O:Mo (bU 8 Int) Int)(G:Zg)(J:Int)(B:bF):aZ (Fw ((Zg)×Int×bF) ((Zg)×(Mo (bU 8 Int) Int)×bF) Empty):=bp (decide (J<W)) ((jV U).bind λu=>(bU.at u J).bind λw=>(bU.at u J).bind λC=>bp (wK O (bU.set u J (wrap .i64 (w+1)))) ((fP G (iD O (bU.set u J (wrap .i64 (w+1))) 0:Int)).bind λz=>some (.n (z,wrap .i64 (J+1),(⟨B.list,⟨none⟩,B.next⟩:bF)))) (some (.n (G,wrap .i64 (J+1),(⟨B.list,⟨none⟩,B.next⟩:bF))))) (some (.x (G,O,(⟨B.list,⟨none⟩,B.next⟩:bF))))
def W3(U B:Zg)(W:Zb)(Y G a b:Int)(J:Mo (bU 8 Int) Int)(O:bF):aZ (Fw (Int×(Mo (bU 8 Int) Int)×bF) ((Mo (bU 8 Int) Int)×bF) Empty):=(bM (λq:(Zg)×Int×bF=>dN U W Y G a J q.1 q.2.1 q.2.2) (B,b,O)).bind (Fw.elim (λe=>(fP e.2.2.next (e.1:Zg)).bind λu=>some (.n (wrap .i64 (G+1),e.2.1,(⟨e.2.2.list,⟨none⟩,u⟩:bF)))) (λe=>elim e))
def bS(O:Zb)(U:Int)(J:Int)(G:Mo (bU 8 Int) Int)(B:bF):aZ (Fw (Int×(Mo (bU 8 Int) Int)×bF) ((Mo (bU 8 Int) Int)×bF) Empty):=bp (decide (J<U)) ((idx O J).bind λu=>W3 u (Sl.nil:Zg) O U J (len u) 0 G (⟨B.list,⟨none⟩,B.next⟩:bF)) (some (.x (G,(⟨B.list,⟨none⟩,B.next⟩:bF))))
def W2(J:Zb)(O U:Int)(B:Mo (bU 8 Int) Int)(G:bF):aZ ((aZ bF)×Int):=(bM (λq:Int×(Mo (bU 8 Int) Int)×bF=>bS J O q.1 q.2.1 q.2.2) (U,B,G)).bind (Fw.elim (λe=>some (some (⟨e.2.list,⟨some e.1⟩,e.2.next⟩:bF),0)) (λe=>elim e))
def bn(O U:Zb)(W:Int)(B:Int)(G:Mo (bU 8 Int) Int)(J:bF):aZ (Fw (Int×(Mo (bU 8 Int) Int)×bF) ((Mo (bU 8 Int) Int)×bF) Empty):=bp (decide (B<W)) ((idx U B).bind λu=>(jV u).bind λw=>some (.n (wrap .i64 (B+1),kV G w B,(⟨J.list,⟨none⟩,Sl.nil⟩:bF)))) (some (.x (G,(⟨J.list,⟨none⟩,Sl.nil⟩:bF))))
def W1(B O:Zb)(U W:Int)(G:Mo (bU 8 Int) Int)(J:bF):aZ ((aZ bF)×Int):=(bM (λq:Int×(Mo (bU 8 Int) Int)×bF=>bn B O U q.1 q.2.1 q.2.2) (W,G,J)).bind (Fw.elim (λe=>dJ.W2 B (len B) 0 e.1 (⟨e.2.list,⟨none⟩,Sl.nil⟩:bF)) (λe=>elim e))
end dJ
def dJ(B:Zj):aZ ((aZ bF)×Int):=(uj B).bind λu=>bp (u.2==0) (dJ.W1 u.1 u.1 (len u.1) 0 [] (⟨u.1,⟨none⟩,Sl.nil⟩:bF)) (some (none,u.2))
open dJ in
instance QO(O:Zj):Fc Sy cL (dJ O):=Fc.N 25 [enc O] (dm 2 1 O (bA 7 λu _=>dA 14 22 (VN 7 [cv u.1,.mp 25] [cv u.1,.mp 25,.v .bG] [.bG,.fV,.bG] [(0,1),(1,1)] (by simp only[CH,LF,PA,KC,Nr,Ko,kK,Mw,I_,LO,Mg];rfl) (VO 0 27 [cv u.1,.mp 25,.v .bG] (by simp only[all_cons,UB,Py,SQ,Pc,lV,j9,lU,kU,Jh];rfl) (bN 7 u.1 (eT 5 (λB=>(bz [Cv 4 u.1,(6,.ptr 27 0),Cv 28 u.1,Iv 29 (len u.1),Iv 30 B.1] [(25,iW B.2.1),(27,.box [cv B.2.2.list,.mp 25,.v .bG])])) (λL=>(0,(bz [Cv 4 u.1,(6,.ptr 27 0)] [(25,iW L.1),(27,.box [cv L.2.list,.mp 25,.v .bG])]))) (λB=>bu 7 31 (bR 8 λW _=>jY 11 λQ _=>KX 1 25 B.2.1 Q B.1 bg) bg) (λL=>bN 6 u.1 (eT 6 (λz=>(bz [(6,.ptr 27 0),Cv 43 u.1,Iv 44 (len u.1),Iv 45 z.1] [(25,iW z.2.1),(27,.box [cv z.2.2.list,.mp 25,.own 4542]),Lb 4542 z.2.2.next])) (λJ=>(2,(bz [(6,.ptr 27 0)] [(25,iW J.1),(27,.box [cv J.2.list,.mp 25,.own 4542]),Lb 4542 J.2.next]))) (λz=>bu 8 46 (bR 7 λI _=>bN 13 I (eT 7 (λw=>(bz [(6,.ptr 27 0),Cv 10 I,Ov 11,Cv 43 u.1,Iv 44 (len u.1),Iv 45 z.1,Iv 50 (len I),Iv 51 w.2.1] [(25,iW z.2.1),(27,.box [cv w.2.2.list,.mp 25,.own 4542]),Lb 2011 w.1,Lb 4542 w.2.2.next])) (λC=>(4,(bz [(6,.ptr 27 0),Ov 11,Cv 43 u.1,Iv 44 (len u.1),Iv 45 z.1] [(25,iW C.2.1),(27,.box [cv C.2.2.list,.mp 25,.own 4542]),Lb 2011 C.1,Lb 4542 C.2.2.next]))) (λw=>bu 9 52 (bA 14 λD _=>Si 0 13 (bz [(6,.ptr 27 0),Cv 10 I,Ov 11,Cv 43 u.1,Iv 44 (len u.1),Iv 45 z.1,Iv 50 (len I),Iv 51 w.2.1,Bv 52 true,Iv 12 w.2.1,Cv 55 D] [(25,iW z.2.1),(27,.box [cv w.2.2.list,.mp 25,.own 4542]),Lb 2011 w.1,Lb 4542 w.2.2.next]) 8 (0:Int) Zf (WG 0 13 (bU.EO 8 (0:Int)) D (Ah 5 .i64 13 λG S=>Li 0 1 false 13 D w.2.1 0 G S (.int .i64 G) (by rfl) (Ah 1 .i64 13 λT U=>Vw 0 1 13 D w.2.1 0 T U (wrap .i64 (G+1)) (.int .i64 (wrap .i64 (G+1))) (by rfl) (Wu 8 13 (bU.set D w.2.1 (wrap .i64 (G+1))) rfl (TM 0 25 z.2.1 (bU.set D w.2.1 (wrap .i64 (G+1))) 0 (bu 12 70 (lG 6 2011 73 74 λX _=>bg) bg))))))) bg) (λC=>ua 10 82 ([C.1]:aY Zg) (lG 0 4542 82 83 λY _=>bg)))) bg) (λJ=>bg))))))) bg))
namespace cI
def bS(Y:bF)(U:Sl Zl)(W a:Zb)(b c:Int)(O:Zg)(B:Sl Zl)(J G:Int):aZ (Fw ((Sl Zl)×Int×Int) (Sl Zl) Empty):=bp (decide (G<J)) ((idx O G).bind λu=>(Sl.jc B u).bind λw=>(Sl.put B w (true:Zl)).bind λz=>some (.n (z,J,wrap .i64 (G+1)))) (some (.x B))
def W2(U:bF)(J B:Sl Zl)(G W:Zb)(Y O:Int)(a:Zg)(b c:Int):aZ (Fw ((Sl Zl)×(Zb)×Int) Zb Unit):=(bM (λq:(Sl Zl)×Int×Int=>bS U J G W Y O a q.1 q.2.1 q.2.2) (B,b,c)).bind (Fw.elim (λe=>some (.n (e,G,wrap .i64 (O+1)))) (λe=>elim e))
def bn(U:bF)(O:Sl Zl)(W:Zb)(Y:Int)(B:Sl Zl)(J:Zb)(G:Int):aZ (Fw ((Sl Zl)×(Zb)×Int) Zb Unit):=bp (decide (G<Y)) ((idx W G).bind λz=>(Sl.jc B G).bind λC=>(Sl.get B C).bind λD=>bp D ((Sl.jc O G).bind λI=>(Sl.get O I).bind λL=>bp L (((jh z).bind Sl.whole).bind λQ=>(fP J (Q:Zg)).bind λw=>some (.n (B,w,wrap .i64 (G+1)))) (bp (G==(wrap .i64 ((len U.list)-1))) (some (.r ())) ((idx U.next G).bind λu=>W2 U O B J W Y G u (len u) 0))) (some (.n (B,J,wrap .i64 (G+1))))) (some (.x J))
def W1(O:bF)(G B:Sl Zl)(J U:Zb)(W Y:Int):aZ ((Zb)×Zl×(Sl Zl)):=(bM (λq:(Sl Zl)×(Zb)×Int=>bn O G U W q.1 q.2.1 q.2.2) (B,J,Y)).bind (Fw.elim (λe=>some (e,true,G)) (λe=>some (Sl.nil,false,G)))
end cI
def cI(G:bF)(B:Sl Zl):aZ ((Zb)×Zl×(Sl Zl)):=(od (len G.list) (false:Zl)).bind λu=>(Sl.jc u 0).bind λw=>(Sl.put u w (true:Zl)).bind λz=>cI.W1 G B z (Sl.nil:Zb) G.list (len G.list) 0
open cI in
abbrev uS(G:bF)(B:Sl Bool):HV Sy cL (cI G B):=HV.mk' 27 [.v (.fptr (cells G)),.own 2001] [(2001,cB (B:Sl Bool))] (λr:(Sl (Sl Int))×Bool×(Sl Bool)=>[enc r.1,.bool r.2.1]) (λr:(Sl (Sl Int))×Bool×(Sl Bool)=>[(2001,cB (r.2.2:Sl Bool))]) (bN 12 G.list (GK 0 17 λW _=>jE .i64 6 17 λX _=>tB 0 17 (.bool true) λY _=>bN 14 G.list (dx 8 (λu=>⟨[Kv 0 G,Ov 1,Ov 6,Ov 7,Cv 23 G.list,Iv 24 (len G.list),Iv 25 u.2.2],[Lb 2001 B,Lb 2006 u.1,Lb 2007 u.2.1],[2001],[],true,0⟩) (λw=>(0,⟨[Ov 1,Ov 7],[Lb 2001 B,Lb 2007 w],[2001],[],true,0⟩)) (λw=>⟨[Ov 1,(4,.v .bG),Bv 5 false],[Lb 2001 B],[2001],[],true,0⟩) (λu=>bu 10 26 (bR 8 λL _=>jE .i64 11 2006 λZ _=>pP 0 2006 0 1 false (λD=>.bool D) λD _=>dA 4 30 (jE .i64 5 2001 λa _=>pP 0 2001 0 1 false (λI=>.bool I) λI _=>bu 3 36 (J6 5 43 kO L λO _=>ua 1 44 ([O]:aY (Sl Int)) (lG 0 2007 44 45 λQ _=>bg)) (bN 8 G.list (bu 5 46 bg (bR 11 λC _=>bN 1 C (eT 8 (λz=>⟨[Kv 0 G,Ov 1,Ov 6,Ov 7,Cv 23 G.list,Iv 24 (len G.list),Iv 25 u.2.2,Cv 61 C,Iv 62 z.2.1,Iv 63 z.2.2],[Lb 2001 B,Lb 2006 z.1,Lb 2007 u.2.1],[2001],[],true,0⟩) (λJ=>(3,⟨[Kv 0 G,Ov 1,Ov 6,Ov 7,Cv 23 G.list,Iv 24 (len G.list),Iv 25 u.2.2],[Lb 2001 B,Lb 2006 J,Lb 2007 u.2.1],[2001],[],true,0⟩)) (λz=>bu 10 64 (bR 7 λS _=>jE .i64 7 2006 λT _=>tB 0 2006 (.bool true) λU _=>bg) bg) (λJ=>bg)))))) bg) bg) (λw=>bg) (λw=>bg))))
namespace c_
def bS(U:bF)(W:Zb)(G:Sl Zl)(B:Zb)(O J:Int):aZ (Fw ((Sl Zl)×(Zb)×Int×Int) Zb Empty):=bp (decide (J<O)) ((idx W J).bind λT=>(Sl.jc G J).bind λw=>(Sl.get G w).bind λz=>bp z ((Sl.jc G J).bind λC=>(Sl.put G C (false:Zl)).bind λD=>(cI U D).bind λu=>bp u.2.1 (some (.n (u.2.2,B,O,wrap .i64 (J+1)))) ((Sl.jc u.2.2 J).bind λI=>(Sl.put u.2.2 I (true:Zl)).bind λL=>((jh T).bind Sl.whole).bind λQ=>(fP B (Q:Zg)).bind λS=>some (.n (L,S,O,wrap .i64 (J+1))))) (some (.n (G,B,O,wrap .i64 (J+1))))) (some (.x B))
def W2(J:bF)(G:Sl Zl)(B O:Zb)(U W:Int):aZ ((Zb)×Int):=(bM (λq:(Sl Zl)×(Zb)×Int×Int=>bS J O q.1 q.2.1 q.2.2.1 q.2.2.2) (G,B,U,W)).bind (Fw.elim (λe=>some (e,0)) (λe=>elim e))
def bn(J:bF)(O:Zb)(U:Int)(B:Sl Zl)(G:Int):aZ (Fw ((Sl Zl)×Int) (Sl Zl) Empty):=bp (decide (G<U)) ((idx O G).bind λu=>(jV u).bind λw=>(Sl.jc B (iD (uz J.index) w 0)).bind λz=>(Sl.put B z (true:Zl)).bind λC=>some (.n (C,wrap .i64 (G+1)))) (some (.x B))
def W1(B:bF)(G:Sl Zl)(J:Zb)(O U:Int):aZ ((Zb)×Int):=(bM (λq:(Sl Zl)×Int=>bn B J O q.1 q.2) (G,U)).bind (Fw.elim (λe=>c_.W2 B e (Sl.nil:Zb) B.list (len B.list) 0) (λe=>elim e))
end c_
def c_(G:Zj)(B:Zb):aZ ((Zb)×Int):=(ko G B).bind λu=>bp (u.2==0) (bp u.1 ((dJ G).bind λw=>bp (w.2==0) ((w.1).bind λz=>(od (len z.list) (false:Zl)).bind λC=>c_.W1 z C B (len B) 0) (some (Sl.nil,w.2))) (some (Sl.nil,7))) (some (Sl.nil,u.2))
open c_ in
instance Nx(O:Zj)(G:Zb):Fc Sy cL (c_ O G):=Fc.N 10 [enc O,enc G] (dm 2 2 O (bA 8 λa _=>dA 14 24 (dA 10 27 (bA 6 λL _=>dA 14 34 (JU 6 (λT=>(bz [Cv 1 G,Iv 7 L.2,Bv 24 false,Bv 27 false,Cv 8 T,Bv 34 false,Cv 36 T] [Xb 2 O])) λu _=>bN 3 u.list (GK 0 41 λb _=>bN 7 G (eT 6 (λB=>(bz [Kv 8 u,Ov 9,Cv 42 G,Iv 43 (len G),Iv 44 B.2] [Lb 2009 B.1])) (λC=>(0,(bz [Kv 8 u,Ov 9] [Lb 2009 C]))) (λB=>bu 8 45 (bR 7 λc _=>jY 11 λQ _=>LC 0 u.index Q 0 (jE .i64 0 2009 λd _=>tB 0 2009 (.bool true) λe _=>bg)) bg) (λC=>bN 14 u.list (eT 7 (λw=>(bz [Kv 8 u,Ov 9,Ov 12,Cv 61 u.list,Iv 62 w.2.2.1,Iv 63 w.2.2.2] [Lb 2009 w.1,Lb 2012 w.2.1])) (λD=>(2,(bz [Ov 12] [Lb 2012 D]))) (λw=>bu 9 64 (bR 8 λS _=>jE .i64 10 2009 λU _=>pP 0 2009 0 1 false (λz=>.bool z) λz _=>dA 3 72 (jE .i64 7 2009 λW _=>tB 0 2009 (.bool false) λI _=>TA 7 (uS u I) λX _=>dA 13 83 bg (jE .i64 5 2001 λY _=>tB 0 2001 (.bool true) λZ _=>J6 5 89 kO S λJ _=>ua 1 90 ([J]:aY Zg) (lG 0 2012 90 91 λf _=>bg))) bg) bg) (λD=>bg)))))) bg) bg) bg))
def wJ(B:Zj)(G:Zg):aZ Zl:=some ((len G)==(len B.procs))
instance S6(B:Zj)(G:Zg):Fc Sy cL (wJ B G):=Fc.M 51 [enc B,enc G] (dm 2 2 B (bN 6 G (bN 2 B.procs bg)))
namespace mg
def bn(B:Zg)(G:Zj)(p5:Int):aZ (Fw Int Unit Unit):=bp (decide (p5<(len B))) ((idx B p5).bind λu=>(bp (decide (u<0)) (some true) ((idx B p5).bind λw=>(idx G.procs p5).bind λz=>some (decide (w>(len z.events)))):aZ Zl).bind λC=>bp C (some (.r ())) (some (.n (wrap .i64 (p5+1))))) (some (.x ()))
def W1(G:Zg)(p5:Int)(B:Zj):aZ Zl:=(bM (λq:Int=>bn G B q) p5).bind (Fw.elim (λe=>some true) (λe=>some false))
end mg
def mg(B:Zj)(G:Zg):aZ Zl:=mg.W1 G 0 B
open mg in
instance Rn(B:Zj)(G:Zg):Fc Sy cL (mg B G):=Fc.M 52 [enc B,enc G] (dm 2 2 B (dx 11 (λw=>(bz [Cv 1 G,Pv 2,Iv 5 w] [Xb 2 B])) (λu=>(0,(bz [] []))) (λu=>(bz [Bv 4 false] [])) (λw=>bN 6 G (bu 3 9 (bR 9 λC _=>cm 3 13 [17] 30 (bu 3 17 (bC 13) (bR 2 λD _=>bR 4 λz _=>bN 2 z.events (bC 2))) λI=>bu 2 30 bg bg) bg)) (λu=>bg) (λu=>bg)))
def oF(G:Zj)(J:Zg)(p2 i3:Int):aZ Zl:=(idx G.procs p2).bind λz=>(idx z.events i3).bind λu=>bp (u.kind==3) ((dG G 2 u.message).bind λw=>(idx J w.proc).bind λB=>some (decide (w.index<=B))) (some true)
instance Tj(B:Zj)(G:Zg)(p2 i3:Int):Fc Sy cL (oF B G p2 i3):=Fc.M 80 [enc B,enc G,.int .i64 p2,.int .i64 i3] (dm 2 4 B (bR 8 λw _=>bR 3 λu _=>ow 2 9 0 u (dA 10 22 (bA 8 λz _=>bR 11 λC _=>bg) bg)))
namespace eZ
def bS(J:Zg)(p5:Int)(B:Zj)(G:Int):aZ (Fw Int Unit Unit):=(idx J p5).bind λu=>bp (decide (G<u)) ((oF B J p5 G).bind λw=>bp w (some (.n (wrap .i64 (G+1)))) (some (.r ()))) (some (.x ()))
def W2(G:Zg)(p5 J:Int)(B:Zj):aZ (Fw Int Unit Unit):=(bM (λq:Int=>bS G p5 B q) J).bind (Fw.elim (λe=>some (.n (wrap .i64 (p5+1)))) (λe=>some (.r ())))
def bn(G:Zg)(B:Zj)(p5:Int):aZ (Fw Int Unit Unit):=bp (decide (p5<(len G))) (W2 G p5 0 B) (some (.x ()))
def W1(G:Zg)(p5:Int)(B:Zj):aZ Zl:=(bM (λq:Int=>bn G B q) p5).bind (Fw.elim (λe=>some true) (λe=>some false))
end eZ
def eZ(B:Zj)(G:Zg):aZ Zl:=eZ.W1 G 0 B
open eZ in
instance QF(B:Zj)(G:Zg):Fc Sy cL (eZ B G):=Fc.M 53 [enc B,enc G] (dm 2 2 B (dx 11 (λu=>(bz [Cv 1 G,Pv 2,Iv 5 u] [Xb 2 B])) (λw=>(0,(bz [] []))) (λw=>(bz [Bv 4 false] [])) (λu=>bN 6 G (bu 3 10 (dx 12 (λC=>(bz [Cv 1 G,Pv 2,Iv 5 u,Iv 6 C] [Xb 2 B])) (λz=>(2,(bz [Cv 1 G,Pv 2,Iv 5 u] [Xb 2 B]))) (λz=>(bz [Bv 4 false] [])) (λC=>bR 7 λD _=>bu 4 18 (bA 11 λI _=>dA 3 26 bg bg) bg) (λz=>bg) (λz=>bg)) bg)) (λw=>bg) (λw=>bg)))
def ni(B:Zj)(G:Zg):aZ Zl:=(kE B).bind λu=>(bp u ((wJ B G).bind λw=>some w) (some false):aZ Zl).bind λz=>(bp z ((mg B G).bind λC=>some C) (some false):aZ Zl).bind λD=>(bp D ((eZ B G).bind λI=>some I) (some false):aZ Zl).bind λJ=>some J
instance Lz(B:Zj)(G:Zg):Fc Sy cL (ni B G):=Fc.M 29 [enc B,enc G] (dm 2 2 B (bA 6 λu _=>cm 1 4 [7] 11 (bu 1 7 (bA 2 λw _=>bC 1) (bC 4)) λz=>cm 1 4 [12] 16 (bu 1 12 (bA 2 λC _=>bC 1) (bC 4)) λD=>cm 1 4 [1,2,17] 21 (bu 1 17 (bA 2 λI _=>bC 1) (bC 4)) λJ=>bg))
namespace fW
def bn(J:Zb)(B:Zj)(G:Int):aZ (Fw Int Unit Unit):=bp (decide (G<(len J))) ((idx J G).bind λu=>(ni B u).bind λw=>bp w (some (.n (wrap .i64 (G+1)))) (some (.r ()))) (some (.x ()))
def W1(G:Zb)(J:Int)(B:Zj):aZ ((Zb)×Int):=(bM (λq:Int=>bn G B q) J).bind (Fw.elim (λe=>(dM B).bind λu=>bp u.2 (some (u.1,0)) (some (Sl.nil,16))) (λe=>some (Sl.nil,18)))
end fW
def fW(B:Zj)(G:Zb):aZ ((Zb)×Int):=(kE B).bind λu=>bp u (bp (decide ((len G)>5000)) (some (Sl.nil,5)) (fW.W1 G 0 B)) (some (Sl.nil,1))
open fW in
instance RX(B:Zj)(G:Zb):Fc Sy cL (fW B G):=Fc.N 11 [enc B,enc G] (dm 2 2 B (bA 8 λz _=>dA 3 11 (bN 7 G (bu 3 14 bg (dx 11 (λw=>(bz [Cv 1 G,Pv 2,Iv 6 w] [Xb 2 B])) (λu=>(0,(bz [Pv 2] [Xb 2 B]))) (λu=>(bz [(4,.v .bG),Iv 5 18] [])) (λw=>bN 6 G (bu 3 18 (bR 10 λC _=>jY 1 λD _=>dA 3 27 bg bg) bg)) (λu=>bA 5 λI _=>dA 14 34 bg bg) (λu=>bg)))) bg))
namespace kr
def bn(a0 G:Zg)(B:Int):aZ (Fw Int Unit Unit):=bp (decide (B<(len a0))) ((idx a0 B).bind λu=>(idx G B).bind λw=>bp (u==w) (some (.n (wrap .i64 (B+1)))) (some (.r ()))) (some (.x ()))
def W1(a0 B:Zg)(G:Int):aZ Zl:=(bM (λq:Int=>bn a0 B q) G).bind (Fw.elim (λe=>some true) (λe=>some false))
end kr
def kr(a0 B:Zg):aZ Zl:=bp ((len a0)==(len B)) (kr.W1 a0 B 0) (some false)
open kr in
instance Tf(a0 B:Zg):Fc Sy cL (kr a0 B):=Fc.M 31 [enc a0,enc B] (bN 9 a0 (bN 1 B (dA 3 10 (dx 11 (λw=>(bz [Cv 0 a0,Cv 1 B,Iv 5 w] [])) (λu=>(0,(bz [] []))) (λu=>(bz [Bv 4 false] [])) (λw=>bN 6 a0 (bu 3 14 (bR 9 λz _=>bR 3 λC _=>dA 4 25 bg bg) bg)) (λu=>bg) (λu=>bg)) bg)))
namespace gA
def bn(G:Zb)(J:Zg)(B:Int):aZ (Fw Int Unit Unit):=bp (decide (B<(len G))) ((idx G B).bind λu=>(kr u J).bind λw=>bp w (some (.r ())) (some (.n (wrap .i64 (B+1))))) (some (.x ()))
def W1(B:Zb)(G:Zg)(J:Int):aZ Zl:=(bM (λq:Int=>bn B G q) J).bind (Fw.elim (λe=>some false) (λe=>some true))
end gA
def gA(B:Zb)(G:Zg):aZ Zl:=gA.W1 B G 0
open gA in
instance Rk(B:Zb)(G:Zg):Fc Sy cL (gA B G):=Fc.M 54 [enc B,enc G] (dx 13 (λw=>(bz [Cv 0 B,Cv 1 G,Iv 5 w] [])) (λu=>(0,(bz [] []))) (λu=>(bz [Bv 4 true] [])) (λw=>bN 6 B (bu 3 9 (bR 9 λz _=>bA 2 λC _=>bu 2 17 bg bg) bg)) (λu=>bg) (λu=>bg))
def tR(B:Zj)(G:Zg)(p2:Int):aZ Zl:=(idx G p2).bind λu=>(idx B.procs p2).bind λw=>some (decide (u<(len w.events)))
instance Tr(B:Zj)(G:Zg)(p2:Int):Fc Sy cL (tR B G p2):=Fc.M 81 [enc B,enc G,.int .i64 p2] (dm 2 3 B (bR 7 λw _=>bR 4 λu _=>bN 2 u.events bg))
namespace fA
def bn(J:Zg)(G:Zj)(B:Zg)(p6:Int):aZ (Fw ((Zg)×Int) Zg Empty):=bp (decide (p6<(len J))) ((tR G J p6).bind λu=>(bp u ((idx J p6).bind λw=>(oF G J p6 w).bind λz=>some z) (some false):aZ Zl).bind λC=>bp C ((fP B (p6:Int)).bind λD=>some (.n (D,wrap .i64 (p6+1)))) (some (.n (B,wrap .i64 (p6+1))))) (some (.x B))
def W1(J B:Zg)(p6:Int)(G:Zj):aZ Zg:=(bM (λq:(Zg)×Int=>bn J G q.1 q.2) (B,p6)).bind (Fw.elim (λe=>some e) (λe=>elim e))
end fA
def fA(B:Zj)(G:Zg):aZ Zg:=fA.W1 G (Sl.nil:Zg) 0 B
open fA in
instance OO(B:Zj)(G:Zg):Fc Sy cL (fA B G):=Fc.N 55 [enc B,enc G] (dm 2 2 B (eT 17 (λu=>(bz [Cv 1 G,Pv 2,Ov 5,Iv 6 u.2] [Xb 2 B,Lb 2005 u.1])) (λw=>(0,(bz [Ov 5] [Lb 2005 w]))) (λu=>bN 7 G (bu 3 10 (jY 10 λC _=>Kg 1 9 [25,16] (λz=>(bz [Cv 1 G,Pv 2,Ov 5,Iv 6 u.2,Bv 10 true,Bv 26 z] [Xb 2 B,Lb 2005 u.1])) (bu 1 17 (bR 5 λD _=>jY 1 λI _=>bC 1) (bC 9)) λz=>bu 2 26 (lG 5 2005 29 30 λJ _=>bg) bg) bg)) (λw=>bg)))
def qC(G:Zg)(p1:Int):aZ Zg:=(mE (Sl.row []:Zg) G).bind λu=>(Sl.jc u p1).bind λw=>(Sl.get u w).bind λz=>(Sl.jc u p1).bind λB=>(Sl.put u B (wrap .i64 (z+1):Int)).bind λC=>some C
instance Tl(B:Zg)(p1:Int):Fc Sy cL (qC B p1):=Fc.N 57 [enc B,.int .i64 p1] (uk 9 6 8 λw _=>jE .i64 7 8 λz _=>pP 0 8 0 1 false (λu=>.int .i64 u) λu _=>jE .i64 1 8 λC _=>tB 0 8 (.int .i64 (wrap .i64 (u+1))) λD _=>bg)
namespace kj
def bn(G:Zb)(J:Zg)(B:Int):aZ (Fw Int Unit Int):=bp (decide (B<(len G))) ((idx G B).bind λu=>(dZ u J).bind λw=>bp w (some (.r B)) (some (.n (wrap .i64 (B+1))))) (some (.x ()))
def W1(B:Zb)(G:Zg)(J:Int):Z6:=(bM (λq:Int=>bn B G q) J).bind (Fw.elim (λe=>some (-1)) (λe=>some e))
end kj
def kj(B:Zb)(G:Zg):Z6:=kj.W1 B G 0
open kj in
instance S5(B:Zb)(G:Zg):Fc Sy cL (kj B G):=Fc.M 56 [enc B,enc G] (dx 13 (λw=>(bz [Cv 0 B,Cv 1 G,Iv 5 w] [])) (λu=>(0,(bz [] []))) (λu=>(bz [Iv 4 u] [])) (λw=>bN 6 B (bu 3 9 (bR 9 λz _=>bA 2 λC _=>bu 2 17 bg bg) bg)) (λu=>bg) (λu=>bg))
namespace gJ
def bn(G:Zj)(B:Zg)(p4:Int):aZ (Fw ((Zg)×Int) Zg Empty):=bp (decide (p4<(len G.procs))) ((idx G.procs p4).bind λu=>(fP B (len u.events:Int)).bind λw=>some (.n (w,wrap .i64 (p4+1)))) (some (.x B))
def W1(B:Zg)(p4:Int)(G:Zj):aZ Zg:=(bM (λq:(Zg)×Int=>bn G q.1 q.2) (B,p4)).bind (Fw.elim (λe=>some e) (λe=>elim e))
end gJ
def gJ(B:Zj):aZ Zg:=gJ.W1 (Sl.nil:Zg) 0 B
open gJ in
instance NI(B:Zj):Fc Sy cL (gJ B):=Fc.N 59 [enc B] (dm 2 1 B (eT 17 (λu=>(bz [Pv 1,Ov 3,Iv 4 u.2] [Xb 1 B,Lb 2003 u.1])) (λw=>(0,(bz [Ov 3] [Lb 2003 w]))) (λu=>bN 8 B.procs (bu 3 9 (bR 10 λz _=>bN 2 z.events (lG 1 2003 20 21 λC _=>bg)) bg)) (λw=>bg)))
namespace c8
def dN(O Y:Zb)(U:Int)(G:Zg)(W:Zj)(B:Sl Zl)(J:Int):aZ (Fw ((Sl Zl)×Int) (Sl Zl) Empty):=bp (decide (J<(len G))) ((idx O U).bind λL=>(idx G J).bind λQ=>(qC L Q).bind λu=>(kj O u).bind λw=>(Sl.jc B w).bind λz=>(Sl.get B z).bind λC=>bp C ((Sl.jc B U).bind λD=>(Sl.put B D (true:Zl)).bind λI=>some (.n (I,wrap .i64 (J+1)))) (some (.n (B,wrap .i64 (J+1))))) (some (.x B))
def W3(J Y:Zb)(B:Sl Zl)(W:Int)(G:Zg)(O:Int)(U:Zj):aZ (Fw ((Sl Zl)×Int) (Sl Zl) Empty):=(bM (λq:(Sl Zl)×Int=>dN J Y W G U q.1 q.2) (B,O)).bind (Fw.elim (λe=>some (.n (e,wrap .i64 (W-1)))) (λe=>elim e))
def J2(G U:Zb)(B:Sl Zl)(O:Int)(J:Zj):aZ (Fw ((Sl Zl)×Int) (Sl Zl) Empty):=(idx G O).bind λu=>(fA J u).bind λw=>W3 G U B O w 0 J
def qf(O:Zb)(B:Sl Zl)(U:Zg)(W:Zb)(G:Zg)(Y:Zj)(J:Int):aZ (Fw Int Zg Empty):=bp (decide (J<(len G))) ((idx G J).bind λw=>(qC U w).bind λu=>(kj O u).bind λz=>(Sl.jc B z).bind λC=>(Sl.get B C).bind λD=>bp D (some (.x u)) (some (.n (wrap .i64 (J+1))))) (some (.x U))
def W5(O:Zb)(G:Sl Zl)(U:Zg)(B:Zb)(J:Zg)(W:Int)(Y:Zj):aZ (Fw ((Zg)×(Zb)) Zb Empty):=(bM (λq:Int=>qf O G U B J Y q) W).bind (Fw.elim (λe=>(fP B (e:Zg)).bind λu=>some (.n (e,u))) (λe=>elim e))
def u9(O:Zb)(G:Sl Zl)(J:Zj)(U:Zg)(B:Zb):aZ (Fw ((Zg)×(Zb)) Zb Empty):=(gJ J).bind λu=>(fI u).bind λw=>bp (decide ((len B)<=w)) ((fA J U).bind λz=>W5 O G U B z 0 J) (some (.x B))
def W4(J:Zb)(B:Sl Zl)(O:Zg)(G:Zb)(U:Zj):aZ ((Zb)×Zl):=(bM (λq:(Zg)×(Zb)=>u9 J B U q.1 q.2) (O,G)).bind (Fw.elim (λe=>some (e,true)) (λe=>elim e))
def bn(G U:Zb)(O:Zj)(B:Sl Zl)(J:Int):aZ (Fw ((Sl Zl)×Int) (Sl Zl) Empty):=bp (decide (J>=0)) ((idx G J).bind λu=>(gA U u).bind λw=>bp w (some (.n (B,wrap .i64 (J-1)))) (bp (J==(wrap .i64 ((len G)-1))) ((Sl.jc B J).bind λz=>(Sl.put B z (true:Zl)).bind λC=>J2 G U C J O) (J2 G U B J O))) (some (.x B))
def W1(B O:Zb)(G:Sl Zl)(U:Int)(J:Zj):aZ ((Zb)×Zl):=(bM (λq:(Sl Zl)×Int=>bn B O J q.1 q.2) (G,U)).bind (Fw.elim (λe=>(Sl.jc e 0).bind λw=>(Sl.get e w).bind λz=>bp z ((idx B 0).bind λu=>c8.W4 B e u (Sl.row [u]:Zb) J) (some (Sl.nil,false))) (λe=>elim e))
def OL(B J:Zb)(G:Zj):(Sl Zl)×Int->St:=λq=>(bz [Cv 1 B,Cv 2 J,Pv 3,Ov 8,Iv 9 q.2] [Xb 3 G,Lb 2008 q.1])
def Ot(B J:Zb)(G:Zj):(Sl Zl)->Nat×St:=λe=>(0,(bz [Cv 1 B,Pv 3,Ov 8] [Xb 3 G,Lb 2008 e]))
def O5(B J:Zb)(G:Zj):Empty->St:=λe=>elim e
theorem QN(B O:Zb)(J:Sl Zl)(U:Int)(G:Zj):Le ((J2 B O J U G).bind (λw=>some (Fw.out (OL B O G) (Ot B O G) (O5 B O G) w))) (b7 Sy cL some (oc (tb Tx 30) [1,1,0,1,0,0,0,0,0,0,1,0,0,1,1,0,0] [] (bz [Cv 1 B,Cv 2 O,Pv 3,Ov 8,Iv 9 U] [Xb 3 G,Lb 2008 J]))):=bR 5 λW _=>bA 1 λC _=>eT 11 (λz=>(bz [Cv 1 B,Cv 2 O,Pv 3,Ov 8,Iv 9 U,Cv 10 C,Iv 11 z.2] [Xb 3 G,Lb 2008 z.1])) (λD=>(2,(bz [Cv 1 B,Cv 2 O,Pv 3,Ov 8,Iv 9 U] [Xb 3 G,Lb 2008 D]))) (λz=>bN 7 C (bu 3 50 (bR 11 λX _=>bR 3 λY _=>bA 1 λI _=>jY 0 λL _=>jE .i64 0 2008 λQ _=>pP 0 2008 0 1 false (λu=>.bool u) λu _=>bu 2 66 (jE .i64 4 2008 λS _=>tB 0 2008 (.bool true) λT _=>bg) bg) bg)) (λD=>bg)
theorem Kd(B O:Zb)(J:Zj)(G:Sl Zl)(U:Int):Le ((bn B O J G U).bind (λw=>some (Fw.out (OL B O J) (Ot B O J) (O5 B O J) w))) (b7 Sy cL some (.rc (GY (tb Tx 30) [1,1,0,1,0,0,0]),[],(bz [Cv 1 B,Cv 2 O,Pv 3,Ov 8,Iv 9 U] [Xb 3 J,Lb 2008 G]))):=bu 9 24 (bR 11 λz _=>bA 1 λC _=>bu 2 32 bg (bN 8 B (bu 4 37 (jE .i64 4 2008 λD _=>tB 0 2008 (.bool true) λu _=>yx 4 (QN B O u U J)) (yx 5 (QN B O G U J))))) bg
theorem VI(B O:Zb)(J:Sl Zl)(U:Int)(G:Zj):Le ((W1 B O J U G).bind (λr=>some [enc r.1,.bool r.2])) (b7 Sy cL (qu (tr Tx 30)) (oc (tb Tx 30) [1,1,0,1,0,0,0] [] (bz [Cv 1 B,Cv 2 O,Pv 3,Ov 8,Iv 9 U] [Xb 3 G,Lb 2008 J]))):=Vb (OL B O G) (Ot B O G) (O5 B O G) (λq=>Kd B O G q.1 q.2) (λe=>jE .i64 6 2008 λS _=>pP 0 2008 0 1 false (λw=>.bool w) λw _=>dA 3 73 (bR 6 λI _=>ua 7 78 ([I]:aY Zg) (eT 8 (λu=>(bz [Cv 1 B,Pv 3,Ov 8,Cv 12 u.1,Ov 13] [Xb 3 G,Lb 2008 e,Lb 2013 u.2])) (λL=>(4,(bz [Ov 13] [Lb 2013 L]))) (λu=>Dn 7 2013 u.2 (bA 1 λT _=>bA 0 λW _=>bu 3 84 (bA 8 λz _=>eT 13 (λQ=>(bz [Cv 1 B,Pv 3,Ov 8,Cv 12 u.1,Ov 13,Cv 14 z,Iv 15 Q] [Xb 3 G,Lb 2008 e,Lb 2013 u.2])) (λD=>(6,(bz [Cv 1 B,Pv 3,Ov 8,Cv 12 D,Ov 13] [Xb 3 G,Lb 2008 e,Lb 2013 u.2]))) (λQ=>bN 8 z (bu 3 91 (bR 10 λX _=>bA 1 λY _=>bA 8 λZ _=>jE .i64 0 2008 λa _=>pP 0 2008 0 1 false (λC=>.bool C) λC _=>bu 2 105 bg bg) bg)) (λD=>ua 5 109 ([D]:aY Zg) (lG 0 2013 109 110 λb _=>bg))) bg)) (λL=>bg))) bg) (λx=>elim x)
end c8
def c8(G:Zj)(B J:Zb):aZ ((Zb)×Zl):=(od (len B) (false:Zl)).bind λu=>c8.W1 B J u (wrap .i64 ((len B)-1)) G
open c8 in
instance R7(G:Zj)(B J:Zb):Fc Sy cL (c8 G B J):=Fc.N 30 [enc G,enc B,enc J] (dm 2 3 G (bN 7 B (GK 0 19 λu _=>bN 7 B (yx 7 (VI B J u (wrap .i64 ((len B)-1)) G)))))
def rE(G:Zj)(B J:Zb):aZ Zl:=(c8 G B J).bind λu=>some (!u.2)
instance UW(G:Zj)(B J:Zb):Fc Sy cL (rE G B J):=Fc.M 12 [enc G,enc B,enc J] (dm 2 3 G (bA 8 λu _=>bg))
namespace oJ
def bn(a0 G:Zg)(B:Int):aZ (Fw Int Unit Unit):=bp (decide (B<(len a0))) ((idx a0 B).bind λu=>(idx G B).bind λw=>bp (u==w) (some (.n (wrap .i64 (B+1)))) (some (.r ()))) (some (.x ()))
def W1(a0 B:Zg)(G:Int):aZ Zl:=(bM (λq:Int=>bn a0 B q) G).bind (Fw.elim (λe=>some true) (λe=>some false))
end oJ
def oJ(a0 B:Zg):aZ Zl:=bp ((len a0)==(len B)) (oJ.W1 a0 B 0) (some false)
open oJ in
instance Tu(a0 B:Zg):Fc Sy cL (oJ a0 B):=Fc.M 60 [enc a0,enc B] (bN 9 a0 (bN 1 B (dA 3 10 (dx 11 (λw=>(bz [Cv 0 a0,Cv 1 B,Iv 5 w] [])) (λu=>(0,(bz [] []))) (λu=>(bz [Bv 4 false] [])) (λw=>bN 6 a0 (bu 3 14 (bR 9 λz _=>bR 3 λC _=>dA 4 25 bg bg) bg)) (λu=>bg) (λu=>bg)) bg)))
namespace kI
def bn(G:Zb)(J:Zg)(B:Int):aZ (Fw Int Unit Unit):=bp (decide (B<(len G))) ((idx G B).bind λu=>(oJ u J).bind λw=>bp w (some (.r ())) (some (.n (wrap .i64 (B+1))))) (some (.x ()))
def W1(B:Zb)(G:Zg)(J:Int):aZ Zl:=(bM (λq:Int=>bn B G q) J).bind (Fw.elim (λe=>some false) (λe=>some true))
end kI
def kI(B:Zb)(G:Zg):aZ Zl:=kI.W1 B G 0
open kI in
instance Rs(B:Zb)(G:Zg):Fc Sy cL (kI B G):=Fc.M 32 [enc B,enc G] (dx 13 (λw=>(bz [Cv 0 B,Cv 1 G,Iv 5 w] [])) (λu=>(0,(bz [] []))) (λu=>(bz [Bv 4 true] [])) (λw=>bN 6 B (bu 3 9 (bR 9 λz _=>bA 2 λC _=>bu 2 17 bg bg) bg)) (λu=>bg) (λu=>bg))
namespace d_
def bS(G:Zb)(O:Zj)(B:Zb)(J:Int):aZ (Fw ((Zb)×Int) Zb Empty):=bp (decide (J<(len B))) ((fN B none (some J)).bind λw=>(mE (Sl.row []:Zb) w).bind λz=>(fN B (some (wrap .i64 (J+1))) none).bind λC=>(mE z C).bind λu=>(rE O G u).bind λD=>bp D (some (.n (u,J))) (some (.n (B,wrap .i64 (J+1))))) (some (.x B))
def W2(G B:Zb)(O:Int)(J:Zj):aZ Zb:=(bM (λq:(Zb)×Int=>bS G J q.1 q.2) (B,O)).bind (Fw.elim (λe=>some e) (λe=>elim e))
def bn(G J:Zb)(O:Zj)(B:Zb)(a:Int):aZ (Fw ((Zb)×Int) Zb Empty):=bp (decide (a<(len G))) ((idx G a).bind λu=>(kI J u).bind λw=>bp w ((idx G a).bind λz=>(fP B (z:Zg)).bind λC=>some (.n (C,wrap .i64 (a+1)))) (some (.n (B,wrap .i64 (a+1))))) (some (.x B))
def W1(B O G:Zb)(a:Int)(J:Zj):aZ Zb:=(bM (λq:(Zb)×Int=>bn B O J q.1 q.2) (G,a)).bind (Fw.elim (λe=>d_.W2 B e 0 J) (λe=>elim e))
end d_
def d_(G:Zj)(B J:Zb):aZ Zb:=d_.W1 B J (Sl.nil:Zb) 0 G
open d_ in
instance OH(G:Zj)(B J:Zb):Fc Sy cL (d_ G B J):=Fc.N 14 [enc G,enc B,enc J] (dm 2 3 G (eT 17 (λw=>(bz [Cv 1 B,Cv 2 J,Pv 3,Ov 7,Iv 8 w.2] [Xb 3 G,Lb 2007 w.1])) (λz=>(0,(bz [Cv 1 B,Pv 3,Ov 7] [Xb 3 G,Lb 2007 z]))) (λw=>bN 7 B (bu 3 14 (bR 10 λI _=>bA 1 λL _=>bu 2 22 (bR 5 λD _=>ua 1 28 ([D]:aY Zg) (lG 0 2007 28 29 λO _=>bg)) bg) bg)) (λz=>eT 11 (λu=>(bz [Cv 1 B,Pv 3,Cv 7 u.1,Iv 9 u.2] [Xb 3 G])) (λC=>(2,(bz [Cv 7 C] []))) (λu=>bN 6 u.1 (bu 3 33 (ua 6 34 ([]:aY Zg) (z_ 2 false true [.int .i64 u.2] λQ _=>uk 0 34 38 λS _=>z_ 3 true false [.int .i64 (wrap .i64 (u.2+1))] λT _=>uk 0 38 43 λU _=>bA 9 λW _=>bu 2 47 bg bg)) bg)) (λC=>bg))))
namespace iR
def bn(a0 G:Zb)(B:Int):aZ (Fw Int Unit Unit):=bp (decide (B<(len a0))) ((idx a0 B).bind λu=>(idx G B).bind λw=>(kr u w).bind λz=>bp z (some (.n (wrap .i64 (B+1)))) (some (.r ()))) (some (.x ()))
def W1(a0 B:Zb)(G:Int):aZ Zl:=(bM (λq:Int=>bn a0 B q) G).bind (Fw.elim (λe=>some true) (λe=>some false))
end iR
def iR(a0 B:Zb):aZ Zl:=bp ((len a0)==(len B)) (iR.W1 a0 B 0) (some false)
open iR in
instance Tp(a0 B:Zb):Fc Sy cL (iR a0 B):=Fc.M 13 [enc a0,enc B] (bN 9 a0 (bN 1 B (dA 3 10 (dx 11 (λw=>(bz [Cv 0 a0,Cv 1 B,Iv 5 w] [])) (λu=>(0,(bz [] []))) (λu=>(bz [Bv 4 false] [])) (λw=>bN 6 a0 (bu 3 14 (bR 9 λz _=>bR 3 λC _=>jY 1 λD _=>dA 3 26 bg bg) bg)) (λu=>bg) (λu=>bg)) bg)))
def mq(B:Zj)(G:Zb):aZ Zl:=(r_).bind λX=>(bp X ((jN B 14).bind λY=>some (!Y)) (some true):aZ Zl).bind λZ=>(bp Z (some true) ((sx G).bind λa=>some (!a)):aZ Zl).bind λb=>(bp b (some true) (some (decide ((len G)>40))):aZ Zl).bind λc=>(bp c (some true) ((kE B).bind λd=>(bp d ((vo B).bind λe=>some (!e)) (some false):aZ Zl).bind λf=>some f):aZ Zl).bind λD=>bp D ((r_).bind λI=>some I) ((sj B G).bind λz=>(c_ B G).bind λu=>(fW B G).bind λw=>bp (w.2==0) ((rE B w.1 G).bind λC=>(bp (z.1==C) (some (!(z.2==0))) (some true):aZ Zl).bind λJ=>bp J (some false) (bp C ((d_ B w.1 G).bind λL=>(iR u.1 L).bind λO=>(bp O (some (u.2==0)) (some false):aZ Zl).bind λQ=>some Q) ((bp ((len u.1)==0) (some (u.2==7)) (some false):aZ Zl).bind λS=>some S))) ((bp z.1 (some false) (some (z.2==w.2)):aZ Zl).bind λT=>(bp T (some ((len u.1)==0)) (some false):aZ Zl).bind λU=>(bp U (some (u.2==w.2)) (some false):aZ Zl).bind λW=>some W))
instance xA(B:Zj)(G:Zb):Fc Sy cL (mq B G):=Fc.M 3 [enc B,enc G] (dm 2 2 B (bA 6 λX _=>cm 2 4 [14] 18 (dA 2 14 (bA 1 λY _=>bC 2) (bC 4)) λZ=>cm 1 4 [19] 23 (bu 1 19 (bC 4) (bA 1 λa _=>bC 2)) λb=>cm 1 4 [24] 28 (bu 1 24 (bC 4) (bN 1 G (bC 2))) λc=>cm 1 8 [29] 37 (bu 1 29 (bC 8) (bA 1 λd _=>cm 1 4 [32] 36 (bu 1 32 (bA 1 λe _=>bC 2) (bC 4)) λf=>bC 1)) λw=>bu 2 37 (bA 3 λz _=>bg) (bA 7 λC _=>bA 11 λu _=>bA 11 λD _=>dA 14 58 (bA 8 λI _=>cm 10 3 [6,83] 86 (dA 10 83 (bC 3) (bC 3)) λJ=>bu 2 86 bg (dA 10 88 (bA 9 λL _=>bA 0 λO _=>cm 1 3 [8,102] 105 (bu 1 102 (bC 3) (bC 3)) λQ=>bg) (bN 4 u.1 (cm 2 3 [8,92] 95 (bu 2 92 (bC 3) (bC 3)) λS=>bg)))) (cm 6 4 [6,61] 65 (dA 6 61 (bC 4) (bC 4)) λT=>cm 1 4 [7,66] 70 (bu 1 66 (bN 1 u.1 (bC 2)) (bC 4)) λU=>cm 1 4 [8,10,71] 75 (bu 1 71 (bC 4) (bC 4)) λW=>bg))))
end
end Go.VE
