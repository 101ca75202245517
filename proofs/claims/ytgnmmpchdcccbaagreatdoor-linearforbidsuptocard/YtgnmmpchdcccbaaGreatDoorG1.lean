/-
 Each function of the program that the law reaches: its plain form, and that it comes to that.
-/
import Derived.Test.YtgnmmpchdcccbaaGreatDoorK1
import Derived.Test.YtgnmmpchdcccbaaGreatDoorT1
set_option linter.all false
noncomputable section
open List(all_cons all_eq_true all_nil cons_append map_append map_cons mem_map mem_of_getElem? replicate)
open Go.IntKind(signed wrap)
open Nat(beq ble zero_add)
open Empty(elim)
open ByteArray(toList)
namespace Go.VE
theorem Zae{p:Prop}(h:p:=by kernel_rfl):p:=h
structure Var where
 name:ByteArray
 init_:Int
 deriving Inhabited
instance:bD Var where
 cells x:=[.str x.name,.int .i64 x.init_]
 agg:=true
 size:=2
 len _:=rfl
 good x:=by simp only[V.cH,V.good,kP,Bool.and_self]
 one x:=by simp only[all_cons,all_nil,oQ,nk,oN,oB,Bool.and_self]
 plain h:=by cases h
structure Assign where
 var:Int
 value:Int
 deriving Inhabited
instance:bD Assign where
 cells x:=[.int .i64 x.var,.int .i64 x.value]
 agg:=true
 size:=2
 len _:=rfl
 good x:=by simp only[V.cH,V.good,kP,Bool.and_self]
 one x:=by simp only[all_cons,all_nil,oQ,nk,oN,oB,Bool.and_self]
 plain h:=by cases h
structure Event where
 kind:Int
 peer:Int
 message:Int
 time:Int
 assign:Sl Assign
 deriving Inhabited
abbrev WF:=Event
instance:bD WF where
 cells x:=[.int .i64 x.kind,.int .i64 x.peer,.int .i64 x.message,.int .i64 x.time,enc x.assign]
 agg:=true
 size:=5
 len _:=rfl
 good x:=by simp only[V.cH,V.good,kP,Bool.and_self]
 one x:=by simp only[all_cons,all_nil,oQ,nk,oN,oB,Bool.and_self]
 plain h:=by cases h
structure bR where
 name:ByteArray
 vars:Sl Var
 events:Sl Event
 deriving Inhabited
instance:bD bR where
 cells x:=[.str x.name,enc x.vars,enc x.events]
 agg:=true
 size:=3
 len _:=rfl
 good x:=by simp only[V.cH,V.good,kP,Bool.and_self]
 one x:=by simp only[all_cons,all_nil,oQ,nk,oN,oB,Bool.and_self]
 plain h:=by cases h
structure Trace where
 procs:Sl bR
 deriving Inhabited
abbrev Z4:=Trace
instance:bD Z4 where
 cells x:=[enc x.procs]
 agg:=true
 size:=1
 len _:=rfl
 good x:=by simp only[V.cH,V.good,kP,Bool.and_self]
 one x:=by simp only[all_cons,all_nil,oQ,nk,oN,oB,Bool.and_self]
 plain h:=by cases h
structure Pred where
 kind:Int
 n:Int
 proc:Int
 peer:Int
 name:ByteArray
 l:Sl Pred
abbrev T':=Pred
mutual
def Pred.WJ:T'->So
 |⟨f0,f1,f2,f3,B,f5⟩=>[.int .i64 f0,.int .i64 f1,.int .i64 f2,.int .i64 f3,.str B,Pred.IT f5]
def Pred.IT:Sl T'->V
 |.nil=>.bO|.emp=>.dQ|.row l=>.fsl 6 (Pred.FZ l)|.part l=>.fsl 6 (Pred.FZ l)
def Pred.FZ:aX T'->S'
 |[]=>[]|x::r=>Pred.WJ x::Pred.FZ r
end
instance:Inhabited T':=⟨⟨default,default,default,default,default,Sl.nil⟩⟩
mutual
theorem Pred.Yj:∀x:T',V.cH x.WJ=true
 |⟨f0,f1,f2,f3,B,f5⟩=>by simp only[Pred.WJ,V.cH,V.good,Pred.KB,Bool.and_self]
theorem Pred.KB:∀x:Sl T',V.good (Pred.IT x)=true
 |.nil=>rfl|.emp=>rfl|.row l=>by simp only[Pred.IT,V.good,Pred.EE]|.part l=>by simp only[Pred.IT,V.good,Pred.EE]
theorem Pred.EE:∀x:aX T',V.o5 (Pred.FZ x)=true
 |[]=>rfl|x::r=>by simp only[Pred.FZ,V.o5,Pred.Yj,Pred.EE,Bool.and_self]
end
theorem Pred.YF(s:Sl T'):V.one (Pred.IT s)=true:=by cases s<;>simp[Pred.IT,V.one]
instance:bD T' where
 cells x:=[.int .i64 x.kind,.int .i64 x.n,.int .i64 x.proc,.int .i64 x.peer,.str x.name,Pred.IT x.l]
 agg:=true
 size:=6
 len _:=rfl
 good x:=by simp only[V.cH,V.good,Pred.KB,Bool.and_self]
 one x:=by simp only[all_cons,all_nil,oQ,nk,oN,Pred.YF,Bool.and_self]
 plain h:=by cases h
theorem Pred.Sk(x:T'):Pred.WJ x=cells x:=by cases x;rfl
theorem Pred.EB:∀l:aX T',Pred.FZ l=rows l
 |[]=>rfl|x::r=>by rw[Pred.FZ,Pred.EB r,Pred.Sk];rfl
theorem Pred.eX(s:Sl T'):Pred.IT s=enc s:=by cases s with|nil=>rfl|emp=>rfl|row l=>show V.fsl 6 (Pred.FZ l)=V.fsl 6 (rows l);rw[Pred.EB]|part l=>show V.fsl 6 (Pred.FZ l)=V.fsl 6 (rows l);rw[Pred.EB]
structure bB where
 from_:a_
 to_:a_
 deriving Inhabited
instance:bD bB where
 cells x:=[.int .i64 x.from_.proc,.int .i64 x.from_.index,.int .i64 x.to_.proc,.int .i64 x.to_.index]
 agg:=true
 size:=4
 len _:=rfl
 good x:=by simp only[V.cH,V.good,kP,Bool.and_self]
 one x:=by simp only[all_cons,all_nil,oQ,nk,oN,oB,Bool.and_self]
 plain h:=by cases h
structure bV where
 low:Int
 high:Int
 deriving Inhabited
instance:bD bV where
 cells x:=[.int .i64 x.low,.int .i64 x.high]
 agg:=true
 size:=2
 len _:=rfl
 good x:=by simp only[V.cH,V.good,kP,Bool.and_self]
 one x:=by simp only[all_cons,all_nil,oQ,nk,oN,oB,Bool.and_self]
 plain h:=by cases h
structure cw where
 lengths:Sl Int
 need:Sl (Sl a_)
 deriving Inhabited
instance:bD cw where
 cells x:=[enc x.lengths,enc x.need]
 agg:=true
 size:=2
 len _:=rfl
 good x:=by simp only[V.cH,V.good,kP,Bool.and_self]
 one x:=by simp only[all_cons,all_nil,oQ,nk,oN,oB,Bool.and_self]
 plain h:=by cases h
structure cq where
 t:Trace
 counts:Sl Int
 values:Sl (Sl Int)
 deriving Inhabited
instance:bD cq where
 cells x:=[enc x.t.procs,enc x.counts,enc x.values]
 agg:=true
 size:=3
 len _:=rfl
 good x:=by simp only[V.cH,V.good,kP,Bool.and_self]
 one x:=by simp only[all_cons,all_nil,oQ,nk,oN,oB,Bool.and_self]
 plain h:=by cases h
structure b_ where
 t:Trace
 l:Sl (Sl Int)
 index:FD ByteArray Int
 truth:Sl Bool
 deriving Inhabited
instance:bD b_ where
 cells x:=[enc x.t.procs,enc x.l,enc x.index,enc x.truth]
 agg:=true
 size:=4
 len _:=rfl
 good x:=by simp only[V.cH,V.good,kP,Bool.and_self]
 one x:=by simp only[all_cons,all_nil,oQ,nk,oN,oB,NY,Bool.and_self]
 plain h:=by cases h
def jL(p:Int):Int->aX WF->aX (a_×WF)
 |_,[]=>[]|j,e::r=>(⟨p,j+1⟩,e)::jL p (j+1) r
def gG:Int->aX bR->aX (a_×WF)
 |_,[]=>[]|i,p::r=>jL i 0 p.events.l++gG (i+1) r
def qM(n:Nat):X':=decide (n<9223372036854775807)
def kf(t:Z4):aY (aX (a_×WF)):=if qM t.procs.l.length&&t.procs.l.all λp=>qM p.events.l.length then some (gG 0 t.procs.l)else none
def wK:b9 22 Int:=⟨Go.Proofs.YtgnmmpchdcccbaaGreatDoor.E_,rfl⟩
end Go.VE
namespace Go.VE
def Wl:Nat->Nat->Nat->ST
 |0,_,_=>[]|f+1,i,m=>bif m % 2==1 then i::Wl f (i+1) (m / 2)else Wl f (i+1) (m / 2)
def gK(g m:Nat)(l:ST:=[]):Gh:=.keep (Wl 128 0 g) (Wl 128 0 m++l)
def g2(n g m:Nat)(l:ST:=[]):Nat×Pi×Pi:=(n,[gK g m l],[gK g m l])
def g1(n g m:Nat)(l:ST:=[]):Nat×Pi×Pi:=(n,[gK g m l],[])
def G2(n:Nat)(x:Pi):Nat×Pi×Pi:=(n,x,x)
def G1(n:Nat)(x:Pi):Nat×Pi×Pi:=(n,x,[])
def cS(i n:Nat):Gh:=.canon (.s i) (2000+i) n
def cC(i j n:Nat):Gh:=.canon (.c i j) (4000+20*i+j) n
def e0(n m:Nat):Nat×GD:=(n,⟨m,[],[]⟩)
def e1(n m:Nat)(l:aX (Nat×Pi×Pi)):Nat×GD:=(n,⟨m,[],l⟩)
def O8:aX (Nat×GD):=[ e1 55 0x22226260002000201 [g2 6 387 0,g1 12 0 0,g1 22 16 0,g1 27 16 0],e0 29 0x226221,e0 30 0x2222212,e0 130 0x26c4444026402201,e0 131 0x26442201,e1 100 0x222064c002644c00222600620000644402644022201 [g1 8 4 0,g2 14 9 0,g1 20 0 0,g1 28 4 0,g1 33 4 0],e0 101 0x26442201,e1 74 0x2222222022226020222062260202260206000022226020622000022202220620226020600002220202602012 [g1 10 16 0,g2 16 102 36,g1 22 32 32,g1 30 16 0,g1 39 16 0,g2 45 160 32,g1 51 32 32,g1 60 16 0,g2 66 416 32,g1 72 160 32,g1 80 16 0,g1 88 16 0,g1 97 16 0,g1 101 16 0],e1 75 0x2222220620226020600006444026c444c04040222020260206220000222006cc44c4444c04040440264402220064402644026c04026c44040264402644022200644022202202026022602012 [g1 13 64 0,g1 20 64 0,g1 22 142 136,g1 28 64 0,g1 36 64 0,g2 42 394 136,g1 48 0 0,g1 59 64 0,g2 64 1930 648,g1 70 394 136,g1 78 64 0,g1 84 64 0],e0 102 0x2262222262022022,e1 66 0x20222222262226c0442602020260226020622260200062200002 [g2 6 206 72,g1 12 64 64,g2 18 462 72,g1 24 206 72,g1 34 64 64,g1 40 64 64],e1 76 0x2222226cc40444cc4040444022202602262020622262020000220060e20200022020600122 [g2 30 236 44,g1 36 64 0],e1 77 0x22206222602026006220002222203622000622262002062202202026260022602062226020260062200002222012 [G2 6 [cS 3 1,gK 10 2 [2003]],G2 14 [cS 3 1,gK 58 2 [2003]],G1 20 [cS 3 1,gK 26 2 [2003]],G2 24 [cS 3 1,gK 58 2 [2003]],G1 30 [cS 3 1,gK 58 2 [2003]],G1 43 [cS 3 1,gK 58 2 [2003]],G1 46 [cS 3 1,gK 42 2 [2003]],G1 53 [cS 3 1,gK 10 2 [2003]],G2 59 [cS 3 1,gK 266 2 [2003]],g1 65 0 0,g1 73 4 0,g1 78 4 0],e1 103 0x22262622222202062026262202022200122 [G1 10 [cS 5 2,gK 44 12 [2005]]],e1 56 0x202222220222620260600206200622260200062200002020222222222220260020620062226020006220002222222226222202e0006222602000622000222222222026006220000206444022220102 [g1 8 12 4,g2 14 22 6,g1 20 6 6,g1 30 12 4,g2 37 70 6,g1 43 6 6,g2 49 198 6,g1 55 70 6,g1 65 12 4,g2 73 518 6,g1 79 6 6,g2 85 1542 6,g1 91 518 6,g1 103 12 4,g1 113 12 4,g2 119 8198 6,g1 125 4 4,g2 131 24582 6,g1 137 8198 6,g1 147 12 4,g1 153 12 4],e0 31 0x2222302022212,e0 32 0x222212,e0 79 0x2236226200026201,e1 44 0x22206c444c0404c0022260062000062202012 [g1 8 16 0,g2 14 38 4,g1 20 0 0,g1 28 16 0,g1 33 16 0],e1 45 0x2222220626220202062202202026022602062600006200012 [g2 6 38 4,g1 12 0 0,g2 18 102 4,g1 24 38 4,g1 39 16 0,g1 46 16 0],e0 21 0x26c44260012,e1 57 0x2222226260026cc000262226020260062000012 [G2 8 [cS 5 1,gK 102 4 [2005]],G1 14 [cS 5 1,gK 32 0 [2005]]],e1 104 0x2222226260026200001 [g2 8 25 0,g1 14 8 0],e1 80 0x222262622260262600260062000262222620201 [g1 8 16 0,g2 14 35 0,g1 20 0 0,g1 28 16 0,g1 33 16 0],e1 81 0x2220626002600620000620201 [g1 8 16 0,g2 14 35 0,g1 20 0 0,g1 28 16 0,g1 33 16 0],e1 58 0x26622226222266000226c04c00262002226c04c002620001 [g2 6 35 0,g1 12 35 0],(33,⟨0x222222222226260026200026260006200000022026022200222220112,[(7,[.closeS (.s 13)])],[G2 8 [.closeS (.s 4),cS 5 1,gK 50 2 [2005]],G1 14 [cS 5 1,gK 32 0 [2005]],G1 24 [cS 2 1,gK 12 0 [2002]],G2 32 [.closeS (.s 4),cS 5 1,gK 242 2 [2005]],G1 38 [cS 5 1,gK 98 2 [2005]],G2 46 [.closeS (.s 4),cS 5 1,gK 1010 2 [2005]],G1 52 [.closeS (.s 4),cS 5 1,gK 242 2 [2005]],G1 61 [cS 2 1,gK 12 0 [2002]]]⟩),e1 15 0x2644422222202222222202222622202202000022022022002022064442222026220220200002000222012 [g1 8 4 0,g2 16 458762 2,g1 22 10 2,g1 34 4 0,g1 43 4 0,g1 51 4 0,g2 63 246290604621888 0,g1 69 64 0,g1 81 4 0,g1 86 4 0,g1 92 4 0],e0 35 0x22e222212,e0 34 0x226221,e1 59 0x22226260002000201 [G2 6 [.drop [2,3,4,5,6,9,10,11,12,13,14,15,16,17,18]],G1 12 [.drop [0,1,2,3,4,5,6,7,8,9,10,11,12,13,14,15,16,17,18]],G1 22 [.drop [0,1,2,3,5,6,7,8,9,10,11,12,13,14,15,16,17,18]],G1 27 [.drop [0,1,2,3,5,6,7,8,9,10,11,12,13,14,15,16,17,18]]],(16,⟨0x264cc442644402640222203222001222,[(27,[.canon (.s 4) 9001 0,.closeB 5])],[]⟩),e1 36 0x222222666202602006c002622000012 [g2 8 102 4,g1 14 32 0],e0 17 0x222212,(5,⟨0x26c444444026c022200122,[(9,[.canon (.s 5) 9002 0])],[]⟩),e0 158 0x26c4426201,e0 207 0x26c4444026402201,e0 208 0x26442201,e1 181 0x22064c402644c00222600200020064440264402201 [g1 8 4 0,g2 14 786433 0,g1 20 0 0,g1 30 4 0,g1 35 4 0],e0 183 0x26222212,e1 209 0x22226260002000201 [g2 6 387 0,g1 12 0 0,g1 22 16 0,g1 27 16 0],e0 182 0x226221,e0 184 0x26222212,e1 172 0x22226260002000201 [g2 6 387 0,g1 12 0 0,g1 22 16 0,g1 27 16 0],e0 165 0x226221,e1 159 0x222222022222026c0c4402222022020000020022220026c0c44422220202602012 [g1 11 16 0,g1 17 16 0,g2 23 30064771104 32,g1 29 32 32,g1 40 16 0,g1 46 16 0,g1 55 16 0,g1 59 16 0],e0 160 0x2212,e1 186 0x2644426c4402622222022202644422202020122 [g1 18 524330 40],e0 188 0x26222212,e1 210 0x22226260002000201 [g2 6 387 0,g1 12 0 0,g1 22 16 0,g1 27 16 0],e0 187 0x226221,e1 161 0x2202626220026444022622202022020000020022220026c44022220022e02222226220202200202620201222 [g1 12 440 184,g1 19 64 0,g1 25 64 0,g1 31 64 0,g2 37 31525197391593632 160,g1 43 0 0,g1 54 64 0,g1 60 64 0,g1 65 64 0],e0 211 0x26c44426c440222012,e0 189 0x2662262221222,e1 162 0x2202326222002202001ef200220022022226200223262220022022226200202022020202020200002 [(8,[gK 4158 1086],[gK 0 1086]),g1 27 0 1086,g1 39 0 1086,g1 47 0 1086,g1 53 28 1052],e1 190 0x222622262222264444c4400222020262222262622020262020222620220122 [G1 12 [cS 7 2,gK 418 32 [2007]]],e1 163 0x20222622230026000226002020000e200262220202622002202202020200022 [(6,[gK 8252 60],[gK 0 60]),G2 14 [cS 8 2,gK 8700 65660 [2008]],g1 20 8252 60,G2 29 [cS 8 2,gK 481036345852 65660 [2008]],G1 35 [cS 8 2,gK 8700 65660 [2008]],g1 46 0 60,g1 58 48 48],e1 128 0x20022222020262222222022202002202222202e2002020202222222202600200022002022220002 [g1 8 12 12,g2 14 12582926 14,g1 20 14 14,g1 32 12 12,(39,[gK 68719476750 14],[gK 0 14]),g1 51 0 14,g1 61 12 12,g1 71 12 12,g1 75 12 12],e0 97 0x2222302022212,e0 164 0x264426402201,e0 133 0x26c4444c4404440222006c4404440264402644026c444044026440222012,e0 134 0x22e222212,(132,⟨0x226622064402640222220122,[(20,[.closeB 5])],[]⟩),(105,⟨0x26222200012,[(5,[.canon (.s 3) 9004 0,.canon (.s 4) 9003 0])],[]⟩),e0 136 0x26c444422012,e0 166 0x2622212,e0 137 0x262226222122,e0 135 0x2644426c404026c40426200222644426440262022026001cf444042644026200202012,e0 144 0x2262212,(110,⟨0x264c4442600122,[(10,[.closeB 3])],[]⟩),e0 106 0x2622122,e0 140 0x221,e0 141 0x221,e0 139 0x2622222212,(138,⟨0x22622012,[(5,[.closeB 1])],[]⟩),e0 107 0x22212,e1 70 0x222222626002620002220012201 [g1 8 1 0,g2 14 25 0,g1 20 8 0],e1 193 0x222222626002620002220012201 [g1 8 1 0,g2 14 25 0,g1 20 8 0],e0 169 0x2622200,e1 191 0x22222226c04422202020000226222012 [g2 8 229508 0,g1 14 128 0],e0 221 0x2622212,e0 219 0x26222122,e0 212 0x220020262262220026c4400220002220112,e1 26 0x26200201 [G1 8 [.canon (.s 2) 4004 1],G1 12 [.canon (.s 2) 4004 1]],(171,⟨0x222e202202236222002020000222202000002226200222622222020000200,[(21,[.closeS (.s 25)]),(57,[.closeS (.s 54)])],[G2 6 [cS 3 1,gK 14347 0 [2003]],G1 12 [cS 3 1,gK 11 0 [2003]],g1 23 0 0,G2 28 [cS 3 1,gK 3758096393 0 [2003]],g1 34 0 0,G2 43 [cS 3 1,gK 965830770761 0 [2003]],G1 49 [cS 3 1,gK 3758096457 0 [2003]],g1 59 0 0]⟩),e0 145 0x2212,e1 213 0x22262260202220122 [(8,[cC 5 0 1,gK 552 40 [4100]],[cC 5 0 1,gK 0 40 [4100]])],e0 192 0x2222202622622220022022202e2001112,e0 167 0x26223222002e2220222e2220222222226222220222222020022,e0 168 0x26444222012,e0 194 0x262201,e0 170 0x22222622220622020260006402201,e1 142 0x22222022001ef622226202062020620202662222620202226622226202020262222202022002064422222202622202222002002202026222002222202062222201022 [g1 22 1944 664,g1 49 2064 2064],e0 143 0x2262212,(108,⟨0x226222222302026222220122,[(21,[.closeB 2])],[]⟩),e0 82 0x22622022200226000264402220122,e0 109 0x2222002220002220112,e0 83 0x6c44222222022212,e0 112 0x26442201,e0 111 0x2222212,e0 84 0x2644422012,e1 129 0x200226c0442602020202202022000222 [g1 8 192 192,(14,[gK 33008 240],[gK 0 240]),g1 24 0 240,g1 28 192 192],e0 99 0x2220622102,(116,⟨0x2222306222030622222022262222302622022002020000200202000020002,[(53,[.closeS (.s 49)]),(59,[.closeS (.c 3 0),.closeS (.c 3 1)])],[G2 8 [cC 3 0 1,cC 3 1 1,gK 14350 14 [4060,4061]],G1 14 [cC 3 0 1,cC 3 1 1,gK 12 12 [4060,4061]],G2 25 [cS 6 2,cC 3 0 1,cC 3 1 1,gK 1849454 46 [2006,4060,4061]],G1 31 [cS 6 2,cC 3 0 1,cC 3 1 1,gK 14446 46 [2006,4060,4061]],G1 44 [cS 6 2,cC 3 0 1,cC 3 1 1,gK 1849966 558 [2006,4060,4061]]]⟩),e0 148 0x26262222020262620260220626020260012,e0 206 0x26201,e0 177 0x62206000200222202201,e1 151 0x62222222220262222620062002220000001 [g2 6 3587 0,g1 12 3 0,g1 23 16 0,g1 34 16 0,g1 43 16 0,g1 47 16 0],e0 150 0x26221,e1 10 0x2206262026002000200620201 [g1 8 16 0,g2 14 12291 0,g1 20 0 0,g1 30 16 0,g1 35 16 0],e0 153 0x26221,(117,⟨0x222302222262223622020220e0002000202200002012,[(32,[.closeS (.s 34)])],[G2 8 [cS 5 1,gK 7204 4 [2005]],G1 14 [cS 5 1,gK 32 0 [2005]],G2 22 [cS 5 1,gK 400548 4 [2005]],G1 28 [cS 5 1,gK 7204 4 [2005]]]⟩),(87,⟨0x2226202620200202620222000222222202000220112,[(16,[.closeS (.s 16)])],[G1 8 [cS 2 1,gK 12 0 [2002]],G2 20 [.closeS (.s 5),cS 6 1,gK 240 16 [2006]],G1 26 [cS 6 1,gK 64 0 [2006]],G1 37 [cS 2 1,gK 12 0 [2002]],G1 43 [cS 2 1,gK 12 0 [2002]]]⟩),e0 61 0x222222220222112,e0 38 0x222022112,e0 98 0x26222221,e1 96 0x22226260002000201 [g2 6 387 0,g1 12 0 0,g1 22 16 0,g1 27 16 0],e0 68 0x226221,e0 71 0x264c4422012,e1 72 0x2206c444c440422022200000212 [g2 6 900 4,g1 12 0 0,g1 22 16 0,g1 27 16 0],e0 89 0x26c444422012,e1 73 0x2200222202262222626200203202026220220220200000622260202220000001002 [g2 6 57398 52,g1 12 48 48,g2 20 939581622 52,g1 26 57398 52,g1 44 112 48,g1 50 112 48],e0 90 0x22223300200262212,e1 62 0x2202620220000222026202200002220262022000000260012 [g1 8 64 0,g2 14 917518 8,g1 20 14 8,g1 30 64 0,g2 37 1879048202 8,g1 43 10 8,g1 53 64 0,g2 60 3848290697224 8,g1 66 0 0,g1 76 64 0,g1 81 64 0],e1 113 0x222226262222022200000202022026202112 [G2 18 [cS 7 2,gK 917632 0 [2007]],G1 24 [cS 7 2,gK 128 0 [2007]]],e1 114 0x226022222022 [(6,[gK 280 24],[gK 0 24]),g1 16 0 24,g1 20 16 16],e1 85 0x22222626226220222200000202022023202600112 [G2 18 [cS 8 1,gK 7340292 4 [2008]],G1 24 [cS 8 1,gK 256 0 [2008]]],e0 173 0x26222212,e0 146 0x226226222226022620220122,e0 195 0x2220622102,e1 174 0x22222622226c4c4404022222020262006c04022202020000626202260200202202e600200112 [G2 18 [cS 11 1,gK 481036339226 16 [2011]],G1 24 [cS 11 1,gK 2048 0 [2011]]],e0 147 0x22232202001ef22202220122,e0 115 0x266222226222002662222262220022266222226222002022622222202622202262222202622202222020122,e1 86 0x26c44444262220026c44444262220022226222222022222020266222226222002026622222622200202662222262220020266222226222002020122 [g1 36 147573952589676413004 12],e1 60 0x22222226260e22022002202220260022000000200220222022000020200220220200220260011122 [G1 10 [cS 5 1,gK 112 0 [2005]],G1 20 [cS 5 1,gK 112 0 [2005]],G1 28 [cS 5 1,gK 112 0 [2005]],G1 38 [cS 5 1,gK 112 0 [2005]],G2 46 [cS 11 1,gK 962072676876 12 [2011]],G1 52 [cS 11 1,gK 2560 0 [2011]],G1 65 [cS 5 1,gK 112 0 [2005]],G1 71 [cS 5 1,gK 112 0 [2005]]],e0 37 0x222222320026221122,e1 41 0x22222262222220000222201 [G2 8 [cS 3 1,gK 3592 0 [2003]],G1 14 [cS 3 1,gK 8 0 [2003]]],e1 39 0x22227222222022200000222001ef200212 [g2 8 458880 36864,g1 14 128 36864],e0 18 0x2e22220220222022020220222026201122,e0 40 0x22622212,e1 50 0x22222622222220262222203660202022260222020002260222001 [G2 8 [cS 7 1,gK 1572999 0 [2007]],G1 14 [cS 7 1,gK 128 0 [2007]]],e1 51 0x22222236662620260000020002022000022222201 [G2 8 [cS 5 1,gK 114721 0 [2005]],G1 14 [cS 5 1,gK 32 0 [2005]],G2 22 [cS 5 1,gK 6406305 0 [2005]],G1 28 [cS 5 1,gK 114721 0 [2005]]],e0 52 0x2221,e1 25 0x2222222362626202600003626200022260022260022000060036260222000260222020222222022222201 [G2 8 [cS 3 1,gK 25 0 [2003]],G1 14 [cS 3 1,gK 8 0 [2003]],G2 28 [cS 3 1,gK 30786325577753 0 [2003]],G1 34 [cS 3 1,gK 25 0 [2003]]],e0 69 0x2644cc44444444402201,e0 49 0x2262212,e0 24 0x22262200222600002260211,e0 19 0x2220e622222220000260222011,e0 6 0x222062220220222026221122,e1 7 0x220226260026002000202022022202e0221122 [g1 10 192 0,g2 16 12583170 0,g1 22 0 0,g1 32 192 0,g1 37 192 0],e1 123 0x22222226620260202622000020012 [g2 16 102 4,g1 22 32 0],e0 157 0x6442640264022006c4044026402200640264026402201,e1 124 0x2220222602062200006c4404c440444026440222002200644022202200622022012 [g1 8 4 0,g1 19 4 0,g1 26 4 0,g1 28 2 2,g1 34 4 0,g2 40 10 2,g1 46 0 0,g1 54 4 0,g1 59 4 0],e0 93 0x264426440222012,e0 154 0x26c444422012,e1 155 0x22222602260226020622260200012 [g2 6 142 8,g1 12 0 0,g1 20 64 0,g1 25 64 0],e1 119 0x22202626020062200006c4404cc40404c4c40044c400222006c4404c44044c400222006c4001cf404004c44044c4002220122 [g1 8 16 0,g1 16 16 0,g1 24 16 0,g2 30 44 12,g1 36 0 0,g1 44 16 0,g1 49 16 0],e0 122 0x22212,e1 120 0x22206444c0402622260200220062200012 [g2 6 10 2,g1 12 0 0,g1 23 26 2,g1 28 4 0,g1 33 4 0],e1 178 0x222222222222622600262260026022600620002226022602062226020002022260226020112 [g2 10 1806 8,g1 16 768 0,g2 24 7950 8,g1 30 1806 8],e1 179 0x222222226c0442220202602260206222602000012 [g2 8 398 8,g1 14 128 0],e1 180 0x26220062222622222620062006402201 [g1 24 3 0],e1 156 0x222644222002666226206602600266600600660060022622622222226226222202222222202e2220222022226222222022202ee2220220022022222022010000644222222200262220022202222002622200222000000011122 [g1 12 8076 12,g1 18 8076 12,g1 60 24576 0],e1 121 0x222026260200622000222332002622220122 [g1 10 16 0,g2 16 268 12,g1 22 0 0,g1 30 16 0,g1 35 16 0],e0 91 0x2622022002600064402220122,e0 92 0x2220022000220112,e0 63 0x622322022222202602122,e1 94 0x222022602062200006440222012 [g1 8 4 0,g2 14 10 2,g1 20 0 0,g1 28 4 0,g1 33 4 0],e0 64 0x264422012,e1 126 0x22222602260062000222622212 [g2 8 388 0,g1 14 0 0,g1 22 64 0,g1 27 64 0],e1 125 0x22262226222222222222622602260062000222602260202022212 [g2 6 534 16,g1 12 22 16,g2 20 3606 16,g1 26 534 16,g1 34 256 0,g1 40 256 0],e1 127 0x222222622226c4c4404022202062006c0402220202602260206260000012 [G2 8 [cS 9 1,gK 1566 16 [2009]],G1 14 [cS 9 1,gK 512 0 [2009]]],e0 95 0x26e222222e22200026e222222e2220002226e222222e2220002022e2222222022001ef22202220226222202001ef26222e20202200202222020122,e0 65 0x26001cf4444442e2220002226001cf4444442e2220002022e2222222002026e222222e2220002026e222222e2220002026e222222e2220002026e222222e2220002020122,e1 42 0x2222222262e026000262000000022222022000020200220260011122 [G2 36 [cS 10 1,gK 3340 12 [2010]],G1 42 [cS 10 1,gK 1280 0 [2010]]],e1 43 0x222222622600226006200001 [G2 8 [cS 5 1,gK 99 0 [2005]],G1 14 [cS 5 1,gK 32 0 [2005]]],e0 20 0x26222022022220026221122,e1 47 0x2222226262600260026200001 [G2 8 [cS 5 1,gK 99 0 [2005]],G1 14 [cS 5 1,gK 32 0 [2005]]],e1 67 0x22222602600620001 [g2 6 35 0,g1 12 0 0,g1 20 16 0,g1 25 16 0],e0 46 0x226221,e1 22 0x22222202662600260006000620001 [g2 6 9 0,g1 12 0 0,g2 18 25 0,g1 24 9 0,g1 32 4 0,g1 38 4 0],e1 48 0x2220626002600620000620201 [g1 8 16 0,g2 14 35 0,g1 20 0 0,g1 28 16 0,g1 33 16 0],e1 23 0x22222220262600222600222626000620000011 [g2 10 451 0,g1 16 192 0,g1 31 323 0],e0 8 0x220022222026220022000260220220222026201122,e1 9 0x222022626002600620002022022202e0221122 [g1 10 192 0,g2 16 1282 0,g1 22 0 0,g1 30 192 0,g1 35 192 0],e0 3 0x26c4426c4426c44262222202e22222202e00022202e00022202e0000644022600020122]
namespace trace_events_c1
def DZ:R0:=[o1 20 (.s 18) [],o2 21 (ix 5) [.s 16,.s 18] [],o2 22 (lD 5) [.s 21] [21],o2 6 (.a (.alloc 5 [.int .i64 0,.int .i64 0,.int .i64 0,.int .i64 0,.bO])) [] [],o1 5 (.s 20) [20],oz (.l (.store 5)) [.s 6,.s 22] [22]]
def BB:R0:=[o1 23 (.s 0) [],o1 24 (.s 3) [],o1 25 (.s 5) [5],o2 26 (bI .add) [.s 25,.k (.int .i64 1)] [25],o2 27 (.p (.build [.int .i64 0,.int .i64 0] [(0,1),(1,1)])) [.s 24,.s 26] [24,26],o2 28 (lD 5) [.s 6] [6],o2 29 .c [.s 23,.s 27,.s 28] [23,27,28],o2 30 (.p .not) [.s 29] [29]]
def zq:R0:=[o2 31 (bI .add) [.s 18,.k (.int .i64 1)] [],o1 18 (.s 31) [31]]
def It:RC:=.hg (.seq (.ops [o2 19 (bI .lss) [.s 18,.s 17] []]) (.seq (.cond (.s 19) .skip (.exit 2)) (.seq (.block 3 (.seq (.ops DZ) (.seq (.ops BB) (.cond (.s 30) .ret .skip)))) (.ops zq)))) (.keep [0,3,8,9,10,16,17,18] [])
def NQ:R0:=[o1 12 (.s 10) [],o2 13 (ix 3) [.s 8,.s 10] [],o2 14 (lD 3) [.s 13] [13],o2 4 (.a (.alloc 3 [.str ByteArray.empty,.bO,.bO])) [] [],o1 3 (.s 12) [12],oz (.l (.store 3)) [.s 4,.s 14] [14]]
def K4:R0:=[o2 15 (fa 2) [.s 4] [],o2 16 (ld 1) [.s 15] [15],o2 17 ln [.s 16] [],o1 18 (.k (.int .i64 0)) []]
def I4:R0:=[o2 32 (bI .add) [.s 10,.k (.int .i64 1)] [],o1 10 (.s 32) [32]]
def U2:RC:=.block 2 (.gh (.keep [0,3,8,9,10,16,17,18] []) (.loop It))
def Q6:RC:=.hg (.seq (.ops [o2 11 (bI .lss) [.s 10,.s 9] []]) (.seq (.cond (.s 11) .skip (.exit 0)) (.seq (.block 1 (.seq (.ops NQ) (.seq (.ops K4) U2))) (.ops I4)))) (.keep [0,8,9,10] [])
def Qa:R0:=[o2 7 (fa 0) [.s 1] [1],o2 8 (ld 1) [.s 7] [7],o2 9 ln [.s 8] [],o1 10 (.k (.int .i64 0)) []]
def U1:RC:=.block 0 (.gh (.keep [0,8,9,10] []) (.loop Q6))
def text:RF:=⟨33,[],.seq (.ops Qa) U1⟩
section
variable{S:Sys}
abbrev I1(ps:Sl bR)(i:Int)(B:aX (aX V))(more:Bool)(y:Nat):St:=⟨[(0,.yl y),Cv 8 ps,Iv 9 (len ps),Iv 10 i],[],[],B,more,y⟩
abbrev I2(ps:Sl bR)(i:Int)(es:Sl Event)(j:Int)(B:aX (aX V))(more:Bool)(y:Nat):St:=⟨[(0,.yl y),Iv 3 i,Cv 8 ps,Iv 9 (len ps),Iv 10 i,Cv 16 es,Iv 17 (len es),Iv 18 j],[],[],B,more,y⟩
abbrev S2(ps:Sl bR)(i:Int)(es:Sl Event)(j:Int)(b:Bool)(B:aX (aX V))(more:Bool)(y:Nat):St:=⟨[(0,.yl y),Iv 3 i,Cv 8 ps,Iv 9 (len ps),Iv 10 i,Cv 16 es,Iv 17 (len es),Iv 18 j,Bv 19 b],[],[],B,more,y⟩
theorem ZX(ps:Sl bR)(i:Int)(es:Sl WF)(j:Int)(B:S')(more:X')(y:Nat)(D:decide (j<len es)=false):
 rn S.bare pV some (.rc It) [] (I2 ps i es j B more y)=some (.exit 2,S2 ps i es j false B more y):=by
 refine Le.get ?_;refine Kf (n:=7) (fo':=.rc (.cond (.s 19) .skip (.exit 2))) (fs':=[.seq (.seq (.block 3 (.seq (.ops DZ) (.seq (.ops BB) (.cond (.s 30) .ret .skip)))) (.ops zq)),.gst (.keep [0,3,8,9,10,16,17,18] [])]) (λb=>S2 ps i es j b B more y) D Zae ?_
 exact Le.of_eq Zae
theorem abJ(ps:Sl bR)(i:Int)(es:Sl WF)(j:Int)(e:WF)(B:S')(more:X')(y:Nat)(D:decide (j<len es)=true)(G:idx es j=some e)(J:(!(more|| !B.isEmpty))=false):
 rn S.bare pV some (.rc It) [] (I2 ps i es j ([enc (⟨i,wrap .i64 (j+1)⟩:a_),enc e]::B) more y)=some (.norm,I2 ps i es (wrap .i64 (j+1)) B more y):=by
 refine Le.get ?_;refine Kt (n:=7) (fo':=.rc (.cond (.s 19) .skip (.exit 2))) (fs':=[.seq (.seq (.block 3 (.seq (.ops DZ) (.seq (.ops BB) (.cond (.s 30) .ret .skip)))) (.ops zq)),.gst (.keep [0,3,8,9,10,16,17,18] [])]) (λb=>S2 ps i es j b ([enc (⟨i,wrap .i64 (j+1)⟩:a_),enc e]::B) more y) D Zae ?_
 refine Vz G ?_;refine Tl 8 false [] (DZ.drop 1) [.seq (.seq (.ops BB) (.cond (.s 30) .ret .skip)),.blk 3,.seq (.ops zq),.gst (.keep [0,3,8,9,10,16,17,18] [])] ⟨[(0,.yl y),Iv 3 i,Cv 8 ps,Iv 9 (len ps),Iv 10 i,Cv 16 es,Iv 17 (len es),Iv 18 j,Bv 19 true,Iv 20 j],[],[],([enc (⟨i,wrap .i64 (j+1)⟩:a_),enc e]::B),more,y⟩ .i64 rfl Zae λx a=>?_
 obtain rfl:x=e:=Zac
 refine ZL 1 false [] (DZ.drop 3) [.seq (.seq (.ops BB) (.cond (.s 30) .ret .skip)),.blk 3,.seq (.ops zq),.gst (.keep [0,3,8,9,10,16,17,18] [])] ⟨[(0,.yl y),Iv 3 i,Cv 8 ps,Iv 9 (len ps),Iv 10 i,Cv 16 es,Iv 17 (len es),Iv 18 j,Bv 19 true,Iv 20 j,Cv 22 x],[],[],([enc (⟨i,wrap .i64 (j+1)⟩:a_),enc x]::B),more,y⟩ [iv 0,iv 0,iv 0,iv 0,.v .bO] rfl (by simp only[bE,As,sS,uK,tg,uH,vZ,uy,vM,sV,uE,Ak,vB,wh,v7,vQ,yq,yD,uP,wm,SV.c8];rfl) Zae ?_
 refine Ast 1 false [] (DZ.drop 5) [.seq (.seq (.ops BB) (.cond (.s 30) .ret .skip)),.blk 3,.seq (.ops zq),.gst (.keep [0,3,8,9,10,16,17,18] [])] ⟨[(0,.yl y),Iv 3 i,Cv 8 ps,Iv 9 (len ps),Iv 10 i,Cv 16 es,Iv 17 (len es),Iv 18 j,Bv 19 true,Cv 22 x,Pv 6,Iv 5 j],[Xb 6 (⟨0,0,0,0,.nil⟩:WF)],[],([enc (⟨i,wrap .i64 (j+1)⟩:a_),enc x]::B),more,y⟩ 6 0 x [iv 0,iv 0,iv 0,iv 0,.v .bO] ((cells x).map .v) rfl Zae ?_
 refine Kyl (n:=10) (q:=BB.drop 6) (fs':=[.seq (.cond (.s 30) .ret .skip),.blk 3,.seq (.ops zq),.gst (.keep [0,3,8,9,10,16,17,18] [])]) (st:=⟨[(0,.yl y),Iv 3 i,Cv 8 ps,Iv 9 (len ps),Iv 10 i,Cv 16 es,Iv 17 (len es),Iv 18 j,Bv 19 true,(23,.yl y),Cv 27 (⟨i,wrap .i64 (j+1)⟩:a_),Cv 28 x],[Xb 6 x],[],([enc (⟨i,wrap .i64 (j+1)⟩:a_),enc x]::B),more,y⟩) (vs:=[cv (⟨i,wrap .i64 (j+1)⟩:a_),cv x]) Zae rfl Zae Zae rfl rfl ?_
 refine Kf (n:=3) (fo':=.rc (.cond (.s 30) .ret .skip)) (fs':=[.blk 3,.seq (.ops zq),.gst (.keep [0,3,8,9,10,16,17,18] [])]) (λb=>⟨[(0,.yl y),Iv 3 i,Cv 8 ps,Iv 9 (len ps),Iv 10 i,Cv 16 es,Iv 17 (len es),Iv 18 j,Bv 19 true,Bv 30 b],[Xb 6 x],[],B,more,y⟩) J Zae ?_
 exact Le.of_eq Zae
theorem Yz(ps:Sl bR)(i:Int)(es:Sl WF)(j:Int)(e:WF)(B:S')(more:X')(y:Nat)(D:decide (j<len es)=true)(G:idx es j=some e)(J:(!(more|| !B.isEmpty))=true):
 rn S.bare pV some (.rc It) [] (I2 ps i es j ([enc (⟨i,wrap .i64 (j+1)⟩:a_),enc e]::B) more y)=some (.ret,⟨[(0,.yl y),Iv 3 i,Cv 8 ps,Iv 9 (len ps),Iv 10 i,Cv 16 es,Iv 17 (len es),Iv 18 j,Bv 19 true,Bv 30 true],[Xb 6 e],[],B,more,y⟩):=by
 refine Le.get ?_;refine Kt (n:=7) (fo':=.rc (.cond (.s 19) .skip (.exit 2))) (fs':=[.seq (.seq (.block 3 (.seq (.ops DZ) (.seq (.ops BB) (.cond (.s 30) .ret .skip)))) (.ops zq)),.gst (.keep [0,3,8,9,10,16,17,18] [])]) (λb=>S2 ps i es j b ([enc (⟨i,wrap .i64 (j+1)⟩:a_),enc e]::B) more y) D Zae ?_
 refine Vz G ?_;refine Tl 8 false [] (DZ.drop 1) [.seq (.seq (.ops BB) (.cond (.s 30) .ret .skip)),.blk 3,.seq (.ops zq),.gst (.keep [0,3,8,9,10,16,17,18] [])] ⟨[(0,.yl y),Iv 3 i,Cv 8 ps,Iv 9 (len ps),Iv 10 i,Cv 16 es,Iv 17 (len es),Iv 18 j,Bv 19 true,Iv 20 j],[],[],([enc (⟨i,wrap .i64 (j+1)⟩:a_),enc e]::B),more,y⟩ .i64 rfl Zae λx a=>?_
 obtain rfl:x=e:=Zac
 refine ZL 1 false [] (DZ.drop 3) [.seq (.seq (.ops BB) (.cond (.s 30) .ret .skip)),.blk 3,.seq (.ops zq),.gst (.keep [0,3,8,9,10,16,17,18] [])] ⟨[(0,.yl y),Iv 3 i,Cv 8 ps,Iv 9 (len ps),Iv 10 i,Cv 16 es,Iv 17 (len es),Iv 18 j,Bv 19 true,Iv 20 j,Cv 22 x],[],[],([enc (⟨i,wrap .i64 (j+1)⟩:a_),enc x]::B),more,y⟩ [iv 0,iv 0,iv 0,iv 0,.v .bO] rfl (by simp only[bE,As,sS,uK,tg,uH,vZ,uy,vM,sV,uE,Ak,vB,wh,v7,vQ,yq,yD,uP,wm,SV.c8];rfl) Zae ?_
 refine Ast 1 false [] (DZ.drop 5) [.seq (.seq (.ops BB) (.cond (.s 30) .ret .skip)),.blk 3,.seq (.ops zq),.gst (.keep [0,3,8,9,10,16,17,18] [])] ⟨[(0,.yl y),Iv 3 i,Cv 8 ps,Iv 9 (len ps),Iv 10 i,Cv 16 es,Iv 17 (len es),Iv 18 j,Bv 19 true,Cv 22 x,Pv 6,Iv 5 j],[Xb 6 (⟨0,0,0,0,.nil⟩:WF)],[],([enc (⟨i,wrap .i64 (j+1)⟩:a_),enc x]::B),more,y⟩ 6 0 x [iv 0,iv 0,iv 0,iv 0,.v .bO] ((cells x).map .v) rfl Zae ?_
 refine Kyl (n:=10) (q:=BB.drop 6) (fs':=[.seq (.cond (.s 30) .ret .skip),.blk 3,.seq (.ops zq),.gst (.keep [0,3,8,9,10,16,17,18] [])]) (st:=⟨[(0,.yl y),Iv 3 i,Cv 8 ps,Iv 9 (len ps),Iv 10 i,Cv 16 es,Iv 17 (len es),Iv 18 j,Bv 19 true,(23,.yl y),Cv 27 (⟨i,wrap .i64 (j+1)⟩:a_),Cv 28 x],[Xb 6 x],[],([enc (⟨i,wrap .i64 (j+1)⟩:a_),enc x]::B),more,y⟩) (vs:=[cv (⟨i,wrap .i64 (j+1)⟩:a_),cv x]) Zae rfl Zae Zae rfl rfl ?_
 refine Kt (n:=3) (fo':=.rc (.cond (.s 30) .ret .skip)) (fs':=[.blk 3,.seq (.ops zq),.gst (.keep [0,3,8,9,10,16,17,18] [])]) (λb=>⟨[(0,.yl y),Iv 3 i,Cv 8 ps,Iv 9 (len ps),Iv 10 i,Cv 16 es,Iv 17 (len es),Iv 18 j,Bv 19 true,Bv 30 b],[Xb 6 x],[],B,more,y⟩) J Zae ?_
 exact Le.of_eq Zae
abbrev S1(ps:Sl bR)(i:Int)(b:Bool)(B:aX (aX V))(more:Bool)(y:Nat):St:=⟨[(0,.yl y),Cv 8 ps,Iv 9 (len ps),Iv 10 i,Bv 11 b],[],[],B,more,y⟩
theorem ZF(ps:Sl bR)(i:Int)(B:S')(more:X')(y:Nat)(D:decide (i<len ps)=false):
 rn S.bare pV some (.rc Q6) [] (I1 ps i B more y)=some (.exit 0,S1 ps i false B more y):=by
 refine Le.get ?_;refine Kf (n:=7) (fo':=.rc (.cond (.s 11) .skip (.exit 0))) (fs':=[.seq (.seq (.block 1 (.seq (.ops NQ) (.seq (.ops K4) U2))) (.ops I4)),.gst (.keep [0,8,9,10] [])]) (λb=>S1 ps i b B more y) D Zae ?_
 exact Le.of_eq Zae
def VR:QQ:=[.blk 2,.blk 1,.seq (.ops I4),.gst (.keep [0,8,9,10] [])]
theorem V8(ps:Sl bR)(i:Int)(p:bR)(B:S')(more:X')(y:Nat)(r:Out×St)(D:decide (i<len ps)=true)(G:idx ps i=some p)
 (h:rn S.bare pV some (.rc (.loop It)) VR (I2 ps i p.events 0 B more y)=some r):rn S.bare pV some (.rc Q6) [] (I1 ps i B more y)=some r:=by
 refine Le.get ?_;refine Kt (n:=7) (fo':=.rc (.cond (.s 11) .skip (.exit 0))) (fs':=[.seq (.seq (.block 1 (.seq (.ops NQ) (.seq (.ops K4) U2))) (.ops I4)),.gst (.keep [0,8,9,10] [])]) (λb=>S1 ps i b B more y) D Zae ?_
 refine Vz G ?_;refine Tl 8 false [] (NQ.drop 1) [.seq (.seq (.ops K4) U2),.blk 1,.seq (.ops I4),.gst (.keep [0,8,9,10] [])] ⟨[(0,.yl y),Cv 8 ps,Iv 9 (len ps),Iv 10 i,Bv 11 true,Iv 12 i],[],[],B,more,y⟩ .i64 rfl Zae λx a=>?_
 obtain rfl:x=p:=Zac
 refine ZL 1 false [] (NQ.drop 3) [.seq (.seq (.ops K4) U2),.blk 1,.seq (.ops I4),.gst (.keep [0,8,9,10] [])] ⟨[(0,.yl y),Cv 8 ps,Iv 9 (len ps),Iv 10 i,Bv 11 true,Iv 12 i,Cv 14 x],[],[],B,more,y⟩ [.v (.str ByteArray.empty),.v .bO,.v .bO] rfl (by simp only[bE,As,sS,uK,tg,uH,vZ,uy,vM,sV,uE,Ak,vB,wh,v7,vQ,yq,yD,uP,wm,SV.c8];rfl) Zae ?_
 refine Ast 1 false [] (NQ.drop 5) [.seq (.seq (.ops K4) U2),.blk 1,.seq (.ops I4),.gst (.keep [0,8,9,10] [])] ⟨[(0,.yl y),Cv 8 ps,Iv 9 (len ps),Iv 10 i,Bv 11 true,Cv 14 x,Pv 4,Iv 3 i],[Xb 4 (⟨ByteArray.empty,.nil,.nil⟩:bR)],[],B,more,y⟩ 4 0 x [.v (.str ByteArray.empty),.v .bO,.v .bO] ((cells x).map .v) rfl Zae ?_
 refine aac 6 false [] (K4.drop 2) [.seq U2,.blk 1,.seq (.ops I4),.gst (.keep [0,8,9,10] [])] ⟨[(0,.yl y),Cv 8 ps,Iv 9 (len ps),Iv 10 i,Bv 11 true,Pv 4,Iv 3 i,Cv 16 x.events],[Xb 4 x],[],B,more,y⟩ x.events rfl Zae ?_
 refine CA (n:=5) (fo':=.rc (.loop It)) (fs':=VR) (st':=I2 ps i x.events 0 B more y) Zae (Le.of_eq h)
theorem YS(ps:Sl bR)(i:Int)(es:Sl WF)(j:Int)(B:S')(more:X')(y:Nat):
 rn S.bare pV some (.ex 2) VR (S2 ps i es j false B more y)=some (.norm,I1 ps (wrap .i64 (i+1)) B more y):=by kernel_rfl
theorem wrap_small(n:Nat)(h:n<9223372036854775807):wrap .i64 ((n:Int)+1)=((n+1:Nat):Int):=by simp[wrap,IntKind.bits,signed];omega
abbrev eI(x:a_×Event):aX V:=[enc x.1,enc x.2]
theorem wQ.step{x:So}{D rest:S'}{more:X'}(h:wQ D (x::rest) more):∃B,D=x::B/\((!(more|| !B.isEmpty))=false/\wQ B rest more\/(!(more|| !B.isEmpty))=true/\B=[]):=by rcases h with⟨rfl,rfl⟩|⟨rfl,u,r,a⟩;exact⟨rest,rfl,.inl ⟨rfl,.inl ⟨rfl,rfl⟩⟩⟩;cases D with|nil=>grind|cons w D=>simp only[cons_append,List.cons.injEq]at a;obtain⟨rfl,rfl⟩:=a;refine⟨D,rfl,?_⟩;cases D with|nil=>grind|cons z C=>exact .inl ⟨rfl,.inr ⟨rfl,Zab,r,rfl⟩⟩
theorem vU{α:Type}{s:Sl α}{j:Nat}{x:α}{r:aX α}(h:s.l.drop j=x::r):idx s (j:Int)=some x/\decide ((j:Int)<len s)=true/\s.l.drop (j+1)=r:=by
 have a:j<s.l.length:=by apply Classical.byContradiction;intro w;rw[List.drop_eq_nil_of_le Zaa]at h;cases h
 have u:=List.drop_eq_getElem_cons a;rw[u]at h;simp only[List.cons.injEq]at h;refine⟨?_,Zac,h.2⟩;unfold idx;simp_all
variable{Q:Out×St->aY (Out×St)}{fs:QQ}
theorem inner(ps:Sl bR)(i:Int)(es:Sl WF)(J:es.l.length<9223372036854775807)(more:X')(y:Nat)(R:S'):∀(a:aX WF)(j:Nat),es.l.drop j=a->∀D,wQ D ((jL i j a).map eI++R) more->
 (∃(B:S')(U:Int),wQ B R more/\rn S.bare pV Q (.rc (.loop It)) fs (I2 ps i es j D more y)=rn S.bare pV Q (.ex 2) fs (S2 ps i es U false B more y))\/
 (∃st':St,st'.want=[]/\rn S.bare pV Q (.rc (.loop It)) fs (I2 ps i es j D more y)=Q (.ret,st'))
 |[],j,hd,D,G=>by have b:decide ((j:Int)<len es)=false:=(by simp_all);exact .inl ⟨D,j,by simpa[jL]using G,HX (ZX ps i es j D more y b)⟩|e::a,j,hd,D,G=>by have⟨b,z,C⟩:=vU hd;have T:j<es.l.length:=Zac;simp only[jL,map_cons,cons_append]at G;obtain⟨B,rfl,u⟩:=wQ.step G;have I:=wrap_small j Zaa;have w:((j:Int)+1)=wrap .i64 ((j:Int)+1):=Zac;rcases u with⟨u,L⟩|⟨u,rfl⟩;have k:=abJ (S:=S) ps i es j e B more y z b u;rw[<-w]at k;have k2:=IE (Q:=Q) (fs:=fs) k;have O:=inner ps i es J more y R a (j+1) C B Zac;rw[show((j+1:Nat):Int)=(j:Int)+1 from rfl]at O;grind;have k:=Yz (S:=S) ps i es j e [] more y z b u;rw[<-w]at k;exact .inr ⟨_,by rfl,IM k⟩
theorem outer(ps:Sl bR)(J:ps.l.length<9223372036854775807)(D:∀p∈ps.l,p.events.l.length<9223372036854775807)(more:X')(y:Nat):∀(a:aX bR)(i:Nat),ps.l.drop i=a->∀B,wQ B ((gG i a).map eI) more->
 rn S.bare pV Qi (.rc (.loop Q6)) [.blk 0] (I1 ps i B more y)=some ()
 |[],i,hd,B,G=>by
  have b:decide ((i:Int)<len ps)=false:=by simp_all
  rw[HX (ZF ps i B more y b)];have:B=[]:=by
   rcases G with⟨_,rfl⟩|⟨_,L,r,c⟩;rfl;have:B=[]:=by cases B with
    |nil=>rfl|cons=>simp[gG]at c
   grind
  subst this;rfl
 |p::a,i,hd,B,G=>by have⟨b,z,C⟩:=vU hd;have d:i<ps.l.length:=Zac;have I:p∈ps.l:=List.mem_of_mem_drop (i:=i) Zac;simp only[gG,map_append]at G;have u:=wrap_small i Zaa;rcases inner (S:=S) (Q:=some) (fs:=VR) ps i p.events (D p I) more y _ p.events.l 0 rfl B G with⟨w,O,g1,g2⟩|⟨st',g1,g2⟩;rw[YS,u]at g2;rw[IE (V8 ps i p B more y _ z b g2)];exact outer ps J D more y a (i+1) C w g1;rw[IM (V8 ps i p B more y _ z b g2)];simp[Qi,g1]
theorem all(t:Z4)(B:aX (a_×WF))(h:kf t=some B)(D:S')(more:X')(G:wQ D (B.map eI) more)(y:Nat):
 rn S.bare pV Qi (.rc text.body) [] ⟨xD 0 (([]:So).map .v++.yl y::[V.fptr (cells t)].map .v),[],[],D,more,y⟩=some ():=by
 unfold kf at h;split at h
 .rename_i hk;cases h;simp only[ζh,all_eq_true,qM,decide_eq_true_eq]at hk;refine Le.get ?_;refine aac 4 false [] (Qa.drop 2) [.seq U1] ⟨[(0,.yl y),Cv 8 t.procs],[],[],D,more,y⟩ t.procs rfl Zae ?_
  refine CA (n:=5) (fo':=.rc (.loop Q6)) (fs':=[.blk 0]) (st':=I1 t.procs 0 D more y) Zae (Le.of_eq ?_)
  exact outer t.procs hk.1 hk.2 more y t.procs.l 0 rfl D G
 simp_all
end
theorem yC{α:Type}[bD α]{a b:Sl α}(h:cg a=cg b):rows a.l=rows b.l:=by cases a<;>cases b<;>first|rfl|(simp only[cg,Sl.k,qw,V.fsl.injEq,true_and,reduceCtorEq]at h;done)|(simp only[cg,Sl.k,qw,V.fsl.injEq,true_and,reduceCtorEq]at h;omega)
theorem y_(p:Int):∀(es B:aX WF)(j:Int),rows es=rows B->(jL p j es).map eI=(jL p j B).map eI
 |[],[],_,_=>rfl|[],_::_,_,h=>by simp[rows]at h|_::_,[],_,h=>by simp[rows]at h|e::es,D::B,j,h=>by simp only[rows,map_cons,List.cons.injEq]at h;have a:enc e=enc D:=(by show V.agg (cells e)=V.agg (cells D);rw[h.1]);simp only[jL,map_cons,eI,a,y_ p es B (j+1) h.2]
theorem FE:∀(ps B:aX bR)(i:Int),rows ps=rows B->(gG i ps).map eI=(gG i B).map eI
 |[],[],_,_=>rfl|[],_::_,_,h=>by simp[rows]at h|_::_,[],_,h=>by simp[rows]at h|p::ps,p'::B,i,h=>by simp only[rows,map_cons,List.cons.injEq]at h;have a:cg p.events=cg p'.events:=(by have:=h.1;change[V.str p.name,cg p.vars,cg p.events]=[V.str p'.name,cg p'.vars,cg p'.events]at this;grind);simp only[gG,map_append,y_ i _ _ 0 (yC a),FE ps B (i+1) h.2]
def yo(f:Y')(g:Y')(a b:So)(xs:S'):Prop:=∃(t:Z4)(u:aX (a_×WF)),g=f/\a=[]/\b=[.fptr (cells t)]/\kf t=some u/\xs=u.map eI
theorem yo.uniq{f g:Y'}{a b:So}{xs ys:S'}(h:yo f g a b xs)(k:yo f g a b ys):xs=ys:=by
 obtain⟨t,C,rfl,rfl,rfl,c,rfl⟩:=h;obtain⟨w,z,_,_,B,u,rfl⟩:=k;simp only[List.cons.injEq,V.fptr.injEq,and_true]at B;have D:cg t.procs=cg w.procs:=by change[cg t.procs]=[cg w.procs]at B;grind
 unfold kf at c u;split at c<;>split at u<;>simp only[ζa,reduceCtorEq]at c u;subst c u;exact FE _ _ 0 (yC D)
end trace_events_c1
end Go.VE
namespace Go.VE
open Go.Proofs.YtgnmmpchdcccbaaGreatDoor
noncomputable section
def JD(f:Y'):aY Iz:=bif beq f 152 then some (uU E)else bif beq f 149 then some (uX E)else none
def Sb:Sys:=⟨E,λn=>n,λ_ _ _=>none,Ap E,JD⟩
theorem Kj:∀f q,JD f=some q->pK E f q:=by intro f q h;unfold JD at h;cases a:beq f 152 with|true=>rw[a]at h;cases h;have:=Nat.eq_of_beq_eq_true a;subst this;exact UH yz Zae Zae (Es Zae)|false=>rw[a]at h;cases a:beq f 149 with|true=>rw[a]at h;cases h;have:=Nat.eq_of_beq_eq_true a;subst this;exact Vk Zae Zae Zae Zae|false=>rw[a]at h;cases h
def Tx:sH:=Tv E some (lk O8)
abbrev cB:cm:=di Sb Tx
theorem aaa:sR Sb Tx where
 fn f rf h:=let⟨u,a,w⟩:=EN h;⟨u,some,a,yz,w⟩
 zo f z y h:=IN h
 prm:=Kj
theorem SK:∀f a b xs,Sb.items f a b=some xs->eU Sb f a b xs:=λf a b xs h=>by cases h
end
end Go.VE
namespace Go.VE
noncomputable section
namespace IB
def dY(s0:Zg):aY Zg:=(Sl.isNil s0).bind λu=>bg u (some Sl.nil) ((pJ (Sl.row []:Zg) s0).bind λw=>some w)
theorem iA:BL Sb cB 26 (λs0:Zg=>[enc s0]) (λz=>dY z):=BL.mk' (tj (Tx 26)) (λs0=>KY 9 λu _=>bp 2 4 aZ (Ar 7 5 7 λw _=>aZ))
namespace cA
def fh(k6:Int)(U:Sl WF)(W Y:Int)(G:Sl Assign)(J:Int)(a:S')(B:Zg)(D:Int)(more:X'):aY (Fw ((Zg)×Int) Zg Empty):=bg (decide (D<J)) ((idx G D).bind λu=>(Sl.lW B u.var).bind λw=>(Sl.put B w (u.value:Int)).bind λz=>some (.n (z,wrap .i64 (D+1)))) (some (.x B))
def W3(B:Zg)(k6:Int)(J:Sl WF)(D G:Int)(U:Sl Assign)(W Y:Int)(a:S')(more:X'):aY (Fw ((Zg)×Int×Int×(S')) S' S'):=(bF (λq:(Zg)×Int=>fh k6 J D G U W a q.1 q.2 more) (B,Y)).bind (Fw.elim (λe=>((dY e).bind Sl.whole).bind λw=>(yl a more [.int .i64 (wrap .i64 (k6+1)),enc w]).bind λu=>bg u.1 (some (.n (e,D,wrap .i64 (G+1),u.2))) (some (.r u.2))) (λe=>elim e))
def bH(D:Sl WF)(G:Zg)(J B:Int)(U:S')(more:X'):aY (Fw ((Zg)×Int×Int×(S')) S' S'):=bg (decide (B<J)) ((idx D B).bind λu=>W3 G B D J B u.assign (len u.assign) 0 U more) (some (.x U))
def W2(B:Zg)(D:Sl WF)(G J:Int)(U:S')(more:X'):aY S':=(bF (λq:(Zg)×Int×Int×(S')=>bH D q.1 q.2.1 q.2.2.1 q.2.2.2 more) (B,G,J,U)).bind (Fw.elim (λe=>some e) (λe=>some e))
def bh(U:bR)(G:Sl Var)(J:Int)(W:S')(B:Zg)(D:Int)(more:X'):aY (Fw ((Zg)×Int) Zg Empty):=bg (decide (D<J)) ((idx G D).bind λu=>(fu B (u.init_:Int)).bind λw=>some (.n (w,wrap .i64 (D+1)))) (some (.x B))
def W1(B:bR)(D:Zg)(G:Sl Var)(J U:Int)(W:S')(more:X'):aY S':=(bF (λq:(Zg)×Int=>bh B G J W q.1 q.2 more) (D,U)).bind (Fw.elim (λe=>((dY e).bind Sl.whole).bind λw=>(yl W more [.int .i64 0,enc w]).bind λu=>bg u.1 (cA.W2 e B.events (len B.events) 0 u.2 more) (some u.2)) (λe=>elim e))
end cA
def cA(D:S')(B:bR)(more:X'):aY S':=cA.W1 B (Sl.nil:Zg) B.vars (len B.vars) 0 D more
open cA in
theorem AJ(more:X')(y:Nat)(J:S')(B:bR):Le ((cA J B more).bind λr=>some r) (bZ Sb cB Qw (.rc (tb Tx 171),[],⟨xD 0 (.yl y::[V.fptr (cells B)].map .v),[],[],J,more,y⟩)):=bQ 10 B.vars (eG 6 (λC=>⟨[(0,.yl y),Kv 1 B,Ov 3,Cv 11 B.vars,Iv 12 (len B.vars),Iv 13 C.2],[Lb 2003 C.1],[],J,more,y⟩) (λD=>(0,⟨[(0,.yl y),Kv 1 B,Ov 3],[Lb 2003 D],[],J,more,y⟩)) (λC=>bp 8 14 (bC 7 λT _=>nL 10 2003 20 21 λU _=>aZ) aZ) (λD=>WQ 7 25 iA D λL _=>Byl 1 [.int .i64 0,enc L] λS _=>cz 3 27 (bQ 7 B.events (dx 6 (λu=>⟨[(0,.yl y),Ov 3,Cv 29 B.events,Iv 30 u.2.1,Iv 31 u.2.2.1],[Lb 2003 u.1],[],u.2.2.2,more,y⟩) (λw=>(2,⟨[],[],[],w,more,y⟩)) (λw=>⟨[],[],[],w,more,y⟩) (λu=>bp 8 32 (bC 8 λz _=>o4 3 7 0 z (bQ 7 z.assign (eG 6 (λG=>⟨[(0,.yl y),Ov 3,Iv 6 u.2.2.1,Cv 29 B.events,Iv 30 u.2.1,Iv 31 u.2.2.1,Cv 37 z.assign,Iv 38 (len z.assign),Iv 39 G.2],[Lb 2003 G.1],[],u.2.2.2,more,y⟩) (λI=>(4,⟨[(0,.yl y),Ov 3,Iv 6 u.2.2.1,Cv 29 B.events,Iv 30 u.2.1,Iv 31 u.2.2.1],[Lb 2003 I],[],u.2.2.2,more,y⟩)) (λG=>bp 8 40 (bC 7 λO _=>mo .i64 11 2003 λW _=>EH 0 2003 (.int .i64 O.value) λX _=>aZ) aZ) (λI=>WQ 8 54 iA I λQ _=>Byl 1 [.int .i64 (wrap .i64 (u.2.2.1+1)),enc Q] λY _=>cz 3 56 aZ aZ)))) aZ) (λw=>aZ) (λw=>aZ))) aZ))
end IB
end
end Go.VE
namespace Go.VE
open IB
def yg:aX Assign->Zg->aY Zg
 |[],s=>some s|a::r,s=>(Sl.lW s a.var).bind λj=>(Sl.put s j a.value).bind (yg r)
def ym:aX Var->Zg->aY Zg
 |[],s=>some s|v::r,s=>(fu s v.init_).bind (ym r)
def Po(s:Zg):aY Zg:=(dY s).bind Sl.whole
def x_:Int->aX WF->Zg->aY (aX (Int×Zg))
 |_,[],_=>some []|k,e::r,s=>(yg e.assign.l s).bind λn=>(Po n).bind λc=>(x_ (k+1) r n).map ((k+1,c)::·)
def kq(p:bR):aY (aX (Int×Zg)):=if qM p.vars.l.length&&(qM p.events.l.length&&p.events.l.all λe=>qM e.assign.l.length)then(ym p.vars.l .nil).bind λs=>(Po s).bind λc=>(x_ 0 p.events.l s).map ((0,c)::·)else none
namespace IST
abbrev eI(x:Int×Sl Int):aX V:=[enc x.1,enc x.2]
theorem Ee{n:Nat}(h:qM n=true):n<9223372036854775807:=by simpa[qM]using h
theorem wrap_small(n:Nat)(h:n<9223372036854775807):wrap .i64 ((n:Int)+1)=((n+1:Nat):Int):=by simp[wrap,IntKind.bits,signed];omega
theorem vU{α:Type}{s:Sl α}{j:Nat}{x:α}{r:aX α}(h:s.l.drop j=x::r):idx s (j:Int)=some x/\decide ((j:Int)<len s)=true/\s.l.drop (j+1)=r:=by
 have a:j<s.l.length:=by apply Classical.byContradiction;intro w;rw[List.drop_eq_nil_of_le Zaa]at h;cases h
 have u:=List.drop_eq_getElem_cons a;rw[u]at h;simp only[List.cons.injEq]at h;refine⟨?_,by simp[len,a],h.2⟩;unfold idx;rw[if_pos Zaa];simp[ζd a,h.1]
theorem Lu{α:Type}{s:Sl α}{j:Nat}(h:s.l.drop j=[]):decide ((j:Int)<len s)=false:=by
 have:s.l.length<=j:=by simpa using h
 simp[len];omega
theorem ini(p:bR)(v:Sl Var)(J:v.l.length<9223372036854775807)(D:S')(more:X'):∀(a:aX Var)(j:Nat),v.l.drop j=a->∀s B,ym a s=some B->
 bF (λq:Zg×Int=>cA.bh p v (len v) D q.1 q.2 more) (s,(j:Int))=some (.x B)
 |[],j,hd,s,B,h=>by cases h;rw[eP];simp only[cA.bh,Lu hd,bg,ζb,Bool.false_eq_true,if_false]|x::a,j,hd,s,B,h=>by have⟨b,G,U⟩:=vU hd;have w:j<v.l.length:=(by simpa[len]using G);simp only[ym,ζg]at h;have⟨n,u,h⟩:=h;rw[eP];simp only[cA.bh,b,G,u,bg,ζb,if_true,wrap_small j Zaa];exact ini p v J D more a (j+1) U n B h
theorem set(k:Int)(es:Sl WF)(a b:Int)(v:Sl Assign)(J:v.l.length<9223372036854775807)(D:S')(more:X'):∀(c:aX Assign)(j:Nat),v.l.drop j=c->∀s B,yg c s=some B->
 bF (λq:Zg×Int=>cA.fh k es a b v (len v) D q.1 q.2 more) (s,(j:Int))=some (.x B)
 |[],j,hd,s,B,h=>by cases h;rw[eP];simp only[cA.fh,Lu hd,bg,ζb,Bool.false_eq_true,if_false]|x::c,j,hd,s,B,h=>by have⟨d,G,U⟩:=vU hd;have w:j<v.l.length:=(by simpa[len]using G);simp only[yg,ζg]at h;have⟨i,e,n,u,h⟩:=h;rw[eP];simp only[cA.fh,d,G,e,u,bg,ζb,if_true,wrap_small j Zaa];exact set k es a b v J D more c (j+1) U n B h
theorem wQ.step{x:So}{D rest:S'}{more:X'}(h:wQ D (x::rest) more):∃B,yl D more x=some ((more|| !B.isEmpty),B)/\((more|| !B.isEmpty)=true/\wQ B rest more\/(more|| !B.isEmpty)=false/\B=[]):=by rcases h with⟨rfl,rfl⟩|⟨rfl,u,r,a⟩;exact⟨rest,by simp[yl],.inl ⟨rfl,.inl ⟨rfl,rfl⟩⟩⟩;cases D with|nil=>exact absurd rfl u|cons w D=>simp only[cons_append,List.cons.injEq]at a;obtain⟨rfl,rfl⟩:=a;refine⟨D,by simp[yl],?_⟩;cases D with|nil=>exact .inr ⟨rfl,rfl⟩|cons z C=>exact .inl ⟨rfl,.inr ⟨rfl,Zab,r,rfl⟩⟩
theorem f_(es:Sl WF)(W:es.l.length<9223372036854775807)(G:∀e∈es.l,e.assign.l.length<9223372036854775807)(more:X'):∀(a:aX WF)(j:Nat),es.l.drop j=a->∀s B,x_ (j:Int) a s=some B->∀D,wQ D (B.map eI) more->
 ∃J:S',J=[]/\(bF (λq:Zg×Int×Int×S'=>cA.bH es q.1 q.2.1 q.2.2.1 q.2.2.2 more) (s,len es,(j:Int),D)=some (.x J)\/bF (λq:Zg×Int×Int×S'=>cA.bH es q.1 q.2.1 q.2.2.1 q.2.2.2 more) (s,len es,(j:Int),D)=some (.r J))
 |[],j,hd,s,B,h,D,U=>by cases h;have:D=[]:=(by rcases U with⟨_,rfl⟩|⟨_,L,r,d⟩;rfl;cases D with|nil=>rfl|cons=>simp at d);subst this;refine⟨[],rfl,.inl ?_⟩;rw[eP];simp only[cA.bH,Lu hd,bg,ζb,Bool.false_eq_true,if_false]
 |e::a,j,hd,s,B,h,D,U=>by have⟨f,I,O⟩:=vU hd;have Z:j<es.l.length:=(by simpa[len]using I);have Q:e∈es.l:=List.mem_of_mem_drop (i:=j) (by rw[hd];exact List.mem_cons_self ..);simp only[x_,ζg,ζf]at h;obtain⟨n,L,c,b,r,d,rfl⟩:=h;have b:(dY n).bind Sl.whole=some c:=b;have⟨w,z,S⟩:=wQ.step U;have C:=wrap_small j Zaa;have z:yl D more [.int .i64 ((j+1:Nat):Int),enc c]=some ((more|| !w.isEmpty),w):=z;rw[eP];have u:=set j es (len es) j e.assign (G e Q) D more e.assign.l 0 rfl s n L;rw[show((0:Nat):Int)=0 from rfl]at u;rcases S with⟨g1,g2⟩|⟨g1,rfl⟩;have⟨T,X,Y⟩:=f_ es W G more a (j+1) O n r d w g2;refine⟨T,X,?_⟩;rw[g1]at z;simp only[cA.bH,cA.W3,f,I,u,b,z,bg,ζb,if_true,Fw.elim,C];exact Y;refine⟨[],rfl,.inr ?_⟩;rw[g1]at z;simp only[cA.bH,cA.W3,f,I,u,b,C,z,bg,ζb,if_true,if_false,Bool.false_eq_true,Fw.elim]
theorem all(p:bR)(B:aX (Int×Zg))(h:kq p=some B)(D:S')(more:X')(G:wQ D (B.map eI) more):cA D p more=some []:=by unfold kq at h;split at h;rename_i b;simp only[ζh,all_eq_true]at b;have⟨k1,k2,k3⟩:=b;simp only[ζg,ζf]at h;obtain⟨s,C,c,a,r,f,rfl⟩:=h;have a:(dY s).bind Sl.whole=some c:=a;have⟨u,w,I⟩:=wQ.step G;have d:=ini p p.vars (Ee k1) D more p.vars.l 0 rfl .nil s C;rw[show((0:Nat):Int)=0 from rfl]at d;have w:yl D more [.int .i64 0,enc c]=some ((more|| !u.isEmpty),u):=w;unfold cA cA.W1;simp only[d,ζb,Fw.elim,a,w];rcases I with⟨g1,g2⟩|⟨g1,rfl⟩;obtain⟨L,rfl,z⟩:=f_ p.events (Ee k2) (λe J=>Ee (k3 e J)) more p.events.l 0 rfl s r f u g2;rw[show((0:Nat):Int)=0 from rfl]at z;rw[g1];simp only[bg,if_true,cA.W2];rcases z with q|q<;>(rw[q];rfl);rw[g1];rfl;cases h
theorem yC{α:Type}[bD α]{a b:Sl α}(h:cg a=cg b):rows a.l=rows b.l:=by cases a<;>cases b<;>first|rfl|(simp only[cg,Sl.k,qw,V.fsl.injEq,true_and,reduceCtorEq]at h;done)|(simp only[cg,Sl.k,qw,V.fsl.injEq,true_and,reduceCtorEq]at h;exact h)
theorem Me:∀(a b:aX Var),rows a=rows b->∀s,ym a s=ym b s
 |[],[],_,_=>rfl|[],_::_,h,_=>by simp[rows]at h|_::_,[],h,_=>by simp[rows]at h|x::a,y::b,h,s=>by simp only[rows,map_cons,List.cons.injEq]at h;have c:x.init_=y.init_:=(by have:=h.1;change[V.str x.name,V.int .i64 x.init_]=[V.str y.name,V.int .i64 y.init_]at this;simpa using(List.cons.inj (List.cons.inj this).2).1);simp only[ym,c,funext (Me a b h.2)]
theorem KR:∀(a b:aX Assign),rows a=rows b->∀s,yg a s=yg b s
 |[],[],_,_=>rfl|[],_::_,h,_=>by simp[rows]at h|_::_,[],h,_=>by simp[rows]at h|x::a,y::b,h,s=>by simp only[rows,map_cons,List.cons.injEq]at h;have c:=h.1;change[V.int .i64 x.var,V.int .i64 x.value]=[V.int .i64 y.var,V.int .i64 y.value]at c;simp only[List.cons.injEq,V.int.injEq,true_and,and_true]at c;simp only[yg,c.1,c.2,funext (KR a b h.2)]
theorem Ln{x y:WF}(h:cells x=cells y):rows x.assign.l=rows y.assign.l:=by change[V.int .i64 x.kind,V.int .i64 x.peer,V.int .i64 x.message,V.int .i64 x.time,cg x.assign]=[V.int .i64 y.kind,V.int .i64 y.peer,V.int .i64 y.message,V.int .i64 y.time,cg y.assign]at h;simp only[List.cons.injEq]at h;exact yC h.2.2.2.2.1
theorem y_:∀(a b:aX WF),rows a=rows b->∀k s,x_ k a s=x_ k b s
 |[],[],_,_,_=>rfl|[],_::_,h,_,_=>by simp[rows]at h|_::_,[],h,_,_=>by simp[rows]at h|x::a,y::b,h,k,s=>by simp only[rows,map_cons,List.cons.injEq]at h;simp only[x_,KR _ _ (Ln h.1),y_ a b h.2]
theorem EK{α:Type}[bD α]{a b:aX α}(h:rows a=rows b):a.length=b.length:=by have:=congrArg List.length h;simpa[rows]using this
theorem LY:∀(a b:aX WF),rows a=rows b->(a.all λe=>qM e.assign.l.length)=b.all λe=>qM e.assign.l.length
 |[],[],_=>rfl|[],_::_,h=>by simp[rows]at h|_::_,[],h=>by simp[rows]at h|x::a,y::b,h=>by simp only[rows,map_cons,List.cons.injEq]at h;simp only[all_cons,EK (Ln h.1),LY a b h.2]
def yo(f:Y')(g:Y')(a b:So)(xs:S'):Prop:=∃(p:bR)(u:aX (Int×Zg)),g=f/\a=[]/\b=[.fptr (cells p)]/\kq p=some u/\xs=u.map eI
theorem yo.uniq{f g:Y'}{a b:So}{xs ys:S'}(h:yo f g a b xs)(k:yo f g a b ys):xs=ys:=by obtain⟨p,C,rfl,rfl,rfl,c,rfl⟩:=h;obtain⟨w,z,_,_,u,B,rfl⟩:=k;simp only[List.cons.injEq,V.fptr.injEq,and_true]at u;change[V.str p.name,cg p.vars,cg p.events]=[V.str w.name,cg w.vars,cg w.events]at u;simp only[List.cons.injEq]at u;have r1:=yC u.2.1;have r2:=yC u.2.2.1;unfold kq at c B;rw[EK r1,EK r2,LY _ _ r2,Me _ _ r1,funext (λs=>y_ _ _ r2 0 s)]at c;have e:=c.symm.trans B;cases e;rfl
end IST
end Go.VE
namespace Go.VE
open Go.Proofs.YtgnmmpchdcccbaaGreatDoor
noncomputable section
def KS(f:Y')(a b:So)(xs:S'):Prop:=trace_events_c1.yo 185 f a b xs\/IST.yo 171 f a b xs
def Sy:Sys:=⟨E,λn=>n,Af KS,Ap E,JD⟩
abbrev cL:cm:=di Sy Tx
theorem YD:Sy.prm 152=some (uU Sy.E):=by kernel_rfl
theorem XW:Sy.prm 149=some (uX Sy.E):=by kernel_rfl
theorem aaH:∃fi,E.ft 185=some fi/\zO E some fi trace_events_c1.text:=aaJ Zae
theorem JC:sR Sy Tx where
 fn f rf h:=let⟨u,a,w⟩:=EN h;⟨u,some,a,yz,w⟩
 zo f z y h:=IN h
 prm:=Kj
theorem Lj(p:bR)(B:aX (Int×Zg))(a:kq p=some B):eU Sy 171 [] [.fptr (cells p)] (B.map IST.eI):=by
 have w:Tx 171=some (tj (Tx 171)):=Cm Zae;have⟨G,z,C⟩:=EN w;have e1:ble (([]:So).length+1+[V.fptr (cells p)].length) (tj (Tx 171)).na=true:=by kernel_rfl
 have e2:(tj (Tx 171)).rs=[]:=by kernel_rfl
 have e3:Sy.E=Sb.E:=rfl;exact U0 e3 Kj (wB aaa SK) SK z yz C (Nat.le_of_ble_eq_true e1) e2 λu more D y=>IB.AJ more y u p [] (by rw[IST.all p B a u more D];rfl)
theorem DA:∀f a b xs,Sy.items f a b=some xs->eU Sy f a b xs:=by intro f a b xs h;have h:KS f a b xs:=Pk h;rcases h with h|h;obtain⟨t,u,rfl,rfl,rfl,c,rfl⟩:=h;have⟨D,w,z⟩:=aaH;exact UL Sy w yz z (Nat.le_of_ble_eq_true rfl) rfl λB more C y=>trace_events_c1.all t u c B more C y;obtain⟨p,u,rfl,rfl,rfl,c,rfl⟩:=h;exact Lj p u c
theorem A6(t:Z4)(B:aX (a_×WF))(h:kf t=some B):Sy.items 185 [] [.fptr (cells t)]=some (B.map λx:a_×WF=>[enc x.1,enc x.2]):=E7 (.inl ⟨t,B,rfl,rfl,rfl,h,rfl⟩) (λu a=>by rcases a with a|a<;>first|exact a.uniq ⟨t,B,rfl,rfl,rfl,h,rfl⟩|(have⟨_,_,a,_⟩:=a;exact absurd a (by decide)))
theorem HE(p:bR)(B:aX (Int×Zg))(h:kq p=some B):Sy.items 171 [] [.fptr (cells p)]=some (B.map λx:Int×Zg=>[enc x.1,enc x.2]):=E7 (.inr ⟨p,B,rfl,rfl,rfl,h,rfl⟩) (λu a=>by rcases a with a|a<;>first|exact a.uniq ⟨p,B,rfl,rfl,rfl,h,rfl⟩|(have⟨_,_,a,_⟩:=a;exact absurd a (by decide)))
theorem Rl:Sy.zo 4 []=some (.bool true):=C2 (MX rfl ⟨1,[],by kernel_rfl⟩)
end
end Go.VE
namespace Go.VE
noncomputable section
def wR(D:Z4)(B:a_):aY WF:=(idx D.procs B.proc).bind λu=>(idx u.events (wrap .i64 (B.index-1))).bind λw=>some w
instance aba(B:Z4)(D:a_):Fc Sy cL (wR B D):=Fc.N 102 [enc B,enc D] (bT 2 2 B (bC 10 λw _=>bC 5 λu _=>o4 1 4 0 u aZ))
namespace dX
def bH(B G p7:Int)(D:Z4)(J:a_)(a:Int):aY (Fw Int Unit a_):=(idx D.procs p7).bind λw=>bg (decide (a<(len w.events))) ((idx D.procs p7).bind λz=>(idx z.events a).bind λu=>(bg (u.kind==B) (some (u.message==G)) (some false):aY X').bind λC=>bg C (some (.r (⟨p7,wrap .i64 (a+1)⟩:a_))) (some (.n (wrap .i64 (a+1))))) (some (.x ()))
def W2(B J p7 a:Int)(D:Z4)(G:a_):aY (Fw Int Unit a_):=(bF (λq:Int=>bH B J p7 D G q) a).bind (Fw.elim (λe=>some (.n (wrap .i64 (p7+1)))) (λe=>some (.r e)))
def bh(B J:Int)(D:Z4)(G:a_)(p7:Int):aY (Fw Int Unit a_):=bg (decide (p7<(len D.procs))) (W2 B J p7 0 D G) (some (.x ()))
def W1(B J p7:Int)(D:Z4)(G:a_):aY a_:=(bF (λq:Int=>bh B J D G q) p7).bind (Fw.elim (λe=>some ⟨0,0⟩) (λe=>some e))
end dX
def dX(D:Z4)(B G:Int):aY a_:=dX.W1 B G 0 D (⟨0,0⟩:a_)
open dX in
instance Zr(D:Z4)(B G:Int):Fc Sy cL (dX D B G):=Fc.M 66 [enc D,.int .i64 B,.int .i64 G] (bT 2 3 D (dx 11 (λu=>(bE [Iv 1 B,Iv 2 G,Pv 3,Pv 6,Iv 7 u] [Xb 3 D,Xb 6 (⟨0,0⟩:a_)])) (λw=>(0,(bE [Pv 6] [Xb 6 (⟨0,0⟩:a_)]))) (λw=>(bE [Pv 6] [Xb 6 w])) (λu=>bQ 7 D.procs (bp 3 14 (dx 12 (λC=>(bE [Iv 1 B,Iv 2 G,Pv 3,Pv 6,Iv 7 u,Iv 8 C] [Xb 3 D,Xb 6 (⟨0,0⟩:a_)])) (λz=>(2,(bE [Iv 1 B,Iv 2 G,Pv 3,Pv 6,Iv 7 u] [Xb 3 D,Xb 6 (⟨0,0⟩:a_)]))) (λz=>(bE [Pv 6] [Xb 6 z])) (λC=>bC 8 λI _=>bQ 2 I.events (bp 3 25 (bC 10 λL _=>bC 3 λJ _=>o4 2 9 0 J (bG 9 5 [9,41] 46 (bp 9 41 (bq 5) (bq 5)) λO=>bp 2 46 aZ aZ)) aZ)) (λz=>aZ) (λz=>aZ)) aZ)) (λw=>aZ) (λw=>aZ)))
namespace d_
def J1(B:Sl a_)(D:Z4)(G:a_):aY (Sl a_):=(wR D G).bind λu=>bg (u.kind==3) ((dX D 2 u.message).bind λw=>(fu B (w:a_)).bind λz=>some z) (some B)
end d_
def d_(D:Z4)(B:a_):aY (Sl a_):=bg (decide (B.index>1)) (d_.J1 (Sl.row [⟨B.proc,wrap .i64 (B.index-1)⟩]:Sl a_) D B) (d_.J1 (Sl.nil:Sl a_) D B)
open d_ in
theorem BE(D:Z4)(B:a_):Le ((d_ D B).bind λr=>some (cK r)) (bZ Sy cL (B0 (tr Tx 103)) (.rc (tb Tx 103),[],start ([enc D,enc B].map .v) [])):=bT 2 2 D (bp 17 9 (VV 10 17 18 .bO (⟨B.proc,wrap .i64 (B.index-1)⟩:a_) (qi 5 (bu 4 λu _=>o4 1 6 0 u (bp 10 24 (bu 6 λw _=>nL 1 2005 30 31 λz _=>aZ) aZ)))) (qi 5 (bu 4 λu _=>o4 1 6 0 u (bp 10 24 (bu 6 λw _=>nL 1 2005 30 31 λz _=>aZ) aZ))))
def qH(a:a_->aY (Sl a_)):aX (aX X')×aX a_->aY (Fw (aX (aX X')×aX a_) (aX (aX X')) Empty)
 |(out,[])=>some (.x out)|(out,y::rest)=>if 0<=y.proc/\0<=y.index then(out[y.proc.toNat]?).bind λrow=>(row[y.index.toNat]?).bind λb=>bg b (some (.n (out,rest))) ((a y).bind λmore=>if rest.length+more.l.length<=2147483648 then some (.n (out.set y.proc.toNat (row.set y.index.toNat true),rest++more.l))else none)else none
def iK(t:Z4):aX (aX X'):=t.procs.l.map λP=>replicate (P.events.l.length+1) false
def CQ(t:Z4):X':=decide (t.procs.l.length<=2147483648)&&t.procs.l.all λP=>decide (P.events.l.length+1<=2147483648)
def nested(out:aX (aX X')):Sl (Sl X'):=if out=[]then .nil else .row (out.map .row)
def pT(t:Z4)(x:a_):aY (Sl (Sl X')):=if CQ t then(d_ t x).bind λs=>(bF (qH (d_ t)) (iK t,s.l)).bind (Fw.elim (λout=>some (nested out)) (λe=>elim e))else none
end
namespace pastX
abbrev zF:Nat->FuncId:=λn=>n
def r1:R0:=[o2 2 (.a .box) [0] [],o2 3 (.a .box) [1] [],o1 4 (.k (.bO)) []]
def r2:R0:=[o1 5 (.k (.bO)) []]
def r3:R0:=[o1 6 (.k (.int .i64 0)) []]
def r4:R0:=[o1 11 6 [],o2 12 (fa 0) [2] [],o2 13 (ld 1) [12] [],o2 14 ln [13] [],o2 15 (bI .lss) [11,14] []]
def r5:R0:=[o1 18 5 [],o2 19 (fa 0) [2] [],o2 20 (ld 1) [19] [],o1 21 6 [],o2 22 (ix 3) [20,21] [],o2 23 (fa 2) [22] [],o2 24 (ld 1) [23] [],o2 25 ln [24] [],o2 26 (bI .add) [25,.k (.int .i64 1)] [],o2 27 (.a (.makeSl 1 [.bool false])) [26,26] [],o2 28 (.a (.buildSl 1 1 [.bO] [0])) [27] [],o2 29 (.l (.append 1)) [18,28] [],o1 5 29 []]
def r6:R0:=[o1 16 6 [],o2 17 (bI .add) [16,.k (.int .i64 1)] [],o1 6 17 []]
def L1:RC:=.seq (.seq (.ops r4) (.cond (.s 15) (.skip) (.exit 0))) (.seq (.block 1 (.ops r5)) (.ops r6))
def r7:R0:=[o2 30 (lD 1) [2] [],o2 31 (lD 2) [3] [],o2 32 .c [.f 103,30,31] [],o1 7 32 []]
def r8:R0:=[o1 33 7 [],o2 34 ln [33] [],o2 35 (bI .gtr) [34,.k (.int .i64 0)] []]
def r9:R0:=[o1 36 7 [],o2 37 (ix 2) [36,.k (.int .i64 0)] [],o2 38 (lD 2) [37] [],o2 8 (.a (.alloc 2 [.int .i64 0,.int .i64 0])) [] [],oz (su 2) [8,38] []]
def Cp:R0:=[o1 39 7 [],o2 40 (.p (.slice 2 true false)) [39,.k (.int .i64 1)] [],o1 7 40 []]
def CN:R0:=[o1 41 5 [],o2 42 (fa 0) [8] [],o2 43 (ld 1) [42] [],o2 44 (ix 1) [41,43] [],o2 45 (ld 1) [44] [],o2 46 (fa 1) [8] [],o2 47 (ld 1) [46] [],on 48 (ix 1) [45,47] [],on 49 (ld 1) [48] []]
def CC:R0:=[o1 50 5 [],o2 51 (fa 0) [8] [],o2 52 (ld 1) [51] [],o2 53 (ix 1) [50,52] [],o2 54 (ld 1) [53] [],o2 55 (fa 1) [8] [],o2 56 (ld 1) [55] [],on 57 (ix 1) [54,56] [],oy (su 1) [57,.k (.bool true)] []]
def Cs:R0:=[o2 58 (lD 1) [2] [],o2 59 (lD 2) [8] [],o2 60 .c [.f 103,58,59] [],o1 9 60 []]
def BS:R0:=[o1 10 (.k (.int .i64 0)) []]
def Cw:R0:=[o1 61 10 [],o1 62 9 [],o2 63 ln [62] [],o2 64 (bI .lss) [61,63] []]
def r16:R0:=[o1 67 7 [],o1 68 9 [],o1 69 10 [],o2 70 (ix 2) [68,69] [],o2 71 (lD 2) [70] [],o2 72 (.a (.buildSl 2 1 [.int .i64 0,.int .i64 0] [0])) [71] [],o2 73 (.l (.append 2)) [67,72] [],o1 7 73 []]
def Lh:R0:=[o1 65 10 [],o2 66 (bI .add) [65,.k (.int .i64 1)] [],o1 10 66 []]
def L3:RC:=.seq (.seq (.ops Cw) (.cond (.s 64) (.skip) (.exit 4))) (.seq (.block 5 (.ops r16)) (.ops Lh))
def L2:RC:=.seq (.seq (.ops r8) (.cond (.s 35) (.skip) (.exit 2))) (.block 3 (.seq (.ops r9) (.seq (.ops Cp) (.seq (.seq (.rK CN) (.cond (.s 49) (.exit 3) (.skip))) (.seq (.rK CC) (.seq (.ops Cs) (.seq (.ops BS) (.block 4 (.loop L3)))))))))
def r18:R0:=[o1 74 5 [],o1 4 74 []]
def code:RC:=.seq (.ops r1) (.seq (.ops r2) (.seq (.seq (.ops r3) (.block 0 (.loop L1))) (.seq (.ops r7) (.seq (.block 2 (.loop L2)) (.seq (.ops r18) (.ret))))))
abbrev yH:=Go.Proofs.YtgnmmpchdcccbaaGreatDoor.E
def lF(out:aX (aX X')):S':=out.map λr=>r.map V.bool
theorem shape:∃fi,yH.ft (zF 78)=some fi/\bS ⟨yH,some,fi.ntmps⟩ false fi.body=some code/\2<=fi.ntmps/\fi.results=[.tmp 4]:=by
 have h:((yH.ft (zF 78)).map λfi=>(bS ⟨yH,some,fi.ntmps⟩ false fi.body,ble 2 fi.ntmps,fi.results))=some (some code,true,[.tmp 4]):=by kernel_rfl
 have⟨fi,a,u⟩:=ζf.1 h;simp only[ζc]at u;exact⟨fi,a,u.1,Nat.le_of_ble_eq_true u.2.1,u.2.2⟩
section
variable{E:Env}{N:Nat->Y'}{t:Z4}{x:a_}{k:Nat}{F:WP}{H H1:bn}{call:dK}{b:aY Nat}
theorem Dv{o:RO}{l:R0}{v:V}{r:WP×bn}(a:o.gd=none)(c:iI E N call b o.now o.k (o.az.map (eB N F)) H=some (v,H1))(h:cE E N call b l (iM F o.dst v) H1=some r):cE E N call b (o::l) F H=some r:=by simp[cE,a,c];omega
theorem vp{o:RO}{l:R0}{v:V}{r:WP×bn}(a:o.gd=none)(c:iI E N call b o.now o.k (o.az.map (eB N F)) H=some (v,H))(h:cE E N call b l (iM F o.dst v) H=some r):cE E N call b (o::l) F H=some r:=Dv a c h
theorem tW:cE E N call b [] F H=some (F,H):=rfl
theorem T9{α:Type}[bD α](s:Sl α):oZ (cg s)=some (.int .i64 s.l.length):=H9 (N:=λn=>n) s
theorem cT(t:Z4):cells t=[cg t.procs]:=rfl
theorem cP(P:bR):cells P=[.str P.name,cg P.vars,cg P.events]:=rfl
theorem cY(y:a_):cells y=[.int .i64 y.proc,.int .i64 y.index]:=rfl
theorem acW{s:Sl bR}{p:bR}{i:Nat}(h:s.l[i]?=some p):nJ 3 (cg s) (i:Int)=some (.fptr (cells p)):=by have:=G4 (N:=λn=>n) s .i64 i 3 rfl;simp[bN]at this;rw[this,show idx s i=some p from by unfold idx;grind];rfl
attribute [local simp] T9 cT cP cY Ob.rows mk cE iI eB bN iM ni nD nj rD kN fP V.cells V.one Mk.val cut eE ey
theorem x4(a:get F 2=.hptr 0 0 0)(f6:get F 6=.int .i64 k)(b:H[0]?=some (.row 1 [cells t])):
 ∃F',cE E N call none r4 F H=some (F',H)/\get F' 15=.bool (decide (k<t.procs.l.length))/\(∀s,s<11->get F' s=get F s):=by
 refine⟨_,by simp[r4,a,f6,b];rfl,Zab,?_⟩
 simp;grind
theorem Al{n:Nat}(h:n<=2147483648):wrap .i64 ((n:Int)+1)=((n+1:Nat):Int):=by simp[wrap,IntKind.bits];omega
theorem x5{P:bR}{o:Nat}{ids:ST}{rows:S'}(a:get F 2=.hptr 0 0 0)(f6:get F 6=.int .i64 k)(b:H[0]?=some (.row 1 [cells t]))(B:t.procs.l[k]?=some P)(G:P.events.l.length+1<=2147483648)
 (D:ov H (get F 5) o ids rows)(c:rows.length+1<=2147483648):
 ∃F' H',cE E N call none r5 F H=some (F',H')/\ov H' (get F' 5) (H.length+2) (ids++[H.length]) (rows++[replicate (P.events.l.length+1) (.bool false)])/\H.length<=H'.length/\(∀id,id<H.length->id≠o\/rows=[]->H'[id]?=H[id]?)/\(∀s,s<11->s≠5->get F' s=get F s):=by
 have⟨H',p1,p2,p3,p4⟩:=D.push (replicate (P.events.l.length+1) (.bool false)) c;have z:=Al (n:=P.events.l.length) Zaa
 have u:(P.events.l.length:Int)+1<=2147483648:=Zaa
 have w:(0:Int)<=(P.events.l.length:Int)+1:=Zaa
 simp[kZ]at p1;refine⟨_,H',by simp[r5,a,f6,b,acW B,z,w,u,p1];rfl,by simpa using p2,p3,p4,λs C I=>?_⟩
 simp
 repeat (rw[if_neg Zaa])
theorem x6(f6:get F 6=.int .i64 k)(a:k<=2147483648):∃F',cE E N call none r6 F H=some (F',H)/\get F' 6=.int .i64 ((k+1:Nat):Int)/\(∀s,s<11->s≠6->get F' s=get F s):=by refine⟨_,by simp[r6,f6];rfl,by simp[Al a],?_⟩;simp;grind
end
structure P1(t:Trace)(x:a_)(k:Nat)(F:Frame)(H:bn):Prop where
 f2:get F 2=.hptr 0 0 0
 f3:get F 3=.hptr 1 0 0
 f6:get F 6=.int .i64 k
 h0:H[0]?=some (.row 1 [cells t])
 h1:H[1]?=some (.row 2 [cells x])
 ns:∃o ids,ov H (get F 5) o ids (lF ((iK t).take k))/\(k≠0->2<=o)/\∀id∈ids,2<=id
theorem zd(out:aX (aX X')):(lF out).length=out.length:=by simp[lF]
theorem Pw{E:Env}{N:Nat->Y'}{t:Z4}{x:a_}(J:CQ t=true):∀(m k:Nat)(F:WP)(H:bn),k+m=t.procs.l.length->P1 t x k F H->∃F' H',nZ E N L1 F H (.exit 0) F' H'/\P1 t x t.procs.l.length F' H':=by
 have B:t.procs.l.length<=2147483648/\∀P∈t.procs.l,P.events.l.length+1<=2147483648:=by simpa[CQ]using J
 intro m;induction m with|zero=>intro k F H a p;have C:k=t.procs.l.length:=Zaa;obtain⟨F1,e1,e2,e3⟩:=x4 (E:=E) (call:=⟨0,λ_ _ _=>none⟩) p.f2 p.f6 p.h0;refine⟨F1,H,nZ.stop (Ex.wj (Ex.seq (Ex.dn λc=>?_) (Ex.rQ ?_ Ex.exit)) Zab) Zab,?_⟩;have:cE E N c none r4 F H=cE E N ⟨0,λ_ _ _=>none⟩ none r4 F H:=rfl;exact e1;show get F1 15=_;rw[e2];simp[C];subst C;exact⟨by rw[e3 2 Zaa];exact p.f2,by rw[e3 3 Zaa];exact p.f3,by rw[e3 6 Zaa];exact p.f6,p.h0,p.h1,by rw[e3 5 Zaa];exact p.ns⟩|succ m Z=>
  intro k F H a p;have w:k<t.procs.l.length:=Zaa;obtain⟨o,ids,U,b,d⟩:=p.ns;obtain⟨F1,e1,e2,e3⟩:=x4 (E:=E) (N:=N) (call:=⟨0,λ_ _ _=>none⟩) p.f2 p.f6 p.h0;have W:=ζd w;have D:((iK t).take k).length=k:=by simp[iK];omega
  have I:ov H (get F1 5) o ids (lF ((iK t).take k)):=by rw[e3 5 Zaa];exact U
  obtain⟨g,H2,g1,g2,g3,g4,g5⟩:=x5 (E:=E) (N:=N) (call:=⟨0,λ_ _ _=>none⟩) (by rw[e3 2 Zaa];exact p.f2) (by rw[e3 6 Zaa];exact p.f6) p.h0 W (B.2 _ (List.getElem_mem w)) I (by rw[zd,D];omega);obtain⟨X,e,f,L⟩:=x6 (E:=E) (N:=N) (call:=⟨0,λ_ _ _=>none⟩) (H:=H2) (by rw[g5 6 Zaa Zaa,e3 6 Zaa];exact p.f6) Zaa;have Y:=U.lt;have O:=(ζe.1 p.h0).1;have Q:=(ζe.1 p.h1).1;have u:∀i,i<2->i<H.length->H2[i]?=H[i]?:=λi j Y=>g4 i Y (by
   by_cases G:k=0
   .subst G;right;simp[lF]
   left;have:=b G;omega)
  have S:P1 t x (k+1) X H2:=by
   refine⟨by rw[L 2 Zaa Zaa,g5 2 Zaa Zaa,e3 2 Zaa];exact p.f2,by rw[L 3 Zaa Zaa,g5 3 Zaa Zaa,e3 3 Zaa];exact p.f3,f,
    by rw[u 0 Zaa O];exact p.h0,by rw[u 1 Zaa Q];exact p.h1,H.length+2,ids++[H.length],?_,λ_=>Zaa,λid T=>?_⟩
   rw[L 5 Zaa Zaa];have z:lF ((iK t).take (k+1))=lF ((iK t).take k)++[replicate (t.procs.l[k].events.l.length+1) (.bool false)]:=by rw[List.take_add_one];have:(iK t)[k]?=some (replicate (t.procs.l[k].events.l.length+1) false):=(by simp[iK,W]);rw[this];simp[lF]
   rw[z];exact g2;rcases List.mem_append.1 T with h|h;exact d id h;simp at h;omega
  obtain⟨F',H',r1,r2⟩:=Z (k+1) X H2 Zaa S;refine⟨F',H',nZ.step (Ex.seq (Ex.seq (Ex.dn λc=>e1) (Ex.o7 ?_ Ex.skip)) (Ex.seq (Ex.block (Ex.dn λc=>g1)) (Ex.dn λc=>e))) r1,r2⟩;show get F1 15=_;rw[e2];simp[w]
section
attribute [local simp] T9 cT cP cY Ob.rows mk cE iI eB bN iM ni nD nj rD kN fP V.cells V.one Mk.val cut eE ey
variable{E:Env}{N:Nat->Y'}{t:Z4}{x y:a_}{F:WP}{H:bn}{call:dK}
theorem x8{l:S'}{id:Nat}(h:lX H (get F 7) l id):∃F',cE E N call none r8 F H=some (F',H)/\get F' 35=.bool (decide (0<l.length))/\(∀s,s<11->get F' s=get F s):=by refine⟨_,by simp[r8,h.len];rfl,Zab,?_⟩;simp;grind
theorem x9{l:S'}{id:Nat}(h:lX H (get F 7) (cells y::l) id):∃F',cE E N call none r9 F H=some (F',H++[.row 2 [cells y]])/\get F' 8=.hptr H.length 0 0/\(∀s,s<11->s≠8->get F' s=get F s):=by have⟨p,p1,p2⟩:=h.get (i:=0) rfl;simp at p1 p2;refine⟨_,by simp[r9,p1,p2,fW];rfl,Zab,?_⟩;simp;grind
theorem x10{c:So}{l:S'}{id:Nat}(h:lX H (get F 7) (c::l) id):∃F',cE E N call none Cp F H=some (F',H)/\lX H (get F' 7) l id/\(∃off m B,get F 7=.hsl id 2 off m/\get F' 7=.hsl id 2 B l.length)/\(∀s,s<11->s≠7->get F' s=get F s):=by have⟨w',p1,p2,off,m,B,p3,p4⟩:=h.tail;refine⟨_,by simp[Cp,ot,p1];rfl,by simpa using p2,⟨off,m,B,p3,by simpa using p4⟩,?_⟩;simp;grind
theorem EC(H:bn):H.take H.length=H:=List.take_length ..
theorem rdY{c:Nat}(a:H[c]?=some (.row 2 [cells y])):ey H (.load 1 false) [.hptr c 0 0]=some (.int .i64 y.proc)/\ey H (.load 1 false) [.hptr c 0 1]=some (.int .i64 y.index)/\ey H (.load 2 true) [.hptr c 0 0]=some (enc y):=by refine⟨?_,?_,?_⟩<;>simp[ey,eE,a,cut]<;>rfl
theorem x11{c o:Nat}{ids:ST}{rows:S'}{p j:Nat}{r:So}{u:V}(B:get F 8=.hptr c 0 0)(a:H[c]?=some (.row 2 [cells y]))(D:ov H (get F 5) o ids rows)(hp:y.proc=p)(G:y.index=j)(b:rows[p]?=some r)(d:r[j]?=some u):
 ∃F',cE E N call (some H.length) CN F H=some (F',H)/\get F' 49=u/\(∀s,s<11->get F' s=get F s):=by
 have⟨id,O,w,z,C,I⟩:=D.cell b d;have⟨J,L,_⟩:=rdY a;refine⟨_,by simp[-ey,CN,B,hp,G,J,L,w,z,C,I];rfl,Zab,?_⟩
 simp;grind
theorem x12{c o:Nat}{ids:ST}{rows:S'}{p j:Nat}{r:So}{u:V}(D:get F 8=.hptr c 0 0)(d:H[c]?=some (.row 2 [cells y]))(B:ov H (get F 5) o ids rows)(hp:y.proc=p)(G:y.index=j)(a:rows[p]?=some r)(b:r[j]?=some u):
 ∃F' H',cE E N call (some H.length) CC F H=some (F',H')/\ov H' (get F' 5) o ids (rows.set p (r.set j (.bool true)))/\H'.length=H.length/\(∀i,i∉ids->H'[i]?=H[i]?)/\(∀s,s<11->get F' s=get F s):=by
 have⟨id,w,z,C,I,U⟩:=B.cell a b;have⟨J,L,_⟩:=rdY d;have⟨H',O,Q,S,T⟩:=B.set a (ζe.1 b).1 w (u:=.bool true) rfl rfl;refine⟨_,H',by simp[-ey,CC,D,hp,G,J,L,z,C,I,O];rfl,by simpa using Q,S,λi f=>T i λe=>f (e▸mem_of_getElem? w),?_⟩
 simp;grind
def JA(E:Env)(N:Nat->Y')(t:Z4)(a:a_->aY (Sl a_)):Prop:=∀(y:a_)(s:Sl a_)(H:bn),a y=some s->∃w X id,(∃n,∀k,n<=k->gj E (run E k) (N 103) [enc t,enc y] H=some (w,H++X))/\lX (H++X) w (s.l.map cells) id/\(∀off m,w=.hsl id 2 off m->id=H.length)
theorem x13{a d:Nat}(hd:E.keep (N 103)=true){b:a_->aY (Sl a_)}(B:JA E N t b){s:Sl a_}(D:b y=some s)(f:get F 2=.hptr 0 0 0)(g:H[0]?=some (.row 1 [cells t])){c:Nat}(h:H[c]?=some (.row 2 [cells y])):
 ∃w X id,lX (H++X) w (s.l.map cells) id/\(∀off m,w=.hsl id 2 off m->id=H.length)/\
  (get F 8=.hptr c 0 0->∃F',(∃n,∀k,n<=k->cE E N (run E k) none Cs F H=some (F',H++X))/\get F' 9=w/\(∀s,s<11->s≠9->get F' s=get F s))/\
  (get F 3=.hptr c 0 0->∃F',(∃n,∀k,n<=k->cE E N (run E k) none r7 F H=some (F',H++X))/\get F' 7=w/\(∀s,s<11->s≠7->get F' s=get F s)):=by
 have⟨w,X,id,⟨n,e1⟩,e2,e3⟩:=B y s H D;rw[show enc t=.agg (cells t)from rfl,show enc y=.agg (cells y)from rfl,cT,cY]at e1;refine⟨w,X,id,e2,e3,λu=>⟨_,⟨n,λk e=>by simp[Cs,f,u,g,h,hd,e1 k e];rfl⟩,Zab,?_⟩,λi=>⟨_,⟨n,λk e=>by simp[r7,f,i,g,h,hd,e1 k e];rfl⟩,Zab,?_⟩⟩<;>
  (simp;grind)
end
section
attribute [local simp] T9 cT cP cY Ob.rows mk cE iI eB bN iM ni nD nj rD kN fP V.cells V.one Mk.val cut eE ey
variable{E:Env}{N:Nat->Y'}{F:WP}{H:bn}{call:dK}{i:Nat}
theorem Wu{l:S'}{id:Nat}(a:get F 10=.int .i64 i)(h:lX H (get F 9) l id):∃F',cE E N call none Cw F H=some (F',H)/\get F' 64=.bool (decide (i<l.length))/\(∀s,s<11->get F' s=get F s):=by refine⟨_,by simp[Cw,a,h.len];rfl,Zab,?_⟩;simp;grind
theorem x16{l D:S'}{id B:Nat}{c:So}(a:get F 10=.int .i64 i)(h:lX H (get F 7) l id)(G:lX H (get F 9) D B)(b:D[i]?=some c)(J:l.length+1<=2147483648):
 ∃F' H',cE E N call none r16 F H=some (F',H')/\lX H' (get F' 7) (l++[c]) (H.length+1)/\H'.length=H.length+2/\(∀i,i<H.length->(∀off m,get F 7=.hsl id 2 off m->i≠id)->H'[i]?=H[i]?)/\(∀s,s<11->s≠7->get F' s=get F s):=by
 have u:=G.c c (mem_of_getElem? b);have⟨p,p1,p2⟩:=G.get b;have⟨H',w,z,C,I⟩:=h.push u J;refine⟨_,H',by simp+contextual [-ey,-V.one,r16,a,p1,p2,w,u.1,all_eq_true.1 u.2];rfl,by simpa using z,C,I,?_⟩
 simp;grind
theorem x17(a:get F 10=.int .i64 i)(b:i<=2147483648):∃F',cE E N call none Lh F H=some (F',H)/\get F' 10=.int .i64 ((i+1:Nat):Int)/\(∀s,s<11->s≠10->get F' s=get F s):=by refine⟨_,by simp[Lh,a];rfl,by simp[Al b],?_⟩;simp;grind
structure P3(l l9:List (List V))(B i:Nat)(F:Frame)(H:bn):Prop where
 f10:get F 10=.int .i64 i
 t9:∃id9,lX H (get F 9) l9 id9/\∃id,lX H (get F 7) l id/\(∀off m,get F 7=.hsl id 2 off m->B<=id/\∀off' m',get F 9=.hsl id9 2 off' m'->id≠id9)
 len:B<=H.length
theorem abw(D:S')(B:Nat)(Y:D.length<=2147483648):∀(m i:Nat)(l:S')(F:WP)(H:bn),i+m=D.length->l.length+m<=2147483648->P3 l D B i F H->
 ∃F' H',nZ E N L3 F H (.exit 4) F' H'/\(∃id,lX H' (get F' 7) (l++D.drop i) id/\∀off m,get F' 7=.hsl id 2 off m->B<=id)/\(∀s,s<7->get F' s=get F s)/\(∀j,j<B->H'[j]?=H[j]?)/\H.length<=H'.length:=by
 intro m
 induction m with
 |zero=>
  intro i l F H a Z p;obtain⟨u,t9,id,t7,C⟩:=p.t9;obtain⟨F1,e1,e2,e3⟩:=Wu (E:=E) (call:=⟨0,λ_ _ _=>none⟩) p.f10 t9
  refine⟨F1,H,nZ.stop (Ex.wj (Ex.seq (Ex.dn λc=>e1) (Ex.rQ ?_ Ex.exit)) Zab) Zab,⟨id,?_,λoff m h=>?_⟩,λs T=>e3 s Zaa,λ_ _=>rfl,Nat.le_refl _⟩
  .show get F1 64=_
   grind
  .grind
  grind
 |succ m ih=>
  intro i l F H a Z p;have z:i<D.length:=Zaa
  obtain⟨u,t9,id,t7,C⟩:=p.t9;obtain⟨F1,e1,e2,e3⟩:=Wu (E:=E) (call:=⟨0,λ_ _ _=>none⟩) p.f10 t9
  have b:=ζd z;have G:lX H (get F1 7) l id:=Zac
  have I:lX H (get F1 9) D u:=Zac
  obtain⟨f,H2,g1,g2,g3,g4,g5⟩:=x16 (E:=E) (call:=⟨0,λ_ _ _=>none⟩) (by rw[e3 10 Zaa];exact p.f10) G I b Zaa
  obtain⟨U,d,e,J⟩:=x17 (E:=E) (call:=⟨0,λ_ _ _=>none⟩) (by rw[g5 10 Zaa Zaa,e3 10 Zaa];exact p.f10) Zaa
  have keep:∀j,j<H.length->(∀off m,get F 7=.hsl id 2 off m->j≠id)->H2[j]?=H[j]?:=λj L h=>g4 j L Zac
  have O:P3 (l++[D[i]]) D B (i+1) U H2:=by refine⟨e,⟨u,?_,H.length+1,Zac,λoff m h=>⟨by have:=p.len;omega,λw m' W=>?_⟩⟩,by have:=p.len;omega⟩;rw[J 9 Zaa Zaa,g5 9 Zaa Zaa,e3 9 Zaa];exact t9.heap λoff n X=>keep u (t9.lt X) λw m' Q=>Ne.symm ((C w m' Q).2 off n X);rw[J 9 Zaa Zaa,g5 9 Zaa Zaa,e3 9 Zaa]at W;have:=t9.lt W;omega
  obtain⟨F',H',r1,⟨S,r2,r3⟩,r4,r5,r6⟩:=ih (i+1) (l++[D[i]]) U H2 Zaa (by simp;omega) O
  refine⟨F',H',nZ.step (Ex.seq (Ex.seq (Ex.dn λc=>e1) (Ex.o7 ?_ Ex.skip)) (Ex.seq (Ex.block (Ex.dn λc=>g1)) (Ex.dn λc=>d))) r1,⟨S,?_,r3⟩,λs T=>?_,λj L=>?_,Zaa⟩
  .show get F1 64=_
   grind
  .rw[List.append_assoc]at r2;rw[List.drop_eq_getElem_cons z];exact r2
  .rw[r4 s T,J s Zaa Zaa,g5 s Zaa Zaa,e3 s Zaa]
  have:=p.len;rw[r5 j L,keep j Zaa λoff m h=>by have:=(C off m h).1;omega]
end
structure P2(t:Trace)(out:List (List Bool))(l:List a_)(F:Frame)(H:bn):Prop where
 f2:get F 2=.hptr 0 0 0
 h0:H[0]?=some (.row 1 [cells t])
 ns:∃B o ids id,ov H (get F 5) o ids (lF out)/\(out≠[]->1<=o/\o<B)/\(∀id∈ids,1<=id/\id<B)/\1<=B/\B<=H.length/\lX H (get F 7) (l.map cells) id/\∀off m,get F 7=.hsl id 2 off m->B<=id
theorem Vn(out:aX (aX X'))(p j:Nat)(row:aX X'):lF (out.set p (row.set j true))=(lF out).set p ((row.map V.bool).set j (.bool true)):=by simp[lF]
theorem Lm{out:aX (aX X')}:lF out=[]↔out=[]:=by simp[lF]
theorem Vc{a:a_->aY (Sl a_)}{out:aX (aX X')}{y:a_}{rest:aX a_}{w:Fw (aX (aX X')×aX a_) (aX (aX X')) Empty}(h:qH a (out,y::rest)=some w):
 ∃(p j:Nat)(row:aX X')(b:X'),y.proc=p/\y.index=j/\out[p]?=some row/\row[j]?=some b/\((b=true/\w=.n (out,rest))\/(b=false/\∃more,a y=some more/\rest.length+more.l.length<=2147483648/\w=.n (out.set p (row.set j true),rest++more.l))):=by
 simp only[qH]at h;split at h
 .have⟨row,h1,h⟩:=ζg.1 h;have⟨b,u,h⟩:=ζg.1 h;refine⟨y.proc.toNat,y.index.toNat,row,b,Zaa,Zaa,h1,u,?_⟩
  cases b with
  |true=>simp[bg]at h;grind|false=>
   have⟨more,z,h⟩:=ζg.1 h
   grind
 simp_all
theorem Qm{E:Env}{N:Nat->Y'}{t:Z4}{f:a_->aY (Sl a_)}(hd:E.keep (N 103)=true)(hD:JA E N t f):∀(k:Nat)(out:aX (aX X'))(l:aX a_)(D:aX (aX X'))(F:WP)(H:bn),
 kU (qH f) k (out,l)=some (.x D)->P2 t out l F H->∃F' H',nZ E N L2 F H (.exit 2) F' H'/\P2 t D [] F' H':=by
 intro k
 induction k with
 |zero=>intro out l D F H h;simp[kU]at h|succ k ih=>
  intro out l D F H h p;have⟨B,o,ids,id,n1,n2,Y,n4,n5,t7,t8⟩:=p.ns;have⟨F1,e1,e2,e3⟩:=x8 (E:=E) (N:=N) (call:=⟨0,λ_ _ _=>none⟩) t7
  rw[List.length_map]at e2
  cases l with
  |nil=>
   simp only[kU,qH]at h;cases h;refine⟨F1,H,nZ.stop (Ex.wj (Ex.seq (Ex.dn λc=>e1) (Ex.rQ ?_ Ex.exit)) Zab) Zab,?_⟩
   .show get F1 35=_;rw[e2];simp
   exact⟨by rw[e3 2 Zaa];exact p.f2,p.h0,B,o,ids,id,by rw[e3 5 Zaa];exact n1,n2,Y,n4,n5,by rw[e3 7 Zaa];exact t7,by rw[e3 7 Zaa];exact t8⟩
  |cons y rest=>
   simp only[kU]at h
   cases J:qH f (out,y::rest)with
   |none=>rw[J]at h;cases h|some w=>
   rw[J]at h;have⟨q,j,row,b,hq,hj,u,hb,L⟩:=Vc J;have O:lX H (get F1 7) (cells y::rest.map cells) id:=by rw[e3 7 Zaa];exact t7
   have⟨F2,g1,g2,g3⟩:=x9 (E:=E) (N:=N) (call:=⟨0,λ_ _ _=>none⟩) O
   have aa:lX (H++[.row 2 [cells y]]) (get F2 7) (cells y::rest.map cells) id:=by rw[g3 7 Zaa Zaa];exact O.more _
   have⟨r,i1,i2,⟨G,m1,ab,i3,i4⟩,K⟩:=x10 (E:=E) (N:=N) (call:=⟨0,λ_ _ _=>none⟩) aa
   have Q:(H++[Ob.row 2 [cells y]])[H.length]?=some (.row 2 [cells y]):=Zab
   have M:get r 8=.hptr H.length 0 0:=by rw[K 8 Zaa Zaa];exact g2
   have f5:get r 5=get F 5:=by rw[K 5 Zaa Zaa,g3 5 Zaa Zaa,e3 5 Zaa]
   have P:get r 2=.hptr 0 0 0:=by rw[K 2 Zaa Zaa,g3 2 Zaa Zaa,e3 2 Zaa];exact p.f2
   have S:ov (H++[.row 2 [cells y]]) (get r 5) o ids (lF out):=by rw[f5];exact n1.more _
   have hr:(lF out)[q]?=some (row.map V.bool):=by simp[lF,u]
   have hu:(row.map V.bool)[j]?=some (.bool b):=by simp[hb]
   have T:B<=id:=by have:get F 7=.hsl id 2 G m1:=(by rw[<-i3,g3 7 Zaa Zaa,e3 7 Zaa]);exact t8 _ _ this
   have⟨R,j1,j2,z⟩:=x11 (E:=E) (N:=N) (call:=⟨0,λ_ _ _=>none⟩) M Q S hq hj hr hu
   have ad:eB N F1 (.s 35)=.bool true:=by show get F1 35=_;rw[e2];simp
   rcases L with⟨rfl,rfl⟩|⟨rfl,more,v,aq,rfl⟩
   .simp only at h;have U:P2 t out rest R (H++[.row 2 [cells y]]):=by
     refine⟨by rw[z 2 Zaa];exact P,by rw[List.getElem?_append_left (ζe.1 p.h0).1];exact p.h0,B,o,ids,id,by rw[z 5 Zaa];exact S,n2,Y,n4,by simp;omega,by rw[z 7 Zaa];exact i2,λoff m _=>T⟩
    have⟨F',H',r1,r2⟩:=ih out rest D R _ h U;exact⟨F',H',nZ.step (Ex.seq (Ex.seq (Ex.dn λc=>e1) (Ex.o7 ad Ex.skip)) (Ex.w8 (Ex.seq (Ex.dn λc=>g1) (Ex.seq (Ex.dn λc=>i1) (Ex.wj (Ex.seq (Ex.rK rfl λc=>j1) (Ex.o7 j2 Ex.exit)) Zab))))) r1,r2⟩
   simp only at h;have n6:ov (H++[.row 2 [cells y]]) (get R 5) o ids (lF out):=by rw[z 5 Zaa];exact S
   have⟨F5,C,k1,k2,k3,k4,k5⟩:=x12 (E:=E) (N:=N) (call:=⟨0,λ_ _ _=>none⟩) (by rw[z 8 Zaa];exact M) Q n6 hq hj hr hu
   have I:∀i,B<=i->i∉ids:=λi hi v=>by have:=(Y i v).2;omega
   have ah:C[H.length]?=some (.row 2 [cells y]):=by rw[k4 _ (I _ n5)];exact Q
   have W:C[0]?=some (.row 1 [cells t]):=by rw[k4 0 (λv=>by have:=(Y 0 v).1;omega),List.getElem?_append_left (ζe.1 p.h0).1];exact p.h0
   have⟨w9,X,ai,aj,m2,m3,_⟩:=x13 (a:=0) (d:=0) (F:=F5) hd hD v (by rw[k5 2 Zaa,z 2 Zaa];exact P) W ah
   have⟨Z,⟨nn,ak⟩,ae,o3⟩:=m3 (by rw[k5 8 Zaa,z 8 Zaa];exact M)
   have au:C.length=H.length+1:=by rw[k3];simp
   have i7:get Z 7=.hsl id 2 ab (rest.map cells).length:=by rw[o3 7 Zaa Zaa,k5 7 Zaa,z 7 Zaa];exact i4
   have ar:id<H.length:=by have:=O.lt (off:=G) (m:=m1) (by rw[<-i3,g3 7 Zaa Zaa]);exact this
   have t6:lX (C++X) (get Z 7) (rest.map cells) id:=by have:get Z 7=get r 7:=(by rw[o3 7 Zaa Zaa,k5 7 Zaa,z 7 Zaa]);rw[this];refine(i2.heap (H':=C) λoff n _=>k4 id (I id T)).more X
   have al:∃g,(∀c,cE E N c none BS Z (C++X)=some (g,C++X))/\get g 10=.int .i64 ((0:Nat):Int)/\∀s,s<10->get g s=get Z s:=⟨set Z 10 (.int .i64 0),λc=>by simp[BS,cE,iI,eB,bN,iM],Zab,λs hs=>by rw[ni,if_neg Zaa]⟩
   have⟨g,u1,u2,x⟩:=al;have am:P3 (rest.map cells) (more.l.map cells) B 0 g (C++X):=by refine⟨u2,⟨ai,by rw[x 9 Zaa,ae];exact aj,id,by rw[x 7 Zaa];exact t6,λoff m hh=>⟨T,λaf m' h'=>?_⟩⟩,by simp;omega⟩;rw[x 9 Zaa,ae]at h';have:=m2 af m' h';omega
   have⟨A,H8,v1,⟨an,v2,v3⟩,v4,v5,v6⟩:=abw (E:=E) (N:=N) (more.l.map cells) B (by simp;omega) (more.l.map cells).length 0 (rest.map cells) g (C++X) Zaa (by simp;omega) am
   have ao:ov H8 (get A 5) o ids (lF (out.set q (row.set j true))):=by have h5:get A 5=get F5 5:=(by rw[v4 5 Zaa,x 5 Zaa,o3 5 Zaa Zaa]);rw[h5,Vn];refine(k2.more X).heap (λap=>v5 o ?_) λi hi=>v5 i (Y i hi).2;have:out≠[]:=(by intro e;subst e;simp at u);exact(n2 this).2
   have U:P2 t (out.set q (row.set j true)) (rest++more.l) A H8:=by refine⟨by rw[v4 2 Zaa,x 2 Zaa,o3 2 Zaa Zaa,k5 2 Zaa,z 2 Zaa];exact P,?_,B,o,ids,an,ao,λap=>n2 (by intro e;subst e;simp at u),Y,n4,by simp at v6;omega,?_,v3⟩;rw[v5 0 Zaa,List.getElem?_append_left (ζe.1 W).1];exact W;rw[List.drop_zero]at v2;rw[map_append];exact v2
   have⟨F',H',w1,w2⟩:=ih _ _ D A H8 h U;exact⟨F',H',nZ.step (Ex.seq (Ex.seq (Ex.dn λc=>e1) (Ex.o7 ad Ex.skip)) (Ex.block (Ex.seq (Ex.dn λc=>g1) (Ex.seq (Ex.dn λc=>i1) (Ex.seq (Ex.seq (Ex.rK rfl λc=>j1) (Ex.rQ j2 Ex.skip)) (Ex.seq (Ex.rK rfl λc=>k1)
    (Ex.seq (Ex.ops ⟨nn,ak⟩) (Ex.seq (Ex.dn u1) (Ex.w8 (Ex.loop v1)))))))))) w1,w2⟩
theorem VW{H:bn}{Z:Nat->Prop}{id:Nat}{r:aX X'}(D:Z id)(h:H[id]?=some (.row 1 (kZ (r.map V.bool)))):FR H Z (enc (Sl.row r)) (.hsl id 1 0 r.length):=by
 have e:br H id=some (1,kZ (r.map V.bool)):=by simp[br,h,Ob.rows]
 have C:enc (Sl.row r)=.fsl 1 (rows r):=rfl;have G:(rows r).length=r.length:=by simp[rows]
 have f:kZ (r.map V.bool)=rows r:=by simp[kZ,rows,Function.comp_def]
 rw[f]at e;rw[C,<-G];refine .fsl 1 (rows r) id 0 (rows r) D e Zaa (λi a b d w=>?_) (λi j a b u v d w z B=>?_);grind;rw[zero_add,d]at w;cases w;rw[z]at B;cases B;refine .same u ?_;obtain⟨c,I,rfl⟩:∃c∈r,a=[V.bool c]:=by have:=mem_of_getElem? d;simp only[rows,mem_map]at this;obtain⟨c,f,rfl⟩:=this;simp_all
 have:=mem_of_getElem? z;simp at this;subst this;rfl
theorem Un{H:bn}{w:V}{o:Nat}{ids:ST}{out:aX (aX X')}(n:ov H w o ids (lF out)):∃Z,FR H Z (enc (nested out)) w/\(∀id,Z id->(br H id).isSome=true)/\Deep H Z:=by
 have g:=n.v;by_cases O:out=[];subst O;rw[if_pos (show lF []=[]from rfl)]at g;subst g;exact⟨λ_=>False,.same _ rfl,λ_ h=>h.elim,⟨λ_ _ _ h=>h.elim⟩⟩;have G:lF out≠[]:=λh=>O (Lm.1 h);rw[if_neg G,zd]at g;subst g;have Q:=n.ob G;have I:=n.len;rw[zd]at I;have B:∀(i id:Nat)(r:aX X'),ids[i]?=some id->out[i]?=some r->H[id]?=some (.row 1 (kZ (r.map V.bool))):=λi id r e D=>n.r i id _ e (by simp[lF,D]);have C:∀(i:Nat)(c:So),(refs ids (lF out))[i]?=some c->∃id r,ids[i]?=some id/\out[i]?=some r/\c=[.hsl id 1 0 r.length]:=λi c h=>by have f:=(ζe.1 h).1;rw[vS n.len,zd]at f;have e:=ζd (show i<ids.length from Zaa);have D:=ζd f;have S:=Ey (rows:=lF out) (r:=out[i].map V.bool) e (by simp[lF,D]);grind
 have J:br H o=some (1,refs ids (lF out)):=by simp[br,Q,Ob.rows]
 have L:∀id∈ids,∃(r:aX X'),H[id]?=some (.row 1 (kZ (r.map V.bool))):=λid z=>by have⟨i,f⟩:=List.getElem?_of_mem z;have T:=(ζe.1 f).1;exact⟨_,B i id _ f (ζd (show i<out.length from Zaa))⟩
 refine⟨λid=>id=o\/id∈ids,?_,λid h=>?_,⟨λid es ys h d c hc u hu=>?_⟩⟩;have Y:enc (nested out)=.fsl 1 (rows (out.map Sl.row)):=by rw[nested,if_neg O];rfl
 have T:(rows (out.map Sl.row)).length=out.length:=by simp[rows]
 rw[Y,<-T];refine .fsl 1 _ o 0 (refs ids (lF out)) (.inl rfl) J (by rw[T,vS n.len,zd];omega) (λi a b e D=>?_) (λi j a b u v e D S X=>?_);rw[zero_add]at D;obtain⟨id,r,_,d,rfl⟩:=C i b D;simp[rows,d]at e;subst e;rfl;rw[zero_add]at D;obtain⟨id,r,z,d,rfl⟩:=C i b D;have k:a=[enc (Sl.row r)]:=by simp[rows,d]at e;exact e.symm
 subst k;cases j with|zero=>simp at S X;subst S X;exact VW (.inr (mem_of_getElem? z)) (B i id r z d)|succ j=>simp_all
 rcases h with rfl|h;simp_all;have⟨r,d⟩:=L id h;simp[br,d,Ob.rows];rcases h with rfl|h;rw[J]at d;cases d;have⟨i,f⟩:=List.getElem?_of_mem hc;obtain⟨id,r,z,U,rfl⟩:=C i c f;simp at hu;subst hu;exact⟨_,VW (.inr (mem_of_getElem? z)) (B i id r z U)⟩;have⟨r,W⟩:=L id h;have:br H id=some (1,kZ (r.map V.bool)):=by simp[br,W,Ob.rows]
 rw[this]at d;cases d;simp only[kZ,mem_map]at hc;obtain⟨_,⟨c',_,rfl⟩,rfl⟩:=hc;simp at hu;subst hu;exact⟨_,.same _ rfl⟩
theorem Yx{t:Z4}{x:a_}{out:aX (aX X')}{s:Sl a_}{b:a_->aY (Sl a_)}(hd:yH.keep (zF 103)=true)(W:JA yH zF t b)(U:CQ t=true)(g:b x=some s)(j:bF (qH b) (iK t,s.l)=some (.x out)):
 CI yH (zF 78) [enc t,enc x] (enc (nested out)):=by
 have⟨fi,g1,g2,g3,g4⟩:=shape;have⟨k,l⟩:=qz.1 j;have p:∃F1,(∀c,cE yH zF c none r1 [enc t,enc x] []=some (F1,[.row 1 [cells t],.row 2 [cells x]]))/\get F1 2=.hptr 0 0 0/\get F1 3=.hptr 1 0 0:=by refine⟨_,λc=>Dv (v:=.hptr 0 0 0) (H1:=[.row 1 [cells t]]) rfl ?_<|Dv (v:=.hptr 1 0 0) (H1:=[.row 1 [cells t],.row 2 [cells x]]) rfl ?_<|vp (v:=.bO) rfl ?_ tW,?_,?_⟩;show(kN .box [enc t]).map _=_;simp only[kN,mI,s9,if_true,Option.map_some,g_];rfl;simp only[iI,map_cons,List.map_nil,eB,iM,ni,Nat.reduceEqDiff,if_false];show(kN .box [enc x]).map _=_;simp only[kN,mI,s9,if_true,Option.map_some,g_];rfl;simp[iI,eB,bN];simp[iM];simp[iM]
 have⟨F1,q,r,y⟩:=p;have A:∃I,(∀c,cE yH zF c none r2 F1 [.row 1 [cells t],.row 2 [cells x]]=some (set F1 5 .bO,[.row 1 [cells t],.row 2 [cells x]]))/\(∀c,cE yH zF c none r3 (set F1 5 .bO) [.row 1 [cells t],.row 2 [cells x]]=some (I,[.row 1 [cells t],.row 2 [cells x]]))/\P1 t x 0 I [.row 1 [cells t],.row 2 [cells x]]:=by refine⟨set (set F1 5 .bO) 6 (.int .i64 0),λc=>by simp[r2,cE,iI,eB,bN,iM],λc=>by simp[r3,cE,iI,eB,bN,iM],by simp[r],by simp[y],Zab,rfl,rfl,0,[],?_,λh=>absurd rfl h,λid h=>by simp at h⟩;have:get (set (set F1 5 .bO) 6 (.int .i64 0)) 5=.bO:=Zab;rw[this,List.take_zero];exact ov.nil _ 0
 have⟨I,H,K,M⟩:=A;have⟨P,Q,e1,e2⟩:=Pw (E:=yH) (N:=zF) U t.procs.l.length 0 I _ Zaa M
 have⟨o,ids,J,R,V⟩:=e2.ns;have S:(iK t).length=t.procs.l.length:=by simp[iK]
 rw[List.take_of_length_le Zaa]at J
 have⟨w,X,id,m1,m2,_,m4⟩:=x13 (a:=0) (d:=0) (F:=P) (E:=yH) (N:=zF) hd W g e2.f2 e2.h0 (c:=1) e2.h1;have⟨T,o1,o2,o3⟩:=m4 e2.f3;have O:P2 t (iK t) s.l T (Q++X):=by refine⟨by rw[o3 2 Zaa Zaa];exact e2.f2,by rw[List.getElem?_append_left (ζe.1 e2.h0).1];exact e2.h0,Q.length,o,ids,id,by rw[o3 5 Zaa Zaa];exact J.more X,λu=>?_,λi f=>⟨by have:=V i f;omega,J.lt.2 i f⟩,?_,Zab,by rw[o2];exact m1,λoff m h=>?_⟩;have z:lF (iK t)≠[]:=λh=>u (Lm.1 h);have:t.procs.l.length≠0:=(by intro h;apply u;exact List.eq_nil_of_length_eq_zero Zaa);have:=R this;exact⟨Zaa,J.lt.1 z⟩;have:=(ζe.1 e2.h0).1;omega;rw[o2]at h;have:=m2 off m h;omega
 have⟨C,L,p1,p2⟩:=Qm hd W k _ _ out T _ l O;have⟨B,o',Y,aa,q1,_⟩:=p2.ns;have l1:∃D,(∀c,cE yH zF c none r18 C L=some (D,L))/\get D 4=get C 5:=by refine⟨_,λc=>vp (v:=get C 5) rfl ?_<|vp (v:=get C 5) rfl ?_ tW,?_⟩;simp[iI,eB,bN];simp[iI,eB,bN,iM];simp[iM]
 have⟨D,y1,y2⟩:=l1;have e:Ex yH zF code [enc t,enc x] [] .ret D L:=Ex.seq (Ex.dn q) (Ex.seq (Ex.dn H) (Ex.seq (Ex.seq (Ex.dn K) (Ex.w8 (Ex.loop e1))) (Ex.seq (Ex.ops o1) (Ex.seq (Ex.w8 (Ex.loop p1)) (Ex.seq (Ex.dn y1) Ex.ret)))))
 have⟨n,G⟩:=e.run (nm:=some) yz g1 g2 (show[enc t,enc x].length<=fi.ntmps from g3) (vs:=[get D 4]) (by rw[g4];rfl)
 have⟨Z,z1,z2,z3⟩:=Un q1;exact⟨n,get C 5,L,Z,by rw[G,y2];rfl,z1,z2,z3⟩
theorem aay(l:aX a_):∀c∈l.map (cells (α:=a_)),c.length=2/\c.all V.one=true/\c.all V.scalar=true:=λc a=>by obtain⟨e,_,rfl⟩:=mem_map.1 a;exact⟨rfl,rfl,rfl⟩
theorem abi(t:Z4):JA yH zF t (d_ t):=by
 intro y s H B;have d:=BE t y;have I:=d (cK s) (by rw[B];rfl);have b:V.cH [enc t,enc y]=true:=by simp only[V.cH,kP,Bool.and_self]
 have w:s.k=.row\/s.k=.nil/\rows s.l=[]:=by have D:∀o z,(∃l,o=.row l)\/o=.nil->d_.J1 o t y=some z->(∃l,z=.row l)\/z=.nil:=λo z J u=>(by unfold d_.J1 at u;have⟨e,_,u⟩:=ζg.1 u;cases G:e.kind==3 with|true=>rw[G]at u;have⟨f,_,u⟩:=ζg.1 u;have⟨q,C,u⟩:=ζg.1 u;cases u;unfold fu at C;split at C;cases C;exact .inl ⟨_,rfl⟩;cases C|false=>rw[G]at u;cases u;exact J);have:(∃l,s=.row l)\/s=.nil:=(by unfold d_ at B;cases a:decide (y.index>1)with|true=>rw[a]at B;exact D _ s (.inl ⟨_,rfl⟩) B|false=>rw[a]at B;exact D _ s (.inr rfl) B);rcases this with⟨l,rfl⟩|rfl;exact .inl rfl;exact .inr ⟨rfl,rfl⟩
 have⟨n,z,H',r1,r2⟩:=aax JC DA (T:=Tx) (f:=zF 103) (rf:=tj (Tx 103)) Zae b (Nat.le_of_ble_eq_true Zae) (k:=s.k) (es:=2) (xs:=rows s.l) (λc a=>(aay s.l c a).2.2) w I;refine J5 (l:=s.l.map cells) (y:=z) (H1:=H') Zae b (aay s.l) ⟨n,λk g=>(qh _ g).go _ _ _ _ r1⟩ ?_ H;rcases r2 with⟨L,rfl⟩|⟨id,rfl,O⟩;left;cases s<;>simp[Sl.k]at L;exact⟨rfl,rfl⟩;right;exact⟨id,by simp[rows],O⟩
end pastX
theorem Vj(t:Z4)(x:a_)(r:Sl (Sl X'))(h:pT t x=some r):Sy.zo 78 [enc t,enc x]=some (enc r):=by
 unfold pT at h;split at h;rename_i u;have⟨s,z,h⟩:=ζg.1 h;have⟨w,B,h⟩:=ζg.1 h;cases w with|n a=>exact elim a|r e=>exact elim e|x out=>cases h;exact C2 (pastX.Yx Zae (pastX.abi t) u z B)
 cases h
noncomputable section
def zb:aY X':=some true
instance Xa:Fc Sy cL zb:=⟨4,[],λr:X'=>[.bool r],true,eR.zo Zae Zae Rl⟩
namespace gR
def bh(s0:Sl WF)(D:Int)(B:Int)(p1:WF->aY X'):aY (Fw Int Unit Int):=bg (decide (B<D)) ((idx s0 B).bind λu=>(p1 u).bind λw=>bg w (some (.r B)) (some (.n (wrap .i64 (B+1))))) (some (.x ()))
def W1(s0:Sl WF)(B D:Int)(p1:WF->aY X'):Ps:=(bF (λq:Int=>bh s0 B q p1) D).bind (Fw.elim (λe=>some (-1)) (λe=>some e))
end gR
def gR(s0:Sl WF)(p1:WF->aY X'):Ps:=gR.W1 s0 (len s0) 0 p1
open gR in
abbrev yU(g1:FuncId)(e1:aX V)(p1:Event->aY Bool)(a:mS Sy cL g1 [] e1 (λz:Event=>[enc z]) (λr:Bool=>[.bool r]) p1 true)(s0:Sl Event):Fc Sy cL (gR s0 p1):=Fc.M 55 [enc s0,.clo g1 [] e1] (bQ 9 s0 (dx 5 (λw=>(bE [Cv 0 s0,(1,.v (.clo g1 [] e1)),Iv 7 (len s0),Iv 8 w] [])) (λu=>(0,(bE [] []))) (λu=>(bE [Iv 4 u] [])) (λw=>bp 7 9 (bC 16 λB _=>zK 1 a.f B λC _=>bp 2 16 aZ aZ) aZ) (λu=>aZ) (λu=>aZ)))
def gW(s0:Sl WF)(p1:WF->aY X'):aY X':=(gR s0 p1).bind λu=>some (decide (u>=0))
abbrev mL(g1:FuncId)(e1:aX V)(p1:Event->aY Bool)(a:mS Sy cL g1 [] e1 (λz:Event=>[enc z]) (λr:Bool=>[.bool r]) p1 true)(s0:Sl Event):Fc Sy cL (gW s0 p1):=Fc.M 29 [enc s0,.clo g1 [] e1] (bu (F:=yU g1 e1 p1 a s0) 9 λu _=>aZ)
def rJ(B:WF):aY X':=some (decide ((len B.assign)>12))
instance SY(B:WF):Fc Sy cL (rJ B):=Fc.M 30 [enc B] (bT 2 1 B (bQ 7 B.assign aZ))
def qR(B:Int):aY X':=(bg (decide (B>=65)) (some (decide (B<=90))) (some false):aY X').bind λu=>(bg u (some true) ((bg (decide (B>=97)) (some (decide (B<=122))) (some false):aY X').bind λw=>some w):aY X').bind λz=>some z
instance WI(B:Int):Fc Sy cL (qR B):=Fc.M 130 [.int .u8 B] (bG 10 3 [5] 8 (bp 10 5 (bq 3) (bq 3)) λu=>bG 1 7 [0,9] 16 (bp 1 9 (bq 7) (bG 3 3 [0,12] 15 (bp 3 12 (bq 3) (bq 3)) λw=>bq 1)) λz=>aZ)
def vh(B:Int):aY X':=(bg (decide (B>=48)) (some (decide (B<=57))) (some false):aY X').bind λu=>some u
instance WZ(B:Int):Fc Sy cL (vh B):=Fc.M 131 [.int .u8 B] (bG 10 3 [0,5] 8 (bp 10 5 (bq 3) (bq 3)) λu=>aZ)
namespace iW
def bh(s0:U')(i3:Int):aY (Fw Int Unit Unit):=bg (decide (i3<((ByteArray.size s0:Nat):Int))) ((mH s0 i3).bind λz=>(qR z).bind λB=>(bg B (some false) ((mH s0 i3).bind λC=>(vh C).bind λD=>some (!D)):aY X').bind λG=>(bg G ((mH s0 i3).bind λu=>some (!(u==95))) (some false):aY X').bind λw=>bg w (some (.r ())) (some (.n (wrap .i64 (i3+1))))) (some (.x ()))
def W1(s0:U')(i3:Int):aY X':=(bF (λq:Int=>bh s0 q) i3).bind (Fw.elim (λe=>some true) (λe=>some false))
end iW
def iW(s0:U'):aY X':=(bg (decide (((ByteArray.size s0:Nat):Int)<1)) (some true) (some (decide (((ByteArray.size s0:Nat):Int)>16))):aY X').bind λu=>(bg u (some true) ((mH s0 0).bind λw=>(qR w).bind λz=>some (!z)):aY X').bind λB=>bg B (some false) (iW.W1 s0 1)
open iW in
instance Zi(s0:U'):Fc Sy cL (iW s0):=Fc.M 100 [.str s0] (bG 12 4 [7] 11 (bp 12 7 (bq 4) (bq 4)) λC=>bG 1 5 [12] 17 (bp 1 12 (bq 5) (BI 1 .i64 λD _=>bu 0 λG _=>bq 2)) λI=>bp 2 17 aZ (dx 11 (λw=>(bE [(0,.v (.str s0)),Iv 3 w] [])) (λu=>(0,(bE [] []))) (λu=>(bE [Bv 2 false] [])) (λw=>bp 10 21 (BI 9 .i64 λJ _=>bu 0 λL _=>bG 2 6 [29] 35 (cz 2 29 (bq 6) (BI 2 .i64 λO _=>bu 0 λQ _=>bq 2)) λS=>bG 1 5 [36] 41 (bp 1 36 (BI 2 .i64 λz _=>bq 2) (bq 5)) λB=>bp 2 41 aZ aZ) aZ) (λu=>aZ) (λu=>aZ)))
def rZ(B:Int):aY X':=(bg (decide (B>=(-1073741824))) (some (decide (B<=1073741824))) (some false):aY X').bind λu=>some u
instance Xx(B:Int):Fc Sy cL (rZ B):=Fc.M 101 [.int .i64 B] (bG 10 3 [0,5] 8 (bp 10 5 (bq 3) (bq 3)) λu=>aZ)
namespace eN
def fh(G:Int)(B:bR)(D:Int):aY (Fw Int Unit Unit):=bg (decide (D<G)) ((idx B.vars D).bind λu=>(idx B.vars G).bind λw=>bg (toList u.name==toList w.name) (some (.r ())) (some (.n (wrap .i64 (D+1))))) (some (.x ()))
def W3(D G:Int)(B:bR):aY (Fw Int Unit Int):=(bF (λq:Int=>fh D B q) G).bind (Fw.elim (λe=>(idx B.vars D).bind λu=>(rZ u.init_).bind λw=>bg w (some (.n (wrap .i64 (D+1)))) (some (.r 2))) (λe=>some (.r 13)))
def bH(B:bR)(D:Int):aY (Fw Int Unit Int):=bg (decide (D<(len B.vars))) ((idx B.vars D).bind λu=>(iW u.name).bind λw=>bg w (W3 D 0 B) (some (.r 13))) (some (.x ()))
def W2(D:Int)(B:bR):Ps:=(bF (λq:Int=>bH B q) D).bind (Fw.elim (λe=>bg (decide ((len B.events)>64)) (some 5) (some 0)) (λe=>some e))
def bh(p1:Int)(B:Z4)(D:bR)(G:Int):aY (Fw Int Unit Unit):=bg (decide (G<p1)) ((idx B.procs G).bind λu=>bg (toList u.name==toList D.name) (some (.r ())) (some (.n (wrap .i64 (G+1))))) (some (.x ()))
def W1(p1 G:Int)(D:Z4)(B:bR):Ps:=(bF (λq:Int=>bh p1 D B q) G).bind (Fw.elim (λe=>bg (decide ((len B.vars)>8)) (some 5) (eN.W2 0 B)) (λe=>some 13))
end eN
def eN(B:Z4)(p1:Int):Ps:=(idx B.procs p1).bind λu=>(iW u.name).bind λw=>bg w (eN.W1 p1 0 B u) (some 13)
open eN in
instance Zw(J:Z4)(p1:Int):Fc Sy cL (eN J p1):=Fc.M 74 [enc J,.int .i64 p1] (bT 2 2 J (bC 8 λu _=>o4 2 5 0 u (bu 7 λI _=>cz 3 17 (dx 11 (λD=>(bE [Iv 1 p1,Pv 2,Pv 5,Iv 6 D] [Xb 2 J,Xb 5 u])) (λB=>(0,(bE [Pv 5] [Xb 5 u]))) (λB=>(bE [Iv 4 13] [])) (λD=>bp 9 20 (bC 10 λL _=>bp 7 31 aZ aZ) aZ) (λB=>bQ 7 u.vars (bp 3 35 aZ (dx 11 (λw=>(bE [Pv 5,Iv 7 w] [Xb 5 u])) (λz=>(2,(bE [Pv 5] [Xb 5 u]))) (λz=>(bE [Iv 4 z] [])) (λw=>bQ 7 u.vars (bp 3 40 (bC 11 λO _=>bu 2 λQ _=>cz 3 50 (dx 11 (λG=>(bE [Pv 5,Iv 7 w,Iv 8 G] [Xb 5 u])) (λC=>(4,(bE [Pv 5,Iv 7 w] [Xb 5 u]))) (λC=>(bE [Iv 4 13] [])) (λG=>bp 9 53 (bC 10 λS _=>bC 5 λT _=>bp 5 68 aZ aZ) aZ) (λC=>bC 7 λU _=>bu 2 λW _=>cz 3 76 aZ aZ) (λC=>aZ)) aZ) aZ)) (λz=>bQ 7 u.events (bp 3 80 aZ aZ)) (λz=>aZ)))) (λB=>aZ)) aZ)))
namespace eM
def fh(p1 k8:Int)(J:Z4)(D:WF)(G:Assign)(B:Int):aY (Fw Int Unit Unit):=bg (decide (B<k8)) ((idx D.assign B).bind λu=>bg (u.var==G.var) (some (.r ())) (some (.n (wrap .i64 (B+1))))) (some (.x ()))
def W3(p1 k8 B:Int)(D:Z4)(G:WF)(J:Assign):aY (Fw Int Unit Int):=(bF (λq:Int=>fh p1 k8 D G J q) B).bind (Fw.elim (λe=>some (.n (wrap .i64 (k8+1)))) (λe=>some (.r 8)))
def bH(p1:Int)(D:Z4)(B:WF)(k8:Int):aY (Fw Int Unit Int):=bg (decide (k8<(len B.assign))) ((idx B.assign k8).bind λu=>(bg (decide (u.var<0)) (some true) ((idx D.procs p1).bind λw=>some (decide (u.var>=(len w.vars)))):aY X').bind λz=>(bg z (some true) ((rZ u.value).bind λC=>some (!C)):aY X').bind λG=>bg G (some (.r 2)) (W3 p1 k8 0 D B u)) (some (.x ()))
def W2(p1 k8:Int)(B:Z4)(D:WF):Ps:=(bF (λq:Int=>bH p1 B D q) k8).bind (Fw.elim (λe=>some 0) (λe=>some e))
def J1(p1 i2:Int)(D:Z4)(B:WF):Ps:=(bg (decide (B.time<0)) (some true) (some (decide (B.time>1099511627776))):aY X').bind λu=>(bg u (some true) ((bg (decide (i2>0)) ((idx D.procs p1).bind λw=>(idx w.events (wrap .i64 (i2-1))).bind λz=>some (decide (B.time<z.time))) (some false):aY X').bind λC=>some C):aY X').bind λG=>bg G (some 11) (bg (decide ((len B.assign)>8)) (some 5) (eM.W2 p1 0 D B))
theorem mW(p1 i2:Int)(D:Z4)(B:WF):Le ((J1 p1 i2 D B).bind (λr=>some [.int .i64 r])) (bZ Sy cL (pI (tr Tx 75)) (rF (tb Tx 75) [1,1,1,0] [] (bE [Iv 1 p1,Iv 2 i2,Pv 3,Pv 7] [Xb 3 D,Xb 7 B]))):=bG 7 4 [71] 75 (bp 7 71 (bq 4) (bq 4)) λL=>bG 1 19 [2,76] 95 (bp 1 76 (bq 19) (bG 3 15 [2,79] 94 (bp 3 79 (bC 5 λO _=>bC 4 λQ _=>bq 4) (bq 15)) λS=>bq 1)) λT=>bp 2 95 aZ (bQ 8 B.assign (bp 3 99 aZ (dx 11 (λu=>(bE [Iv 1 p1,Pv 3,Pv 7,Iv 8 u] [Xb 3 D,Xb 7 B])) (λw=>(0,(bE [] []))) (λw=>(bE [Iv 6 w] [])) (λu=>bQ 7 B.assign (bp 3 104 (bC 10 λz _=>bG 12 11 [115] 126 (bp 12 115 (bq 11) (bC 5 λI _=>bQ 2 I.vars (bq 2))) λU=>wu 1 5 [130] (λC=>(bE [Iv 1 p1,Pv 3,Pv 7,Iv 8 u,Bv 104 true,Pv 9,Bv 132 C] [Xb 3 D,Xb 7 B,Xb 9 z])) (bp 1 127 (bq 5) (bY 2 λW _=>bq 2)) λC=>bp 2 132 aZ (dx 10 (λJ=>(bE [Iv 1 p1,Pv 3,Pv 7,Iv 8 u,Pv 9,Iv 10 J] [Xb 3 D,Xb 7 B,Xb 9 z])) (λG=>(2,(bE [Iv 1 p1,Pv 3,Pv 7,Iv 8 u] [Xb 3 D,Xb 7 B]))) (λG=>(bE [Iv 6 8] [])) (λJ=>bp 9 135 (bC 10 λX _=>bp 7 146 aZ aZ) aZ) (λG=>aZ) (λG=>aZ))) aZ)) (λw=>aZ) (λw=>aZ))))
end eM
def eM(B:Z4)(p1 i2:Int):Ps:=(idx B.procs p1).bind λw=>(idx w.events i2).bind λu=>bg (u.kind==1) ((bg (u.peer==0) (some (!(u.message==0))) (some true):aY X').bind λz=>bg z (some 3) (eM.J1 p1 i2 B u)) ((bg (u.kind==2) (some false) (some (!(u.kind==3))):aY X').bind λC=>(bg C (some true) (some (decide (u.peer<0))):aY X').bind λD=>(bg D (some true) (some (decide (u.peer>=(len B.procs)))):aY X').bind λG=>(bg G (some true) (some (u.peer==p1)):aY X').bind λI=>(bg I (some true) (some (decide (u.message<0))):aY X').bind λJ=>(bg J (some true) (some (decide (u.message>199))):aY X').bind λL=>bg L (some 3) (eM.J1 p1 i2 B u))
open eM in
instance ZA(B:Z4)(p1 i2:Int):Fc Sy cL (eM B p1 i2):=Fc.M 75 [enc B,.int .i64 p1,.int .i64 i2] (bT 2 3 B (bC 8 λw _=>bC 3 λu _=>o4 2 7 0 u (bp 10 22 (bG 7 4 [26] 30 (cz 7 26 (bq 4) (bq 4)) λz=>bp 2 30 aZ (nR 4 (mW p1 i2 B u))) (bG 7 4 [34] 38 (cz 7 34 (bq 4) (bq 4)) λC=>bG 1 4 [39] 43 (bp 1 39 (bq 4) (bq 4)) λD=>bG 1 7 [44] 51 (bp 1 44 (bq 7) (bQ 4 B.procs (bq 2))) λG=>bG 1 5 [52] 57 (bp 1 52 (bq 5) (bq 5)) λI=>bG 1 4 [58] 62 (bp 1 58 (bq 4) (bq 4)) λJ=>bG 1 4 [63] 67 (bp 1 63 (bq 4) (bq 4)) λL=>bp 2 67 aZ (nR 4 (mW p1 i2 B u))))))
namespace jI
def bh(G:Z4)(J:a_)(D:WF)(B:X')(U:Int):aY (Fw (X'×Int) Bool Empty):=(idx G.procs D.peer).bind λw=>bg (decide (U<(len w.events))) ((idx G.procs D.peer).bind λz=>(idx z.events U).bind λu=>(bg B (some true) ((bg (u.kind==2) (some (u.message==D.message)) (some false):aY X').bind λC=>(bg C (some (u.peer==J.proc)) (some false):aY X').bind λI=>some I):aY X').bind λL=>some (.n (L,wrap .i64 (U+1)))) (some (.x B))
def W1(B:X')(U:Int)(D:Z4)(G:a_)(J:WF):Ps:=(bF (λq:X'×Int=>bh D G J q.1 q.2) (B,U)).bind (Fw.elim (λe=>bg e (some 0) (some 7)) (λe=>elim e))
end jI
def jI(B:Z4)(D:a_):Ps:=(wR B D).bind λu=>bg (u.kind==1) (some 0) ((dX B u.kind u.message).bind λw=>bg (Oc w D) (bg (u.kind==3) (jI.W1 false 0 B D u) (some 0)) (some 8))
open jI in
instance Wv(B:Z4)(D:a_):Fc Sy cL (jI B D):=Fc.M 76 [enc B,enc D] (bT 2 2 B (bu 8 λw _=>o4 1 5 0 w (bp 10 14 aZ (bY 11 λI _=>cz 4 22 (bp 11 25 (eG 14 (λu=>(bE [Pv 2,Pv 3,Pv 5,Bv 6 u.1,Iv 7 u.2] [Xb 2 B,Xb 3 D,Xb 5 w])) (λz=>(0,(bE [Bv 6 z] []))) (λu=>bC 9 λC _=>bQ 2 C.events (bp 3 35 (bC 11 λJ _=>bC 3 λG _=>o4 2 8 0 G (bG 5 18 [8,49] 67 (bp 5 49 (bq 18) (bG 4 6 [53] 59 (bp 4 53 (bq 6) (bq 6)) λL=>bG 1 6 [8,60] 66 (bp 1 60 (bq 6) (bq 6)) λO=>bq 1)) λQ=>aZ)) aZ)) (λz=>cz 8 69 aZ aZ)) aZ) aZ))))
namespace eV
def J4(B:Zg)(p5:Int)(D:Z4):aY (Fw ((Zg)×X') ((Zg)×X') Empty):=(Sl.lW B p5).bind λu=>(Sl.get B u).bind λw=>(Sl.lW B p5).bind λz=>(Sl.put B z (wrap .i64 (w+1):Int)).bind λC=>some (.n (C,true))
def fh(p5:Int)(G:Z4)(B:Zg)(D:X'):aY (Fw ((Zg)×X') ((Zg)×X') Empty):=(Sl.lW B p5).bind λI=>(Sl.get B I).bind λJ=>(idx G.procs p5).bind λL=>bg (decide (J<(len L.events))) ((idx G.procs p5).bind λO=>(Sl.lW B p5).bind λQ=>(Sl.get B Q).bind λS=>(idx O.events S).bind λu=>bg (u.kind==3) ((dX G 2 u.message).bind λw=>(Sl.lW B w.proc).bind λz=>(Sl.get B z).bind λC=>bg (decide (C<w.index)) (some (.x (B,D))) (J4 B p5 G)) (J4 B p5 G)) (some (.x (B,D)))
def W3(D:Zg)(B:X')(p5:Int)(G:Z4):aY (Fw ((Zg)×X'×Int) ((Zg)×X') Empty):=(bF (λq:(Zg)×X'=>fh p5 G q.1 q.2) (D,B)).bind (Fw.elim (λe=>some (.n (e.1,e.2,wrap .i64 (p5+1)))) (λe=>elim e))
def bH(G:Z4)(D:Zg)(B:X')(p5:Int):aY (Fw ((Zg)×X'×Int) ((Zg)×X') Empty):=bg (decide (p5<(len G.procs))) (W3 D B p5 G) (some (.x (D,B)))
def W2(D:Zg)(B:X')(p5:Int)(G:Z4):aY (Fw Zg Zg Empty):=(bF (λq:(Zg)×X'×Int=>bH G q.1 q.2.1 q.2.2) (D,B,p5)).bind (Fw.elim (λe=>bg e.2 (some (.n e.1)) (some (.x e.1))) (λe=>elim e))
def AB(B:Zg)(D:Z4)(G:Int):aY (Fw Int Unit Unit):=bg (decide (G<(len D.procs))) ((Sl.lW B G).bind λu=>(Sl.get B u).bind λw=>(idx D.procs G).bind λz=>bg (decide (w<(len z.events))) (some (.r ())) (some (.n (wrap .i64 (G+1))))) (some (.x ()))
def W5(B:Zg)(G:Int)(D:Z4):aY X':=(bF (λq:Int=>AB B D q) G).bind (Fw.elim (λe=>some true) (λe=>some false))
def bh(D:Z4)(B:Zg):aY (Fw Zg Zg Empty):=W2 B false 0 D
def W1(B:Zg)(D:Z4):aY X':=(bF (λq:Zg=>bh D q) B).bind (Fw.elim (λe=>eV.W5 e 0 D) (λe=>elim e))
end eV
def eV(B:Z4):aY X':=(uT (len B.procs) (0:Int)).bind λu=>eV.W1 u B
open eV in
instance Uw(B:Z4):Fc Sy cL (eV B):=Fc.M 77 [enc B] (bT 2 1 B (bQ 7 B.procs (V6 0 12 λb _=>eG 7 (λO=>(bE [Pv 1,Ov 3] [Xb 1 B,Lb 2003 O])) (λD=>(0,(bE [Pv 1,Ov 3] [Xb 1 B,Lb 2003 D]))) (λO=>eG 17 (λw=>(bE [Pv 1,Ov 3,Bv 4 w.2.1,Iv 5 w.2.2] [Xb 1 B,Lb 2003 w.1])) (λG=>(2,(bE [Pv 1,Ov 3,Bv 4 G.2] [Xb 1 B,Lb 2003 G.1]))) (λw=>bQ 8 B.procs (bp 3 17 (eG 8 (λI=>(bE [Pv 1,Ov 3,Bv 4 I.2,Iv 5 w.2.2] [Xb 1 B,Lb 2003 I.1])) (λJ=>(4,(bE [Pv 1,Ov 3,Bv 4 J.2,Iv 5 w.2.2] [Xb 1 B,Lb 2003 J.1]))) (λI=>mo .i64 7 2003 λc _=>tw 0 2003 0 1 false (λQ=>.int .i64 Q) λQ _=>bC 3 λZ _=>bQ 2 Z.events (bp 3 31 (bC 9 λd _=>mo .i64 4 2003 λe _=>tw 0 2003 0 1 false (λS=>.int .i64 S) λS _=>bC 0 λa _=>o4 2 6 0 a (bp 10 46 (bu 6 λf _=>mo .i64 9 2003 λg _=>tw 0 2003 0 1 false (λz=>.int .i64 z) λz _=>bp 5 58 aZ (qi 5 (mo .i64 4 2003 λT _=>tw 0 2003 0 1 false (λu=>.int .i64 u) λu _=>mo .i64 1 2003 λU _=>EH 0 2003 (.int .i64 (wrap .i64 (u+1))) λW _=>aZ))) (qi 5 (mo .i64 4 2003 λT _=>tw 0 2003 0 1 false (λu=>.int .i64 u) λu _=>mo .i64 1 2003 λU _=>EH 0 2003 (.int .i64 (wrap .i64 (u+1))) λW _=>aZ)))) aZ)) (λJ=>aZ)) aZ)) (λG=>cz 8 66 aZ aZ)) (λD=>dx 11 (λX=>(bE [Pv 1,Ov 3,Iv 8 X] [Xb 1 B,Lb 2003 D])) (λL=>(6,(bE [] []))) (λL=>(bE [Bv 2 false] [])) (λX=>bQ 8 B.procs (bp 3 71 (mo .i64 9 2003 λh _=>tw 0 2003 0 1 false (λC=>.int .i64 C) λC _=>bC 3 λY _=>bQ 2 Y.events (bp 3 85 aZ aZ)) aZ)) (λL=>aZ) (λL=>aZ)))))
instance Zu(t:Z4)(x:a_):Fc Sy cL (pT t x):=Fc.of (A:=λz:Z4×a_=>[enc z.1,enc z.2]) (E:=λr:Sl (Sl X')=>[enc r]) (p:=λz=>pT z.1 z.2) (n:=78) (z:=(t,x)) (eR.aaO Zae Zae (λz r a=>Vj z.1 z.2 r a))
namespace dm
def fh(p6:Int)(B:Z4)(G:a_)(D:Int):aY (Fw Int Unit (Int×a_)):=(idx B.procs p6).bind λw=>bg (decide (D<(len w.events))) ((eM B p6 D).bind λu=>bg (u==0) (some (.n (wrap .i64 (D+1)))) (some (.r (u,(⟨p6,wrap .i64 (D+1)⟩:a_))))) (some (.x ()))
def W3(p6 G:Int)(B:Z4)(D:a_):aY (Fw Int Unit (Int×a_)):=(bF (λq:Int=>fh p6 B D q) G).bind (Fw.elim (λe=>some (.n (wrap .i64 (p6+1)))) (λe=>some (.r (e.1,e.2))))
def AB(G:Int)(D:Z4)(J:a_)(B:Int):aY (Fw Int Unit (Int×a_)):=(idx D.procs G).bind λw=>bg (decide (B<(len w.events))) ((jI D (⟨G,wrap .i64 (B+1)⟩:a_)).bind λu=>bg (u==0) (some (.n (wrap .i64 (B+1)))) (some (.r (u,(⟨G,wrap .i64 (B+1)⟩:a_))))) (some (.x ()))
def W5(J B:Int)(D:Z4)(G:a_):aY (Fw Int Unit (Int×a_)):=(bF (λq:Int=>AB J D G q) B).bind (Fw.elim (λe=>some (.n (wrap .i64 (J+1)))) (λe=>some (.r (e.1,e.2))))
def NC(D:Int)(G:Z4)(J:a_)(B:Int):aY (Fw Int Unit a_):=(idx G.procs D).bind λw=>bg (decide (B<(len w.events))) ((pT G (⟨D,wrap .i64 (B+1)⟩:a_)).bind λz=>(idx z D).bind λC=>(idx C (wrap .i64 (B+1))).bind λu=>bg u (some (.r (⟨D,wrap .i64 (B+1)⟩:a_))) (some (.n (wrap .i64 (B+1))))) (some (.x ()))
def W7(B D:Int)(G:Z4)(J:a_):aY (Fw Int Unit a_):=(bF (λq:Int=>NC B G J q) D).bind (Fw.elim (λe=>some (.n (wrap .i64 (B+1)))) (λe=>some (.r e)))
def N5(B:Z4)(G:a_)(D:Int):aY (Fw Int Unit a_):=bg (decide (D<(len B.procs))) (W7 D 0 B G) (some (.x ()))
def W6(B:Int)(D:Z4)(G:a_):aY (a_×Int):=(bF (λq:Int=>N5 D G q) B).bind (Fw.elim (λe=>some (⟨0,0⟩,0)) (λe=>some (e,10)))
def Nx(B:Z4)(D:a_)(G:Int):aY (Fw Int Unit (Int×a_)):=bg (decide (G<(len B.procs))) (W5 G 0 B D) (some (.x ()))
def W4(G:Int)(B:Z4)(D:a_):aY (a_×Int):=(bF (λq:Int=>Nx B D q) G).bind (Fw.elim (λe=>(eV B).bind λu=>bg u (some (⟨0,0⟩,0)) (dm.W6 0 B D)) (λe=>some (e.2,e.1)))
def bH(B:Z4)(D:a_)(p6:Int):aY (Fw Int Unit (Int×a_)):=bg (decide (p6<(len B.procs))) (W3 p6 0 B D) (some (.x ()))
def W2(p6:Int)(B:Z4)(D:a_):aY (a_×Int):=(bF (λq:Int=>bH B D q) p6).bind (Fw.elim (λe=>dm.W4 0 B D) (λe=>some (e.2,e.1)))
def bh(B:Z4)(D:a_)(p4:Int):aY (Fw Int Unit (Int×a_)):=bg (decide (p4<(len B.procs))) ((eN B p4).bind λu=>bg (u==0) (some (.n (wrap .i64 (p4+1)))) (some (.r (u,(⟨p4,0⟩:a_))))) (some (.x ()))
def W1(p4:Int)(B:Z4)(D:a_):aY (a_×Int):=(bF (λq:Int=>bh B D q) p4).bind (Fw.elim (λe=>dm.W2 0 B D) (λe=>some (e.2,e.1)))
end dm
def dm(B:Z4):aY (a_×Int):=(bg (decide ((len B.procs)<1)) (some true) (some (decide ((len B.procs)>8))):aY X').bind λu=>bg u (some (⟨0,0⟩,1)) (dm.W1 0 B (⟨0,0⟩:a_))
open dm in
instance Y0(B:Z4):Fc Sy cL (dm B):=Fc.M 56 [enc B] (bT 2 1 B (bQ 9 B.procs (bG 2 5 [20] 25 (bp 2 20 (bq 5) (bQ 2 B.procs (bq 2))) λa=>bp 2 25 aZ (dx 11 (λQ=>(bE [Pv 1,Pv 2,Iv 4 Q] [Xb 1 B,Xb 2 (⟨0,0⟩:a_)])) (λu=>(0,(bE [Pv 1,Pv 2] [Xb 1 B,Xb 2 (⟨0,0⟩:a_)]))) (λu=>(bE [Pv 2,Iv 3 u.1] [Xb 2 u.2])) (λQ=>bQ 7 B.procs (bp 3 31 (bu 9 λb _=>cz 9 38 aZ aZ) aZ)) (λu=>dx 10 (λG=>(bE [Pv 1,Pv 2,Iv 6 G] [Xb 1 B,Xb 2 (⟨0,0⟩:a_)])) (λw=>(2,(bE [Pv 1,Pv 2] [Xb 1 B,Xb 2 (⟨0,0⟩:a_)]))) (λw=>(bE [Pv 2,Iv 3 w.1] [Xb 2 w.2])) (λG=>bQ 7 B.procs (bp 3 46 (dx 12 (λS=>(bE [Pv 1,Pv 2,Iv 6 G,Iv 7 S] [Xb 1 B,Xb 2 (⟨0,0⟩:a_)])) (λz=>(4,(bE [Pv 1,Pv 2,Iv 6 G] [Xb 1 B,Xb 2 (⟨0,0⟩:a_)]))) (λz=>(bE [Pv 2,Iv 3 z.1] [Xb 2 z.2])) (λS=>bC 8 λW _=>bQ 2 W.events (bp 3 57 (bu 10 λc _=>cz 9 65 aZ aZ) aZ)) (λz=>aZ) (λz=>aZ)) aZ)) (λw=>dx 10 (λI=>(bE [Pv 1,Pv 2,Iv 9 I] [Xb 1 B,Xb 2 (⟨0,0⟩:a_)])) (λC=>(6,(bE [Pv 1,Pv 2] [Xb 1 B,Xb 2 (⟨0,0⟩:a_)]))) (λC=>(bE [Pv 2,Iv 3 C.1] [Xb 2 C.2])) (λI=>bQ 7 B.procs (bp 3 75 (dx 12 (λT=>(bE [Pv 1,Pv 2,Iv 9 I,Iv 10 T] [Xb 1 B,Xb 2 (⟨0,0⟩:a_)])) (λD=>(8,(bE [Pv 1,Pv 2,Iv 9 I] [Xb 1 B,Xb 2 (⟨0,0⟩:a_)]))) (λD=>(bE [Pv 2,Iv 3 D.1] [Xb 2 D.2])) (λT=>bC 8 λX _=>bQ 2 X.events (bp 3 86 (bu 19 λd _=>cz 9 97 aZ aZ) aZ)) (λD=>aZ) (λD=>aZ)) aZ)) (λC=>bu 6 λZ _=>bp 2 101 aZ (dx 11 (λJ=>(bE [Pv 1,Pv 2,Iv 13 J] [Xb 1 B,Xb 2 (⟨0,0⟩:a_)])) (λL=>(10,(bE [Pv 2] [Xb 2 (⟨0,0⟩:a_)]))) (λL=>(bE [Pv 2,Iv 3 10] [Xb 2 L])) (λJ=>bQ 7 B.procs (bp 3 107 (dx 12 (λU=>(bE [Pv 1,Pv 2,Iv 13 J,Iv 14 U] [Xb 1 B,Xb 2 (⟨0,0⟩:a_)])) (λO=>(12,(bE [Pv 1,Pv 2,Iv 13 J] [Xb 1 B,Xb 2 (⟨0,0⟩:a_)]))) (λO=>(bE [Pv 2,Iv 3 10] [Xb 2 O])) (λU=>bC 8 λY _=>bQ 2 Y.events (bp 3 118 (bu 19 λe _=>bC 1 λf _=>bC 3 λg _=>bp 3 134 aZ aZ) aZ)) (λO=>aZ) (λO=>aZ)) aZ)) (λL=>aZ) (λL=>aZ))) (λC=>aZ)) (λw=>aZ)) (λu=>aZ)))))
def sJ(B:Z4):aY X':=(dm B).bind λu=>some (u.2==0)
instance YM(B:Z4):Fc Sy cL (sJ B):=Fc.M 31 [enc B] (bT 2 1 B (bu 6 λu _=>aZ))
def rO(B:WF):aY X':=some (B.kind==3)
instance S5(B:WF):Fc Sy cL (rO B):=Fc.M 32 [enc B] (bT 2 1 B aZ)
def tF(D:Zg)(p1:Int):aY Zg:=(pJ (Sl.row []:Zg) D).bind λu=>(Sl.lW u p1).bind λw=>(Sl.get u w).bind λz=>(Sl.lW u p1).bind λB=>(Sl.put u B (wrap .i64 (z+1):Int)).bind λC=>some C
instance Zc(B:Zg)(p1:Int):Fc Sy cL (tF B p1):=Fc.N 79 [enc B,.int .i64 p1] (Ar 9 6 8 λw _=>mo .i64 9 8 λz _=>tw 0 8 0 1 false (λu=>.int .i64 u) λu _=>mo .i64 1 8 λC _=>EH 0 8 (.int .i64 (wrap .i64 (u+1))) λD _=>aZ)
namespace nE
def bh(B:Zg)(D:Z4)(p5:Int):aY (Fw Int Unit Unit):=bg (decide (p5<(len B))) ((idx B p5).bind λu=>(bg (decide (u<0)) (some true) ((idx B p5).bind λw=>(idx D.procs p5).bind λz=>some (decide (w>(len z.events)))):aY X').bind λC=>bg C (some (.r ())) (some (.n (wrap .i64 (p5+1))))) (some (.x ()))
def W1(B:Zg)(p5:Int)(D:Z4):aY X':=(bF (λq:Int=>bh B D q) p5).bind (Fw.elim (λe=>some true) (λe=>some false))
end nE
def nE(D:Z4)(B:Zg):aY X':=bg ((len B)==(len D.procs)) (nE.W1 B 0 D) (some false)
open nE in
instance ZJ(D:Z4)(B:Zg):Fc Sy cL (nE D B):=Fc.M 44 [enc D,enc B] (bT 2 2 D (bQ 7 B (bQ 2 D.procs (cz 3 11 (dx 11 (λw=>(bE [Cv 1 B,Pv 2,Iv 5 w] [Xb 2 D])) (λu=>(0,(bE [] []))) (λu=>(bE [Bv 4 false] [])) (λw=>bQ 6 B (bp 3 15 (bC 9 λC _=>bG 3 13 [23] 36 (bp 3 23 (bq 13) (bC 2 λG _=>bC 4 λz _=>bQ 2 z.events (bq 2))) λI=>bp 2 36 aZ aZ) aZ)) (λu=>aZ) (λu=>aZ)) aZ))))
namespace dZ
def bH(B:Zg)(p5:Int)(D:Z4)(G:Int):aY (Fw Int Unit Unit):=(idx B p5).bind λz=>bg (decide (G<z)) ((idx D.procs p5).bind λC=>(idx C.events G).bind λu=>bg (u.kind==3) ((dX D 2 u.message).bind λw=>(idx B w.proc).bind λI=>bg (decide (w.index>I)) (some (.r ())) (some (.n (wrap .i64 (G+1))))) (some (.n (wrap .i64 (G+1))))) (some (.x ()))
def W2(B:Zg)(p5 G:Int)(D:Z4):aY (Fw Int Unit Unit):=(bF (λq:Int=>bH B p5 D q) G).bind (Fw.elim (λe=>some (.n (wrap .i64 (p5+1)))) (λe=>some (.r ())))
def bh(B:Zg)(D:Z4)(p5:Int):aY (Fw Int Unit Unit):=bg (decide (p5<(len B))) (W2 B p5 0 D) (some (.x ()))
def W1(B:Zg)(p5:Int)(D:Z4):aY X':=(bF (λq:Int=>bh B D q) p5).bind (Fw.elim (λe=>some true) (λe=>some false))
end dZ
def dZ(D:Z4)(B:Zg):aY X':=dZ.W1 B 0 D
open dZ in
instance Qu(D:Z4)(B:Zg):Fc Sy cL (dZ D B):=Fc.M 45 [enc D,enc B] (bT 2 2 D (dx 11 (λu=>(bE [Cv 1 B,Pv 2,Iv 5 u] [Xb 2 D])) (λw=>(0,(bE [] []))) (λw=>(bE [Bv 4 false] [])) (λu=>bQ 6 B (bp 3 12 (dx 12 (λC=>(bE [Cv 1 B,Pv 2,Iv 5 u,Iv 6 C] [Xb 2 D])) (λz=>(2,(bE [Cv 1 B,Pv 2,Iv 5 u] [Xb 2 D]))) (λz=>(bE [Bv 4 false] [])) (λC=>bC 7 λI _=>bp 4 20 (bC 10 λJ _=>bC 3 λG _=>o4 2 7 0 G (bp 9 34 (bu 6 λL _=>bC 11 λO _=>bp 4 46 aZ aZ) aZ)) aZ) (λz=>aZ) (λz=>aZ)) aZ)) (λw=>aZ) (λw=>aZ)))
def qA(B:Z4)(D:Zg):aY X':=(nE B D).bind λu=>(bg u ((dZ B D).bind λw=>some w) (some false):aY X').bind λz=>some z
instance aa_(B:Z4)(D:Zg):Fc Sy cL (qA B D):=Fc.M 21 [enc B,enc D] (bT 2 2 B (bu 7 λu _=>bG 1 4 [1,2,8] 12 (bp 1 8 (bu 2 λw _=>bq 1) (bq 4)) λz=>aZ))
namespace kg
def bh(G:Zg)(D:Z4)(B:Zb)(p6:Int):aY (Fw ((Zb)×Int) Zb Empty):=bg (decide (p6<(len G))) ((idx G p6).bind λu=>(idx D.procs p6).bind λw=>(bg (decide (u<(len w.events))) ((tF G p6).bind λz=>(qA D z).bind λC=>some C) (some false):aY X').bind λI=>bg I ((tF G p6).bind λJ=>(fu B (J:Zg)).bind λL=>some (.n (L,wrap .i64 (p6+1)))) (some (.n (B,wrap .i64 (p6+1))))) (some (.x B))
def W1(G:Zg)(B:Zb)(p6:Int)(D:Z4):aY Zb:=(bF (λq:(Zb)×Int=>bh G D q.1 q.2) (B,p6)).bind (Fw.elim (λe=>some e) (λe=>elim e))
end kg
def kg(B:Z4)(D:Zg):aY Zb:=kg.W1 D (Sl.nil:Zb) 0 B
open kg in
instance Zv(B:Z4)(D:Zg):Fc Sy cL (kg B D):=Fc.N 57 [enc B,enc D] (bT 2 2 B (eG 17 (λu=>(bE [Cv 1 D,Pv 2,Ov 5,Iv 6 u.2] [Xb 2 B,Lb 2005 u.1])) (λw=>(0,(bE [Ov 5] [Lb 2005 w]))) (λu=>bQ 7 D (bp 3 10 (bC 9 λI _=>bC 4 λC _=>bQ 2 C.events (wu 2 6 [30,29] (λz=>(bE [Cv 1 D,Pv 2,Ov 5,Iv 6 u.2,Bv 10 true,Bv 31 z] [Xb 2 B,Lb 2005 u.1])) (bp 2 25 (bu 3 λJ _=>bY 0 λL _=>bq 1) (bq 6)) λz=>bp 2 31 (bu 5 λG _=>zk 0 36 ([G]:aX Zg) (nL 0 2005 36 37 λO _=>aZ)) aZ)) aZ)) (λw=>aZ)))
namespace iE
def bh(B:Zg)(D i4:Int):aY (Fw (Int×Int) Int Empty):=bg (decide (i4<(len B))) ((idx B i4).bind λu=>some (.n (wrap .i64 (D+u),wrap .i64 (i4+1)))) (some (.x D))
def W1(B:Zg)(D i4:Int):Ps:=(bF (λq:Int×Int=>bh B q.1 q.2) (D,i4)).bind (Fw.elim (λe=>some e) (λe=>elim e))
end iE
def iE(B:Zg):Ps:=iE.W1 B 0 0
open iE in
instance Y6(B:Zg):Fc Sy cL (iE B):=Fc.M 104 [enc B] (eG 18 (λu=>(bE [Cv 0 B,Iv 3 u.1,Iv 4 u.2] [])) (λw=>(0,(bE [Iv 3 w] []))) (λu=>bQ 6 B (bp 3 8 (bC 9 λz _=>aZ) aZ)) (λw=>aZ))
namespace iR
def bh(a0 D:Zg)(B:Int):aY (Fw Int Unit X'):=bg (decide (B<(len a0))) ((idx a0 B).bind λu=>(idx D B).bind λw=>bg (u==w) (some (.n (wrap .i64 (B+1)))) ((idx a0 B).bind λz=>(idx D B).bind λC=>some (.r (decide (z<C))))) (some (.x ()))
def W1(a0 B:Zg)(D:Int):aY X':=(bF (λq:Int=>bh a0 B q) D).bind (Fw.elim (λe=>some false) (λe=>some e))
end iR
def iR(a0 B:Zg):aY X':=(iE a0).bind λu=>(iE B).bind λw=>bg (u==w) (iR.W1 a0 B 0) ((iE a0).bind λz=>(iE B).bind λC=>some (decide (z<C)))
open iR in
instance Wz(a0 B:Zg):Fc Sy cL (iR a0 B):=Fc.M 80 [enc a0,enc B] (bu 9 λz _=>bu 1 λC _=>cz 3 10 (dx 11 (λw=>(bE [Cv 0 a0,Cv 1 B,Iv 5 w] [])) (λu=>(0,(bE [] []))) (λu=>(bE [Bv 4 u] [])) (λw=>bQ 6 a0 (bp 3 19 (bC 9 λD _=>bC 3 λG _=>cz 4 30 aZ (bC 5 λI _=>bC 3 λJ _=>aZ)) aZ)) (λu=>aZ) (λu=>aZ)) (bu 4 λL _=>bu 1 λO _=>aZ))
namespace eT
def bh(a0 D:Zg)(B:Int):aY (Fw Int Unit Unit):=bg (decide (B<(len a0))) ((idx a0 B).bind λu=>(idx D B).bind λw=>bg (u==w) (some (.n (wrap .i64 (B+1)))) (some (.r ()))) (some (.x ()))
def W1(a0 B:Zg)(D:Int):aY X':=(bF (λq:Int=>bh a0 B q) D).bind (Fw.elim (λe=>some true) (λe=>some false))
end eT
def eT(a0 B:Zg):aY X':=bg ((len a0)==(len B)) (eT.W1 a0 B 0) (some false)
open eT in
instance S7(a0 B:Zg):Fc Sy cL (eT a0 B):=Fc.M 81 [enc a0,enc B] (bQ 9 a0 (bQ 1 B (cz 3 10 (dx 11 (λw=>(bE [Cv 0 a0,Cv 1 B,Iv 5 w] [])) (λu=>(0,(bE [] []))) (λu=>(bE [Bv 4 false] [])) (λw=>bQ 6 a0 (bp 3 14 (bC 9 λz _=>bC 3 λC _=>cz 4 25 aZ aZ) aZ)) (λu=>aZ) (λu=>aZ)) aZ)))
namespace iN
def bh(D:Zb)(G:Zg)(B:Int):aY (Fw Int Int Empty):=(bg (decide (B<(len D))) ((idx D B).bind λu=>(iR u G).bind λw=>some w) (some false):aY X').bind λz=>bg z (some (.n (wrap .i64 (B+1)))) (some (.x B))
def W1(B:Zb)(G:Zg)(D:Int):aY Zb:=(bF (λq:Int=>bh B G q) D).bind (Fw.elim (λe=>(bg (decide (e<(len B))) ((idx B e).bind λz=>(eT z G).bind λC=>some C) (some false):aY X').bind λI=>bg I (some B) ((gN B none (some e)).bind λJ=>(pJ (Sl.row []:Zb) J).bind λL=>(fu L (G:Zg)).bind λO=>(gN B (some e) none).bind λu=>(pJ O u).bind λw=>some w)) (λe=>elim e))
end iN
def iN(B:Zb)(D:Zg):aY Zb:=iN.W1 B D 0
open iN in
instance Wc(B:Zb)(D:Zg):Fc Sy cL (iN B D):=Fc.N 58 [enc B,enc D] (eG 13 (λw=>(bE [Cv 0 B,Cv 1 D,Iv 5 w] [])) (λu=>(0,(bE [Cv 0 B,Cv 1 D,Iv 5 u] []))) (λw=>bQ 6 B (bG 2 7 [11] 18 (bp 2 11 (bC 2 λG _=>bu 2 λI _=>bq 1) (bq 7)) λJ=>bp 2 18 aZ aZ)) (λu=>bQ 7 B (bG 2 7 [25] 32 (bp 2 25 (bC 2 λL _=>bu 2 λO _=>bq 1) (bq 7)) λQ=>bp 2 32 aZ (zk 5 34 ([]:aX Zg) (Cu 2 false true [.int .i64 u] λS _=>Ar 0 34 38 λT _=>zk 7 41 ([D]:aX Zg) (nL 0 38 41 42 λU _=>Cu 8 true false [.int .i64 u] λz _=>Ar 0 42 47 λC _=>aZ))))))
namespace eO
def fh(D G:Zb)(W:Int)(J:Zb)(U:Z4)(B:Zb)(k9:Int):aY (Fw ((Zb)×Int) Zb Empty):=bg (decide (k9<(len J))) ((idx J k9).bind λu=>(iN B u).bind λw=>some (.n (w,wrap .i64 (k9+1)))) (some (.x B))
def W3(B G D:Zb)(U:Int)(W:Zb)(k9:Int)(J:Z4):aY (Fw ((Zb)×Int) Zb Empty):=(bF (λq:(Zb)×Int=>fh B G U W J q.1 q.2) (D,k9)).bind (Fw.elim (λe=>some (.n (e,wrap .i64 (U+1)))) (λe=>elim e))
def bH(B G:Zb)(J:Z4)(D:Zb)(U:Int):aY (Fw ((Zb)×Int) Zb Empty):=bg (decide (U<(len B))) ((idx B U).bind λu=>(kg J u).bind λw=>W3 B G D U w 0 J) (some (.x D))
def W2(B D G:Zb)(U:Int)(J:Z4):aY (Fw ((Zb)×(Zb)) Zb Unit):=(bF (λq:(Zb)×Int=>bH B D J q.1 q.2) (G,U)).bind (Fw.elim (λe=>some (.n (e,D))) (λe=>elim e))
def bh(G:Z4)(B D:Zb):aY (Fw ((Zb)×(Zb)) Zb Unit):=bg (decide ((len B)>0)) ((pJ D B).bind λu=>bg (decide ((len u)>5000)) (some (.r ())) (W2 B u (Sl.nil:Zb) 0 G)) (some (.x D))
def W1(B D:Zb)(G:Z4):aY ((Zb)×X'):=(bF (λq:(Zb)×(Zb)=>bh G q.1 q.2) (B,D)).bind (Fw.elim (λe=>some (e,true)) (λe=>some ((Sl.nil:Zb),false)))
end eO
def eO(B:Z4):aY ((Zb)×X'):=(uT (len B.procs) (0:Int)).bind λu=>eO.W1 (Sl.row [u]:Zb) (Sl.nil:Zb) B
open eO in
instance Zs(B:Z4):Fc Sy cL (eO B):=Fc.N 33 [enc B] (bT 2 1 B (bQ 8 B.procs (V6 0 13 λL _=>zk 1 14 ([L]:aX Zg) (dx 13 (λu=>(bE [Pv 1,Cv 4 u.1,Ov 5] [Xb 1 B,Lb 2005 u.2])) (λC=>(0,(bE [Ov 5] [Lb 2005 C]))) (λC=>(bE [Ov 2,Bv 3 false] [Lb 2002 (Sl.nil:Zb)])) (λu=>bQ 7 u.1 (bp 3 17 (Ar 8 2005 20 λw _=>FB 7 20 w (bp 3 23 aZ (eG 18 (λz=>(bE [Pv 1,Cv 4 u.1,Ov 5,Cv 6 z.1,Iv 7 z.2] [Xb 1 B,Lb 2005 w])) (λG=>(2,(bE [Pv 1,Ov 5,Cv 6 G] [Xb 1 B,Lb 2005 w]))) (λz=>bQ 8 u.1 (bp 3 27 (bC 10 λO _=>bu 1 λI _=>eG 12 (λD=>(bE [Pv 1,Cv 4 u.1,Ov 5,Cv 6 D.1,Iv 7 z.2,Cv 8 I,Iv 9 D.2] [Xb 1 B,Lb 2005 w])) (λJ=>(4,(bE [Pv 1,Cv 4 u.1,Ov 5,Cv 6 J,Iv 7 z.2] [Xb 1 B,Lb 2005 w]))) (λD=>bQ 8 I (bp 3 39 (bC 9 λQ _=>bu 1 λS _=>aZ) aZ)) (λJ=>aZ)) aZ)) (λG=>aZ)))) aZ)) (λC=>aZ) (λC=>aZ)))))
namespace fK
def bH(G:Sl bR)(J:Int)(B D:Int):aY (Fw (Int×Int) Int Unit):=bg (decide (D<J)) ((idx G D).bind λu=>(gW u.events (λz=>rO z)).bind λw=>bg w (some (.r ())) (some (.n (wrap .i64 (B*(wrap .i64 ((len u.events)+1))),wrap .i64 (D+1))))) (some (.x B))
def W2(B:Int)(D:Sl bR)(G J:Int):aY X':=(bF (λq:Int×Int=>bH D G q.1 q.2) (B,J)).bind (Fw.elim (λe=>some (decide (e>5000))) (λe=>some false))
def bh(D:Sl bR)(G:Int)(U:Z4)(J B:Int):aY (Fw (Int×Int) Int Unit):=bg (decide (B<G)) ((idx D B).bind λu=>(bg (decide ((len u.vars)>12)) (some true) ((gW u.events (λz=>rJ z)).bind λw=>some w):aY X').bind λC=>bg C (some (.r ())) (some (.n (wrap .i64 (J+(len u.events)),wrap .i64 (B+1))))) (some (.x J))
def W1(U:Int)(D:Sl bR)(G J:Int)(B:Z4):aY X':=(bF (λq:Int×Int=>bh D G B q.1 q.2) (U,J)).bind (Fw.elim (λe=>bg (decide (e>60)) (some false) ((sJ B).bind λw=>bg w (bg (decide (e>24)) (fK.W2 1 B.procs (len B.procs) 0) ((eO B).bind λu=>(bg u.2 (some (decide ((len u.1)<=250))) (some true):aY X').bind λz=>some z)) (some true))) (λe=>some false))
end fK
def fK(B:Z4):aY X':=bg (decide ((len B.procs)>10)) (some false) (fK.W1 0 B.procs (len B.procs) 0 B)
open fK in
instance Xp(B:Z4):Fc Sy cL (fK B):=Fc.M 15 [enc B] (bT 2 1 B (bQ 8 B.procs (bp 3 14 aZ (bQ 13 B.procs (dx 5 (λD=>(bE [Pv 1,Iv 3 D.1,Cv 16 B.procs,Iv 17 (len B.procs),Iv 18 D.2] [Xb 1 B])) (λu=>(0,(bE [Pv 1,Iv 3 u] [Xb 1 B]))) (λu=>(bE [Bv 2 false] [])) (λD=>bp 7 19 (bC 7 λw _=>o4 2 5 0 w (bQ 7 w.events (bQ 8 w.vars (bG 2 4 [5,31] 35 (bp 2 31 (bq 4) (bu (F:=mL 30 [] (λz=>rJ z) mS.tq w.events) 2 λL _=>bq 1)) λO=>bp 2 35 aZ aZ)))) aZ) (λu=>bp 9 38 aZ (bu 7 λQ _=>cz 3 41 (bp 10 43 (bQ 11 B.procs (dx 5 (λG=>(bE [Iv 6 G.1,Cv 45 B.procs,Iv 46 (len B.procs),Iv 47 G.2] [])) (λC=>(2,(bE [Iv 6 C] []))) (λC=>(bE [Bv 2 false] [])) (λG=>bp 7 48 (bC 7 λI _=>o4 2 8 0 I (bQ 7 I.events (bu (F:=mL 32 [] (λz=>rO z) mS.tq I.events) 9 λS _=>bp 2 59 aZ aZ))) aZ) (λC=>aZ) (λC=>aZ))) (bu 6 λJ _=>bG 12 4 [9,70] 74 (cz 12 70 (bQ 1 J.1 (bq 2)) (bq 4)) λT=>aZ)) aZ)) (λu=>aZ))))))
def lg(D:T')(G B:Int)(r:(T'×Int×Int)->aY (X'×Int)):aY (X'×Int):=(r (D,B,wrap .i64 (G+1))).bind λu=>some ((!u.1),u.2)
abbrev EM(r:(Pred×Int×Int)->aY (Bool×Int))(a:yO Sy cL 16 (λz:Pred×Int×Int=>[cv z.1,.ptr 9002 0,iv z.2.2]) (λz:Pred×Int×Int=>[(9002,bx (z.2.1:Int))]) (λr:Bool×Int=>[.bool r.1]) (λ(z:Pred×Int×Int)(r:Bool×Int)=>[(9002,bx (r.2:Int))]) r)(D:Pred)(G B:Int):pe Sy cL (lg D G B r):=pe.mk' 35 [cv D,.ptr 9001 0,.v (.fptr (cells G))] [(9001,.box [.ptr 9002 0]),(9002,bx (B:Int))] (λr:Bool×Int=>[.bool r.1]) (λr:Bool×Int=>[(9001,.box [.ptr 9002 0]),(9002,bx (r.2:Int))]) (bT 2 3 D (uS 9 (pe.of (D,B,wrap .i64 (G+1)) a) λu _=>aZ))
section
variable{σ:Type}{gf:Y'}{ex:SW}{os:σ->dI}{p:T'->σ->aY (X'×σ)}(h:zl Sy cL (.clo gf [] ex) gf ex os p)(s0:Sl T')(x:σ)
abbrev wT:pe Sy cL (UR s0 p x):=pe.mk' 59 [cv s0,(.clo gf [] ex)] (os x) (λr=>[.int .i64 r.1]) (λr=>os r.2) (bQ 9 s0 (dx 5 (λq=>⟨[Cv 0 s0,(1,(.clo gf [] ex)),Iv 7 (len s0),Iv 8 q.1],os q.2,(os x).map (·.1),[],true,0⟩) (λe=>(0,⟨[],os e,(os x).map (·.1),[],true,0⟩)) (λe=>⟨[Iv 4 e.1],os e.2,(os x).map (·.1),[],true,0⟩) (λq=>bp 7 9 (bC 16 λy _=>Rf 1 h y q.2 λr _=>bp 2 16 aZ aZ) aZ) (λe=>JO 9 h [.int .i64 (-1)] rfl) (λe=>Le.of_eq (Kr h (ys:=[.int .i64 e.1]) Zae rfl)))) (hp:=λr=>h.wi x r.2)
abbrev qS:pe Sy cL (A8 s0 p x):=pe.mk' 34 [cv s0,(.clo gf [] ex)] (os x) (λr=>[.bool r.1]) (λr=>os r.2) (Ny 9 (wT h s0 x) (h.hd x (enc s0)) (λr=>h.put x r.2) λy _=>JO 5 h [.bool (decide (y.1>=0))] rfl) (hp:=λr=>h.wi x r.2)
end
section
variable{σ:Type}{gf:Y'}{ex:So}{os:σ->dI}{p:T'->σ->aY (X'×σ)}(h:zl Sy cL (.v (.clo gf [] ex)) gf (ex.map .v) os p)(s0:Sl T')(x:σ)
abbrev wW:pe Sy cL (UR s0 p x):=pe.mk' 59 [cv s0,(.v (.clo gf [] ex))] (os x) (λr=>[.int .i64 r.1]) (λr=>os r.2) (bQ 9 s0 (dx 5 (λq=>⟨[Cv 0 s0,(1,(.v (.clo gf [] ex))),Iv 7 (len s0),Iv 8 q.1],os q.2,(os x).map (·.1),[],true,0⟩) (λe=>(0,⟨[],os e,(os x).map (·.1),[],true,0⟩)) (λe=>⟨[Iv 4 e.1],os e.2,(os x).map (·.1),[],true,0⟩) (λq=>bp 7 9 (bC 16 λy _=>Rf 1 h y q.2 λr _=>bp 2 16 aZ aZ) aZ) (λe=>JO 9 h [.int .i64 (-1)] rfl) (λe=>Le.of_eq (Kr h (ys:=[.int .i64 e.1]) Zae rfl)))) (hp:=λr=>h.wi x r.2)
abbrev mY:pe Sy cL (A8 s0 p x):=pe.mk' 34 [cv s0,(.v (.clo gf [] ex))] (os x) (λr=>[.bool r.1]) (λr=>os r.2) (Ny 9 (wW h s0 x) (h.hd x (enc s0)) (λr=>h.put x r.2) λy _=>JO 5 h [.bool (decide (y.1>=0))] rfl) (hp:=λr=>h.wi x r.2)
end
def kI(G:T')(B D:Int)(r:(T'×Int×Int)->aY (X'×Int)):aY (X'×Int):=(bg (decide ((wrap .i64 (B-1))>=0)) (some (decide (D<=60))) (some false):aY X').bind λz=>(bg z (some (decide (((ByteArray.size G.name:Nat):Int)<=100))) (some false):aY X').bind λC=>(bg C ((A8 G.l (λx s=>lg x D s r) (wrap .i64 (B-1))).bind λu=>some ((!u.1),u.2)) (some (false,wrap .i64 (B-1))):aY (X'×Int)).bind λw=>some (w.1,w.2)
theorem Ek(r:(T'×Int×Int)->aY (X'×Int))(a:yO Sy cL 16 (λz:T'×Int×Int=>[cv z.1,.ptr 9002 0,iv z.2.2]) (λz:T'×Int×Int=>[(9002,bx (z.2.1:Int))]) (λr:X'×Int=>[.bool r.1]) (λ(z:T'×Int×Int)(r:X'×Int)=>[(9002,bx (r.2:Int))]) r)(G:T')(D B:Int):∀J,kI G D B r=some J->∃m',cL 16 [cv G,.ptr 9002 0,iv B] [(9002,bx (D:Int))]=some (((λr:X'×Int=>[.bool r.1]) J).map .v,m')/\∀U,mj m' ([(9002,bx (D:Int))].map (·.1)) U=some (qL U ((λr:X'×Int=>[(9002,bx (r.2:Int))]) J)):=(pe.mk' 16 [cv G,.ptr 9002 0,iv B] [(9002,bx (D:Int))] (λr:X'×Int=>[.bool r.1]) (λr:X'×Int=>[(9002,bx (r.2:Int))]) (bT 2 3 G (bG 22 3 [16] 19 (bp 22 16 (bq 3) (bq 3)) λw=>bG 1 5 [20] 25 (bp 1 20 (bq 5) (bq 5)) λC=>wu 1 6 [] (λu=>⟨[Bv 32 u.1],[(9002,.box [iv u.2]),Xb 3 G,(9001,.box [.ptr 9002 0])],[9002],[],true,0⟩) (bp 1 26 (dJ 2 28 (Pred.eX G.l) (uS 3 (qS (zl.ofK (σ:=Int) (g:=35) (e:=[.ptr 9001 0,cp B]) (os:=λs=>[(9001,.box [.ptr 9002 0]),(9002,bx (s:Int))]) (p:=(λx s=>lg x B s r)) (λx s=>EM r a x B s)) G.l (wrap .i64 (D-1))) λI _=>bq 2)) (bq 8)) λu=>aZ)):pe Sy cL (kI G D B r)).h
def Ab(G:T')(D B:Int):aY (X'×Int):=dD (λr(z:T'×Int×Int)=>kI z.1 z.2.1 z.2.2 r) 100000 (G,D,B)
abbrev Jx(G:Pred)(D B:Int):pe Sy cL (Ab G D B):=pe.of (G,D,B) (yO.fix (A:=λz:Pred×Int×Int=>[cv z.1,.ptr 9002 0,iv z.2.2]) (O:=λz:Pred×Int×Int=>[(9002,bx (z.2.1:Int))]) (E:=λr:Bool×Int=>[.bool r.1]) (M:=λ(z:Pred×Int×Int)(r:Bool×Int)=>[(9002,bx (r.2:Int))]) (b:=(λr(z:Pred×Int×Int)=>kI z.1 z.2.1 z.2.2 r)) Zae Zae Zae (λr a z=>Ek r a z.1 z.2.1 z.2.2) 100000)
namespace ki
def bh(B:Int)(D:T')(G J:Int)(r:(T'×Int)->Ps):aY (Fw (Int×Int) Int Empty):=(bg (decide (J<(len D.l))) (some (decide (G<=B))) (some false):aY X').bind λu=>bg u ((idx D.l J).bind λw=>(r (w,wrap .i64 (B-G))).bind λz=>some (.n (wrap .i64 (G+z),wrap .i64 (J+1)))) (some (.x G))
def W1(B G J:Int)(D:T')(r:(T'×Int)->Ps):Ps:=(bF (λq:Int×Int=>bh B D q.1 q.2 r) (G,J)).bind (Fw.elim (λe=>some e) (λe=>elim e))
end ki
def iY(D:T')(B:Int)(r:(T'×Int)->Ps):Ps:=ki.W1 B 1 0 D r
open ki in
theorem DF(r:(T'×Int)->Ps)(a:eR Sy cL 36 (λz:T'×Int=>[enc z.1,.int .i64 z.2]) (λr:Int=>[.int .i64 r]) r true)(D:T')(B:Int):Le ((iY D B r).bind λr=>some [.int .i64 r]) (gV cL 36 [enc D,.int .i64 B]):=(Fc.M 36 [enc D,.int .i64 B] (bT 2 2 D (eG 16 (λu=>(bE [Iv 1 B,Pv 2,Iv 5 u.1,Iv 6 u.2] [Xb 2 D])) (λw=>(0,(bE [Iv 5 w] []))) (λu=>dJ 7 9 (Pred.eX D.l) (bQ 0 D.l (bG 2 4 [12] 16 (bp 2 12 (bq 4) (bq 4)) λG=>bp 2 16 (dJ 9 21 (Pred.eX D.l) (bC 1 λC _=>bu (F:=Fc.of (C,wrap .i64 (B-u.1)) a) 4 λI _=>aZ)) aZ))) (λw=>aZ))):Fc Sy cL (iY D B r)).F.h ()
def ki(D:T')(B:Int):Ps:=dD (λr(z:T'×Int)=>iY z.1 z.2 r) 100000 (D,B)
instance Yb(D:T')(B:Int):Fc Sy cL (ki D B):=Fc.of (D,B) (eR.fix (A:=λz:T'×Int=>[enc z.1,.int .i64 z.2]) (E:=λr:Int=>[.int .i64 r]) (sc:=true) (b:=(λr(z:T'×Int)=>iY z.1 z.2 r)) Zae (λ_ _=>rfl) (λr a z=>DF r a z.1 z.2) 100000)
def pF(B:T'):Ps:=(ki B 200).bind λu=>some (if 201<u then 201 else u)
instance Zl(B:T'):Fc Sy cL (pF B):=Fc.M 17 [enc B] (bT 2 1 B (bu 6 λu _=>aZ))
def ye(J:Z4)(p1:T'):aY X':=(fK J).bind λw=>(bg w ((Ab p1 300 0).bind λu=>some (u.1,u.2)) (some (false,300)):aY (X'×Int)).bind λz=>(bg z.1 ((pF p1).bind λB=>(bg (decide (B<=100)) (some true) ((pF p1).bind λC=>some (decide (C>200))):aY X').bind λD=>some D) (some false):aY X').bind λG=>some G
instance ZU(B:Z4)(p1:T'):Fc Sy cL (ye B p1):=Fc.M 5 [enc B,enc p1] (bT 2 2 B (bT 0 3 p1 (bu 12 λw _=>wu 1 3 [] (λu=>(bE [Pv 3,Bv 11 u.1] [Xb 2 B,Xb 3 p1,(9002,.box [iv u.2])])) (bp 1 8 (uS 2 (Jx p1 300 0) λz _=>bq 1) (bq 4)) λu=>bG 1 9 [3,12] 21 (bp 1 12 (bu 1 λC _=>bG 2 4 [3,16] 20 (bp 2 16 (bq 4) (bu 1 λD _=>bq 2)) λG=>bq 1) (bq 9)) λI=>aZ)))
def pO(G D B:Int):aY X':=(bg (decide (G>=D)) (some (decide (G<=B))) (some false):aY X').bind λu=>some u
instance abU(G D B:Int):Fc Sy cL (pO G D B):=Fc.M 158 [.int .i64 G,.int .i64 D,.int .i64 B] (bG 11 4 [0,2,10] 14 (bp 11 10 (bq 4) (bq 4)) λu=>aZ)
def sB(B:Int):aY X':=(bg (decide (B>=97)) (some (decide (B<=122))) (some false):aY X').bind λu=>(bg u (some true) ((bg (decide (B>=65)) (some (decide (B<=90))) (some false):aY X').bind λw=>some w):aY X').bind λz=>some z
instance X5(B:Int):Fc Sy cL (sB B):=Fc.M 207 [.int .u8 B] (bG 10 3 [5] 8 (bp 10 5 (bq 3) (bq 3)) λu=>bG 1 7 [0,9] 16 (bp 1 9 (bq 7) (bG 3 3 [0,12] 15 (bp 3 12 (bq 3) (bq 3)) λw=>bq 1)) λz=>aZ)
def wI(B:Int):aY X':=(bg (decide (B>=48)) (some (decide (B<=57))) (some false):aY X').bind λu=>some u
instance Zd(B:Int):Fc Sy cL (wI B):=Fc.M 208 [.int .u8 B] (bG 10 3 [0,5] 8 (bp 10 5 (bq 3) (bq 3)) λu=>aZ)
namespace iq
def bh(s0:U')(D:Int)(B:Int):aY (Fw Int Unit Unit):=bg (decide (B<D)) ((mH s0 B).bind λz=>(sB z).bind λC=>(bg C (some false) ((mH s0 B).bind λG=>(wI G).bind λI=>some (!I)):aY X').bind λJ=>(bg J ((mH s0 B).bind λu=>some (!(u==95))) (some false):aY X').bind λw=>bg w (some (.r ())) (some (.n (wrap .i64 (B+1))))) (some (.x ()))
def W1(s0:U')(B D:Int):aY X':=(bF (λq:Int=>bh s0 B q) D).bind (Fw.elim (λe=>some true) (λe=>some false))
end iq
def iq(s0:U'):aY X':=(bg (toList s0==toList ByteArray.empty) (some true) (some (decide (((ByteArray.size s0:Nat):Int)>16))):aY X').bind λu=>(bg u (some true) ((mH s0 0).bind λw=>(sB w).bind λz=>some (!z)):aY X').bind λB=>bg B (some false) (iq.W1 s0 ((ByteArray.size s0:Nat):Int) 0)
open iq in
instance YP(s0:U'):Fc Sy cL (iq s0):=Fc.M 181 [.str s0] (bG 11 4 [6] 10 (bp 11 6 (bq 4) (bq 4)) λC=>bG 1 5 [11] 16 (bp 1 11 (bq 5) (BI 1 .i64 λD _=>bu 0 λG _=>bq 2)) λI=>bp 2 16 aZ (dx 13 (λw=>(bE [(0,.v (.str s0)),Iv 18 ((ByteArray.size s0:Nat):Int),Iv 19 w] [])) (λu=>(0,(bE [] []))) (λu=>(bE [Bv 2 false] [])) (λw=>bp 7 20 (BI 15 .i64 λJ _=>bu 0 λL _=>bG 2 6 [27] 33 (cz 2 27 (bq 6) (BI 2 .i64 λO _=>bu 0 λQ _=>bq 2)) λS=>bG 1 5 [3,34] 39 (bp 1 34 (BI 2 .i64 λz _=>bq 2) (bq 5)) λB=>bp 2 39 aZ aZ) aZ) (λu=>aZ) (λu=>aZ)))
def kX(B D:bR):aY X':=some (toList B.name==toList D.name)
instance Mp(B D:bR):Fc Sy cL (kX B D):=Fc.M 183 [enc B,.fptr (cells D)] (bT 2 2 B aZ)
namespace iw
def bh(s0:Sl bR)(D:Int)(B:Int)(p1:bR->aY X'):aY (Fw Int Unit Int):=bg (decide (B<D)) ((idx s0 B).bind λu=>(p1 u).bind λw=>bg w (some (.r B)) (some (.n (wrap .i64 (B+1))))) (some (.x ()))
def W1(s0:Sl bR)(B D:Int)(p1:bR->aY X'):Ps:=(bF (λq:Int=>bh s0 B q p1) D).bind (Fw.elim (λe=>some (-1)) (λe=>some e))
end iw
def iw(s0:Sl bR)(p1:bR->aY X'):Ps:=iw.W1 s0 (len s0) 0 p1
open iw in
abbrev zg(g1:FuncId)(e1:aX V)(p1:bR->aY Bool)(a:mS Sy cL g1 [] e1 (λz:bR=>[enc z]) (λr:Bool=>[.bool r]) p1 true)(s0:Sl bR):Fc Sy cL (iw s0 p1):=Fc.M 209 [enc s0,.clo g1 [] e1] (bQ 9 s0 (dx 5 (λw=>(bE [Cv 0 s0,(1,.v (.clo g1 [] e1)),Iv 7 (len s0),Iv 8 w] [])) (λu=>(0,(bE [] []))) (λu=>(bE [Iv 4 u] [])) (λw=>bp 7 9 (bC 16 λB _=>zK 1 a.f B λC _=>bp 2 16 aZ aZ) aZ) (λu=>aZ) (λu=>aZ)))
def jE(s0:Sl bR)(p1:bR->aY X'):aY X':=(iw s0 p1).bind λu=>some (decide (u>=0))
abbrev xF(g1:FuncId)(e1:aX V)(p1:bR->aY Bool)(a:mS Sy cL g1 [] e1 (λz:bR=>[enc z]) (λr:Bool=>[.bool r]) p1 true)(s0:Sl bR):Fc Sy cL (jE s0 p1):=Fc.M 182 [enc s0,.clo g1 [] e1] (bu (F:=zg g1 e1 p1 a s0) 9 λu _=>aZ)
def kY(B D:Var):aY X':=some (toList B.name==toList D.name)
instance Mq(B D:Var):Fc Sy cL (kY B D):=Fc.M 184 [enc B,.fptr (cells D)] (aZ)
namespace fQ
def bh(s0:Sl Var)(D:Int)(B:Int)(p1:Var->aY X'):aY (Fw Int Unit Int):=bg (decide (B<D)) ((idx s0 B).bind λu=>(p1 u).bind λw=>bg w (some (.r B)) (some (.n (wrap .i64 (B+1))))) (some (.x ()))
def W1(s0:Sl Var)(B D:Int)(p1:Var->aY X'):Ps:=(bF (λq:Int=>bh s0 B q p1) D).bind (Fw.elim (λe=>some (-1)) (λe=>some e))
end fQ
def fQ(s0:Sl Var)(p1:Var->aY X'):Ps:=fQ.W1 s0 (len s0) 0 p1
open fQ in
abbrev pG(g1:FuncId)(e1:aX V)(p1:Var->aY Bool)(a:mS Sy cL g1 [] e1 (λz:Var=>[enc z]) (λr:Bool=>[.bool r]) p1 true)(s0:Sl Var):Fc Sy cL (fQ s0 p1):=Fc.M 172 [enc s0,.clo g1 [] e1] (bQ 9 s0 (dx 5 (λw=>(bE [Cv 0 s0,(1,.v (.clo g1 [] e1)),Iv 7 (len s0),Iv 8 w] [])) (λu=>(0,(bE [] []))) (λu=>(bE [Iv 4 u] [])) (λw=>bp 7 9 (bC 16 λB _=>zK 1 a.f B λC _=>bp 2 16 aZ aZ) aZ) (λu=>aZ) (λu=>aZ)))
def iJ(s0:Sl Var)(p1:Var->aY X'):aY X':=(fQ s0 p1).bind λu=>some (decide (u>=0))
abbrev rW(g1:FuncId)(e1:aX V)(p1:Var->aY Bool)(a:mS Sy cL g1 [] e1 (λz:Var=>[enc z]) (λr:Bool=>[.bool r]) p1 true)(s0:Sl Var):Fc Sy cL (iJ s0 p1):=Fc.M 165 [enc s0,.clo g1 [] e1] (bu (F:=pG g1 e1 p1 a s0) 9 λu _=>aZ)
namespace fq
def bh(D:Sl Var)(G:Int)(J:bR)(B:Int):aY (Fw Int Unit Int):=bg (decide (B<G)) ((idx D B).bind λu=>(iq u.name).bind λI=>(bg I ((gN J.vars none (some B)).bind λL=>(iJ L (λz=>kY z u)).bind λO=>some O) (some true):aY X').bind λw=>bg w (some (.r 13)) ((pO u.init_ (-1073741824) 1073741824).bind λC=>bg C (some (.n (wrap .i64 (B+1)))) (some (.r 2)))) (some (.x ()))
def W1(D:Sl Var)(G J:Int)(B:bR):Ps:=(bF (λq:Int=>bh D G B q) J).bind (Fw.elim (λe=>bg (decide ((len B.events)>64)) (some 5) (some 0)) (λe=>some e))
end fq
def fq(G:Z4)(p1:Int):Ps:=(idx G.procs p1).bind λu=>(iq u.name).bind λw=>(bg w ((gN G.procs none (some p1)).bind λB=>(jE B (λz=>kX z u)).bind λC=>some C) (some true):aY X').bind λD=>bg D (some 13) (bg (decide ((len u.vars)>8)) (some 5) (fq.W1 u.vars (len u.vars) 0 u))
open fq in
instance Qf(D:Z4)(p1:Int):Fc Sy cL (fq D p1):=Fc.M 159 [enc D,.int .i64 p1] (bT 2 2 D (bC 8 λu _=>o4 2 5 0 u (bu 8 λO _=>bG 2 7 [1,2,18] 25 (cz 2 18 (Cu 3 false true [.int .i64 p1] λG _=>bY (F:=xF 183 [.fptr (cells u)] (λz=>kX z u) mS.tq G) 1 λQ _=>bq 1) (bq 7)) λS=>bp 3 13 aZ (bQ 5 u.vars (bp 4 26 aZ (bQ 9 u.vars (dx 5 (λB=>(bE [Pv 5,Cv 32 u.vars,Iv 33 (len u.vars),Iv 34 B] [Xb 5 u])) (λw=>(1,(bE [Pv 5] [Xb 5 u]))) (λw=>(bE [Iv 4 w] [])) (λB=>bp 7 35 (bC 8 λC _=>bu 11 λT _=>bG 2 7 [6,44] 51 (cz 2 44 (Cu 3 false true [.int .i64 B] λI _=>bY (F:=rW 184 [.fptr (cells C)] (λz=>kY z C) mS.tq I) 1 λU _=>bq 1) (bq 7)) λJ=>bp 3 39 aZ (bu 5 λL _=>cz 4 52 aZ aZ)) aZ) (λw=>bQ 7 u.events (bp 3 61 aZ aZ)) (λw=>aZ))))))))
def j_(B:Z4):aY Z4:=some B
instance Xr(B:Z4):Fc Sy cL (j_ B):=Fc.NE (λr:Z4=>[(.clo 185 [] [.fptr (cells r)])]) 160 [enc B] (bT 2 1 B aZ)
namespace jy
def J1(p1:Int)(D:X')(G:Z4)(B:WF):aY X':=bg D ((pO B.peer 0 (wrap .i64 ((len G.procs)-1))).bind λu=>(bg u (some (!(B.peer==p1))) (some false):aY X').bind λw=>(bg w ((pO B.message 0 199).bind λz=>some z) (some false):aY X').bind λC=>some C) (some false)
end jy
def jy(B:Z4)(p1:Int)(e2:WF):aY X':=bg (e2.kind==1) ((bg (e2.peer==0) (some (e2.message==0)) (some false):aY X').bind λu=>some u) (bg (e2.kind==2) (jy.J1 p1 true B e2) (jy.J1 p1 (e2.kind==3) B e2))
open jy in
instance X3(B:Z4)(p1:Int)(e2:WF):Fc Sy cL (jy B p1 e2):=Fc.M 186 [enc B,.int .i64 p1,enc e2] (bT 2 3 B (bT 0 5 e2 (bp 17 9 (bG 7 4 [5,14] 18 (bp 7 14 (bq 4) (bq 4)) λD=>aZ) (bp 8 19 (qi 4 (bp 0 19 (bQ 7 B.procs (bu 1 λu _=>bG 1 5 [1,29] 34 (bp 1 29 (bq 5) (bq 5)) λw=>bG 1 4 [5,35] 39 (bp 1 35 (bu 2 λz _=>bq 1) (bq 4)) λC=>aZ)) aZ)) (qi 7 (bp 0 19 (bQ 7 B.procs (bu 1 λu _=>bG 1 5 [1,29] 34 (bp 1 29 (bq 5) (bq 5)) λw=>bG 1 4 [5,35] 39 (bp 1 35 (bu 2 λz _=>bq 1) (bq 4)) λC=>aZ)) aZ))))))
def mh(B D:Assign):aY X':=some (B.var==D.var)
instance ND(B D:Assign):Fc Sy cL (mh B D):=Fc.M 188 [enc B,.fptr (cells D)] (aZ)
namespace gu
def bh(s0:Sl Assign)(D:Int)(B:Int)(p1:Assign->aY X'):aY (Fw Int Unit Int):=bg (decide (B<D)) ((idx s0 B).bind λu=>(p1 u).bind λw=>bg w (some (.r B)) (some (.n (wrap .i64 (B+1))))) (some (.x ()))
def W1(s0:Sl Assign)(B D:Int)(p1:Assign->aY X'):Ps:=(bF (λq:Int=>bh s0 B q p1) D).bind (Fw.elim (λe=>some (-1)) (λe=>some e))
end gu
def gu(s0:Sl Assign)(p1:Assign->aY X'):Ps:=gu.W1 s0 (len s0) 0 p1
open gu in
abbrev xZ(g1:FuncId)(e1:aX V)(p1:Assign->aY Bool)(a:mS Sy cL g1 [] e1 (λz:Assign=>[enc z]) (λr:Bool=>[.bool r]) p1 true)(s0:Sl Assign):Fc Sy cL (gu s0 p1):=Fc.M 210 [enc s0,.clo g1 [] e1] (bQ 9 s0 (dx 5 (λw=>(bE [Cv 0 s0,(1,.v (.clo g1 [] e1)),Iv 7 (len s0),Iv 8 w] [])) (λu=>(0,(bE [] []))) (λu=>(bE [Iv 4 u] [])) (λw=>bp 7 9 (bC 16 λB _=>zK 1 a.f B λC _=>bp 2 16 aZ aZ) aZ) (λu=>aZ) (λu=>aZ)))
def iP(s0:Sl Assign)(p1:Assign->aY X'):aY X':=(gu s0 p1).bind λu=>some (decide (u>=0))
abbrev vK(g1:FuncId)(e1:aX V)(p1:Assign->aY Bool)(a:mS Sy cL g1 [] e1 (λz:Assign=>[enc z]) (λr:Bool=>[.bool r]) p1 true)(s0:Sl Assign):Fc Sy cL (iP s0 p1):=Fc.M 187 [enc s0,.clo g1 [] e1] (bu (F:=xZ g1 e1 p1 a s0) 9 λu _=>aZ)
namespace dO
def bH(D:Sl Assign)(G:Int)(J:WF)(U:bR)(B:Int):aY (Fw Int Unit Int):=bg (decide (B<G)) ((idx D B).bind λu=>(pO u.var 0 (wrap .i64 ((len U.vars)-1))).bind λI=>(bg I ((pO u.value (-1073741824) 1073741824).bind λL=>some (!L)) (some true):aY X').bind λO=>bg O (some (.r 2)) ((gN J.assign none (some B)).bind λw=>(iP w (λz=>mh z u)).bind λC=>bg C (some (.r 8)) (some (.n (wrap .i64 (B+1)))))) (some (.x ()))
def W2(B:Sl Assign)(D G:Int)(J:WF)(U:bR):Ps:=(bF (λq:Int=>bH B D J U q) G).bind (Fw.elim (λe=>some 0) (λe=>some e))
def J1(D:Int)(J:Z4)(G:a_)(B:WF)(U:bR):Ps:=(jy J G.proc B).bind λu=>bg u ((pO B.time 0 1099511627776).bind λw=>(bg w (some (decide (B.time<D))) (some true):aY X').bind λz=>bg z (some 11) (bg (decide ((len B.assign)>8)) (some 5) (dO.W2 B.assign (len B.assign) 0 B U))) (some 3)
theorem mW(D:Int)(U:Z4)(J:a_)(B:WF)(G:bR):Le ((J1 D U J B G).bind (λr=>some [.int .i64 r])) (bZ Sy cL (pI (tr Tx 161)) (rF (tb Tx 161) [1,1,1,1,0] [] (bE [Pv 3,Pv 4,Pv 5,Pv 7,Iv 8 D] [Xb 3 U,Xb 4 J,Xb 5 B,Xb 7 G]))):=bu 8 λO _=>cz 4 28 (bu 5 λQ _=>bG 2 5 [8,40] 45 (cz 2 40 (bq 5) (bq 5)) λS=>bp 3 35 aZ (bQ 5 B.assign (bp 4 46 aZ (bQ 9 B.assign (dx 5 (λw=>(bE [Pv 5,Pv 7,Cv 52 B.assign,Iv 53 (len B.assign),Iv 54 w] [Xb 5 B,Xb 7 G])) (λu=>(1,(bE [] []))) (λu=>(bE [Iv 6 u] [])) (λw=>bp 7 55 (bC 8 λC _=>bQ 13 G.vars (bu 1 λT _=>bG 2 5 [68] 73 (cz 2 68 (bu 2 λW _=>bq 2) (bq 5)) λX=>bp 3 59 aZ (Cu 6 false true [.int .i64 w] λI _=>bY (F:=vK 188 [.fptr (cells C)] (λz=>mh z C) mS.tq I) 1 λL _=>bp 3 74 aZ aZ))) aZ) (λu=>aZ) (λu=>aZ)))))) aZ
end dO
def dO(D:Z4)(B:a_)(e2:WF):Ps:=(idx D.procs B.proc).bind λu=>bg (decide (B.index>1)) ((idx u.events (wrap .i64 (B.index-2))).bind λw=>dO.J1 w.time D B e2 u) (dO.J1 0 D B e2 u)
open dO in
instance SD(D:Z4)(B:a_)(e2:WF):Fc Sy cL (dO D B e2):=Fc.M 161 [enc D,enc B,enc e2] (bT 2 3 D (bT 1 5 e2 (bC 9 λu _=>o4 2 7 0 u (bp 15 19 (bC 7 λw _=>nR 6 (mW w.time D B e2 u)) (nR 4 (mW 0 D B e2 u))))))
def th(e0:WF)(B D:Int):aY X':=(bg (e0.kind==2) (some (e0.message==B)) (some false):aY X').bind λu=>(bg u (some (e0.peer==D)) (some false):aY X').bind λw=>some w
instance U9(e0:WF)(B D:Int):Fc Sy cL (th e0 B D):=Fc.M 211 [enc e0,.fptr (cells B),.fptr (cells D)] (bT 2 3 e0 (bG 9 5 [1,8] 13 (bp 9 8 (bq 5) (bq 5)) λu=>bG 1 5 [2,3,14] 19 (bp 1 14 (bq 5) (bq 5)) λw=>aZ))
def wM(D:Z4)(p1 G B:Int):aY X':=(idx D.procs p1).bind λu=>(gW u.events (λz=>th z G B)).bind λw=>some w
instance Zo(G:Z4)(p1 D B:Int):Fc Sy cL (wM G p1 D B):=Fc.M 189 [enc G,.int .i64 p1,.int .i64 D,.int .i64 B] (bT 2 4 G (bC 10 λu _=>bY (F:=mL 211 [.fptr (cells D),.fptr (cells B)] (λz=>th z D B) mS.tq u.events) 3 λw _=>aZ))
namespace fm
def kV(D G:Z4)(J:aY (b9 200 bB))(U:a_)(W:Int)(x:a_×WF)(B:b9 200 bB):aY (Fw (b9 200 bB) Empty (a_×Int×(b9 200 bB))):=bg (x.2.kind==2) ((b9.at B x.2.message).bind λu=>bg (decide (u.from_.index>0)) (some (.r (x.1,8,B))) ((b9.at B x.2.message).bind λw=>some (.n (b9.set B x.2.message (⟨x.1,w.to_⟩:bB))))) (bg (x.2.kind==3) ((b9.at B x.2.message).bind λz=>bg (decide (z.to_.index>0)) (some (.r (x.1,8,B))) ((wM G x.2.peer x.2.message x.1.proc).bind λC=>bg C ((b9.at B x.2.message).bind λI=>some (.n (b9.set B x.2.message (⟨I.from_,x.1⟩:bB)))) (some (.r (x.1,7,B))))) (some (.n B)))
def E1(B G:Z4)(J:aY (b9 200 bB))(U:a_)(W:Int)(D:b9 200 bB):aY ((aY (b9 200 bB))×a_×Int):=(kf B).bind λu=>(mb (λ(x:a_×WF)(q:b9 200 bB)=>kV B G J U W x q) u D).bind (Fw.sZ (λq=>some (some q,⟨0,0⟩,0)) (λe=>elim e) (λe=>some ((none:aY (b9 200 bB)),e.1,e.2.1)))
end fm
def fm(B:Z4):aY ((aY (b9 200 bB))×a_×Int):=(j_ B).bind λu=>fm.E1 u B (none:aY (b9 200 bB)) (⟨0,0⟩:a_) 0 (b9.Q7 200 (⟨⟨0,0⟩,⟨0,0⟩⟩:bB))
open fm in
instance OW(D:Z4):Fc Sy cL (fm D):=Fc.N 162 [enc D] (bT 2 1 D (bT 8 10 (b9.Q7 200 (⟨⟨0,0⟩,⟨0,0⟩⟩:bB)) (Bal 0 5 (bE [Pv 1,Pv 2,Pv 3,Pv 4,Pv 10] [Xb 1 D,(2,.box [cv (none:aY (b9 200 bB))]),Xb 3 (⟨0,0⟩:a_),(4,.box [iv 0]),Xb 10 (b9.Q7 200 (⟨⟨0,0⟩,⟨0,0⟩⟩:bB))]) [cv (none:aY (b9 200 bB))] (by simp only[bE,As,sS,uK,tg,uH,vZ,uy,vM,sV,uE,Ak,vB,wh,v7,vQ,yq,yD,uP,wm];rfl) (bu 7 λB _=>GP λO C=>Di 4 [Pv 1,Pv 2,Pv 3,Pv 4,Pv 5,(12,.v (.clo 185 [] [.fptr (cells B)]))] (λw=>[Xb 1 D,(2,.box [cv (none:aY (b9 200 bB))]),Xb 3 (⟨0,0⟩:a_),(4,.box [iv 0]),(5,.box [.ptr 10 0]),Xb 10 w]) (λz=>elim z) (λz=>[Xb 1 D,(2,.box [cv (none:aY (b9 200 bB))]),Xb 3 z.1,(4,.box [iv z.2.1]),(5,.box [.ptr 10 0]),Xb 10 z.2.2]) (A6 B O C) (λu w=>Bal 2 6 ⟨[Pv 1,Pv 2,Pv 3,Pv 4,Pv 5,(12,.v (.clo 185 [] [.fptr (cells B)])),Cv 13 u.1,Cv 14 u.2],[Xb 1 D,(2,.box [cv (none:aY (b9 200 bB))]),Xb 3 (⟨0,0⟩:a_),(4,.box [iv 0]),(5,.box [.ptr 10 0]),Xb 10 w],[1,2,3,4,5],[],true,0⟩ [iv 0,iv 0] (by simp only[bE,As,sS,uK,tg,uH,vZ,uy,vM,sV,uE,Ak,vB,wh,v7,vQ,yq,yD,uP,wm];rfl) (Bal 4 7 ⟨[Pv 1,Pv 2,Pv 3,Pv 4,Pv 5,(12,.v (.clo 185 [] [.fptr (cells B)])),Cv 14 u.2,Pv 6],[Xb 1 D,(2,.box [cv (none:aY (b9 200 bB))]),Xb 3 (⟨0,0⟩:a_),(4,.box [iv 0]),(5,.box [.ptr 10 0]),Xb 10 w,Xb 6 u.1],[1,2,3,4,5],[],true,0⟩ [iv 0,iv 0,iv 0,iv 0,.v .bO] (by simp only[bE,As,sS,uK,tg,uH,vZ,uy,vM,sV,uE,Ak,vB,wh,v7,vQ,yq,yD,uP,wm];rfl) (o4 0 7 0 u.2 (Aj 1 (bp 22 19 (JH 7 .i64 10 λG Q=>V0 2 1 false 10 w u.2.message 1 G Q (.int .i64 G.from_.index) (by rfl) (bp 3 28 aZ (JH 8 .i64 10 λI S=>Wr 1 10 w u.2.message 0 I S (⟨u.1,I.to_⟩:bB) u.1 rfl aZ))) (bp 7 36 (JH 7 .i64 10 λJ T=>V0 2 1 false 10 w u.2.message 3 J T (.int .i64 J.to_.index) (by rfl) (bp 3 45 aZ (bu 12 λW _=>cz 3 54 (JH 8 .i64 10 λL U=>Wr 1 10 w u.2.message 2 L U (⟨L.from_,u.1⟩:bB) u.1 rfl aZ) aZ))) aZ)))))) (λw=>ab8 13 (bE [Pv 2,Pv 3,Pv 4] [(2,.box [.ptr 10 0]),Xb 3 (⟨0,0⟩:a_),(4,.box [iv 0]),Xb 10 w]) [.ptr 10 0,cv (⟨0,0⟩:a_),iv 0] (YO (d:=10) (x:=w) (vs:=[enc (⟨0,0⟩:a_),.int .i64 0]) Zae) Zae) (λx=>elim x) (λz=>aZ)))))
namespace kj
def J1(D:b9 200 bB)(B:Sl a_)(J:Sl WF)(G:a_):aY (Sl a_):=(idx J (wrap .i64 (G.index-1))).bind λu=>(bg (u.kind==2) ((b9.at D u.message).bind λw=>some (decide (w.to_.index>0))) (some false):aY X').bind λz=>bg z ((b9.at D u.message).bind λC=>(fu B (C.to_:a_)).bind λI=>some I) (some B)
theorem mW(B:b9 200 bB)(D:Sl a_)(J:Sl WF)(G:a_):Le ((J1 B D J G).bind (λr=>some [enc r])) (bZ Sy cL (pI (tr Tx 190)) (rF (tb Tx 190) [1,1,1,1,0,0] [] (bE [Kv 1 B,Pv 5,Ov 7,Cv 8 J] [Xb 5 G,Lb 2007 D]))):=bC 7 λu _=>o4 2 9 0 u (bG 8 10 [40] 50 (bp 8 40 (Oj 4 .i64 λw z=>Vi 0 2 B u.message 0 w z (Vi 0 1 B u.message 2 w z (OV 0 1 false B u.message 3 w z (.int .i64 w.to_.index) (by rfl) (bq 2)))) (bq 10)) λL=>bp 2 50 (Oj 7 .i64 λC I=>Vi 0 2 B u.message 0 C I (OV 0 2 true B u.message 2 C I (enc C.to_) (by rfl) (nL 1 2007 59 60 λO _=>aZ))) aZ)
end kj
def kj(D:Z4)(B:b9 200 bB)(x2:a_):aY (Sl a_):=(idx D.procs x2.proc).bind λu=>bg (decide (x2.index<(len u.events))) (kj.J1 B (Sl.row [⟨x2.proc,wrap .i64 (x2.index+1)⟩]:Sl a_) u.events x2) (kj.J1 B (Sl.nil:Sl a_) u.events x2)
open kj in
instance Zz(D:Z4)(B:b9 200 bB)(x2:a_):Fc Sy cL (kj D B x2):=Fc.N 190 [enc D,.fptr (cells B),enc x2] (bT 2 3 D (bC 15 λu _=>bQ 11 u.events (bp 3 21 (VV 10 29 30 .bO (⟨x2.proc,wrap .i64 (x2.index+1)⟩:a_) (nR 5 (mW B (Sl.row [⟨x2.proc,wrap .i64 (x2.index+1)⟩]:Sl a_) u.events x2))) (nR 5 (mW B (Sl.nil:Sl a_) u.events x2)))))
namespace jw
def fh(U:Z4)(W:Sl a_)(Y:Int)(a:Z4)(b:b9 200 bB)(c:a_)(d:X')(J:a_)(B:Sl a_)(G:Int)(D:Mo a_ X'):aY (Fw ((Sl a_)×Int×(Mo a_ X')) ((Sl a_)×(Mo a_ X')) Unit):=bg (decide (G<Y)) ((idx W G).bind λu=>bg (Oc u J) (some (.r ())) (bg (pE D u false) (some (.n (B,wrap .i64 (G+1),D))) ((fu B (u:a_)).bind λw=>some (.n (w,wrap .i64 (G+1),nK D u true))))) (some (.x (B,D)))
def W3(D:Sl a_)(B:Z4)(U:Sl a_)(W Y:Int)(a:Z4)(b:b9 200 bB)(c:a_)(d:X')(G:a_)(J:Mo a_ X'):aY (Fw ((Sl a_)×(Mo a_ X')) Unit Unit):=(bF (λq:(Sl a_)×Int×(Mo a_ X')=>fh B U W a b c d G q.1 q.2.1 q.2.2) (D,Y,J)).bind (Fw.elim (λe=>some (.n (e.1,e.2))) (λe=>some (.r ())))
def bH(D G:Z4)(J:b9 200 bB)(Y:a_)(a:X')(U:a_)(B:Sl a_)(W:Mo a_ X'):aY (Fw ((Sl a_)×(Mo a_ X')) Unit Unit):=bg (decide ((len B)>0)) ((Sl.lW B (wrap .i64 ((len B)-1))).bind λw=>(Sl.get B w).bind λz=>(qQ B none (some (wrap .i64 ((len B)-1)))).bind λC=>(kj G J z).bind λu=>W3 C D u (len u) 0 G J Y a U W) (some (.x ()))
def W2(G:Sl a_)(B U:Z4)(W:b9 200 bB)(Y:a_)(a:X')(D:a_)(J:Mo a_ X'):aY (Fw Unit Empty a_):=(bF (λq:(Sl a_)×(Mo a_ X')=>bH B U W Y a D q.1 q.2) (G,J)).bind (Fw.elim (λe=>some (.n ())) (λe=>some (.r D)))
def kV(B D:Z4)(G:b9 200 bB)(J:a_)(U:X')(x:a_×WF):aY (Fw Unit Empty a_):=W2 (Sl.row [x.1]:Sl a_) B D G J U x.1 []
def E1(B D:Z4)(G:b9 200 bB)(J:a_)(U:X'):aY (a_×X'):=(kf B).bind λu=>(mb (λ(x:a_×WF)(q:Unit)=>kV B D G J U x) u ()).bind (Fw.sZ (λq=>some (⟨0,0⟩,false)) (λe=>elim e) (λe=>some (e,true)))
end jw
def jw(B:Z4)(D:b9 200 bB):aY (a_×X'):=(j_ B).bind λu=>jw.E1 u B D (⟨0,0⟩:a_) false
open jw in
instance X4(B:Z4)(G:b9 200 bB):Fc Sy cL (jw B G):=Fc.M 163 [enc B,.fptr (cells G)] (bT 2 2 B (bu 9 λw _=>GP λU Q=>Di 4 [Pv 2,Pv 3,Pv 4,Pv 5,(13,.v (.clo 185 [] [.fptr (cells w)]))] (λS=>[Xb 2 B,(3,.box [cp G]),Xb 4 (⟨0,0⟩:a_),(5,.box [bv false])]) (λI=>elim I) (λI=>[Xb 2 B,(3,.box [cp G]),Xb 4 I,(5,.box [bv true])]) (A6 w U Q) (λC S=>Aj 4 (dx 18 (λu=>⟨[Pv 2,Pv 3,Pv 4,Pv 5,Pv 6,(7,.mp 16),Ov 8,(13,.v (.clo 185 [] [.fptr (cells w)]))],[Xb 2 B,(3,.box [cp G]),Xb 4 (⟨0,0⟩:a_),(5,.box [bv false]),Xb 6 C.1,(16,vA u.2),Lb 2008 u.1],[2,3,4,5],[],true,0⟩) (λJ=>(2,⟨[Pv 2,Pv 3,Pv 4,Pv 5,(13,.v (.clo 185 [] [.fptr (cells w)]))],[Xb 2 B,(3,.box [cp G]),Xb 4 (⟨0,0⟩:a_),(5,.box [bv false])],[2,3,4,5],[],true,0⟩)) (λJ=>⟨[],[Xb 2 B,(3,.box [cp G]),Xb 4 C.1,(5,.box [bv true])],[2,3,4,5],[],true,0⟩) (λu=>FB 6 2008 u.1 (bp 3 21 (FB 8 2008 u.1 (mo .i64 1 2008 λW _=>tw 0 2008 0 2 true (λL=>.agg [.int .i64 L.proc,.int .i64 L.index]) λL _=>FB 8 2008 u.1 (abW 1 false true 2008 32 [.int .i64 (wrap .i64 ((len u.1)-1))] λX _=>bu 8 λO _=>bQ 0 O (dx 6 (λz=>⟨[Pv 2,Pv 3,Pv 4,Pv 5,Pv 6,(7,.mp 16),Ov 8,(13,.v (.clo 185 [] [.fptr (cells w)])),Cv 36 O,Iv 37 (len O),Iv 38 z.2.1],[Xb 2 B,(3,.box [cp G]),Xb 4 (⟨0,0⟩:a_),(5,.box [bv false]),Xb 6 C.1,(16,vA z.2.2),Lb 2008 z.1],[2,3,4,5],[],true,0⟩) (λD=>(4,⟨[Pv 2,Pv 3,Pv 4,Pv 5,Pv 6,(7,.mp 16),Ov 8,(13,.v (.clo 185 [] [.fptr (cells w)]))],[Xb 2 B,(3,.box [cp G]),Xb 4 (⟨0,0⟩:a_),(5,.box [bv false]),Xb 6 C.1,(16,vA D.2),Lb 2008 D.1],[2,3,4,5],[],true,0⟩)) (λD=>⟨[],[Xb 2 B,(3,.box [cp G]),Xb 4 C.1,(5,.box [bv true])],[2,3,4,5],[],true,0⟩) (λz=>bp 8 39 (bC 7 λT _=>bp 13 44 aZ (ab2 7 16 z.2.2 T false (cz 3 49 aZ (ZW 5 16 z.2.2 T true (nL 6 2008 54 55 λY _=>aZ))))) aZ) (λD=>aZ) (λD=>aZ))))) aZ)) (λJ=>aZ) (λJ=>aZ))) (λS=>aZ) (λx=>elim x) (λI=>aZ)))
namespace ja
def N3(B D:Z4)(G:a_)(J:Int)(x:a_×WF):aY (Fw Unit Empty (a_×Int)):=(dO D x.1 x.2).bind λu=>bg (u==0) (some (.n ())) (some (.r (x.1,u)))
def E2(B D:Z4)(G:a_)(J:Int):aY (a_×Int):=(kf B).bind λz=>(mb (λ(x:a_×WF)(q:Unit)=>N3 B D G J x) z ()).bind (Fw.sZ (λq=>(fm D).bind λu=>bg (u.2.2==0) ((u.1).bind λC=>(jw D C).bind λw=>bg w.2 (some (w.1,10)) (some (⟨0,0⟩,0))) (some (u.2.1,u.2.2))) (λe=>elim e) (λe=>some (e.1,e.2)))
def bh(D:Int)(G:Z4)(J:a_)(U:Int)(B:Int):aY (Fw Int Unit (a_×Int)):=bg (decide (B<D)) ((fq G B).bind λu=>bg (u==0) (some (.n (wrap .i64 (B+1)))) (some (.r ((⟨B,0⟩:a_),u)))) (some (.x ()))
def W1(J U:Int)(B:Z4)(D:a_)(G:Int):aY (a_×Int):=(bF (λq:Int=>bh J B D G q) U).bind (Fw.elim (λe=>(j_ B).bind λu=>ja.E2 u B D G) (λe=>some (e.1,e.2)))
end ja
def ja(B:Z4):aY (a_×Int):=(pO (len B.procs) 1 8).bind λu=>bg u (ja.W1 (len B.procs) 0 B (⟨0,0⟩:a_) 0) (some (⟨0,0⟩,1))
open ja in
instance Zp(B:Z4):Fc Sy cL (ja B):=Fc.M 128 [enc B] (bT 2 1 B (bQ 9 B.procs (bu 0 λO _=>cz 3 18 (bQ 8 B.procs (dx 5 (λC=>(bE [Pv 1,Pv 2,Pv 3,Iv 22 (len B.procs),Iv 23 C] [Xb 1 B,Xb 2 (⟨0,0⟩:a_),(3,.box [iv 0])])) (λu=>(0,(bE [Pv 1,Pv 2,Pv 3] [Xb 1 B,Xb 2 (⟨0,0⟩:a_),(3,.box [iv 0])]))) (λu=>(bE [Pv 2,Pv 3] [Xb 2 u.1,(3,.box [iv u.2])])) (λC=>bp 7 24 (bu 15 λQ _=>cz 9 30 aZ aZ) aZ) (λu=>bu 6 λz _=>GP λJ D=>Di 4 [Pv 1,Pv 2,Pv 3,(36,.v (.clo 185 [] [.fptr (cells z)]))] (λG=>[Xb 1 B,Xb 2 (⟨0,0⟩:a_),(3,.box [iv 0])]) (λw=>elim w) (λw=>[Xb 1 B,Xb 2 w.1,(3,.box [iv w.2])]) (A6 z J D) (λL G=>o4 8 7 0 L.2 (Aj 1 (bu 7 λS _=>cz 9 44 aZ aZ))) (λG=>bu 5 λI _=>cz 17 54 (Pt 8 (λT=>(bE [Pv 2,Pv 3,(36,.v (.clo 185 [] [.fptr (cells z)])),Pv 10,Iv 11 I.2.2,Bv 54 false,Cv 58 B,Cv 59 T] [Xb 1 B,Xb 2 (⟨0,0⟩:a_),(3,.box [iv 0]),Xb 10 I.2.1])) λU _=>bu 0 λW _=>bp 13 63 aZ aZ) aZ) (λx=>elim x) (λw=>aZ)) (λu=>aZ))) aZ)))
def cG(B:Z4):aY X':=(ja B).bind λu=>some (u.2==0)
instance Zh(B:Z4):Fc Sy cL (cG B):=Fc.M 97 [enc B] (bT 2 1 B (bu 6 λu _=>aZ))
def vJ(B:Int):aY X':=(bg (B==2) (some true) (some (B==3)):aY X').bind λu=>(bg u (some true) (some (B==4)):aY X').bind λw=>some w
instance UC(B:Int):Fc Sy cL (vJ B):=Fc.M 164 [.int .i64 B] (bG 10 3 [5] 8 (bp 10 5 (bq 3) (bq 3)) λu=>bG 1 3 [0,9] 12 (bp 1 9 (bq 3) (bq 3)) λw=>aZ)
def lZ(B:T'):aY X':=(bg (decide (B.kind<1)) (some true) (some (decide (B.kind>=22))):aY X').bind λz=>(bg z (some true) ((b9.at wK B.kind).bind λC=>some (!((len B.l)==C))):aY X').bind λD=>(bg D (some true) (some (decide (B.n<0))):aY X').bind λG=>(bg G (some true) (some (decide (B.n>1125899906842624))):aY X').bind λI=>(bg I (some true) ((bg (B.n==0) (some false) (some (!(B.kind==1))):aY X').bind λJ=>some J):aY X').bind λL=>bg L (some false) ((vJ B.kind).bind λO=>(bg O (some true) ((bg (B.proc==0) (some (B.peer==0)) (some false):aY X').bind λQ=>(bg Q (some (toList B.name==toList ByteArray.empty)) (some false):aY X').bind λu=>some u):aY X').bind λw=>some w)
instance VZ(B:T'):Fc Sy cL (lZ B):=Fc.M 133 [enc B] (bT 2 1 B (bG 10 4 [6] 10 (bp 10 6 (bq 4) (bq 4)) λD=>bG 1 9 [11] 20 (bp 1 11 (bq 9) (dJ 2 13 (Pred.eX B.l) (bQ 0 B.l (Oj 2 .i64 λu w=>OV 0 1 false wK B.kind 0 u w (.int .i64 u) (by rfl) (bq 2))))) λG=>bG 1 4 [21] 25 (bp 1 21 (bq 4) (bq 4)) λI=>bG 1 4 [26] 30 (bp 1 26 (bq 4) (bq 4)) λJ=>bG 1 9 [31] 40 (bp 1 31 (bq 9) (bG 4 4 [35] 39 (cz 4 35 (bq 4) (bq 4)) λL=>bq 1)) λO=>bp 2 40 aZ (bu 7 λQ _=>bG 1 14 [1,44] 58 (bp 1 44 (bq 14) (bG 4 4 [48] 52 (bp 4 48 (bq 4) (bq 4)) λS=>bG 1 4 [1,53] 57 (bp 1 53 (bq 4) (bq 4)) λz=>bq 1)) λC=>aZ)))
def jo(D:T')(G B:Int)(r:(T'×Int×Int)->aY (X'×Int)):aY (X'×Int):=(r (D,wrap .i64 (G+1),B)).bind λu=>some ((!u.1),u.2)
abbrev zi(r:(Pred×Int×Int)->aY (Bool×Int))(a:yO Sy cL 132 (λz:Pred×Int×Int=>[cv z.1,iv z.2.1,.ptr 9004 0,.ptr 9003 0]) (λz:Pred×Int×Int=>[(9004,bx (z.2.2:Int)),(9003,.box [.clo 132 [] [.ptr 9004 0,.ptr 9003 0]])]) (λr:Bool×Int=>[.bool r.1]) (λ(z:Pred×Int×Int)(r:Bool×Int)=>[(9004,bx (r.2:Int)),(9003,.box [.clo 132 [] [.ptr 9004 0,.ptr 9003 0]])]) r)(D:Pred)(G B:Int):pe Sy cL (jo D G B r):=pe.mk' 134 [cv D,.ptr 9003 0,.v (.fptr (cells G))] [(9003,.box [.clo 132 [] [.ptr 9004 0,.ptr 9003 0]]),(9004,bx (B:Int))] (λr:Bool×Int=>[.bool r.1]) (λr:Bool×Int=>[(9003,.box [.clo 132 [] [.ptr 9004 0,.ptr 9003 0]]),(9004,bx (r.2:Int))]) (bT 2 3 D (uS 9 (pe.of (D,wrap .i64 (G+1),B) a) λu _=>aZ))
def fc(G:T')(B D:Int)(r:(T'×Int×Int)->aY (X'×Int)):aY (X'×Int):=(bg (decide ((wrap .i64 (D-1))<0)) (some true) (some (decide (B>20))):aY X').bind λw=>(bg w (some true) ((lZ G).bind λz=>some (!z)):aY X').bind λC=>bg C (some (false,wrap .i64 (D-1))) ((A8 G.l (λx s=>jo x B s r) (wrap .i64 (D-1))).bind λu=>some ((!u.1),u.2))
theorem zj(r:(T'×Int×Int)->aY (X'×Int))(a:yO Sy cL 132 (λz:T'×Int×Int=>[cv z.1,iv z.2.1,.ptr 9004 0,.ptr 9003 0]) (λz:T'×Int×Int=>[(9004,bx (z.2.2:Int)),(9003,.box [.clo 132 [] [.ptr 9004 0,.ptr 9003 0]])]) (λr:X'×Int=>[.bool r.1]) (λ(z:T'×Int×Int)(r:X'×Int)=>[(9004,bx (r.2:Int)),(9003,.box [.clo 132 [] [.ptr 9004 0,.ptr 9003 0]])]) r)(D:T')(B G:Int):∀J,fc D B G r=some J->∃m',cL 132 [cv D,iv B,.ptr 9004 0,.ptr 9003 0] [(9004,bx (G:Int)),(9003,.box [.clo 132 [] [.ptr 9004 0,.ptr 9003 0]])]=some (((λr:X'×Int=>[.bool r.1]) J).map .v,m')/\∀U,mj m' ([(9004,bx (G:Int)),(9003,.box [.clo 132 [] [.ptr 9004 0,.ptr 9003 0]])].map (·.1)) U=some (qL U ((λr:X'×Int=>[(9004,bx (r.2:Int)),(9003,.box [.clo 132 [] [.ptr 9004 0,.ptr 9003 0]])]) J)):=(pe.mk' 132 [cv D,iv B,.ptr 9004 0,.ptr 9003 0] [(9004,bx (G:Int)),(9003,.box [.clo 132 [] [.ptr 9004 0,.ptr 9003 0]])] (λr:X'×Int=>[.bool r.1]) (λr:X'×Int=>[(9004,bx (r.2:Int)),(9003,.box [.clo 132 [] [.ptr 9004 0,.ptr 9003 0]])]) (bT 2 4 D (bG 17 3 [11] 14 (bp 17 11 (bq 3) (bq 3)) λu=>bG 1 4 [15] 19 (bp 1 15 (bq 4) (bu 1 λw _=>bq 2)) λC=>bp 2 19 aZ (dJ 7 21 (Pred.eX D.l) (uS 2 (qS (zl.ofK (σ:=Int) (g:=134) (e:=[.ptr 9003 0,cp B]) (os:=λs=>[(9003,.box [.clo 132 [] [.ptr 9004 0,.ptr 9003 0]]),(9004,bx (s:Int))]) (p:=(λx s=>jo x B s r)) (λx s=>zi r a x B s)) D.l (wrap .i64 (G-1))) λI _=>aZ)))):pe Sy cL (fc D B G r)).h
def sK(D:T')(B G:Int):aY (X'×Int):=dD (λr(z:T'×Int×Int)=>fc z.1 z.2.1 z.2.2 r) 100000 (D,B,G)
abbrev AP(D:Pred)(B G:Int):pe Sy cL (sK D B G):=pe.of (D,B,G) (yO.fix (A:=λz:Pred×Int×Int=>[cv z.1,iv z.2.1,.ptr 9004 0,.ptr 9003 0]) (O:=λz:Pred×Int×Int=>[(9004,bx (z.2.2:Int)),(9003,.box [.clo 132 [] [.ptr 9004 0,.ptr 9003 0]])]) (E:=λr:Bool×Int=>[.bool r.1]) (M:=λ(z:Pred×Int×Int)(r:Bool×Int)=>[(9004,bx (r.2:Int)),(9003,.box [.clo 132 [] [.ptr 9004 0,.ptr 9003 0]])]) (b:=(λr(z:Pred×Int×Int)=>fc z.1 z.2.1 z.2.2 r)) Zae Zae Zae (λr a z=>zj r a z.1 z.2.1 z.2.2) 100000)
def mV(B:T'):aY X':=(sK B 1 200).bind λu=>some u.1
instance S4(B:T'):Fc Sy cL (mV B):=Fc.M 105 [enc B] (bT 2 1 B (uS 26 (AP B 1 200) λu _=>aZ))
def lK(B:Z4)(p1:Int):aY X':=(bg (decide (p1>=0)) (some (decide (p1<(len B.procs)))) (some false):aY X').bind λu=>some u
instance S8(B:Z4)(p1:Int):Fc Sy cL (lK B p1):=Fc.M 136 [enc B,.int .i64 p1] (bT 2 2 B (bG 8 6 [1,2,7] 13 (bp 8 7 (bQ 3 B.procs (bq 2)) (bq 6)) λu=>aZ))
def pY(B:Var)(D:U'):aY X':=some (toList B.name==toList D)
instance Qt(B:Var)(D:U'):Fc Sy cL (pY B D):=Fc.M 166 [enc B,.fptr (cells D)] (aZ)
def s7(D:Z4)(p1:Int)(B:U'):aY X':=(idx D.procs p1).bind λu=>(iJ u.vars (λz=>pY z B)).bind λw=>some w
instance UK(D:Z4)(p1:Int)(B:U'):Fc Sy cL (s7 D p1 B):=Fc.M 137 [enc D,.int .i64 p1,.str B] (bT 2 3 D (bC 9 λu _=>bY (F:=rW 166 [.fptr (cells B)] (λz=>pY z B) mS.tq u.vars) 3 λw _=>aZ))
def lJ(B:T')(D:Z4):aY X':=bg (B.kind==2) ((lK D B.proc).bind λC=>(bg C (some (B.peer==0)) (some false):aY X').bind λG=>(bg G ((s7 D B.proc B.name).bind λI=>some I) (some false):aY X').bind λJ=>some J) (bg (B.kind==3) ((lK D B.proc).bind λL=>(bg L (some (B.peer==0)) (some false):aY X').bind λO=>(bg O (some (toList B.name==toList ByteArray.empty)) (some false):aY X').bind λQ=>some Q) (bg (B.kind==4) ((lK D B.proc).bind λS=>(bg S ((lK D B.peer).bind λT=>some T) (some false):aY X').bind λu=>(bg u (some (!(B.proc==B.peer))) (some false):aY X').bind λw=>(bg w (some (toList B.name==toList ByteArray.empty)) (some false):aY X').bind λz=>some z) (some true)))
instance Na(B:T')(D:Z4):Fc Sy cL (lJ B D):=Fc.M 135 [enc B,.fptr (cells D)] (bT 2 2 B (bp 17 6 (bu 6 λC _=>bG 1 4 [12] 16 (bp 1 12 (bq 4) (bq 4)) λG=>bG 1 7 [1,2,17] 24 (bp 1 17 (bu 5 λI _=>bq 1) (bq 7)) λJ=>aZ) (bp 7 25 (bu 6 λL _=>bG 1 4 [31] 35 (bp 1 31 (bq 4) (bq 4)) λO=>bG 1 4 [2,36] 40 (bp 1 36 (bq 4) (bq 4)) λQ=>aZ) (bp 7 41 (bu 6 λS _=>bG 1 5 [1,47] 52 (bp 1 47 (bu 3 λT _=>bq 1) (bq 5)) λu=>bG 1 6 [53] 59 (bp 1 53 (bq 6) (bq 6)) λw=>bG 1 4 [2,60] 64 (bp 1 60 (bq 4) (bq 4)) λz=>aZ) aZ))))
def ue(B:T')(p1:T'->aY X')(r:T'->aY X'):aY X':=(r B).bind λu=>some (!u)
abbrev B6(g1:FuncId)(e1:aX V)(p1:Pred->aY Bool)(b:mS Sy cL g1 [] e1 (λz:Pred=>[enc z]) (λr:Bool=>[.bool r]) p1 true)(r:Pred->aY Bool)(a:eR Sy cL 110 (λz:Pred=>[enc z,.clo g1 [] e1]) (λr:Bool=>[.bool r]) r true)(B:Pred):Fc Sy cL (ue B p1 r):=Fc.M 144 [enc B,.fptr [.clo g1 [] e1]] (bT 2 2 B (bu (F:=Fc.of B a) 7 λu _=>aZ))
def jY(D:T')(p1:T'->aY X')(r:T'->aY X'):aY X':=(p1 D).bind λw=>(bg w ((A8 D.l (λx u=>((λz=>ue z p1 r) x).map λb=>(b,u)) ()).bind λB=>some (!B.1)) (some false):aY X').bind λC=>some C
theorem BP(g1:Y')(e1:So)(p1:T'->aY X')(a:mS Sy cL g1 [] e1 (λz:T'=>[enc z]) (λr:X'=>[.bool r]) p1 true)(r:T'->aY X')(b:eR Sy cL 110 (λz:T'=>[enc z,.clo g1 [] e1]) (λr:X'=>[.bool r]) r true)(B:T'):Le ((jY B p1 r).bind λr=>some [.bool r]) (gV cL 110 [enc B,.clo g1 [] e1]):=(Fc.M 110 [enc B,.clo g1 [] e1] (bT 2 2 B (zK 8 a.f B λw _=>wu 1 6 [] (λu=>(bE [Bv 14 u] [Xb 2 B])) (bp 1 8 (dJ 2 10 (Pred.eX B.l) (uS 2 (mY (zl.ZI (g:=144) (e:=[.fptr [.clo g1 [] e1]]) (p:=(λz=>ue z p1 r)) (mS.tq (F:=λz=>B6 g1 e1 p1 a r b z))) B.l ()) λC _=>bq 2)) (bq 7)) λu=>aZ)):Fc Sy cL (jY B p1 r)).F.h ()
def oP(B:T')(p1:T'->aY X'):aY X':=dD (λr(z:T')=>jY z p1 r) 100000 B
abbrev uZ(g1:FuncId)(e1:aX V)(p1:Pred->aY Bool)(a:mS Sy cL g1 [] e1 (λz:Pred=>[enc z]) (λr:Bool=>[.bool r]) p1 true)(B:Pred):Fc Sy cL (oP B p1):=Fc.of B (eR.fix (A:=λz:Pred=>[enc z,.clo g1 [] e1]) (E:=λr:Bool=>[.bool r]) (sc:=true) (b:=(λr(z:Pred)=>jY z p1 r)) Zae (λ_ _=>rfl) (λr c z=>BP g1 e1 p1 a r c z) 100000)
def qa(B:Z4)(p1:T'):aY X':=(oP p1 (λz=>lJ z B)).bind λu=>some u
instance Qz(B:Z4)(p1:T'):Fc Sy cL (qa B p1):=Fc.M 106 [enc B,enc p1] (bT 2 2 B (bT 0 3 p1 (bY (F:=uZ 135 [.fptr (cells B)] (λz=>lJ z B) mS.tq p1) 7 λu _=>aZ)))
def mU(B:Int):Ps:=bg (decide (B<=8)) (some 1) (some 2)
instance S_(B:Int):Fc Sy cL (mU B):=Fc.M 140 [.int .i64 B] (bp 12 4 aZ aZ)
def tQ(B:Int):Ps:=bg (decide (B<=12)) (some 1) (some 2)
instance Wd(B:Int):Fc Sy cL (tQ B):=Fc.M 141 [.int .i64 B] (bp 12 4 aZ aZ)
def nM(B D:T'):aY X':=(mU B.kind).bind λu=>(tQ D.kind).bind λw=>some (!(u==w))
instance My(B D:T'):Fc Sy cL (nM B D):=Fc.M 139 [enc B,.fptr (cells D)] (bT 2 2 B (bY 7 λu _=>bY 2 λw _=>aZ))
def jX(B:T'):aY X':=(A8 B.l (λx u=>((λz=>nM z B) x).map λb=>(b,u)) ()).bind λw=>some (!w.1)
instance Qs(B:T'):Fc Sy cL (jX B):=Fc.M 138 [enc B] (bT 2 1 B (dJ 7 4 (Pred.eX B.l) (uS 2 (mY (zl.ZI (g:=139) (e:=[.fptr (cells B)]) (p:=(λz=>nM z B)) mS.tq) B.l ()) λu _=>aZ)))
def ql(B:T'):aY X':=(oP B (λz=>jX z)).bind λu=>some u
instance VP(B:T'):Fc Sy cL (ql B):=Fc.M 107 [enc B] (bT 2 1 B (bu (F:=uZ 138 [] (λz=>jX z) mS.tq B) 6 λu _=>aZ))
namespace dA
def bH(D:Zg)(B i4:Int):aY (Fw (Int×Int) Int Empty):=bg (decide (i4<(len D))) ((idx D i4).bind λu=>some (.n ((if u<B then u else B),wrap .i64 (i4+1)))) (some (.x B))
def W2(B:Zg)(D i4:Int):Ps:=(bF (λq:Int×Int=>bH B q.1 q.2) (D,i4)).bind (Fw.elim (λe=>some e) (λe=>elim e))
def J1(B:Zg):Ps:=(idx B 0).bind λu=>dA.W2 B u 1
end dA
def dA(B:Zg):Ps:=bg (decide ((len B)<1)) (none) (dA.J1 B)
open dA in
instance Vr(B:Zg):Fc Sy cL (dA B):=Fc.M 70 [enc B] (bQ 9 B (bp 3 7 ((Le.none _)) (qi 4 (bC 3 λz _=>eG 12 (λu=>(bE [Cv 0 B,Iv 3 u.1,Iv 4 u.2] [])) (λw=>(0,(bE [Iv 3 w] []))) (λu=>bQ 6 B (bp 3 15 (bC 9 λC _=>aZ) aZ)) (λw=>aZ)))))
namespace fD
def bH(D:Zg)(B i4:Int):aY (Fw (Int×Int) Int Empty):=bg (decide (i4<(len D))) ((idx D i4).bind λu=>some (.n ((if u>B then u else B),wrap .i64 (i4+1)))) (some (.x B))
def W2(B:Zg)(D i4:Int):Ps:=(bF (λq:Int×Int=>bH B q.1 q.2) (D,i4)).bind (Fw.elim (λe=>some e) (λe=>elim e))
def J1(B:Zg):Ps:=(idx B 0).bind λu=>fD.W2 B u 1
end fD
def fD(B:Zg):Ps:=bg (decide ((len B)<1)) (none) (fD.J1 B)
open fD in
instance Ud(B:Zg):Fc Sy cL (fD B):=Fc.M 193 [enc B] (bQ 9 B (bp 3 7 ((Le.none _)) (qi 4 (bC 3 λz _=>eG 12 (λu=>(bE [Cv 0 B,Iv 3 u.1,Iv 4 u.2] [])) (λw=>(0,(bE [Iv 3 w] []))) (λu=>bQ 6 B (bp 3 15 (bC 9 λC _=>aZ) aZ)) (λw=>aZ)))))
def nq(B:Zg):aY bV:=(dA B).bind λu=>(fD B).bind λw=>some ⟨u,w⟩
instance Wo(B:Zg):Fc Sy cL (nq B):=Fc.M 169 [enc B] (bu 8 λu _=>bu 1 λw _=>aZ)
namespace fL
def bh(U:Int)(D:Sl WF)(G:Int)(J B:Int):aY (Fw (Int×Int) Int Empty):=bg (decide (B<G)) ((idx D B).bind λu=>(bg (u.kind==2) (some (u.peer==U)) (some false):aY X').bind λw=>bg w (some (.n (wrap .i64 (J+1),wrap .i64 (B+1)))) (some (.n (J,wrap .i64 (B+1))))) (some (.x J))
def W1(J U:Int)(B:Sl WF)(D G:Int):Ps:=(bF (λq:Int×Int=>bh J B D q.1 q.2) (U,G)).bind (Fw.elim (λe=>some e) (λe=>elim e))
end fL
def fL(B:Z4)(p1 D:Int):Ps:=(idx B.procs p1).bind λu=>fL.W1 D 0 u.events (len u.events) 0
open fL in
instance Qp(B:Z4)(p1 D:Int):Fc Sy cL (fL B p1 D):=Fc.M 191 [enc B,.int .i64 p1,.int .i64 D] (bT 2 3 B (bC 14 λu _=>bQ 2 u.events (eG 5 (λw=>(bE [Iv 2 D,Iv 7 w.1,Cv 15 u.events,Iv 16 (len u.events),Iv 17 w.2] [])) (λz=>(0,(bE [Iv 7 z] []))) (λw=>bp 7 18 (bC 7 λC _=>o4 2 9 0 C (bG 8 5 [9,24] 29 (bp 8 24 (bq 5) (bq 5)) λG=>bp 2 29 aZ aZ)) aZ) (λz=>aZ))))
def p_(B:Var)(D:U'):aY X':=some (toList B.name==toList D)
instance Qv(B:Var)(D:U'):Fc Sy cL (p_ B D):=Fc.M 221 [enc B,.fptr (cells D)] (aZ)
def vD(D:bR)(B:U'):Ps:=(fQ D.vars (λz=>p_ z B)).bind λu=>some u
instance UA(D:bR)(B:U'):Fc Sy cL (vD D B):=Fc.M 219 [enc D,.str B] (bT 2 2 D (bY (F:=pG 221 [.fptr (cells B)] (λz=>p_ z B) mS.tq D.vars) 9 λu _=>aZ))
def tV(D:Z4)(p1:Int)(B:U'):aY (Int×Int):=(cG D).bind λw=>bg w ((bg (decide (p1<0)) (some true) (some (decide (p1>=(len D.procs)))):aY X').bind λz=>bg z (some (0,2)) ((idx D.procs p1).bind λC=>(vD C B).bind λu=>bg (decide (u<0)) (some (0,13)) (some (u,0)))) (some (0,1))
instance WG(D:Z4)(p1:Int)(B:U'):Fc Sy cL (tV D p1 B):=Fc.M 212 [enc D,.int .i64 p1,.str B] (bT 2 3 D (bu 9 λu _=>cz 4 9 (bG 6 6 [16] 22 (bp 6 16 (bq 6) (bQ 3 D.procs (bq 2))) λw=>bp 3 13 aZ (bC 9 λz _=>bu 2 λC _=>bp 10 31 aZ aZ)) aZ))
def dY(s0:Zg):aY Zg:=(Sl.isNil s0).bind λu=>bg u (some Sl.nil) ((pJ (Sl.row []:Zg) s0).bind λw=>some w)
theorem iA:BL Sy cL 26 (λs0:Zg=>[enc s0]) (λz=>dY z):=BL.mk' (tj (Tx 26)) (λs0=>KY 9 λu _=>bp 2 4 aZ (Ar 7 5 7 λw _=>aZ))
def o6(B:bR):aY bR:=some B
instance Te(B:bR):Fc Sy cL (o6 B):=Fc.NE (λr:bR=>[(.clo 171 [] [.fptr (cells r)])]) 145 [enc B] (bT 2 1 B aZ)
namespace gF
def kV(D:bR)(G:Int)(x:Int×(Zg))(B:Zg):aY (Fw Zg Empty Empty):=(idx x.2 G).bind λu=>(fu B (u:Int)).bind λw=>some (.n w)
def E1(B:bR)(G:Int)(D:Zg):aY Zg:=(kq B).bind λu=>(mb (λ(x:Int×(Zg))(q:Zg)=>kV B G x q) u D).bind (Fw.sZ (λq=>some q) (λe=>elim e) (λe=>elim e))
end gF
def gF(B:bR)(i1:Int):aY Zg:=(o6 B).bind λu=>gF.E1 u i1 (Sl.nil:Zg)
open gF in
instance SX(D:bR)(i1:Int):Fc Sy cL (gF D i1):=Fc.N 213 [enc D,.int .i64 i1] (bT 2 2 D (bu 13 λz _=>GP λC B=>Di 5 [Pv 3,Pv 5,(9,.v (.clo 171 [] [.fptr (cells z)]))] (λu=>[(3,.box [iv i1]),(5,.box [.own 4100]),Lb 4100 u]) (λw=>elim w) (λw=>elim w) (HE z C B) (λG u=>Aj 3 (bC 7 λI _=>nL 2 4100 17 18 λJ _=>aZ)) (λu=>aZ) (λx=>elim x) (λx=>elim x)))
def sQ(G:Z4)(p1:Int)(B:U'):aY (Int×Int×Int):=(tV G p1 B).bind λu=>bg (u.2==0) ((idx G.procs p1).bind λz=>(gF z u.1).bind λw=>(dA w).bind λC=>(fD w).bind λD=>some (C,D,0)) (some (0,0,u.2))
instance VG(D:Z4)(p1:Int)(B:U'):Fc Sy cL (sQ D p1 B):=Fc.M 192 [enc D,.int .i64 p1,.str B] (bT 2 3 D (bu 10 λu _=>cz 14 19 (bC 8 λw _=>bu 2 λz _=>bu 6 λC _=>bu 1 λG _=>aZ) aZ))
def nh(B:Z4)(p1:T'):aY bV:=bg (p1.kind==1) ((nq (Sl.row [p1.n]:Zg)).bind λw=>some w) (bg (p1.kind==3) ((idx B.procs p1.proc).bind λz=>some ⟨0,len z.events⟩) (bg (p1.kind==4) ((fL B p1.proc p1.peer).bind λC=>some ⟨0,C⟩) ((sQ B p1.proc p1.name).bind λu=>some ⟨u.1,u.2.1⟩)))
instance VQ(B:Z4)(p1:T'):Fc Sy cL (nh B p1):=Fc.M 167 [enc B,enc p1] (bT 2 2 B (bT 0 3 p1 (bp 17 10 (bY 6 λw _=>aZ) (bp 7 16 (bC 7 λu _=>bQ 2 u.events aZ) (bp 7 27 (bu 8 λz _=>aZ) (bu 11 λC _=>aZ))))))
def jR(B:bV):aY X':=(bg (decide (B.low<(-1125899906842624))) (some true) (some (decide (B.high>1125899906842624))):aY X').bind λu=>some u
instance JL(B:bV):Fc Sy cL (jR B):=Fc.M 168 [enc B] (bG 12 4 [1,6] 10 (bp 12 6 (bq 4) (bq 4)) λu=>aZ)
def vg(a0:Int):Ps:=some (if(wrap .i64 (0-a0))>a0 then(wrap .i64 (0-a0))else a0)
instance XZ(a0:Int):Fc Sy cL (vg a0):=Fc.M 194 [.int .i64 a0] (aZ)
def kT(a0 B:Int):Ps:=(bg (a0==0) (some true) (some (B==0)):aY X').bind λu=>bg u (some 0) ((vg a0).bind λw=>(vg B).bind λz=>(A9 .i64 1125899906842624 z).bind λC=>bg (decide (w>C)) (bg ((decide (a0<0))==(decide (B<0))) (some 1125899906842625) (some (wrap .i64 (0-1125899906842625)))) (some (wrap .i64 (a0*B))))
instance Si(a0 B:Int):Fc Sy cL (kT a0 B):=Fc.M 170 [.int .i64 a0,.int .i64 B] (bG 11 3 [8] 11 (bp 11 8 (bq 3) (bq 3)) λu=>bp 2 11 aZ (bu 15 λw _=>bu 1 λz _=>aae 0 λC _=>bp 3 20 (cz 15 25 aZ aZ) aZ))
namespace dH
def J2(D B:bV)(r:(Z4×T')->aY (bV×X')):aY (bV×X'):=(jR B).bind λu=>some (B,(!u))
def J1(W U:X')(J:T')(G B D:bV)(r:(Z4×T')->aY (bV×X')):aY (bV×X'):=(bg W (some (!U)) (some true):aY X').bind λC=>bg C (some (⟨0,0⟩,false)) (bg (J.kind==5) (dH.J2 G (⟨wrap .i64 (0-B.high),wrap .i64 (0-B.low)⟩:bV) r) (bg (J.kind==6) (dH.J2 G (⟨wrap .i64 (B.low+D.low),wrap .i64 (B.high+D.high)⟩:bV) r) (bg (J.kind==7) (dH.J2 G (⟨wrap .i64 (B.low-D.high),wrap .i64 (B.high-D.low)⟩:bV) r) ((kT B.low D.low).bind λI=>(kT B.low D.high).bind λL=>(kT B.high D.low).bind λu=>(kT B.high D.high).bind λw=>(nq (Sl.row [I,L,u,w]:Zg)).bind λz=>dH.J2 G z r))))
theorem mW(r:(Z4×T')->aY (bV×X'))(a:eR Sy cL 142 (λz:Z4×T'=>[enc z.1,enc z.2]) (λr:bV×X'=>[enc r.1,.bool r.2]) r true)(D B:X')(G:T')(J U W:bV):Le ((J1 D B G J U W r).bind (λr=>some [enc r.1,.bool r.2])) (bZ Sy cL (pI (tr Tx 142)) (rF (tb Tx 142) [1,1,1,1,1,0] [] (bE [Pv 3,Pv 4,Pv 7,Bv 8 D,Pv 9,Bv 10 B] [Xb 3 G,Xb 4 J,Xb 7 U,Xb 9 W]))):=bG 6 3 [10,48] 51 (cz 6 48 (bq 3) (bq 3)) λQ=>bp 2 51 aZ (bp 22 77 (qi 14 (bY 4 λu _=>aZ)) (bp 7 86 (qi 18 (bY 4 λu _=>aZ)) (bp 7 99 (qi 18 (bY 4 λu _=>aZ)) (bY 6 λI _=>bY 4 λL _=>bY 4 λw _=>bY 4 λC _=>Z8 0 ([I,L,w,C]:Rd) (.buildC 1 4 [.int .i64 0] [0,1,2,3]) [iv I,iv L,iv w,iv C] (bY 0 λO _=>qi 5 (bY 4 λu _=>aZ))))))
end dH
def hG(B:Z4)(p1:T')(r:(Z4×T')->aY (bV×X')):aY (bV×X'):=bg ((len p1.l)==0) ((nh B p1).bind λw=>(jR w).bind λC=>some (w,(!C))) ((idx p1.l 0).bind λD=>(r (B,D)).bind λu=>bg ((len p1.l)==2) ((idx p1.l 1).bind λG=>(r (B,G)).bind λz=>dH.J1 u.2 z.2 p1 (⟨0,0⟩:bV) u.1 z.1 r) (dH.J1 u.2 true p1 (⟨0,0⟩:bV) u.1 u.1 r))
open dH in
theorem AU(r:(Z4×T')->aY (bV×X'))(a:eR Sy cL 142 (λz:Z4×T'=>[enc z.1,enc z.2]) (λr:bV×X'=>[enc r.1,.bool r.2]) r true)(B:Z4)(p1:T'):Le ((hG B p1 r).bind λr=>some [enc r.1,.bool r.2]) (gV cL 142 [enc B,enc p1]):=(Fc.M 142 [enc B,enc p1] (bT 2 2 B (bT 0 3 p1 (dJ 9 13 (Pred.eX p1.l) (bQ 0 p1.l (bp 3 15 (bu 5 λG _=>bY 8 λI _=>aZ) (dJ 8 26 (Pred.eX p1.l) (bC 0 λC _=>bY (F:=Fc.of (B,C) a) 1 λu _=>dJ 21 34 (Pred.eX p1.l) (bQ 0 p1.l (bp 3 36 (dJ 5 40 (Pred.eX p1.l) (bC 0 λD _=>bY (F:=Fc.of (B,D) a) 1 λw _=>nR 8 (mW r a u.2 w.2 p1 (⟨0,0⟩:bV) u.1 w.1))) (nR 4 (mW r a u.2 true p1 (⟨0,0⟩:bV) u.1 u.1))))))))))):Fc Sy cL (hG B p1 r)).F.h ()
def dH(B:Z4)(p1:T'):aY (bV×X'):=dD (λr(z:Z4×T')=>hG z.1 z.2 r) 100000 (B,p1)
instance Ta(B:Z4)(p1:T'):Fc Sy cL (dH B p1):=Fc.of (B,p1) (eR.fix (A:=λz:Z4×T'=>[enc z.1,enc z.2]) (E:=λr:bV×X'=>[enc r.1,.bool r.2]) (sc:=true) (b:=(λr(z:Z4×T')=>hG z.1 z.2 r)) Zae (λ_ _=>rfl) (λr a z=>AU r a z.1 z.2) 100000)
def pU(B:T')(D:Z4)(r:(Z4×T')->aY X'):aY X':=(r (D,B)).bind λu=>some (!u)
abbrev BG(r:(Trace×Pred)->aY Bool)(a:eR Sy cL 108 (λz:Trace×Pred=>[enc z.1,enc z.2]) (λr:Bool=>[.bool r]) r true)(B:Pred)(D:Trace):Fc Sy cL (pU B D r):=Fc.M 143 [enc B,.fptr (cells D)] (bT 2 2 B (bu (F:=Fc.of (D,B) a) 7 λu _=>aZ))
def iL(D:Z4)(p1:T')(r:(Z4×T')->aY X'):aY X':=(mU p1.kind).bind λw=>bg (w==1) ((dH D p1).bind λB=>some B.2) ((A8 p1.l (λx u=>((λz=>pU z D r) x).map λb=>(b,u)) ()).bind λC=>some (!C.1))
theorem BF(r:(Z4×T')->aY X')(a:eR Sy cL 108 (λz:Z4×T'=>[enc z.1,enc z.2]) (λr:X'=>[.bool r]) r true)(B:Z4)(p1:T'):Le ((iL B p1 r).bind λr=>some [.bool r]) (gV cL 108 [enc B,enc p1]):=(Fc.M 108 [enc B,enc p1] (bT 2 2 B (bT 0 3 p1 (bu 8 λu _=>bp 3 10 (bu 5 λw _=>aZ) (dJ 7 19 (Pred.eX p1.l) (uS 2 (mY (zl.ZI (g:=143) (e:=[.fptr (cells B)]) (p:=(λz=>pU z B r)) (mS.tq (F:=λz=>BG r a z B))) p1.l ()) λC _=>aZ))))):Fc Sy cL (iL B p1 r)).F.h ()
def wk(B:Z4)(p1:T'):aY X':=dD (λr(z:Z4×T')=>iL z.1 z.2 r) 100000 (B,p1)
instance T0(B:Z4)(p1:T'):Fc Sy cL (wk B p1):=Fc.of (B,p1) (eR.fix (A:=λz:Z4×T'=>[enc z.1,enc z.2]) (E:=λr:X'=>[.bool r]) (sc:=true) (b:=(λr(z:Z4×T')=>iL z.1 z.2 r)) Zae (λ_ _=>rfl) (λr a z=>BF r a z.1 z.2) 100000)
def tf(B:Z4)(p1:T'):Ps:=(cG B).bind λu=>(bg u ((mV p1).bind λw=>some (!w)) (some true):aY X').bind λz=>bg z (some 1) ((qa B p1).bind λC=>bg C ((ql p1).bind λD=>bg D ((wk B p1).bind λG=>bg G (some 0) (some 9)) (some 14)) (some 13))
instance Ty(B:Z4)(p1:T'):Fc Sy cL (tf B p1):=Fc.M 82 [enc B,enc p1] (bT 2 2 B (bT 0 3 p1 (bu 8 λu _=>bG 2 4 [9] 13 (cz 2 9 (bu 1 λw _=>bq 2) (bq 4)) λz=>bp 3 5 aZ (bu 5 λC _=>cz 4 14 (bu 4 λD _=>cz 4 19 (bu 5 λG _=>cz 4 23 aZ aZ) aZ) aZ))))
def tT(B:T'):aY (Int×Int):=(mV B).bind λu=>bg u ((ql B).bind λw=>bg w ((mU B.kind).bind λz=>some (z,0)) (some (0,14))) (some (0,1))
instance VS(B:T'):Fc Sy cL (tT B):=Fc.M 109 [enc B] (bT 2 1 B (bu 9 λu _=>cz 4 4 (bu 4 λw _=>cz 4 8 (bu 8 λz _=>aZ) aZ) aZ))
def vE(D:T')(B:Int):Ps:=(tT D).bind λu=>(bg (u.2==0) (some (!(u.1==B))) (some true):aY X').bind λw=>bg w (some 14) (some 0)
instance Uj(D:T')(B:Int):Fc Sy cL (vE D B):=Fc.M 83 [enc D,.int .i64 B] (bT 2 2 D (bu 7 λu _=>bG 12 4 [1,5,14] 18 (cz 12 14 (bq 4) (bq 4)) λw=>bp 2 18 aZ aZ))
def tu(B:Int):aY X':=(bg (decide (B>=18)) (some (decide (B<=21))) (some false):aY X').bind λu=>some u
instance Qr(B:Int):Fc Sy cL (tu B):=Fc.M 112 [.int .i64 B] (bG 10 3 [0,5] 8 (bp 10 5 (bq 3) (bq 3)) λu=>aZ)
def nV(B:T'):aY X':=(tu B.kind).bind λu=>some (!u)
instance MV(B:T'):Fc Sy cL (nV B):=Fc.M 111 [enc B] (bT 2 1 B (bu 7 λu _=>aZ))
def p8(D:T'):aY X':=(mV D).bind λu=>(bg u ((oP D (λz=>nV z)).bind λw=>some (!w)) (some false):aY X').bind λB=>some B
instance Qq(B:T'):Fc Sy cL (p8 B):=Fc.M 84 [enc B] (bT 2 1 B (bu 6 λu _=>bG 1 4 [1,5] 9 (bp 1 5 (bu (F:=uZ 111 [] (λz=>nV z) mS.tq B) 1 λw _=>bq 2) (bq 4)) λC=>aZ))
namespace jg
def kV(D:Z4)(B G:Int)(J:a_)(U:X')(x:a_×WF):aY (Fw Unit Empty a_):=(bg (x.2.kind==B) (some (x.2.message==G)) (some false):aY X').bind λu=>bg u (some (.r x.1)) (some (.n ()))
def E1(B:Z4)(D G:Int)(J:a_)(U:X'):aY (a_×X'):=(kf B).bind λu=>(mb (λ(x:a_×WF)(q:Unit)=>kV B D G J U x) u ()).bind (Fw.sZ (λq=>some (⟨0,0⟩,false)) (λe=>elim e) (λe=>some (e,true)))
end jg
def jg(D:Z4)(B G:Int):aY (a_×X'):=(cG D).bind λu=>bg u ((j_ D).bind λw=>jg.E1 w B G (⟨0,0⟩:a_) false) (some (⟨0,0⟩,false))
open jg in
instance aaB(G:Z4)(B D:Int):Fc Sy cL (jg G B D):=Fc.M 129 [enc G,.int .i64 B,.int .i64 D] (bT 2 3 G (bu 10 λL _=>cz 3 12 (bu 7 λw _=>GP λI z=>Di 4 [Pv 4,Pv 5,Pv 6,Pv 7,(15,.v (.clo 185 [] [.fptr (cells w)]))] (λC=>[(4,.box [iv B]),(5,.box [iv D]),Xb 6 (⟨0,0⟩:a_),(7,.box [bv false])]) (λu=>elim u) (λu=>[(4,.box [iv B]),(5,.box [iv D]),Xb 6 u,(7,.box [bv true])]) (A6 w I z) (λJ C=>o4 8 9 0 J.2 (Aj 1 (bG 9 5 [9,22] 27 (bp 9 22 (bq 5) (bq 5)) λO=>bp 2 27 aZ aZ))) (λC=>aZ) (λx=>elim x) (λu=>aZ)) aZ))
def r_(B:Z4)(m1:Int):aY (a_×X'):=(jg B 2 m1).bind λu=>some (u.1,u.2)
instance YY(B:Z4)(m1:Int):Fc Sy cL (r_ B m1):=Fc.M 99 [enc B,.int .i64 m1] (bT 2 2 B (bu 8 λu _=>aZ))
namespace lR
def J3(B:Sl a_)(W:Sl bR)(Y a:Int)(b:Sl WF)(c G:Int)(J:Z4)(d U:cw)(e:bR)(D:a_):aY (Fw ((Sl a_)×Int×Z4×cw×cw) ((Sl a_)×Z4×cw) Empty):=(fu B (D:a_)).bind λu=>some (.n (u,wrap .i64 (G+1),J,(⟨Sl.nil,Sl.nil⟩:cw),U))
def bH(Y:Sl bR)(a b:Int)(J:Sl WF)(U:Int)(c:bR)(B:Sl a_)(D:Int)(G:Z4)(d W:cw):aY (Fw ((Sl a_)×Int×Z4×cw×cw) ((Sl a_)×Z4×cw) Empty):=bg (decide (D<U)) ((idx J D).bind λu=>bg (u.kind==3) ((r_ G u.message).bind λw=>J3 B Y a b J U D G (⟨Sl.nil,Sl.nil⟩:cw) W c w.1) (J3 B Y a b J U D G (⟨Sl.nil,Sl.nil⟩:cw) W c (⟨0,0⟩:a_))) (some (.x (B,G,W)))
def W2(B:Sl a_)(J:Sl bR)(U D:Int)(W:Sl WF)(Y a:Int)(b:Z4)(c d:cw)(G:bR):aY (Fw (Int×Z4×cw×cw) cw Empty):=(bF (λq:(Sl a_)×Int×Z4×cw×cw=>bH J U D W Y G q.1 q.2.1 q.2.2.1 q.2.2.2.1 q.2.2.2.2) (B,a,b,c,d)).bind (Fw.elim (λe=>(fu e.2.2.lengths (len G.events:Int)).bind λu=>(fu e.2.2.need (e.1:Sl a_)).bind λw=>some (.n (wrap .i64 (D+1),e.2.1,(⟨Sl.nil,Sl.nil⟩:cw),(⟨u,w⟩:cw)))) (λe=>elim e))
def bh(D:Sl bR)(G:Int)(B:Int)(U:Z4)(W J:cw):aY (Fw (Int×Z4×cw×cw) cw Empty):=bg (decide (B<G)) ((idx D B).bind λu=>W2 (Sl.nil:Sl a_) D G B u.events (len u.events) 0 U (⟨Sl.nil,Sl.nil⟩:cw) J u) (some (.x J))
def W1(B:Sl bR)(D G:Int)(J:Z4)(U W:cw):aY cw:=(bF (λq:Int×Z4×cw×cw=>bh B D q.1 q.2.1 q.2.2.1 q.2.2.2) (G,J,U,W)).bind (Fw.elim (λe=>some e) (λe=>elim e))
end lR
def lR(B:Z4):aY cw:=lR.W1 B.procs (len B.procs) 0 B (⟨Sl.nil,Sl.nil⟩:cw) (⟨Sl.nil,Sl.nil⟩:cw)
open lR in
instance acB(D:Z4):Fc Sy cL (lR D):=Fc.N 116 [enc D] (bT 2 1 D (bQ 13 D.procs (eG 7 (λu=>(bE [Pv 1,Pv 2,Pv 3,Cv 11 D.procs,Iv 12 (len D.procs),Iv 13 u.1] [Xb 1 u.2.1,Xb 2 (⟨Sl.nil,Sl.nil⟩:cw),(3,.box [.own 4060,.own 4061]),Lb 4060 u.2.2.2.lengths,Lb 4061 u.2.2.2.need])) (λC=>(0,(bE [Pv 2,Pv 3] [Xb 2 (⟨Sl.nil,Sl.nil⟩:cw),(3,.box [.own 4060,.own 4061]),Lb 4060 C.lengths,Lb 4061 C.need]))) (λu=>bp 9 14 (bC 7 λw _=>o4 2 5 0 w (bQ 12 w.events (eG 8 (λz=>(bE [Pv 1,Pv 2,Pv 3,Pv 5,Ov 6,Cv 11 D.procs,Iv 12 (len D.procs),Iv 13 u.1,Cv 18 w.events,Iv 19 (len w.events),Iv 20 z.2.1] [Xb 1 z.2.2.1,Xb 2 (⟨Sl.nil,Sl.nil⟩:cw),(3,.box [.own 4060,.own 4061]),Xb 5 w,Lb 2006 z.1,Lb 4060 z.2.2.2.2.lengths,Lb 4061 z.2.2.2.2.need])) (λB=>(2,(bE [Pv 1,Pv 2,Pv 3,Pv 5,Ov 6,Cv 11 D.procs,Iv 12 (len D.procs),Iv 13 u.1] [Xb 1 B.2.1,Xb 2 (⟨Sl.nil,Sl.nil⟩:cw),(3,.box [.own 4060,.own 4061]),Xb 5 w,Lb 2006 B.1,Lb 4060 B.2.2.lengths,Lb 4061 B.2.2.need]))) (λz=>bp 10 21 (bC 7 λG _=>o4 2 8 0 G (bp 15 26 (bu 5 λJ _=>qi 10 (nL 4 2006 36 37 λI _=>aZ)) (qi 7 (nL 4 2006 36 37 λI _=>aZ)))) aZ) (λB=>bQ 8 w.events (nL 1 4060 44 45 λL _=>zk 9 50 ([B.1]:aX (Sl a_)) (nL 0 4061 50 51 λO _=>aZ)))))) aZ) (λC=>o4 7 2 0 C aZ))))
def qE(J:cw)(B:Zg)(p2:Int):aY X':=(idx B p2).bind λw=>(idx J.lengths p2).bind λz=>bg (w==z) (some false) ((idx J.need p2).bind λC=>(idx B p2).bind λD=>(idx C D).bind λu=>(idx B u.proc).bind λG=>some (decide (u.index<=G)))
instance R9(B:cw)(D:Zg)(p2:Int):Fc Sy cL (qE B D p2):=Fc.M 148 [enc B,enc D,.int .i64 p2] (bT 2 3 B (bC 8 λu _=>bC 4 λw _=>bp 4 17 aZ (bC 8 λz _=>bC 3 λC _=>bC 1 λG _=>bC 12 λI _=>aZ)))
def tM(B:Int):aY X':=some (!(B==B))
instance Wq(B:Int):Fc Sy cL (tM B):=Fc.M 206 [.int .i64 B] (aZ)
def rH(B D:Int):Ps:=(tM B).bind λw=>(tM D).bind λu=>bg w (bg u (some 0) (some (-1))) (bg u (some 1) (bg (decide (B<D)) (some (-1)) (bg (decide (B>D)) (some 1) (some 0))))
instance S9(B D:Int):Fc Sy cL (rH B D):=Fc.M 177 [.int .i64 B,.int .i64 D] (bu 8 λu _=>bu 6 λw _=>bp 9 11 (bp 7 12 aZ aZ) (bp 9 13 aZ (bp 11 16 aZ (bp 11 19 aZ aZ))))
namespace fS
def bh(J D U:Zg)(G:Int)(B:Int):aY (Fw Int Unit Int):=bg (decide (B<G)) ((idx U B).bind λw=>bg (decide (B>=(len D))) (some (.r 1)) ((idx D B).bind λz=>(rH w z).bind λu=>bg (u==0) (some (.n (wrap .i64 (B+1)))) (some (.r u)))) (some (.x ()))
def W1(B D U:Zg)(G J:Int):Ps:=(bF (λq:Int=>bh B D U G q) J).bind (Fw.elim (λe=>bg (decide ((len B)<(len D))) (some (-1)) (some 0)) (λe=>some e))
end fS
def fS(B D:Zg):Ps:=fS.W1 B D B (len B) 0
open fS in
instance Qd(B D:Zg):Fc Sy cL (fS B D):=Fc.M 151 [enc B,enc D] (bQ 9 B (dx 5 (λw=>(bE [Cv 0 B,Cv 1 D,Cv 9 B,Iv 10 (len B),Iv 11 w] [])) (λu=>(0,(bE [Cv 0 B,Cv 1 D] []))) (λu=>(bE [Iv 4 u] [])) (λw=>bp 7 12 (bC 8 λz _=>bQ 10 D (bp 3 19 aZ (bC 7 λC _=>bu 8 λG _=>cz 9 28 aZ aZ))) aZ) (λu=>bQ 6 B (bQ 1 D (bp 3 35 aZ aZ))) (λu=>aZ)))
def kW(a0 B:Zg):Ps:=(fS a0 B).bind λu=>some u
instance OB(a0 B:Zg):Fc Sy cL (kW a0 B):=Fc.M 150 [enc a0,enc B] (bu 9 λu _=>aZ)
namespace fG
def bh(D G:Zg)(J:Int)(B:Int):aY (Fw Int Unit Unit):=bg (decide (B<J)) ((idx D B).bind λu=>(idx G B).bind λw=>bg (u==w) (some (.n (wrap .i64 (B+1)))) (some (.r ()))) (some (.x ()))
def W1(B D:Zg)(G J:Int):aY X':=(bF (λq:Int=>bh B D G q) J).bind (Fw.elim (λe=>some true) (λe=>some false))
end fG
def fG(B D:Zg):aY X':=bg ((len B)==(len D)) (fG.W1 B D (len B) 0) (some false)
open fG in
instance QA(B D:Zg):Fc Sy cL (fG B D):=Fc.M 10 [enc B,enc D] (bQ 9 B (bQ 1 D (cz 3 10 (bQ 7 B (dx 5 (λw=>(bE [Cv 0 B,Cv 1 D,Iv 12 (len B),Iv 13 w] [])) (λu=>(0,(bE [] []))) (λu=>(bE [Bv 4 false] [])) (λw=>bp 7 14 (bC 15 λz _=>bC 3 λC _=>cz 4 24 aZ aZ) aZ) (λu=>aZ) (λu=>aZ))) aZ)))
def mM(a0 B:Zg):aY X':=(fG a0 B).bind λu=>some u
instance ON(a0 B:Zg):Fc Sy cL (mM a0 B):=Fc.M 153 [enc a0,enc B] (bu 9 λu _=>aZ)
namespace eS
def bH(U:Zg)(W:Zb)(Y a G:Int)(J:cw)(D:Zb)(B:Int):aY (Fw ((Zb)×Int) Zb Empty):=bg (decide (B<G)) ((qE J U B).bind λw=>bg w (((dY U).bind Sl.whole).bind λu=>(Sl.lW u B).bind λz=>(Sl.get u z).bind λC=>(Sl.lW u B).bind λI=>(Sl.put u I (wrap .i64 (C+1):Int)).bind λL=>(fu D (L:Zg)).bind λO=>some (.n (O,wrap .i64 (B+1)))) (some (.n (D,wrap .i64 (B+1))))) (some (.x D))
def W2(B:Zb)(a:Zg)(J:Zb)(D G U W:Int)(Y:cw):aY (Fw ((Zb)×Int×Int) Zb Empty):=(bF (λq:(Zb)×Int=>bH a J D G U Y q.1 q.2) (B,W)).bind (Fw.elim (λe=>some (.n (e,D,wrap .i64 (G+1)))) (λe=>elim e))
def bh(G:Zb)(U:cw)(B:Zb)(J D:Int):aY (Fw ((Zb)×Int×Int) Zb Empty):=bg (decide (D<J)) ((idx G D).bind λu=>W2 B u G J D (len u) 0 U) (some (.x B))
def W1(B D:Zb)(G J:Int)(U:cw):aY Zb:=(bF (λq:(Zb)×Int×Int=>bh D U q.1 q.2.1 q.2.2) (B,G,J)).bind (Fw.elim (λe=>(Bq e kW).bind λw=>(z6 w mM).bind λu=>some u) (λe=>elim e))
end eS
def eS(D:cw)(B:Zb):aY Zb:=eS.W1 (Sl.nil:Zb) B (len B) 0 D
open eS in
instance S3(G:cw)(B:Zb):Fc Sy cL (eS G B):=Fc.N 117 [enc G,enc B] (bT 2 2 G (bQ 12 B (eG 6 (λu=>(bE [Pv 2,Ov 5,Cv 10 B,Iv 11 u.2.1,Iv 12 u.2.2] [Xb 2 G,Lb 2005 u.1])) (λI=>(0,(bE [Ov 5] [Lb 2005 I]))) (λu=>bp 8 13 (bC 7 λw _=>bQ 7 w (eG 6 (λC=>(bE [Pv 2,Ov 5,Cv 7 w,Cv 10 B,Iv 11 u.2.1,Iv 12 u.2.2,Iv 17 (len w),Iv 18 C.2] [Xb 2 G,Lb 2005 C.1])) (λJ=>(2,(bE [Pv 2,Ov 5,Cv 10 B,Iv 11 u.2.1,Iv 12 u.2.2] [Xb 2 G,Lb 2005 J]))) (λC=>bp 8 19 (bu 16 λQ _=>bp 2 24 (PY 4 26 iA w λS _=>mo .i64 7 26 λT _=>tw 0 26 0 1 false (λD=>.int .i64 D) λD _=>mo .i64 1 26 λU _=>EH 0 26 (.int .i64 (wrap .i64 (D+1))) λL _=>zk 6 35 ([L]:aX Zg) (nL 0 2005 35 36 λW _=>aZ)) aZ) aZ) (λJ=>aZ))) aZ) (λI=>abY 5 2005 JC DA XW (eR.tq (λz=>inferInstanceAs (Fc Sy cL (kW z.1 z.2))) default (λ_=>rfl) (λ_=>rfl) (λ_=>rfl) (λ_=>rfl)) λX _=>abk 5 2005 42 JC DA YD (eR.tq (λz=>inferInstanceAs (Fc Sy cL (mM z.1 z.2))) default (λ_=>rfl) (λ_=>rfl) (λ_=>rfl) (λ_=>rfl)) λO _=>aZ))))
namespace lz
def bh(J:cw)(B:Zb)(G:Sl Zb)(D:Int):aY (Fw ((Zb)×(Sl Zb)×Int) (Sl Zb) Unit):=bg (decide ((len B)>0)) (bg (decide ((wrap .i64 (D+(len B)))>5000)) (some (.r ())) ((fu G (B:Zb)).bind λu=>(eS J B).bind λw=>some (.n (w,u,wrap .i64 (D+(len B)))))) (some (.x G))
def W1(B:Zb)(G:Sl Zb)(D:Int)(J:cw):aY ((Sl Zb)×Int):=(bF (λq:(Zb)×(Sl Zb)×Int=>bh J q.1 q.2.1 q.2.2) (B,G,D)).bind (Fw.elim (λe=>some (e,0)) (λe=>some ((Sl.nil:Sl Zb),16)))
end lz
def lz(B:Z4):aY ((Sl Zb)×Int):=(cG B).bind λu=>bg u ((lR B).bind λw=>(uT (len B.procs) (0:Int)).bind λz=>lz.W1 (Sl.row [z]:Zb) (Sl.nil:Sl Zb) 0 w) (some ((Sl.nil:Sl Zb),1))
open lz in
instance Zy(B:Z4):Fc Sy cL (lz B):=Fc.N 87 [enc B] (bT 2 1 B (bu 8 λD _=>cz 3 10 (bu 6 λz _=>o4 1 4 0 z (bQ 6 B.procs (V6 0 16 λC _=>zk 1 17 ([C]:aX Zg) (dx 18 (λu=>(bE [Pv 4,Cv 5 u.1,Ov 6,Iv 7 u.2.2] [Xb 4 z,Lb 2006 u.2.1])) (λw=>(0,(bE [Ov 6] [Lb 2006 w]))) (λw=>(bE [Ov 2,Iv 3 16] [Lb 2002 (Sl.nil:Sl Zb)])) (λu=>bQ 7 u.1 (bp 3 20 (bQ 10 u.1 (bp 10 29 aZ (zk 6 32 ([u.1]:aX Zb) (nL 0 2006 32 33 λG _=>bu 7 λI _=>aZ)))) aZ)) (λw=>aZ) (λw=>aZ))))) aZ))
def gI(s:Sl Zb):aY Zb:=if s.l.length<=2147483648/\(s.l.flatMap Sl.l).length<=2147483648 then some (EI s)else none
instance Oq(s:Sl Zb):Fc Sy cL (gI s):=Fc.of (A:=λz:Sl Zb=>[enc z]) (E:=λr:Zb=>[enc r]) (p:=gI) (n:=88) (z:=s) (eR.aaO Zae Zae (λz r h=>by
 unfold gI at h;split at h
 next a=>cases h;exact C2 (Ye (E:=Sy.E) (N:=λn=>n) (gid:=118) (nm:=some) (λ_ _ h=>(Option.some.inj h).symm) rfl Zae Zae (Es Zae) (Es Zae) rfl z a.1 a.2)
 cases h))
def uJ(B:Z4):aY ((Zb)×Int):=(lz B).bind λu=>(gI u.1).bind λw=>some (w,u.2)
instance aa9(B:Z4):Fc Sy cL (uJ B):=Fc.N 61 [enc B] (bT 2 1 B (bu 7 λu _=>bu 10 λw _=>aZ))
def pq(B:Z4):aY ((Zb)×Int):=(uJ B).bind λu=>some (u.1,u.2)
instance abg(B:Z4):Fc Sy cL (pq B):=Fc.N 38 [enc B] (bT 2 1 B (bu 7 λu _=>aZ))
def lQ(B:Zg)(D:Z4):aY X':=some (!((len B)==(len D.procs)))
instance Yw(B:Zg)(D:Z4):Fc Sy cL (lQ B D):=Fc.M 98 [enc B,.fptr (cells D)] (bQ 8 B (bQ 2 D.procs aZ))
namespace iD
def bh(s0:Zb)(D:Int)(B:Int)(p1:(Zg)->aY X'):aY (Fw Int Unit Int):=bg (decide (B<D)) ((idx s0 B).bind λu=>(p1 u).bind λw=>bg w (some (.r B)) (some (.n (wrap .i64 (B+1))))) (some (.x ()))
def W1(s0:Zb)(B D:Int)(p1:(Zg)->aY X'):Ps:=(bF (λq:Int=>bh s0 B q p1) D).bind (Fw.elim (λe=>some (-1)) (λe=>some e))
end iD
def iD(s0:Zb)(p1:(Zg)->aY X'):Ps:=iD.W1 s0 (len s0) 0 p1
open iD in
abbrev zh(g1:FuncId)(e1:aX V)(p1:(Sl Int)->aY Bool)(a:mS Sy cL g1 [] e1 (λz:Sl Int=>[enc z]) (λr:Bool=>[.bool r]) p1 true)(s0:Sl (Sl Int)):Fc Sy cL (iD s0 p1):=Fc.M 96 [enc s0,.clo g1 [] e1] (bQ 9 s0 (dx 5 (λw=>(bE [Cv 0 s0,(1,.v (.clo g1 [] e1)),Iv 7 (len s0),Iv 8 w] [])) (λu=>(0,(bE [] []))) (λu=>(bE [Iv 4 u] [])) (λw=>bp 7 9 (bC 16 λB _=>zK 1 a.f B λC _=>bp 2 16 aZ aZ) aZ) (λu=>aZ) (λu=>aZ)))
def jv(s0:Zb)(p1:(Zg)->aY X'):aY X':=(iD s0 p1).bind λu=>some (decide (u>=0))
abbrev qU(g1:FuncId)(e1:aX V)(p1:(Sl Int)->aY Bool)(a:mS Sy cL g1 [] e1 (λz:Sl Int=>[enc z]) (λr:Bool=>[.bool r]) p1 true)(s0:Sl (Sl Int)):Fc Sy cL (jv s0 p1):=Fc.M 68 [enc s0,.clo g1 [] e1] (bu (F:=zh g1 e1 p1 a s0) 9 λu _=>aZ)
def zA(D:Z4)(G:Zb):aY X':=(cG D).bind λu=>(bg u ((jv G (λz=>lQ z D)).bind λw=>some (!w)) (some false):aY X').bind λB=>some B
instance abc(B:Z4)(D:Zb):Fc Sy cL (zA B D):=Fc.M 71 [enc B,enc D] (bT 2 2 B (bu 6 λu _=>bG 1 5 [1,2,7] 12 (bp 1 7 (bY (F:=qU 98 [.fptr (cells B)] (λz=>lQ z B) mS.tq D) 2 λw _=>bq 2) (bq 5)) λC=>aZ))
namespace lC
def bh(G:Zg)(J:Int)(D:Z4)(B:Int):aY (Fw Int Unit Unit):=bg (decide (B<J)) ((idx G B).bind λu=>(bg (decide (u<0)) (some true) ((idx D.procs B).bind λw=>some (decide (u>(len w.events)))):aY X').bind λz=>bg z (some (.r ())) (some (.n (wrap .i64 (B+1))))) (some (.x ()))
def W1(D:Zg)(G J:Int)(B:Z4):aY X':=(bF (λq:Int=>bh D G B q) J).bind (Fw.elim (λe=>some true) (λe=>some false))
end lC
def lC(D:Z4)(B:Zg):aY X':=lC.W1 B (len B) 0 D
open lC in
instance Zm(D:Z4)(B:Zg):Fc Sy cL (lC D B):=Fc.M 72 [enc D,enc B] (bT 2 2 D (bQ 7 B (dx 5 (λw=>(bE [Pv 2,Cv 7 B,Iv 8 (len B),Iv 9 w] [Xb 2 D])) (λu=>(0,(bE [] []))) (λu=>(bE [Bv 4 false] [])) (λw=>bp 7 10 (bC 8 λC _=>bG 10 10 [5,6,16] 26 (bp 10 16 (bq 10) (bC 4 λz _=>bQ 2 z.events (bq 2))) λG=>bp 2 26 aZ aZ) aZ) (λu=>aZ) (λu=>aZ))))
def wJ(B:Z4)(p1:Int):aY X':=(bg (decide (p1>=0)) (some (decide (p1<(len B.procs)))) (some false):aY X').bind λu=>some u
instance Zn(B:Z4)(p1:Int):Fc Sy cL (wJ B p1):=Fc.M 89 [enc B,.int .i64 p1] (bT 2 2 B (bG 8 6 [1,2,7] 13 (bp 8 7 (bQ 3 B.procs (bq 2)) (bq 6)) λu=>aZ))
namespace i_
def bH(Y:Zg)(p7:Int)(a:Zg)(b c:Int)(J:Sl WF)(U:Int)(W:Z4)(G D:a_)(B:Int):aY (Fw Int Unit (a_×a_)):=bg (decide (B<U)) ((idx J B).bind λw=>bg (w.kind==3) ((r_ W w.message).bind λu=>(idx Y u.1.proc).bind λz=>bg (decide (u.1.index>z)) (some (.r (u.1,(⟨p7,wrap .i64 (B+1)⟩:a_)))) (some (.n (wrap .i64 (B+1))))) (some (.n (wrap .i64 (B+1))))) (some (.x ()))
def W2(a:Zg)(p7:Int)(J:Zg)(U G:Int)(W:Sl WF)(Y b:Int)(c:Z4)(D B:a_):aY (Fw Int Unit (a_×a_)):=(bF (λq:Int=>bH a p7 J U G W Y c D B q) b).bind (Fw.elim (λe=>some (.n (wrap .i64 (G+1)))) (λe=>some (.r (e.1,e.2))))
def bh(Y J:Zg)(U:Int)(W:Z4)(G B:a_)(D:Int):aY (Fw Int Unit (a_×a_)):=bg (decide (D<U)) ((idx J D).bind λw=>(idx W.procs D).bind λz=>(gN z.events none (some w)).bind λu=>W2 Y D J U D u (len u) 0 W G B) (some (.x ()))
def W1(Y G:Zg)(J U:Int)(W:Z4)(D B:a_):aY (a_×a_×X'):=(bF (λq:Int=>bh Y G J W D B q) U).bind (Fw.elim (λe=>some (⟨0,0⟩,⟨0,0⟩,false)) (λe=>some (e.1,e.2,true)))
end i_
def i_(D:Z4)(B:Zg):aY (a_×a_×X'):=i_.W1 B B (len B) 0 D (⟨0,0⟩:a_) (⟨0,0⟩:a_)
open i_ in
instance ZC(D:Z4)(B:Zg):Fc Sy cL (i_ D B):=Fc.M 73 [enc D,enc B] (bT 2 2 D (bQ 9 B (dx 5 (λu=>(bE [Cv 1 B,Pv 2,Pv 4,Pv 5,Cv 13 B,Iv 14 (len B),Iv 15 u] [Xb 2 D,Xb 4 (⟨0,0⟩:a_),Xb 5 (⟨0,0⟩:a_)])) (λw=>(0,(bE [Pv 4,Pv 5] [Xb 4 (⟨0,0⟩:a_),Xb 5 (⟨0,0⟩:a_)]))) (λw=>(bE [Pv 4,Pv 5,Bv 6 true] [Xb 4 w.1,Xb 5 w.2])) (λu=>bp 7 16 (bC 8 λI _=>bC 10 λL _=>Cu 3 false true [.int .i64 I] λC _=>bQ 0 C (dx 5 (λG=>(bE [Cv 1 B,Pv 2,Pv 4,Pv 5,Iv 7 u,Cv 13 B,Iv 14 (len B),Iv 15 u,Cv 27 C,Iv 28 (len C),Iv 29 G] [Xb 2 D,Xb 4 (⟨0,0⟩:a_),Xb 5 (⟨0,0⟩:a_)])) (λz=>(2,(bE [Cv 1 B,Pv 2,Pv 4,Pv 5,Cv 13 B,Iv 14 (len B),Iv 15 u] [Xb 2 D,Xb 4 (⟨0,0⟩:a_),Xb 5 (⟨0,0⟩:a_)]))) (λz=>(bE [Pv 4,Pv 5,Bv 6 true] [Xb 4 z.1,Xb 5 z.2])) (λG=>bp 7 30 (bC 8 λJ _=>o4 3 10 0 J (cz 10 36 (bu 8 λO _=>bC 15 λQ _=>bp 4 51 aZ aZ) aZ)) aZ) (λz=>aZ) (λz=>aZ))) aZ) (λw=>aZ) (λw=>aZ))))
def xP(B:Z4)(D:Zg):aY X':=(i_ B D).bind λu=>some (!u.2.2)
instance aaR(B:Z4)(D:Zg):Fc Sy cL (xP B D):=Fc.M 90 [enc B,enc D] (bT 2 2 B (bu 7 λu _=>aZ))
namespace dw
def fh(D:Zb)(G:Int)(J:Z4)(B:Int):aY (Fw Int Unit Unit):=bg (decide (B<G)) ((idx D B).bind λu=>(xP J u).bind λw=>bg w (some (.n (wrap .i64 (B+1)))) (some (.r ()))) (some (.x ()))
def W3(B:Zb)(D G:Int)(J:Z4):Ps:=(bF (λq:Int=>fh B D J q) G).bind (Fw.elim (λe=>some 0) (λe=>some 18))
def bH(U:Zb)(D:Zg)(G:Int)(J:Z4)(B:Int):aY (Fw Int Unit Unit):=bg (decide (B<G)) ((idx D B).bind λu=>(wJ J u).bind λw=>bg w (some (.n (wrap .i64 (B+1)))) (some (.r ()))) (some (.x ()))
def W2(D:Zb)(G:Zg)(J U:Int)(B:Z4):Ps:=(bF (λq:Int=>bH D G J B q) U).bind (Fw.elim (λe=>dw.W3 D (len D) 0 B) (λe=>some 2))
def bh(W:Zb)(D:Zg)(G:Zb)(J:Int)(U:Z4)(B:Int):aY (Fw Int Unit Unit):=bg (decide (B<J)) ((idx G B).bind λu=>(lC U u).bind λw=>bg w (some (.n (wrap .i64 (B+1)))) (some (.r ()))) (some (.x ()))
def W1(W:Zb)(B:Zg)(G:Zb)(J U:Int)(D:Z4):Ps:=(bF (λq:Int=>bh W B G J D q) U).bind (Fw.elim (λe=>dw.W2 W B (len B) 0 D) (λe=>some 2))
end dw
def dw(G:Z4)(D:Zb)(B:Zg):Ps:=(zA G D).bind λu=>bg u (dw.W1 D B D (len D) 0 G) (some 1)
open dw in
instance abf(G:Z4)(D:Zb)(B:Zg):Fc Sy cL (dw G D B):=Fc.M 62 [enc G,enc D,enc B] (bT 2 3 G (bu 8 λL _=>cz 3 16 (bQ 7 D (dx 5 (λC=>(bE [Cv 1 D,Cv 2 B,Pv 3,Cv 17 D,Iv 18 (len D),Iv 19 C] [Xb 3 G])) (λu=>(0,(bE [Cv 1 D,Cv 2 B,Pv 3] [Xb 3 G]))) (λu=>(bE [Iv 6 2] [])) (λC=>bp 7 20 (bC 7 λO _=>bu 8 λQ _=>cz 3 26 aZ aZ) aZ) (λu=>bQ 6 B (dx 5 (λI=>(bE [Cv 1 D,Pv 3,Cv 28 B,Iv 29 (len B),Iv 30 I] [Xb 3 G])) (λw=>(2,(bE [Cv 1 D,Pv 3] [Xb 3 G]))) (λw=>(bE [Iv 6 2] [])) (λI=>bp 7 31 (bC 7 λS _=>bu 8 λT _=>cz 3 37 aZ aZ) aZ) (λw=>bQ 6 D (dx 5 (λJ=>(bE [Pv 3,Cv 39 D,Iv 40 (len D),Iv 41 J] [Xb 3 G])) (λz=>(4,(bE [] []))) (λz=>(bE [Iv 6 18] [])) (λJ=>bp 7 42 (bC 7 λU _=>bu 8 λW _=>cz 3 48 aZ aZ) aZ) (λz=>aZ) (λz=>aZ))) (λw=>aZ))) (λu=>aZ))) aZ))
namespace kn
def bh(G:Zg)(J:Int)(B:Sl a_)(D:Int):aY (Fw ((Sl a_)×Int) (Sl a_) Empty):=bg (decide (D<J)) ((idx G D).bind λu=>bg (decide (u>0)) ((fu B (⟨D,u⟩:a_)).bind λw=>some (.n (w,wrap .i64 (D+1)))) (some (.n (B,wrap .i64 (D+1))))) (some (.x B))
def W1(B:Sl a_)(D:Zg)(G J:Int):aY ((Sl a_)×Int):=(bF (λq:(Sl a_)×Int=>bh D G q.1 q.2) (B,J)).bind (Fw.elim (λe=>some (e,0)) (λe=>elim e))
end kn
def kn(D:Z4)(B:Zg):aY ((Sl a_)×Int):=(dw D (Sl.row [B]:Zb) (Sl.nil:Zg)).bind λu=>bg (u==0) (kn.W1 (Sl.nil:Sl a_) B (len B) 0) (some (Sl.nil,u))
open kn in
instance Xw(D:Z4)(B:Zg):Fc Sy cL (kn D B):=Fc.N 113 [enc D,enc B] (bT 2 2 D (zk 9 12 ([B]:aX Zg) (bY 0 λz _=>cz 9 15 (bQ 12 B (eG 6 (λu=>(bE [Ov 7,Cv 17 B,Iv 18 (len B),Iv 19 u.2] [Lb 2007 u.1])) (λw=>(0,(bE [Ov 7] [Lb 2007 w]))) (λu=>bp 8 20 (bC 8 λC _=>bp 11 25 (nL 7 2007 30 31 λG _=>aZ) aZ) aZ) (λw=>aZ))) aZ)))
namespace gA
def kV(B:bR)(D:Int)(x:Int×(Zg))(G:Zg):aY (Fw Zg Empty Zg):=bg (x.1==D) (some (.r x.2)) (some (.n (Sl.nil:Zg)))
def E1(B:bR)(D:Int)(G:Zg):aY Zg:=(kq B).bind λu=>(mb (λ(x:Int×(Zg))(q:Zg)=>kV B D x q) u G).bind (Fw.sZ (λq=>some Sl.nil) (λe=>elim e) (λe=>some e))
end gA
def gA(B:bR)(k1:Int):aY Zg:=(o6 B).bind λu=>gA.E1 u k1 (Sl.nil:Zg)
open gA in
instance TS(D:bR)(k1:Int):Fc Sy cL (gA D k1):=Fc.N 114 [enc D,.int .i64 k1] (bT 2 2 D (bu 8 λw _=>GP λC z=>Di 4 [Pv 3,Pv 4,(8,.v (.clo 171 [] [.fptr (cells w)]))] (λB=>[(3,.box [iv k1]),(4,.box [.v .bO])]) (λu=>elim u) (λu=>[(3,.box [iv k1]),(4,.box [cv u])]) (HE w C z) (λG B=>Aj 8 (bp 9 13 (o4 4 4 0 G.2 aZ) aZ)) (λB=>aZ) (λx=>elim x) (λu=>aZ)))
namespace jH
def bh(G:Zg)(J:Int)(U:Z4)(D:Zb)(B:Int):aY (Fw ((Zb)×Int) Zb Empty):=bg (decide (B<J)) ((idx G B).bind λu=>(idx U.procs B).bind λw=>(gA w u).bind λz=>(fu D (z:Zg)).bind λC=>some (.n (C,wrap .i64 (B+1)))) (some (.x D))
def W1(B:Zb)(D:Zg)(G J:Int)(U:Z4):aY ((Zb)×Int):=(bF (λq:(Zb)×Int=>bh D G U q.1 q.2) (B,J)).bind (Fw.elim (λe=>some (e,0)) (λe=>elim e))
end jH
def jH(D:Z4)(B:Zg):aY ((Zb)×Int):=(kn D B).bind λu=>bg (u.2==0) (jH.W1 (Sl.nil:Zb) B (len B) 0 D) (some (Sl.nil,u.2))
open jH in
instance Ze(D:Z4)(B:Zg):Fc Sy cL (jH D B):=Fc.N 85 [enc D,enc B] (bT 2 2 D (bu 9 λC _=>cz 13 18 (bQ 12 B (eG 6 (λu=>(bE [Pv 2,Ov 8,Cv 20 B,Iv 21 (len B),Iv 22 u.2] [Xb 2 D,Lb 2008 u.1])) (λw=>(0,(bE [Ov 8] [Lb 2008 w]))) (λu=>bp 8 23 (bC 8 λG _=>bC 10 λI _=>bu 2 λz _=>zk 0 35 ([z]:aX Zg) (nL 0 2008 35 36 λJ _=>aZ)) aZ) (λw=>aZ))) aZ))
def lq(B:Var)(D:T'):aY X':=some (toList B.name==toList D.name)
instance Iw(B:Var)(D:T'):Fc Sy cL (lq B D):=Fc.M 173 [enc B,.fptr (cells D)] (aZ)
def pR(D:cq)(p1:T'):Ps:=(idx D.t.procs p1.proc).bind λu=>(fQ u.vars (λz=>lq z p1)).bind λw=>(idx D.values p1.proc).bind λB=>(idx B w).bind λC=>some C
instance KU(B:cq)(p1:T'):Fc Sy cL (pR B p1):=Fc.M 146 [enc B,enc p1] (bT 2 2 B (bT 0 3 p1 (bC 10 λu _=>bY (F:=pG 173 [.fptr (cells p1)] (λz=>lq z p1) mS.tq u.vars) 3 λw _=>bC 9 λC _=>bC 2 λD _=>aZ)))
def vW(B:Z4)(m1:Int):aY (a_×X'):=(jg B 3 m1).bind λu=>some (u.1,u.2)
instance T4(B:Z4)(m1:Int):Fc Sy cL (vW B m1):=Fc.M 195 [enc B,.int .i64 m1] (bT 2 2 B (bu 8 λu _=>aZ))
namespace jx
def bh(W:Zg)(Y:Int)(J:Sl WF)(U:Z4)(B:Zg)(G D:Int):aY (Fw ((Zg)×Int×Int) Zg Empty):=bg (decide (D<G)) ((idx J D).bind λu=>(bg (u.kind==2) (some (!(u.peer==Y))) (some true):aY X').bind λC=>bg C (some (.n (B,G,wrap .i64 (D+1)))) ((vW U u.message).bind λw=>(bg w.2 ((idx W w.1.proc).bind λI=>some (decide (w.1.index>I))) (some true):aY X').bind λL=>bg L ((fu B (u.message:Int)).bind λz=>some (.n (z,G,wrap .i64 (D+1)))) (some (.n (B,G,wrap .i64 (D+1)))))) (some (.x B))
def W1(W:Zg)(Y:Int)(B:Zg)(D:Sl WF)(G J:Int)(U:Z4):aY ((Zg)×Int):=(bF (λq:(Zg)×Int×Int=>bh W Y D U q.1 q.2.1 q.2.2) (B,G,J)).bind (Fw.elim (λe=>some (e,0)) (λe=>elim e))
end jx
def jx(B:Z4)(D:Zg)(p2 G:Int):aY ((Zg)×Int):=(dw B (Sl.row [D]:Zb) (Sl.row [p2,G]:Zg)).bind λu=>bg (u==0) ((idx B.procs p2).bind λz=>(idx D p2).bind λC=>(gN z.events none (some C)).bind λw=>jx.W1 D G (Sl.nil:Zg) w (len w) 0 B) (some (Sl.nil,u))
open jx in
instance Yp(B:Z4)(D:Zg)(p2 G:Int):Fc Sy cL (jx B D p2 G):=Fc.N 174 [enc B,enc D,.int .i64 p2,.int .i64 G] (bT 2 4 B (zk 9 18 ([D]:aX Zg) (bY 3 λL _=>cz 9 24 (bC 14 λO _=>bC 4 λC _=>Cu 1 false true [.int .i64 C] λw _=>bQ 0 w (eG 6 (λu=>(bE [Cv 1 D,Iv 3 G,Pv 4,Ov 11,Cv 36 w,Iv 37 u.2.1,Iv 38 u.2.2] [Xb 4 B,Lb 2011 u.1])) (λz=>(0,(bE [Ov 11] [Lb 2011 z]))) (λu=>bp 8 39 (bC 7 λI _=>o4 2 13 0 I (bG 9 5 [45] 50 (cz 9 45 (bq 5) (bq 5)) λQ=>bp 2 50 aZ (bu 8 λS _=>bG 13 9 [14,60] 69 (cz 13 60 (bC 5 λT _=>bq 3) (bq 9)) λU=>bp 2 69 (nL 6 2011 73 74 λJ _=>aZ) aZ))) aZ) (λz=>aZ))) aZ)))
def qu(B:cq)(p1:T'):Ps:=(jx B.t B.counts p1.proc p1.peer).bind λu=>some (len u.1)
instance Mn(B:cq)(p1:T'):Fc Sy cL (qu B p1):=Fc.M 147 [enc B,enc p1] (bT 2 2 B (bT 0 3 p1 (bu 13 λu _=>bQ 10 u.1 aZ)))
def eY(B:cq)(p1:T')(r:(cq×T')->Ps):Ps:=bg (p1.kind==1) (some p1.n) (bg (p1.kind==2) ((pR B p1).bind λL=>some L) (bg (p1.kind==3) ((idx B.counts p1.proc).bind λO=>some O) (bg (p1.kind==4) ((qu B p1).bind λQ=>some Q) (bg (p1.kind==5) ((idx p1.l 0).bind λS=>(r (B,S)).bind λT=>some (wrap .i64 (0-T))) (bg (p1.kind==6) ((idx p1.l 0).bind λU=>(r (B,U)).bind λW=>(idx p1.l 1).bind λX=>(r (B,X)).bind λY=>some (wrap .i64 (W+Y))) (bg (p1.kind==7) ((idx p1.l 0).bind λu=>(r (B,u)).bind λw=>(idx p1.l 1).bind λz=>(r (B,z)).bind λC=>some (wrap .i64 (w-C))) ((idx p1.l 0).bind λD=>(r (B,D)).bind λG=>(idx p1.l 1).bind λI=>(r (B,I)).bind λJ=>some (wrap .i64 (G*J)))))))))
theorem ya(r:(cq×T')->Ps)(a:eR Sy cL 115 (λz:cq×T'=>[enc z.1,enc z.2]) (λr:Int=>[.int .i64 r]) r true)(B:cq)(p1:T'):Le ((eY B p1 r).bind λr=>some [.int .i64 r]) (gV cL 115 [enc B,enc p1]):=(Fc.M 115 [enc B,enc p1] (bT 2 2 B (bT 0 3 p1 (bp 17 7 aZ (bp 7 11 (bu 5 λT _=>aZ) (bp 7 16 (bC 7 λU _=>aZ) (bp 7 24 (bu 5 λW _=>aZ) (bp 7 29 (dJ 6 33 (Pred.eX p1.l) (bC 0 λG _=>bY (F:=Fc.of (B,G) a) 1 λX _=>aZ)) (bp 7 38 (dJ 6 42 (Pred.eX p1.l) (bC 0 λI _=>bY (F:=Fc.of (B,I) a) 1 λY _=>dJ 3 48 (Pred.eX p1.l) (bC 0 λJ _=>bY (F:=Fc.of (B,J) a) 1 λZ _=>aZ))) (bp 7 53 (dJ 6 57 (Pred.eX p1.l) (bC 0 λu _=>bY (F:=Fc.of (B,u) a) 1 λL _=>dJ 3 63 (Pred.eX p1.l) (bC 0 λw _=>bY (F:=Fc.of (B,w) a) 1 λO _=>aZ))) (dJ 9 70 (Pred.eX p1.l) (bC 0 λC _=>bY (F:=Fc.of (B,C) a) 1 λQ _=>dJ 3 76 (Pred.eX p1.l) (bC 0 λD _=>bY (F:=Fc.of (B,D) a) 1 λS _=>aZ)))))))))))):Fc Sy cL (eY B p1 r)).F.h ()
def e9(B:cq)(p1:T'):Ps:=dD (λr(z:cq×T')=>eY z.1 z.2 r) 100000 (B,p1)
instance Mt(B:cq)(p1:T'):Fc Sy cL (e9 B p1):=Fc.of (B,p1) (eR.fix (A:=λz:cq×T'=>[enc z.1,enc z.2]) (E:=λr:Int=>[.int .i64 r]) (sc:=true) (b:=(λr(z:cq×T')=>eY z.1 z.2 r)) Zae (λ_ _=>rfl) (λr a z=>ya r a z.1 z.2) 100000)
namespace gb
def J1(W:Int)(U:X')(D:cq)(B:T')(r:(cq×T')->aY X'):aY X':=bg U (some (B.kind==13)) (bg (W==15) ((idx B.l 0).bind λu=>(r (D,u)).bind λw=>some (!w)) (bg (W==16) ((idx B.l 0).bind λz=>(r (D,z)).bind λC=>(bg C ((idx B.l 1).bind λG=>(r (D,G)).bind λI=>some I) (some false):aY X').bind λJ=>some J) ((idx B.l 0).bind λL=>(r (D,L)).bind λO=>(bg O (some true) ((idx B.l 1).bind λQ=>(r (D,Q)).bind λS=>some S):aY X').bind λT=>some T)))
theorem mW(r:(cq×T')->aY X')(a:eR Sy cL 86 (λz:cq×T'=>[enc z.1,enc z.2]) (λr:X'=>[.bool r]) r true)(U:Int)(G:X')(B:cq)(D:T'):Le ((J1 U G B D r).bind (λr=>some [.bool r])) (bZ Sy cL (pI (tr Tx 86)) (rF (tb Tx 86) [1,0,1,0,1,1,1,1,1,1,1,1,1,0] [] (bE [Pv 2,Pv 3,Iv 6 U,Bv 67 G] [Xb 2 B,Xb 3 D]))):=bp 0 67 aZ (bp 7 73 (dJ 6 77 (Pred.eX D.l) (bC 0 λC _=>bY (F:=Fc.of (B,C) a) 1 λQ _=>aZ)) (bp 7 82 (dJ 6 86 (Pred.eX D.l) (bC 0 λI _=>bY (F:=Fc.of (B,I) a) 1 λS _=>wu 1 7 [96,89] (λu=>(bE [Bv 67 false,Bv 73 false,Bv 82 true,Bv 97 u] [Xb 2 B,Xb 3 D])) (bp 1 90 (dJ 3 93 (Pred.eX D.l) (bC 0 λJ _=>bY (F:=Fc.of (B,J) a) 1 λT _=>bq 1)) (bq 7)) λu=>aZ)) (dJ 9 100 (Pred.eX D.l) (bC 0 λL _=>bY (F:=Fc.of (B,L) a) 1 λW _=>wu 1 7 [110,103] (λw=>(bE [Bv 67 false,Bv 73 false,Bv 82 false,Bv 111 w] [Xb 2 B,Xb 3 D])) (bp 1 104 (bq 7) (dJ 3 107 (Pred.eX D.l) (bC 0 λO _=>bY (F:=Fc.of (B,O) a) 1 λX _=>bq 1))) λw=>aZ))))
end gb
def fC(B:cq)(p1:T')(r:(cq×T')->aY X'):aY X':=bg (p1.kind==9) ((idx p1.l 0).bind λJ=>(e9 B J).bind λL=>(idx p1.l 1).bind λO=>(e9 B O).bind λQ=>some (L==Q)) (bg (p1.kind==10) ((idx p1.l 0).bind λS=>(e9 B S).bind λT=>(idx p1.l 1).bind λU=>(e9 B U).bind λW=>some (!(T==W))) (bg (p1.kind==11) ((idx p1.l 0).bind λX=>(e9 B X).bind λu=>(idx p1.l 1).bind λw=>(e9 B w).bind λz=>some (decide (u<z))) (bg (p1.kind==12) ((idx p1.l 0).bind λC=>(e9 B C).bind λD=>(idx p1.l 1).bind λG=>(e9 B G).bind λI=>some (decide (D<=I))) (bg (p1.kind==13) (gb.J1 p1.kind true B p1 r) (gb.J1 p1.kind (p1.kind==14) B p1 r)))))
open gb in
theorem yX(r:(cq×T')->aY X')(a:eR Sy cL 86 (λz:cq×T'=>[enc z.1,enc z.2]) (λr:X'=>[.bool r]) r true)(B:cq)(p1:T'):Le ((fC B p1 r).bind λr=>some [.bool r]) (gV cL 86 [enc B,enc p1]):=(Fc.M 86 [enc B,enc p1] (bT 2 2 B (bT 0 3 p1 (bp 17 7 (dJ 6 11 (Pred.eX p1.l) (bC 0 λL _=>bY 1 λO _=>dJ 3 17 (Pred.eX p1.l) (bC 0 λQ _=>bY 1 λS _=>aZ))) (bp 7 22 (dJ 6 26 (Pred.eX p1.l) (bC 0 λT _=>bY 1 λU _=>dJ 3 32 (Pred.eX p1.l) (bC 0 λW _=>bY 1 λX _=>aZ))) (bp 7 37 (dJ 6 41 (Pred.eX p1.l) (bC 0 λY _=>bY 1 λu _=>dJ 3 47 (Pred.eX p1.l) (bC 0 λw _=>bY 1 λC _=>aZ))) (bp 7 52 (dJ 6 56 (Pred.eX p1.l) (bC 0 λD _=>bY 1 λG _=>dJ 3 62 (Pred.eX p1.l) (bC 0 λI _=>bY 1 λJ _=>aZ))) (bp 8 67 (nR 4 (mW r a p1.kind true B p1)) (nR 7 (mW r a p1.kind (p1.kind==14) B p1))))))))):Fc Sy cL (fC B p1 r)).F.h ()
def gb(B:cq)(p1:T'):aY X':=dD (λr(z:cq×T')=>fC z.1 z.2 r) 100000 (B,p1)
instance Nj(B:cq)(p1:T'):Fc Sy cL (gb B p1):=Fc.of (B,p1) (eR.fix (A:=λz:cq×T'=>[enc z.1,enc z.2]) (E:=λr:X'=>[.bool r]) (sc:=true) (b:=(λr(z:cq×T')=>fC z.1 z.2 r)) Zae (λ_ _=>rfl) (λr a z=>yX r a z.1 z.2) 100000)
namespace iQ
def bh(Y J:Zb)(U:Int)(G:Z4)(W:T')(B:Sl X')(D:Int):aY (Fw ((Sl X')×Int) (Sl X') ((Zb)×(Sl X')×Int)):=bg (decide (D<U)) ((idx J D).bind λw=>(jH G w).bind λu=>bg (u.2==0) ((gb (⟨G,w,u.1⟩:cq) W).bind λz=>(fu B (z:X')).bind λC=>some (.n (C,wrap .i64 (D+1)))) (some (.r ((Sl.nil:Zb),(Sl.nil:Sl X'),u.2)))) (some (.x B))
def W1(Y:Zb)(B:Sl X')(D:Zb)(G J:Int)(U:Z4)(W:T'):aY ((Zb)×(Sl X')×Int):=(bF (λq:(Sl X')×Int=>bh Y D G U W q.1 q.2) (B,J)).bind (Fw.elim (λe=>some (Y,e,0)) (λe=>some (e.1,e.2.1,e.2.2)))
end iQ
def iQ(B:Z4)(p1:T'):aY ((Zb)×(Sl X')×Int):=(tf B p1).bind λw=>bg (w==0) ((vE p1 2).bind λz=>bg (z==0) ((p8 p1).bind λC=>bg C (some (Sl.nil,(Sl.nil:Sl X'),15)) ((pq B).bind λu=>bg (u.2==0) (iQ.W1 u.1 (Sl.nil:Sl X') u.1 (len u.1) 0 B p1) (some (Sl.nil,(Sl.nil:Sl X'),u.2)))) (some (Sl.nil,(Sl.nil:Sl X'),z))) (some (Sl.nil,(Sl.nil:Sl X'),w))
open iQ in
instance XH(B:Z4)(p1:T'):Fc Sy cL (iQ B p1):=Fc.N 60 [enc B,enc p1] (bT 2 2 B (bT 0 3 p1 (bu 10 λG _=>cz 9 20 (bu 7 λI _=>cz 9 25 (bu 7 λJ _=>bp 2 28 aZ (bu 6 λw _=>cz 14 35 (bQ 12 w.1 (dx 6 (λz=>(bE [Pv 2,Pv 3,Cv 9 w.1,Ov 11,Cv 37 w.1,Iv 38 (len w.1),Iv 39 z.2] [Xb 2 B,Xb 3 p1,Lb 2011 z.1])) (λu=>(0,(bE [Cv 9 w.1,Ov 11] [Lb 2011 u]))) (λu=>(bE [Cv 4 u.1,Ov 5,Iv 6 u.2.2] [Lb 2005 u.2.1])) (λz=>bp 8 40 (bC 7 λC _=>bu 8 λD _=>cz 14 50 (ac2 8 (⟨B,C,D.1⟩:cq) [enc B,enc C,enc D.1] [.bO,.bO,.bO] [(0,1),(1,1),(2,1)] (by simp only[PF,Rk,mI,RM,NK,Rt,SF];rfl) rfl (bu 1 λL _=>nL 1 2011 59 60 λO _=>aZ)) aZ) aZ) (λu=>aZ) (λu=>aZ))) aZ)) aZ) aZ)))
def qg(B:Z4)(p1:T'):aY ((Sl X')×Int):=(iQ B p1).bind λu=>some (u.2.1,u.2.2)
instance Us(B:Z4)(p1:T'):Fc Sy cL (qg B p1):=Fc.N 37 [enc B,enc p1] (bT 2 2 B (bT 0 3 p1 (bu 8 λu _=>aZ)))
namespace jh
def bh(J:Zg)(D:Int)(G:Sl U8)(B:Int):aY (Fw ((Sl U8)×Int) (Sl U8) Empty):=bg (decide (B<D)) ((idx J B).bind λu=>(fu G (⟨wrap .u8 u⟩:U8)).bind λw=>some (.n (w,wrap .i64 (B+1)))) (some (.x G))
def W1(G:Sl U8)(J:Zg)(B D:Int):aY U':=(bF (λq:(Sl U8)×Int=>bh J B q.1 q.2) (G,D)).bind (Fw.elim (λe=>some (Ou e)) (λe=>elim e))
end jh
def jh(B:Zg):aY U':=(wY (len B) (⟨0⟩:U8)).bind λu=>jh.W1 u B (len B) 0
open jh in
instance ZV(B:Zg):Fc Sy cL (jh B):=Fc.M 41 [enc B] (bQ 8 B (ac5 (zero:=[.int .u8 0]) 0 8 λz _=>bQ 7 B (eG 6 (λu=>(bE [Ov 3,Cv 9 B,Iv 10 (len B),Iv 11 u.2] [Lb 2003 u.1])) (λw=>(0,(bE [Ov 3] [Lb 2003 w]))) (λu=>bp 8 12 (bC 7 λC _=>nL 9 2003 18 19 λD _=>aZ) aZ) (λw=>abZ 5 2003 w aZ))))
namespace kD
def bh(J:Zb)(U:Int)(D:Int)(G:Mo ByteArray Int)(B:b_):aY (Fw (Int×(Mo ByteArray Int)×b_) ((Mo ByteArray Int)×b_) Empty):=bg (decide (D<U)) ((idx J D).bind λu=>(jh u).bind λw=>some (.n (wrap .i64 (D+1),nK G w D,(⟨B.t,B.l,⟨none⟩,B.truth⟩:b_)))) (some (.x (G,(⟨B.t,B.l,⟨none⟩,B.truth⟩:b_))))
def W1(G:Zb)(J U:Int)(B:Mo ByteArray Int)(D:b_):aY (aY b_):=(bF (λq:Int×(Mo ByteArray Int)×b_=>bh G J q.1 q.2.1 q.2.2) (U,B,D)).bind (Fw.elim (λe=>some (some (⟨e.2.t,e.2.l,⟨some e.1⟩,e.2.truth⟩:b_))) (λe=>elim e))
end kD
def kD(G:Z4)(D:Zb)(B:Sl X'):aY (aY b_):=kD.W1 D (len D) 0 [] (⟨G,D,⟨none⟩,B⟩:b_)
open kD in
instance Zk(G:Z4)(D:Zb)(B:Sl X'):Fc Sy cL (kD G D B):=Fc.N 39 [enc G,enc D,enc B] (bT 2 3 G (abB 9 [cv G,cv D,.mp 12,cv B] [cv G.procs,cv D,.mp 12,cv B] [.bO,.bO,.iB,.bO] [(0,1),(1,1),(2,1),(3,1)] (by simp only[Fy,Ru,UU,Og,Q4,Pn,mI,RM,NK,Rt,SF];rfl) (acd 0 15 [cv G.procs,cv D,.mp 12,cv B] (by simp only[all_cons,aaf,UN,Yq,Vg,oQ,nk,oN,oB,NY];rfl) (bQ 7 D (eG 5 (λu=>(bE [(7,.ptr 15 0),Cv 16 D,Iv 17 (len D),Iv 18 u.1] [(12,vA u.2.1),(15,.box [cv u.2.2.t.procs,cv u.2.2.l,.mp 12,cv u.2.2.truth])])) (λw=>(0,(bE [(7,.ptr 15 0)] [(12,vA w.1),(15,.box [cv w.2.t.procs,cv w.2.l,.mp 12,cv w.2.truth])]))) (λu=>bp 7 19 (bC 8 λC _=>bY 11 λz _=>ZW 1 12 u.2.1 z u.1 aZ) aZ) (λw=>aZ))))))
def xk(B:Z4)(p1:T'):aY ((aY b_)×Int):=(qg B p1).bind λu=>bg (u.2==0) ((pq B).bind λw=>bg (w.2==0) ((kD B w.1 u.1).bind λz=>some (z,0)) (some (none,w.2))) (some (none,u.2))
instance abb(B:Z4)(p1:T'):Fc Sy cL (xk B p1):=Fc.N 18 [enc B,enc p1] (bT 2 2 B (bT 0 3 p1 (bu 8 λu _=>cz 14 16 (bu 6 λw _=>cz 14 24 (bu 8 λz _=>aZ) aZ) aZ)))
def sY(B:Z4)(D:Zg):aY X':=(dw B (Sl.row [D]:Zb) (Sl.nil:Zg)).bind λu=>some (u==0)
instance Tk(B:Z4)(D:Zg):Fc Sy cL (sY B D):=Fc.M 40 [enc B,enc D] (bT 2 2 B (zk 7 7 ([D]:aX Zg) (bY 0 λu _=>aZ)))
namespace fJ
def bh(G:b_)(i1 J U:Int)(B:Zg)(D:Int):aY (Fw ((Zg)×Int) Zg Empty):=bg (decide (D<U)) ((idx G.l i1).bind λz=>((dY z).bind Sl.whole).bind λu=>(Sl.lW u D).bind λC=>(Sl.get u C).bind λI=>(Sl.lW u D).bind λL=>(Sl.put u L (wrap .i64 (I+J):Int)).bind λO=>(jh O).bind λw=>bg (vT (m_ G.index) w) ((fu B (pE (m_ G.index) w 0:Int)).bind λQ=>some (.n (Q,wrap .i64 (D+1)))) (some (.n (B,wrap .i64 (D+1))))) (some (.x B))
def W1(G:b_)(i1 B:Int)(D:Zg)(J U:Int):aY Zg:=(bF (λq:(Zg)×Int=>bh G i1 B J q.1 q.2) (D,U)).bind (Fw.elim (λe=>some e) (λe=>elim e))
end fJ
def fJ(s0:b_)(i1 B:Int):aY Zg:=(idx s0.l i1).bind λu=>fJ.W1 s0 i1 B (Sl.nil:Zg) (len u) 0
open fJ in
instance Qy(s0:b_)(i1 B:Int):Fc Sy cL (fJ s0 i1 B):=Fc.N 50 [.fptr (cells s0),.int .i64 i1,.int .i64 B] (bC 18 λz _=>bQ 1 z (eG 6 (λu=>(bE [Kv 0 s0,Iv 1 i1,Iv 2 B,Ov 7,Iv 19 (len z),Iv 20 u.2] [Lb 2007 u.1])) (λC=>(0,(bE [Ov 7] [Lb 2007 C]))) (λu=>bp 8 21 (bC 18 λD _=>PY 1 30 iA D λI _=>mo .i64 7 30 λJ _=>tw 0 30 0 1 false (λw=>.int .i64 w) λw _=>mo .i64 2 30 λL _=>EH 0 30 (.int .i64 (wrap .i64 (w+B))) λO _=>bY 9 λG _=>WU 0 s0.index G 0 (bp 12 48 (nL 5 2007 51 52 λQ _=>aZ) aZ)) aZ) (λC=>aZ)))
namespace iG
def bH(U:Zg)(W:Zb)(Y b G:Int)(B:Zg)(D:Int)(a:(Zg)->Ps):aY (Fw ((Zg)×Int) Zg Empty):=bg (decide (D<G)) ((Sl.lW B D).bind λw=>(Sl.get B w).bind λz=>(idx U D).bind λC=>(a (Sl.row [z,C]:Zg)).bind λI=>(Sl.lW B D).bind λJ=>(Sl.put B J (I:Int)).bind λu=>some (.n (u,wrap .i64 (D+1)))) (some (.x B))
def W2(B Y:Zg)(G:Zb)(J D U W:Int)(a:(Zg)->Ps):aY (Fw ((Zg)×Int) Zg Empty):=(bF (λq:(Zg)×Int=>bH Y G J D U q.1 q.2 a) (B,W)).bind (Fw.elim (λe=>some (.n (e,wrap .i64 (D+1)))) (λe=>elim e))
def bh(G:Zb)(J:Int)(B:Zg)(D:Int)(U:(Zg)->Ps):aY (Fw ((Zg)×Int) Zg Empty):=bg (decide (D<J)) ((idx G D).bind λu=>W2 B u G J D (len B) 0 U) (some (.x B))
def W1(B:Zg)(D:Zb)(G J:Int)(U:(Zg)->Ps):aY Zg:=(bF (λq:(Zg)×Int=>bh D G q.1 q.2 U) (B,J)).bind (Fw.elim (λe=>some e) (λe=>elim e))
end iG
def iG(B:Zb)(D:(Zg)->Ps):aY Zg:=(idx B 0).bind λw=>((dY w).bind Sl.whole).bind λz=>(gN B (some 1) none).bind λu=>iG.W1 z u (len u) 0 D
open iG in
abbrev Jr(G:FuncId)(e0:aX V)(U:(Sl Int)->aY Int)(a:mS Sy cL G [] e0 (λz:Sl Int=>[enc z]) (λr:Int=>[.int .i64 r]) U true)(W:Sl (Sl Int)):Fc Sy cL (iG W U):=Fc.N 51 [.clo G [] e0,enc W] (bC 8 λL _=>PY 1 12 iA L λT _=>Cu 7 true false [.int .i64 1] λu _=>bQ 0 u (eG 6 (λw=>(bE [(0,.v (.clo G [] e0)),Ov 5,Cv 14 u,Iv 15 (len u),Iv 16 w.2] [Lb 2005 w.1])) (λI=>(0,(bE [Ov 5] [Lb 2005 I]))) (λw=>bp 8 17 (bC 7 λO _=>FB 7 2005 w.1 (eG 6 (λC=>(bE [(0,.v (.clo G [] e0)),Ov 5,Cv 7 O,Cv 14 u,Iv 15 (len u),Iv 16 w.2,Iv 21 (len w.1),Iv 22 C.2] [Lb 2005 C.1])) (λJ=>(2,(bE [(0,.v (.clo G [] e0)),Ov 5,Cv 14 u,Iv 15 (len u),Iv 16 w.2] [Lb 2005 J]))) (λC=>bp 8 23 (mo .i64 17 2005 λX _=>tw 0 2005 0 1 false (λB=>.int .i64 B) λB _=>bC 2 λD _=>Z8 1 ([B,D]:aX Int) (.buildC 1 2 [.int .i64 0] [0,1]) [iv B,iv D] (zK 0 a.f (Sl.row [B,D]:Sl Int) λQ _=>mo .i64 0 2005 λY _=>EH 0 2005 (.int .i64 Q) λS _=>aZ)) aZ) (λJ=>aZ))) aZ) (λI=>aZ)))
def qb(B:Zg):Ps:=(dA B).bind λu=>some u
instance XI(B:Zg):Fc Sy cL (qb B):=Fc.M 52 [enc B] (bu 8 λu _=>aZ)
namespace dM
def bH(e:b_)(i4:Int)(a:Zg)(b:Int)(B:Zb)(D:Int):aY (Fw ((Zb)×Int) Zb Empty):=bg (decide (D<b)) ((idx a D).bind λu=>(Sl.lW B u).bind λc=>(Sl.get B c).bind λd=>(Sl.isNil d).bind λw=>bg w (some (.n (B,wrap .i64 (D+1)))) ((Sl.lW B i4).bind λC=>(Sl.get B C).bind λG=>(Sl.isNil G).bind λI=>bg I ((Sl.lW B u).bind λJ=>(Sl.get B J).bind λL=>(Sl.lW B i4).bind λO=>(Sl.put B O (L:Zg)).bind λQ=>some (.n (Q,wrap .i64 (D+1)))) ((Sl.lW B i4).bind λS=>(Sl.get B S).bind λT=>(Sl.lW B u).bind λU=>(Sl.get B U).bind λW=>(iG (Sl.row [T,W]:Zb) (λz=>qb z)).bind λX=>(Sl.lW B i4).bind λY=>(Sl.put B Y (X:Zg)).bind λZ=>some (.n (Z,wrap .i64 (D+1)))))) (some (.x B))
def W2(D:b_)(B:Zb)(i4:Int)(G:Zg)(J U:Int):aY (Fw ((Zb)×Int) Zb Empty):=(bF (λq:(Zb)×Int=>bH D i4 G J q.1 q.2) (B,U)).bind (Fw.elim (λe=>some (.n (e,wrap .i64 (i4-1)))) (λe=>elim e))
def bh(D:b_)(B:Zb)(i4:Int):aY (Fw ((Zb)×Int) Zb Empty):=bg (decide (i4>=0)) ((idx D.truth i4).bind λw=>bg w ((idx D.l i4).bind λz=>(Sl.lW B i4).bind λC=>(Sl.put B C (z:Zg)).bind λG=>some (.n (G,wrap .i64 (i4-1)))) ((fJ D i4 1).bind λu=>W2 D B i4 u (len u) 0)) (some (.x B))
def W1(D:b_)(B:Zb)(i4:Int):aY Zb:=(bF (λq:(Zb)×Int=>bh D q.1 q.2) (B,i4)).bind (Fw.elim (λe=>some e) (λe=>elim e))
end dM
def dM(s0:b_):aY Zb:=(uT (len s0.l) (Sl.nil:Zg)).bind λu=>dM.W1 s0 u (wrap .i64 ((len s0.l)-1))
open dM in
instance NR(s0:b_):Fc Sy cL (dM s0):=Fc.N 25 [.fptr (cells s0)] (bQ 11 s0.l (V6 0 12 λa _=>bQ 10 s0.l (eG 7 (λB=>(bE [Kv 0 s0,Ov 3,Iv 4 B.2] [Lb 2003 B.1])) (λJ=>(0,(bE [Ov 3] [Lb 2003 J]))) (λB=>bp 9 20 (bC 13 λb _=>bp 3 29 (bC 10 λc _=>mo .i64 1 2003 λd _=>JN 0 2003 λe _=>aZ) (bu 7 λG _=>bQ 0 G (eG 6 (λI=>(bE [Kv 0 s0,Ov 3,Iv 4 B.2,Cv 42 G,Iv 43 (len G),Iv 44 I.2] [Lb 2003 I.1])) (λL=>(2,(bE [Kv 0 s0,Ov 3,Iv 4 B.2] [Lb 2003 L]))) (λI=>bp 8 45 (bC 7 λf _=>mo .i64 9 2003 λg _=>tw 0 2003 0 1 false (λO=>enc O) λO _=>KY 0 λT _=>bp 3 61 aZ (mo .i64 5 2003 λU _=>tw 0 2003 0 1 false (λC=>enc C) λC _=>KY 0 λW _=>bp 3 67 (mo .i64 6 2003 λX _=>tw 0 2003 0 1 false (λD=>enc D) λD _=>mo .i64 0 2003 λY _=>JN 0 2003 λZ _=>aZ) (mo .i64 6 2003 λh _=>tw 0 2003 0 1 false (λu=>enc u) λu _=>mo .i64 2 2003 λi _=>tw 0 2003 0 1 false (λw=>enc w) λw _=>zk 0 58 ([u,w]:aX Zg) (X2 (F:=Jr 52 [] (λz=>qb z) mS.tq (Sl.row [u,w]:Zb)) 0 [58] λj _=>⟨mo .i64 0 2003 λQ _=>JN 0 2003 λS _=>aZ,mo .i64 0 2003 λQ _=>JN 0 2003 λS _=>aZ⟩)))) aZ) (λL=>aZ)))) aZ) (λJ=>aZ))))
def kB(G:Zg)(J:aY b_):aY X':=(Sl.isNil G).bind λu=>(bg u (some false) ((J).bind λw=>(J).bind λz=>(jh G).bind λB=>(idx w.truth (pE (m_ z.index) B 0)).bind λC=>some (!C)):aY X').bind λD=>some D
instance KJ(B:Zg)(D:aY b_):Fc Sy cL (kB B D):=Fc.M 69 [enc B,.fptr (cells D)] (abP 8 λI _=>wu 1 15 [16] (λu=>(bE [Bv 21 u] [])) (cz 1 6 (bq 15) (Pt 1 (λw=>(bE [Cv 0 B,Kv 1 D,Bv 6 true,Cv 7 w] [])) λz _=>Pt 4 (λw=>(bE [Cv 0 B,Bv 6 true,Cv 10 z.truth,Cv 11 w] [])) λC _=>bY 4 λG _=>RU 0 C.index G 0 (bC 0 λJ _=>bq 3))) λu=>aZ)
def oH(s0:b_)(B:Zb):aY X':=(jv B (λz=>kB z (some s0:aY b_))).bind λu=>some (!u)
instance NS(s0:b_)(B:Zb):Fc Sy cL (oH s0 B):=Fc.M 49 [.fptr (cells s0),enc B] (bY (F:=qU 69 [.fptr (cells (some s0:aY b_))] (λz=>kB z (some s0:aY b_)) mS.tq B) 10 λu _=>aZ)
def mc(s0:b_)(D:Zb)(B:Int):aY ((Zg)×Int):=(oH s0 D).bind λu=>bg u ((idx D B).bind λw=>(Sl.isNil w).bind λz=>bg z (some (Sl.nil,7)) ((idx D B).bind λC=>((dY C).bind Sl.whole).bind λG=>some (G,0))) (some (Sl.nil,15))
instance Nq(s0:b_)(D:Zb)(B:Int):Fc Sy cL (mc s0 D B):=Fc.N 24 [.fptr (cells s0),enc D,.int .i64 B] (bu 12 λw _=>cz 4 8 (bC 5 λz _=>KY 1 λC _=>bp 3 13 aZ (bC 8 λu _=>PY 1 23 iA u λG _=>aZ)) aZ)
def hU(s0:b_)(D:Zg):aY ((Zg)×Int):=(sY s0.t D).bind λw=>bg w ((dM s0).bind λz=>(jh D).bind λB=>(mc s0 z (pE (m_ s0.index) B 0)).bind λu=>some (u.1,u.2)) (some (Sl.nil,18))
instance Qo(s0:b_)(B:Zg):Fc Sy cL (hU s0 B):=Fc.N 19 [.fptr (cells s0),enc B] (bu 14 λw _=>cz 3 12 (bu 7 λz _=>bY 5 λu _=>RU 0 s0.index u 0 (bu 0 λC _=>aZ)) aZ)
def mC(B:Z4)(p1:T')(D:Zg):aY ((Zg)×Int):=(xk B p1).bind λu=>bg (u.2==0) ((u.1).bind λz=>(hU z D).bind λw=>some (w.1,w.2)) (some (Sl.nil,u.2))
instance Zt(B:Z4)(p1:T')(D:Zg):Fc Sy cL (mC B p1 D):=Fc.N 6 [enc B,enc p1,enc D] (bT 2 3 B (bT 0 4 p1 (bu 8 λu _=>cz 14 17 (Pt 7 (λw=>(bE [Iv 9 u.2,Bv 17 false,Cv 19 w,Cv 20 D] [Xb 3 B,Xb 4 p1])) λz _=>bu 0 λC _=>aZ) aZ)))
namespace dB
def bh(G J:Zg)(D:Int)(B:Int):aY (Fw Int Unit Int):=bg (decide (B<D)) ((idx J B).bind λu=>(idx G B).bind λw=>bg (decide (u>w)) (some (.r B)) (some (.n (wrap .i64 (B+1))))) (some (.x ()))
def W1(G J:Zg)(B D:Int):aY (Int×Int):=(bF (λq:Int=>bh G J B q) D).bind (Fw.elim (λe=>some (0,7)) (λe=>some (e,0)))
end dB
def dB(D:Z4)(B:Zg)(p2:T'):aY (Int×Int):=(mC D p2 B).bind λu=>bg (u.2==0) (dB.W1 B u.1 (len B) 0) (some (0,u.2))
open dB in
instance RA(D:Z4)(B:Zg)(p2:T'):Fc Sy cL (dB D B p2):=Fc.M 7 [enc D,enc B,enc p2] (bT 2 3 D (bT 0 5 p2 (bu 9 λz _=>cz 14 19 (bQ 7 B (dx 5 (λw=>(bE [Cv 1 B,Cv 8 z.1,Iv 22 (len B),Iv 23 w] [])) (λu=>(0,(bE [] []))) (λu=>(bE [Iv 6 u,Iv 7 0] [])) (λw=>bp 7 24 (bC 15 λC _=>bC 3 λG _=>bp 4 34 aZ aZ) aZ) (λu=>aZ) (λu=>aZ))) aZ)))
namespace kF
def bh(B:Int)(D:T')(G J:Int)(r:(T'×Int)->Ps):aY (Fw (Int×Int) Int Empty):=bg (decide (J<(len D.l))) ((idx D.l J).bind λw=>(r (w,wrap .i64 (B-1))).bind λu=>some (.n ((if u>G then u else G),wrap .i64 (J+1)))) (some (.x G))
def W1(B G J:Int)(D:T')(r:(T'×Int)->Ps):Ps:=(bF (λq:Int×Int=>bh B D q.1 q.2 r) (G,J)).bind (Fw.elim (λe=>some (wrap .i64 (e+1))) (λe=>elim e))
end kF
def iT(D:T')(B:Int)(r:(T'×Int)->Ps):Ps:=bg (B==0) (some 1) (kF.W1 B 0 0 D r)
open kF in
theorem DE(r:(T'×Int)->Ps)(a:eR Sy cL 123 (λz:T'×Int=>[enc z.1,.int .i64 z.2]) (λr:Int=>[.int .i64 r]) r true)(D:T')(B:Int):Le ((iT D B r).bind λr=>some [.int .i64 r]) (gV cL 123 [enc D,.int .i64 B]):=(Fc.M 123 [enc D,.int .i64 B] (bT 2 2 D (bp 15 8 aZ (eG 11 (λu=>(bE [Iv 1 B,Pv 2,Iv 5 u.1,Iv 6 u.2] [Xb 2 D])) (λw=>(0,(bE [Iv 5 w] []))) (λu=>dJ 7 11 (Pred.eX D.l) (bQ 0 D.l (bp 3 13 (dJ 9 18 (Pred.eX D.l) (bC 1 λC _=>bu (F:=Fc.of (C,wrap .i64 (B-1)) a) 3 λG _=>aZ)) aZ))) (λw=>aZ)))):Fc Sy cL (iT D B r)).F.h ()
def kF(D:T')(B:Int):Ps:=dD (λr(z:T'×Int)=>iT z.1 z.2 r) 100000 (D,B)
instance Yu(D:T')(B:Int):Fc Sy cL (kF D B):=Fc.of (D,B) (eR.fix (A:=λz:T'×Int=>[enc z.1,.int .i64 z.2]) (E:=λr:Int=>[.int .i64 r]) (sc:=true) (b:=(λr(z:T'×Int)=>iT z.1 z.2 r)) Zae (λ_ _=>rfl) (λr a z=>DE r a z.1 z.2) 100000)
def mR(B:Int):Ps:=(bg (decide (B>=1)) (some (decide (B<=4))) (some false):aY X').bind λu=>(bg u (some true) (some (B==13)):aY X').bind λw=>(bg w (some true) (some (B==14)):aY X').bind λz=>bg z (some 0) ((bg (B==5) (some true) (some (B==15)):aY X').bind λC=>(bg C (some true) ((bg (decide (B>=18)) (some (decide (B<=21))) (some false):aY X').bind λD=>some D):aY X').bind λG=>bg G (some 1) ((bg (decide (B>=6)) (some (decide (B<=12))) (some false):aY X').bind λI=>(bg I (some true) (some (B==16)):aY X').bind λJ=>(bg J (some true) (some (B==17)):aY X').bind λL=>bg L (some 2) (some (-1))))
instance YE(B:Int):Fc Sy cL (mR B):=Fc.M 157 [.int .i64 B] (bG 11 3 [5] 8 (bp 11 5 (bq 3) (bq 3)) λu=>bG 1 3 [9] 12 (bp 1 9 (bq 3) (bq 3)) λw=>bG 1 3 [13] 16 (bp 1 13 (bq 3) (bq 3)) λz=>bp 2 16 aZ (bG 9 3 [19] 22 (bp 9 19 (bq 3) (bq 3)) λC=>bG 1 7 [23] 30 (bp 1 23 (bq 7) (bG 3 3 [26] 29 (bp 3 26 (bq 3) (bq 3)) λD=>bq 1)) λG=>bp 2 30 aZ (bG 9 3 [33] 36 (bp 9 33 (bq 3) (bq 3)) λI=>bG 1 3 [37] 40 (bp 1 37 (bq 3) (bq 3)) λJ=>bG 1 3 [0,41] 44 (bp 1 41 (bq 3) (bq 3)) λL=>bp 2 44 aZ aZ)))
namespace fZ
def bH(B:T')(i3:Int)(r:T'->aY X'):aY (Fw Int Unit Unit):=bg (decide (i3<(len B.l))) ((idx B.l i3).bind λu=>(r u).bind λw=>bg w (some (.n (wrap .i64 (i3+1)))) (some (.r ()))) (some (.x ()))
def W2(i3:Int)(B:T')(r:T'->aY X'):aY X':=(bF (λq:Int=>bH B q r) i3).bind (Fw.elim (λe=>some true) (λe=>some false))
def J1(B:T')(r:T'->aY X'):aY X':=(bg (decide (B.kind<2)) (some true) (some (decide (B.kind>4))):aY X').bind λu=>(bg u ((bg (B.proc==0) (some (!(B.peer==0))) (some true):aY X').bind λw=>(bg w (some true) (some (!(toList B.name==toList ByteArray.empty))):aY X').bind λz=>some z) (some false):aY X').bind λC=>bg C (some false) (fZ.W2 0 B r)
theorem mW(r:T'->aY X')(a:eR Sy cL 124 (λz:T'=>[enc z]) (λr:X'=>[.bool r]) r true)(B:T'):Le ((J1 B r).bind (λr=>some [.bool r])) (bZ Sy cL (pI (tr Tx 124)) (rF (tb Tx 124) [1,1,1,0] [] (bE [Pv 1] [Xb 1 B]))):=bG 7 4 [28] 32 (bp 7 28 (bq 4) (bq 4)) λD=>bG 1 14 [33] 47 (bp 1 33 (bG 4 4 [37] 41 (cz 4 37 (bq 4) (bq 4)) λG=>bG 1 4 [42] 46 (bp 1 42 (bq 4) (bq 4)) λI=>bq 1) (bq 14)) λJ=>bp 2 47 aZ (dx 11 (λw=>(bE [Pv 1,Iv 3 w] [Xb 1 B])) (λu=>(0,(bE [] []))) (λu=>(bE [Bv 2 false] [])) (λw=>dJ 7 50 (Pred.eX B.l) (bQ 0 B.l (bp 3 52 (dJ 9 56 (Pred.eX B.l) (bC 1 λC _=>bu (F:=Fc.of C a) 1 λL _=>cz 3 61 aZ aZ)) aZ))) (λu=>aZ) (λu=>aZ))
end fZ
def gD(B:T')(r:T'->aY X'):aY X':=(mR B.kind).bind λu=>bg (u==(len B.l)) (bg (B.kind==1) ((bg (decide (B.n<0)) (some true) (some (decide (B.n>1125899906842624))):aY X').bind λw=>bg w (some false) (fZ.J1 B r)) (bg (B.n==0) (fZ.J1 B r) (some false))) (some false)
open fZ in
theorem DH(r:T'->aY X')(a:eR Sy cL 124 (λz:T'=>[enc z]) (λr:X'=>[.bool r]) r true)(B:T'):Le ((gD B r).bind λr=>some [.bool r]) (gV cL 124 [enc B]):=(Fc.M 124 [enc B] (bT 2 1 B (bY 8 λu _=>dJ 2 8 (Pred.eX B.l) (bQ 0 B.l (cz 3 10 (bp 11 13 (bG 7 4 [17] 21 (bp 7 17 (bq 4) (bq 4)) λw=>bp 2 21 aZ (nR 4 (mW r a B))) (cz 8 24 (nR 4 (mW r a B)) aZ)) aZ)))):Fc Sy cL (gD B r)).F.h ()
def fZ(B:T'):aY X':=dD (λr(z:T')=>gD z r) 100000 B
instance YW(B:T'):Fc Sy cL (fZ B):=Fc.of B (eR.fix (A:=λz:T'=>[enc z]) (E:=λr:X'=>[.bool r]) (sc:=true) (b:=(λr(z:T')=>gD z r)) Zae (λ_ _=>rfl) (λr a z=>DH r a z) 100000)
def oS(B:T'):aY X':=(pF B).bind λu=>(bg (decide (u<=200)) ((kF B 21).bind λw=>some (decide (w<=20))) (some false):aY X').bind λz=>(bg z ((fZ B).bind λC=>some C) (some false):aY X').bind λD=>some D
instance Wi(B:T'):Fc Sy cL (oS B):=Fc.M 93 [enc B] (bT 2 1 B (bu 6 λu _=>bG 2 4 [6] 10 (bp 2 6 (bu 1 λw _=>bq 2) (bq 4)) λz=>bG 1 3 [1,11] 14 (bp 1 11 (bu 1 λC _=>bq 1) (bq 3)) λD=>aZ))
def pz(B:Z4)(p1:Int):aY X':=(bg (decide (p1>=0)) (some (decide (p1<(len B.procs)))) (some false):aY X').bind λu=>some u
instance Zf(B:Z4)(p1:Int):Fc Sy cL (pz B p1):=Fc.M 154 [enc B,.int .i64 p1] (bT 2 2 B (bG 8 6 [1,2,7] 13 (bp 8 7 (bQ 3 B.procs (bq 2)) (bq 6)) λu=>aZ))
namespace jK
def bh(p1:Int)(B:U')(D:Z4)(G:Int):aY (Fw Int Unit Int):=(idx D.procs p1).bind λu=>bg (decide (G<(len u.vars))) ((idx D.procs p1).bind λw=>(idx w.vars G).bind λz=>bg (toList z.name==toList B) (some (.r G)) (some (.n (wrap .i64 (G+1))))) (some (.x ()))
def W1(p1:Int)(B:U')(G:Int)(D:Z4):Ps:=(bF (λq:Int=>bh p1 B D q) G).bind (Fw.elim (λe=>some (-1)) (λe=>some e))
end jK
def jK(D:Z4)(p1:Int)(B:U'):Ps:=jK.W1 p1 B 0 D
open jK in
instance Z6(D:Z4)(p1:Int)(B:U'):Fc Sy cL (jK D p1 B):=Fc.M 155 [enc D,.int .i64 p1,.str B] (bT 2 3 D (dx 11 (λw=>(bE [Iv 1 p1,(2,.v (.str B)),Pv 3,Iv 7 w] [Xb 3 D])) (λu=>(0,(bE [] []))) (λu=>(bE [Iv 6 u] [])) (λw=>bC 8 λz _=>bQ 2 z.vars (bp 3 16 (bC 10 λC _=>bC 3 λG _=>bp 6 30 aZ aZ) aZ)) (λu=>aZ) (λu=>aZ)))
namespace gL
def bh(D:Z4)(B:T')(G:Int)(r:(Z4×T')->aY X'):aY (Fw Int Unit Unit):=bg (decide (G<(len B.l))) ((idx B.l G).bind λu=>(r (D,u)).bind λw=>bg w (some (.n (wrap .i64 (G+1)))) (some (.r ()))) (some (.x ()))
def W1(G:Int)(B:Z4)(D:T')(r:(Z4×T')->aY X'):aY X':=(bF (λq:Int=>bh B D q r) G).bind (Fw.elim (λe=>some true) (λe=>some false))
end gL
def gm(B:Z4)(p1:T')(r:(Z4×T')->aY X'):aY X':=(bg (p1.kind==2) ((pz B p1.proc).bind λI=>(bg I (some (!(p1.peer==0))) (some true):aY X').bind λJ=>(bg J (some true) ((jK B p1.proc p1.name).bind λL=>some (decide (L<0))):aY X').bind λO=>some O) (some false):aY X').bind λQ=>bg Q (some false) ((bg (p1.kind==3) ((pz B p1.proc).bind λS=>(bg S (some (!(p1.peer==0))) (some true):aY X').bind λT=>(bg T (some true) (some (!(toList p1.name==toList ByteArray.empty))):aY X').bind λU=>some U) (some false):aY X').bind λW=>bg W (some false) ((bg (p1.kind==4) ((pz B p1.proc).bind λu=>(bg u ((pz B p1.peer).bind λw=>some (!w)) (some true):aY X').bind λz=>(bg z (some true) (some (p1.proc==p1.peer)):aY X').bind λC=>(bg C (some true) (some (!(toList p1.name==toList ByteArray.empty))):aY X').bind λD=>some D) (some false):aY X').bind λG=>bg G (some false) (gL.W1 0 B p1 r)))
open gL in
theorem Bf(r:(Z4×T')->aY X')(a:eR Sy cL 119 (λz:Z4×T'=>[enc z.1,enc z.2]) (λr:X'=>[.bool r]) r true)(B:Z4)(p1:T'):Le ((gm B p1 r).bind λr=>some [.bool r]) (gV cL 119 [enc B,enc p1]):=(Fc.M 119 [enc B,enc p1] (bT 2 2 B (bT 0 3 p1 (bG 10 20 [9] 29 (bp 10 9 (bu 3 λS _=>bG 2 4 [15] 19 (cz 2 15 (bq 4) (bq 4)) λT=>bG 1 8 [20] 28 (bp 1 20 (bq 8) (bu 5 λU _=>bq 2)) λW=>bq 1) (bq 20)) λX=>bp 2 29 aZ (bG 10 16 [33] 49 (bp 10 33 (bu 3 λY _=>bG 2 4 [39] 43 (cz 2 39 (bq 4) (bq 4)) λZ=>bG 1 4 [44] 48 (bp 1 44 (bq 4) (bq 4)) λb=>bq 1) (bq 16)) λc=>bp 2 49 aZ (bG 10 25 [53] 78 (bp 10 53 (bu 3 λD _=>bG 2 6 [59] 65 (cz 2 59 (bu 3 λG _=>bq 2) (bq 6)) λI=>bG 1 6 [66] 72 (bp 1 66 (bq 6) (bq 6)) λJ=>bG 1 4 [73] 77 (bp 1 73 (bq 4) (bq 4)) λL=>bq 1) (bq 25)) λO=>bp 2 78 aZ (dx 11 (λw=>(bE [Pv 2,Pv 3,Iv 5 w] [Xb 2 B,Xb 3 p1])) (λu=>(0,(bE [] []))) (λu=>(bE [Bv 4 false] [])) (λw=>dJ 7 81 (Pred.eX p1.l) (bQ 0 p1.l (bp 3 83 (dJ 10 88 (Pred.eX p1.l) (bC 1 λC _=>bY (F:=Fc.of (B,C) a) 1 λQ _=>cz 3 93 aZ aZ)) aZ))) (λu=>aZ) (λu=>aZ))))))):Fc Sy cL (gm B p1 r)).F.h ()
def gL(B:Z4)(p1:T'):aY X':=dD (λr(z:Z4×T')=>gm z.1 z.2 r) 100000 (B,p1)
instance SZ(B:Z4)(p1:T'):Fc Sy cL (gL B p1):=Fc.of (B,p1) (eR.fix (A:=λz:Z4×T'=>[enc z.1,enc z.2]) (E:=λr:X'=>[.bool r]) (sc:=true) (b:=(λr(z:Z4×T')=>gm z.1 z.2 r)) Zae (λ_ _=>rfl) (λr a z=>Bf r a z.1 z.2) 100000)
def qW(B:T'):Ps:=bg (decide (B.kind<=8)) (some 1) (some 2)
instance ZB(B:T'):Fc Sy cL (qW B):=Fc.M 122 [enc B] (bT 2 1 B (bp 11 5 aZ aZ))
namespace gE
def J2(i3 B:Int)(D:T')(r:T'->aY X'):aY (Fw Int Unit Unit):=(idx D.l i3).bind λu=>(qW u).bind λw=>(bg (w==B) ((idx D.l i3).bind λz=>(r z).bind λC=>some (!C)) (some true):aY X').bind λG=>bg G (some (.r ())) (some (.n (wrap .i64 (i3+1))))
def bh(B:T')(i3:Int)(r:T'->aY X'):aY (Fw Int Unit Unit):=bg (decide (i3<(len B.l))) (bg (decide (B.kind>=15)) (J2 i3 2 B r) (J2 i3 1 B r)) (some (.x ()))
def W1(i3:Int)(B:T')(r:T'->aY X'):aY X':=(bF (λq:Int=>bh B q r) i3).bind (Fw.elim (λe=>some true) (λe=>some false))
end gE
def jN(B:T')(r:T'->aY X'):aY X':=gE.W1 0 B r
open gE in
theorem DD(r:T'->aY X')(a:eR Sy cL 120 (λz:T'=>[enc z]) (λr:X'=>[.bool r]) r true)(B:T'):Le ((jN B r).bind λr=>some [.bool r]) (gV cL 120 [enc B]):=(Fc.M 120 [enc B] (bT 2 1 B (dx 11 (λC=>(bE [Pv 1,Iv 3 C] [Xb 1 B])) (λu=>(0,(bE [] []))) (λu=>(bE [Bv 2 false] [])) (λC=>dJ 7 7 (Pred.eX B.l) (bQ 0 B.l (bp 3 9 (bp 18 14 (qi 6 (dJ 4 16 (Pred.eX B.l) (bC 1 λD _=>bu 1 λG _=>bG 3 8 [23] 31 (cz 3 23 (dJ 2 25 (Pred.eX B.l) (bC 1 λw _=>bu (F:=Fc.of w a) 1 λI _=>bq 2)) (bq 8)) λJ=>bp 2 31 aZ aZ))) (qi 4 (dJ 4 16 (Pred.eX B.l) (bC 1 λD _=>bu 1 λG _=>bG 3 8 [23] 31 (cz 3 23 (dJ 2 25 (Pred.eX B.l) (bC 1 λw _=>bu (F:=Fc.of w a) 1 λI _=>bq 2)) (bq 8)) λJ=>bp 2 31 aZ aZ)))) aZ))) (λu=>aZ) (λu=>aZ))):Fc Sy cL (jN B r)).F.h ()
def gE(B:T'):aY X':=dD (λr(z:T')=>jN z r) 100000 B
instance XO(B:T'):Fc Sy cL (gE B):=Fc.of B (eR.fix (A:=λz:T'=>[enc z]) (E:=λr:X'=>[.bool r]) (sc:=true) (b:=(λr(z:T')=>jN z r)) Zae (λ_ _=>rfl) (λr a z=>DD r a z) 100000)
namespace ga
def bH(p1 J U:Int)(G:Sl Assign)(W:Z4)(D B AH:Int):aY (Fw (Int×Int×Int) (Int×Int) Empty):=bg (decide (AH<(len G))) ((idx G AH).bind λz=>bg (z.var==J) ((idx G AH).bind λu=>(idx G AH).bind λw=>some (.n ((if u.value<D then u.value else D),(if w.value>B then w.value else B),wrap .i64 (AH+1)))) (some (.n (D,B,wrap .i64 (AH+1))))) (some (.x (D,B)))
def W2(p1 W D B G:Int)(J:Sl Assign)(AH:Int)(U:Z4):aY (Fw (Int×Int×Int) (Int×Int) Empty):=(bF (λq:Int×Int×Int=>bH p1 W G J U q.1 q.2.1 q.2.2) (D,B,AH)).bind (Fw.elim (λe=>some (.n (e.1,e.2,wrap .i64 (G+1)))) (λe=>elim e))
def bh(p1 U:Int)(G:Z4)(D B J:Int):aY (Fw (Int×Int×Int) (Int×Int) Empty):=(idx G.procs p1).bind λu=>bg (decide (J<(len u.events))) ((idx G.procs p1).bind λw=>(idx w.events J).bind λz=>W2 p1 U D B J z.assign 0 G) (some (.x (D,B)))
def W1(p1 U D B G:Int)(J:Z4):aY (Int×Int):=(bF (λq:Int×Int×Int=>bh p1 U J q.1 q.2.1 q.2.2) (D,B,G)).bind (Fw.elim (λe=>some (e.1,e.2)) (λe=>elim e))
end ga
def ga(B:Z4)(p1 D:Int):aY (Int×Int):=(idx B.procs p1).bind λw=>(idx w.vars D).bind λu=>ga.W1 p1 D u.init_ u.init_ 0 B
open ga in
instance X9(D:Z4)(p1 G:Int):Fc Sy cL (ga D p1 G):=Fc.M 178 [enc D,.int .i64 p1,.int .i64 G] (bT 2 3 D (bC 9 λJ _=>bC 3 λL _=>eG 19 (λu=>(bE [Iv 1 p1,Iv 2 G,Pv 3,Iv 8 u.1,Iv 9 u.2.1,Iv 10 u.2.2] [Xb 3 D])) (λz=>(0,(bE [Iv 8 z.1,Iv 9 z.2] []))) (λu=>bC 8 λI _=>bQ 2 I.events (bp 3 32 (bC 10 λO _=>bC 3 λC _=>eG 12 (λw=>(bE [Iv 1 p1,Iv 2 G,Pv 3,Iv 8 w.1,Iv 9 w.2.1,Iv 10 u.2.2,Cv 11 C.assign,Iv 12 w.2.2] [Xb 3 D])) (λB=>(2,(bE [Iv 1 p1,Iv 2 G,Pv 3,Iv 8 B.1,Iv 9 B.2,Iv 10 u.2.2] [Xb 3 D]))) (λw=>bQ 6 C.assign (bp 3 48 (bC 9 λQ _=>bp 6 57 (bC 5 λS _=>bC 6 λT _=>aZ) aZ) aZ)) (λB=>aZ)) aZ)) (λz=>aZ)))
namespace jF
def bh(p1 G:Int)(B:Z4)(D a:Int):aY (Fw (Int×Int) Int Empty):=(idx B.procs p1).bind λw=>bg (decide (a<(len w.events))) ((idx B.procs p1).bind λz=>(idx z.events a).bind λu=>(bg (u.kind==2) (some (u.peer==G)) (some false):aY X').bind λC=>bg C (some (.n (wrap .i64 (D+1),wrap .i64 (a+1)))) (some (.n (D,wrap .i64 (a+1))))) (some (.x D))
def W1(p1 D G a:Int)(B:Z4):Ps:=(bF (λq:Int×Int=>bh p1 D B q.1 q.2) (G,a)).bind (Fw.elim (λe=>some e) (λe=>elim e))
end jF
def jF(B:Z4)(p1 D:Int):Ps:=jF.W1 p1 D 0 0 B
open jF in
instance Za(B:Z4)(p1 D:Int):Fc Sy cL (jF B p1 D):=Fc.M 179 [enc B,.int .i64 p1,.int .i64 D] (bT 2 3 B (eG 16 (λu=>(bE [Iv 1 p1,Iv 2 D,Pv 3,Iv 7 u.1,Iv 8 u.2] [Xb 3 B])) (λw=>(0,(bE [Iv 7 w] []))) (λu=>bC 8 λz _=>bQ 2 z.events (bp 3 18 (bC 10 λG _=>bC 3 λC _=>o4 2 9 0 C (bG 8 5 [9,33] 38 (bp 8 33 (bq 5) (bq 5)) λI=>bp 2 38 aZ aZ)) aZ)) (λw=>aZ)))
namespace cU
def J1(a0 B:Int):Ps:=some (wrap .i64 (a0*B))
end cU
def cU(a0 B:Int):Ps:=(bg (a0==0) (some false) (some (!(B==0))):aY X').bind λu=>bg u ((A9 .i64 1125899906842624 (if(wrap .i64 (0-B))>B then(wrap .i64 (0-B))else B)).bind λw=>bg (decide ((if(wrap .i64 (0-a0))>a0 then(wrap .i64 (0-a0))else a0)>w)) (bg ((decide (a0<0))==(decide (B<0))) (some 1125899906842625) (some (-1125899906842625))) (cU.J1 a0 B)) (cU.J1 a0 B)
open cU in
instance WT(a0 B:Int):Fc Sy cL (cU a0 B):=Fc.M 180 [.int .i64 a0,.int .i64 B] (bG 11 3 [9] 12 (cz 11 9 (bq 3) (bq 3)) λu=>bp 2 12 (aae 19 λw _=>bp 3 24 (cz 11 29 aZ aZ) (qi 4 (aZ))) (qi 4 (aZ)))
namespace bU
def J3(D B:Int)(r:(Z4×T')->aY (Int×Int×X')):aY (Int×Int×X'):=(bg (decide (D>=(-1125899906842624))) (some (decide (B<=1125899906842624))) (some false):aY X').bind λu=>some (D,B,u)
def J2(a b c U:Int)(d W:X')(Y:Z4)(B:T')(r:(Z4×T')->aY (Int×Int×X')):aY (Int×Int×X'):=(bg d (some (!W)) (some true):aY X').bind λO=>bg O (some (0,0,false)) (bg (B.kind==1) (bU.J3 B.n B.n r) (bg (B.kind==2) ((jK Y B.proc B.name).bind λQ=>(ga Y B.proc Q).bind λL=>bU.J3 L.1 L.2 r) (bg (B.kind==3) ((idx Y.procs B.proc).bind λS=>bU.J3 0 (len S.events) r) (bg (B.kind==4) ((jF Y B.proc B.peer).bind λT=>bU.J3 0 T r) (bg (B.kind==5) (bU.J3 (wrap .i64 (0-b)) (wrap .i64 (0-a)) r) (bg (B.kind==6) (bU.J3 (wrap .i64 (a+c)) (wrap .i64 (b+U)) r) (bg (B.kind==7) (bU.J3 (wrap .i64 (a-U)) (wrap .i64 (b-c)) r) ((cU a c).bind λu=>(cU a U).bind λw=>(cU b c).bind λz=>(cU b U).bind λC=>(cU a c).bind λD=>(cU a U).bind λG=>(cU b c).bind λI=>(cU b U).bind λJ=>bU.J3 (if(if C<z then C else z)<(if w<u then w else u)then(if C<z then C else z)else(if w<u then w else u)) (if(if J>I then J else I)>(if G>D then G else D)then(if J>I then J else I)else(if G>D then G else D)) r))))))))
def J1(W Y a U:Int)(G B:X')(J:Z4)(D:T')(r:(Z4×T')->aY (Int×Int×X')):aY (Int×Int×X'):=bg (decide ((len D.l)>1)) ((idx D.l 1).bind λw=>(r (J,w)).bind λu=>bU.J2 W Y u.1 u.2.1 G u.2.2 J D r) (bU.J2 W Y a U G B J D r)
theorem zB(r:(Z4×T')->aY (Int×Int×X'))(a:eR Sy cL 156 (λz:Z4×T'=>[enc z.1,enc z.2]) (λr:Int×Int×X'=>[.int .i64 r.1,.int .i64 r.2.1,.bool r.2.2]) r true)(D B:Int):Le ((J3 D B r).bind (λr=>some [.int .i64 r.1,.int .i64 r.2.1,.bool r.2.2])) (bZ Sy cL (pI (tr Tx 156)) (rF (tb Tx 156) [1,1,1,1,0,1,0,1,1,1,0] [] (bE [Iv 13 D,Iv 14 B] []))):=bG 7 3 [14,151] 154 (bp 7 151 (bq 3) (bq 3)) λu=>aZ
theorem V4(r:(Z4×T')->aY (Int×Int×X'))(a:eR Sy cL 156 (λz:Z4×T'=>[enc z.1,enc z.2]) (λr:Int×Int×X'=>[.int .i64 r.1,.int .i64 r.2.1,.bool r.2.2]) r true)(b c d U:Int)(Y B:X')(e:Z4)(W:T'):Le ((J2 b c d U Y B e W r).bind (λr=>some [.int .i64 r.1,.int .i64 r.2.1,.bool r.2.2])) (bZ Sy cL (pI (tr Tx 156)) (rF (tb Tx 156) [1,1,1,1,0,1,0] [] (bE [Pv 2,Pv 3,Iv 7 b,Iv 8 c,Iv 9 d,Iv 10 U,Bv 11 Y,Bv 12 B] [Xb 2 e,Xb 3 W]))):=bG 6 3 [12,45] 48 (cz 6 45 (bq 3) (bq 3)) λT=>bp 2 48 aZ (bp 17 51 (nR 11 (zB r a W.n W.n)) (bp 8 58 (bY 10 λX _=>bY 0 λO _=>nR 8 (zB r a O.1 O.2)) (bp 8 74 (bC 6 λQ _=>bQ 2 Q.events (nR 4 (zB r a 0 (len Q.events)))) (bp 8 85 (bu 7 λS _=>nR 4 (zB r a 0 S)) (bp 8 94 (nR 11 (zB r a (wrap .i64 (0-c)) (wrap .i64 (0-b)))) (bp 8 101 (nR 13 (zB r a (wrap .i64 (b+d)) (wrap .i64 (c+U)))) (bp 8 110 (nR 13 (zB r a (wrap .i64 (b-U)) (wrap .i64 (c-d)))) (bu 5 λu _=>bu 2 λw _=>bu 3 λC _=>bu 2 λD _=>bu 8 λG _=>bu 2 λI _=>bu 3 λJ _=>bu 2 λL _=>nR 6 (zB r a (if(if D<C then D else C)<(if w<u then w else u)then(if D<C then D else C)else(if w<u then w else u)) (if(if L>J then L else J)>(if I>G then I else G)then(if L>J then L else J)else(if I>G then I else G)))))))))))
theorem mW(r:(Z4×T')->aY (Int×Int×X'))(a:eR Sy cL 156 (λz:Z4×T'=>[enc z.1,enc z.2]) (λr:Int×Int×X'=>[.int .i64 r.1,.int .i64 r.2.1,.bool r.2.2]) r true)(W Y b U:Int)(G B:X')(J:Z4)(D:T'):Le ((J1 W Y b U G B J D r).bind (λr=>some [.int .i64 r.1,.int .i64 r.2.1,.bool r.2.2])) (bZ Sy cL (pI (tr Tx 156)) (rF (tb Tx 156) [1,1,1,1,0] [] (bE [Pv 2,Pv 3,Iv 7 W,Iv 8 Y,Iv 9 b,Iv 10 U,Bv 11 G,Bv 12 B] [Xb 2 J,Xb 3 D]))):=dJ 5 30 (Pred.eX D.l) (bQ 0 D.l (bp 3 32 (dJ 5 36 (Pred.eX D.l) (bC 0 λw _=>bY (F:=Fc.of (J,w) a) 1 λu _=>nR 10 (V4 r a W Y u.1 u.2.1 G u.2.2 J D))) (nR 4 (V4 r a W Y b U G B J D))))
end bU
def h_(B:Z4)(p1:T')(r:(Z4×T')->aY (Int×Int×X')):aY (Int×Int×X'):=bg (decide ((len p1.l)>0)) ((idx p1.l 0).bind λw=>(r (B,w)).bind λu=>bU.J1 u.1 u.2.1 0 0 u.2.2 true B p1 r) (bU.J1 0 0 0 0 true true B p1 r)
open bU in
theorem Bd(r:(Z4×T')->aY (Int×Int×X'))(a:eR Sy cL 156 (λz:Z4×T'=>[enc z.1,enc z.2]) (λr:Int×Int×X'=>[.int .i64 r.1,.int .i64 r.2.1,.bool r.2.2]) r true)(B:Z4)(p1:T'):Le ((h_ B p1 r).bind λr=>some [.int .i64 r.1,.int .i64 r.2.1,.bool r.2.2]) (gV cL 156 [enc B,enc p1]):=(Fc.M 156 [enc B,enc p1] (bT 2 2 B (bT 0 3 p1 (dJ 24 16 (Pred.eX p1.l) (bQ 0 p1.l (bp 3 18 (dJ 5 22 (Pred.eX p1.l) (bC 0 λw _=>bY (F:=Fc.of (B,w) a) 1 λu _=>nR 10 (mW r a u.1 u.2.1 0 0 u.2.2 true B p1))) (nR 4 (mW r a 0 0 0 0 true true B p1))))))):Fc Sy cL (h_ B p1 r)).F.h ()
def bU(B:Z4)(p1:T'):aY (Int×Int×X'):=dD (λr(z:Z4×T')=>h_ z.1 z.2 r) 100000 (B,p1)
instance S6(B:Z4)(p1:T'):Fc Sy cL (bU B p1):=Fc.of (B,p1) (eR.fix (A:=λz:Z4×T'=>[enc z.1,enc z.2]) (E:=λr:Int×Int×X'=>[.int .i64 r.1,.int .i64 r.2.1,.bool r.2.2]) (sc:=true) (b:=(λr(z:Z4×T')=>h_ z.1 z.2 r)) Zae (λ_ _=>rfl) (λr a z=>Bd r a z.1 z.2) 100000)
namespace lu
def bh(D:Z4)(B:T')(a:Int)(r:(Z4×T')->aY X'):aY (Fw Int Unit Unit):=bg (decide (a<(len B.l))) ((idx B.l a).bind λu=>(r (D,u)).bind λw=>bg w (some (.n (wrap .i64 (a+1)))) (some (.r ()))) (some (.x ()))
def W1(a:Int)(B:Z4)(D:T')(r:(Z4×T')->aY X'):aY X':=(bF (λq:Int=>bh B D q r) a).bind (Fw.elim (λe=>some true) (λe=>some false))
end lu
def kJ(B:Z4)(p1:T')(r:(Z4×T')->aY X'):aY X':=(qW p1).bind λu=>bg (u==1) ((bU B p1).bind λw=>some w.2.2) (lu.W1 0 B p1 r)
open lu in
theorem Ed(r:(Z4×T')->aY X')(a:eR Sy cL 121 (λz:Z4×T'=>[enc z.1,enc z.2]) (λr:X'=>[.bool r]) r true)(B:Z4)(p1:T'):Le ((kJ B p1 r).bind λr=>some [.bool r]) (gV cL 121 [enc B,enc p1]):=(Fc.M 121 [enc B,enc p1] (bT 2 2 B (bT 0 3 p1 (bu 7 λD _=>bp 3 11 (bu 5 λG _=>aZ) (dx 11 (λw=>(bE [Pv 2,Pv 3,Iv 8 w] [Xb 2 B,Xb 3 p1])) (λu=>(0,(bE [] []))) (λu=>(bE [Bv 4 false] [])) (λw=>dJ 7 22 (Pred.eX p1.l) (bQ 0 p1.l (bp 3 24 (dJ 10 29 (Pred.eX p1.l) (bC 1 λC _=>bY (F:=Fc.of (B,C) a) 1 λI _=>cz 3 34 aZ aZ)) aZ))) (λu=>aZ) (λu=>aZ))))):Fc Sy cL (kJ B p1 r)).F.h ()
def lu(B:Z4)(p1:T'):aY X':=dD (λr(z:Z4×T')=>kJ z.1 z.2 r) 100000 (B,p1)
instance Zj(B:Z4)(p1:T'):Fc Sy cL (lu B p1):=Fc.of (B,p1) (eR.fix (A:=λz:Z4×T'=>[enc z.1,enc z.2]) (E:=λr:X'=>[.bool r]) (sc:=true) (b:=(λr(z:Z4×T')=>kJ z.1 z.2 r)) Zae (λ_ _=>rfl) (λr a z=>Ed r a z.1 z.2) 100000)
def vt(B:Z4)(p1:T'):Ps:=(sJ B).bind λu=>(bg u ((oS p1).bind λw=>some (!w)) (some true):aY X').bind λz=>bg z (some 1) ((gL B p1).bind λC=>bg C ((gE p1).bind λD=>bg D ((lu B p1).bind λG=>bg G (some 0) (some 9)) (some 14)) (some 13))
instance W_(B:Z4)(p1:T'):Fc Sy cL (vt B p1):=Fc.M 91 [enc B,enc p1] (bT 2 2 B (bT 0 3 p1 (bu 7 λu _=>bG 2 4 [8] 12 (cz 2 8 (bu 1 λw _=>bq 2) (bq 4)) λz=>bp 2 12 aZ (bu 8 λC _=>cz 3 16 (bu 7 λD _=>cz 3 19 (bu 8 λG _=>cz 3 23 aZ aZ) aZ) aZ))))
def wL(B:T'):aY (Int×Int):=(oS B).bind λu=>bg u ((gE B).bind λw=>bg w ((qW B).bind λz=>some (z,0)) (some (0,14))) (some (0,1))
instance Y_(B:T'):Fc Sy cL (wL B):=Fc.M 92 [enc B] (bT 2 1 B (bu 8 λu _=>cz 3 6 (bu 7 λw _=>cz 3 9 (bu 6 λz _=>aZ) aZ) aZ))
def zT(D:Z4)(p1:T')(B:Int):Ps:=(vt D p1).bind λu=>bg (u==0) ((wL p1).bind λw=>bg (w.1==B) (some 0) (some 14)) (some u)
instance Y5(D:Z4)(p1:T')(B:Int):Fc Sy cL (zT D p1 B):=Fc.M 63 [enc D,enc p1,.int .i64 B] (bT 2 3 D (bT 0 4 p1 (bu 8 λu _=>cz 9 14 (bu 7 λw _=>cz 14 23 aZ aZ) aZ)))
namespace fT
def bh(B:T')(i3:Int)(r:T'->aY X'):aY (Fw Int Unit Unit):=bg (decide (i3<(len B.l))) ((idx B.l i3).bind λu=>(r u).bind λw=>bg w (some (.r ())) (some (.n (wrap .i64 (i3+1))))) (some (.x ()))
def W1(i3:Int)(B:T')(r:T'->aY X'):aY X':=(bF (λq:Int=>bh B q r) i3).bind (Fw.elim (λe=>some false) (λe=>some true))
end fT
def ig(B:T')(r:T'->aY X'):aY X':=(bg (decide (B.kind>=18)) (some (decide (B.kind<=21))) (some false):aY X').bind λu=>bg u (some true) (fT.W1 0 B r)
open fT in
theorem AW(r:T'->aY X')(a:eR Sy cL 94 (λz:T'=>[enc z]) (λr:X'=>[.bool r]) r true)(B:T'):Le ((ig B r).bind λr=>some [.bool r]) (gV cL 94 [enc B]):=(Fc.M 94 [enc B] (bT 2 1 B (bG 10 4 [7] 11 (bp 10 7 (bq 4) (bq 4)) λD=>bp 2 11 aZ (dx 11 (λw=>(bE [Pv 1,Iv 3 w] [Xb 1 B])) (λu=>(0,(bE [] []))) (λu=>(bE [Bv 2 true] [])) (λw=>dJ 7 14 (Pred.eX B.l) (bQ 0 B.l (bp 3 16 (dJ 9 20 (Pred.eX B.l) (bC 1 λC _=>bu (F:=Fc.of C a) 1 λG _=>bp 2 24 aZ aZ)) aZ))) (λu=>aZ) (λu=>aZ)))):Fc Sy cL (ig B r)).F.h ()
def fT(B:T'):aY X':=dD (λr(z:T')=>ig z r) 100000 B
instance S0(B:T'):Fc Sy cL (fT B):=Fc.of B (eR.fix (A:=λz:T'=>[enc z]) (E:=λr:X'=>[.bool r]) (sc:=true) (b:=(λr(z:T')=>ig z r)) Zae (λ_ _=>rfl) (λr a z=>AW r a z) 100000)
def rL(B:T'):aY X':=(oS B).bind λu=>(bg u ((fT B).bind λw=>some w) (some false):aY X').bind λz=>some z
instance Td(B:T'):Fc Sy cL (rL B):=Fc.M 64 [enc B] (bT 2 1 B (bu 6 λu _=>bG 1 3 [1,5] 8 (bp 1 5 (bu 1 λw _=>bq 1) (bq 3)) λz=>aZ))
namespace kr
def bh(B:U')(D:Sl Var)(a:Int):aY (Fw Int Unit Int):=bg (decide (a<(len D))) ((idx D a).bind λu=>bg (toList u.name==toList B) (some (.r a)) (some (.n (wrap .i64 (a+1))))) (some (.x ()))
def W1(B:U')(D:Sl Var)(a:Int):Ps:=(bF (λq:Int=>bh B D q) a).bind (Fw.elim (λe=>some (-1)) (λe=>some e))
end kr
def kr(D:Z4)(p1:Int)(B:U'):Ps:=(idx D.procs p1).bind λu=>kr.W1 B u.vars 0
open kr in
instance XD(D:Z4)(p1:Int)(B:U'):Fc Sy cL (kr D p1 B):=Fc.M 126 [enc D,.int .i64 p1,.str B] (bT 2 3 D (bC 8 λw _=>dx 13 (λz=>(bE [(2,.v (.str B)),Cv 7 w.vars,Iv 8 z] [])) (λu=>(0,(bE [] []))) (λu=>(bE [Iv 6 u] [])) (λz=>bQ 6 w.vars (bp 3 18 (bC 9 λC _=>bp 6 27 aZ aZ) aZ)) (λu=>aZ) (λu=>aZ)))
namespace gM
def bH(p1 G U:Int)(D:Sl Assign)(J:Z4)(B:Int):aY (Fw Int Unit Int):=bg (decide (B<(len D))) ((idx D B).bind λu=>bg (u.var==G) ((idx D B).bind λw=>some (.r w.value)) (some (.n (wrap .i64 (B+1))))) (some (.x ()))
def W2(p1 U J:Int)(B:Sl Assign)(D:Int)(G:Z4):aY (Fw Int Unit Int):=(bF (λq:Int=>bH p1 U J B G q) D).bind (Fw.elim (λe=>some (.n (wrap .i64 (J-1)))) (λe=>some (.r e)))
def bh(p1 G:Int)(B:Z4)(D:Int):aY (Fw Int Unit Int):=bg (decide (D>=0)) ((idx B.procs p1).bind λu=>(idx u.events D).bind λw=>W2 p1 G D w.assign 0 B) (some (.x ()))
def W1(p1 D G:Int)(B:Z4):Ps:=(bF (λq:Int=>bh p1 D B q) G).bind (Fw.elim (λe=>(idx B.procs p1).bind λu=>(idx u.vars D).bind λw=>some w.init_) (λe=>some e))
end gM
def gM(B:Z4)(p1 D k3:Int):Ps:=gM.W1 p1 D (wrap .i64 (k3-1)) B
open gM in
instance Y4(B:Z4)(p1 D k3:Int):Fc Sy cL (gM B p1 D k3):=Fc.M 125 [enc B,.int .i64 p1,.int .i64 D,.int .i64 k3] (bT 2 4 B (dx 13 (λu=>(bE [Iv 1 p1,Iv 2 D,Pv 4,Iv 9 u] [Xb 4 B])) (λw=>(0,(bE [Iv 1 p1,Iv 2 D,Pv 4] [Xb 4 B]))) (λw=>(bE [Iv 8 w] [])) (λu=>bp 8 15 (bC 10 λI _=>bC 3 λC _=>dx 12 (λG=>(bE [Iv 1 p1,Iv 2 D,Pv 4,Iv 9 u,Cv 10 C.assign,Iv 11 G] [Xb 4 B])) (λz=>(2,(bE [Iv 1 p1,Iv 2 D,Pv 4,Iv 9 u] [Xb 4 B]))) (λz=>(bE [Iv 8 z] [])) (λG=>bQ 6 C.assign (bp 3 31 (bC 9 λJ _=>bp 6 40 (bC 5 λL _=>aZ) aZ) aZ)) (λz=>aZ) (λz=>aZ)) aZ) (λw=>bC 7 λO _=>bC 3 λQ _=>aZ) (λw=>aZ)))
namespace iF
def bh(U:Zg)(p2 W:Int)(G:Z4)(B:Zg)(D:Int):aY (Fw ((Zg)×Int) Zg Empty):=(idx U p2).bind λz=>bg (decide (D<z)) ((idx G.procs p2).bind λC=>(idx C.events D).bind λu=>(bg (u.kind==2) (some (!(u.peer==W))) (some true):aY X').bind λI=>bg I (some (.n (B,wrap .i64 (D+1)))) ((dX G 3 u.message).bind λw=>(bg (w.index==0) (some true) ((idx U w.proc).bind λJ=>some (decide (w.index>J))):aY X').bind λL=>bg L ((fu B (u.message:Int)).bind λO=>some (.n (O,wrap .i64 (D+1)))) (some (.n (B,wrap .i64 (D+1)))))) (some (.x B))
def W1(J:Zg)(p2 U:Int)(B:Zg)(D:Int)(G:Z4):aY Zg:=(bF (λq:(Zg)×Int=>bh J p2 U G q.1 q.2) (B,D)).bind (Fw.elim (λe=>some e) (λe=>elim e))
end iF
def iF(B:Z4)(D:Zg)(p2 G:Int):aY Zg:=iF.W1 D p2 G (Sl.nil:Zg) 0 B
open iF in
instance Tc(B:Z4)(D:Zg)(p2 G:Int):Fc Sy cL (iF B D p2 G):=Fc.N 127 [enc B,enc D,.int .i64 p2,.int .i64 G] (bT 2 4 B (eG 17 (λu=>(bE [Cv 1 D,Iv 2 p2,Iv 3 G,Pv 4,Ov 9,Iv 10 u.2] [Xb 4 B,Lb 2009 u.1])) (λw=>(0,(bE [Ov 9] [Lb 2009 w]))) (λu=>bC 8 λC _=>bp 4 18 (bC 10 λI _=>bC 3 λz _=>o4 2 11 0 z (bG 9 5 [33] 38 (cz 9 33 (bq 5) (bq 5)) λJ=>bp 2 38 aZ (bu 8 λL _=>bG 10 9 [12,46] 55 (bp 10 46 (bq 9) (bC 5 λO _=>bq 3)) λQ=>bp 2 55 (nL 6 2009 59 60 λS _=>aZ) aZ))) aZ) (λw=>aZ)))
def jM(B:Z4)(D:Zg)(p2:T')(r:(Z4×(Zg)×T')->Ps):Ps:=bg (p2.kind==1) (some p2.n) (bg (p2.kind==2) ((kr B p2.proc p2.name).bind λS=>(idx D p2.proc).bind λT=>(gM B p2.proc S T).bind λU=>some U) (bg (p2.kind==3) ((idx D p2.proc).bind λW=>some W) (bg (p2.kind==4) ((iF B D p2.proc p2.peer).bind λX=>some (len X)) (bg (p2.kind==5) ((idx p2.l 0).bind λY=>(r (B,D,Y)).bind λZ=>some (wrap .i64 (0-Z))) (bg (p2.kind==6) ((idx p2.l 0).bind λa=>(r (B,D,a)).bind λb=>(idx p2.l 1).bind λu=>(r (B,D,u)).bind λw=>some (wrap .i64 (b+w))) (bg (p2.kind==7) ((idx p2.l 0).bind λz=>(r (B,D,z)).bind λC=>(idx p2.l 1).bind λG=>(r (B,D,G)).bind λI=>some (wrap .i64 (C-I))) ((idx p2.l 0).bind λJ=>(r (B,D,J)).bind λL=>(idx p2.l 1).bind λO=>(r (B,D,O)).bind λQ=>some (wrap .i64 (L*Q)))))))))
theorem DG(r:(Z4×(Zg)×T')->Ps)(a:eR Sy cL 95 (λz:Z4×(Zg)×T'=>[enc z.1,enc z.2.1,enc z.2.2]) (λr:Int=>[.int .i64 r]) r true)(B:Z4)(D:Zg)(p2:T'):Le ((jM B D p2 r).bind λr=>some [.int .i64 r]) (gV cL 95 [enc B,enc D,enc p2]):=(Fc.M 95 [enc B,enc D,enc p2] (bT 2 3 B (bT 0 5 p2 (bp 17 9 aZ (bp 7 13 (bY 11 λX _=>bC 3 λY _=>bY 1 λZ _=>aZ) (bp 7 30 (bC 6 λb _=>aZ) (bp 7 37 (bu 9 λJ _=>bQ 0 J aZ) (bp 7 47 (dJ 7 52 (Pred.eX p2.l) (bC 0 λL _=>bY (F:=Fc.of (B,D,L) a) 1 λc _=>aZ)) (bp 7 57 (dJ 7 62 (Pred.eX p2.l) (bC 0 λO _=>bY (F:=Fc.of (B,D,O) a) 1 λd _=>dJ 4 69 (Pred.eX p2.l) (bC 0 λu _=>bY (F:=Fc.of (B,D,u) a) 1 λQ _=>aZ))) (bp 7 74 (dJ 7 79 (Pred.eX p2.l) (bC 0 λw _=>bY (F:=Fc.of (B,D,w) a) 1 λS _=>dJ 4 86 (Pred.eX p2.l) (bC 0 λC _=>bY (F:=Fc.of (B,D,C) a) 1 λT _=>aZ))) (dJ 10 94 (Pred.eX p2.l) (bC 0 λG _=>bY (F:=Fc.of (B,D,G) a) 1 λU _=>dJ 4 101 (Pred.eX p2.l) (bC 0 λI _=>bY (F:=Fc.of (B,D,I) a) 1 λW _=>aZ)))))))))))):Fc Sy cL (jM B D p2 r)).F.h ()
def ko(B:Z4)(D:Zg)(p2:T'):Ps:=dD (λr(z:Z4×(Zg)×T')=>jM z.1 z.2.1 z.2.2 r) 100000 (B,D,p2)
instance WW(B:Z4)(D:Zg)(p2:T'):Fc Sy cL (ko B D p2):=Fc.of (B,D,p2) (eR.fix (A:=λz:Z4×(Zg)×T'=>[enc z.1,enc z.2.1,enc z.2.2]) (E:=λr:Int=>[.int .i64 r]) (sc:=true) (b:=(λr(z:Z4×(Zg)×T')=>jM z.1 z.2.1 z.2.2 r)) Zae (λ_ _=>rfl) (λr a z=>DG r a z.1 z.2.1 z.2.2) 100000)
def jP(B:Z4)(D:Zg)(p2:T')(r:(Z4×(Zg)×T')->aY X'):aY X':=bg (p2.kind==9) ((idx p2.l 0).bind λa=>(ko B D a).bind λb=>(idx p2.l 1).bind λc=>(ko B D c).bind λd=>some (b==d)) (bg (p2.kind==10) ((idx p2.l 0).bind λe=>(ko B D e).bind λf=>(idx p2.l 1).bind λg=>(ko B D g).bind λh=>some (!(f==h))) (bg (p2.kind==11) ((idx p2.l 0).bind λi=>(ko B D i).bind λu=>(idx p2.l 1).bind λw=>(ko B D w).bind λz=>some (decide (u<z))) (bg (p2.kind==12) ((idx p2.l 0).bind λC=>(ko B D C).bind λG=>(idx p2.l 1).bind λI=>(ko B D I).bind λJ=>some (decide (G<=J))) (bg (p2.kind==13) (some true) (bg (p2.kind==15) ((idx p2.l 0).bind λL=>(r (B,D,L)).bind λO=>some (!O)) (bg (p2.kind==16) ((idx p2.l 0).bind λQ=>(r (B,D,Q)).bind λS=>(bg S ((idx p2.l 1).bind λT=>(r (B,D,T)).bind λU=>some U) (some false):aY X').bind λW=>some W) (bg (p2.kind==17) ((idx p2.l 0).bind λX=>(r (B,D,X)).bind λY=>(bg Y (some true) ((idx p2.l 1).bind λZ=>(r (B,D,Z)).bind λj=>some j):aY X').bind λk=>some k) (some false))))))))
theorem DI(r:(Z4×(Zg)×T')->aY X')(a:eR Sy cL 65 (λz:Z4×(Zg)×T'=>[enc z.1,enc z.2.1,enc z.2.2]) (λr:X'=>[.bool r]) r true)(B:Z4)(D:Zg)(p2:T'):Le ((jP B D p2 r).bind λr=>some [.bool r]) (gV cL 65 [enc B,enc D,enc p2]):=(Fc.M 65 [enc B,enc D,enc p2] (bT 2 3 B (bT 0 5 p2 (bp 17 9 (dJ 7 14 (Pred.eX p2.l) (bC 0 λb _=>bY 1 λc _=>dJ 4 21 (Pred.eX p2.l) (bC 0 λd _=>bY 1 λe _=>aZ))) (bp 7 26 (dJ 7 31 (Pred.eX p2.l) (bC 0 λf _=>bY 1 λg _=>dJ 4 38 (Pred.eX p2.l) (bC 0 λh _=>bY 1 λi _=>aZ))) (bp 7 43 (dJ 7 48 (Pred.eX p2.l) (bC 0 λj _=>bY 1 λO _=>dJ 4 55 (Pred.eX p2.l) (bC 0 λQ _=>bY 1 λS _=>aZ))) (bp 7 60 (dJ 7 65 (Pred.eX p2.l) (bC 0 λT _=>bY 1 λU _=>dJ 4 72 (Pred.eX p2.l) (bC 0 λW _=>bY 1 λX _=>aZ))) (bp 7 77 aZ (bp 7 79 (dJ 7 84 (Pred.eX p2.l) (bC 0 λC _=>bY (F:=Fc.of (B,D,C) a) 1 λY _=>aZ)) (bp 7 89 (dJ 7 94 (Pred.eX p2.l) (bC 0 λG _=>bY (F:=Fc.of (B,D,G) a) 1 λZ _=>wu 1 8 [105,97] (λu=>(bE [Iv 8 p2.kind,Bv 9 false,Bv 26 false,Bv 43 false,Bv 60 false,Bv 77 false,Bv 79 false,Bv 89 true,Bv 106 u] [Xb 3 B,Xb 5 p2])) (bp 1 98 (dJ 4 102 (Pred.eX p2.l) (bC 0 λI _=>bY (F:=Fc.of (B,D,I) a) 1 λk _=>bq 1)) (bq 8)) λu=>aZ)) (bp 7 107 (dJ 7 112 (Pred.eX p2.l) (bC 0 λJ _=>bY (F:=Fc.of (B,D,J) a) 1 λl _=>wu 1 8 [123,115] (λw=>(bE [Bv 9 false,Bv 26 false,Bv 43 false,Bv 60 false,Bv 77 false,Bv 79 false,Bv 89 false,Bv 107 true,Bv 124 w] [Xb 3 B,Xb 5 p2])) (bp 1 116 (bq 8) (dJ 4 120 (Pred.eX p2.l) (bC 0 λL _=>bY (F:=Fc.of (B,D,L) a) 1 λm _=>bq 1))) λw=>aZ)) aZ)))))))))):Fc Sy cL (jP B D p2 r)).F.h ()
def qe(B:Z4)(D:Zg)(p2:T'):aY X':=dD (λr(z:Z4×(Zg)×T')=>jP z.1 z.2.1 z.2.2 r) 100000 (B,D,p2)
instance XC(B:Z4)(D:Zg)(p2:T'):Fc Sy cL (qe B D p2):=Fc.of (B,D,p2) (eR.fix (A:=λz:Z4×(Zg)×T'=>[enc z.1,enc z.2.1,enc z.2.2]) (E:=λr:X'=>[.bool r]) (sc:=true) (b:=(λr(z:Z4×(Zg)×T')=>jP z.1 z.2.1 z.2.2 r)) Zae (λ_ _=>rfl) (λr a z=>DI r a z.1 z.2.1 z.2.2) 100000)
namespace iO
def bh(U:Zb)(G:Z4)(J:T')(B:Sl X')(D:Int):aY (Fw ((Sl X')×Int) (Sl X') Empty):=bg (decide (D<(len U))) ((idx U D).bind λu=>(qe G u J).bind λw=>(fu B (w:X')).bind λz=>some (.n (z,wrap .i64 (D+1)))) (some (.x B))
def W1(U:Zb)(B:Sl X')(D:Int)(G:Z4)(J:T'):aY ((Sl X')×(Zb)×Int):=(bF (λq:(Sl X')×Int=>bh U G J q.1 q.2) (B,D)).bind (Fw.elim (λe=>some (e,U,0)) (λe=>elim e))
end iO
def iO(B:Z4)(p1:T'):aY ((Sl X')×(Zb)×Int):=(zT B p1 2).bind λu=>bg (u==0) ((rL p1).bind λz=>bg z (some (Sl.nil,Sl.nil,15)) ((eO B).bind λw=>bg w.2 (iO.W1 w.1 (Sl.nil:Sl X') 0 B p1) (some (Sl.nil,Sl.nil,16)))) (some (Sl.nil,Sl.nil,u))
open iO in
instance XB(B:Z4)(p1:T'):Fc Sy cL (iO B p1):=Fc.N 42 [enc B,enc p1] (bT 2 2 B (bT 0 3 p1 (bu 10 λC _=>cz 9 16 (bu 7 λD _=>bp 2 19 aZ (bu 6 λu _=>cz 14 26 (eG 17 (λw=>(bE [Pv 2,Pv 3,Cv 8 u.1,Ov 10,Iv 11 w.2] [Xb 2 B,Xb 3 p1,Lb 2010 w.1])) (λz=>(0,(bE [Cv 8 u.1,Ov 10] [Lb 2010 z]))) (λw=>bQ 7 u.1 (bp 3 30 (bC 10 λG _=>bY 2 λI _=>nL 1 2010 41 42 λJ _=>aZ) aZ)) (λz=>aZ)) aZ)) aZ)))
namespace jG
def bh(J:Sl X')(D:Zb)(B:Zb)(G:Int):aY (Fw ((Zb)×Int) Zb Empty):=bg (decide (G<(len J))) ((idx J G).bind λu=>bg u ((idx D G).bind λw=>(fu B (w:Zg)).bind λz=>some (.n (z,wrap .i64 (G+1)))) (some (.n (B,wrap .i64 (G+1))))) (some (.x B))
def W1(G:Sl X')(B D:Zb)(J:Int):aY Zb:=(bF (λq:(Zb)×Int=>bh G B q.1 q.2) (D,J)).bind (Fw.elim (λe=>some e) (λe=>elim e))
end jG
def jG(D:Sl X')(B:Zb):aY Zb:=jG.W1 D B (Sl.nil:Zb) 0
open jG in
instance Zx(D:Sl X')(B:Zb):Fc Sy cL (jG D B):=Fc.N 43 [enc D,enc B] (eG 19 (λu=>(bE [Cv 0 D,Cv 1 B,Ov 5,Iv 6 u.2] [Lb 2005 u.1])) (λw=>(0,(bE [Ov 5] [Lb 2005 w]))) (λu=>bQ 7 D (bp 3 10 (bC 9 λC _=>bp 3 16 (bC 5 λz _=>zk 1 22 ([z]:aX Zg) (nL 0 2005 22 23 λG _=>aZ)) aZ) aZ)) (λw=>aZ))
def nr(B:Z4)(p1:T'):aY ((Zb)×Int):=(iO B p1).bind λu=>bg (u.2.2==0) ((jG u.1 u.2.1).bind λw=>some (w,0)) (some (Sl.nil,u.2.2))
instance Qx(B:Z4)(p1:T'):Fc Sy cL (nr B p1):=Fc.N 20 [enc B,enc p1] (bT 2 2 B (bT 0 3 p1 (bu 8 λu _=>cz 16 17 (bu 7 λw _=>aZ) aZ)))
namespace iU
def bh(a0 G:Zg)(B:Zg)(D:Int):aY (Fw ((Zg)×Int) Zg Empty):=bg (decide (D<(len a0))) ((idx a0 D).bind λu=>(idx G D).bind λw=>(fu B ((if w<u then w else u):Int)).bind λz=>some (.n (z,wrap .i64 (D+1)))) (some (.x B))
def W1(a0 D B:Zg)(G:Int):aY Zg:=(bF (λq:(Zg)×Int=>bh a0 D q.1 q.2) (B,G)).bind (Fw.elim (λe=>some e) (λe=>elim e))
end iU
def iU(a0 B:Zg):aY Zg:=iU.W1 a0 B (Sl.nil:Zg) 0
open iU in
instance Y8(a0 B:Zg):Fc Sy cL (iU a0 B):=Fc.N 47 [enc a0,enc B] (eG 19 (λu=>(bE [Cv 0 a0,Cv 1 B,Ov 5,Iv 6 u.2] [Lb 2005 u.1])) (λw=>(0,(bE [Ov 5] [Lb 2005 w]))) (λu=>bQ 7 a0 (bp 3 10 (bC 9 λz _=>bC 3 λC _=>nL 3 2005 23 24 λD _=>aZ) aZ)) (λw=>aZ))
namespace pP
def bh(D:Zb)(G:Zg)(B:Int):aY (Fw Int Unit Int):=bg (decide (B<(len D))) ((idx D B).bind λu=>(eT u G).bind λw=>bg w (some (.r B)) (some (.n (wrap .i64 (B+1))))) (some (.x ()))
def W1(B:Zb)(D:Zg)(G:Int):Ps:=(bF (λq:Int=>bh B D q) G).bind (Fw.elim (λe=>some (-1)) (λe=>some e))
end pP
def pP(B:Zb)(D:Zg):Ps:=pP.W1 B D 0
open pP in
instance Y7(B:Zb)(D:Zg):Fc Sy cL (pP B D):=Fc.M 67 [enc B,enc D] (dx 13 (λw=>(bE [Cv 0 B,Cv 1 D,Iv 5 w] [])) (λu=>(0,(bE [] []))) (λu=>(bE [Iv 4 u] [])) (λw=>bQ 6 B (bp 3 9 (bC 9 λz _=>bu 2 λC _=>bp 2 17 aZ aZ) aZ)) (λu=>aZ) (λu=>aZ))
def vi(B:Zb)(D:Zg):aY X':=(pP B D).bind λu=>some (decide (u>=0))
instance YT(B:Zb)(D:Zg):Fc Sy cL (vi B D):=Fc.M 46 [enc B,enc D] (bu 9 λu _=>aZ)
namespace fF
def bH(B:Zb)(i3:Int)(D:Int):aY (Fw Int Unit Unit):=bg (decide (D<i3)) ((idx B i3).bind λu=>(idx B D).bind λw=>(iU u w).bind λz=>(vi B z).bind λC=>bg C (some (.n (wrap .i64 (D+1)))) (some (.r ()))) (some (.x ()))
def W2(B:Zb)(i3 D:Int):aY (Fw Int Unit Unit):=(bF (λq:Int=>bH B i3 q) D).bind (Fw.elim (λe=>some (.n (wrap .i64 (i3+1)))) (λe=>some (.r ())))
def bh(B:Zb)(i3:Int):aY (Fw Int Unit Unit):=bg (decide (i3<(len B))) (W2 B i3 0) (some (.x ()))
def W1(B:Zb)(i3:Int):aY X':=(bF (λq:Int=>bh B q) i3).bind (Fw.elim (λe=>some true) (λe=>some false))
end fF
def fF(B:Zb):aY X':=fF.W1 B 0
open fF in
instance Wn(B:Zb):Fc Sy cL (fF B):=Fc.M 22 [enc B] (dx 13 (λu=>(bE [Cv 0 B,Iv 3 u] [])) (λw=>(0,(bE [] []))) (λw=>(bE [Bv 2 false] [])) (λu=>bQ 6 B (bp 3 8 (dx 12 (λC=>(bE [Cv 0 B,Iv 3 u,Iv 4 C] [])) (λz=>(2,(bE [Cv 0 B,Iv 3 u] []))) (λz=>(bE [Bv 2 false] [])) (λC=>bp 9 13 (bC 10 λD _=>bC 3 λG _=>bu 1 λI _=>bY 0 λJ _=>cz 3 27 aZ aZ) aZ) (λz=>aZ) (λz=>aZ)) aZ)) (λw=>aZ) (λw=>aZ))
namespace qI
def bh(a0 D:Zg)(B:Int):aY (Fw Int Unit Unit):=bg (decide (B<(len a0))) ((idx a0 B).bind λu=>(idx D B).bind λw=>bg (decide (u>w)) (some (.r ())) (some (.n (wrap .i64 (B+1))))) (some (.x ()))
def W1(a0 B:Zg)(D:Int):aY X':=(bF (λq:Int=>bh a0 B q) D).bind (Fw.elim (λe=>some true) (λe=>some false))
end qI
def qI(a0 B:Zg):aY X':=bg ((len a0)==(len B)) (qI.W1 a0 B 0) (some false)
open qI in
instance ZN(a0 B:Zg):Fc Sy cL (qI a0 B):=Fc.M 48 [enc a0,enc B] (bQ 9 a0 (bQ 1 B (cz 3 10 (dx 11 (λw=>(bE [Cv 0 a0,Cv 1 B,Iv 5 w] [])) (λu=>(0,(bE [] []))) (λu=>(bE [Bv 4 false] [])) (λw=>bQ 6 a0 (bp 3 14 (bC 9 λz _=>bC 3 λC _=>bp 4 25 aZ aZ) aZ)) (λu=>aZ) (λu=>aZ)) aZ)))
namespace gP
def J2(D:Zb)(G B:Zg)(a:Int):aY (Fw ((Zg)×X'×Int) ((Zg)×X') Empty):=(idx D a).bind λu=>(iU B u).bind λw=>some (.n (w,true,wrap .i64 (a+1)))
def bh(G:Zb)(J:Zg)(D:Zg)(B:X')(a:Int):aY (Fw ((Zg)×X'×Int) ((Zg)×X') Empty):=bg (decide (a<(len G))) ((idx G a).bind λu=>(qI J u).bind λw=>bg w (bg B (J2 G J D a) ((idx G a).bind λz=>J2 G J z a)) (some (.n (D,B,wrap .i64 (a+1))))) (some (.x (D,B)))
def W1(G:Zb)(J D:Zg)(B:X')(a:Int):aY ((Zg)×X'):=(bF (λq:(Zg)×X'×Int=>bh G J q.1 q.2.1 q.2.2) (D,B,a)).bind (Fw.elim (λe=>some (e.1,e.2)) (λe=>elim e))
end gP
def gP(B:Zb)(D:Zg):aY ((Zg)×X'):=gP.W1 B D (Sl.nil:Zg) false 0
open gP in
instance Zq(B:Zb)(D:Zg):Fc Sy cL (gP B D):=Fc.N 23 [enc B,enc D] (eG 24 (λu=>(bE [Cv 0 B,Cv 1 D,Cv 6 u.1,Bv 7 u.2.1,Iv 8 u.2.2] [])) (λw=>(0,(bE [Cv 6 w.1,Bv 7 w.2] []))) (λu=>bQ 6 B (bp 3 12 (bC 11 λG _=>bu 1 λI _=>cz 3 21 (cz 10 23 (qi 4 (bC 5 λz _=>bu 1 λC _=>aZ)) (bC 4 λJ _=>qi 5 (bC 5 λz _=>bu 1 λC _=>aZ))) aZ) aZ)) (λw=>aZ))
def pQ(D:Z4)(p1:T')(G:Zg):aY ((Zg)×Int):=(nr D p1).bind λu=>bg (u.2==0) ((qA D G).bind λz=>bg z ((fF u.1).bind λB=>bg B ((gP u.1 G).bind λw=>bg w.2 (some (w.1,0)) (some (Sl.nil,7))) (some (Sl.nil,15))) (some (Sl.nil,18))) (some (Sl.nil,u.2))
instance Y9(B:Z4)(p1:T')(D:Zg):Fc Sy cL (pQ B p1 D):=Fc.N 8 [enc B,enc p1,enc D] (bT 2 3 B (bT 0 4 p1 (bu 8 λu _=>cz 14 19 (bu 8 λw _=>cz 3 24 (bu 7 λz _=>cz 3 27 (bu 7 λC _=>cz 14 35 aZ aZ) aZ) aZ) aZ)))
namespace dF
def bh(G D:Zg)(B:Int):aY (Fw Int Unit Int):=bg (decide (B<(len G))) ((idx D B).bind λu=>(idx G B).bind λw=>bg (decide (u>w)) (some (.r B)) (some (.n (wrap .i64 (B+1))))) (some (.x ()))
def W1(G B:Zg)(D:Int):aY (Int×Int):=(bF (λq:Int=>bh G B q) D).bind (Fw.elim (λe=>some (0,7)) (λe=>some (e,0)))
end dF
def dF(D:Z4)(B:Zg)(p2:T'):aY (Int×Int):=(pQ D p2 B).bind λu=>bg (u.2==0) (dF.W1 B u.1 0) (some (0,u.2))
open dF in
instance RX(D:Z4)(B:Zg)(p2:T'):Fc Sy cL (dF D B p2):=Fc.M 9 [enc D,enc B,enc p2] (bT 2 3 D (bT 0 5 p2 (bu 9 λz _=>cz 14 19 (dx 11 (λw=>(bE [Cv 1 B,Cv 8 z.1,Iv 10 w] [])) (λu=>(0,(bE [] []))) (λu=>(bE [Iv 6 u,Iv 7 0] [])) (λw=>bQ 6 B (bp 3 24 (bC 9 λC _=>bC 3 λG _=>bp 4 35 aZ aZ) aZ)) (λu=>aZ) (λu=>aZ)) aZ)))
def nQ(B:Z4)(D:Zg)(p2:T'):aY X':=(zb).bind λJ=>bg J ((ye B p2).bind λL=>(bg L (some (decide ((len D)>20))) (some true):aY X').bind λO=>bg O (some true) ((mC B p2 D).bind λu=>(dB B D p2).bind λw=>(pQ B p2 D).bind λz=>(dF B D p2).bind λC=>(fG u.1 z.1).bind λQ=>(bg Q (some (u.2==z.2)) (some false):aY X').bind λS=>(bg S (some (w.1==C.1)) (some false):aY X').bind λG=>(bg G (some (w.2==C.2)) (some false):aY X').bind λI=>some I)) (some false)
instance Aa(B:Z4)(D:Zg)(p2:T'):Fc Sy cL (nQ B D p2):=Fc.M 3 [enc B,enc D,enc p2] (bT 2 3 B (bT 0 5 p2 (bu 6 λz _=>cz 3 16 (bu 8 λC _=>bG 2 4 [21] 25 (cz 2 21 (bQ 1 D (bq 2)) (bq 4)) λG=>bp 2 25 aZ (bu 8 λI _=>bu 12 λJ _=>bu 12 λL _=>bu 12 λO _=>bu 11 λQ _=>bG 1 4 [8,12,57] 61 (bp 1 57 (bq 4) (bq 4)) λS=>bG 1 4 [9,13,62] 66 (bp 1 62 (bq 4) (bq 4)) λu=>bG 1 4 [10,14,67] 71 (bp 1 67 (bq 4) (bq 4)) λw=>aZ)) aZ)))
end
end Go.VE
