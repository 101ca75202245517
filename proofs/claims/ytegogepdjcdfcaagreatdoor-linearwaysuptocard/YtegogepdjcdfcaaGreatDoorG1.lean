/- Functions. -/
import Derived.Test.YtegogepdjcdfcaaGreatDoorK1
import Derived.Test.YtegogepdjcdfcaaGreatDoorT1
set_option linter.all false
open Option renaming some→M,some→_j,none→J,none→_p,bind→H,bind→_n
open Bool renaming true→U,true→_m,false→O,false→_o
open Decidable renaming decide→_r
open List renaming length→W,length→_l
open Go.IntKind renaming i64→N,i64→_q
open List renaming all_cons→o!,all_nil→S!,cons_append→n7,map_cons→J?
open Go.IntKind renaming signed→l',wrap→w?
open Empty renaming elim→c!
open ByteArray renaming toList→E?
noncomputable section
open Nat(le)
open Nat(le)
open Nat(beq)
open Nat(le)
open Nat(le)
namespace Go.VE
theorem o?{p:Prop}(h:p:=by kernel_rfl):p:=h
structure Var where
 name:ByteArray
 init_:Int
 deriving Inhabited
instance:bC Var where
 cells x:=[.str x.name,.int N x.init_]
 agg:=U
 size:=2
 len _:=rfl
 good x:=by simp only[V.cT,V.good,lU,Bool.and_self]
 one x:=by simp only[o!,S!,o7,nE,o9,oF,Bool.and_self]
 plain h:=by cases h
structure Assign where
 var:Int
 value:Int
 deriving Inhabited
instance:bC Assign where
 cells x:=[.int N x.var,.int N x.value]
 agg:=U
 size:=2
 len _:=rfl
 good x:=by simp only[V.cT,V.good,lU,Bool.and_self]
 one x:=by simp only[o!,S!,o7,nE,o9,oF,Bool.and_self]
 plain h:=by cases h
structure Event where
 kind:Int
 k?:Int
 d?:Int
 time:Int
 assign:Sl Assign
 deriving Inhabited
abbrev WF:=Event
instance:bC WF where
 cells x:=[.int N x.kind,.int N x.k?,.int N x.d?,.int N x.time,enc x.assign]
 agg:=U
 size:=5
 len _:=rfl
 good x:=by simp only[V.cT,V.good,lU,Bool.and_self]
 one x:=by simp only[o!,S!,o7,nE,o9,oF,Bool.and_self]
 plain h:=by cases h
structure bS where
 name:ByteArray
 g?:Sl Var
 b?:Sl Event
 deriving Inhabited
instance:bC bS where
 cells x:=[.str x.name,enc x.g?,enc x.b?]
 agg:=U
 size:=3
 len _:=rfl
 good x:=by simp only[V.cT,V.good,lU,Bool.and_self]
 one x:=by simp only[o!,S!,o7,nE,o9,oF,Bool.and_self]
 plain h:=by cases h
structure Trace where
 a?:Sl bS
 deriving Inhabited
abbrev Z4:=Trace
instance:bC Z4 where
 cells x:=[enc x.a?]
 agg:=U
 size:=1
 len _:=rfl
 good x:=by simp only[V.cT,V.good,lU,Bool.and_self]
 one x:=by simp only[o!,S!,o7,nE,o9,oF,Bool.and_self]
 plain h:=by cases h
structure Pred where
 kind:Int
 n:Int
 proc:Int
 k?:Int
 name:ByteArray
 l:Sl Pred
abbrev T':=Pred
mutual
def Pred.XT:T'->So
 |⟨f0,f1,B,D,G,f5⟩=>[.int N f0,.int N f1,.int N B,.int N D,.str G,Pred.Ix f5]
def Pred.Ix:Sl T'->V
 |.nil=>.bN|.emp=>.dH|.row l=>.fsl 6 (Pred.Gj l)|.part l=>.fsl 6 (Pred.Gj l)
def Pred.Gj:aX T'->S'
 |[]=>[]|x::r=>Pred.XT x::Pred.Gj r
end
instance:Inhabited T':=⟨⟨default,default,default,default,default,Sl.nil⟩⟩
mutual
theorem Pred.ZU:∀x:T',V.cT x.XT=U
 |⟨f0,f1,B,D,G,f5⟩=>by simp only[Pred.XT,V.cT,V.good,Pred.L3,Bool.and_self]
theorem Pred.L3:∀x:Sl T',V.good (Pred.Ix x)=U
 |.nil=>rfl|.emp=>rfl|.row l=>by simp only[Pred.Ix,V.good,Pred.ER]|.part l=>by simp only[Pred.Ix,V.good,Pred.ER]
theorem Pred.ER:∀x:aX T',V.pI (Pred.Gj x)=U
 |[]=>rfl|x::r=>by simp only[Pred.Gj,V.pI,Pred.ZU,Pred.ER,Bool.and_self]
end
theorem Pred.Zw(s:Sl T'):V.one (Pred.Ix s)=U:=by cases s<;>simp[Pred.Ix,V.one]
instance:bC T' where
 cells x:=[.int N x.kind,.int N x.n,.int N x.proc,.int N x.k?,.str x.name,Pred.Ix x.l]
 agg:=U
 size:=6
 len _:=rfl
 good x:=by simp only[V.cT,V.good,Pred.L3,Bool.and_self]
 one x:=by simp only[o!,S!,o7,nE,o9,Pred.Zw,Bool.and_self]
 plain h:=by cases h
theorem Pred.SF(x:T'):Pred.XT x=cells x:=by cases x;rfl
theorem Pred.Fi:∀l:aX T',Pred.Gj l=rows l
 |[]=>rfl|x::r=>by rw[Pred.Gj,Pred.Fi r,Pred.SF];rfl
theorem Pred.eW(s:Sl T'):Pred.Ix s=enc s:=by cases s with|nil=>rfl|emp=>rfl|row l=>show V.fsl 6 (Pred.Gj l)=V.fsl 6 (rows l);rw[Pred.Fi]|part l=>show V.fsl 6 (Pred.Gj l)=V.fsl 6 (rows l);rw[Pred.Fi]
structure bu where
 from_:bf
 to_:bf
 deriving Inhabited
instance:bC bu where
 cells x:=[.int N x.from_.proc,.int N x.from_.index,.int N x.to_.proc,.int N x.to_.index]
 agg:=U
 size:=4
 len _:=rfl
 good x:=by simp only[V.cT,V.good,lU,Bool.and_self]
 one x:=by simp only[o!,S!,o7,nE,o9,oF,Bool.and_self]
 plain h:=by cases h
structure bX where
 low:Int
 high:Int
 deriving Inhabited
instance:bC bX where
 cells x:=[.int N x.low,.int N x.high]
 agg:=U
 size:=2
 len _:=rfl
 good x:=by simp only[V.cT,V.good,lU,Bool.and_self]
 one x:=by simp only[o!,S!,o7,nE,o9,oF,Bool.and_self]
 plain h:=by cases h
structure cD where
 lengths:Sl Int
 need:Sl (Sl bf)
 deriving Inhabited
instance:bC cD where
 cells x:=[enc x.lengths,enc x.need]
 agg:=U
 size:=2
 len _:=rfl
 good x:=by simp only[V.cT,V.good,lU,Bool.and_self]
 one x:=by simp only[o!,S!,o7,nE,o9,oF,Bool.and_self]
 plain h:=by cases h
structure cr where
 t:Trace
 counts:Sl Int
 values:Sl (Sl Int)
 deriving Inhabited
instance:bC cr where
 cells x:=[enc x.t.a?,enc x.counts,enc x.values]
 agg:=U
 size:=3
 len _:=rfl
 good x:=by simp only[V.cT,V.good,lU,Bool.and_self]
 one x:=by simp only[o!,S!,o7,nE,o9,oF,Bool.and_self]
 plain h:=by cases h
structure bW where
 t:Trace
 l:Sl (Sl Int)
 index:GU ByteArray Int
 truth:Sl Bool
 deriving Inhabited
instance:bC bW where
 cells x:=[enc x.t.a?,enc x.l,enc x.index,enc x.truth]
 agg:=U
 size:=4
 len _:=rfl
 good x:=by simp only[V.cT,V.good,lU,Bool.and_self]
 one x:=by simp only[o!,S!,o7,nE,o9,oF,O7,Bool.and_self]
 plain h:=by cases h
def jU(p:Int):Int->aX WF->aX (bf×WF)
 |_,[]=>[]|j,e::r=>(⟨p,j+1⟩,e)::jU p (j+1) r
def gQ:Int->aX bS->aX (bf×WF)
 |_,[]=>[]|i,p::r=>jU i 0 p.b?.l++gQ (i+1) r
def q_(n:Nat):X':=_r (n<9223372036854775807)
def kN(t:Z4):aY (aX (bf×WF)):=if q_ (W t.a?.l)&&t.a?.l.all λp=>q_ (W p.b?.l) then M (gQ 0 t.a?.l)else J
def xA:b_ 22 Int:=⟨Go.Proofs.YtegogepdjcdfcaaGreatDoor.FJ,Y⟩
end Go.VE
namespace Go.VE
def XP:Nat->Nat->Nat->ST
 |0,_,_=>[]|f+1,i,m=>bif m % 2==1 then i::XP f (i+1) (m / 2)else XP f (i+1) (m / 2)
def gK(g m:Nat)(l:ST:=[]):Gh:=.keep (XP 128 0 g) (XP 128 0 m++l)
def g2(n g m:Nat)(l:ST:=[]):Nat×Pi×Pi:=(n,[gK g m l],[gK g m l])
def g1(n g m:Nat)(l:ST:=[]):Nat×Pi×Pi:=(n,[gK g m l],[])
def G2(n:Nat)(x:Pi):Nat×Pi×Pi:=(n,x,x)
def G1(n:Nat)(x:Pi):Nat×Pi×Pi:=(n,x,[])
def cS(i n:Nat):Gh:=.canon (.s i) (2000+i) n
def cC(i j n:Nat):Gh:=.canon (.c i j) (4000+20*i+j) n
def e0(n m:Nat):Nat×GD:=(n,⟨m,[],[]⟩)
def e1(n m:Nat)(l:aX (Nat×Pi×Pi)):Nat×GD:=(n,⟨m,[],l⟩)
def PW:aX (Nat×GD):=[ e1 66 0x22226260002000201 [g2 6 387 0,g1 12 0 0,g1 22 16 0,g1 27 16 0],e0 39 0x226221,e0 40 0x2222212,e0 151 0x26c4444026402201,e0 152 0x26442201,e1 118 0x222064c002644c00222600620000644402644022201 [g1 8 4 0,g2 14 9 0,g1 20 0 0,g1 28 4 0,g1 33 4 0],e0 119 0x26442201,e1 82 0x2222222022226020222062260202260206000022226020622000022202220620226020600002220202602012 [g1 10 16 0,g2 16 102 36,g1 22 32 32,g1 30 16 0,g1 39 16 0,g2 45 160 32,g1 51 32 32,g1 60 16 0,g2 66 416 32,g1 72 160 32,g1 80 16 0,g1 88 16 0,g1 97 16 0,g1 101 16 0],e1 83 0x2222220620226020600006444026c444c04040222020260206220000222006cc44c4444c04040440264402220064402644026c04026c44040264402644022200644022202202026022602012 [g1 13 64 0,g1 20 64 0,g1 22 142 136,g1 28 64 0,g1 36 64 0,g2 42 394 136,g1 48 0 0,g1 59 64 0,g2 64 1930 648,g1 70 394 136,g1 78 64 0,g1 84 64 0],e0 120 0x2262222262022022,e1 54 0x20222222262226c0442602020260226020622260200062200002 [g2 6 206 72,g1 12 64 64,g2 18 462 72,g1 24 206 72,g1 34 64 64,g1 40 64 64],e1 84 0x2222226cc40444cc4040444022202602262020622262020000220060e20200022020600122 [g2 30 236 44,g1 36 64 0],e1 85 0x22206222602026006220002222203622000622262002062202202026260022602062226020260062200002222012 [G2 6 [cS 3 1,gK 10 2 [2003]],G2 14 [cS 3 1,gK 58 2 [2003]],G1 20 [cS 3 1,gK 26 2 [2003]],G2 24 [cS 3 1,gK 58 2 [2003]],G1 30 [cS 3 1,gK 58 2 [2003]],G1 43 [cS 3 1,gK 58 2 [2003]],G1 46 [cS 3 1,gK 42 2 [2003]],G1 53 [cS 3 1,gK 10 2 [2003]],G2 59 [cS 3 1,gK 266 2 [2003]],g1 65 0 0,g1 73 4 0,g1 78 4 0],e1 121 0x22262622222202062026262202022200122 [G1 10 [cS 5 2,gK 44 12 [2005]],G1 20 [.canon (.s 4) 4004 2]],(86,⟨0x222222622600262000262016202620026202620022220220220262022226222222602026220000122,[(21,[.put 28])],[G2 8 [cS 5 1,.melt 2005,gK 108 12 [2005]],G1 14 [cS 5 1,.melt 2005,gK 44 12 [2005]],G2 23 [cS 5 1,.melt 2005,cS 7 2,gK 164 4 [2005,2007]],G1 29 [cS 5 1,.melt 2005,gK 32 0 [2005]],(37,[.take 2005 (.c 8 0) 1 6041],[.put 2005]),(42,[.take 2005 (.c 8 0) 1 6050],[.put 2005]),G2 48 [cS 5 1,.melt 2005,cS 7 2,cS 9 2,gK 1700 4 [2005,2007,2009]],G1 54 [cS 5 1,.melt 2005,cS 7 2,gK 164 4 [2005,2007]]]⟩),e1 55 0x202222220222620260600206200622260200062200002020222222222220260020620062226020006220002222222226222202e0006222602000622000222222222026006220000206444022220102 [g1 8 12 4,g2 14 22 6,g1 20 6 6,g1 30 12 4,g2 37 70 6,g1 43 6 6,g2 49 198 6,g1 55 70 6,g1 65 12 4,g2 73 518 6,g1 79 6 6,g2 85 1542 6,g1 91 518 6,g1 103 12 4,g1 113 12 4,g2 119 8198 6,g1 125 4 4,g2 131 24582 6,g1 137 8198 6,g1 147 12 4,g1 153 12 4],e0 29 0x2222302022212,e0 41 0x222212,e0 87 0x2236226200026201,e1 58 0x22206c444c0404c0022260062000062202012 [g1 8 16 0,g2 14 38 4,g1 20 0 0,g1 28 16 0,g1 33 16 0],e1 59 0x2222220626220202062202202026022602062600006200012 [g2 6 38 4,g1 12 0 0,g2 18 102 4,g1 24 38 4,g1 39 16 0,g1 46 16 0],e0 31 0x26c44260012,e1 56 0x2222226260026cc000262226020260062000012 [G2 8 [cS 5 1,gK 102 4 [2005]],G1 14 [cS 5 1,gK 32 0 [2005]]],e1 122 0x2222226260026200001 [g2 8 25 0,g1 14 8 0],e1 88 0x222262622260262600260062000262222620201 [g1 8 16 0,g2 14 35 0,g1 20 0 0,g1 28 16 0,g1 33 16 0],e1 89 0x2220626002600620000620201 [g1 8 16 0,g2 14 35 0,g1 20 0 0,g1 28 16 0,g1 33 16 0],e1 57 0x26622226222266000226c04c00262002226c04c002620001 [g2 6 35 0,g1 12 35 0],(30,⟨0x222222222226260026200026260006200000022026022200222220112,[(7,[.closeS (.s 13)])],[G2 8 [.closeS (.s 4),cS 5 1,gK 50 2 [2005]],G1 14 [cS 5 1,gK 32 0 [2005]],G1 24 [cS 2 1,gK 12 0 [2002]],G2 32 [.closeS (.s 4),cS 5 1,gK 242 2 [2005]],G1 38 [cS 5 1,gK 98 2 [2005]],G2 46 [.closeS (.s 4),cS 5 1,gK 1010 2 [2005]],G1 52 [.closeS (.s 4),cS 5 1,gK 242 2 [2005]],G1 61 [cS 2 1,gK 12 0 [2002]]]⟩),e1 15 0x2644422222202222222202222622202202000022022022002022064442222026220220200002000222012 [g1 8 4 0,g2 16 458762 2,g1 22 10 2,g1 34 4 0,g1 43 4 0,g1 51 4 0,g2 63 246290604621888 0,g1 69 64 0,g1 81 4 0,g1 86 4 0,g1 92 4 0],e0 43 0x22e222212,e0 42 0x226221,e1 67 0x22226260002000201 [G2 6 [.drop [2,3,4,5,6,9,10,11,12,13,14,15,16,17,18]],G1 12 [.drop [0,1,2,3,4,5,6,7,8,9,10,11,12,13,14,15,16,17,18]],G1 22 [.drop [0,1,2,3,5,6,7,8,9,10,11,12,13,14,15,16,17,18]],G1 27 [.drop [0,1,2,3,5,6,7,8,9,10,11,12,13,14,15,16,17,18]]],(16,⟨0x264cc442644402640222203222001222,[(27,[.canon (.s 4) 9001 0,.closeB 5])],[]⟩),e1 44 0x222222666202602006c002622000012 [g2 8 102 4,g1 14 32 0],e0 17 0x222212,(5,⟨0x26c444444026c022200122,[(9,[.canon (.s 5) 9002 0])],[]⟩),e0 73 0x26c4426201,e0 136 0x26c4444026402201,e0 137 0x26442201,e1 103 0x22064c402644c00222600200020064440264402201 [g1 8 4 0,g2 14 786433 0,g1 20 0 0,g1 30 4 0,g1 35 4 0],e0 105 0x26222212,e1 138 0x22226260002000201 [g2 6 387 0,g1 12 0 0,g1 22 16 0,g1 27 16 0],e0 104 0x226221,e0 107 0x26222212,e1 139 0x22226260002000201 [g2 6 387 0,g1 12 0 0,g1 22 16 0,g1 27 16 0],e0 106 0x226221,e1 74 0x222222022222026c0c4402222022020000020022220026c0c44422220202602012 [g1 11 16 0,g1 17 16 0,g2 23 30064771104 32,g1 29 32 32,g1 40 16 0,g1 46 16 0,g1 55 16 0,g1 59 16 0],e0 75 0x2212,e1 109 0x2644426c4402622222022202644422202020122 [g1 18 524330 40],e0 111 0x26222212,e1 140 0x22226260002000201 [g2 6 387 0,g1 12 0 0,g1 22 16 0,g1 27 16 0],e0 110 0x226221,e1 76 0x2202626220026444022622202022020000020022220026c44022220022e02222226220202200202620201222 [g1 12 440 184,g1 19 64 0,g1 25 64 0,g1 31 64 0,g2 37 31525197391593632 160,g1 43 0 0,g1 54 64 0,g1 60 64 0,g1 65 64 0],e0 141 0x26c44426c440222012,e0 112 0x2662262221222,e1 77 0x2202326222002202001ef200220022022226200223262220022022226200202022020202020200002 [(8,[gK 4158 1086],[gK 0 1086]),g1 27 0 1086,g1 39 0 1086,g1 47 0 1086,g1 53 28 1052],e1 113 0x222622262222264444c4400222020262222262622020262020222620220122 [G1 12 [cS 7 2,gK 418 32 [2007]]],e1 78 0x20222622230026000226002020000e200262220202622002202202020200022 [(6,[gK 8252 60],[gK 0 60]),G2 14 [cS 8 2,gK 8700 65660 [2008]],g1 20 8252 60,G2 29 [cS 8 2,gK 481036345852 65660 [2008]],G1 35 [cS 8 2,gK 8700 65660 [2008]],g1 46 0 60,g1 58 48 48],e1 50 0x20022222020262222222022202002202222202e2002020202222222202600200022002022220002 [g1 8 12 12,g2 14 12582926 14,g1 20 14 14,g1 32 12 12,(39,[gK 68719476750 14],[gK 0 14]),g1 51 0 14,g1 61 12 12,g1 71 12 12,g1 75 12 12],e0 22 0x2222302022212,e0 177 0x264426402201,e0 154 0x26c4444c4404440222006c4404440264402644026c444044026440222012,e0 155 0x22e222212,(153,⟨0x226622064402640222220122,[(20,[.closeB 5])],[]⟩),(124,⟨0x26222200012,[(5,[.canon (.s 3) 9004 0,.canon (.s 4) 9003 0])],[]⟩),e0 157 0x26c444422012,e0 178 0x2622212,e0 158 0x262226222122,e0 156 0x2644426c404026c40426200222644426440262022026001cf444042644026200202012,e0 165 0x2262212,(129,⟨0x264c4442600122,[(10,[.closeB 3])],[]⟩),e0 125 0x2622122,e0 161 0x221,e0 162 0x221,e0 160 0x2622222212,(159,⟨0x22622012,[(5,[.closeB 1])],[]⟩),e0 126 0x22212,e1 93 0x222222626002620002220012201 [g1 8 1 0,g2 14 25 0,g1 20 8 0],e1 208 0x222222626002620002220012201 [g1 8 1 0,g2 14 25 0,g1 20 8 0],e0 181 0x2622200,e1 206 0x22222226c04422202020000226222012 [g2 8 229508 0,g1 14 128 0],e0 227 0x2622212,e0 226 0x26222122,e0 220 0x220020262262220026c4400220002220112,e1 19 0x26200201 [G1 8 [.canon (.s 2) 4004 1],G1 12 [.canon (.s 2) 4004 1]],(183,⟨0x222e202202236222002020000222202000002226200222622222020000200,[(21,[.closeS (.s 25)]),(57,[.closeS (.s 54)])],[G2 6 [cS 3 1,gK 14347 0 [2003]],G1 12 [cS 3 1,gK 11 0 [2003]],g1 23 0 0,G2 28 [cS 3 1,gK 3758096393 0 [2003]],g1 34 0 0,G2 43 [cS 3 1,gK 965830770761 0 [2003]],G1 49 [cS 3 1,gK 3758096457 0 [2003]],g1 59 0 0]⟩),e0 166 0x2212,e1 221 0x22262260202220122 [(8,[cC 5 0 1,gK 552 40 [4100]],[cC 5 0 1,gK 0 40 [4100]])],e0 207 0x2222202622622220022022202e2001112,e0 179 0x26223222002e2220222e2220222222226222220222222020022,e0 180 0x26444222012,e0 209 0x262201,e0 182 0x22222622220622020260006402201,e1 163 0x22222022001ef622226202062020620202662222620202226622226202020262222202022002064422222202622202222002002202026222002222202062222201022 [g1 22 1944 664,g1 49 2064 2064],e0 164 0x2262212,(127,⟨0x226222222302026222220122,[(21,[.closeB 2])],[]⟩),e0 94 0x22622022200226000264402220122,e0 128 0x2222002220002220112,e0 95 0x6c44222222022212,e0 131 0x26442201,e0 130 0x2222212,e0 96 0x2644422012,e1 135 0x200226c0442602020202202022000222 [g1 8 192 192,(14,[gK 33008 240],[gK 0 240]),g1 24 0 240,g1 28 192 192],e0 102 0x2220622102,(114,⟨0x2222306222030622222022262222302622022002020000200202000020002,[(53,[.closeS (.s 49)]),(59,[.closeS (.c 3 0),.closeS (.c 3 1)])],[G2 8 [cC 3 0 1,cC 3 1 1,gK 14350 14 [4060,4061]],G1 14 [cC 3 0 1,cC 3 1 1,gK 12 12 [4060,4061]],G2 25 [cS 6 2,cC 3 0 1,cC 3 1 1,gK 1849454 46 [2006,4060,4061]],G1 31 [cS 6 2,cC 3 0 1,cC 3 1 1,gK 14446 46 [2006,4060,4061]],G1 44 [cS 6 2,cC 3 0 1,cC 3 1 1,gK 1849966 558 [2006,4060,4061]]]⟩),e0 142 0x26262222020262620260220626020260012,e0 196 0x26201,e0 171 0x62206000200222202201,e1 145 0x62222222220262222620062002220000001 [g2 6 3587 0,g1 12 3 0,g1 23 16 0,g1 34 16 0,g1 43 16 0,g1 47 16 0],e0 144 0x26221,e1 11 0x2206262026002000200620201 [g1 8 16 0,g2 14 12291 0,g1 20 0 0,g1 30 16 0,g1 35 16 0],e0 147 0x26221,(115,⟨0x222302222262223622020220e0002000202200002012,[(32,[.closeS (.s 34)])],[G2 8 [cS 5 1,gK 7204 4 [2005]],G1 14 [cS 5 1,gK 32 0 [2005]],G2 22 [cS 5 1,gK 400548 4 [2005]],G1 28 [cS 5 1,gK 7204 4 [2005]]]⟩),(79,⟨0x2226202620200202620222000222222202000220112,[(16,[.closeS (.s 16)])],[G1 8 [cS 2 1,gK 12 0 [2002]],G2 20 [.closeS (.s 5),cS 6 1,gK 240 16 [2006]],G1 26 [cS 6 1,gK 64 0 [2006]],G1 37 [cS 2 1,gK 12 0 [2002]],G1 43 [cS 2 1,gK 12 0 [2002]]]⟩),e0 51 0x222222220222112,e0 23 0x222022112,e0 101 0x26222221,e1 123 0x22226260002000201 [g2 6 387 0,g1 12 0 0,g1 22 16 0,g1 27 16 0],e0 91 0x226221,e0 70 0x264c4422012,e1 71 0x2206c444c440422022200000212 [g2 6 900 4,g1 12 0 0,g1 22 16 0,g1 27 16 0],e0 99 0x26c444422012,e1 72 0x2200222202262222626200203202026220220220200000622260202220000001002 [g2 6 57398 52,g1 12 48 48,g2 20 939581622 52,g1 26 57398 52,g1 44 112 48,g1 50 112 48],e0 100 0x22223300200262212,e1 69 0x2202620220000222026202200002220262022000000260012 [g1 8 64 0,g2 14 917518 8,g1 20 14 8,g1 30 64 0,g2 37 1879048202 8,g1 43 10 8,g1 53 64 0,g2 60 3848290697224 8,g1 66 0 0,g1 76 64 0,g1 81 64 0],e1 132 0x222226262222022200000202022026202112 [G2 18 [cS 7 2,gK 917632 0 [2007]],G1 24 [cS 7 2,gK 128 0 [2007]]],e1 133 0x226022222022 [(6,[gK 280 24],[gK 0 24]),g1 16 0 24,g1 20 16 16],e1 97 0x22222626226220222200000202022023202600112 [G2 18 [cS 8 1,gK 7340292 4 [2008]],G1 24 [cS 8 1,gK 256 0 [2008]]],e0 184 0x26222212,e0 167 0x226226222226022620220122,e0 210 0x2220622102,e1 185 0x22222622226c4c4404022222020262006c04022202020000626202260200202202e600200112 [G2 18 [cS 11 1,gK 481036339226 16 [2011]],G1 24 [cS 11 1,gK 2048 0 [2011]]],e0 168 0x22232202001ef22202220122,e0 134 0x266222226222002662222262220022266222226222002022622222202622202262222202622202222020122,e1 98 0x26c44444262220026c44444262220022226222222022222020266222226222002026622222622200202662222262220020266222226222002020122 [g1 36 147573952589676413004 12],e1 68 0x22222226260e22022002202220260022000000200220222022000020200220220200220260011122 [G1 10 [cS 5 1,gK 112 0 [2005]],G1 20 [cS 5 1,gK 112 0 [2005]],G1 28 [cS 5 1,gK 112 0 [2005]],G1 38 [cS 5 1,gK 112 0 [2005]],G2 46 [cS 11 1,gK 962072676876 12 [2011]],G1 52 [cS 11 1,gK 2560 0 [2011]],G1 65 [cS 5 1,gK 112 0 [2005]],G1 71 [cS 5 1,gK 112 0 [2005]]],e0 45 0x222222320026221122,e1 47 0x22222262222220000222201 [G2 8 [cS 3 1,gK 3592 0 [2003]],G1 14 [cS 3 1,gK 8 0 [2003]]],e1 24 0x22227222222022200000222001ef200212 [g2 8 458880 36864,g1 14 128 36864],e0 18 0x2e22220220222022020220222026201122,e0 46 0x22622212,e1 63 0x22222622222220262222203660202022260222020002260222001 [G2 8 [cS 7 1,gK 1572999 0 [2007]],G1 14 [cS 7 1,gK 128 0 [2007]]],e1 64 0x22222236662620260000020002022000022222201 [G2 8 [cS 5 1,gK 114721 0 [2005]],G1 14 [cS 5 1,gK 32 0 [2005]],G2 22 [cS 5 1,gK 6406305 0 [2005]],G1 28 [cS 5 1,gK 114721 0 [2005]]],e0 65 0x2221,e1 37 0x2222222362626202600003626200022260022260022000060036260222000260222020222222022222201 [G2 8 [cS 3 1,gK 25 0 [2003]],G1 14 [cS 3 1,gK 8 0 [2003]],G2 28 [cS 3 1,gK 30786325577753 0 [2003]],G1 34 [cS 3 1,gK 25 0 [2003]]],e0 92 0x2644cc44444444402201,e0 62 0x2262212,e0 36 0x22262200222600002260211,e0 20 0x2220e622222220000260222011,e1 48 0x1ff220002222222002002600222002260000226200112 [G1 9 [cS 6 1,gK 192 0 [2006]],G1 15 [cS 6 1,gK 192 0 [2006]],G2 20 [cS 8 1,gK 268 8 [2008]],G1 30 [cS 6 1,gK 192 0 [2006]]],e0 21 0x2220622112,(6,⟨0x262022022022202620362202022202262002226c4c004c0026200020220222026002202222222020220222026201122,[(26,[.closeS (.s 30)]),(79,[.closeS (.s 73)])],[G1 10 [cS 4 1,gK 48 0 [2004]],G2 17 [cS 9 1,gK 836 4 [2009]],G1 27 [cS 4 1,gK 48 0 [2004]],G2 33 [cS 9 1,gK 5956 4 [2009]],G1 39 [cS 9 1,gK 4932 4 [2009]],G1 48 [cS 4 1,gK 48 0 [2004]],G1 62 [cS 4 1,gK 48 0 [2004]]]⟩),e0 7 0x222062e22200262020202220222022000220112,e1 201 0x22222226620260202622000020012 [g2 16 102 4,g1 22 32 0],e0 219 0x6442640264022006c4044026402200640264026402201,e1 202 0x2220222602062200006c4404c440444026440222002200644022202200622022012 [g1 8 4 0,g1 19 4 0,g1 26 4 0,g1 28 2 2,g1 34 4 0,g2 40 10 2,g1 46 0 0,g1 54 4 0,g1 59 4 0],e0 174 0x264426440222012,e0 216 0x26c444422012,e1 217 0x22222602260226020622260200012 [g2 6 142 8,g1 12 0 0,g1 20 64 0,g1 25 64 0],e1 197 0x22202626020062200006c4404cc40404c4c40044c400222006c4404c44044c400222006c4001cf404004c44044c4002220122 [g1 8 16 0,g1 16 16 0,g1 24 16 0,g2 30 44 12,g1 36 0 0,g1 44 16 0,g1 49 16 0],e0 200 0x22212,e1 198 0x22206444c0402622260200220062200012 [g2 6 10 2,g1 12 0 0,g1 23 26 2,g1 28 4 0,g1 33 4 0],e1 223 0x222222222222622600262260026022600620002226022602062226020002022260226020112 [g2 10 1806 8,g1 16 768 0,g2 24 7950 8,g1 30 1806 8],e1 224 0x222222226c0442220202602260206222602000012 [g2 8 398 8,g1 14 128 0],e1 225 0x26220062222622222620062006402201 [g1 24 3 0],e1 218 0x222644222002666226206602600266600600660060022622622222226226222202222222202e2220222022226222222022202ee2220220022022222022010000644222222200262220022202222002622200222000000011122 [g1 12 8076 12,g1 18 8076 12,g1 60 24576 0],e1 199 0x222026260200622000222332002622220122 [g1 10 16 0,g2 16 268 12,g1 22 0 0,g1 30 16 0,g1 35 16 0],e0 172 0x2622022002600064402220122,e0 173 0x2220022000220112,e0 148 0x622322022222202602122,e1 175 0x222022602062200006440222012 [g1 8 4 0,g2 14 10 2,g1 20 0 0,g1 28 4 0,g1 33 4 0],e0 149 0x264422012,e1 204 0x22222602260062000222622212 [g2 8 388 0,g1 14 0 0,g1 22 64 0,g1 27 64 0],e1 203 0x22262226222222222222622602260062000222602260202022212 [g2 6 534 16,g1 12 22 16,g2 20 3606 16,g1 26 534 16,g1 34 256 0,g1 40 256 0],e1 205 0x222222622226c4c4404022202062006c0402220202602260206260000012 [G2 8 [cS 9 1,gK 1566 16 [2009]],G1 14 [cS 9 1,gK 512 0 [2009]]],e0 176 0x26e222222e22200026e222222e2220002226e222222e2220002022e2222222022001ef22202220226222202001ef26222e20202200202222020122,e0 150 0x26001cf4444442e2220002226001cf4444442e2220002022e2222222002026e222222e2220002026e222222e2220002026e222222e2220002026e222222e2220002020122,e1 117 0x2222222262e026000262000000022222022000020200220260011122 [G2 36 [cS 10 1,gK 3340 12 [2010]],G1 42 [cS 10 1,gK 1280 0 [2010]]],e1 32 0x222222622600226006200001 [G2 8 [cS 5 1,gK 99 0 [2005]],G1 14 [cS 5 1,gK 32 0 [2005]]],e0 81 0x26222022022220026221122,e1 61 0x2222226262600260026200001 [G2 8 [cS 5 1,gK 99 0 [2005]],G1 14 [cS 5 1,gK 32 0 [2005]]],e1 90 0x22222602600620001 [g2 6 35 0,g1 12 0 0,g1 20 16 0,g1 25 16 0],e0 60 0x226221,e1 33 0x22222202662600260006000620001 [g2 6 9 0,g1 12 0 0,g2 18 25 0,g1 24 9 0,g1 32 4 0,g1 38 4 0],e1 26 0x2220626002600620000620201 [g1 8 16 0,g2 14 35 0,g1 20 0 0,g1 28 16 0,g1 33 16 0],e1 34 0x22222220262600222600222626000620000011 [g2 10 451 0,g1 16 192 0,g1 31 323 0],e0 52 0x220022222026220022000260220220222026201122,e0 25 0x2220e2222201122,e0 28 0x22362202026201,e0 53 0x26262222020622202202026222622012,(27,⟨0x222222222622362220020622622262200001ef0000626000062000262012,[(46,[.closeS (.s 50)])],[G2 8 [cS 5 1,gK 100 4 [2005]],G1 14 [cS 5 1,gK 32 0 [2005]],G2 20 [cS 5 1,gK 228 4 [2005]],G1 26 [cS 5 1,gK 100 4 [2005]],G1 41 [.closeS (.s 4),gK 16 0],G1 46 [.closeS (.s 4),gK 16 0]]⟩),(8,⟨0x2226202266220222626002600026002202222020220222026201122,[(23,[.closeS (.s 24)])],[G2 18 [cS 9 1,gK 836 4 [2009]],G1 24 [cS 9 1,gK 512 0 [2009]],G2 30 [cS 9 1,gK 1860 4 [2009]],G1 36 [cS 9 1,gK 1860 4 [2009]]]⟩),e0 9 0x2200222220262200220262200260200620200022222022000220112,e1 35 0x2220626002600620000620201 [g1 8 16 0,g2 14 35 0,g1 20 0 0,g1 28 16 0,g1 33 16 0],e1 10 0x22202626002600620000620201 [g1 8 16 0,g2 14 35 0,g1 20 0 0,g1 28 16 0,g1 33 16 0],e0 3 0x26c4426c4426c44262222202e2222220262022202e00022202600064402644022600020122]
namespace trace_events_c1
def Er:R0:=[o1 20 (.s 18) [],o2 21 (ix 5) [.s 16,.s 18] [],o2 22 (lD 5) [.s 21] [21],o2 6 (.a (.alloc 5 [.int N 0,.int N 0,.int N 0,.int N 0,.bN])) [] [],o1 5 (.s 20) [20],oz (.l (.store 5)) [.s 6,.s 22] [22]]
def B9:R0:=[o1 23 (.s 0) [],o1 24 (.s 3) [],o1 25 (.s 5) [5],o2 26 (bI .add) [.s 25,.k (.int N 1)] [25],o2 27 (.p (.build [.int N 0,.int N 0] [(0,1),(1,1)])) [.s 24,.s 26] [24,26],o2 28 (lD 5) [.s 6] [6],o2 29 .c [.s 23,.s 27,.s 28] [23,27,28],o2 30 (.p .not) [.s 29] [29]]
def Ae:R0:=[o2 31 (bI .add) [.s 18,.k (.int N 1)] [],o1 18 (.s 31) [31]]
def Jq:RC:=.hg (.seq (.ops [o2 19 (bI .lss) [.s 18,.s 17] []]) (.seq (.cond (.s 19) .skip (.exit 2)) (.seq (.block 3 (.seq (.ops Er) (.seq (.ops B9) (.cond (.s 30) .ret .skip)))) (.ops Ae)))) (.keep [0,3,8,9,10,16,17,18] [])
def O3:R0:=[o1 12 (.s 10) [],o2 13 (ix 3) [.s 8,.s 10] [],o2 14 (lD 3) [.s 13] [13],o2 4 (.a (.alloc 3 [.str ByteArray.empty,.bN,.bN])) [] [],o1 3 (.s 12) [12],oz (.l (.store 3)) [.s 4,.s 14] [14]]
def KJ:R0:=[o2 15 (fa 2) [.s 4] [],o2 16 (ld 1) [.s 15] [15],o2 17 ln [.s 16] [],o1 18 (.k (.int N 0)) []]
def JP:R0:=[o2 32 (bI .add) [.s 10,.k (.int N 1)] [],o1 10 (.s 32) [32]]
def U2:RC:=.block 2 (.gh (.keep [0,3,8,9,10,16,17,18] []) (.loop Jq))
def S9:RC:=.hg (.seq (.ops [o2 11 (bI .lss) [.s 10,.s 9] []]) (.seq (.cond (.s 11) .skip (.exit 0)) (.seq (.block 1 (.seq (.ops O3) (.seq (.ops KJ) U2))) (.ops JP)))) (.keep [0,8,9,10] [])
def Qa:R0:=[o2 7 (fa 0) [.s 1] [1],o2 8 (ld 1) [.s 7] [7],o2 9 ln [.s 8] [],o1 10 (.k (.int N 0)) []]
def U1:RC:=.block 0 (.gh (.keep [0,8,9,10] []) (.loop S9))
def text:RF:=⟨33,[],.seq (.ops Qa) U1⟩
section
variable{S:Sys}
abbrev I1(ps:Sl bS)(i:Int)(B:aX (aX V))(more:Bool)(y:Nat):St:=⟨[(0,.yl y),Cv 8 ps,Iv 9 (len ps),Iv 10 i],[],[],B,more,y⟩
abbrev I2(ps:Sl bS)(i:Int)(es:Sl Event)(j:Int)(B:aX (aX V))(more:Bool)(y:Nat):St:=⟨[(0,.yl y),Iv 3 i,Cv 8 ps,Iv 9 (len ps),Iv 10 i,Cv 16 es,Iv 17 (len es),Iv 18 j],[],[],B,more,y⟩
abbrev S2(ps:Sl bS)(i:Int)(es:Sl Event)(j:Int)(b:Bool)(B:aX (aX V))(more:Bool)(y:Nat):St:=⟨[(0,.yl y),Iv 3 i,Cv 8 ps,Iv 9 (len ps),Iv 10 i,Cv 16 es,Iv 17 (len es),Iv 18 j,Bv 19 b],[],[],B,more,y⟩
theorem ab4(ps:Sl bS)(i:Int)(es:Sl WF)(j:Int)(B:S')(more:X')(y:Nat)(D:_r (j<len es)=O):
 rn S.bare qh M (.rc Jq) [] (I2 ps i es j B more y)=M (.exit 2,S2 ps i es j O B more y):=by
 refine Le.get ?_;refine Kf (n:=7) (fo':=.rc (.cond (.s 19) .skip (.exit 2))) (n?:=[.seq (.seq (.block 3 (.seq (.ops Er) (.seq (.ops B9) (.cond (.s 30) .ret .skip)))) (.ops Ae)),.gst (.keep [0,3,8,9,10,16,17,18] [])]) (λb=>S2 ps i es j b B more y) D o? ?_
 exact Le.of_eq o?
theorem ade(ps:Sl bS)(i:Int)(es:Sl WF)(j:Int)(e:WF)(B:S')(more:X')(y:Nat)(D:_r (j<len es)=U)(G:idx es j=M e)(d:(!(more|| !B.isEmpty))=O):
 rn S.bare qh M (.rc Jq) [] (I2 ps i es j ([enc (⟨i,w? N (j+1)⟩:bf),enc e]::B) more y)=M (.norm,I2 ps i es (w? N (j+1)) B more y):=by
 refine Le.get ?_;refine Kt (n:=7) (fo':=.rc (.cond (.s 19) .skip (.exit 2))) (n?:=[.seq (.seq (.block 3 (.seq (.ops Er) (.seq (.ops B9) (.cond (.s 30) .ret .skip)))) (.ops Ae)),.gst (.keep [0,3,8,9,10,16,17,18] [])]) (λb=>S2 ps i es j b ([enc (⟨i,w? N (j+1)⟩:bf),enc e]::B) more y) D o? ?_
 refine U0 G ?_;refine VM 8 O [] (Er.drop 1) [.seq (.seq (.ops B9) (.cond (.s 30) .ret .skip)),.blk 3,.seq (.ops Ae),.gst (.keep [0,3,8,9,10,16,17,18] [])] ⟨[(0,.yl y),Iv 3 i,Cv 8 ps,Iv 9 (len ps),Iv 10 i,Cv 16 es,Iv 17 (len es),Iv 18 j,Bv 19 U,Iv 20 j],[],[],([enc (⟨i,w? N (j+1)⟩:bf),enc e]::B),more,y⟩ N Y o? λx a=>?_
 obtain rfl:x=e:=h?
 refine Aal 1 O [] (Er.drop 3) [.seq (.seq (.ops B9) (.cond (.s 30) .ret .skip)),.blk 3,.seq (.ops Ae),.gst (.keep [0,3,8,9,10,16,17,18] [])] ⟨[(0,.yl y),Iv 3 i,Cv 8 ps,Iv 9 (len ps),Iv 10 i,Cv 16 es,Iv 17 (len es),Iv 18 j,Bv 19 U,Iv 20 j,Cv 22 x],[],[],([enc (⟨i,w? N (j+1)⟩:bf),enc x]::B),more,y⟩ [iv 0,iv 0,iv 0,iv 0,.v .bN] Y (by simp only[bD,AO,tn,vg,tH,u5,wJ,uS,wu,tc,uY,Ba,wk,v7,wF,wM,zf,zh,uT,wI,SV.cM];rfl) o? ?_
 refine Ast 1 O [] (Er.drop 5) [.seq (.seq (.ops B9) (.cond (.s 30) .ret .skip)),.blk 3,.seq (.ops Ae),.gst (.keep [0,3,8,9,10,16,17,18] [])] ⟨[(0,.yl y),Iv 3 i,Cv 8 ps,Iv 9 (len ps),Iv 10 i,Cv 16 es,Iv 17 (len es),Iv 18 j,Bv 19 U,Cv 22 x,Pv 6,Iv 5 j],[Xb 6 (⟨0,0,0,0,.nil⟩:WF)],[],([enc (⟨i,w? N (j+1)⟩:bf),enc x]::B),more,y⟩ 6 0 x [iv 0,iv 0,iv 0,iv 0,.v .bN] ((cells x).map .v) Y o? ?_
 refine Kyl (n:=10) (q:=B9.drop 6) (n?:=[.seq (.cond (.s 30) .ret .skip),.blk 3,.seq (.ops Ae),.gst (.keep [0,3,8,9,10,16,17,18] [])]) (st:=⟨[(0,.yl y),Iv 3 i,Cv 8 ps,Iv 9 (len ps),Iv 10 i,Cv 16 es,Iv 17 (len es),Iv 18 j,Bv 19 U,(23,.yl y),Cv 27 (⟨i,w? N (j+1)⟩:bf),Cv 28 x],[Xb 6 x],[],([enc (⟨i,w? N (j+1)⟩:bf),enc x]::B),more,y⟩) (vs:=[cv (⟨i,w? N (j+1)⟩:bf),cv x]) o? Y o? o? Y Y ?_
 refine Kf (n:=3) (fo':=.rc (.cond (.s 30) .ret .skip)) (n?:=[.blk 3,.seq (.ops Ae),.gst (.keep [0,3,8,9,10,16,17,18] [])]) (λb=>⟨[(0,.yl y),Iv 3 i,Cv 8 ps,Iv 9 (len ps),Iv 10 i,Cv 16 es,Iv 17 (len es),Iv 18 j,Bv 19 U,Bv 30 b],[Xb 6 x],[],B,more,y⟩) d o? ?_
 exact Le.of_eq o?
theorem aah(ps:Sl bS)(i:Int)(es:Sl WF)(j:Int)(e:WF)(B:S')(more:X')(y:Nat)(D:_r (j<len es)=U)(G:idx es j=M e)(d:(!(more|| !B.isEmpty))=U):
 rn S.bare qh M (.rc Jq) [] (I2 ps i es j ([enc (⟨i,w? N (j+1)⟩:bf),enc e]::B) more y)=M (.ret,⟨[(0,.yl y),Iv 3 i,Cv 8 ps,Iv 9 (len ps),Iv 10 i,Cv 16 es,Iv 17 (len es),Iv 18 j,Bv 19 U,Bv 30 U],[Xb 6 e],[],B,more,y⟩):=by
 refine Le.get ?_;refine Kt (n:=7) (fo':=.rc (.cond (.s 19) .skip (.exit 2))) (n?:=[.seq (.seq (.block 3 (.seq (.ops Er) (.seq (.ops B9) (.cond (.s 30) .ret .skip)))) (.ops Ae)),.gst (.keep [0,3,8,9,10,16,17,18] [])]) (λb=>S2 ps i es j b ([enc (⟨i,w? N (j+1)⟩:bf),enc e]::B) more y) D o? ?_
 refine U0 G ?_;refine VM 8 O [] (Er.drop 1) [.seq (.seq (.ops B9) (.cond (.s 30) .ret .skip)),.blk 3,.seq (.ops Ae),.gst (.keep [0,3,8,9,10,16,17,18] [])] ⟨[(0,.yl y),Iv 3 i,Cv 8 ps,Iv 9 (len ps),Iv 10 i,Cv 16 es,Iv 17 (len es),Iv 18 j,Bv 19 U,Iv 20 j],[],[],([enc (⟨i,w? N (j+1)⟩:bf),enc e]::B),more,y⟩ N Y o? λx a=>?_
 obtain rfl:x=e:=h?
 refine Aal 1 O [] (Er.drop 3) [.seq (.seq (.ops B9) (.cond (.s 30) .ret .skip)),.blk 3,.seq (.ops Ae),.gst (.keep [0,3,8,9,10,16,17,18] [])] ⟨[(0,.yl y),Iv 3 i,Cv 8 ps,Iv 9 (len ps),Iv 10 i,Cv 16 es,Iv 17 (len es),Iv 18 j,Bv 19 U,Iv 20 j,Cv 22 x],[],[],([enc (⟨i,w? N (j+1)⟩:bf),enc x]::B),more,y⟩ [iv 0,iv 0,iv 0,iv 0,.v .bN] Y (by simp only[bD,AO,tn,vg,tH,u5,wJ,uS,wu,tc,uY,Ba,wk,v7,wF,wM,zf,zh,uT,wI,SV.cM];rfl) o? ?_
 refine Ast 1 O [] (Er.drop 5) [.seq (.seq (.ops B9) (.cond (.s 30) .ret .skip)),.blk 3,.seq (.ops Ae),.gst (.keep [0,3,8,9,10,16,17,18] [])] ⟨[(0,.yl y),Iv 3 i,Cv 8 ps,Iv 9 (len ps),Iv 10 i,Cv 16 es,Iv 17 (len es),Iv 18 j,Bv 19 U,Cv 22 x,Pv 6,Iv 5 j],[Xb 6 (⟨0,0,0,0,.nil⟩:WF)],[],([enc (⟨i,w? N (j+1)⟩:bf),enc x]::B),more,y⟩ 6 0 x [iv 0,iv 0,iv 0,iv 0,.v .bN] ((cells x).map .v) Y o? ?_
 refine Kyl (n:=10) (q:=B9.drop 6) (n?:=[.seq (.cond (.s 30) .ret .skip),.blk 3,.seq (.ops Ae),.gst (.keep [0,3,8,9,10,16,17,18] [])]) (st:=⟨[(0,.yl y),Iv 3 i,Cv 8 ps,Iv 9 (len ps),Iv 10 i,Cv 16 es,Iv 17 (len es),Iv 18 j,Bv 19 U,(23,.yl y),Cv 27 (⟨i,w? N (j+1)⟩:bf),Cv 28 x],[Xb 6 x],[],([enc (⟨i,w? N (j+1)⟩:bf),enc x]::B),more,y⟩) (vs:=[cv (⟨i,w? N (j+1)⟩:bf),cv x]) o? Y o? o? Y Y ?_
 refine Kt (n:=3) (fo':=.rc (.cond (.s 30) .ret .skip)) (n?:=[.blk 3,.seq (.ops Ae),.gst (.keep [0,3,8,9,10,16,17,18] [])]) (λb=>⟨[(0,.yl y),Iv 3 i,Cv 8 ps,Iv 9 (len ps),Iv 10 i,Cv 16 es,Iv 17 (len es),Iv 18 j,Bv 19 U,Bv 30 b],[Xb 6 x],[],B,more,y⟩) d o? ?_
 exact Le.of_eq o?
abbrev S1(ps:Sl bS)(i:Int)(b:Bool)(B:aX (aX V))(more:Bool)(y:Nat):St:=⟨[(0,.yl y),Cv 8 ps,Iv 9 (len ps),Iv 10 i,Bv 11 b],[],[],B,more,y⟩
theorem acm(ps:Sl bS)(i:Int)(B:S')(more:X')(y:Nat)(D:_r (i<len ps)=O):
 rn S.bare qh M (.rc S9) [] (I1 ps i B more y)=M (.exit 0,S1 ps i O B more y):=by
 refine Le.get ?_;refine Kf (n:=7) (fo':=.rc (.cond (.s 11) .skip (.exit 0))) (n?:=[.seq (.seq (.block 1 (.seq (.ops O3) (.seq (.ops KJ) U2))) (.ops JP)),.gst (.keep [0,8,9,10] [])]) (λb=>S1 ps i b B more y) D o? ?_
 exact Le.of_eq o?
def X1:QQ:=[.blk 2,.blk 1,.seq (.ops JP),.gst (.keep [0,8,9,10] [])]
theorem Xf(ps:Sl bS)(i:Int)(p:bS)(B:S')(more:X')(y:Nat)(r:Out×St)(D:_r (i<len ps)=U)(G:idx ps i=M p)
 (h:rn S.bare qh M (.rc (.loop Jq)) X1 (I2 ps i p.b? 0 B more y)=M r):rn S.bare qh M (.rc S9) [] (I1 ps i B more y)=M r:=by
 refine Le.get ?_;refine Kt (n:=7) (fo':=.rc (.cond (.s 11) .skip (.exit 0))) (n?:=[.seq (.seq (.block 1 (.seq (.ops O3) (.seq (.ops KJ) U2))) (.ops JP)),.gst (.keep [0,8,9,10] [])]) (λb=>S1 ps i b B more y) D o? ?_
 refine U0 G ?_;refine VM 8 O [] (O3.drop 1) [.seq (.seq (.ops KJ) U2),.blk 1,.seq (.ops JP),.gst (.keep [0,8,9,10] [])] ⟨[(0,.yl y),Cv 8 ps,Iv 9 (len ps),Iv 10 i,Bv 11 U,Iv 12 i],[],[],B,more,y⟩ N Y o? λx a=>?_
 obtain rfl:x=p:=h?
 refine Aal 1 O [] (O3.drop 3) [.seq (.seq (.ops KJ) U2),.blk 1,.seq (.ops JP),.gst (.keep [0,8,9,10] [])] ⟨[(0,.yl y),Cv 8 ps,Iv 9 (len ps),Iv 10 i,Bv 11 U,Iv 12 i,Cv 14 x],[],[],B,more,y⟩ [.v (.str ByteArray.empty),.v .bN,.v .bN] Y (by simp only[bD,AO,tn,vg,tH,u5,wJ,uS,wu,tc,uY,Ba,wk,v7,wF,wM,zf,zh,uT,wI,SV.cM];rfl) o? ?_
 refine Ast 1 O [] (O3.drop 5) [.seq (.seq (.ops KJ) U2),.blk 1,.seq (.ops JP),.gst (.keep [0,8,9,10] [])] ⟨[(0,.yl y),Cv 8 ps,Iv 9 (len ps),Iv 10 i,Bv 11 U,Cv 14 x,Pv 4,Iv 3 i],[Xb 4 (⟨ByteArray.empty,.nil,.nil⟩:bS)],[],B,more,y⟩ 4 0 x [.v (.str ByteArray.empty),.v .bN,.v .bN] ((cells x).map .v) Y o? ?_
 refine abz 6 O [] (KJ.drop 2) [.seq U2,.blk 1,.seq (.ops JP),.gst (.keep [0,8,9,10] [])] ⟨[(0,.yl y),Cv 8 ps,Iv 9 (len ps),Iv 10 i,Bv 11 U,Pv 4,Iv 3 i,Cv 16 x.b?],[Xb 4 x],[],B,more,y⟩ x.b? Y o? ?_
 refine Bo (n:=5) (fo':=.rc (.loop Jq)) (n?:=X1) (e?:=I2 ps i x.b? 0 B more y) o? (Le.of_eq h)
theorem aab(ps:Sl bS)(i:Int)(es:Sl WF)(j:Int)(B:S')(more:X')(y:Nat):
 rn S.bare qh M (.ex 2) X1 (S2 ps i es j O B more y)=M (.norm,I1 ps (w? N (i+1)) B more y):=by kernel_rfl
theorem wrap_small(n:Nat)(h:n<9223372036854775807):w? N ((n:Int)+1)=((n+1:Nat):Int):=by simp[w?,IntKind.bits,l'];omega
abbrev eI(x:bf×Event):aX V:=[enc x.1,enc x.2]
theorem xX.step{x:So}{D i?:S'}{more:X'}(h:xX D (x::i?) more):∃B,D=x::B/\((!(more|| !B.isEmpty))=O/\xX B i? more\/(!(more|| !B.isEmpty))=U/\B=[]):=by rcases h with⟨rfl,rfl⟩|⟨rfl,u,r,a⟩;exact⟨i?,Y,.inl ⟨Y,.inl ⟨Y,Y⟩⟩⟩;cases D with|nil=>grind|cons w D=>simp only[n7,List.cons.injEq]at a;obtain⟨rfl,rfl⟩:=a;refine⟨D,Y,?_⟩;cases D with|nil=>grind|cons z C=>exact .inl ⟨Y,.inr ⟨Y,f?,r,Y⟩⟩
theorem wB{α:Type}{s:Sl α}{j:Nat}{x:α}{r:aX α}(h:s.l.drop j=x::r):idx s (j:Int)=M x/\_r ((j:Int)<len s)=U/\s.l.drop (j+1)=r:=by
 have a:j<W s.l:=by apply Classical.byContradiction;intro w;rw[List.drop_eq_nil_of_le c?]at h;cases h
 have u:=List.drop_eq_getElem_cons a;rw[u]at h;simp only[List.cons.injEq]at h;refine⟨?_,h?,h.2⟩;unfold idx;simp_all
variable{Q:Out×St->aY (Out×St)}{fs:QQ}
theorem inner(ps:Sl bS)(i:Int)(es:Sl WF)(d:W es.l<9223372036854775807)(more:X')(y:Nat)(R:S'):∀(a:aX WF)(j:Nat),es.l.drop j=a->∀D,xX D ((jU i j a).map eI++R) more->
 (∃(B:S')(T:Int),xX B R more/\rn S.bare qh Q (.rc (.loop Jq)) fs (I2 ps i es j D more y)=rn S.bare qh Q (.ex 2) fs (S2 ps i es T O B more y))\/
 (∃e?:St,e?.want=[]/\rn S.bare qh Q (.rc (.loop Jq)) fs (I2 ps i es j D more y)=Q (.ret,e?))
 |[],j,hd,D,G=>by have b:_r ((j:Int)<len es)=O:=(by simp_all);exact .inl ⟨D,j,by simpa[jU]using G,Jt (ab4 ps i es j D more y b)⟩|e::a,j,hd,D,G=>by have⟨b,z,C⟩:=wB hd;have g:j<W es.l:=h?;simp only[jU,J?,n7]at G;obtain⟨B,rfl,u⟩:=xX.step G;have I:=wrap_small j c?;have w:((j:Int)+1)=w? N ((j:Int)+1):=h?;rcases u with⟨u,L⟩|⟨u,rfl⟩;have k:=ade (S:=S) ps i es j e B more y z b u;rw[<-w]at k;have k2:=JO (Q:=Q) (fs:=fs) k;have m:=inner ps i es d more y R a (j+1) C B h?;rw[show((j+1:Nat):Int)=(j:Int)+1 from Y]at m;grind;have k:=aah (S:=S) ps i es j e [] more y z b u;rw[<-w]at k;exact .inr ⟨_,by rfl,Jb k⟩
theorem outer(ps:Sl bS)(g:W ps.l<9223372036854775807)(D:∀p∈ps.l,W p.b?.l<9223372036854775807)(more:X')(y:Nat):∀(a:aX bS)(i:Nat),ps.l.drop i=a->∀B,xX B ((gQ i a).map eI) more->
 rn S.bare qh Qi (.rc (.loop S9)) [.blk 0] (I1 ps i B more y)=M ()
 |[],i,hd,B,G=>by
  have b:_r ((i:Int)<len ps)=O:=by simp_all
  rw[Jt (acm ps i B more y b)];have:B=[]:=by
   rcases G with⟨_,rfl⟩|⟨_,L,r,c⟩;rfl;have:B=[]:=by cases B with
    |nil=>rfl|cons=>simp[gQ]at c
   grind
  subst this;rfl
 |p::a,i,hd,B,G=>by have⟨b,z,C⟩:=wB hd;have d:i<W ps.l:=h?;have I:p∈ps.l:=List.mem_of_mem_drop (i:=i) h?;simp only[gQ,List.map_append]at G;have u:=wrap_small i c?;rcases inner (S:=S) (Q:=M) (fs:=X1) ps i p.b? (D p I) more y _ p.b?.l 0 rfl B G with⟨w,j,g1,g2⟩|⟨e?,g1,g2⟩;rw[aab,u]at g2;rw[JO (Xf ps i p B more y _ z b g2)];exact outer ps g D more y a (i+1) C w g1;rw[Jb (Xf ps i p B more y _ z b g2)];simp[Qi,g1]
theorem all(t:Z4)(B:aX (bf×WF))(h:kN t=M B)(D:S')(more:X')(G:xX D (B.map eI) more)(y:Nat):
 rn S.bare qh Qi (.rc text.body) [] ⟨yf 0 (([]:So).map .v++.yl y::[V.fptr (cells t)].map .v),[],[],D,more,y⟩=M ():=by
 unfold kN at h;split at h
 .rename_i hk;cases h;simp only[ζh,List.all_eq_true,q_,_g]at hk;refine Le.get ?_;refine abz 4 O [] (Qa.drop 2) [.seq U1] ⟨[(0,.yl y),Cv 8 t.a?],[],[],D,more,y⟩ t.a? Y o? ?_
  refine Bo (n:=5) (fo':=.rc (.loop S9)) (n?:=[.blk 0]) (e?:=I1 t.a? 0 D more y) o? (Le.of_eq ?_)
  exact outer t.a? hk.1 hk.2 more y t.a?.l 0 rfl D G
 simp_all
end
theorem zj{α:Type}[bC α]{a b:Sl α}(h:ct a=ct b):rows a.l=rows b.l:=by cases a<;>cases b<;>first|rfl|(simp only[ct,Sl.k,lJ,V.fsl.injEq,true_and,reduceCtorEq]at h;done)|(simp only[ct,Sl.k,lJ,V.fsl.injEq,true_and,reduceCtorEq]at h;omega)
theorem zk(p:Int):∀(es B:aX WF)(j:Int),rows es=rows B->(jU p j es).map eI=(jU p j B).map eI
 |[],[],_,_=>rfl|[],_::_,_,h=>by simp[rows]at h|_::_,[],_,h=>by simp[rows]at h|e::es,D::B,j,h=>by simp only[rows,J?,List.cons.injEq]at h;have a:enc e=enc D:=(by show V.agg (cells e)=V.agg (cells D);rw[h.1]);simp only[jU,J?,eI,a,zk p es B (j+1) h.2]
theorem FM:∀(ps B:aX bS)(i:Int),rows ps=rows B->(gQ i ps).map eI=(gQ i B).map eI
 |[],[],_,_=>rfl|[],_::_,_,h=>by simp[rows]at h|_::_,[],_,h=>by simp[rows]at h|p::ps,p'::B,i,h=>by simp only[rows,J?,List.cons.injEq]at h;have a:ct p.b?=ct p'.b?:=(by have:=h.1;change[V.str p.name,ct p.g?,ct p.b?]=[V.str p'.name,ct p'.g?,ct p'.b?]at this;grind);simp only[gQ,List.map_append,zk i _ _ 0 (zj a),FM ps B (i+1) h.2]
def yI(f:Y')(g:Y')(a b:So)(xs:S'):Prop:=∃(t:Z4)(u:aX (bf×WF)),g=f/\a=[]/\b=[.fptr (cells t)]/\kN t=M u/\xs=u.map eI
theorem yI.uniq{f g:Y'}{a b:So}{xs ys:S'}(h:yI f g a b xs)(k:yI f g a b ys):xs=ys:=by
 obtain⟨t,C,rfl,rfl,rfl,c,rfl⟩:=h;obtain⟨w,z,_,_,B,u,rfl⟩:=k;simp only[List.cons.injEq,V.fptr.injEq,and_true]at B;have D:ct t.a?=ct w.a?:=by change[ct t.a?]=[ct w.a?]at B;grind
 unfold kN at c u;split at c<;>split at u<;>simp only[ζa,reduceCtorEq]at c u;subst c u;exact FM _ _ 0 (zj D)
end trace_events_c1
end Go.VE
namespace Go.VE
open Go.Proofs.YtegogepdjcdfcaaGreatDoor
noncomputable section
def Kn(f:Y'):aY G0:=bif beq f 49 then M (Au O)else bif beq f 146 then M (vC E)else bif beq f 143 then M (vH E)else J
def Sb:Sys:=⟨E,λn=>n,λ_ _ _=>J,AN E,Kn⟩
theorem K6:∀f q,Kn f=M q->oE E f q:=by intro f q h;unfold Kn at h;cases a:beq f 49 with|true=>rw[a]at h;cases h;have:=Nat.eq_of_beq_eq_true a;subst this;exact Zu O y_ o? o? (B6 o?)|false=>rw[a]at h;cases a:beq f 146 with|true=>rw[a]at h;cases h;have:=Nat.eq_of_beq_eq_true a;subst this;exact Uq y_ o? o? (B6 o?)|false=>rw[a]at h;cases a:beq f 143 with|true=>rw[a]at h;cases h;have:=Nat.eq_of_beq_eq_true a;subst this;exact VU o? o? o? o?|false=>rw[a]at h;cases h
def Tx:sP:=Vy E M (lk PW)
abbrev cB:cg:=dg Sb Tx
theorem abx:uf Sb Tx where
 fn f rf h:=let⟨u,a,w⟩:=Fh h;⟨u,M,a,y_,w⟩
 AQ f z y h:=JS h
 prm:=K6
theorem TJ:∀f a b xs,Sb.items f a b=M xs->fm Sb f a b xs:=λf a b xs h=>by cases h
end
end Go.VE
namespace Go.VE
noncomputable section
namespace IB
def dx(s0:Zg):aY Zg:=H (Sl.isNil s0) λu=>bg u (M Sl.nil) (H (oC (Sl.row []:Zg) s0) λw=>M w)
theorem eR:vG Sb cB 19 (λs0:Zg=>[enc s0]) (λz=>dx z):=vG.mk' (rC (Tx 19)) (λs0=>Mx 9 λu _=>bn 2 4 aZ (xY 7 5 7 λw _=>aZ))
namespace cE
def eH(k6:Int)(T:Sl WF)(g j:Int)(G:Sl Assign)(d:Int)(i:S')(B:Zg)(D:Int)(more:X'):aY (Fw ((Zg)×Int) Zg Empty):=bg (_r (D<d)) (H (idx G D) λu=>H (Sl.iA B u.var) λw=>H (Sl.put B w (u.value:Int)) λz=>M (.n (z,w? N (D+1)))) (M (.x B))
def W3(B:Zg)(k6:Int)(d:Sl WF)(D G:Int)(T:Sl Assign)(g W:Int)(Y:S')(more:X'):aY (Fw ((Zg)×Int×Int×(S')) S' S'):=(bG (λq:(Zg)×Int=>eH k6 d D G T g Y q.1 q.2 more) (B,W)).bind (Fw.elim (λe=>((dx e).bind Sl.whole).bind λw=>(yl Y more [.int N (w? N (k6+1)),enc w]).bind λu=>bg u.1 (M (.n (e,D,w? N (G+1),u.2))) (M (.r u.2))) (λe=>c! e))
def bF(D:Sl WF)(G:Zg)(d B:Int)(T:S')(more:X'):aY (Fw ((Zg)×Int×Int×(S')) S' S'):=bg (_r (B<d)) (H (idx D B) λu=>W3 G B D d B u.assign (len u.assign) 0 T more) (M (.x T))
def W2(B:Zg)(D:Sl WF)(G d:Int)(T:S')(more:X'):aY S':=H (bG (λq:(Zg)×Int×Int×(S')=>bF D q.1 q.2.1 q.2.2.1 q.2.2.2 more) (B,G,d,T)) (Fw.elim (λe=>M e) (λe=>M e))
def bh(T:bS)(G:Sl Var)(d:Int)(g:S')(B:Zg)(D:Int)(more:X'):aY (Fw ((Zg)×Int) Zg Empty):=bg (_r (D<d)) (H (idx G D) λu=>H (d_ B (u.init_:Int)) λw=>M (.n (w,w? N (D+1)))) (M (.x B))
def W1(B:bS)(D:Zg)(G:Sl Var)(d T:Int)(g:S')(more:X'):aY S':=(bG (λq:(Zg)×Int=>bh B G d g q.1 q.2 more) (D,T)).bind (Fw.elim (λe=>((dx e).bind Sl.whole).bind λw=>(yl g more [.int N 0,enc w]).bind λu=>bg u.1 (cE.W2 e B.b? (len B.b?) 0 u.2 more) (M u.2)) (λe=>c! e))
end cE
def cE(D:S')(B:bS)(more:X'):aY S':=cE.W1 B (Sl.nil:Zg) B.g? (len B.g?) 0 D more
open cE in
theorem A8(more:X')(y:Nat)(d:S')(B:bS):Le ((cE d B more).bind λr=>M r) (bV Sb cB Qw (.rc (tb Tx 183),[],⟨yf 0 (.yl y::[V.fptr (cells B)].map .v),[],[],d,more,y⟩)):=bL 10 B.g? (dW 6 (λC=>⟨[(0,.yl y),Kv 1 B,Ov 3,Cv 11 B.g?,Iv 12 (len B.g?),Iv 13 C.2],[Lb 2003 C.1],[],d,more,y⟩) (λD=>(0,⟨[(0,.yl y),Kv 1 B,Ov 3],[Lb 2003 D],[],d,more,y⟩)) (λC=>bn 8 14 (bB 7 λT _=>mB 10 2003 20 21 λg _=>aZ) aZ) (λD=>XO 7 25 eR D λL _=>Byl 1 [.int N 0,enc L] λS _=>ck 3 27 (bL 7 B.b? (dh 6 (λu=>⟨[(0,.yl y),Ov 3,Cv 29 B.b?,Iv 30 u.2.1,Iv 31 u.2.2.1],[Lb 2003 u.1],[],u.2.2.2,more,y⟩) (λw=>(2,⟨[],[],[],w,more,y⟩)) (λw=>⟨[],[],[],w,more,y⟩) (λu=>bn 8 32 (bB 8 λz _=>oN 3 7 0 z (bL 7 z.assign (dW 6 (λG=>⟨[(0,.yl y),Ov 3,Iv 6 u.2.2.1,Cv 29 B.b?,Iv 30 u.2.1,Iv 31 u.2.2.1,Cv 37 z.assign,Iv 38 (len z.assign),Iv 39 G.2],[Lb 2003 G.1],[],u.2.2.2,more,y⟩) (λI=>(4,⟨[(0,.yl y),Ov 3,Iv 6 u.2.2.1,Cv 29 B.b?,Iv 30 u.2.1,Iv 31 u.2.2.1],[Lb 2003 I],[],u.2.2.2,more,y⟩)) (λG=>bn 8 40 (bB 7 λi _=>jk N 11 2003 λW _=>zI 0 2003 (.int N i.value) λX _=>aZ) aZ) (λI=>XO 8 54 eR I λQ _=>Byl 1 [.int N (w? N (u.2.2.1+1)),enc Q] λY _=>ck 3 56 aZ aZ)))) aZ) (λw=>aZ) (λw=>aZ))) aZ))
end IB
end
end Go.VE
namespace Go.VE
open IB
def yV:aX Assign->Zg->aY Zg
 |[],s=>M s|a::r,s=>H (Sl.iA s a.var) λj=>H (Sl.put s j a.value) (yV r)
def yS:aX Var->Zg->aY Zg
 |[],s=>M s|v::r,s=>H (d_ s v.init_) (yS r)
def Rk(s:Zg):aY Zg:=H (dx s) Sl.whole
def yX:Int->aX WF->Zg->aY (aX (Int×Zg))
 |_,[],_=>M []|k,e::r,s=>H (yV e.assign.l s) λn=>H (Rk n) λc=>(yX (k+1) r n).map ((k+1,c)::·)
def kM(p:bS):aY (aX (Int×Zg)):=if q_ (W p.g?.l)&&(q_ (W p.b?.l)&&p.b?.l.all λe=>q_ (W e.assign.l))then(yS p.g?.l .nil).bind λs=>H (Rk s) λc=>(yX 0 p.b?.l s).map ((0,c)::·)else J
namespace IST
abbrev eI(x:Int×Sl Int):aX V:=[enc x.1,enc x.2]
theorem Fq{n:Nat}(h:q_ n=U):n<9223372036854775807:=by simpa[q_]using h
theorem wrap_small(n:Nat)(h:n<9223372036854775807):w? N ((n:Int)+1)=((n+1:Nat):Int):=by simp[w?,IntKind.bits,l'];omega
theorem wB{α:Type}{s:Sl α}{j:Nat}{x:α}{r:aX α}(h:s.l.drop j=x::r):idx s (j:Int)=M x/\_r ((j:Int)<len s)=U/\s.l.drop (j+1)=r:=by
 have a:j<W s.l:=by apply Classical.byContradiction;intro w;rw[List.drop_eq_nil_of_le c?]at h;cases h
 have u:=List.drop_eq_getElem_cons a;rw[u]at h;simp only[List.cons.injEq]at h;refine⟨?_,by simp[len,a],h.2⟩;unfold idx;rw[L' c?];simp[ζd a,h.1]
theorem KY{α:Type}{s:Sl α}{j:Nat}(h:s.l.drop j=[]):_r ((j:Int)<len s)=O:=by
 have:W s.l<=j:=by simpa using h
 simp[len];omega
theorem ini(p:bS)(v:Sl Var)(d:W v.l<9223372036854775807)(D:S')(more:X'):∀(a:aX Var)(j:Nat),v.l.drop j=a->∀s B,yS a s=M B->
 bG (λq:Zg×Int=>cE.bh p v (len v) D q.1 q.2 more) (s,(j:Int))=M (.x B)
 |[],j,hd,s,B,h=>by cases h;rw[eF];simp only[cE.bh,KY hd,bg,ζb,Bool.false_eq_true,_a]|x::a,j,hd,s,B,h=>by have⟨b,G,T⟩:=wB hd;have w:j<W v.l:=(by simpa[len]using G);simp only[yS,ζg]at h;have⟨n,u,h⟩:=h;rw[eF];simp only[cE.bh,b,G,u,bg,ζb,N',wrap_small j c?];exact ini p v d D more a (j+1) T n B h
theorem set(k:Int)(es:Sl WF)(a b:Int)(v:Sl Assign)(g:W v.l<9223372036854775807)(D:S')(more:X'):∀(c:aX Assign)(j:Nat),v.l.drop j=c->∀s B,yV c s=M B->
 bG (λq:Zg×Int=>cE.eH k es a b v (len v) D q.1 q.2 more) (s,(j:Int))=M (.x B)
 |[],j,hd,s,B,h=>by cases h;rw[eF];simp only[cE.eH,KY hd,bg,ζb,Bool.false_eq_true,_a]|x::c,j,hd,s,B,h=>by have⟨d,G,T⟩:=wB hd;have w:j<W v.l:=(by simpa[len]using G);simp only[yV,ζg]at h;have⟨i,e,n,u,h⟩:=h;rw[eF];simp only[cE.eH,d,G,e,u,bg,ζb,N',wrap_small j c?];exact set k es a b v g D more c (j+1) T n B h
theorem xX.step{x:So}{D i?:S'}{more:X'}(h:xX D (x::i?) more):∃B,yl D more x=M ((more|| !B.isEmpty),B)/\((more|| !B.isEmpty)=U/\xX B i? more\/(more|| !B.isEmpty)=O/\B=[]):=by rcases h with⟨rfl,rfl⟩|⟨rfl,u,r,a⟩;exact⟨i?,by simp[yl],.inl ⟨Y,.inl ⟨Y,Y⟩⟩⟩;cases D with|nil=>exact _e Y u|cons w D=>simp only[n7,List.cons.injEq]at a;obtain⟨rfl,rfl⟩:=a;refine⟨D,by simp[yl],?_⟩;cases D with|nil=>exact .inr ⟨rfl,rfl⟩|cons z C=>exact .inl ⟨Y,.inr ⟨Y,f?,r,Y⟩⟩
theorem f_(es:Sl WF)(m:es.l.length<9223372036854775807)(G:∀e∈es.l,e.assign.l.length<9223372036854775807)(more:X'):∀(a:aX WF)(j:Nat),es.l.drop j=a->∀s B,yX (j:Int) a s=M B->∀D,xX D (B.map eI) more->
 ∃g:S',g=[]/\(bG (λq:Zg×Int×Int×S'=>cE.bF es q.1 q.2.1 q.2.2.1 q.2.2.2 more) (s,len es,(j:Int),D)=M (.x g)\/bG (λq:Zg×Int×Int×S'=>cE.bF es q.1 q.2.1 q.2.2.1 q.2.2.2 more) (s,len es,(j:Int),D)=M (.r g))
 |[],j,hd,s,B,h,D,T=>by cases h;have:D=[]:=(by rcases T with⟨_,rfl⟩|⟨_,L,r,d⟩;rfl;cases D with|nil=>rfl|cons=>simp at d);subst this;refine⟨[],rfl,.inl ?_⟩;rw[eF];simp only[cE.bF,KY hd,bg,ζb,Bool.false_eq_true,_a]
 |e::a,j,hd,s,B,h,D,T=>by have⟨f,I,o⟩:=wB hd;have Z:j<es.l.length:=(by simpa[len]using I);have Q:e∈es.l:=List.mem_of_mem_drop (i:=j) (by rw[hd];exact List.mem_cons_self ..);simp only[yX,ζg,ζf]at h;obtain⟨n,L,c,b,r,d,rfl⟩:=h;have b:(dx n).bind Sl.whole=M c:=b;have⟨w,z,S⟩:=xX.step T;have C:=wrap_small j c?;have z:yl D more [.int N ((j+1:Nat):Int),enc c]=M ((more|| !w.isEmpty),w):=z;rw[eF];have u:=set j es (len es) j e.assign (G e Q) D more e.assign.l 0 rfl s n L;rw[show((0:Nat):Int)=0 from rfl]at u;rcases S with⟨g1,g2⟩|⟨g1,rfl⟩;have⟨W,X,Y⟩:=f_ es m G more a (j+1) o n r d w g2;refine⟨W,X,?_⟩;rw[g1]at z;simp only[cE.bF,cE.W3,f,I,u,b,z,bg,ζb,N',Fw.elim,C];exact Y;refine⟨[],rfl,.inr ?_⟩;rw[g1]at z;simp only[cE.bF,cE.W3,f,I,u,b,C,z,bg,ζb,N',_a,Bool.false_eq_true,Fw.elim]
theorem all(p:bS)(B:aX (Int×Zg))(h:kM p=M B)(D:S')(more:X')(G:xX D (B.map eI) more):cE D p more=M []:=by unfold kM at h;split at h;rename_i b;simp only[ζh,List.all_eq_true]at b;have⟨k1,k2,k3⟩:=b;simp only[ζg,ζf]at h;obtain⟨s,C,c,a,r,f,rfl⟩:=h;have a:(dx s).bind Sl.whole=M c:=a;have⟨u,w,I⟩:=xX.step G;have d:=ini p p.g? (Fq k1) D more p.g?.l 0 rfl .nil s C;rw[show((0:Nat):Int)=0 from rfl]at d;have w:yl D more [.int N 0,enc c]=M ((more|| !u.isEmpty),u):=w;unfold cE cE.W1;simp only[d,ζb,Fw.elim,a,w];rcases I with⟨g1,g2⟩|⟨g1,rfl⟩;obtain⟨L,rfl,z⟩:=f_ p.b? (Fq k2) (λe g=>Fq (k3 e g)) more p.b?.l 0 rfl s r f u g2;rw[show((0:Nat):Int)=0 from rfl]at z;rw[g1];simp only[bg,N',cE.W2];rcases z with q|q<;>(rw[q];rfl);rw[g1];rfl;cases h
theorem zj{α:Type}[bC α]{a b:Sl α}(h:ct a=ct b):rows a.l=rows b.l:=by cases a<;>cases b<;>first|rfl|(simp only[ct,Sl.k,lJ,V.fsl.injEq,true_and,reduceCtorEq]at h;done)|(simp only[ct,Sl.k,lJ,V.fsl.injEq,true_and,reduceCtorEq]at h;exact h)
theorem MC:∀(a b:aX Var),rows a=rows b->∀s,yS a s=yS b s
 |[],[],_,_=>rfl|[],_::_,h,_=>by simp[rows]at h|_::_,[],h,_=>by simp[rows]at h|x::a,y::b,h,s=>by simp only[rows,J?,List.cons.injEq]at h;have c:x.init_=y.init_:=(by have:=h.1;change[V.str x.name,V.int N x.init_]=[V.str y.name,V.int N y.init_]at this;simpa using(List.cons.inj (List.cons.inj this).2).1);simp only[yS,c,funext (MC a b h.2)]
theorem M_:∀(a b:aX Assign),rows a=rows b->∀s,yV a s=yV b s
 |[],[],_,_=>rfl|[],_::_,h,_=>by simp[rows]at h|_::_,[],h,_=>by simp[rows]at h|x::a,y::b,h,s=>by simp only[rows,J?,List.cons.injEq]at h;have c:=h.1;change[V.int N x.var,V.int N x.value]=[V.int N y.var,V.int N y.value]at c;simp only[List.cons.injEq,V.int.injEq,true_and,and_true]at c;simp only[yV,c.1,c.2,funext (M_ a b h.2)]
theorem Nc{x y:WF}(h:cells x=cells y):rows x.assign.l=rows y.assign.l:=by change[V.int N x.kind,V.int N x.k?,V.int N x.d?,V.int N x.time,ct x.assign]=[V.int N y.kind,V.int N y.k?,V.int N y.d?,V.int N y.time,ct y.assign]at h;simp only[List.cons.injEq]at h;exact zj h.2.2.2.2.1
theorem zk:∀(a b:aX WF),rows a=rows b->∀k s,yX k a s=yX k b s
 |[],[],_,_,_=>rfl|[],_::_,h,_,_=>by simp[rows]at h|_::_,[],h,_,_=>by simp[rows]at h|x::a,y::b,h,k,s=>by simp only[rows,J?,List.cons.injEq]at h;simp only[yX,M_ _ _ (Nc h.1),zk a b h.2]
theorem Fb{α:Type}[bC α]{a b:aX α}(h:rows a=rows b):a.length=b.length:=by have:=_f List.length h;simpa[rows]using this
theorem Ma:∀(a b:aX WF),rows a=rows b->(a.all λe=>q_ (W e.assign.l))=b.all λe=>q_ (W e.assign.l)
 |[],[],_=>rfl|[],_::_,h=>by simp[rows]at h|_::_,[],h=>by simp[rows]at h|x::a,y::b,h=>by simp only[rows,J?,List.cons.injEq]at h;simp only[o!,Fb (Nc h.1),Ma a b h.2]
def yI(f:Y')(g:Y')(a b:So)(xs:S'):Prop:=∃(p:bS)(u:aX (Int×Zg)),g=f/\a=[]/\b=[.fptr (cells p)]/\kM p=M u/\xs=u.map eI
theorem yI.uniq{f g:Y'}{a b:So}{xs ys:S'}(h:yI f g a b xs)(k:yI f g a b ys):xs=ys:=by obtain⟨p,C,rfl,rfl,rfl,c,rfl⟩:=h;obtain⟨w,z,_,_,u,B,rfl⟩:=k;simp only[List.cons.injEq,V.fptr.injEq,and_true]at u;change[V.str p.name,ct p.g?,ct p.b?]=[V.str w.name,ct w.g?,ct w.b?]at u;simp only[List.cons.injEq]at u;have r1:=zj u.2.1;have r2:=zj u.2.2.1;unfold kM at c B;rw[Fb r1,Fb r2,Ma _ _ r2,MC _ _ r1,funext (λs=>zk _ _ r2 0 s)]at c;have e:=c.symm.trans B;cases e;rfl
end IST
end Go.VE
namespace Go.VE
open Go.Proofs.YtegogepdjcdfcaaGreatDoor
noncomputable section
def Lh(f:Y')(a b:So)(xs:S'):Prop:=trace_events_c1.yI 108 f a b xs\/IST.yI 183 f a b xs
def Sy:Sys:=⟨E,λn=>n,AZ Lh,AN E,Kn⟩
abbrev cL:cg:=dg Sy Tx
theorem acy:Sy.prm 49=M (Au O):=by kernel_rfl
theorem Zy:Sy.prm 146=M (vC Sy.E):=by kernel_rfl
theorem ZX:Sy.prm 143=M (vH Sy.E):=by kernel_rfl
theorem abL:∃fi,E.ft 108=M fi/\Ao E M fi trace_events_c1.text:=abG o?
theorem QB:uf Sy Tx where
 fn f rf h:=let⟨u,a,w⟩:=Fh h;⟨u,M,a,y_,w⟩
 AQ f z y h:=JS h
 prm:=K6
theorem LP(p:bS)(B:aX (Int×Zg))(a:kM p=M B):fm Sy 183 [] [.fptr (cells p)] (B.map IST.eI):=by
 have w:Tx 183=M (rC (Tx 183)):=AW o?;have⟨G,z,C⟩:=Fh w;have e1:Nat.ble (W ([]:So)+1+[V.fptr (cells p)].length) (rC (Tx 183)).na=U:=by kernel_rfl
 have e2:(rC (Tx 183)).rs=[]:=by kernel_rfl
 have e3:Sy.E=Sb.E:=rfl;exact WI e3 K6 (Az abx TJ) TJ z y_ C (Nat.le_of_ble_eq_true e1) e2 λu more D y=>IB.A8 more y u p [] (by rw[IST.all p B a u more D];rfl)
theorem Ie:∀f a b xs,Sy.items f a b=M xs->fm Sy f a b xs:=by intro f a b xs h;have h:Lh f a b xs:=P7 h;rcases h with h|h;obtain⟨t,u,rfl,rfl,rfl,c,rfl⟩:=h;have⟨D,w,z⟩:=abL;exact VN Sy w y_ z (Nat.le_of_ble_eq_true Y) Y λB more C y=>trace_events_c1.all t u c B more C y;obtain⟨p,u,rfl,rfl,rfl,c,rfl⟩:=h;exact LP p u c
theorem Bx(t:Z4)(B:aX (bf×WF))(h:kN t=M B):Sy.items 108 [] [.fptr (cells t)]=M (B.map λx:bf×WF=>[enc x.1,enc x.2]):=GJ (.inl ⟨t,B,Y,Y,Y,h,Y⟩) (λu a=>by rcases a with a|a<;>first|exact a.uniq ⟨t,B,rfl,rfl,rfl,h,rfl⟩|(have⟨_,_,a,_⟩:=a;exact _e a (by decide)))
theorem IS(p:bS)(B:aX (Int×Zg))(h:kM p=M B):Sy.items 183 [] [.fptr (cells p)]=M (B.map λx:Int×Zg=>[enc x.1,enc x.2]):=GJ (.inr ⟨p,B,Y,Y,Y,h,Y⟩) (λu a=>by rcases a with a|a<;>first|exact a.uniq ⟨p,B,rfl,rfl,rfl,h,rfl⟩|(have⟨_,_,a,_⟩:=a;exact _e a (by decide)))
theorem Sf:Sy.AQ 4 []=M (.bool U):=IN (NW Y ⟨1,[],by kernel_rfl⟩)
end
end Go.VE
namespace Go.VE
noncomputable section
def zH:aY X':=M U
instance Zm:Fc Sy cL zH:=⟨4,[],λr:X'=>[.bool r],U,eP.AQ o? o? Sf⟩
namespace gV
def bh(s0:Sl WF)(D:Int)(B:Int)(p1:WF->aY X'):aY (Fw Int Unit Int):=bg (_r (B<D)) (H (idx s0 B) λu=>H (p1 u) λw=>bg w (M (.r B)) (M (.n (w? N (B+1))))) (M (.x ()))
def W1(s0:Sl WF)(B D:Int)(p1:WF->aY X'):PH:=H (bG (λq:Int=>bh s0 B q p1) D) (Fw.elim (λe=>M (-1)) (λe=>M e))
end gV
def gV(s0:Sl WF)(p1:WF->aY X'):PH:=gV.W1 s0 (len s0) 0 p1
open gV in
abbrev zx(g1:FuncId)(e1:aX V)(p1:Event->aY Bool)(a:mM Sy cL g1 [] e1 (λz:Event=>[enc z]) (λr:Bool=>[.bool r]) p1 U)(s0:Sl Event):Fc Sy cL (gV s0 p1):=Fc.M 66 [enc s0,.clo g1 [] e1] (bL 9 s0 (dh 5 (λw=>(bD [Cv 0 s0,(1,.v (.clo g1 [] e1)),Iv 7 (len s0),Iv 8 w] [])) (λu=>(0,(bD [] []))) (λu=>(bD [Iv 4 u] [])) (λw=>bn 7 9 (bB 16 λB _=>Aa 1 a.f B λC _=>bn 2 16 aZ aZ) aZ) (λu=>aZ) (λu=>aZ)))
def hG(s0:Sl WF)(p1:WF->aY X'):aY X':=H (gV s0 p1) λu=>M (_r (u>=0))
abbrev mQ(g1:FuncId)(e1:aX V)(p1:Event->aY Bool)(a:mM Sy cL g1 [] e1 (λz:Event=>[enc z]) (λr:Bool=>[.bool r]) p1 U)(s0:Sl Event):Fc Sy cL (hG s0 p1):=Fc.M 39 [enc s0,.clo g1 [] e1] (bp (F:=zx g1 e1 p1 a s0) 9 λu _=>aZ)
def rY(B:WF):aY X':=M (_r ((len B.assign)>12))
instance Uh(B:WF):Fc Sy cL (rY B):=Fc.M 40 [enc B] (bO 2 1 B (bL 7 B.assign aZ))
def ru(c0:Int):aY X':=H (bg (_r (c0>=65)) (M (_r (c0<=90))) (M O):aY X') λu=>(bg u (M U) (H (bg (_r (c0>=97)) (M (_r (c0<=122))) (M O):aY X') λw=>M w):aY X').bind λz=>M z
instance XL(c0:Int):Fc Sy cL (ru c0):=Fc.M 151 [.int .u8 c0] (bK 10 3 [5] 8 (bn 10 5 (br 3) (br 3)) λu=>bK 1 7 [0,9] 16 (bn 1 9 (br 7) (bK 3 3 [0,12] 15 (bn 3 12 (br 3) (br 3)) λw=>br 1)) λz=>aZ)
def vt(c0:Int):aY X':=H (bg (_r (c0>=48)) (M (_r (c0<=57))) (M O):aY X') λu=>M u
instance ZN(c0:Int):Fc Sy cL (vt c0):=Fc.M 152 [.int .u8 c0] (bK 10 3 [0,5] 8 (bn 10 5 (br 3) (br 3)) λu=>aZ)
namespace ja
def bh(s0:U')(i3:Int):aY (Fw Int Unit Unit):=bg (_r (i3<((ByteArray.size s0:Nat):Int))) (H (mK s0 i3) λz=>H (ru z) λB=>(bg B (M O) (H (mK s0 i3) λC=>H (vt C) λD=>M (!D)):aY X').bind λG=>(bg G (H (mK s0 i3) λu=>M (!(u==95))) (M O):aY X').bind λw=>bg w (M (.r ())) (M (.n (w? N (i3+1))))) (M (.x ()))
def W1(s0:U')(i3:Int):aY X':=H (bG (λq:Int=>bh s0 q) i3) (Fw.elim (λe=>M U) (λe=>M O))
end ja
def ja(s0:U'):aY X':=H (bg (_r (((ByteArray.size s0:Nat):Int)<1)) (M U) (M (_r (((ByteArray.size s0:Nat):Int)>16))):aY X') λu=>(bg u (M U) (H (mK s0 0) λw=>H (ru w) λz=>M (!z)):aY X').bind λB=>bg B (M O) (ja.W1 s0 1)
open ja in
instance aaq(s0:U'):Fc Sy cL (ja s0):=Fc.M 118 [.str s0] (bK 12 4 [7] 11 (bn 12 7 (br 4) (br 4)) λC=>bK 1 5 [12] 17 (bn 1 12 (br 5) (CT 1 N λD _=>bp 0 λG _=>br 2)) λI=>bn 2 17 aZ (dh 11 (λw=>(bD [(0,.v (.str s0)),Iv 3 w] [])) (λu=>(0,(bD [] []))) (λu=>(bD [Bv 2 O] [])) (λw=>bn 10 21 (CT 9 N λd _=>bp 0 λL _=>bK 2 6 [29] 35 (ck 2 29 (br 6) (CT 2 N λg _=>bp 0 λQ _=>br 2)) λS=>bK 1 5 [36] 41 (bn 1 36 (CT 2 N λz _=>br 2) (br 5)) λB=>bn 2 41 aZ aZ) aZ) (λu=>aZ) (λu=>aZ)))
def sO(B:Int):aY X':=H (bg (_r (B>=(-1073741824))) (M (_r (B<=1073741824))) (M O):aY X') λu=>M u
instance Yz(B:Int):Fc Sy cL (sO B):=Fc.M 119 [.int N B] (bK 10 3 [0,5] 8 (bn 10 5 (br 3) (br 3)) λu=>aZ)
namespace eO
def eH(G:Int)(B:bS)(D:Int):aY (Fw Int Unit Unit):=bg (_r (D<G)) (H (idx B.g? D) λu=>H (idx B.g? G) λw=>bg (E? u.name==E? w.name) (M (.r ())) (M (.n (w? N (D+1))))) (M (.x ()))
def W3(D G:Int)(B:bS):aY (Fw Int Unit Int):=H (bG (λq:Int=>eH D B q) G) (Fw.elim (λe=>H (idx B.g? D) λu=>H (sO u.init_) λw=>bg w (M (.n (w? N (D+1)))) (M (.r 2))) (λe=>M (.r 13)))
def bF(B:bS)(D:Int):aY (Fw Int Unit Int):=bg (_r (D<(len B.g?))) (H (idx B.g? D) λu=>H (ja u.name) λw=>bg w (W3 D 0 B) (M (.r 13))) (M (.x ()))
def W2(D:Int)(B:bS):PH:=H (bG (λq:Int=>bF B q) D) (Fw.elim (λe=>bg (_r ((len B.b?)>64)) (M 5) (M 0)) (λe=>M e))
def bh(p1:Int)(B:Z4)(D:bS)(G:Int):aY (Fw Int Unit Unit):=bg (_r (G<p1)) (H (idx B.a? G) λu=>bg (E? u.name==E? D.name) (M (.r ())) (M (.n (w? N (G+1))))) (M (.x ()))
def W1(p1 G:Int)(D:Z4)(B:bS):PH:=H (bG (λq:Int=>bh p1 D B q) G) (Fw.elim (λe=>bg (_r ((len B.g?)>8)) (M 5) (eO.W2 0 B)) (λe=>M 13))
end eO
def eO(B:Z4)(p1:Int):PH:=H (idx B.a? p1) λu=>H (ja u.name) λw=>bg w (eO.W1 p1 0 B u) (M 13)
open eO in
instance aax(d:Z4)(p1:Int):Fc Sy cL (eO d p1):=Fc.M 82 [enc d,.int N p1] (bO 2 2 d (bB 8 λu _=>oN 2 5 0 u (bp 7 λI _=>ck 3 17 (dh 11 (λD=>(bD [Iv 1 p1,Pv 2,Pv 5,Iv 6 D] [Xb 2 d,Xb 5 u])) (λB=>(0,(bD [Pv 5] [Xb 5 u]))) (λB=>(bD [Iv 4 13] [])) (λD=>bn 9 20 (bB 10 λL _=>bn 7 31 aZ aZ) aZ) (λB=>bL 7 u.g? (bn 3 35 aZ (dh 11 (λw=>(bD [Pv 5,Iv 7 w] [Xb 5 u])) (λz=>(2,(bD [Pv 5] [Xb 5 u]))) (λz=>(bD [Iv 4 z] [])) (λw=>bL 7 u.g? (bn 3 40 (bB 11 λi _=>bp 2 λQ _=>ck 3 50 (dh 11 (λG=>(bD [Pv 5,Iv 7 w,Iv 8 G] [Xb 5 u])) (λC=>(4,(bD [Pv 5,Iv 7 w] [Xb 5 u]))) (λC=>(bD [Iv 4 13] [])) (λG=>bn 9 53 (bB 10 λS _=>bB 5 λT _=>bn 5 68 aZ aZ) aZ) (λC=>bB 7 λg _=>bp 2 λj _=>ck 3 76 aZ aZ) (λC=>aZ)) aZ) aZ)) (λz=>bL 7 u.b? (bn 3 80 aZ aZ)) (λz=>aZ)))) (λB=>aZ)) aZ)))
namespace eS
def eH(p1 k8:Int)(d:Z4)(D:WF)(G:Assign)(B:Int):aY (Fw Int Unit Unit):=bg (_r (B<k8)) (H (idx D.assign B) λu=>bg (u.var==G.var) (M (.r ())) (M (.n (w? N (B+1))))) (M (.x ()))
def W3(p1 k8 B:Int)(D:Z4)(G:WF)(d:Assign):aY (Fw Int Unit Int):=H (bG (λq:Int=>eH p1 k8 D G d q) B) (Fw.elim (λe=>M (.n (w? N (k8+1)))) (λe=>M (.r 8)))
def bF(p1:Int)(D:Z4)(B:WF)(k8:Int):aY (Fw Int Unit Int):=bg (_r (k8<(len B.assign))) (H (idx B.assign k8) λu=>(bg (_r (u.var<0)) (M U) (H (idx D.a? p1) λw=>M (_r (u.var>=(len w.g?)))):aY X').bind λz=>(bg z (M U) (H (sO u.value) λC=>M (!C)):aY X').bind λG=>bg G (M (.r 2)) (W3 p1 k8 0 D B u)) (M (.x ()))
def W2(p1 k8:Int)(B:Z4)(D:WF):PH:=H (bG (λq:Int=>bF p1 B D q) k8) (Fw.elim (λe=>M 0) (λe=>M e))
def J1(p1 i2:Int)(D:Z4)(B:WF):PH:=(bg (_r (B.time<0)) (M U) (M (_r (B.time>1099511627776))):aY X').bind λu=>(bg u (M U) ((bg (_r (i2>0)) ((idx D.a? p1).bind λw=>(idx w.b? (w? N (i2-1))).bind λz=>M (_r (B.time<z.time))) (M O):aY X').bind λC=>M C):aY X').bind λG=>bg G (M 11) (bg (_r ((len B.assign)>8)) (M 5) (eS.W2 p1 0 D B))
theorem mX(p1 i2:Int)(D:Z4)(B:WF):Le ((J1 p1 i2 D B).bind (λr=>M [.int N r])) (bV Sy cL (pU (tr Tx 83)) (rQ (tb Tx 83) [1,1,1,0] [] (bD [Iv 1 p1,Iv 2 i2,Pv 3,Pv 7] [Xb 3 D,Xb 7 B]))):=bK 7 4 [71] 75 (bn 7 71 (br 4) (br 4)) λL=>bK 1 19 [2,76] 95 (bn 1 76 (br 19) (bK 3 15 [2,79] 94 (bn 3 79 (bB 5 λi _=>bB 4 λQ _=>br 4) (br 15)) λS=>br 1)) λT=>bn 2 95 aZ (bL 8 B.assign (bn 3 99 aZ (dh 11 (λu=>(bD [Iv 1 p1,Pv 3,Pv 7,Iv 8 u] [Xb 3 D,Xb 7 B])) (λw=>(0,(bD [] []))) (λw=>(bD [Iv 6 w] [])) (λu=>bL 7 B.assign (bn 3 104 (bB 10 λz _=>bK 12 11 [115] 126 (bn 12 115 (br 11) (bB 5 λI _=>bL 2 I.g? (br 2))) λg=>xu 1 5 [130] (λC=>(bD [Iv 1 p1,Pv 3,Pv 7,Iv 8 u,Bv 104 U,Pv 9,Bv 132 C] [Xb 3 D,Xb 7 B,Xb 9 z])) (bn 1 127 (br 5) (bY 2 λW _=>br 2)) λC=>bn 2 132 aZ (dh 10 (λd=>(bD [Iv 1 p1,Pv 3,Pv 7,Iv 8 u,Pv 9,Iv 10 d] [Xb 3 D,Xb 7 B,Xb 9 z])) (λG=>(2,(bD [Iv 1 p1,Pv 3,Pv 7,Iv 8 u] [Xb 3 D,Xb 7 B]))) (λG=>(bD [Iv 6 8] [])) (λd=>bn 9 135 (bB 10 λX _=>bn 7 146 aZ aZ) aZ) (λG=>aZ) (λG=>aZ))) aZ)) (λw=>aZ) (λw=>aZ))))
end eS
def eS(B:Z4)(p1 i2:Int):PH:=H (idx B.a? p1) λw=>H (idx w.b? i2) λu=>bg (u.kind==1) (H (bg (u.k?==0) (M (!(u.d?==0))) (M U):aY X') λz=>bg z (M 3) (eS.J1 p1 i2 B u)) (H (bg (u.kind==2) (M O) (M (!(u.kind==3))):aY X') λC=>H (bg C (M U) (M (_r (u.k?<0))):aY X') λD=>H (bg D (M U) (M (_r (u.k?>=(len B.a?)))):aY X') λG=>H (bg G (M U) (M (u.k?==p1)):aY X') λI=>H (bg I (M U) (M (_r (u.d?<0))):aY X') λd=>H (bg d (M U) (M (_r (u.d?>199))):aY X') λL=>bg L (M 3) (eS.J1 p1 i2 B u))
open eS in
instance aaW(B:Z4)(p1 i2:Int):Fc Sy cL (eS B p1 i2):=Fc.M 83 [enc B,.int N p1,.int N i2] (bO 2 3 B (bB 8 λw _=>bB 3 λu _=>oN 2 7 0 u (bn 10 22 (bK 7 4 [26] 30 (ck 7 26 (br 4) (br 4)) λz=>bn 2 30 aZ (nY 4 (mX p1 i2 B u))) (bK 7 4 [34] 38 (ck 7 34 (br 4) (br 4)) λC=>bK 1 4 [39] 43 (bn 1 39 (br 4) (br 4)) λD=>bK 1 7 [44] 51 (bn 1 44 (br 7) (bL 4 B.a? (br 2))) λG=>bK 1 5 [52] 57 (bn 1 52 (br 5) (br 5)) λI=>bK 1 4 [58] 62 (bn 1 58 (br 4) (br 4)) λd=>bK 1 4 [63] 67 (bn 1 63 (br 4) (br 4)) λL=>bn 2 67 aZ (nY 4 (mX p1 i2 B u))))))
def xD(D:Z4)(B:bf):aY WF:=H (idx D.a? B.proc) λu=>H (idx u.b? (w? N (B.index-1))) λw=>M w
instance acN(B:Z4)(D:bf):Fc Sy cL (xD B D):=Fc.N 120 [enc B,enc D] (bO 2 2 B (bB 10 λw _=>bB 5 λu _=>oN 1 4 0 u aZ))
namespace dJ
def bF(B G p7:Int)(D:Z4)(d:bf)(a:Int):aY (Fw Int Unit bf):=H (idx D.a? p7) λw=>bg (_r (a<(len w.b?))) (H (idx D.a? p7) λz=>H (idx z.b? a) λu=>H (bg (u.kind==B) (M (u.d?==G)) (M O):aY X') λC=>bg C (M (.r (⟨p7,w? N (a+1)⟩:bf))) (M (.n (w? N (a+1))))) (M (.x ()))
def W2(B d p7 a:Int)(D:Z4)(G:bf):aY (Fw Int Unit bf):=H (bG (λq:Int=>bF B d p7 D G q) a) (Fw.elim (λe=>M (.n (w? N (p7+1)))) (λe=>M (.r e)))
def bh(B d:Int)(D:Z4)(G:bf)(p7:Int):aY (Fw Int Unit bf):=bg (_r (p7<(len D.a?))) (W2 B d p7 0 D G) (M (.x ()))
def W1(B d p7:Int)(D:Z4)(G:bf):aY bf:=H (bG (λq:Int=>bh B d D G q) p7) (Fw.elim (λe=>M ⟨0,0⟩) (λe=>M e))
end dJ
def dJ(D:Z4)(B G:Int):aY bf:=dJ.W1 B G 0 D (⟨0,0⟩:bf)
open dJ in
instance aaw(D:Z4)(B G:Int):Fc Sy cL (dJ D B G):=Fc.M 54 [enc D,.int N B,.int N G] (bO 2 3 D (dh 11 (λu=>(bD [Iv 1 B,Iv 2 G,Pv 3,Pv 6,Iv 7 u] [Xb 3 D,Xb 6 (⟨0,0⟩:bf)])) (λw=>(0,(bD [Pv 6] [Xb 6 (⟨0,0⟩:bf)]))) (λw=>(bD [Pv 6] [Xb 6 w])) (λu=>bL 7 D.a? (bn 3 14 (dh 12 (λC=>(bD [Iv 1 B,Iv 2 G,Pv 3,Pv 6,Iv 7 u,Iv 8 C] [Xb 3 D,Xb 6 (⟨0,0⟩:bf)])) (λz=>(2,(bD [Iv 1 B,Iv 2 G,Pv 3,Pv 6,Iv 7 u] [Xb 3 D,Xb 6 (⟨0,0⟩:bf)]))) (λz=>(bD [Pv 6] [Xb 6 z])) (λC=>bB 8 λI _=>bL 2 I.b? (bn 3 25 (bB 10 λL _=>bB 3 λd _=>oN 2 9 0 d (bK 9 5 [9,41] 46 (bn 9 41 (br 5) (br 5)) λg=>bn 2 46 aZ aZ)) aZ)) (λz=>aZ) (λz=>aZ)) aZ)) (λw=>aZ) (λw=>aZ)))
namespace jN
def bh(G:Z4)(d:bf)(D:WF)(B:X')(T:Int):aY (Fw (X'×Int) Bool Empty):=H (idx G.a? D.k?) λw=>bg (_r (T<(len w.b?))) (H (idx G.a? D.k?) λz=>H (idx z.b? T) λu=>(bg B (M U) (H (bg (u.kind==2) (M (u.d?==D.d?)) (M O):aY X') λC=>H (bg C (M (u.k?==d.proc)) (M O):aY X') λI=>M I):aY X').bind λL=>M (.n (L,w? N (T+1)))) (M (.x B))
def W1(B:X')(T:Int)(D:Z4)(G:bf)(d:WF):PH:=H (bG (λq:X'×Int=>bh D G d q.1 q.2) (B,T)) (Fw.elim (λe=>bg e (M 0) (M 7)) (λe=>c! e))
end jN
def jN(B:Z4)(D:bf):PH:=H (xD B D) λu=>bg (u.kind==1) (M 0) (H (dJ B u.kind u.d?) λw=>bg (OD w D) (bg (u.kind==3) (jN.W1 O 0 B D u) (M 0)) (M 8))
open jN in
instance Xp(B:Z4)(D:bf):Fc Sy cL (jN B D):=Fc.M 84 [enc B,enc D] (bO 2 2 B (bp 8 λw _=>oN 1 5 0 w (bn 10 14 aZ (bY 11 λI _=>ck 4 22 (bn 11 25 (dW 14 (λu=>(bD [Pv 2,Pv 3,Pv 5,Bv 6 u.1,Iv 7 u.2] [Xb 2 B,Xb 3 D,Xb 5 w])) (λz=>(0,(bD [Bv 6 z] []))) (λu=>bB 9 λC _=>bL 2 C.b? (bn 3 35 (bB 11 λd _=>bB 3 λG _=>oN 2 8 0 G (bK 5 18 [8,49] 67 (bn 5 49 (br 18) (bK 4 6 [53] 59 (bn 4 53 (br 6) (br 6)) λL=>bK 1 6 [8,60] 66 (bn 1 60 (br 6) (br 6)) λg=>br 1)) λQ=>aZ)) aZ)) (λz=>ck 8 69 aZ aZ)) aZ) aZ))))
namespace eV
def J4(B:Zg)(p5:Int)(D:Z4):aY (Fw ((Zg)×X') ((Zg)×X') Empty):=H (Sl.iA B p5) λu=>H (Sl.get B u) λw=>H (Sl.iA B p5) λz=>H (Sl.put B z (w? N (w+1):Int)) λC=>M (.n (C,U))
def eH(p5:Int)(G:Z4)(B:Zg)(D:X'):aY (Fw ((Zg)×X') ((Zg)×X') Empty):=H (Sl.iA B p5) λI=>H (Sl.get B I) λd=>H (idx G.a? p5) λL=>bg (_r (d<(len L.b?))) (H (idx G.a? p5) λg=>H (Sl.iA B p5) λQ=>H (Sl.get B Q) λS=>H (idx g.b? S) λu=>bg (u.kind==3) (H (dJ G 2 u.d?) λw=>H (Sl.iA B w.proc) λz=>H (Sl.get B z) λC=>bg (_r (C<w.index)) (M (.x (B,D))) (J4 B p5 G)) (J4 B p5 G)) (M (.x (B,D)))
def W3(D:Zg)(B:X')(p5:Int)(G:Z4):aY (Fw ((Zg)×X'×Int) ((Zg)×X') Empty):=H (bG (λq:(Zg)×X'=>eH p5 G q.1 q.2) (D,B)) (Fw.elim (λe=>M (.n (e.1,e.2,w? N (p5+1)))) (λe=>c! e))
def bF(G:Z4)(D:Zg)(B:X')(p5:Int):aY (Fw ((Zg)×X'×Int) ((Zg)×X') Empty):=bg (_r (p5<(len G.a?))) (W3 D B p5 G) (M (.x (D,B)))
def W2(D:Zg)(B:X')(p5:Int)(G:Z4):aY (Fw Zg Zg Empty):=H (bG (λq:(Zg)×X'×Int=>bF G q.1 q.2.1 q.2.2) (D,B,p5)) (Fw.elim (λe=>bg e.2 (M (.n e.1)) (M (.x e.1))) (λe=>c! e))
def A7(B:Zg)(D:Z4)(G:Int):aY (Fw Int Unit Unit):=bg (_r (G<(len D.a?))) (H (Sl.iA B G) λu=>H (Sl.get B u) λw=>H (idx D.a? G) λz=>bg (_r (w<(len z.b?))) (M (.r ())) (M (.n (w? N (G+1))))) (M (.x ()))
def W5(B:Zg)(G:Int)(D:Z4):aY X':=H (bG (λq:Int=>A7 B D q) G) (Fw.elim (λe=>M U) (λe=>M O))
def bh(D:Z4)(B:Zg):aY (Fw Zg Zg Empty):=W2 B O 0 D
def W1(B:Zg)(D:Z4):aY X':=H (bG (λq:Zg=>bh D q) B) (Fw.elim (λe=>eV.W5 e 0 D) (λe=>c! e))
end eV
def eV(B:Z4):aY X':=H (nv (len B.a?) (0:Int)) λu=>eV.W1 u B
open eV in
instance UO(B:Z4):Fc Sy cL (eV B):=Fc.M 85 [enc B] (bO 2 1 B (bL 7 B.a? (Ox 0 12 λb _=>dW 7 (λm=>(bD [Pv 1,Ov 3] [Xb 1 B,Lb 2003 m])) (λD=>(0,(bD [Pv 1,Ov 3] [Xb 1 B,Lb 2003 D]))) (λm=>dW 17 (λw=>(bD [Pv 1,Ov 3,Bv 4 w.2.1,Iv 5 w.2.2] [Xb 1 B,Lb 2003 w.1])) (λG=>(2,(bD [Pv 1,Ov 3,Bv 4 G.2] [Xb 1 B,Lb 2003 G.1]))) (λw=>bL 8 B.a? (bn 3 17 (dW 8 (λI=>(bD [Pv 1,Ov 3,Bv 4 I.2,Iv 5 w.2.2] [Xb 1 B,Lb 2003 I.1])) (λi=>(4,(bD [Pv 1,Ov 3,Bv 4 i.2,Iv 5 w.2.2] [Xb 1 B,Lb 2003 i.1]))) (λI=>jk N 7 2003 λc _=>oR 0 2003 0 1 O (λQ=>.int N Q) λQ _=>bB 3 λZ _=>bL 2 Z.b? (bn 3 31 (bB 9 λd _=>jk N 4 2003 λe _=>oR 0 2003 0 1 O (λS=>.int N S) λS _=>bB 0 λa _=>oN 2 6 0 a (bn 10 46 (bp 6 λf _=>jk N 9 2003 λg _=>oR 0 2003 0 1 O (λz=>.int N z) λz _=>bn 5 58 aZ (qC 5 (jk N 4 2003 λT _=>oR 0 2003 0 1 O (λu=>.int N u) λu _=>jk N 1 2003 λj _=>zI 0 2003 (.int N (w? N (u+1))) λq _=>aZ))) (qC 5 (jk N 4 2003 λT _=>oR 0 2003 0 1 O (λu=>.int N u) λu _=>jk N 1 2003 λj _=>zI 0 2003 (.int N (w? N (u+1))) λq _=>aZ)))) aZ)) (λi=>aZ)) aZ)) (λG=>ck 8 66 aZ aZ)) (λD=>dh 11 (λX=>(bD [Pv 1,Ov 3,Iv 8 X] [Xb 1 B,Lb 2003 D])) (λL=>(6,(bD [] []))) (λL=>(bD [Bv 2 O] [])) (λX=>bL 8 B.a? (bn 3 71 (jk N 9 2003 λh _=>oR 0 2003 0 1 O (λC=>.int N C) λC _=>bB 3 λo _=>bL 2 o.b? (bn 3 85 aZ aZ)) aZ)) (λL=>aZ) (λL=>aZ)))))
namespace dL
def J1(B:Sl bf)(D:Z4)(G:bf):aY (Sl bf):=H (xD D G) λu=>bg (u.kind==3) (H (dJ D 2 u.d?) λw=>H (d_ B (w:bf)) λz=>M z) (M B)
end dL
def dL(D:Z4)(B:bf):aY (Sl bf):=bg (_r (B.index>1)) (dL.J1 (Sl.row [⟨B.proc,w? N (B.index-1)⟩]:Sl bf) D B) (dL.J1 (Sl.nil:Sl bf) D B)
open dL in
theorem vP(D:Z4)(B:bf):vG Sy cL 121 (λ_:Unit=>[enc D,enc B]) (λ_=>dL D B):=vG.mk' (rC (Tx 121)) (λ_=>bO 2 2 D (bn 17 9 (Xc 10 17 18 .bN (⟨B.proc,w? N (B.index-1)⟩:bf) (qC 5 (bp 4 λu _=>oN 1 6 0 u (bn 10 24 (bp 6 λw _=>mB 1 2005 30 31 λz _=>aZ) aZ)))) (qC 5 (bp 4 λu _=>oN 1 6 0 u (bn 10 24 (bp 6 λw _=>mB 1 2005 30 31 λz _=>aZ) aZ)))))
namespace gW
def eH(d:Sl (Sl X'))(B:Sl bf)(T:Z4)(D:Sl bf)(G:Int):aY (Fw ((Sl bf)×Int) (Sl bf) Empty):=bg (_r (G<(len B))) (H (Sl.iA B G) λu=>H (Sl.get B u) λw=>H (d_ D (w:bf)) λz=>M (.n (z,w? N (G+1)))) (M (.x D))
def W3(B:Sl (Sl X'))(D G:Sl bf)(d:Int)(T:Z4):aY (Fw ((Sl (Sl X'))×(Sl bf)) (Sl (Sl X')) Empty):=H (bG (λq:(Sl bf)×Int=>eH B G T q.1 q.2) (D,d)) (Fw.elim (λe=>M (.n (B,e))) (λe=>c! e))
def bF(G:Z4)(D:Sl (Sl X'))(B:Sl bf):aY (Fw ((Sl (Sl X'))×(Sl bf)) (Sl (Sl X')) Empty):=bg (_r ((len B)>0)) ((Sl.iA B 0).bind λg=>(Sl.get B g).bind λu=>(nH B (M 1) J).bind λI=>((idx D u.proc).bind Sl.whole).bind λC=>(Sl.iA C u.index).bind λd=>(Sl.get C d).bind λL=>(Sl.whole C).bind λw=>bg L (M (.n (qW D u.proc w,I))) (((idx (qW D u.proc w) u.proc).bind Sl.whole).bind λz=>(Sl.iA z u.index).bind λi=>(Sl.put z i (U:X')).bind λQ=>(Sl.whole Q).bind λS=>((dL G u).bind Sl.whole).bind λT=>W3 (qW (qW D u.proc w) u.proc S) I T 0 G)) (M (.x D))
def W2(D:Sl (Sl X'))(B:Sl bf)(G:Z4):aY (Sl (Sl X')):=H (bG (λq:(Sl (Sl X'))×(Sl bf)=>bF G q.1 q.2) (D,B)) (Fw.elim (λe=>M e) (λe=>c! e))
def bh(D:Z4)(G:bf)(B:Sl (Sl X'))(p6:Int):aY (Fw ((Sl (Sl X'))×Int) (Sl (Sl X')) Empty):=bg (_r (p6<(len D.a?))) (H (idx D.a? p6) λu=>H (nv (w? N ((len u.b?)+1)) (O:X')) λw=>H (Sl.whole w) λz=>H (d_ B (z:Sl X')) λC=>M (.n (C,w? N (p6+1)))) (M (.x B))
def W1(D:Sl (Sl X'))(p6:Int)(B:Z4)(G:bf):aY (Sl (Sl X')):=(bG (λq:(Sl (Sl X'))×Int=>bh B G q.1 q.2) (D,p6)).bind (Fw.elim (λe=>((dL B G).bind Sl.whole).bind λu=>gW.W2 e u B) (λe=>c! e))
end gW
def gW(B:Z4)(D:bf):aY (Sl (Sl X')):=gW.W1 (Sl.nil:Sl (Sl X')) 0 B D
open gW in
instance aaF(B:Z4)(T:bf):Fc Sy cL (gW B T):=Fc.N 86 [enc B,enc T] (bO 2 2 B (dW 19 (λL=>(bD [Pv 2,Pv 3,Ov 5,Iv 6 L.2] [Xb 2 B,Xb 3 T,(2005,Bb L.1)])) (λS=>(0,(bD [Pv 2,Pv 3,Ov 5] [Xb 2 B,Xb 3 T,(2005,Bb S)]))) (λL=>bL 9 B.a? (bn 3 15 (bB 10 λX _=>bL 2 X.b? (Ox 1 27 λa _=>aeC (α:=X') 0 28 27 (Rj 0 28 27 acp λb _=>adq 0 2005 28 29 λc _=>aZ))) aZ)) (λS=>Bz 6 32 (vP B T) () λY _=>dW 9 (λw=>(bD [Pv 2,Ov 5,Ov 7] [Xb 2 B,(2005,Bb w.1),Lb 2007 w.2])) (λo=>(2,(bD [Ov 5] [(2005,Bb o)]))) (λw=>Ak 8 2007 w.2 (bn 3 35 (jk N 7 2007 λd _=>oR 0 2007 0 2 U (λu=>.agg [.int N u.proc,.int N u.index]) λu _=>Xi 7 U O 2007 40 [.int N 1] λe _=>Tk 5 2005 6041 (.c 8 0) λf q=>abC 5 2005 6041 N q (aa_ 0 2005 6041 q (jk N 2 6041 λZ _=>oR 0 6041 0 1 O (λD=>.bool D) λD _=>Rj 1 2005 6041 q λG _=>bn 1 49 aZ (Tk 4 2005 6050 (.c 8 0) λg z=>abC 5 2005 6050 N z (aa_ 0 2005 6050 z (jk N 2 6050 λh _=>zI 0 6050 (.bool U) λi _=>Rj 1 2005 6050 z λI _=>Bz 5 60 (vP B u) () λm _=>dW 14 (λQ=>(bD [Pv 2,Ov 5,Ov 7,Ov 9,Iv 10 Q.2] [Xb 2 B,(2005,Bb (qW (qW w.1 u.proc G) u.proc I)),Lb 2007 Q.1,Lb 2009 m])) (λW=>(4,(bD [Pv 2,Ov 5,Ov 7] [Xb 2 B,(2005,Bb (qW (qW w.1 u.proc G) u.proc I)),Lb 2007 W]))) (λQ=>Ak 10 2009 m (bn 3 64 (jk N 9 2009 λj _=>oR 0 2009 0 2 U (λC=>.agg [.int N C.proc,.int N C.index]) λC _=>mB 1 2007 72 73 λk _=>aZ) aZ)) (λW=>aZ))))))) aZ)) (λo=>aZ))))
namespace dn
def eH(p6:Int)(B:Z4)(G:bf)(D:Int):aY (Fw Int Unit (Int×bf)):=H (idx B.a? p6) λw=>bg (_r (D<(len w.b?))) (H (eS B p6 D) λu=>bg (u==0) (M (.n (w? N (D+1)))) (M (.r (u,(⟨p6,w? N (D+1)⟩:bf))))) (M (.x ()))
def W3(p6 G:Int)(B:Z4)(D:bf):aY (Fw Int Unit (Int×bf)):=H (bG (λq:Int=>eH p6 B D q) G) (Fw.elim (λe=>M (.n (w? N (p6+1)))) (λe=>M (.r (e.1,e.2))))
def A7(G:Int)(D:Z4)(d:bf)(B:Int):aY (Fw Int Unit (Int×bf)):=H (idx D.a? G) λw=>bg (_r (B<(len w.b?))) (H (jN D (⟨G,w? N (B+1)⟩:bf)) λu=>bg (u==0) (M (.n (w? N (B+1)))) (M (.r (u,(⟨G,w? N (B+1)⟩:bf))))) (M (.x ()))
def W5(d B:Int)(D:Z4)(G:bf):aY (Fw Int Unit (Int×bf)):=H (bG (λq:Int=>A7 d D G q) B) (Fw.elim (λe=>M (.n (w? N (d+1)))) (λe=>M (.r (e.1,e.2))))
def OH(D:Int)(G:Z4)(d:bf)(B:Int):aY (Fw Int Unit bf):=H (idx G.a? D) λw=>bg (_r (B<(len w.b?))) (H (gW G (⟨D,w? N (B+1)⟩:bf)) λz=>H (idx z D) λC=>H (idx C (w? N (B+1))) λu=>bg u (M (.r (⟨D,w? N (B+1)⟩:bf))) (M (.n (w? N (B+1))))) (M (.x ()))
def W7(B D:Int)(G:Z4)(d:bf):aY (Fw Int Unit bf):=H (bG (λq:Int=>OH B G d q) D) (Fw.elim (λe=>M (.n (w? N (B+1)))) (λe=>M (.r e)))
def O4(B:Z4)(G:bf)(D:Int):aY (Fw Int Unit bf):=bg (_r (D<(len B.a?))) (W7 D 0 B G) (M (.x ()))
def W6(B:Int)(D:Z4)(G:bf):aY (bf×Int):=H (bG (λq:Int=>O4 D G q) B) (Fw.elim (λe=>M (⟨0,0⟩,0)) (λe=>M (e,10)))
def Od(B:Z4)(D:bf)(G:Int):aY (Fw Int Unit (Int×bf)):=bg (_r (G<(len B.a?))) (W5 G 0 B D) (M (.x ()))
def W4(G:Int)(B:Z4)(D:bf):aY (bf×Int):=H (bG (λq:Int=>Od B D q) G) (Fw.elim (λe=>H (eV B) λu=>bg u (M (⟨0,0⟩,0)) (dn.W6 0 B D)) (λe=>M (e.2,e.1)))
def bF(B:Z4)(D:bf)(p6:Int):aY (Fw Int Unit (Int×bf)):=bg (_r (p6<(len B.a?))) (W3 p6 0 B D) (M (.x ()))
def W2(p6:Int)(B:Z4)(D:bf):aY (bf×Int):=H (bG (λq:Int=>bF B D q) p6) (Fw.elim (λe=>dn.W4 0 B D) (λe=>M (e.2,e.1)))
def bh(B:Z4)(D:bf)(p4:Int):aY (Fw Int Unit (Int×bf)):=bg (_r (p4<(len B.a?))) (H (eO B p4) λu=>bg (u==0) (M (.n (w? N (p4+1)))) (M (.r (u,(⟨p4,0⟩:bf))))) (M (.x ()))
def W1(p4:Int)(B:Z4)(D:bf):aY (bf×Int):=H (bG (λq:Int=>bh B D q) p4) (Fw.elim (λe=>dn.W2 0 B D) (λe=>M (e.2,e.1)))
end dn
def dn(B:Z4):aY (bf×Int):=H (bg (_r ((len B.a?)<1)) (M U) (M (_r ((len B.a?)>8))):aY X') λu=>bg u (M (⟨0,0⟩,1)) (dn.W1 0 B (⟨0,0⟩:bf))
open dn in
instance Zp(B:Z4):Fc Sy cL (dn B):=Fc.M 55 [enc B] (bO 2 1 B (bL 9 B.a? (bK 2 5 [20] 25 (bn 2 20 (br 5) (bL 2 B.a? (br 2))) λa=>bn 2 25 aZ (dh 11 (λQ=>(bD [Pv 1,Pv 2,Iv 4 Q] [Xb 1 B,Xb 2 (⟨0,0⟩:bf)])) (λu=>(0,(bD [Pv 1,Pv 2] [Xb 1 B,Xb 2 (⟨0,0⟩:bf)]))) (λu=>(bD [Pv 2,Iv 3 u.1] [Xb 2 u.2])) (λQ=>bL 7 B.a? (bn 3 31 (bp 9 λb _=>ck 9 38 aZ aZ) aZ)) (λu=>dh 10 (λG=>(bD [Pv 1,Pv 2,Iv 6 G] [Xb 1 B,Xb 2 (⟨0,0⟩:bf)])) (λw=>(2,(bD [Pv 1,Pv 2] [Xb 1 B,Xb 2 (⟨0,0⟩:bf)]))) (λw=>(bD [Pv 2,Iv 3 w.1] [Xb 2 w.2])) (λG=>bL 7 B.a? (bn 3 46 (dh 12 (λS=>(bD [Pv 1,Pv 2,Iv 6 G,Iv 7 S] [Xb 1 B,Xb 2 (⟨0,0⟩:bf)])) (λz=>(4,(bD [Pv 1,Pv 2,Iv 6 G] [Xb 1 B,Xb 2 (⟨0,0⟩:bf)]))) (λz=>(bD [Pv 2,Iv 3 z.1] [Xb 2 z.2])) (λS=>bB 8 λq _=>bL 2 q.b? (bn 3 57 (bp 10 λc _=>ck 9 65 aZ aZ) aZ)) (λz=>aZ) (λz=>aZ)) aZ)) (λw=>dh 10 (λI=>(bD [Pv 1,Pv 2,Iv 9 I] [Xb 1 B,Xb 2 (⟨0,0⟩:bf)])) (λC=>(6,(bD [Pv 1,Pv 2] [Xb 1 B,Xb 2 (⟨0,0⟩:bf)]))) (λC=>(bD [Pv 2,Iv 3 C.1] [Xb 2 C.2])) (λI=>bL 7 B.a? (bn 3 75 (dh 12 (λT=>(bD [Pv 1,Pv 2,Iv 9 I,Iv 10 T] [Xb 1 B,Xb 2 (⟨0,0⟩:bf)])) (λD=>(8,(bD [Pv 1,Pv 2,Iv 9 I] [Xb 1 B,Xb 2 (⟨0,0⟩:bf)]))) (λD=>(bD [Pv 2,Iv 3 D.1] [Xb 2 D.2])) (λT=>bB 8 λX _=>bL 2 X.b? (bn 3 86 (bp 19 λd _=>ck 9 97 aZ aZ) aZ)) (λD=>aZ) (λD=>aZ)) aZ)) (λC=>bp 6 λZ _=>bn 2 101 aZ (dh 11 (λi=>(bD [Pv 1,Pv 2,Iv 13 i] [Xb 1 B,Xb 2 (⟨0,0⟩:bf)])) (λL=>(10,(bD [Pv 2] [Xb 2 (⟨0,0⟩:bf)]))) (λL=>(bD [Pv 2,Iv 3 10] [Xb 2 L])) (λi=>bL 7 B.a? (bn 3 107 (dh 12 (λj=>(bD [Pv 1,Pv 2,Iv 13 i,Iv 14 j] [Xb 1 B,Xb 2 (⟨0,0⟩:bf)])) (λm=>(12,(bD [Pv 1,Pv 2,Iv 13 i] [Xb 1 B,Xb 2 (⟨0,0⟩:bf)]))) (λm=>(bD [Pv 2,Iv 3 10] [Xb 2 m])) (λj=>bB 8 λo _=>bL 2 o.b? (bn 3 118 (bp 19 λe _=>bB 1 λf _=>bB 3 λg _=>bn 3 134 aZ aZ) aZ)) (λm=>aZ) (λm=>aZ)) aZ)) (λL=>aZ) (λL=>aZ))) (λC=>aZ)) (λw=>aZ)) (λu=>aZ)))))
def qt(B:Z4):aY X':=H (dn B) λu=>M (u.2==0)
instance Zv(B:Z4):Fc Sy cL (qt B):=Fc.M 29 [enc B] (bO 2 1 B (bp 6 λu _=>aZ))
def si(B:WF):aY X':=M (B.kind==3)
instance Uf(B:WF):Fc Sy cL (si B):=Fc.M 41 [enc B] (bO 2 1 B aZ)
def tQ(c0:Zg)(p1:Int):aY Zg:=H (oC (Sl.row []:Zg) c0) λu=>H (Sl.iA u p1) λw=>H (Sl.get u w) λz=>H (Sl.iA u p1) λB=>H (Sl.put u B (w? N (z+1):Int)) λC=>M C
instance aaC(c0:Zg)(p1:Int):Fc Sy cL (tQ c0 p1):=Fc.N 87 [enc c0,.int N p1] (xY 9 6 8 λw _=>jk N 9 8 λz _=>oR 0 8 0 1 O (λu=>.int N u) λu _=>jk N 1 8 λB _=>zI 0 8 (.int N (w? N (u+1))) λC _=>aZ)
namespace nZ
def bh(B:Zg)(D:Z4)(p5:Int):aY (Fw Int Unit Unit):=bg (_r (p5<(len B))) (H (idx B p5) λu=>(bg (_r (u<0)) (M U) (H (idx B p5) λw=>H (idx D.a? p5) λz=>M (_r (w>(len z.b?)))):aY X').bind λC=>bg C (M (.r ())) (M (.n (w? N (p5+1))))) (M (.x ()))
def W1(B:Zg)(p5:Int)(D:Z4):aY X':=H (bG (λq:Int=>bh B D q) p5) (Fw.elim (λe=>M U) (λe=>M O))
end nZ
def nZ(D:Z4)(B:Zg):aY X':=bg ((len B)==(len D.a?)) (nZ.W1 B 0 D) (M O)
open nZ in
instance abf(D:Z4)(B:Zg):Fc Sy cL (nZ D B):=Fc.M 58 [enc D,enc B] (bO 2 2 D (bL 7 B (bL 2 D.a? (ck 3 11 (dh 11 (λw=>(bD [Cv 1 B,Pv 2,Iv 5 w] [Xb 2 D])) (λu=>(0,(bD [] []))) (λu=>(bD [Bv 4 O] [])) (λw=>bL 6 B (bn 3 15 (bB 9 λC _=>bK 3 13 [23] 36 (bn 3 23 (br 13) (bB 2 λG _=>bB 4 λz _=>bL 2 z.b? (br 2))) λI=>bn 2 36 aZ aZ) aZ)) (λu=>aZ) (λu=>aZ)) aZ))))
namespace en
def bF(B:Zg)(p5:Int)(D:Z4)(G:Int):aY (Fw Int Unit Unit):=H (idx B p5) λz=>bg (_r (G<z)) (H (idx D.a? p5) λC=>H (idx C.b? G) λu=>bg (u.kind==3) (H (dJ D 2 u.d?) λw=>H (idx B w.proc) λI=>bg (_r (w.index>I)) (M (.r ())) (M (.n (w? N (G+1))))) (M (.n (w? N (G+1))))) (M (.x ()))
def W2(B:Zg)(p5 G:Int)(D:Z4):aY (Fw Int Unit Unit):=H (bG (λq:Int=>bF B p5 D q) G) (Fw.elim (λe=>M (.n (w? N (p5+1)))) (λe=>M (.r ())))
def bh(B:Zg)(D:Z4)(p5:Int):aY (Fw Int Unit Unit):=bg (_r (p5<(len B))) (W2 B p5 0 D) (M (.x ()))
def W1(B:Zg)(p5:Int)(D:Z4):aY X':=H (bG (λq:Int=>bh B D q) p5) (Fw.elim (λe=>M U) (λe=>M O))
end en
def en(D:Z4)(B:Zg):aY X':=en.W1 B 0 D
open en in
instance Ru(D:Z4)(B:Zg):Fc Sy cL (en D B):=Fc.M 59 [enc D,enc B] (bO 2 2 D (dh 11 (λu=>(bD [Cv 1 B,Pv 2,Iv 5 u] [Xb 2 D])) (λw=>(0,(bD [] []))) (λw=>(bD [Bv 4 O] [])) (λu=>bL 6 B (bn 3 12 (dh 12 (λC=>(bD [Cv 1 B,Pv 2,Iv 5 u,Iv 6 C] [Xb 2 D])) (λz=>(2,(bD [Cv 1 B,Pv 2,Iv 5 u] [Xb 2 D]))) (λz=>(bD [Bv 4 O] [])) (λC=>bB 7 λI _=>bn 4 20 (bB 10 λd _=>bB 3 λG _=>oN 2 7 0 G (bn 9 34 (bp 6 λL _=>bB 11 λg _=>bn 4 46 aZ aZ) aZ)) aZ) (λz=>aZ) (λz=>aZ)) aZ)) (λw=>aZ) (λw=>aZ)))
def pO(B:Z4)(D:Zg):aY X':=H (nZ B D) λu=>(bg u (H (en B D) λw=>M w) (M O):aY X').bind λz=>M z
instance acJ(B:Z4)(D:Zg):Fc Sy cL (pO B D):=Fc.M 31 [enc B,enc D] (bO 2 2 B (bp 7 λu _=>bK 1 4 [1,2,8] 12 (bn 1 8 (bp 2 λw _=>br 1) (br 4)) λz=>aZ))
namespace kL
def bh(G:Zg)(D:Z4)(B:Zb)(p6:Int):aY (Fw ((Zb)×Int) Zb Empty):=bg (_r (p6<(len G))) (H (idx G p6) λu=>H (idx D.a? p6) λw=>(bg (_r (u<(len w.b?))) (H (tQ G p6) λz=>H (pO D z) λC=>M C) (M O):aY X').bind λI=>bg I (H (tQ G p6) λd=>H (d_ B (d:Zg)) λL=>M (.n (L,w? N (p6+1)))) (M (.n (B,w? N (p6+1))))) (M (.x B))
def W1(G:Zg)(B:Zb)(p6:Int)(D:Z4):aY Zb:=H (bG (λq:(Zb)×Int=>bh G D q.1 q.2) (B,p6)) (Fw.elim (λe=>M e) (λe=>c! e))
end kL
def kL(B:Z4)(D:Zg):aY Zb:=kL.W1 D (Sl.nil:Zb) 0 B
open kL in
instance aaM(B:Z4)(D:Zg):Fc Sy cL (kL B D):=Fc.N 56 [enc B,enc D] (bO 2 2 B (dW 17 (λu=>(bD [Cv 1 D,Pv 2,Ov 5,Iv 6 u.2] [Xb 2 B,Lb 2005 u.1])) (λw=>(0,(bD [Ov 5] [Lb 2005 w]))) (λu=>bL 7 D (bn 3 10 (bB 9 λI _=>bB 4 λC _=>bL 2 C.b? (xu 2 6 [30,29] (λz=>(bD [Cv 1 D,Pv 2,Ov 5,Iv 6 u.2,Bv 10 U,Bv 31 z] [Xb 2 B,Lb 2005 u.1])) (bn 2 25 (bp 3 λd _=>bY 0 λL _=>br 1) (br 6)) λz=>bn 2 31 (bp 5 λG _=>vD 0 36 ([G]:aX Zg) (mB 0 2005 36 37 λg _=>aZ)) aZ)) aZ)) (λw=>aZ)))
namespace iO
def bh(c0:Zg)(B i4:Int):aY (Fw (Int×Int) Int Empty):=bg (_r (i4<(len c0))) (H (idx c0 i4) λu=>M (.n (w? N (B+u),w? N (i4+1)))) (M (.x B))
def W1(c0:Zg)(B i4:Int):PH:=H (bG (λq:Int×Int=>bh c0 q.1 q.2) (B,i4)) (Fw.elim (λe=>M e) (λe=>c! e))
end iO
def iO(c0:Zg):PH:=iO.W1 c0 0 0
open iO in
instance aas(c0:Zg):Fc Sy cL (iO c0):=Fc.M 122 [enc c0] (dW 18 (λu=>(bD [Cv 0 c0,Iv 3 u.1,Iv 4 u.2] [])) (λw=>(0,(bD [Iv 3 w] []))) (λu=>bL 6 c0 (bn 3 8 (bB 9 λz _=>aZ) aZ)) (λw=>aZ))
namespace iX
def bh(a0 D:Zg)(B:Int):aY (Fw Int Unit X'):=bg (_r (B<(len a0))) (H (idx a0 B) λu=>H (idx D B) λw=>bg (u==w) (M (.n (w? N (B+1)))) (H (idx a0 B) λz=>H (idx D B) λC=>M (.r (_r (z<C))))) (M (.x ()))
def W1(a0 B:Zg)(D:Int):aY X':=H (bG (λq:Int=>bh a0 B q) D) (Fw.elim (λe=>M O) (λe=>M e))
end iX
def iX(a0 B:Zg):aY X':=H (iO a0) λu=>H (iO B) λw=>bg (u==w) (iX.W1 a0 B 0) (H (iO a0) λz=>H (iO B) λC=>M (_r (z<C)))
open iX in
instance XC(a0 B:Zg):Fc Sy cL (iX a0 B):=Fc.M 88 [enc a0,enc B] (bp 9 λz _=>bp 1 λC _=>ck 3 10 (dh 11 (λw=>(bD [Cv 0 a0,Cv 1 B,Iv 5 w] [])) (λu=>(0,(bD [] []))) (λu=>(bD [Bv 4 u] [])) (λw=>bL 6 a0 (bn 3 19 (bB 9 λD _=>bB 3 λG _=>ck 4 30 aZ (bB 5 λI _=>bB 3 λd _=>aZ)) aZ)) (λu=>aZ) (λu=>aZ)) (bp 4 λL _=>bp 1 λg _=>aZ))
namespace eD
def bh(a0 D:Zg)(B:Int):aY (Fw Int Unit Unit):=bg (_r (B<(len a0))) (H (idx a0 B) λu=>H (idx D B) λw=>bg (u==w) (M (.n (w? N (B+1)))) (M (.r ()))) (M (.x ()))
def W1(a0 B:Zg)(D:Int):aY X':=H (bG (λq:Int=>bh a0 B q) D) (Fw.elim (λe=>M U) (λe=>M O))
end eD
def eD(a0 B:Zg):aY X':=bg ((len a0)==(len B)) (eD.W1 a0 B 0) (M O)
open eD in
instance T8(a0 B:Zg):Fc Sy cL (eD a0 B):=Fc.M 89 [enc a0,enc B] (bL 9 a0 (bL 1 B (ck 3 10 (dh 11 (λw=>(bD [Cv 0 a0,Cv 1 B,Iv 5 w] [])) (λu=>(0,(bD [] []))) (λu=>(bD [Bv 4 O] [])) (λw=>bL 6 a0 (bn 3 14 (bB 9 λz _=>bB 3 λC _=>ck 4 25 aZ aZ) aZ)) (λu=>aZ) (λu=>aZ)) aZ)))
namespace iW
def bh(D:Zb)(G:Zg)(B:Int):aY (Fw Int Int Empty):=(bg (_r (B<(len D))) (H (idx D B) λu=>H (iX u G) λw=>M w) (M O):aY X').bind λz=>bg z (M (.n (w? N (B+1)))) (M (.x B))
def W1(B:Zb)(G:Zg)(D:Int):aY Zb:=(bG (λq:Int=>bh B G q) D).bind (Fw.elim (λe=>(bg (_r (e<(len B))) ((idx B e).bind λz=>(eD z G).bind λC=>M C) (M O):aY X').bind λI=>bg I (M B) ((gN B J (M e)).bind λd=>(oC (Sl.row []:Zb) d).bind λL=>(d_ L (G:Zg)).bind λg=>(gN B (M e) J).bind λu=>(oC g u).bind λw=>M w)) (λe=>c! e))
end iW
def iW(B:Zb)(D:Zg):aY Zb:=iW.W1 B D 0
open iW in
instance Xl(B:Zb)(D:Zg):Fc Sy cL (iW B D):=Fc.N 57 [enc B,enc D] (dW 13 (λw=>(bD [Cv 0 B,Cv 1 D,Iv 5 w] [])) (λu=>(0,(bD [Cv 0 B,Cv 1 D,Iv 5 u] []))) (λw=>bL 6 B (bK 2 7 [11] 18 (bn 2 11 (bB 2 λG _=>bp 2 λI _=>br 1) (br 7)) λd=>bn 2 18 aZ aZ)) (λu=>bL 7 B (bK 2 7 [25] 32 (bn 2 25 (bB 2 λL _=>bp 2 λi _=>br 1) (br 7)) λQ=>bn 2 32 aZ (vD 5 34 ([]:aX Zg) (Ds 2 false true [.int .i64 u] λS _=>xY 0 34 38 λT _=>vD 7 41 ([D]:aX Zg) (mB 0 38 41 42 λg _=>Ds 8 true false [.int .i64 u] λz _=>xY 0 42 47 λC _=>aZ))))))
namespace eC
def eH(D G:Zb)(g:Int)(d:Zb)(T:Z4)(B:Zb)(k9:Int):aY (Fw ((Zb)×Int) Zb Empty):=bg (_r (k9<(len d))) (H (idx d k9) λu=>H (iW B u) λw=>M (.n (w,w? N (k9+1)))) (M (.x B))
def W3(B G D:Zb)(T:Int)(g:Zb)(k9:Int)(d:Z4):aY (Fw ((Zb)×Int) Zb Empty):=H (bG (λq:(Zb)×Int=>eH B G T g d q.1 q.2) (D,k9)) (Fw.elim (λe=>M (.n (e,w? N (T+1)))) (λe=>c! e))
def bF(B G:Zb)(d:Z4)(D:Zb)(T:Int):aY (Fw ((Zb)×Int) Zb Empty):=bg (_r (T<(len B))) (H (idx B T) λu=>H (kL d u) λw=>W3 B G D T w 0 d) (M (.x D))
def W2(B D G:Zb)(T:Int)(d:Z4):aY (Fw ((Zb)×(Zb)) Zb Unit):=H (bG (λq:(Zb)×Int=>bF B D d q.1 q.2) (G,T)) (Fw.elim (λe=>M (.n (e,D))) (λe=>c! e))
def bh(G:Z4)(B D:Zb):aY (Fw ((Zb)×(Zb)) Zb Unit):=bg (_r ((len B)>0)) (H (oC D B) λu=>bg (_r ((len u)>5000)) (M (.r ())) (W2 B u (Sl.nil:Zb) 0 G)) (M (.x D))
def W1(B D:Zb)(G:Z4):aY ((Zb)×X'):=H (bG (λq:(Zb)×(Zb)=>bh G q.1 q.2) (B,D)) (Fw.elim (λe=>M (e,U)) (λe=>M ((Sl.nil:Zb),O)))
end eC
def eC(B:Z4):aY ((Zb)×X'):=H (nv (len B.a?) (0:Int)) λu=>eC.W1 (Sl.row [u]:Zb) (Sl.nil:Zb) B
open eC in
instance aan(B:Z4):Fc Sy cL (eC B):=Fc.N 30 [enc B] (bO 2 1 B (bL 8 B.a? (Ox 0 13 λL _=>vD 1 14 ([L]:aX Zg) (dh 13 (λu=>(bD [Pv 1,Cv 4 u.1,Ov 5] [Xb 1 B,Lb 2005 u.2])) (λC=>(0,(bD [Ov 5] [Lb 2005 C]))) (λC=>(bD [Ov 2,Bv 3 O] [Lb 2002 (Sl.nil:Zb)])) (λu=>bL 7 u.1 (bn 3 17 (xY 8 2005 20 λw _=>Ak 7 20 w (bn 3 23 aZ (dW 18 (λz=>(bD [Pv 1,Cv 4 u.1,Ov 5,Cv 6 z.1,Iv 7 z.2] [Xb 1 B,Lb 2005 w])) (λG=>(2,(bD [Pv 1,Ov 5,Cv 6 G] [Xb 1 B,Lb 2005 w]))) (λz=>bL 8 u.1 (bn 3 27 (bB 10 λg _=>bp 1 λI _=>dW 12 (λD=>(bD [Pv 1,Cv 4 u.1,Ov 5,Cv 6 D.1,Iv 7 z.2,Cv 8 I,Iv 9 D.2] [Xb 1 B,Lb 2005 w])) (λd=>(4,(bD [Pv 1,Cv 4 u.1,Ov 5,Cv 6 d,Iv 7 z.2] [Xb 1 B,Lb 2005 w]))) (λD=>bL 8 I (bn 3 39 (bB 9 λQ _=>bp 1 λS _=>aZ) aZ)) (λd=>aZ)) aZ)) (λG=>aZ)))) aZ)) (λC=>aZ) (λC=>aZ)))))
namespace fP
def bF(G:Sl bS)(d:Int)(B D:Int):aY (Fw (Int×Int) Int Unit):=bg (_r (D<d)) (H (idx G D) λu=>H (hG u.b? (λz=>si z)) λw=>bg w (M (.r ())) (M (.n (w? N (B*(w? N ((len u.b?)+1))),w? N (D+1))))) (M (.x B))
def W2(B:Int)(D:Sl bS)(G d:Int):aY X':=H (bG (λq:Int×Int=>bF D G q.1 q.2) (B,d)) (Fw.elim (λe=>M (_r (e>5000))) (λe=>M O))
def bh(D:Sl bS)(G:Int)(T:Z4)(d B:Int):aY (Fw (Int×Int) Int Unit):=bg (_r (B<G)) (H (idx D B) λu=>(bg (_r ((len u.g?)>12)) (M U) (H (hG u.b? (λz=>rY z)) λw=>M w):aY X').bind λC=>bg C (M (.r ())) (M (.n (w? N (d+(len u.b?)),w? N (B+1))))) (M (.x d))
def W1(T:Int)(D:Sl bS)(G d:Int)(B:Z4):aY X':=H (bG (λq:Int×Int=>bh D G B q.1 q.2) (T,d)) (Fw.elim (λe=>bg (_r (e>60)) (M O) (H (qt B) λw=>bg w (bg (_r (e>24)) (fP.W2 1 B.a? (len B.a?) 0) (H (eC B) λu=>H (bg u.2 (M (_r ((len u.1)<=250))) (M U):aY X') λz=>M z)) (M U))) (λe=>M O))
end fP
def fP(B:Z4):aY X':=bg (_r ((len B.a?)>10)) (M O) (fP.W1 0 B.a? (len B.a?) 0 B)
open fP in
instance Zf(B:Z4):Fc Sy cL (fP B):=Fc.M 15 [enc B] (bO 2 1 B (bL 8 B.a? (bn 3 14 aZ (bL 13 B.a? (dh 5 (λD=>(bD [Pv 1,Iv 3 D.1,Cv 16 B.a?,Iv 17 (len B.a?),Iv 18 D.2] [Xb 1 B])) (λu=>(0,(bD [Pv 1,Iv 3 u] [Xb 1 B]))) (λu=>(bD [Bv 2 O] [])) (λD=>bn 7 19 (bB 7 λw _=>oN 2 5 0 w (bL 7 w.b? (bL 8 w.g? (bK 2 4 [5,31] 35 (bn 2 31 (br 4) (bp (F:=mQ 40 [] (λz=>rY z) mM.tJ w.b?) 2 λL _=>br 1)) λg=>bn 2 35 aZ aZ)))) aZ) (λu=>bn 9 38 aZ (bp 7 λQ _=>ck 3 41 (bn 10 43 (bL 11 B.a? (dh 5 (λG=>(bD [Iv 6 G.1,Cv 45 B.a?,Iv 46 (len B.a?),Iv 47 G.2] [])) (λC=>(2,(bD [Iv 6 C] []))) (λC=>(bD [Bv 2 O] [])) (λG=>bn 7 48 (bB 7 λI _=>oN 2 8 0 I (bL 7 I.b? (bp (F:=mQ 41 [] (λz=>si z) mM.tJ I.b?) 9 λS _=>bn 2 59 aZ aZ))) aZ) (λC=>aZ) (λC=>aZ))) (bp 6 λd _=>bK 12 4 [9,70] 74 (ck 12 70 (bL 1 d.1 (br 2)) (br 4)) λT=>aZ)) aZ)) (λu=>aZ))))))
def lz(D:T')(G B:Int)(r:(T'×Int×Int)->aY (X'×Int)):aY (X'×Int):=H (r (D,B,w? N (G+1))) λu=>M ((!u.1),u.2)
abbrev EX(r:(Pred×Int×Int)->aY (Bool×Int))(a:zy Sy cL 16 (λz:Pred×Int×Int=>[cv z.1,.ptr 9002 0,iv z.2.2]) (λz:Pred×Int×Int=>[(9002,bx (z.2.1:Int))]) (λr:Bool×Int=>[.bool r.1]) (λ(z:Pred×Int×Int)(r:Bool×Int)=>[(9002,bx (r.2:Int))]) r)(D:Pred)(G B:Int):pK Sy cL (lz D G B r):=pK.mk' 43 [cv D,.ptr 9001 0,.v (.fptr (cells G))] [(9001,.box [.ptr 9002 0]),(9002,bx (B:Int))] (λr:Bool×Int=>[.bool r.1]) (λr:Bool×Int=>[(9001,.box [.ptr 9002 0]),(9002,bx (r.2:Int))]) (bO 2 3 D (vu 9 (pK.of (D,B,w? N (G+1)) a) λu _=>aZ))
section
variable{σ:Type}{gf:Y'}{ex:Rd}{os:σ->dF}{p:T'->σ->aY (X'×σ)}(h:Af Sy cL (.clo gf [] ex) gf ex os p)(s0:Sl T')(x:σ)
abbrev yb:pK Sy cL (UI s0 p x):=pK.mk' 67 [cv s0,(.clo gf [] ex)] (os x) (λr=>[.int N r.1]) (λr=>os r.2) (bL 9 s0 (dh 5 (λq=>⟨[Cv 0 s0,(1,(.clo gf [] ex)),Iv 7 (len s0),Iv 8 q.1],os q.2,(os x).map (·.1),[],U,0⟩) (λe=>(0,⟨[],os e,(os x).map (·.1),[],U,0⟩)) (λe=>⟨[Iv 4 e.1],os e.2,(os x).map (·.1),[],U,0⟩) (λq=>bn 7 9 (bB 16 λy _=>Tr 1 h y q.2 λr _=>bn 2 16 aZ aZ) aZ) (λe=>Ki 9 h [.int N (-1)] Y) (λe=>Le.of_eq (KF h (ys:=[.int N e.1]) o? Y)))) (hp:=λr=>h.wi x r.2)
abbrev rq:pK Sy cL (B3 s0 p x):=pK.mk' 42 [cv s0,(.clo gf [] ex)] (os x) (λr=>[.bool r.1]) (λr=>os r.2) (Pa 9 (yb h s0 x) (h.hd x (enc s0)) (λr=>h.put x r.2) λy _=>Ki 5 h [.bool (_r (y.1>=0))] Y) (hp:=λr=>h.wi x r.2)
end
section
variable{σ:Type}{gf:Y'}{ex:So}{os:σ->dF}{p:T'->σ->aY (X'×σ)}(h:Af Sy cL (.v (.clo gf [] ex)) gf (ex.map .v) os p)(s0:Sl T')(x:σ)
abbrev ye:pK Sy cL (UI s0 p x):=pK.mk' 67 [cv s0,(.v (.clo gf [] ex))] (os x) (λr=>[.int N r.1]) (λr=>os r.2) (bL 9 s0 (dh 5 (λq=>⟨[Cv 0 s0,(1,(.v (.clo gf [] ex))),Iv 7 (len s0),Iv 8 q.1],os q.2,(os x).map (·.1),[],U,0⟩) (λe=>(0,⟨[],os e,(os x).map (·.1),[],U,0⟩)) (λe=>⟨[Iv 4 e.1],os e.2,(os x).map (·.1),[],U,0⟩) (λq=>bn 7 9 (bB 16 λy _=>Tr 1 h y q.2 λr _=>bn 2 16 aZ aZ) aZ) (λe=>Ki 9 h [.int N (-1)] Y) (λe=>Le.of_eq (KF h (ys:=[.int N e.1]) o? Y)))) (hp:=λr=>h.wi x r.2)
abbrev ny:pK Sy cL (B3 s0 p x):=pK.mk' 42 [cv s0,(.v (.clo gf [] ex))] (os x) (λr=>[.bool r.1]) (λr=>os r.2) (Pa 9 (ye h s0 x) (h.hd x (enc s0)) (λr=>h.put x r.2) λy _=>Ki 5 h [.bool (_r (y.1>=0))] Y) (hp:=λr=>h.wi x r.2)
end
def kU(G:T')(B D:Int)(r:(T'×Int×Int)->aY (X'×Int)):aY (X'×Int):=H (bg (_r ((w? N (B-1))>=0)) (M (_r (D<=60))) (M O):aY X') λz=>H (bg z (M (_r (((ByteArray.size G.name:Nat):Int)<=100))) (M O):aY X') λC=>(bg C (H (B3 G.l (λx s=>lz x D s r) (w? N (B-1))) λu=>M ((!u.1),u.2)) (M (O,w? N (B-1))):aY (X'×Int)).bind λw=>M (w.1,w.2)
theorem Fp(r:(T'×Int×Int)->aY (X'×Int))(a:zy Sy cL 16 (λz:T'×Int×Int=>[cv z.1,.ptr 9002 0,iv z.2.2]) (λz:T'×Int×Int=>[(9002,bx (z.2.1:Int))]) (λr:X'×Int=>[.bool r.1]) (λ(z:T'×Int×Int)(r:X'×Int)=>[(9002,bx (r.2:Int))]) r)(G:T')(D B:Int):∀d,kU G D B r=M d->∃m',cL 16 [cv G,.ptr 9002 0,iv B] [(9002,bx (D:Int))]=M (((λr:X'×Int=>[.bool r.1]) d).map .v,m')/\∀T,lY m' ([(9002,bx (D:Int))].map (·.1)) T=M (q9 T ((λr:X'×Int=>[(9002,bx (r.2:Int))]) d)):=(pK.mk' 16 [cv G,.ptr 9002 0,iv B] [(9002,bx (D:Int))] (λr:X'×Int=>[.bool r.1]) (λr:X'×Int=>[(9002,bx (r.2:Int))]) (bO 2 3 G (bK 22 3 [16] 19 (bn 22 16 (br 3) (br 3)) λw=>bK 1 5 [20] 25 (bn 1 20 (br 5) (br 5)) λC=>xu 1 6 [] (λu=>⟨[Bv 32 u.1],[(9002,.box [iv u.2]),Xb 3 G,(9001,.box [.ptr 9002 0])],[9002],[],U,0⟩) (bn 1 26 (dG 2 28 (Pred.eW G.l) (vu 3 (rq (Af.ofK (σ:=Int) (g:=43) (e:=[.ptr 9001 0,cp B]) (os:=λs=>[(9001,.box [.ptr 9002 0]),(9002,bx (s:Int))]) (p:=(λx s=>lz x B s r)) (λx s=>EX r a x B s)) G.l (w? N (D-1))) λI _=>br 2)) (br 8)) λu=>aZ)):pK Sy cL (kU G D B r)).h
def Ay(G:T')(D B:Int):aY (X'×Int):=dm (λr(z:T'×Int×Int)=>kU z.1 z.2.1 z.2.2 r) 100000 (G,D,B)
abbrev Ka(G:Pred)(D B:Int):pK Sy cL (Ay G D B):=pK.of (G,D,B) (zy.fix (A:=λz:Pred×Int×Int=>[cv z.1,.ptr 9002 0,iv z.2.2]) (O:=λz:Pred×Int×Int=>[(9002,bx (z.2.1:Int))]) (E:=λr:Bool×Int=>[.bool r.1]) (M:=λ(z:Pred×Int×Int)(r:Bool×Int)=>[(9002,bx (r.2:Int))]) (b:=(λr(z:Pred×Int×Int)=>kU z.1 z.2.1 z.2.2 r)) o? o? o? (λr a z=>Fp r a z.1 z.2.1 z.2.2) 100000)
namespace kO
def bh(B:Int)(D:T')(G d:Int)(r:(T'×Int)->PH):aY (Fw (Int×Int) Int Empty):=H (bg (_r (d<(len D.l))) (M (_r (G<=B))) (M O):aY X') λu=>bg u (H (idx D.l d) λw=>H (r (w,w? N (B-G))) λz=>M (.n (w? N (G+z),w? N (d+1)))) (M (.x G))
def W1(B G d:Int)(D:T')(r:(T'×Int)->PH):PH:=H (bG (λq:Int×Int=>bh B D q.1 q.2 r) (G,d)) (Fw.elim (λe=>M e) (λe=>c! e))
end kO
def jc(D:T')(B:Int)(r:(T'×Int)->PH):PH:=kO.W1 B 1 0 D r
open kO in
theorem D7(r:(T'×Int)->PH)(a:eP Sy cL 44 (λz:T'×Int=>[enc z.1,.int N z.2]) (λr:Int=>[.int N r]) r U)(D:T')(B:Int):Le (H (jc D B r) λr=>M [.int N r]) (gO cL 44 [enc D,.int N B]):=(Fc.M 44 [enc D,.int N B] (bO 2 2 D (dW 16 (λu=>(bD [Iv 1 B,Pv 2,Iv 5 u.1,Iv 6 u.2] [Xb 2 D])) (λw=>(0,(bD [Iv 5 w] []))) (λu=>dG 7 9 (Pred.eW D.l) (bL 0 D.l (bK 2 4 [12] 16 (bn 2 12 (br 4) (br 4)) λG=>bn 2 16 (dG 9 21 (Pred.eW D.l) (bB 1 λC _=>bp (F:=Fc.of (C,w? N (B-u.1)) a) 4 λI _=>aZ)) aZ))) (λw=>aZ))):Fc Sy cL (jc D B r)).F.h ()
def kO(D:T')(B:Int):PH:=dm (λr(z:T'×Int)=>jc z.1 z.2 r) 100000 (D,B)
instance Yo(D:T')(B:Int):Fc Sy cL (kO D B):=Fc.of (D,B) (eP.fix (A:=λz:T'×Int=>[enc z.1,.int N z.2]) (E:=λr:Int=>[.int N r]) (sc:=U) (b:=(λr(z:T'×Int)=>jc z.1 z.2 r)) o? (λ_ _=>rfl) (λr a z=>D7 r a z.1 z.2) 100000)
def qd(B:T'):PH:=H (kO B 200) λu=>M (if 201<u then 201 else u)
instance aaE(B:T'):Fc Sy cL (qd B):=Fc.M 17 [enc B] (bO 2 1 B (bp 6 λu _=>aZ))
def yD(d:Z4)(p1:T'):aY X':=(fP d).bind λw=>(bg w ((Ay p1 300 0).bind λu=>M (u.1,u.2)) (M (O,300)):aY (X'×Int)).bind λz=>(bg z.1 ((qd p1).bind λB=>(bg (_r (B<=100)) (M U) ((qd p1).bind λC=>M (_r (C>200))):aY X').bind λD=>M D) (M O):aY X').bind λG=>M G
instance aco (B:Trace) (p1:Pred):Fc Sy cL (yD B p1):=Fc.M 5 [enc B,enc p1] (bO 2 2 B (bO 0 3 p1 (bp 12 λw _=>xu 1 3 [] (λu=>(bD [Pv 3,Bv 11 u.1] [Xb 2 B,Xb 3 p1,(9002,.box [iv u.2])])) (bn 1 8 (vu 2 (Ka p1 300 0) λz _=>br 1) (br 4)) λu=>bK 1 9 [3,12] 21 (bn 1 12 (bp 1 λC _=>bK 2 4 [3,16] 20 (bn 2 16 (br 4) (bp 1 λD _=>br 2)) λG=>br 1) (br 9)) λI=>aZ)))
def pT(G D B:Int):aY X':=H (bg (_r (G>=D)) (M (_r (G<=B))) (M O):aY X') λu=>M u
instance adp(G D B:Int):Fc Sy cL (pT G D B):=Fc.M 73 [.int N G,.int N D,.int N B] (bK 11 4 [0,2,10] 14 (bn 11 10 (br 4) (br 4)) λu=>aZ)
def sW(c0:Int):aY X':=H (bg (_r (c0>=97)) (M (_r (c0<=122))) (M O):aY X') λu=>(bg u (M U) (H (bg (_r (c0>=65)) (M (_r (c0<=90))) (M O):aY X') λw=>M w):aY X').bind λz=>M z
instance Yd(c0:Int):Fc Sy cL (sW c0):=Fc.M 136 [.int .u8 c0] (bK 10 3 [5] 8 (bn 10 5 (br 3) (br 3)) λu=>bK 1 7 [0,9] 16 (bn 1 9 (br 7) (bK 3 3 [0,12] 15 (bn 3 12 (br 3) (br 3)) λw=>br 1)) λz=>aZ)
def wY(c0:Int):aY X':=H (bg (_r (c0>=48)) (M (_r (c0<=57))) (M O):aY X') λu=>M u
instance aam(c0:Int):Fc Sy cL (wY c0):=Fc.M 137 [.int .u8 c0] (bK 10 3 [0,5] 8 (bn 10 5 (br 3) (br 3)) λu=>aZ)
namespace iB
def bh(s0:U')(D:Int)(B:Int):aY (Fw Int Unit Unit):=bg (_r (B<D)) (H (mK s0 B) λz=>H (sW z) λC=>(bg C (M O) (H (mK s0 B) λG=>H (wY G) λI=>M (!I)):aY X').bind λd=>(bg d (H (mK s0 B) λu=>M (!(u==95))) (M O):aY X').bind λw=>bg w (M (.r ())) (M (.n (w? N (B+1))))) (M (.x ()))
def W1(s0:U')(B D:Int):aY X':=H (bG (λq:Int=>bh s0 B q) D) (Fw.elim (λe=>M U) (λe=>M O))
end iB
def iB(s0:U'):aY X':=H (bg (E? s0==E? ByteArray.empty) (M U) (M (_r (((ByteArray.size s0:Nat):Int)>16))):aY X') λu=>(bg u (M U) (H (mK s0 0) λw=>H (sW w) λz=>M (!z)):aY X').bind λB=>bg B (M O) (iB.W1 s0 ((ByteArray.size s0:Nat):Int) 0)
open iB in
instance Zo(s0:U'):Fc Sy cL (iB s0):=Fc.M 103 [.str s0] (bK 11 4 [6] 10 (bn 11 6 (br 4) (br 4)) λC=>bK 1 5 [11] 16 (bn 1 11 (br 5) (CT 1 N λD _=>bp 0 λG _=>br 2)) λI=>bn 2 16 aZ (dh 13 (λw=>(bD [(0,.v (.str s0)),Iv 18 ((ByteArray.size s0:Nat):Int),Iv 19 w] [])) (λu=>(0,(bD [] []))) (λu=>(bD [Bv 2 O] [])) (λw=>bn 7 20 (CT 15 N λd _=>bp 0 λL _=>bK 2 6 [27] 33 (ck 2 27 (br 6) (CT 2 N λg _=>bp 0 λQ _=>br 2)) λS=>bK 1 5 [3,34] 39 (bn 1 34 (CT 2 N λz _=>br 2) (br 5)) λB=>bn 2 39 aZ aZ) aZ) (λu=>aZ) (λu=>aZ)))
def lu(B D:bS):aY X':=M (E? B.name==E? D.name)
instance Ng(B D:bS):Fc Sy cL (lu B D):=Fc.M 105 [enc B,.fptr (cells D)] (bO 2 2 B aZ)
namespace iG
def bh(s0:Sl bS)(D:Int)(B:Int)(p1:bS->aY X'):aY (Fw Int Unit Int):=bg (_r (B<D)) (H (idx s0 B) λu=>H (p1 u) λw=>bg w (M (.r B)) (M (.n (w? N (B+1))))) (M (.x ()))
def W1(s0:Sl bS)(B D:Int)(p1:bS->aY X'):PH:=H (bG (λq:Int=>bh s0 B q p1) D) (Fw.elim (λe=>M (-1)) (λe=>M e))
end iG
def iG(s0:Sl bS)(p1:bS->aY X'):PH:=iG.W1 s0 (len s0) 0 p1
open iG in
abbrev zP(g1:FuncId)(e1:aX V)(p1:bS->aY Bool)(a:mM Sy cL g1 [] e1 (λz:bS=>[enc z]) (λr:Bool=>[.bool r]) p1 U)(s0:Sl bS):Fc Sy cL (iG s0 p1):=Fc.M 138 [enc s0,.clo g1 [] e1] (bL 9 s0 (dh 5 (λw=>(bD [Cv 0 s0,(1,.v (.clo g1 [] e1)),Iv 7 (len s0),Iv 8 w] [])) (λu=>(0,(bD [] []))) (λu=>(bD [Iv 4 u] [])) (λw=>bn 7 9 (bB 16 λB _=>Aa 1 a.f B λC _=>bn 2 16 aZ aZ) aZ) (λu=>aZ) (λu=>aZ)))
def jJ(s0:Sl bS)(p1:bS->aY X'):aY X':=H (iG s0 p1) λu=>M (_r (u>=0))
abbrev yw(g1:FuncId)(e1:aX V)(p1:bS->aY Bool)(a:mM Sy cL g1 [] e1 (λz:bS=>[enc z]) (λr:Bool=>[.bool r]) p1 U)(s0:Sl bS):Fc Sy cL (jJ s0 p1):=Fc.M 104 [enc s0,.clo g1 [] e1] (bp (F:=zP g1 e1 p1 a s0) 9 λu _=>aZ)
def lC(B D:Var):aY X':=M (E? B.name==E? D.name)
instance Ni(B D:Var):Fc Sy cL (lC B D):=Fc.M 107 [enc B,.fptr (cells D)] (aZ)
namespace fR
def bh(s0:Sl Var)(D:Int)(B:Int)(p1:Var->aY X'):aY (Fw Int Unit Int):=bg (_r (B<D)) (H (idx s0 B) λu=>H (p1 u) λw=>bg w (M (.r B)) (M (.n (w? N (B+1))))) (M (.x ()))
def W1(s0:Sl Var)(B D:Int)(p1:Var->aY X'):PH:=H (bG (λq:Int=>bh s0 B q p1) D) (Fw.elim (λe=>M (-1)) (λe=>M e))
end fR
def fR(s0:Sl Var)(p1:Var->aY X'):PH:=fR.W1 s0 (len s0) 0 p1
open fR in
abbrev pZ(g1:FuncId)(e1:aX V)(p1:Var->aY Bool)(a:mM Sy cL g1 [] e1 (λz:Var=>[enc z]) (λr:Bool=>[.bool r]) p1 U)(s0:Sl Var):Fc Sy cL (fR s0 p1):=Fc.M 139 [enc s0,.clo g1 [] e1] (bL 9 s0 (dh 5 (λw=>(bD [Cv 0 s0,(1,.v (.clo g1 [] e1)),Iv 7 (len s0),Iv 8 w] [])) (λu=>(0,(bD [] []))) (λu=>(bD [Iv 4 u] [])) (λw=>bn 7 9 (bB 16 λB _=>Aa 1 a.f B λC _=>bn 2 16 aZ aZ) aZ) (λu=>aZ) (λu=>aZ)))
def iR(s0:Sl Var)(p1:Var->aY X'):aY X':=H (fR s0 p1) λu=>M (_r (u>=0))
abbrev rW(g1:FuncId)(e1:aX V)(p1:Var->aY Bool)(a:mM Sy cL g1 [] e1 (λz:Var=>[enc z]) (λr:Bool=>[.bool r]) p1 U)(s0:Sl Var):Fc Sy cL (iR s0 p1):=Fc.M 106 [enc s0,.clo g1 [] e1] (bp (F:=pZ g1 e1 p1 a s0) 9 λu _=>aZ)
namespace fu
def bh(D:Sl Var)(G:Int)(d:bS)(B:Int):aY (Fw Int Unit Int):=bg (_r (B<G)) (H (idx D B) λu=>H (iB u.name) λI=>(bg I (H (gN d.g? J (M B)) λL=>H (iR L (λz=>lC z u)) λg=>M g) (M U):aY X').bind λw=>bg w (M (.r 13)) (H (pT u.init_ (-1073741824) 1073741824) λC=>bg C (M (.n (w? N (B+1)))) (M (.r 2)))) (M (.x ()))
def W1(D:Sl Var)(G d:Int)(B:bS):PH:=H (bG (λq:Int=>bh D G B q) d) (Fw.elim (λe=>bg (_r ((len B.b?)>64)) (M 5) (M 0)) (λe=>M e))
end fu
def fu(G:Z4)(p1:Int):PH:=H (idx G.a? p1) λu=>H (iB u.name) λw=>(bg w (H (gN G.a? J (M p1)) λB=>H (jJ B (λz=>lu z u)) λC=>M C) (M U):aY X').bind λD=>bg D (M 13) (bg (_r ((len u.g?)>8)) (M 5) (fu.W1 u.g? (len u.g?) 0 u))
open fu in
instance Qb(D:Z4)(p1:Int):Fc Sy cL (fu D p1):=Fc.M 74 [enc D,.int N p1] (bO 2 2 D (bB 8 λu _=>oN 2 5 0 u (bp 8 λi _=>bK 2 7 [1,2,18] 25 (ck 2 18 (Ds 3 O U [.int N p1] λG _=>bY (F:=yw 105 [.fptr (cells u)] (λz=>lu z u) mM.tJ G) 1 λQ _=>br 1) (br 7)) λS=>bn 3 13 aZ (bL 5 u.g? (bn 4 26 aZ (bL 9 u.g? (dh 5 (λB=>(bD [Pv 5,Cv 32 u.g?,Iv 33 (len u.g?),Iv 34 B] [Xb 5 u])) (λw=>(1,(bD [Pv 5] [Xb 5 u]))) (λw=>(bD [Iv 4 w] [])) (λB=>bn 7 35 (bB 8 λC _=>bp 11 λT _=>bK 2 7 [6,44] 51 (ck 2 44 (Ds 3 O U [.int N B] λI _=>bY (F:=rW 107 [.fptr (cells C)] (λz=>lC z C) mM.tJ I) 1 λg _=>br 1) (br 7)) λd=>bn 3 39 aZ (bp 5 λL _=>ck 4 52 aZ aZ)) aZ) (λw=>bL 7 u.b? (bn 3 61 aZ aZ)) (λw=>aZ))))))))
def kK(B:Z4):aY Z4:=M B
instance aaj(B:Z4):Fc Sy cL (kK B):=Fc.NE (λr:Z4=>[(.clo 108 [] [.fptr (cells r)])]) 75 [enc B] (bO 2 1 B aZ)
namespace jE
def J1(p1:Int)(D:X')(G:Z4)(B:WF):aY X':=bg D (H (pT B.k? 0 (w? N ((len G.a?)-1))) λu=>H (bg u (M (!(B.k?==p1))) (M O):aY X') λw=>(bg w (H (pT B.d? 0 199) λz=>M z) (M O):aY X').bind λC=>M C) (M O)
end jE
def jE(B:Z4)(p1:Int)(e2:WF):aY X':=bg (e2.kind==1) (H (bg (e2.k?==0) (M (e2.d?==0)) (M O):aY X') λu=>M u) (bg (e2.kind==2) (jE.J1 p1 U B e2) (jE.J1 p1 (e2.kind==3) B e2))
open jE in
instance X7(B:Z4)(p1:Int)(e2:WF):Fc Sy cL (jE B p1 e2):=Fc.M 109 [enc B,.int N p1,enc e2] (bO 2 3 B (bO 0 5 e2 (bn 17 9 (bK 7 4 [5,14] 18 (bn 7 14 (br 4) (br 4)) λD=>aZ) (bn 8 19 (qC 4 (bn 0 19 (bL 7 B.a? (bp 1 λu _=>bK 1 5 [1,29] 34 (bn 1 29 (br 5) (br 5)) λw=>bK 1 4 [5,35] 39 (bn 1 35 (bp 2 λz _=>br 1) (br 4)) λC=>aZ)) aZ)) (qC 7 (bn 0 19 (bL 7 B.a? (bp 1 λu _=>bK 1 5 [1,29] 34 (bn 1 29 (br 5) (br 5)) λw=>bK 1 4 [5,35] 39 (bn 1 35 (bp 2 λz _=>br 1) (br 4)) λC=>aZ)) aZ))))))
def mq(B D:Assign):aY X':=M (B.var==D.var)
instance O1(B D:Assign):Fc Sy cL (mq B D):=Fc.M 111 [enc B,.fptr (cells D)] (aZ)
namespace gC
def bh(s0:Sl Assign)(D:Int)(B:Int)(p1:Assign->aY X'):aY (Fw Int Unit Int):=bg (_r (B<D)) (H (idx s0 B) λu=>H (p1 u) λw=>bg w (M (.r B)) (M (.n (w? N (B+1))))) (M (.x ()))
def W1(s0:Sl Assign)(B D:Int)(p1:Assign->aY X'):PH:=H (bG (λq:Int=>bh s0 B q p1) D) (Fw.elim (λe=>M (-1)) (λe=>M e))
end gC
def gC(s0:Sl Assign)(p1:Assign->aY X'):PH:=gC.W1 s0 (len s0) 0 p1
open gC in
abbrev yM(g1:FuncId)(e1:aX V)(p1:Assign->aY Bool)(a:mM Sy cL g1 [] e1 (λz:Assign=>[enc z]) (λr:Bool=>[.bool r]) p1 U)(s0:Sl Assign):Fc Sy cL (gC s0 p1):=Fc.M 140 [enc s0,.clo g1 [] e1] (bL 9 s0 (dh 5 (λw=>(bD [Cv 0 s0,(1,.v (.clo g1 [] e1)),Iv 7 (len s0),Iv 8 w] [])) (λu=>(0,(bD [] []))) (λu=>(bD [Iv 4 u] [])) (λw=>bn 7 9 (bB 16 λB _=>Aa 1 a.f B λC _=>bn 2 16 aZ aZ) aZ) (λu=>aZ) (λu=>aZ)))
def iZ(s0:Sl Assign)(p1:Assign->aY X'):aY X':=H (gC s0 p1) λu=>M (_r (u>=0))
abbrev wS(g1:FuncId)(e1:aX V)(p1:Assign->aY Bool)(a:mM Sy cL g1 [] e1 (λz:Assign=>[enc z]) (λr:Bool=>[.bool r]) p1 U)(s0:Sl Assign):Fc Sy cL (iZ s0 p1):=Fc.M 110 [enc s0,.clo g1 [] e1] (bp (F:=yM g1 e1 p1 a s0) 9 λu _=>aZ)
namespace dV
def bF(D:Sl Assign)(G:Int)(d:WF)(T:bS)(B:Int):aY (Fw Int Unit Int):=bg (_r (B<G)) (H (idx D B) λu=>H (pT u.var 0 (w? N ((len T.g?)-1))) λI=>(bg I (H (pT u.value (-1073741824) 1073741824) λL=>M (!L)) (M U):aY X').bind λg=>bg g (M (.r 2)) (H (gN d.assign J (M B)) λw=>H (iZ w (λz=>mq z u)) λC=>bg C (M (.r 8)) (M (.n (w? N (B+1)))))) (M (.x ()))
def W2(B:Sl Assign)(D G:Int)(d:WF)(T:bS):PH:=H (bG (λq:Int=>bF B D d T q) G) (Fw.elim (λe=>M 0) (λe=>M e))
def J1(D:Int)(d:Z4)(G:bf)(B:WF)(T:bS):PH:=H (jE d G.proc B) λu=>bg u (H (pT B.time 0 1099511627776) λw=>H (bg w (M (_r (B.time<D))) (M U):aY X') λz=>bg z (M 11) (bg (_r ((len B.assign)>8)) (M 5) (dV.W2 B.assign (len B.assign) 0 B T))) (M 3)
theorem mX(D:Int)(T:Z4)(d:bf)(B:WF)(G:bS):Le (H (J1 D T d B G) (λr=>M [.int N r])) (bV Sy cL (pU (tr Tx 76)) (rQ (tb Tx 76) [1,1,1,1,0] [] (bD [Pv 3,Pv 4,Pv 5,Pv 7,Iv 8 D] [Xb 3 T,Xb 4 d,Xb 5 B,Xb 7 G]))):=bp 8 λi _=>ck 4 28 (bp 5 λQ _=>bK 2 5 [8,40] 45 (ck 2 40 (br 5) (br 5)) λS=>bn 3 35 aZ (bL 5 B.assign (bn 4 46 aZ (bL 9 B.assign (dh 5 (λw=>(bD [Pv 5,Pv 7,Cv 52 B.assign,Iv 53 (len B.assign),Iv 54 w] [Xb 5 B,Xb 7 G])) (λu=>(1,(bD [] []))) (λu=>(bD [Iv 6 u] [])) (λw=>bn 7 55 (bB 8 λC _=>bL 13 G.g? (bp 1 λg _=>bK 2 5 [68] 73 (ck 2 68 (bp 2 λj _=>br 2) (br 5)) λX=>bn 3 59 aZ (Ds 6 O U [.int N w] λI _=>bY (F:=wS 111 [.fptr (cells C)] (λz=>mq z C) mM.tJ I) 1 λL _=>bn 3 74 aZ aZ))) aZ) (λu=>aZ) (λu=>aZ)))))) aZ
end dV
def dV(D:Z4)(B:bf)(e2:WF):PH:=H (idx D.a? B.proc) λu=>bg (_r (B.index>1)) (H (idx u.b? (w? N (B.index-2))) λw=>dV.J1 w.time D B e2 u) (dV.J1 0 D B e2 u)
open dV in
instance Sr(D:Z4)(B:bf)(e2:WF):Fc Sy cL (dV D B e2):=Fc.M 76 [enc D,enc B,enc e2] (bO 2 3 D (bO 1 5 e2 (bB 9 λu _=>oN 2 7 0 u (bn 15 19 (bB 7 λw _=>nY 6 (mX w.time D B e2 u)) (nY 4 (mX 0 D B e2 u))))))
def tf(e0:WF)(B D:Int):aY X':=H (bg (e0.kind==2) (M (e0.d?==B)) (M O):aY X') λu=>H (bg u (M (e0.k?==D)) (M O):aY X') λw=>M w
instance VJ(e0:WF)(B D:Int):Fc Sy cL (tf e0 B D):=Fc.M 141 [enc e0,.fptr (cells B),.fptr (cells D)] (bO 2 3 e0 (bK 9 5 [1,8] 13 (bn 9 8 (br 5) (br 5)) λu=>bK 1 5 [2,3,14] 19 (bn 1 14 (br 5) (br 5)) λw=>aZ))
def xe(D:Z4)(p1 G B:Int):aY X':=H (idx D.a? p1) λu=>H (hG u.b? (λz=>tf z G B)) λw=>M w
instance aau(G:Z4)(p1 D B:Int):Fc Sy cL (xe G p1 D B):=Fc.M 112 [enc G,.int N p1,.int N D,.int N B] (bO 2 4 G (bB 10 λu _=>bY (F:=mQ 141 [.fptr (cells D),.fptr (cells B)] (λz=>tf z D B) mM.tJ u.b?) 3 λw _=>aZ))
namespace fq
def lq(D G:Z4)(d:aY (b_ 200 bu))(T:bf)(g:Int)(x:bf×WF)(B:b_ 200 bu):aY (Fw (b_ 200 bu) Empty (bf×Int×(b_ 200 bu))):=bg (x.2.kind==2) (H (b_.at B x.2.d?) λu=>bg (_r (u.from_.index>0)) (M (.r (x.1,8,B))) (H (b_.at B x.2.d?) λw=>M (.n (b_.set B x.2.d? (⟨x.1,w.to_⟩:bu))))) (bg (x.2.kind==3) (H (b_.at B x.2.d?) λz=>bg (_r (z.to_.index>0)) (M (.r (x.1,8,B))) (H (xe G x.2.k? x.2.d? x.1.proc) λC=>bg C (H (b_.at B x.2.d?) λI=>M (.n (b_.set B x.2.d? (⟨I.from_,x.1⟩:bu)))) (M (.r (x.1,7,B))))) (M (.n B)))
def E1(B G:Z4)(d:aY (b_ 200 bu))(T:bf)(g:Int)(D:b_ 200 bu):aY ((aY (b_ 200 bu))×bf×Int):=H (kN B) λu=>H (mm (λ(x:bf×WF)(q:b_ 200 bu)=>lq B G d T g x q) u D) (Fw.tg (λq=>M (M q,⟨0,0⟩,0)) (λe=>c! e) (λe=>M ((J:aY (b_ 200 bu)),e.1,e.2.1)))
end fq
def fq(B:Z4):aY ((aY (b_ 200 bu))×bf×Int):=H (kK B) λu=>fq.E1 u B (J:aY (b_ 200 bu)) (⟨0,0⟩:bf) 0 (b_.R6 200 (⟨⟨0,0⟩,⟨0,0⟩⟩:bu))
open fq in
instance Pt(D:Z4):Fc Sy cL (fq D):=Fc.N 77 [enc D] (bO 2 1 D (bO 8 10 (b_.R6 200 (⟨⟨0,0⟩,⟨0,0⟩⟩:bu)) (Bal 0 5 (bD [Pv 1,Pv 2,Pv 3,Pv 4,Pv 10] [Xb 1 D,(2,.box [cv (J:aY (b_ 200 bu))]),Xb 3 (⟨0,0⟩:bf),(4,.box [iv 0]),Xb 10 (b_.R6 200 (⟨⟨0,0⟩,⟨0,0⟩⟩:bu))]) [cv (J:aY (b_ 200 bu))] (by simp only[bD,AO,tn,vg,tH,u5,wJ,uS,wu,tc,uY,Ba,wk,v7,wF,wM,zf,zh,uT,wI];rfl) (bp 7 λB _=>Ib λj C=>DN 4 [Pv 1,Pv 2,Pv 3,Pv 4,Pv 5,(12,.v (.clo 108 [] [.fptr (cells B)]))] (λw=>[Xb 1 D,(2,.box [cv (J:aY (b_ 200 bu))]),Xb 3 (⟨0,0⟩:bf),(4,.box [iv 0]),(5,.box [.ptr 10 0]),Xb 10 w]) (λz=>c! z) (λz=>[Xb 1 D,(2,.box [cv (J:aY (b_ 200 bu))]),Xb 3 z.1,(4,.box [iv z.2.1]),(5,.box [.ptr 10 0]),Xb 10 z.2.2]) (Bx B j C) (λu w=>Bal 2 6 ⟨[Pv 1,Pv 2,Pv 3,Pv 4,Pv 5,(12,.v (.clo 108 [] [.fptr (cells B)])),Cv 13 u.1,Cv 14 u.2],[Xb 1 D,(2,.box [cv (J:aY (b_ 200 bu))]),Xb 3 (⟨0,0⟩:bf),(4,.box [iv 0]),(5,.box [.ptr 10 0]),Xb 10 w],[1,2,3,4,5],[],U,0⟩ [iv 0,iv 0] (by simp only[bD,AO,tn,vg,tH,u5,wJ,uS,wu,tc,uY,Ba,wk,v7,wF,wM,zf,zh,uT,wI];rfl) (Bal 4 7 ⟨[Pv 1,Pv 2,Pv 3,Pv 4,Pv 5,(12,.v (.clo 108 [] [.fptr (cells B)])),Cv 14 u.2,Pv 6],[Xb 1 D,(2,.box [cv (J:aY (b_ 200 bu))]),Xb 3 (⟨0,0⟩:bf),(4,.box [iv 0]),(5,.box [.ptr 10 0]),Xb 10 w,Xb 6 u.1],[1,2,3,4,5],[],U,0⟩ [iv 0,iv 0,iv 0,iv 0,.v .bN] (by simp only[bD,AO,tn,vg,tH,u5,wJ,uS,wu,tc,uY,Ba,wk,v7,wF,wM,zf,zh,uT,wI];rfl) (oN 0 7 0 u.2 (AV 1 (bn 22 19 (Kr 7 N 10 λG Q=>XH 2 1 O 10 w u.2.d? 1 G Q (.int N G.from_.index) (by rfl) (bn 3 28 aZ (Kr 8 N 10 λI S=>XQ 1 10 w u.2.d? 0 I S (⟨u.1,I.to_⟩:bu) u.1 rfl aZ))) (bn 7 36 (Kr 7 N 10 λg T=>XH 2 1 O 10 w u.2.d? 3 g T (.int N g.to_.index) (by rfl) (bn 3 45 aZ (bp 12 λm _=>ck 3 54 (Kr 8 N 10 λL i=>XQ 1 10 w u.2.d? 2 L i (⟨L.from_,u.1⟩:bu) u.1 rfl aZ) aZ))) aZ)))))) (λw=>acY 13 (bD [Pv 2,Pv 3,Pv 4] [(2,.box [.ptr 10 0]),Xb 3 (⟨0,0⟩:bf),(4,.box [iv 0]),Xb 10 w]) [.ptr 10 0,cv (⟨0,0⟩:bf),iv 0] (Ym (d:=10) (x:=w) (vs:=[enc (⟨0,0⟩:bf),.int N 0]) o?) o?) (λx=>c! x) (λz=>aZ)))))
namespace kD
def J1(D:b_ 200 bu)(B:Sl bf)(d:Sl WF)(G:bf):aY (Sl bf):=H (idx d (w? N (G.index-1))) λu=>(bg (u.kind==2) (H (b_.at D u.d?) λw=>M (_r (w.to_.index>0))) (M O):aY X').bind λz=>bg z (H (b_.at D u.d?) λC=>H (d_ B (C.to_:bf)) λI=>M I) (M B)
theorem mX(B:b_ 200 bu)(D:Sl bf)(d:Sl WF)(G:bf):Le (H (J1 B D d G) (λr=>M [enc r])) (bV Sy cL (pU (tr Tx 113)) (rQ (tb Tx 113) [1,1,1,1,0,0] [] (bD [Kv 1 B,Pv 5,Ov 7,Cv 8 d] [Xb 5 G,Lb 2007 D]))):=bB 7 λu _=>oN 2 9 0 u (bK 8 10 [40] 50 (bn 8 40 (QW 4 N λw z=>WV 0 2 B u.d? 0 w z (WV 0 1 B u.d? 2 w z (PM 0 1 O B u.d? 3 w z (.int N w.to_.index) (by rfl) (br 2)))) (br 10)) λL=>bn 2 50 (QW 7 N λC I=>WV 0 2 B u.d? 0 C I (PM 0 2 U B u.d? 2 C I (enc C.to_) (by rfl) (mB 1 2007 59 60 λg _=>aZ))) aZ)
end kD
def kD(D:Z4)(B:b_ 200 bu)(x2:bf):aY (Sl bf):=H (idx D.a? x2.proc) λu=>bg (_r (x2.index<(len u.b?))) (kD.J1 B (Sl.row [⟨x2.proc,w? N (x2.index+1)⟩]:Sl bf) u.b? x2) (kD.J1 B (Sl.nil:Sl bf) u.b? x2)
open kD in
instance aaT(D:Z4)(B:b_ 200 bu)(x2:bf):Fc Sy cL (kD D B x2):=Fc.N 113 [enc D,.fptr (cells B),enc x2] (bO 2 3 D (bB 15 λu _=>bL 11 u.b? (bn 3 21 (Xc 10 29 30 .bN (⟨x2.proc,w? N (x2.index+1)⟩:bf) (nY 5 (mX B (Sl.row [⟨x2.proc,w? N (x2.index+1)⟩]:Sl bf) u.b? x2))) (nY 5 (mX B (Sl.nil:Sl bf) u.b? x2)))))
namespace jD
def eH(T:Z4)(g:Sl bf)(j:Int)(i:Z4)(a:b_ 200 bu)(b:bf)(c:X')(d:bf)(B:Sl bf)(G:Int)(D:Mo bf X'):aY (Fw ((Sl bf)×Int×(Mo bf X')) ((Sl bf)×(Mo bf X')) Unit):=bg (_r (G<j)) (H (idx g G) λu=>bg (OD u d) (M (.r ())) (bg (pW D u O) (M (.n (B,w? N (G+1),D))) (H (d_ B (u:bf)) λw=>M (.n (w,w? N (G+1),nO D u U))))) (M (.x (B,D)))
def W3(D:Sl bf)(B:Z4)(T:Sl bf)(g j:Int)(i:Z4)(a:b_ 200 bu)(b:bf)(c:X')(G:bf)(d:Mo bf X'):aY (Fw ((Sl bf)×(Mo bf X')) Unit Unit):=H (bG (λq:(Sl bf)×Int×(Mo bf X')=>eH B T g i a b c G q.1 q.2.1 q.2.2) (D,j,d)) (Fw.elim (λe=>M (.n (e.1,e.2))) (λe=>M (.r ())))
def bF(D G:Z4)(d:b_ 200 bu)(j:bf)(i:X')(T:bf)(B:Sl bf)(g:Mo bf X'):aY (Fw ((Sl bf)×(Mo bf X')) Unit Unit):=bg (_r ((len B)>0)) (H (Sl.iA B (w? N ((len B)-1))) λw=>H (Sl.get B w) λz=>H (nH B J (M (w? N ((len B)-1)))) λC=>H (kD G d z) λu=>W3 C D u (len u) 0 G d j i T g) (M (.x ()))
def W2(G:Sl bf)(B T:Z4)(g:b_ 200 bu)(j:bf)(i:X')(D:bf)(d:Mo bf X'):aY (Fw Unit Empty bf):=H (bG (λq:(Sl bf)×(Mo bf X')=>bF B T g j i D q.1 q.2) (G,d)) (Fw.elim (λe=>M (.n ())) (λe=>M (.r D)))
def lq(B D:Z4)(G:b_ 200 bu)(d:bf)(T:X')(x:bf×WF):aY (Fw Unit Empty bf):=W2 (Sl.row [x.1]:Sl bf) B D G d T x.1 []
def E1(B D:Z4)(G:b_ 200 bu)(d:bf)(T:X'):aY (bf×X'):=H (kN B) λu=>H (mm (λ(x:bf×WF)(q:Unit)=>lq B D G d T x) u ()) (Fw.tg (λq=>M (⟨0,0⟩,O)) (λe=>c! e) (λe=>M (e,U)))
end jD
def jD(B:Z4)(D:b_ 200 bu):aY (bf×X'):=H (kK B) λu=>jD.E1 u B D (⟨0,0⟩:bf) O
open jD in
instance Zk(B:Z4)(G:b_ 200 bu):Fc Sy cL (jD B G):=Fc.M 78 [enc B,.fptr (cells G)] (bO 2 2 B (bp 9 λw _=>Ib λg Q=>DN 4 [Pv 2,Pv 3,Pv 4,Pv 5,(13,.v (.clo 108 [] [.fptr (cells w)]))] (λS=>[Xb 2 B,(3,.box [cp G]),Xb 4 (⟨0,0⟩:bf),(5,.box [bv O])]) (λI=>c! I) (λI=>[Xb 2 B,(3,.box [cp G]),Xb 4 I,(5,.box [bv U])]) (Bx w g Q) (λC S=>AV 4 (dh 18 (λu=>⟨[Pv 2,Pv 3,Pv 4,Pv 5,Pv 6,(7,.mp 16),Ov 8,(13,.v (.clo 108 [] [.fptr (cells w)]))],[Xb 2 B,(3,.box [cp G]),Xb 4 (⟨0,0⟩:bf),(5,.box [bv O]),Xb 6 C.1,(16,wC u.2),Lb 2008 u.1],[2,3,4,5],[],U,0⟩) (λd=>(2,⟨[Pv 2,Pv 3,Pv 4,Pv 5,(13,.v (.clo 108 [] [.fptr (cells w)]))],[Xb 2 B,(3,.box [cp G]),Xb 4 (⟨0,0⟩:bf),(5,.box [bv O])],[2,3,4,5],[],U,0⟩)) (λd=>⟨[],[Xb 2 B,(3,.box [cp G]),Xb 4 C.1,(5,.box [bv U])],[2,3,4,5],[],U,0⟩) (λu=>Ak 6 2008 u.1 (bn 3 21 (Ak 8 2008 u.1 (jk N 1 2008 λm _=>oR 0 2008 0 2 U (λL=>.agg [.int N L.proc,.int N L.index]) λL _=>Ak 8 2008 u.1 (Xi 1 O U 2008 32 [.int N (w? N ((len u.1)-1))] λX _=>bp 8 λi _=>bL 0 i (dh 6 (λz=>⟨[Pv 2,Pv 3,Pv 4,Pv 5,Pv 6,(7,.mp 16),Ov 8,(13,.v (.clo 108 [] [.fptr (cells w)])),Cv 36 i,Iv 37 (len i),Iv 38 z.2.1],[Xb 2 B,(3,.box [cp G]),Xb 4 (⟨0,0⟩:bf),(5,.box [bv O]),Xb 6 C.1,(16,wC z.2.2),Lb 2008 z.1],[2,3,4,5],[],U,0⟩) (λD=>(4,⟨[Pv 2,Pv 3,Pv 4,Pv 5,Pv 6,(7,.mp 16),Ov 8,(13,.v (.clo 108 [] [.fptr (cells w)]))],[Xb 2 B,(3,.box [cp G]),Xb 4 (⟨0,0⟩:bf),(5,.box [bv O]),Xb 6 C.1,(16,wC D.2),Lb 2008 D.1],[2,3,4,5],[],U,0⟩)) (λD=>⟨[],[Xb 2 B,(3,.box [cp G]),Xb 4 C.1,(5,.box [bv U])],[2,3,4,5],[],U,0⟩) (λz=>bn 8 39 (bB 7 λT _=>bn 13 44 aZ (ac2 7 16 z.2.2 T O (ck 3 49 aZ (acz 5 16 z.2.2 T U (mB 6 2008 54 55 λj _=>aZ))))) aZ) (λD=>aZ) (λD=>aZ))))) aZ)) (λd=>aZ) (λd=>aZ))) (λS=>aZ) (λx=>c! x) (λI=>aZ)))
namespace jb
def OB(B D:Z4)(G:bf)(d:Int)(x:bf×WF):aY (Fw Unit Empty (bf×Int)):=H (dV D x.1 x.2) λu=>bg (u==0) (M (.n ())) (M (.r (x.1,u)))
def E2(B D:Z4)(G:bf)(d:Int):aY (bf×Int):=H (kN B) λz=>H (mm (λ(x:bf×WF)(q:Unit)=>OB B D G d x) z ()) (Fw.tg (λq=>H (fq D) λu=>bg (u.2.2==0) (H (u.1) λC=>H (jD D C) λw=>bg w.2 (M (w.1,10)) (M (⟨0,0⟩,0))) (M (u.2.1,u.2.2))) (λe=>c! e) (λe=>M (e.1,e.2)))
def bh(D:Int)(G:Z4)(d:bf)(T:Int)(B:Int):aY (Fw Int Unit (bf×Int)):=bg (_r (B<D)) (H (fu G B) λu=>bg (u==0) (M (.n (w? N (B+1)))) (M (.r ((⟨B,0⟩:bf),u)))) (M (.x ()))
def W1(d T:Int)(B:Z4)(D:bf)(G:Int):aY (bf×Int):=H (bG (λq:Int=>bh d B D G q) T) (Fw.elim (λe=>H (kK B) λu=>jb.E2 u B D G) (λe=>M (e.1,e.2)))
end jb
def jb(B:Z4):aY (bf×Int):=H (pT (len B.a?) 1 8) λu=>bg u (jb.W1 (len B.a?) 0 B (⟨0,0⟩:bf) 0) (M (⟨0,0⟩,1))
open jb in
instance aar(B:Z4):Fc Sy cL (jb B):=Fc.M 50 [enc B] (bO 2 1 B (bL 9 B.a? (bp 0 λi _=>ck 3 18 (bL 8 B.a? (dh 5 (λC=>(bD [Pv 1,Pv 2,Pv 3,Iv 22 (len B.a?),Iv 23 C] [Xb 1 B,Xb 2 (⟨0,0⟩:bf),(3,.box [iv 0])])) (λu=>(0,(bD [Pv 1,Pv 2,Pv 3] [Xb 1 B,Xb 2 (⟨0,0⟩:bf),(3,.box [iv 0])]))) (λu=>(bD [Pv 2,Pv 3] [Xb 2 u.1,(3,.box [iv u.2])])) (λC=>bn 7 24 (bp 15 λQ _=>ck 9 30 aZ aZ) aZ) (λu=>bp 6 λz _=>Ib λd D=>DN 4 [Pv 1,Pv 2,Pv 3,(36,.v (.clo 108 [] [.fptr (cells z)]))] (λG=>[Xb 1 B,Xb 2 (⟨0,0⟩:bf),(3,.box [iv 0])]) (λw=>c! w) (λw=>[Xb 1 B,Xb 2 w.1,(3,.box [iv w.2])]) (Bx z d D) (λL G=>oN 8 7 0 L.2 (AV 1 (bp 7 λS _=>ck 9 44 aZ aZ))) (λG=>bp 5 λI _=>ck 17 54 (LD 8 (λT=>(bD [Pv 2,Pv 3,(36,.v (.clo 108 [] [.fptr (cells z)])),Pv 10,Iv 11 I.2.2,Bv 54 O,Cv 58 B,Cv 59 T] [Xb 1 B,Xb 2 (⟨0,0⟩:bf),(3,.box [iv 0]),Xb 10 I.2.1])) λg _=>bp 0 λj _=>bn 13 63 aZ aZ) aZ) (λx=>c! x) (λw=>aZ)) (λu=>aZ))) aZ)))
def cw(B:Z4):aY X':=H (jb B) λu=>M (u.2==0)
instance aaK(B:Z4):Fc Sy cL (cw B):=Fc.M 22 [enc B] (bO 2 1 B (bp 6 λu _=>aZ))
def wm(B:Int):aY X':=H (bg (B==2) (M U) (M (B==3)):aY X') λu=>H (bg u (M U) (M (B==4)):aY X') λw=>M w
instance Wq(B:Int):Fc Sy cL (wm B):=Fc.M 177 [.int N B] (bK 10 3 [5] 8 (bn 10 5 (br 3) (br 3)) λu=>bK 1 3 [0,9] 12 (bn 1 9 (br 3) (br 3)) λw=>aZ)
def mg(B:T'):aY X':=H (bg (_r (B.kind<1)) (M U) (M (_r (B.kind>=22))):aY X') λz=>(bg z (M U) (H (b_.at xA B.kind) λC=>M (!((len B.l)==C))):aY X').bind λD=>H (bg D (M U) (M (_r (B.n<0))):aY X') λG=>H (bg G (M U) (M (_r (B.n>1125899906842624))):aY X') λI=>(bg I (M U) (H (bg (B.n==0) (M O) (M (!(B.kind==1))):aY X') λd=>M d):aY X').bind λL=>bg L (M O) (H (wm B.kind) λg=>(bg g (M U) (H (bg (B.proc==0) (M (B.k?==0)) (M O):aY X') λQ=>H (bg Q (M (E? B.name==E? ByteArray.empty)) (M O):aY X') λu=>M u):aY X').bind λw=>M w)
instance XG(B:T'):Fc Sy cL (mg B):=Fc.M 154 [enc B] (bO 2 1 B (bK 10 4 [6] 10 (bn 10 6 (br 4) (br 4)) λD=>bK 1 9 [11] 20 (bn 1 11 (br 9) (dG 2 13 (Pred.eW B.l) (bL 0 B.l (QW 2 N λu w=>PM 0 1 O xA B.kind 0 u w (.int N u) (by rfl) (br 2))))) λG=>bK 1 4 [21] 25 (bn 1 21 (br 4) (br 4)) λI=>bK 1 4 [26] 30 (bn 1 26 (br 4) (br 4)) λd=>bK 1 9 [31] 40 (bn 1 31 (br 9) (bK 4 4 [35] 39 (ck 4 35 (br 4) (br 4)) λL=>br 1)) λg=>bn 2 40 aZ (bp 7 λQ _=>bK 1 14 [1,44] 58 (bn 1 44 (br 14) (bK 4 4 [48] 52 (bn 4 48 (br 4) (br 4)) λS=>bK 1 4 [1,53] 57 (bn 1 53 (br 4) (br 4)) λz=>br 1)) λC=>aZ)))
def jv(D:T')(G B:Int)(r:(T'×Int×Int)->aY (X'×Int)):aY (X'×Int):=H (r (D,w? N (G+1),B)) λu=>M ((!u.1),u.2)
abbrev zO(r:(Pred×Int×Int)->aY (Bool×Int))(a:zy Sy cL 153 (λz:Pred×Int×Int=>[cv z.1,iv z.2.1,.ptr 9004 0,.ptr 9003 0]) (λz:Pred×Int×Int=>[(9004,bx (z.2.2:Int)),(9003,.box [.clo 153 [] [.ptr 9004 0,.ptr 9003 0]])]) (λr:Bool×Int=>[.bool r.1]) (λ(z:Pred×Int×Int)(r:Bool×Int)=>[(9004,bx (r.2:Int)),(9003,.box [.clo 153 [] [.ptr 9004 0,.ptr 9003 0]])]) r)(D:Pred)(G B:Int):pK Sy cL (jv D G B r):=pK.mk' 155 [cv D,.ptr 9003 0,.v (.fptr (cells G))] [(9003,.box [.clo 153 [] [.ptr 9004 0,.ptr 9003 0]]),(9004,bx (B:Int))] (λr:Bool×Int=>[.bool r.1]) (λr:Bool×Int=>[(9003,.box [.clo 153 [] [.ptr 9004 0,.ptr 9003 0]]),(9004,bx (r.2:Int))]) (bO 2 3 D (vu 9 (pK.of (D,w? N (G+1),B) a) λu _=>aZ))
def eY(G:T')(B D:Int)(r:(T'×Int×Int)->aY (X'×Int)):aY (X'×Int):=H (bg (_r ((w? N (D-1))<0)) (M U) (M (_r (B>20))):aY X') λw=>(bg w (M U) (H (mg G) λz=>M (!z)):aY X').bind λC=>bg C (M (O,w? N (D-1))) (H (B3 G.l (λx s=>jv x B s r) (w? N (D-1))) λu=>M ((!u.1),u.2))
theorem zN(r:(T'×Int×Int)->aY (X'×Int))(a:zy Sy cL 153 (λz:T'×Int×Int=>[cv z.1,iv z.2.1,.ptr 9004 0,.ptr 9003 0]) (λz:T'×Int×Int=>[(9004,bx (z.2.2:Int)),(9003,.box [.clo 153 [] [.ptr 9004 0,.ptr 9003 0]])]) (λr:X'×Int=>[.bool r.1]) (λ(z:T'×Int×Int)(r:X'×Int)=>[(9004,bx (r.2:Int)),(9003,.box [.clo 153 [] [.ptr 9004 0,.ptr 9003 0]])]) r)(D:T')(B G:Int):∀d,eY D B G r=M d->∃m',cL 153 [cv D,iv B,.ptr 9004 0,.ptr 9003 0] [(9004,bx (G:Int)),(9003,.box [.clo 153 [] [.ptr 9004 0,.ptr 9003 0]])]=M (((λr:X'×Int=>[.bool r.1]) d).map .v,m')/\∀T,lY m' ([(9004,bx (G:Int)),(9003,.box [.clo 153 [] [.ptr 9004 0,.ptr 9003 0]])].map (·.1)) T=M (q9 T ((λr:X'×Int=>[(9004,bx (r.2:Int)),(9003,.box [.clo 153 [] [.ptr 9004 0,.ptr 9003 0]])]) d)):=(pK.mk' 153 [cv D,iv B,.ptr 9004 0,.ptr 9003 0] [(9004,bx (G:Int)),(9003,.box [.clo 153 [] [.ptr 9004 0,.ptr 9003 0]])] (λr:X'×Int=>[.bool r.1]) (λr:X'×Int=>[(9004,bx (r.2:Int)),(9003,.box [.clo 153 [] [.ptr 9004 0,.ptr 9003 0]])]) (bO 2 4 D (bK 17 3 [11] 14 (bn 17 11 (br 3) (br 3)) λu=>bK 1 4 [15] 19 (bn 1 15 (br 4) (bp 1 λw _=>br 2)) λC=>bn 2 19 aZ (dG 7 21 (Pred.eW D.l) (vu 2 (rq (Af.ofK (σ:=Int) (g:=155) (e:=[.ptr 9003 0,cp B]) (os:=λs=>[(9003,.box [.clo 153 [] [.ptr 9004 0,.ptr 9003 0]]),(9004,bx (s:Int))]) (p:=(λx s=>jv x B s r)) (λx s=>zO r a x B s)) D.l (w? N (G-1))) λI _=>aZ)))):pK Sy cL (eY D B G r)).h
def sB(D:T')(B G:Int):aY (X'×Int):=dm (λr(z:T'×Int×Int)=>eY z.1 z.2.1 z.2.2 r) 100000 (D,B,G)
abbrev BY(D:Pred)(B G:Int):pK Sy cL (sB D B G):=pK.of (D,B,G) (zy.fix (A:=λz:Pred×Int×Int=>[cv z.1,iv z.2.1,.ptr 9004 0,.ptr 9003 0]) (O:=λz:Pred×Int×Int=>[(9004,bx (z.2.2:Int)),(9003,.box [.clo 153 [] [.ptr 9004 0,.ptr 9003 0]])]) (E:=λr:Bool×Int=>[.bool r.1]) (M:=λ(z:Pred×Int×Int)(r:Bool×Int)=>[(9004,bx (r.2:Int)),(9003,.box [.clo 153 [] [.ptr 9004 0,.ptr 9003 0]])]) (b:=(λr(z:Pred×Int×Int)=>eY z.1 z.2.1 z.2.2 r)) o? o? o? (λr a z=>zN r a z.1 z.2.1 z.2.2) 100000)
def ng(B:T'):aY X':=H (sB B 1 200) λu=>M u.1
instance T_(B:T'):Fc Sy cL (ng B):=Fc.M 124 [enc B] (bO 2 1 B (vu 26 (BY B 1 200) λu _=>aZ))
def lT(B:Z4)(p1:Int):aY X':=H (bg (_r (p1>=0)) (M (_r (p1<(len B.a?)))) (M O):aY X') λu=>M u
instance Uc(B:Z4)(p1:Int):Fc Sy cL (lT B p1):=Fc.M 157 [enc B,.int N p1] (bO 2 2 B (bK 8 6 [1,2,7] 13 (bn 8 7 (bL 3 B.a? (br 2)) (br 6)) λu=>aZ))
def qm(B:Var)(D:U'):aY X':=M (E? B.name==E? D)
instance Ry(B:Var)(D:U'):Fc Sy cL (qm B D):=Fc.M 178 [enc B,.fptr (cells D)] (aZ)
def tF(D:Z4)(p1:Int)(B:U'):aY X':=H (idx D.a? p1) λu=>H (iR u.g? (λz=>qm z B)) λw=>M w
instance UZ(D:Z4)(p1:Int)(B:U'):Fc Sy cL (tF D p1 B):=Fc.M 158 [enc D,.int N p1,.str B] (bO 2 3 D (bB 9 λu _=>bY (F:=rW 178 [.fptr (cells B)] (λz=>qm z B) mM.tJ u.g?) 3 λw _=>aZ))
def lW(B:T')(D:Z4):aY X':=bg (B.kind==2) ((lT D B.proc).bind λC=>(bg C (M (B.k?==0)) (M O):aY X').bind λG=>(bg G ((tF D B.proc B.name).bind λI=>M I) (M O):aY X').bind λd=>M d) (bg (B.kind==3) ((lT D B.proc).bind λL=>(bg L (M (B.k?==0)) (M O):aY X').bind λg=>(bg g (M (E? B.name==E? ByteArray.empty)) (M O):aY X').bind λQ=>M Q) (bg (B.kind==4) ((lT D B.proc).bind λS=>(bg S ((lT D B.k?).bind λT=>M T) (M O):aY X').bind λu=>(bg u (M (!(B.proc==B.k?))) (M O):aY X').bind λw=>(bg w (M (E? B.name==E? ByteArray.empty)) (M O):aY X').bind λz=>M z) (M U)))
instance Nq (B:Pred) (D:Trace):Fc Sy cL (lW B D):=Fc.M 156 [enc B,.fptr (cells D)] (bO 2 2 B (bn 17 6 (bp 6 λC _=>bK 1 4 [12] 16 (bn 1 12 (br 4) (br 4)) λG=>bK 1 7 [1,2,17] 24 (bn 1 17 (bp 5 λI _=>br 1) (br 7)) λd=>aZ) (bn 7 25 (bp 6 λL _=>bK 1 4 [31] 35 (bn 1 31 (br 4) (br 4)) λg=>bK 1 4 [2,36] 40 (bn 1 36 (br 4) (br 4)) λQ=>aZ) (bn 7 41 (bp 6 λS _=>bK 1 5 [1,47] 52 (bn 1 47 (bp 3 λT _=>br 1) (br 5)) λu=>bK 1 6 [53] 59 (bn 1 53 (br 6) (br 6)) λw=>bK 1 4 [2,60] 64 (bn 1 60 (br 4) (br 4)) λz=>aZ) aZ))))
def uI(B:T')(p1:T'->aY X')(r:T'->aY X'):aY X':=H (r B) λu=>M (!u)
abbrev CM(g1:FuncId)(e1:aX V)(p1:Pred->aY Bool)(b:mM Sy cL g1 [] e1 (λz:Pred=>[enc z]) (λr:Bool=>[.bool r]) p1 U)(r:Pred->aY Bool)(a:eP Sy cL 129 (λz:Pred=>[enc z,.clo g1 [] e1]) (λr:Bool=>[.bool r]) r U)(B:Pred):Fc Sy cL (uI B p1 r):=Fc.M 165 [enc B,.fptr [.clo g1 [] e1]] (bO 2 2 B (bp (F:=Fc.of B a) 7 λu _=>aZ))
def ku(D:T')(p1:T'->aY X')(r:T'->aY X'):aY X':=H (p1 D) λw=>(bg w (H (B3 D.l (λx u=>((λz=>uI z p1 r) x).map λb=>(b,u)) ()) λB=>M (!B.1)) (M O):aY X').bind λC=>M C
theorem Ct(g1:Y')(e1:So)(p1:T'->aY X')(a:mM Sy cL g1 [] e1 (λz:T'=>[enc z]) (λr:X'=>[.bool r]) p1 U)(r:T'->aY X')(b:eP Sy cL 129 (λz:T'=>[enc z,.clo g1 [] e1]) (λr:X'=>[.bool r]) r U)(B:T'):Le (H (ku B p1 r) λr=>M [.bool r]) (gO cL 129 [enc B,.clo g1 [] e1]):=(Fc.M 129 [enc B,.clo g1 [] e1] (bO 2 2 B (Aa 8 a.f B λw _=>xu 1 6 [] (λu=>(bD [Bv 14 u] [Xb 2 B])) (bn 1 8 (dG 2 10 (Pred.eW B.l) (vu 2 (ny (Af.ofP (g:=165) (e:=[.fptr [.clo g1 [] e1]]) (p:=(λz=>uI z p1 r)) (mM.tJ (F:=λz=>CM g1 e1 p1 a r b z))) B.l ()) λC _=>br 2)) (br 7)) λu=>aZ)):Fc Sy cL (ku B p1 r)).F.h ()
def o_(B:T')(p1:T'->aY X'):aY X':=dm (λr(z:T')=>ku z p1 r) 100000 B
abbrev vr(g1:FuncId)(e1:aX V)(p1:Pred->aY Bool)(a:mM Sy cL g1 [] e1 (λz:Pred=>[enc z]) (λr:Bool=>[.bool r]) p1 U)(B:Pred):Fc Sy cL (o_ B p1):=Fc.of B (eP.fix (A:=λz:Pred=>[enc z,.clo g1 [] e1]) (E:=λr:Bool=>[.bool r]) (sc:=U) (b:=(λr(z:Pred)=>ku z p1 r)) o? (λ_ _=>rfl) (λr c z=>Ct g1 e1 p1 a r c z) 100000)
def qi(B:Z4)(p1:T'):aY X':=H (o_ p1 (λz=>lW z B)) λu=>M u
instance Rx (B:Trace) (p1:Pred):Fc Sy cL (qi B p1):=Fc.M 125 [enc B,enc p1] (bO 2 2 B (bO 0 3 p1 (bY (F:=vr 156 [.fptr (cells B)] (λz=>lW z B) mM.tJ p1) 7 λu _=>aZ)))
def m_(B:Int):PH:=bg (_r (B<=8)) (M 1) (M 2)
instance T9(B:Int):Fc Sy cL (m_ B):=Fc.M 161 [.int N B] (bn 12 4 aZ aZ)
def tZ(B:Int):PH:=bg (_r (B<=12)) (M 1) (M 2)
instance W_(B:Int):Fc Sy cL (tZ B):=Fc.M 162 [.int N B] (bn 12 4 aZ aZ)
def nM(B D:T'):aY X':=H (m_ B.kind) λu=>H (tZ D.kind) λw=>M (!(u==w))
instance NG(B D:T'):Fc Sy cL (nM B D):=Fc.M 160 [enc B,.fptr (cells D)] (bO 2 2 B (bY 7 λu _=>bY 2 λw _=>aZ))
def j_(B:T'):aY X':=H (B3 B.l (λx u=>((λz=>nM z B) x).map λb=>(b,u)) ()) λw=>M (!w.1)
instance RA(B:T'):Fc Sy cL (j_ B):=Fc.M 159 [enc B] (bO 2 1 B (dG 7 4 (Pred.eW B.l) (vu 2 (ny (Af.ofP (g:=160) (e:=[.fptr (cells B)]) (p:=(λz=>nM z B)) mM.tJ) B.l ()) λu _=>aZ)))
def qQ(B:T'):aY X':=H (o_ B (λz=>j_ z)) λu=>M u
instance UE(B:T'):Fc Sy cL (qQ B):=Fc.M 126 [enc B] (bO 2 1 B (bp (F:=vr 159 [] (λz=>j_ z) mM.tJ B) 6 λu _=>aZ))
namespace dA
def bF(D:Zg)(B i4:Int):aY (Fw (Int×Int) Int Empty):=bg (_r (i4<(len D))) (H (idx D i4) λu=>M (.n ((if u<B then u else B),w? N (i4+1)))) (M (.x B))
def W2(B:Zg)(D i4:Int):PH:=H (bG (λq:Int×Int=>bF B q.1 q.2) (D,i4)) (Fw.elim (λe=>M e) (λe=>c! e))
def J1(B:Zg):PH:=H (idx B 0) λu=>dA.W2 B u 1
end dA
def dA(B:Zg):PH:=bg (_r ((len B)<1)) (J) (dA.J1 B)
open dA in
instance WG(B:Zg):Fc Sy cL (dA B):=Fc.M 93 [enc B] (bL 9 B (bn 3 7 ((Le.none _)) (qC 4 (bB 3 λz _=>dW 12 (λu=>(bD [Cv 0 B,Iv 3 u.1,Iv 4 u.2] [])) (λw=>(0,(bD [Iv 3 w] []))) (λu=>bL 6 B (bn 3 15 (bB 9 λC _=>aZ) aZ)) (λw=>aZ)))))
namespace fE
def bF(D:Zg)(B i4:Int):aY (Fw (Int×Int) Int Empty):=bg (_r (i4<(len D))) (H (idx D i4) λu=>M (.n ((if u>B then u else B),w? N (i4+1)))) (M (.x B))
def W2(B:Zg)(D i4:Int):PH:=H (bG (λq:Int×Int=>bF B q.1 q.2) (D,i4)) (Fw.elim (λe=>M e) (λe=>c! e))
def J1(B:Zg):PH:=H (idx B 0) λu=>fE.W2 B u 1
end fE
def fE(B:Zg):PH:=bg (_r ((len B)<1)) (J) (fE.J1 B)
open fE in
instance Us(B:Zg):Fc Sy cL (fE B):=Fc.M 208 [enc B] (bL 9 B (bn 3 7 ((Le.none _)) (qC 4 (bB 3 λz _=>dW 12 (λu=>(bD [Cv 0 B,Iv 3 u.1,Iv 4 u.2] [])) (λw=>(0,(bD [Iv 3 w] []))) (λu=>bL 6 B (bn 3 15 (bB 9 λC _=>aZ) aZ)) (λw=>aZ)))))
def nr(B:Zg):aY bX:=H (dA B) λu=>H (fE B) λw=>M ⟨u,w⟩
instance XW(B:Zg):Fc Sy cL (nr B):=Fc.M 181 [enc B] (bp 8 λu _=>bp 1 λw _=>aZ)
namespace fK
def bh(T:Int)(D:Sl WF)(G:Int)(d B:Int):aY (Fw (Int×Int) Int Empty):=bg (_r (B<G)) (H (idx D B) λu=>H (bg (u.kind==2) (M (u.k?==T)) (M O):aY X') λw=>bg w (M (.n (w? N (d+1),w? N (B+1)))) (M (.n (d,w? N (B+1))))) (M (.x d))
def W1(d T:Int)(B:Sl WF)(D G:Int):PH:=H (bG (λq:Int×Int=>bh d B D q.1 q.2) (T,G)) (Fw.elim (λe=>M e) (λe=>c! e))
end fK
def fK(B:Z4)(p1 D:Int):PH:=H (idx B.a? p1) λu=>fK.W1 D 0 u.b? (len u.b?) 0
open fK in
instance Rz(B:Z4)(p1 D:Int):Fc Sy cL (fK B p1 D):=Fc.M 206 [enc B,.int N p1,.int N D] (bO 2 3 B (bB 14 λu _=>bL 2 u.b? (dW 5 (λw=>(bD [Iv 2 D,Iv 7 w.1,Cv 15 u.b?,Iv 16 (len u.b?),Iv 17 w.2] [])) (λz=>(0,(bD [Iv 7 z] []))) (λw=>bn 7 18 (bB 7 λC _=>oN 2 9 0 C (bK 8 5 [9,24] 29 (bn 8 24 (br 5) (br 5)) λG=>bn 2 29 aZ aZ)) aZ) (λz=>aZ))))
def qj(B:Var)(D:U'):aY X':=M (E? B.name==E? D)
instance RE(B:Var)(D:U'):Fc Sy cL (qj B D):=Fc.M 227 [enc B,.fptr (cells D)] (aZ)
def wo(D:bS)(B:U'):PH:=H (fR D.g? (λz=>qj z B)) λu=>M u
instance Vv(D:bS)(B:U'):Fc Sy cL (wo D B):=Fc.M 226 [enc D,.str B] (bO 2 2 D (bY (F:=pZ 227 [.fptr (cells B)] (λz=>qj z B) mM.tJ D.g?) 9 λu _=>aZ))
def uj(D:Z4)(p1:Int)(B:U'):aY (Int×Int):=H (cw D) λw=>bg w (H (bg (_r (p1<0)) (M U) (M (_r (p1>=(len D.a?)))):aY X') λz=>bg z (M (0,2)) (H (idx D.a? p1) λC=>H (wo C B) λu=>bg (_r (u<0)) (M (0,13)) (M (u,0)))) (M (0,1))
instance Xd(D:Z4)(p1:Int)(B:U'):Fc Sy cL (uj D p1 B):=Fc.M 220 [enc D,.int N p1,.str B] (bO 2 3 D (bp 9 λu _=>ck 4 9 (bK 6 6 [16] 22 (bn 6 16 (br 6) (bL 3 D.a? (br 2))) λw=>bn 3 13 aZ (bB 9 λz _=>bp 2 λC _=>bn 10 31 aZ aZ)) aZ))
def dx(s0:Zg):aY Zg:=H (Sl.isNil s0) λu=>bg u (M Sl.nil) (H (oC (Sl.row []:Zg) s0) λw=>M w)
theorem eR:vG Sy cL 19 (λs0:Zg=>[enc s0]) (λz=>dx z):=vG.mk' (rC (Tx 19)) (λs0=>Mx 9 λu _=>bn 2 4 aZ (xY 7 5 7 λw _=>aZ))
def pE(B:bS):aY bS:=M B
instance Ul(B:bS):Fc Sy cL (pE B):=Fc.NE (λr:bS=>[(.clo 183 [] [.fptr (cells r)])]) 166 [enc B] (bO 2 1 B aZ)
namespace gR
def lq(D:bS)(G:Int)(x:Int×(Zg))(B:Zg):aY (Fw Zg Empty Empty):=H (idx x.2 G) λu=>H (d_ B (u:Int)) λw=>M (.n w)
def E1(B:bS)(G:Int)(D:Zg):aY Zg:=H (kM B) λu=>H (mm (λ(x:Int×(Zg))(q:Zg)=>lq B G x q) u D) (Fw.tg (λq=>M q) (λe=>c! e) (λe=>c! e))
end gR
def gR(B:bS)(i1:Int):aY Zg:=H (pE B) λu=>gR.E1 u i1 (Sl.nil:Zg)
open gR in
instance Ui(D:bS)(i1:Int):Fc Sy cL (gR D i1):=Fc.N 221 [enc D,.int N i1] (bO 2 2 D (bp 13 λz _=>Ib λC B=>DN 5 [Pv 3,Pv 5,(9,.v (.clo 183 [] [.fptr (cells z)]))] (λu=>[(3,.box [iv i1]),(5,.box [.own 4100]),Lb 4100 u]) (λw=>c! w) (λw=>c! w) (IS z C B) (λG u=>AV 3 (bB 7 λI _=>mB 2 4100 17 18 λd _=>aZ)) (λu=>aZ) (λx=>c! x) (λx=>c! x)))
def tB(G:Z4)(p1:Int)(B:U'):aY (Int×Int×Int):=H (uj G p1 B) λu=>bg (u.2==0) (H (idx G.a? p1) λz=>H (gR z u.1) λw=>H (dA w) λC=>H (fE w) λD=>M (C,D,0)) (M (0,0,u.2))
instance Ur(D:Z4)(p1:Int)(B:U'):Fc Sy cL (tB D p1 B):=Fc.M 207 [enc D,.int N p1,.str B] (bO 2 3 D (bp 10 λu _=>ck 14 19 (bB 8 λw _=>bp 2 λz _=>bp 6 λC _=>bp 1 λG _=>aZ) aZ))
def nu(B:Z4)(p1:T'):aY bX:=bg (p1.kind==1) (H (nr (Sl.row [p1.n]:Zg)) λw=>M w) (bg (p1.kind==3) (H (idx B.a? p1.proc) λz=>M ⟨0,len z.b?⟩) (bg (p1.kind==4) (H (fK B p1.proc p1.k?) λC=>M ⟨0,C⟩) (H (tB B p1.proc p1.name) λu=>M ⟨u.1,u.2.1⟩)))
instance XZ(B:Z4)(p1:T'):Fc Sy cL (nu B p1):=Fc.M 179 [enc B,enc p1] (bO 2 2 B (bO 0 3 p1 (bn 17 10 (bY 6 λw _=>aZ) (bn 7 16 (bB 7 λu _=>bL 2 u.b? aZ) (bn 7 27 (bp 8 λz _=>aZ) (bp 11 λC _=>aZ))))))
def j9(B:bX):aY X':=H (bg (_r (B.low<(-1125899906842624))) (M U) (M (_r (B.high>1125899906842624))):aY X') λu=>M u
instance Ks(B:bX):Fc Sy cL (j9 B):=Fc.M 180 [enc B] (bK 12 4 [1,6] 10 (bn 12 6 (br 4) (br 4)) λu=>aZ)
def vn(a0:Int):PH:=M (if(w? N (0-a0))>a0 then(w? N (0-a0))else a0)
instance YJ(a0:Int):Fc Sy cL (vn a0):=Fc.M 209 [.int N a0] (aZ)
def kX(a0 B:Int):PH:=H (bg (a0==0) (M U) (M (B==0)):aY X') λu=>bg u (M 0) (H (vn a0) λw=>H (vn B) λz=>H (BK N 1125899906842624 z) λC=>bg (_r (w>C)) (bg ((_r (a0<0))==(_r (B<0))) (M 1125899906842625) (M (w? N (0-1125899906842625)))) (M (w? N (a0*B))))
instance R9(a0 B:Int):Fc Sy cL (kX a0 B):=Fc.M 182 [.int N a0,.int N B] (bK 11 3 [8] 11 (bn 11 8 (br 3) (br 3)) λu=>bn 2 11 aZ (bp 15 λw _=>bp 1 λz _=>ach 0 λC _=>bn 3 20 (ck 15 25 aZ aZ) aZ))
namespace dD
def J2(D B:bX)(r:(Z4×T')->aY (bX×X')):aY (bX×X'):=H (j9 B) λu=>M (B,(!u))
def J1(g T:X')(d:T')(G B D:bX)(r:(Z4×T')->aY (bX×X')):aY (bX×X'):=H (bg g (M (!T)) (M U):aY X') λC=>bg C (M (⟨0,0⟩,O)) (bg (d.kind==5) (dD.J2 G (⟨w? N (0-B.high),w? N (0-B.low)⟩:bX) r) (bg (d.kind==6) (dD.J2 G (⟨w? N (B.low+D.low),w? N (B.high+D.high)⟩:bX) r) (bg (d.kind==7) (dD.J2 G (⟨w? N (B.low-D.high),w? N (B.high-D.low)⟩:bX) r) (H (kX B.low D.low) λI=>H (kX B.low D.high) λL=>H (kX B.high D.low) λu=>H (kX B.high D.high) λw=>H (nr (Sl.row [I,L,u,w]:Zg)) λz=>dD.J2 G z r))))
theorem mX(r:(Z4×T')->aY (bX×X'))(a:eP Sy cL 163 (λz:Z4×T'=>[enc z.1,enc z.2]) (λr:bX×X'=>[enc r.1,.bool r.2]) r U)(D B:X')(G:T')(d T g:bX):Le (H (J1 D B G d T g r) (λr=>M [enc r.1,.bool r.2])) (bV Sy cL (pU (tr Tx 163)) (rQ (tb Tx 163) [1,1,1,1,1,0] [] (bD [Pv 3,Pv 4,Pv 7,Bv 8 D,Pv 9,Bv 10 B] [Xb 3 G,Xb 4 d,Xb 7 T,Xb 9 g]))):=bK 6 3 [10,48] 51 (ck 6 48 (br 3) (br 3)) λQ=>bn 2 51 aZ (bn 22 77 (qC 14 (bY 4 λu _=>aZ)) (bn 7 86 (qC 18 (bY 4 λu _=>aZ)) (bn 7 99 (qC 18 (bY 4 λu _=>aZ)) (bY 6 λI _=>bY 4 λL _=>bY 4 λw _=>bY 4 λC _=>aci 0 ([I,L,w,C]:SW) (.buildC 1 4 [.int N 0] [0,1,2,3]) [iv I,iv L,iv w,iv C] (bY 0 λi _=>qC 5 (bY 4 λu _=>aZ))))))
end dD
def ig(B:Z4)(p1:T')(r:(Z4×T')->aY (bX×X')):aY (bX×X'):=bg ((len p1.l)==0) (H (nu B p1) λw=>H (j9 w) λC=>M (w,(!C))) (H (idx p1.l 0) λD=>H (r (B,D)) λu=>bg ((len p1.l)==2) (H (idx p1.l 1) λG=>H (r (B,G)) λz=>dD.J1 u.2 z.2 p1 (⟨0,0⟩:bX) u.1 z.1 r) (dD.J1 u.2 U p1 (⟨0,0⟩:bX) u.1 u.1 r))
open dD in
theorem Bt(r:(Z4×T')->aY (bX×X'))(a:eP Sy cL 163 (λz:Z4×T'=>[enc z.1,enc z.2]) (λr:bX×X'=>[enc r.1,.bool r.2]) r U)(B:Z4)(p1:T'):Le (H (ig B p1 r) λr=>M [enc r.1,.bool r.2]) (gO cL 163 [enc B,enc p1]):=(Fc.M 163 [enc B,enc p1] (bO 2 2 B (bO 0 3 p1 (dG 9 13 (Pred.eW p1.l) (bL 0 p1.l (bn 3 15 (bp 5 λG _=>bY 8 λI _=>aZ) (dG 8 26 (Pred.eW p1.l) (bB 0 λC _=>bY (F:=Fc.of (B,C) a) 1 λu _=>dG 21 34 (Pred.eW p1.l) (bL 0 p1.l (bn 3 36 (dG 5 40 (Pred.eW p1.l) (bB 0 λD _=>bY (F:=Fc.of (B,D) a) 1 λw _=>nY 8 (mX r a u.2 w.2 p1 (⟨0,0⟩:bX) u.1 w.1))) (nY 4 (mX r a u.2 U p1 (⟨0,0⟩:bX) u.1 u.1))))))))))):Fc Sy cL (ig B p1 r)).F.h ()
def dD(B:Z4)(p1:T'):aY (bX×X'):=dm (λr(z:Z4×T')=>ig z.1 z.2 r) 100000 (B,p1)
instance Ua(B:Z4)(p1:T'):Fc Sy cL (dD B p1):=Fc.of (B,p1) (eP.fix (A:=λz:Z4×T'=>[enc z.1,enc z.2]) (E:=λr:bX×X'=>[enc r.1,.bool r.2]) (sc:=U) (b:=(λr(z:Z4×T')=>ig z.1 z.2 r)) o? (λ_ _=>rfl) (λr a z=>Bt r a z.1 z.2) 100000)
def qo(B:T')(D:Z4)(r:(Z4×T')->aY X'):aY X':=H (r (D,B)) λu=>M (!u)
abbrev Cg(r:(Trace×Pred)->aY Bool)(a:eP Sy cL 127 (λz:Trace×Pred=>[enc z.1,enc z.2]) (λr:Bool=>[.bool r]) r U)(B:Pred)(D:Trace):Fc Sy cL (qo B D r):=Fc.M 164 [enc B,.fptr (cells D)] (bO 2 2 B (bp (F:=Fc.of (D,B) a) 7 λu _=>aZ))
def iS(D:Z4)(p1:T')(r:(Z4×T')->aY X'):aY X':=H (m_ p1.kind) λw=>bg (w==1) (H (dD D p1) λB=>M B.2) (H (B3 p1.l (λx u=>((λz=>qo z D r) x).map λb=>(b,u)) ()) λC=>M (!C.1))
theorem Ch(r:(Z4×T')->aY X')(a:eP Sy cL 127 (λz:Z4×T'=>[enc z.1,enc z.2]) (λr:X'=>[.bool r]) r U)(B:Z4)(p1:T'):Le (H (iS B p1 r) λr=>M [.bool r]) (gO cL 127 [enc B,enc p1]):=(Fc.M 127 [enc B,enc p1] (bO 2 2 B (bO 0 3 p1 (bp 8 λu _=>bn 3 10 (bp 5 λw _=>aZ) (dG 7 19 (Pred.eW p1.l) (vu 2 (ny (Af.ofP (g:=164) (e:=[.fptr (cells B)]) (p:=(λz=>qo z B r)) (mM.tJ (F:=λz=>Cg r a z B))) p1.l ()) λC _=>aZ))))):Fc Sy cL (iS B p1 r)).F.h ()
def wG(B:Z4)(p1:T'):aY X':=dm (λr(z:Z4×T')=>iS z.1 z.2 r) 100000 (B,p1)
instance V9(B:Z4)(p1:T'):Fc Sy cL (wG B p1):=Fc.of (B,p1) (eP.fix (A:=λz:Z4×T'=>[enc z.1,enc z.2]) (E:=λr:X'=>[.bool r]) (sc:=U) (b:=(λr(z:Z4×T')=>iS z.1 z.2 r)) o? (λ_ _=>rfl) (λr a z=>Ch r a z.1 z.2) 100000)
def s8(B:Z4)(p1:T'):PH:=H (cw B) λu=>(bg u (H (ng p1) λw=>M (!w)) (M U):aY X').bind λz=>bg z (M 1) (H (qi B p1) λC=>bg C (H (qQ p1) λD=>bg D (H (wG B p1) λG=>bg G (M 0) (M 9)) (M 14)) (M 13))
instance US(B:Z4)(p1:T'):Fc Sy cL (s8 B p1):=Fc.M 94 [enc B,enc p1] (bO 2 2 B (bO 0 3 p1 (bp 8 λu _=>bK 2 4 [9] 13 (ck 2 9 (bp 1 λw _=>br 2) (br 4)) λz=>bn 3 5 aZ (bp 5 λC _=>ck 4 14 (bp 4 λD _=>ck 4 19 (bp 5 λG _=>ck 4 23 aZ aZ) aZ) aZ))))
def tY(B:T'):aY (Int×Int):=H (ng B) λu=>bg u (H (qQ B) λw=>bg w (H (m_ B.kind) λz=>M (z,0)) (M (0,14))) (M (0,1))
instance XY(B:T'):Fc Sy cL (tY B):=Fc.M 128 [enc B] (bO 2 1 B (bp 9 λu _=>ck 4 4 (bp 4 λw _=>ck 4 8 (bp 8 λz _=>aZ) aZ) aZ))
def wq(D:T')(B:Int):PH:=H (tY D) λu=>H (bg (u.2==0) (M (!(u.1==B))) (M U):aY X') λw=>bg w (M 14) (M 0)
instance Vl(D:T')(B:Int):Fc Sy cL (wq D B):=Fc.M 95 [enc D,.int N B] (bO 2 2 D (bp 7 λu _=>bK 12 4 [1,5,14] 18 (ck 12 14 (br 4) (br 4)) λw=>bn 2 18 aZ aZ))
def tN(B:Int):aY X':=H (bg (_r (B>=18)) (M (_r (B<=21))) (M O):aY X') λu=>M u
instance Rs(B:Int):Fc Sy cL (tN B):=Fc.M 131 [.int N B] (bK 10 3 [0,5] 8 (bn 10 5 (br 3) (br 3)) λu=>aZ)
def nQ(B:T'):aY X':=H (tN B.kind) λu=>M (!u)
instance Nw(B:T'):Fc Sy cL (nQ B):=Fc.M 130 [enc B] (bO 2 1 B (bp 7 λu _=>aZ))
def qq(D:T'):aY X':=H (ng D) λu=>(bg u (H (o_ D (λz=>nQ z)) λw=>M (!w)) (M O):aY X').bind λB=>M B
instance RD(B:T'):Fc Sy cL (qq B):=Fc.M 96 [enc B] (bO 2 1 B (bp 6 λu _=>bK 1 4 [1,5] 9 (bn 1 5 (bp (F:=vr 130 [] (λz=>nQ z) mM.tJ B) 1 λw _=>br 2) (br 4)) λC=>aZ))
namespace js
def lq(D:Z4)(B G:Int)(d:bf)(T:X')(x:bf×WF):aY (Fw Unit Empty bf):=H (bg (x.2.kind==B) (M (x.2.d?==G)) (M O):aY X') λu=>bg u (M (.r x.1)) (M (.n ()))
def E1(B:Z4)(D G:Int)(d:bf)(T:X'):aY (bf×X'):=H (kN B) λu=>H (mm (λ(x:bf×WF)(q:Unit)=>lq B D G d T x) u ()) (Fw.tg (λq=>M (⟨0,0⟩,O)) (λe=>c! e) (λe=>M (e,U)))
end js
def js(D:Z4)(B G:Int):aY (bf×X'):=H (cw D) λu=>bg u (H (kK D) λw=>js.E1 w B G (⟨0,0⟩:bf) O) (M (⟨0,0⟩,O))
open js in
instance ab2(G:Z4)(B D:Int):Fc Sy cL (js G B D):=Fc.M 135 [enc G,.int N B,.int N D] (bO 2 3 G (bp 10 λL _=>ck 3 12 (bp 7 λw _=>Ib λI z=>DN 4 [Pv 4,Pv 5,Pv 6,Pv 7,(15,.v (.clo 108 [] [.fptr (cells w)]))] (λC=>[(4,.box [iv B]),(5,.box [iv D]),Xb 6 (⟨0,0⟩:bf),(7,.box [bv O])]) (λu=>c! u) (λu=>[(4,.box [iv B]),(5,.box [iv D]),Xb 6 u,(7,.box [bv U])]) (Bx w I z) (λd C=>oN 8 9 0 d.2 (AV 1 (bK 9 5 [9,22] 27 (bn 9 22 (br 5) (br 5)) λg=>bn 2 27 aZ aZ))) (λC=>aZ) (λx=>c! x) (λu=>aZ)) aZ))
def sH(B:Z4)(m1:Int):aY (bf×X'):=H (js B 2 m1) λu=>M (u.1,u.2)
instance Zj(B:Z4)(m1:Int):Fc Sy cL (sH B m1):=Fc.M 102 [enc B,.int N m1] (bO 2 2 B (bp 8 λu _=>aZ))
namespace mb
def J3(B:Sl bf)(i:Sl bS)(m j:Int)(a:Sl WF)(b G:Int)(g:Z4)(c T:cD)(d:bS)(D:bf):aY (Fw ((Sl bf)×Int×Z4×cD×cD) ((Sl bf)×Z4×cD) Empty):=H (d_ B (D:bf)) λu=>M (.n (u,w? N (G+1),g,(⟨Sl.nil,Sl.nil⟩:cD),T))
def bF(j:Sl bS)(i a:Int)(d:Sl WF)(T:Int)(b:bS)(B:Sl bf)(D:Int)(G:Z4)(c g:cD):aY (Fw ((Sl bf)×Int×Z4×cD×cD) ((Sl bf)×Z4×cD) Empty):=bg (_r (D<T)) (H (idx d D) λu=>bg (u.kind==3) (H (sH G u.d?) λw=>J3 B j i a d T D G (⟨Sl.nil,Sl.nil⟩:cD) g b w.1) (J3 B j i a d T D G (⟨Sl.nil,Sl.nil⟩:cD) g b (⟨0,0⟩:bf))) (M (.x (B,G,g)))
def W2(B:Sl bf)(d:Sl bS)(T D:Int)(g:Sl WF)(j i:Int)(a:Z4)(b c:cD)(G:bS):aY (Fw (Int×Z4×cD×cD) cD Empty):=H (bG (λq:(Sl bf)×Int×Z4×cD×cD=>bF d T D g j G q.1 q.2.1 q.2.2.1 q.2.2.2.1 q.2.2.2.2) (B,i,a,b,c)) (Fw.elim (λe=>H (d_ e.2.2.lengths (len G.b?:Int)) λu=>H (d_ e.2.2.need (e.1:Sl bf)) λw=>M (.n (w? N (D+1),e.2.1,(⟨Sl.nil,Sl.nil⟩:cD),(⟨u,w⟩:cD)))) (λe=>c! e))
def bh(D:Sl bS)(G:Int)(B:Int)(T:Z4)(g d:cD):aY (Fw (Int×Z4×cD×cD) cD Empty):=bg (_r (B<G)) (H (idx D B) λu=>W2 (Sl.nil:Sl bf) D G B u.b? (len u.b?) 0 T (⟨Sl.nil,Sl.nil⟩:cD) d u) (M (.x d))
def W1(B:Sl bS)(D G:Int)(d:Z4)(T g:cD):aY cD:=H (bG (λq:Int×Z4×cD×cD=>bh B D q.1 q.2.1 q.2.2.1 q.2.2.2) (G,d,T,g)) (Fw.elim (λe=>M e) (λe=>c! e))
end mb
def mb(B:Z4):aY cD:=mb.W1 B.a? (len B.a?) 0 B (⟨Sl.nil,Sl.nil⟩:cD) (⟨Sl.nil,Sl.nil⟩:cD)
open mb in
instance adU(D:Z4):Fc Sy cL (mb D):=Fc.N 114 [enc D] (bO 2 1 D (bL 13 D.a? (dW 7 (λu=>(bD [Pv 1,Pv 2,Pv 3,Cv 11 D.a?,Iv 12 (len D.a?),Iv 13 u.1] [Xb 1 u.2.1,Xb 2 (⟨Sl.nil,Sl.nil⟩:cD),(3,.box [.own 4060,.own 4061]),Lb 4060 u.2.2.2.lengths,Lb 4061 u.2.2.2.need])) (λC=>(0,(bD [Pv 2,Pv 3] [Xb 2 (⟨Sl.nil,Sl.nil⟩:cD),(3,.box [.own 4060,.own 4061]),Lb 4060 C.lengths,Lb 4061 C.need]))) (λu=>bn 9 14 (bB 7 λw _=>oN 2 5 0 w (bL 12 w.b? (dW 8 (λz=>(bD [Pv 1,Pv 2,Pv 3,Pv 5,Ov 6,Cv 11 D.a?,Iv 12 (len D.a?),Iv 13 u.1,Cv 18 w.b?,Iv 19 (len w.b?),Iv 20 z.2.1] [Xb 1 z.2.2.1,Xb 2 (⟨Sl.nil,Sl.nil⟩:cD),(3,.box [.own 4060,.own 4061]),Xb 5 w,Lb 2006 z.1,Lb 4060 z.2.2.2.2.lengths,Lb 4061 z.2.2.2.2.need])) (λB=>(2,(bD [Pv 1,Pv 2,Pv 3,Pv 5,Ov 6,Cv 11 D.a?,Iv 12 (len D.a?),Iv 13 u.1] [Xb 1 B.2.1,Xb 2 (⟨Sl.nil,Sl.nil⟩:cD),(3,.box [.own 4060,.own 4061]),Xb 5 w,Lb 2006 B.1,Lb 4060 B.2.2.lengths,Lb 4061 B.2.2.need]))) (λz=>bn 10 21 (bB 7 λG _=>oN 2 8 0 G (bn 15 26 (bp 5 λd _=>qC 10 (mB 4 2006 36 37 λI _=>aZ)) (qC 7 (mB 4 2006 36 37 λI _=>aZ)))) aZ) (λB=>bL 8 w.b? (mB 1 4060 44 45 λL _=>vD 9 50 ([B.1]:aX (Sl bf)) (mB 0 4061 50 51 λg _=>aZ)))))) aZ) (λC=>oN 7 2 0 C aZ))))
def qX(d:cD)(B:Zg)(p2:Int):aY X':=H (idx B p2) λw=>H (idx d.lengths p2) λz=>bg (w==z) (M O) (H (idx d.need p2) λC=>H (idx B p2) λD=>H (idx C D) λu=>H (idx B u.proc) λG=>M (_r (u.index<=G)))
instance SA(B:cD)(D:Zg)(p2:Int):Fc Sy cL (qX B D p2):=Fc.M 142 [enc B,enc D,.int N p2] (bO 2 3 B (bB 8 λu _=>bB 4 λw _=>bn 4 17 aZ (bB 8 λz _=>bB 3 λC _=>bB 1 λG _=>bB 12 λI _=>aZ)))
def ug(B:Int):aY X':=M (!(B==B))
instance X3(B:Int):Fc Sy cL (ug B):=Fc.M 196 [.int N B] (aZ)
def sj(B D:Int):PH:=H (ug B) λw=>H (ug D) λu=>bg w (bg u (M 0) (M (-1))) (bg u (M 1) (bg (_r (B<D)) (M (-1)) (bg (_r (B>D)) (M 1) (M 0))))
instance Ud(B D:Int):Fc Sy cL (sj B D):=Fc.M 171 [.int N B,.int N D] (bp 8 λu _=>bp 6 λw _=>bn 9 11 (bn 7 12 aZ aZ) (bn 9 13 aZ (bn 11 16 aZ (bn 11 19 aZ aZ))))
namespace fT
def bh(d D T:Zg)(G:Int)(B:Int):aY (Fw Int Unit Int):=bg (_r (B<G)) (H (idx T B) λw=>bg (_r (B>=(len D))) (M (.r 1)) (H (idx D B) λz=>H (sj w z) λu=>bg (u==0) (M (.n (w? N (B+1)))) (M (.r u)))) (M (.x ()))
def W1(B D T:Zg)(G d:Int):PH:=H (bG (λq:Int=>bh B D T G q) d) (Fw.elim (λe=>bg (_r ((len B)<(len D))) (M (-1)) (M 0)) (λe=>M e))
end fT
def fT(B D:Zg):PH:=fT.W1 B D B (len B) 0
open fT in
instance Qo(B D:Zg):Fc Sy cL (fT B D):=Fc.M 145 [enc B,enc D] (bL 9 B (dh 5 (λw=>(bD [Cv 0 B,Cv 1 D,Cv 9 B,Iv 10 (len B),Iv 11 w] [])) (λu=>(0,(bD [Cv 0 B,Cv 1 D] []))) (λu=>(bD [Iv 4 u] [])) (λw=>bn 7 12 (bB 8 λz _=>bL 10 D (bn 3 19 aZ (bB 7 λC _=>bp 8 λG _=>ck 9 28 aZ aZ))) aZ) (λu=>bL 6 B (bL 1 D (bn 3 35 aZ aZ))) (λu=>aZ)))
def lE(a0 B:Zg):PH:=H (fT a0 B) λu=>M u
instance PB(a0 B:Zg):Fc Sy cL (lE a0 B):=Fc.M 144 [enc a0,enc B] (bp 9 λu _=>aZ)
namespace fF
def bh(D G:Zg)(d:Int)(B:Int):aY (Fw Int Unit Unit):=bg (_r (B<d)) (H (idx D B) λu=>H (idx G B) λw=>bg (u==w) (M (.n (w? N (B+1)))) (M (.r ()))) (M (.x ()))
def W1(B D:Zg)(G d:Int):aY X':=H (bG (λq:Int=>bh B D G q) d) (Fw.elim (λe=>M U) (λe=>M O))
end fF
def fF(B D:Zg):aY X':=bg ((len B)==(len D)) (fF.W1 B D (len B) 0) (M O)
open fF in
instance Ta(B D:Zg):Fc Sy cL (fF B D):=Fc.M 11 [enc B,enc D] (bL 9 B (bL 1 D (ck 3 10 (bL 7 B (dh 5 (λw=>(bD [Cv 0 B,Cv 1 D,Iv 12 (len B),Iv 13 w] [])) (λu=>(0,(bD [] []))) (λu=>(bD [Bv 4 O] [])) (λw=>bn 7 14 (bB 15 λz _=>bB 3 λC _=>ck 4 24 aZ aZ) aZ) (λu=>aZ) (λu=>aZ))) aZ)))
def mU(a0 B:Zg):aY X':=H (fF a0 B) λu=>M u
instance Qt(a0 B:Zg):Fc Sy cL (mU a0 B):=Fc.M 147 [enc a0,enc B] (bp 9 λu _=>aZ)
namespace eT
def bF(T:Zg)(g:Zb)(W Y G:Int)(d:cD)(D:Zb)(B:Int):aY (Fw ((Zb)×Int) Zb Empty):=bg (_r (B<G)) ((qX d T B).bind λw=>bg w (((dx T).bind Sl.whole).bind λu=>(Sl.iA u B).bind λz=>(Sl.get u z).bind λC=>(Sl.iA u B).bind λI=>(Sl.put u I (w? N (C+1):Int)).bind λL=>(d_ D (L:Zg)).bind λi=>M (.n (i,w? N (B+1)))) (M (.n (D,w? N (B+1))))) (M (.x D))
def W2(B:Zb)(i:Zg)(d:Zb)(D G T g:Int)(j:cD):aY (Fw ((Zb)×Int×Int) Zb Empty):=H (bG (λq:(Zb)×Int=>bF i d D G T j q.1 q.2) (B,g)) (Fw.elim (λe=>M (.n (e,D,w? N (G+1)))) (λe=>c! e))
def bh(G:Zb)(T:cD)(B:Zb)(d D:Int):aY (Fw ((Zb)×Int×Int) Zb Empty):=bg (_r (D<d)) (H (idx G D) λu=>W2 B u G d D (len u) 0 T) (M (.x B))
def W1(B D:Zb)(G d:Int)(T:cD):aY Zb:=H (bG (λq:(Zb)×Int×Int=>bh D T q.1 q.2.1 q.2.2) (B,G,d)) (Fw.elim (λe=>H (BQ e lE) λw=>H (Av w mU) λu=>M u) (λe=>c! e))
end eT
def eT(D:cD)(B:Zb):aY Zb:=eT.W1 (Sl.nil:Zb) B (len B) 0 D
open eT in
instance Ue(G:cD)(B:Zb):Fc Sy cL (eT G B):=Fc.N 115 [enc G,enc B] (bO 2 2 G (bL 12 B (dW 6 (λu=>(bD [Pv 2,Ov 5,Cv 10 B,Iv 11 u.2.1,Iv 12 u.2.2] [Xb 2 G,Lb 2005 u.1])) (λI=>(0,(bD [Ov 5] [Lb 2005 I]))) (λu=>bn 8 13 (bB 7 λw _=>bL 7 w (dW 6 (λC=>(bD [Pv 2,Ov 5,Cv 7 w,Cv 10 B,Iv 11 u.2.1,Iv 12 u.2.2,Iv 17 (len w),Iv 18 C.2] [Xb 2 G,Lb 2005 C.1])) (λd=>(2,(bD [Pv 2,Ov 5,Cv 10 B,Iv 11 u.2.1,Iv 12 u.2.2] [Xb 2 G,Lb 2005 d]))) (λC=>bn 8 19 (bp 16 λQ _=>bn 2 24 (Bz 4 26 eR w λS _=>jk N 7 26 λT _=>oR 0 26 0 1 O (λD=>.int N D) λD _=>jk N 1 26 λg _=>zI 0 26 (.int N (w? N (D+1))) λL _=>vD 6 35 ([L]:aX Zg) (mB 0 2005 35 36 λW _=>aZ)) aZ) aZ) (λd=>aZ))) aZ) (λI=>acU 5 2005 QB Ie ZX (eP.tJ (λz=>inferInstanceAs (Fc Sy cL (lE z.1 z.2))) default (λ_=>rfl) (λ_=>rfl) (λ_=>rfl) (λ_=>rfl)) λX _=>ado 5 2005 42 QB Ie Zy (eP.tJ (λz=>inferInstanceAs (Fc Sy cL (mU z.1 z.2))) default (λ_=>rfl) (λ_=>rfl) (λ_=>rfl) (λ_=>rfl)) λi _=>aZ))))
namespace lP
def bh(d:cD)(B:Zb)(G:Sl Zb)(D:Int):aY (Fw ((Zb)×(Sl Zb)×Int) (Sl Zb) Unit):=bg (_r ((len B)>0)) (bg (_r ((w? N (D+(len B)))>5000)) (M (.r ())) (H (d_ G (B:Zb)) λu=>H (eT d B) λw=>M (.n (w,u,w? N (D+(len B)))))) (M (.x G))
def W1(B:Zb)(G:Sl Zb)(D:Int)(d:cD):aY ((Sl Zb)×Int):=H (bG (λq:(Zb)×(Sl Zb)×Int=>bh d q.1 q.2.1 q.2.2) (B,G,D)) (Fw.elim (λe=>M (e,0)) (λe=>M ((Sl.nil:Sl Zb),16)))
end lP
def lP(B:Z4):aY ((Sl Zb)×Int):=H (cw B) λu=>bg u (H (mb B) λw=>H (nv (len B.a?) (0:Int)) λz=>lP.W1 (Sl.row [z]:Zb) (Sl.nil:Sl Zb) 0 w) (M ((Sl.nil:Sl Zb),1))
open lP in
instance aaJ (B:Trace):Fc Sy cL (lP B):=Fc.N 79 [enc B] (bO 2 1 B (bp 8 λD _=>ck 3 10 (bp 6 λz _=>oN 1 4 0 z (bL 6 B.a? (Ox 0 16 λC _=>vD 1 17 ([C]:aX (Sl Int)) (dh 18 (λu=>(bD [Pv 4,Cv 5 u.1,Ov 6,Iv 7 u.2.2] [Xb 4 z,Lb 2006 u.2.1])) (λw=>(0,(bD [Ov 6] [Lb 2006 w]))) (λw=>(bD [Ov 2,Iv 3 16] [Lb 2002 (Sl.nil:Sl (Sl (Sl Int)))])) (λu=>bL 7 u.1 (bn 3 20 (bL 10 u.1 (bn 10 29 aZ (vD 6 32 ([u.1]:aX (Sl (Sl Int))) (mB 0 2006 32 33 λG _=>bp 7 λI _=>aZ)))) aZ)) (λw=>aZ) (λw=>aZ))))) aZ))
def gT(s:Sl Zb):aY Zb:=if W s.l<=2147483648/\W (s.l.flatMap Sl.l)<=2147483648 then M (EF s)else J
instance Qc(s:Sl Zb):Fc Sy cL (gT s):=Fc.of (A:=λz:Sl Zb=>[enc z]) (E:=λr:Zb=>[enc r]) (p:=gT) (n:=80) (z:=s) (eP.aen o? o? (λz r h=>by
 unfold gT at h;split at h
 next a=>cases h;exact IN (Y0 (E:=Sy.E) (N:=λn=>n) (gid:=116) (nm:=M) (λ_ _ h=>(Option.some.inj h).symm) Y o? o? (B6 o?) (B6 o?) Y z a.1 a.2)
 cases h))
def sU(B:Z4):aY ((Zb)×Int):=H (lP B) λu=>H (gT u.1) λw=>M (w,u.2)
instance acK(B:Z4):Fc Sy cL (sU B):=Fc.N 51 [enc B] (bO 2 1 B (bp 7 λu _=>bp 10 λw _=>aZ))
def mT(B:Z4):aY ((Zb)×Int):=H (sU B) λu=>M (u.1,u.2)
instance acM(B:Z4):Fc Sy cL (mT B):=Fc.N 23 [enc B] (bO 2 1 B (bp 7 λu _=>aZ))
def iV(c0:Zg)(B:Z4):aY X':=M (!((len c0)==(len B.a?)))
instance X9(c0:Zg)(B:Z4):Fc Sy cL (iV c0 B):=Fc.M 101 [enc c0,.fptr (cells B)] (bL 8 c0 (bL 2 B.a? aZ))
namespace iu
def bh(s0:Zb)(D:Int)(B:Int)(p1:(Zg)->aY X'):aY (Fw Int Unit Int):=bg (_r (B<D)) (H (idx s0 B) λu=>H (p1 u) λw=>bg w (M (.r B)) (M (.n (w? N (B+1))))) (M (.x ()))
def W1(s0:Zb)(B D:Int)(p1:(Zg)->aY X'):PH:=H (bG (λq:Int=>bh s0 B q p1) D) (Fw.elim (λe=>M (-1)) (λe=>M e))
end iu
def iu(s0:Zb)(p1:(Zg)->aY X'):PH:=iu.W1 s0 (len s0) 0 p1
open iu in
abbrev zM(g1:FuncId)(e1:aX V)(p1:(Sl Int)->aY Bool)(a:mM Sy cL g1 [] e1 (λz:Sl Int=>[enc z]) (λr:Bool=>[.bool r]) p1 U)(s0:Sl (Sl Int)):Fc Sy cL (iu s0 p1):=Fc.M 123 [enc s0,.clo g1 [] e1] (bL 9 s0 (dh 5 (λw=>(bD [Cv 0 s0,(1,.v (.clo g1 [] e1)),Iv 7 (len s0),Iv 8 w] [])) (λu=>(0,(bD [] []))) (λu=>(bD [Iv 4 u] [])) (λw=>bn 7 9 (bB 16 λB _=>Aa 1 a.f B λC _=>bn 2 16 aZ aZ) aZ) (λu=>aZ) (λu=>aZ)))
def jL(s0:Zb)(p1:(Zg)->aY X'):aY X':=H (iu s0 p1) λu=>M (_r (u>=0))
abbrev rm(g1:FuncId)(e1:aX V)(p1:(Sl Int)->aY Bool)(a:mM Sy cL g1 [] e1 (λz:Sl Int=>[enc z]) (λr:Bool=>[.bool r]) p1 U)(s0:Sl (Sl Int)):Fc Sy cL (jL s0 p1):=Fc.M 91 [enc s0,.clo g1 [] e1] (bp (F:=zM g1 e1 p1 a s0) 9 λu _=>aZ)
def uW(D:Z4)(G:Zb):aY X':=H (cw D) λu=>(bg u (H (jL G (λz=>iV z D)) λw=>M (!w)) (M O):aY X').bind λB=>M B
instance acL(B:Z4)(D:Zb):Fc Sy cL (uW B D):=Fc.M 70 [enc B,enc D] (bO 2 2 B (bp 6 λu _=>bK 1 5 [1,2,7] 12 (bn 1 7 (bY (F:=rm 101 [.fptr (cells B)] (λz=>iV z B) mM.tJ D) 2 λw _=>br 2) (br 5)) λC=>aZ))
namespace kI
def bh(G:Zg)(d:Int)(D:Z4)(B:Int):aY (Fw Int Unit Unit):=bg (_r (B<d)) (H (idx G B) λu=>(bg (_r (u<0)) (M U) (H (idx D.a? B) λw=>M (_r (u>(len w.b?)))):aY X').bind λz=>bg z (M (.r ())) (M (.n (w? N (B+1))))) (M (.x ()))
def W1(D:Zg)(G d:Int)(B:Z4):aY X':=H (bG (λq:Int=>bh D G B q) d) (Fw.elim (λe=>M U) (λe=>M O))
end kI
def kI(D:Z4)(B:Zg):aY X':=kI.W1 B (len B) 0 D
open kI in
instance aao(D:Z4)(B:Zg):Fc Sy cL (kI D B):=Fc.M 71 [enc D,enc B] (bO 2 2 D (bL 7 B (dh 5 (λw=>(bD [Pv 2,Cv 7 B,Iv 8 (len B),Iv 9 w] [Xb 2 D])) (λu=>(0,(bD [] []))) (λu=>(bD [Bv 4 O] [])) (λw=>bn 7 10 (bB 8 λC _=>bK 10 10 [5,6,16] 26 (bn 10 16 (br 10) (bB 4 λz _=>bL 2 z.b? (br 2))) λG=>bn 2 26 aZ aZ) aZ) (λu=>aZ) (λu=>aZ))))
def wT(B:Z4)(p1:Int):aY X':=H (bg (_r (p1>=0)) (M (_r (p1<(len B.a?)))) (M O):aY X') λu=>M u
instance aaH(B:Z4)(p1:Int):Fc Sy cL (wT B p1):=Fc.M 99 [enc B,.int N p1] (bO 2 2 B (bK 8 6 [1,2,7] 13 (bn 8 7 (bL 3 B.a? (br 2)) (br 6)) λu=>aZ))
namespace iL
def bF(j:Zg)(p7:Int)(i:Zg)(a b:Int)(d:Sl WF)(T:Int)(g:Z4)(G D:bf)(B:Int):aY (Fw Int Unit (bf×bf)):=bg (_r (B<T)) (H (idx d B) λw=>bg (w.kind==3) (H (sH g w.d?) λu=>H (idx j u.1.proc) λz=>bg (_r (u.1.index>z)) (M (.r (u.1,(⟨p7,w? N (B+1)⟩:bf)))) (M (.n (w? N (B+1))))) (M (.n (w? N (B+1))))) (M (.x ()))
def W2(a:Zg)(p7:Int)(d:Zg)(T G:Int)(g:Sl WF)(j i:Int)(b:Z4)(D B:bf):aY (Fw Int Unit (bf×bf)):=H (bG (λq:Int=>bF a p7 d T G g j b D B q) i) (Fw.elim (λe=>M (.n (w? N (G+1)))) (λe=>M (.r (e.1,e.2))))
def bh(i d:Zg)(T:Int)(g:Z4)(G B:bf)(D:Int):aY (Fw Int Unit (bf×bf)):=bg (_r (D<T)) (H (idx d D) λw=>H (idx g.a? D) λz=>H (gN z.b? J (M w)) λu=>W2 i D d T D u (len u) 0 g G B) (M (.x ()))
def W1(i G:Zg)(d T:Int)(g:Z4)(D B:bf):aY (bf×bf×X'):=H (bG (λq:Int=>bh i G d g D B q) T) (Fw.elim (λe=>M (⟨0,0⟩,⟨0,0⟩,O)) (λe=>M (e.1,e.2,U)))
end iL
def iL(D:Z4)(B:Zg):aY (bf×bf×X'):=iL.W1 B B (len B) 0 D (⟨0,0⟩:bf) (⟨0,0⟩:bf)
open iL in
instance aaz(D:Z4)(B:Zg):Fc Sy cL (iL D B):=Fc.M 72 [enc D,enc B] (bO 2 2 D (bL 9 B (dh 5 (λu=>(bD [Cv 1 B,Pv 2,Pv 4,Pv 5,Cv 13 B,Iv 14 (len B),Iv 15 u] [Xb 2 D,Xb 4 (⟨0,0⟩:bf),Xb 5 (⟨0,0⟩:bf)])) (λw=>(0,(bD [Pv 4,Pv 5] [Xb 4 (⟨0,0⟩:bf),Xb 5 (⟨0,0⟩:bf)]))) (λw=>(bD [Pv 4,Pv 5,Bv 6 U] [Xb 4 w.1,Xb 5 w.2])) (λu=>bn 7 16 (bB 8 λI _=>bB 10 λL _=>Ds 3 O U [.int N I] λC _=>bL 0 C (dh 5 (λG=>(bD [Cv 1 B,Pv 2,Pv 4,Pv 5,Iv 7 u,Cv 13 B,Iv 14 (len B),Iv 15 u,Cv 27 C,Iv 28 (len C),Iv 29 G] [Xb 2 D,Xb 4 (⟨0,0⟩:bf),Xb 5 (⟨0,0⟩:bf)])) (λz=>(2,(bD [Cv 1 B,Pv 2,Pv 4,Pv 5,Cv 13 B,Iv 14 (len B),Iv 15 u] [Xb 2 D,Xb 4 (⟨0,0⟩:bf),Xb 5 (⟨0,0⟩:bf)]))) (λz=>(bD [Pv 4,Pv 5,Bv 6 U] [Xb 4 z.1,Xb 5 z.2])) (λG=>bn 7 30 (bB 8 λd _=>oN 3 10 0 d (ck 10 36 (bp 8 λg _=>bB 15 λQ _=>bn 4 51 aZ aZ) aZ)) aZ) (λz=>aZ) (λz=>aZ))) aZ) (λw=>aZ) (λw=>aZ))))
def yU(B:Z4)(D:Zg):aY X':=H (iL B D) λu=>M (!u.2.2)
instance aba(B:Z4)(D:Zg):Fc Sy cL (yU B D):=Fc.M 100 [enc B,enc D] (bO 2 2 B (bp 7 λu _=>aZ))
namespace dw
def eH(D:Zb)(G:Int)(d:Z4)(B:Int):aY (Fw Int Unit Unit):=bg (_r (B<G)) (H (idx D B) λu=>H (yU d u) λw=>bg w (M (.n (w? N (B+1)))) (M (.r ()))) (M (.x ()))
def W3(B:Zb)(D G:Int)(d:Z4):PH:=H (bG (λq:Int=>eH B D d q) G) (Fw.elim (λe=>M 0) (λe=>M 18))
def bF(T:Zb)(D:Zg)(G:Int)(d:Z4)(B:Int):aY (Fw Int Unit Unit):=bg (_r (B<G)) (H (idx D B) λu=>H (wT d u) λw=>bg w (M (.n (w? N (B+1)))) (M (.r ()))) (M (.x ()))
def W2(D:Zb)(G:Zg)(d T:Int)(B:Z4):PH:=H (bG (λq:Int=>bF D G d B q) T) (Fw.elim (λe=>dw.W3 D (len D) 0 B) (λe=>M 2))
def bh(g:Zb)(D:Zg)(G:Zb)(d:Int)(T:Z4)(B:Int):aY (Fw Int Unit Unit):=bg (_r (B<d)) (H (idx G B) λu=>H (kI T u) λw=>bg w (M (.n (w? N (B+1)))) (M (.r ()))) (M (.x ()))
def W1(g:Zb)(B:Zg)(G:Zb)(d T:Int)(D:Z4):PH:=H (bG (λq:Int=>bh g B G d D q) T) (Fw.elim (λe=>dw.W2 g B (len B) 0 D) (λe=>M 2))
end dw
def dw(G:Z4)(D:Zb)(B:Zg):PH:=H (uW G D) λu=>bg u (dw.W1 D B D (len D) 0 G) (M 1)
open dw in
instance acF(G:Z4)(D:Zb)(B:Zg):Fc Sy cL (dw G D B):=Fc.M 69 [enc G,enc D,enc B] (bO 2 3 G (bp 8 λL _=>ck 3 16 (bL 7 D (dh 5 (λC=>(bD [Cv 1 D,Cv 2 B,Pv 3,Cv 17 D,Iv 18 (len D),Iv 19 C] [Xb 3 G])) (λu=>(0,(bD [Cv 1 D,Cv 2 B,Pv 3] [Xb 3 G]))) (λu=>(bD [Iv 6 2] [])) (λC=>bn 7 20 (bB 7 λi _=>bp 8 λQ _=>ck 3 26 aZ aZ) aZ) (λu=>bL 6 B (dh 5 (λI=>(bD [Cv 1 D,Pv 3,Cv 28 B,Iv 29 (len B),Iv 30 I] [Xb 3 G])) (λw=>(2,(bD [Cv 1 D,Pv 3] [Xb 3 G]))) (λw=>(bD [Iv 6 2] [])) (λI=>bn 7 31 (bB 7 λS _=>bp 8 λT _=>ck 3 37 aZ aZ) aZ) (λw=>bL 6 D (dh 5 (λd=>(bD [Pv 3,Cv 39 D,Iv 40 (len D),Iv 41 d] [Xb 3 G])) (λz=>(4,(bD [] []))) (λz=>(bD [Iv 6 18] [])) (λd=>bn 7 42 (bB 7 λg _=>bp 8 λj _=>ck 3 48 aZ aZ) aZ) (λz=>aZ) (λz=>aZ))) (λw=>aZ))) (λu=>aZ))) aZ))
namespace kA
def bh(G:Zg)(d:Int)(B:Sl bf)(D:Int):aY (Fw ((Sl bf)×Int) (Sl bf) Empty):=bg (_r (D<d)) (H (idx G D) λu=>bg (_r (u>0)) (H (d_ B (⟨D,u⟩:bf)) λw=>M (.n (w,w? N (D+1)))) (M (.n (B,w? N (D+1))))) (M (.x B))
def W1(B:Sl bf)(D:Zg)(G d:Int):aY ((Sl bf)×Int):=H (bG (λq:(Sl bf)×Int=>bh D G q.1 q.2) (B,d)) (Fw.elim (λe=>M (e,0)) (λe=>c! e))
end kA
def kA(D:Z4)(B:Zg):aY ((Sl bf)×Int):=H (dw D (Sl.row [B]:Zb) (Sl.nil:Zg)) λu=>bg (u==0) (kA.W1 (Sl.nil:Sl bf) B (len B) 0) (M (Sl.nil,u))
open kA in
instance YN(D:Z4)(B:Zg):Fc Sy cL (kA D B):=Fc.N 132 [enc D,enc B] (bO 2 2 D (vD 9 12 ([B]:aX Zg) (bY 0 λz _=>ck 9 15 (bL 12 B (dW 6 (λu=>(bD [Ov 7,Cv 17 B,Iv 18 (len B),Iv 19 u.2] [Lb 2007 u.1])) (λw=>(0,(bD [Ov 7] [Lb 2007 w]))) (λu=>bn 8 20 (bB 8 λC _=>bn 11 25 (mB 7 2007 30 31 λG _=>aZ) aZ) aZ) (λw=>aZ))) aZ)))
namespace gG
def lq(B:bS)(D:Int)(x:Int×(Zg))(G:Zg):aY (Fw Zg Empty Zg):=bg (x.1==D) (M (.r x.2)) (M (.n (Sl.nil:Zg)))
def E1(B:bS)(D:Int)(G:Zg):aY Zg:=H (kM B) λu=>H (mm (λ(x:Int×(Zg))(q:Zg)=>lq B D x q) u G) (Fw.tg (λq=>M Sl.nil) (λe=>c! e) (λe=>M e))
end gG
def gG(B:bS)(k1:Int):aY Zg:=H (pE B) λu=>gG.E1 u k1 (Sl.nil:Zg)
open gG in
instance Vg(D:bS)(k1:Int):Fc Sy cL (gG D k1):=Fc.N 133 [enc D,.int N k1] (bO 2 2 D (bp 8 λw _=>Ib λC z=>DN 4 [Pv 3,Pv 4,(8,.v (.clo 183 [] [.fptr (cells w)]))] (λB=>[(3,.box [iv k1]),(4,.box [.v .bN])]) (λu=>c! u) (λu=>[(3,.box [iv k1]),(4,.box [cv u])]) (IS w C z) (λG B=>AV 8 (bn 9 13 (oN 4 4 0 G.2 aZ) aZ)) (λB=>aZ) (λx=>c! x) (λu=>aZ)))
namespace jO
def bh(G:Zg)(d:Int)(T:Z4)(D:Zb)(B:Int):aY (Fw ((Zb)×Int) Zb Empty):=bg (_r (B<d)) (H (idx G B) λu=>H (idx T.a? B) λw=>H (gG w u) λz=>H (d_ D (z:Zg)) λC=>M (.n (C,w? N (B+1)))) (M (.x D))
def W1(B:Zb)(D:Zg)(G d:Int)(T:Z4):aY ((Zb)×Int):=H (bG (λq:(Zb)×Int=>bh D G T q.1 q.2) (B,d)) (Fw.elim (λe=>M (e,0)) (λe=>c! e))
end jO
def jO(D:Z4)(B:Zg):aY ((Zb)×Int):=H (kA D B) λu=>bg (u.2==0) (jO.W1 (Sl.nil:Zb) B (len B) 0 D) (M (Sl.nil,u.2))
open jO in
instance aaB(D:Z4)(B:Zg):Fc Sy cL (jO D B):=Fc.N 97 [enc D,enc B] (bO 2 2 D (bp 9 λC _=>ck 13 18 (bL 12 B (dW 6 (λu=>(bD [Pv 2,Ov 8,Cv 20 B,Iv 21 (len B),Iv 22 u.2] [Xb 2 D,Lb 2008 u.1])) (λw=>(0,(bD [Ov 8] [Lb 2008 w]))) (λu=>bn 8 23 (bB 8 λG _=>bB 10 λI _=>bp 2 λz _=>vD 0 35 ([z]:aX Zg) (mB 0 2008 35 36 λd _=>aZ)) aZ) (λw=>aZ))) aZ))
def lH(B:Var)(D:T'):aY X':=M (E? B.name==E? D.name)
instance JQ(B:Var)(D:T'):Fc Sy cL (lH B D):=Fc.M 184 [enc B,.fptr (cells D)] (aZ)
def qc(D:cr)(p1:T'):PH:=H (idx D.t.a? p1.proc) λu=>H (fR u.g? (λz=>lH z p1)) λw=>H (idx D.values p1.proc) λB=>H (idx B w) λC=>M C
instance MX(B:cr)(p1:T'):Fc Sy cL (qc B p1):=Fc.M 167 [enc B,enc p1] (bO 2 2 B (bO 0 3 p1 (bB 10 λu _=>bY (F:=pZ 184 [.fptr (cells p1)] (λz=>lH z p1) mM.tJ u.g?) 3 λw _=>bB 9 λC _=>bB 2 λD _=>aZ)))
def wN(B:Z4)(m1:Int):aY (bf×X'):=H (js B 3 m1) λu=>M (u.1,u.2)
instance Vj(B:Z4)(m1:Int):Fc Sy cL (wN B m1):=Fc.M 210 [enc B,.int N m1] (bO 2 2 B (bp 8 λu _=>aZ))
namespace jK
def bh(g:Zg)(i:Int)(d:Sl WF)(T:Z4)(B:Zg)(G D:Int):aY (Fw ((Zg)×Int×Int) Zg Empty):=bg (_r (D<G)) (H (idx d D) λu=>H (bg (u.kind==2) (M (!(u.k?==i))) (M U):aY X') λC=>bg C (M (.n (B,G,w? N (D+1)))) (H (wN T u.d?) λw=>(bg w.2 (H (idx g w.1.proc) λI=>M (_r (w.1.index>I))) (M U):aY X').bind λL=>bg L (H (d_ B (u.d?:Int)) λz=>M (.n (z,G,w? N (D+1)))) (M (.n (B,G,w? N (D+1)))))) (M (.x B))
def W1(g:Zg)(i:Int)(B:Zg)(D:Sl WF)(G d:Int)(T:Z4):aY ((Zg)×Int):=H (bG (λq:(Zg)×Int×Int=>bh g i D T q.1 q.2.1 q.2.2) (B,G,d)) (Fw.elim (λe=>M (e,0)) (λe=>c! e))
end jK
def jK(B:Z4)(D:Zg)(p2 G:Int):aY ((Zg)×Int):=H (dw B (Sl.row [D]:Zb) (Sl.row [p2,G]:Zg)) λu=>bg (u==0) (H (idx B.a? p2) λz=>H (idx D p2) λC=>H (gN z.b? J (M C)) λw=>jK.W1 D G (Sl.nil:Zg) w (len w) 0 B) (M (Sl.nil,u))
open jK in
instance aag(B:Z4)(D:Zg)(p2 G:Int):Fc Sy cL (jK B D p2 G):=Fc.N 185 [enc B,enc D,.int N p2,.int N G] (bO 2 4 B (vD 9 18 ([D]:aX Zg) (bY 3 λL _=>ck 9 24 (bB 14 λi _=>bB 4 λC _=>Ds 1 O U [.int N C] λw _=>bL 0 w (dW 6 (λu=>(bD [Cv 1 D,Iv 3 G,Pv 4,Ov 11,Cv 36 w,Iv 37 u.2.1,Iv 38 u.2.2] [Xb 4 B,Lb 2011 u.1])) (λz=>(0,(bD [Ov 11] [Lb 2011 z]))) (λu=>bn 8 39 (bB 7 λI _=>oN 2 13 0 I (bK 9 5 [45] 50 (ck 9 45 (br 5) (br 5)) λQ=>bn 2 50 aZ (bp 8 λS _=>bK 13 9 [14,60] 69 (ck 13 60 (bB 5 λT _=>br 3) (br 9)) λg=>bn 2 69 (mB 6 2011 73 74 λd _=>aZ) aZ))) aZ) (λz=>aZ))) aZ)))
def qv(B:cr)(p1:T'):PH:=H (jK B.t B.counts p1.proc p1.k?) λu=>M (len u.1)
instance Nh(B:cr)(p1:T'):Fc Sy cL (qv B p1):=Fc.M 168 [enc B,enc p1] (bO 2 2 B (bO 0 3 p1 (bp 13 λu _=>bL 10 u.1 aZ)))
def fe(B:cr)(p1:T')(r:(cr×T')->PH):PH:=bg (p1.kind==1) (M p1.n) (bg (p1.kind==2) (H (qc B p1) λL=>M L) (bg (p1.kind==3) (H (idx B.counts p1.proc) λi=>M i) (bg (p1.kind==4) (H (qv B p1) λQ=>M Q) (bg (p1.kind==5) (H (idx p1.l 0) λS=>H (r (B,S)) λT=>M (w? N (0-T))) (bg (p1.kind==6) (H (idx p1.l 0) λg=>H (r (B,g)) λm=>H (idx p1.l 1) λX=>H (r (B,X)) λj=>M (w? N (m+j))) (bg (p1.kind==7) (H (idx p1.l 0) λu=>H (r (B,u)) λw=>H (idx p1.l 1) λz=>H (r (B,z)) λC=>M (w? N (w-C))) (H (idx p1.l 0) λD=>H (r (B,D)) λG=>H (idx p1.l 1) λI=>H (r (B,I)) λd=>M (w? N (G*d)))))))))
theorem yG(r:(cr×T')->PH)(a:eP Sy cL 134 (λz:cr×T'=>[enc z.1,enc z.2]) (λr:Int=>[.int N r]) r U)(B:cr)(p1:T'):Le (H (fe B p1 r) λr=>M [.int N r]) (gO cL 134 [enc B,enc p1]):=(Fc.M 134 [enc B,enc p1] (bO 2 2 B (bO 0 3 p1 (bn 17 7 aZ (bn 7 11 (bp 5 λT _=>aZ) (bn 7 16 (bB 7 λg _=>aZ) (bn 7 24 (bp 5 λm _=>aZ) (bn 7 29 (dG 6 33 (Pred.eW p1.l) (bB 0 λG _=>bY (F:=Fc.of (B,G) a) 1 λX _=>aZ)) (bn 7 38 (dG 6 42 (Pred.eW p1.l) (bB 0 λI _=>bY (F:=Fc.of (B,I) a) 1 λj _=>dG 3 48 (Pred.eW p1.l) (bB 0 λd _=>bY (F:=Fc.of (B,d) a) 1 λZ _=>aZ))) (bn 7 53 (dG 6 57 (Pred.eW p1.l) (bB 0 λu _=>bY (F:=Fc.of (B,u) a) 1 λL _=>dG 3 63 (Pred.eW p1.l) (bB 0 λw _=>bY (F:=Fc.of (B,w) a) 1 λi _=>aZ))) (dG 9 70 (Pred.eW p1.l) (bB 0 λC _=>bY (F:=Fc.of (B,C) a) 1 λQ _=>dG 3 76 (Pred.eW p1.l) (bB 0 λD _=>bY (F:=Fc.of (B,D) a) 1 λS _=>aZ)))))))))))):Fc Sy cL (fe B p1 r)).F.h ()
def fc(B:cr)(p1:T'):PH:=dm (λr(z:cr×T')=>fe z.1 z.2 r) 100000 (B,p1)
instance NI(B:cr)(p1:T'):Fc Sy cL (fc B p1):=Fc.of (B,p1) (eP.fix (A:=λz:cr×T'=>[enc z.1,enc z.2]) (E:=λr:Int=>[.int N r]) (sc:=U) (b:=(λr(z:cr×T')=>fe z.1 z.2 r)) o? (λ_ _=>rfl) (λr a z=>yG r a z.1 z.2) 100000)
namespace ga
def J1(j:Int)(g:X')(D:cr)(B:T')(r:(cr×T')->aY X'):aY X':=bg g (M (B.kind==13)) (bg (j==15) (H (idx B.l 0) λu=>H (r (D,u)) λw=>M (!w)) (bg (j==16) (H (idx B.l 0) λz=>H (r (D,z)) λC=>(bg C (H (idx B.l 1) λG=>H (r (D,G)) λI=>M I) (M O):aY X').bind λd=>M d) (H (idx B.l 0) λL=>H (r (D,L)) λi=>(bg i (M U) (H (idx B.l 1) λQ=>H (r (D,Q)) λS=>M S):aY X').bind λT=>M T)))
theorem mX(r:(cr×T')->aY X')(a:eP Sy cL 98 (λz:cr×T'=>[enc z.1,enc z.2]) (λr:X'=>[.bool r]) r U)(T:Int)(G:X')(B:cr)(D:T'):Le (H (J1 T G B D r) (λr=>M [.bool r])) (bV Sy cL (pU (tr Tx 98)) (rQ (tb Tx 98) [1,0,1,0,1,1,1,1,1,1,1,1,1,0] [] (bD [Pv 2,Pv 3,Iv 6 T,Bv 67 G] [Xb 2 B,Xb 3 D]))):=bn 0 67 aZ (bn 7 73 (dG 6 77 (Pred.eW D.l) (bB 0 λC _=>bY (F:=Fc.of (B,C) a) 1 λQ _=>aZ)) (bn 7 82 (dG 6 86 (Pred.eW D.l) (bB 0 λI _=>bY (F:=Fc.of (B,I) a) 1 λS _=>xu 1 7 [96,89] (λu=>(bD [Bv 67 O,Bv 73 O,Bv 82 U,Bv 97 u] [Xb 2 B,Xb 3 D])) (bn 1 90 (dG 3 93 (Pred.eW D.l) (bB 0 λd _=>bY (F:=Fc.of (B,d) a) 1 λg _=>br 1)) (br 7)) λu=>aZ)) (dG 9 100 (Pred.eW D.l) (bB 0 λL _=>bY (F:=Fc.of (B,L) a) 1 λj _=>xu 1 7 [110,103] (λw=>(bD [Bv 67 O,Bv 73 O,Bv 82 O,Bv 111 w] [Xb 2 B,Xb 3 D])) (bn 1 104 (br 7) (dG 3 107 (Pred.eW D.l) (bB 0 λi _=>bY (F:=Fc.of (B,i) a) 1 λX _=>br 1))) λw=>aZ))))
end ga
def fC(B:cr)(p1:T')(r:(cr×T')->aY X'):aY X':=bg (p1.kind==9) (H (idx p1.l 0) λd=>H (fc B d) λL=>H (idx p1.l 1) λi=>H (fc B i) λQ=>M (L==Q)) (bg (p1.kind==10) (H (idx p1.l 0) λS=>H (fc B S) λT=>H (idx p1.l 1) λg=>H (fc B g) λj=>M (!(T==j))) (bg (p1.kind==11) (H (idx p1.l 0) λX=>H (fc B X) λu=>H (idx p1.l 1) λw=>H (fc B w) λz=>M (_r (u<z))) (bg (p1.kind==12) (H (idx p1.l 0) λC=>H (fc B C) λD=>H (idx p1.l 1) λG=>H (fc B G) λI=>M (_r (D<=I))) (bg (p1.kind==13) (ga.J1 p1.kind U B p1 r) (ga.J1 p1.kind (p1.kind==14) B p1 r)))))
open ga in
theorem zn(r:(cr×T')->aY X')(a:eP Sy cL 98 (λz:cr×T'=>[enc z.1,enc z.2]) (λr:X'=>[.bool r]) r U)(B:cr)(p1:T'):Le (H (fC B p1 r) λr=>M [.bool r]) (gO cL 98 [enc B,enc p1]):=(Fc.M 98 [enc B,enc p1] (bO 2 2 B (bO 0 3 p1 (bn 17 7 (dG 6 11 (Pred.eW p1.l) (bB 0 λL _=>bY 1 λi _=>dG 3 17 (Pred.eW p1.l) (bB 0 λQ _=>bY 1 λS _=>aZ))) (bn 7 22 (dG 6 26 (Pred.eW p1.l) (bB 0 λT _=>bY 1 λg _=>dG 3 32 (Pred.eW p1.l) (bB 0 λm _=>bY 1 λX _=>aZ))) (bn 7 37 (dG 6 41 (Pred.eW p1.l) (bB 0 λj _=>bY 1 λu _=>dG 3 47 (Pred.eW p1.l) (bB 0 λw _=>bY 1 λC _=>aZ))) (bn 7 52 (dG 6 56 (Pred.eW p1.l) (bB 0 λD _=>bY 1 λG _=>dG 3 62 (Pred.eW p1.l) (bB 0 λI _=>bY 1 λd _=>aZ))) (bn 8 67 (nY 4 (mX r a p1.kind U B p1)) (nY 7 (mX r a p1.kind (p1.kind==14) B p1))))))))):Fc Sy cL (fC B p1 r)).F.h ()
def ga(B:cr)(p1:T'):aY X':=dm (λr(z:cr×T')=>fC z.1 z.2 r) 100000 (B,p1)
instance Oc(B:cr)(p1:T'):Fc Sy cL (ga B p1):=Fc.of (B,p1) (eP.fix (A:=λz:cr×T'=>[enc z.1,enc z.2]) (E:=λr:X'=>[.bool r]) (sc:=U) (b:=(λr(z:cr×T')=>fC z.1 z.2 r)) o? (λ_ _=>rfl) (λr a z=>zn r a z.1 z.2) 100000)
namespace iw
def bh(i d:Zb)(T:Int)(G:Z4)(g:T')(B:Sl X')(D:Int):aY (Fw ((Sl X')×Int) (Sl X') ((Zb)×(Sl X')×Int)):=bg (_r (D<T)) (H (idx d D) λw=>H (jO G w) λu=>bg (u.2==0) (H (ga (⟨G,w,u.1⟩:cr) g) λz=>H (d_ B (z:X')) λC=>M (.n (C,w? N (D+1)))) (M (.r ((Sl.nil:Zb),(Sl.nil:Sl X'),u.2)))) (M (.x B))
def W1(i:Zb)(B:Sl X')(D:Zb)(G d:Int)(T:Z4)(g:T'):aY ((Zb)×(Sl X')×Int):=H (bG (λq:(Sl X')×Int=>bh i D G T g q.1 q.2) (B,d)) (Fw.elim (λe=>M (i,e,0)) (λe=>M (e.1,e.2.1,e.2.2)))
end iw
def iw(B:Z4)(p1:T'):aY ((Zb)×(Sl X')×Int):=H (s8 B p1) λw=>bg (w==0) (H (wq p1 2) λz=>bg (z==0) (H (qq p1) λC=>bg C (M (Sl.nil,(Sl.nil:Sl X'),15)) (H (mT B) λu=>bg (u.2==0) (iw.W1 u.1 (Sl.nil:Sl X') u.1 (len u.1) 0 B p1) (M (Sl.nil,(Sl.nil:Sl X'),u.2)))) (M (Sl.nil,(Sl.nil:Sl X'),z))) (M (Sl.nil,(Sl.nil:Sl X'),w))
open iw in
instance Yx(B:Z4)(p1:T'):Fc Sy cL (iw B p1):=Fc.N 68 [enc B,enc p1] (bO 2 2 B (bO 0 3 p1 (bp 10 λG _=>ck 9 20 (bp 7 λI _=>ck 9 25 (bp 7 λd _=>bn 2 28 aZ (bp 6 λw _=>ck 14 35 (bL 12 w.1 (dh 6 (λz=>(bD [Pv 2,Pv 3,Cv 9 w.1,Ov 11,Cv 37 w.1,Iv 38 (len w.1),Iv 39 z.2] [Xb 2 B,Xb 3 p1,Lb 2011 z.1])) (λu=>(0,(bD [Cv 9 w.1,Ov 11] [Lb 2011 u]))) (λu=>(bD [Cv 4 u.1,Ov 5,Iv 6 u.2.2] [Lb 2005 u.2.1])) (λz=>bn 8 40 (bB 7 λC _=>bp 8 λD _=>ck 14 50 (aeH 8 (⟨B,C,D.1⟩:cr) [enc B,enc C,enc D.1] [.bN,.bN,.bN] [(0,1),(1,1),(2,1)] (by simp only[QS,Tm,pF,Sx,Pb,Sj,T6];rfl) Y (bp 1 λL _=>mB 1 2011 59 60 λg _=>aZ)) aZ) aZ) (λu=>aZ) (λu=>aZ))) aZ)) aZ) aZ)))
def ta(B:Z4)(p1:T'):aY ((Sl X')×Int):=H (iw B p1) λu=>M (u.2.1,u.2.2)
instance WS(B:Z4)(p1:T'):Fc Sy cL (ta B p1):=Fc.N 45 [enc B,enc p1] (bO 2 2 B (bO 0 3 p1 (bp 8 λu _=>aZ)))
namespace jr
def bh(d:Zg)(D:Int)(G:Sl U8)(B:Int):aY (Fw ((Sl U8)×Int) (Sl U8) Empty):=bg (_r (B<D)) (H (idx d B) λu=>H (d_ G (⟨w? .u8 u⟩:U8)) λw=>M (.n (w,w? N (B+1)))) (M (.x G))
def W1(G:Sl U8)(d:Zg)(B D:Int):aY U':=H (bG (λq:(Sl U8)×Int=>bh d B q.1 q.2) (G,D)) (Fw.elim (λe=>M (Qv e)) (λe=>c! e))
end jr
def jr(c0:Zg):aY U':=H (xU (len c0) (⟨0⟩:U8)) λu=>jr.W1 u c0 (len c0) 0
open jr in
instance abA(c0:Zg):Fc Sy cL (jr c0):=Fc.M 47 [enc c0] (bL 8 c0 (aeG (zero:=[.int .u8 0]) 0 8 λz _=>bL 7 c0 (dW 6 (λu=>(bD [Ov 3,Cv 9 c0,Iv 10 (len c0),Iv 11 u.2] [Lb 2003 u.1])) (λw=>(0,(bD [Ov 3] [Lb 2003 w]))) (λu=>bn 8 12 (bB 7 λB _=>mB 9 2003 18 19 λC _=>aZ) aZ) (λw=>ac1 5 2003 w aZ))))
namespace jP
def bh(d:Zb)(T:Int)(D:Int)(G:Mo ByteArray Int)(B:bW):aY (Fw (Int×(Mo ByteArray Int)×bW) ((Mo ByteArray Int)×bW) Empty):=bg (_r (D<T)) (H (idx d D) λu=>H (jr u) λw=>M (.n (w? N (D+1),nO G w D,(⟨B.t,B.l,⟨J⟩,B.truth⟩:bW)))) (M (.x (G,(⟨B.t,B.l,⟨J⟩,B.truth⟩:bW))))
def W1(G:Zb)(d T:Int)(B:Mo ByteArray Int)(D:bW):aY (aY bW):=H (bG (λq:Int×(Mo ByteArray Int)×bW=>bh G d q.1 q.2.1 q.2.2) (T,B,D)) (Fw.elim (λe=>M (M (⟨e.2.t,e.2.l,⟨M e.1⟩,e.2.truth⟩:bW))) (λe=>c! e))
end jP
def jP(G:Z4)(D:Zb)(B:Sl X'):aY (aY bW):=jP.W1 D (len D) 0 [] (⟨G,D,⟨J⟩,B⟩:bW)
open jP in
instance aay(G:Z4)(D:Zb)(B:Sl X'):Fc Sy cL (jP G D B):=Fc.N 24 [enc G,enc D,enc B] (bO 2 3 G (adt 9 [cv G,cv D,.mp 12,cv B] [cv G.a?,cv D,.mp 12,cv B] [.bN,.bN,.iE,.bN] [(0,1),(1,1),(2,1),(3,1)] (by simp only[G3,SJ,VD,Q1,Tu,Rl,pF,Sx,Pb,Sj,T6];rfl) (ada 0 15 [cv G.a?,cv D,.mp 12,cv B] (by simp only[o!,ace,WR,Yk,WM,o7,nE,o9,oF,O7];rfl) (bL 7 D (dW 5 (λu=>(bD [(7,.ptr 15 0),Cv 16 D,Iv 17 (len D),Iv 18 u.1] [(12,wC u.2.1),(15,.box [cv u.2.2.t.a?,cv u.2.2.l,.mp 12,cv u.2.2.truth])])) (λw=>(0,(bD [(7,.ptr 15 0)] [(12,wC w.1),(15,.box [cv w.2.t.a?,cv w.2.l,.mp 12,cv w.2.truth])]))) (λu=>bn 7 19 (bB 8 λC _=>bY 11 λz _=>acz 1 12 u.2.1 z u.1 aZ) aZ) (λw=>aZ))))))
def xH(B:Z4)(p1:T'):aY ((aY bW)×Int):=H (ta B p1) λu=>bg (u.2==0) (H (mT B) λw=>bg (w.2==0) (H (jP B w.1 u.1) λz=>M (z,0)) (M (J,w.2))) (M (J,u.2))
instance acG(B:Z4)(p1:T'):Fc Sy cL (xH B p1):=Fc.N 18 [enc B,enc p1] (bO 2 2 B (bO 0 3 p1 (bp 8 λu _=>ck 14 16 (bp 6 λw _=>ck 14 24 (bp 8 λz _=>aZ) aZ) aZ)))
def tw(B:Z4)(D:Zg):aY X':=H (dw B (Sl.row [D]:Zb) (Sl.nil:Zg)) λu=>M (u==0)
instance VH(B:Z4)(D:Zg):Fc Sy cL (tw B D):=Fc.M 46 [enc B,enc D] (bO 2 2 B (vD 7 7 ([D]:aX Zg) (bY 0 λu _=>aZ)))
namespace fL
def bh(G:bW)(i1 d T:Int)(B:Zg)(D:Int):aY (Fw ((Zg)×Int) Zg Empty):=bg (_r (D<T)) (H (idx G.l i1) λz=>(H (dx z) Sl.whole).bind λu=>H (Sl.iA u D) λC=>H (Sl.get u C) λI=>H (Sl.iA u D) λL=>H (Sl.put u L (w? N (I+d):Int)) λg=>H (jr g) λw=>bg (wO (nD G.index) w) (H (d_ B (pW (nD G.index) w 0:Int)) λQ=>M (.n (Q,w? N (D+1)))) (M (.n (B,w? N (D+1))))) (M (.x B))
def W1(G:bW)(i1 B:Int)(D:Zg)(d T:Int):aY Zg:=H (bG (λq:(Zg)×Int=>bh G i1 B d q.1 q.2) (D,T)) (Fw.elim (λe=>M e) (λe=>c! e))
end fL
def fL(s0:bW)(i1 B:Int):aY Zg:=H (idx s0.l i1) λu=>fL.W1 s0 i1 B (Sl.nil:Zg) (len u) 0
open fL in
instance Rw(s0:bW)(i1 B:Int):Fc Sy cL (fL s0 i1 B):=Fc.N 63 [.fptr (cells s0),.int N i1,.int N B] (bB 18 λz _=>bL 1 z (dW 6 (λu=>(bD [Kv 0 s0,Iv 1 i1,Iv 2 B,Ov 7,Iv 19 (len z),Iv 20 u.2] [Lb 2007 u.1])) (λC=>(0,(bD [Ov 7] [Lb 2007 C]))) (λu=>bn 8 21 (bB 18 λD _=>Bz 1 30 eR D λI _=>jk N 7 30 λd _=>oR 0 30 0 1 O (λw=>.int N w) λw _=>jk N 2 30 λL _=>zI 0 30 (.int N (w? N (w+B))) λg _=>bY 9 λG _=>ZJ 0 s0.index G 0 (bn 12 48 (mB 5 2007 51 52 λQ _=>aZ) aZ)) aZ) (λC=>aZ)))
namespace iN
def bF(T:Zg)(g:Zb)(j i G:Int)(B:Zg)(D:Int)(a:(Zg)->PH):aY (Fw ((Zg)×Int) Zg Empty):=bg (_r (D<G)) (H (Sl.iA B D) λw=>H (Sl.get B w) λz=>H (idx T D) λC=>H (a (Sl.row [z,C]:Zg)) λI=>H (Sl.iA B D) λd=>H (Sl.put B d (I:Int)) λu=>M (.n (u,w? N (D+1)))) (M (.x B))
def W2(B j:Zg)(G:Zb)(d D T g:Int)(i:(Zg)->PH):aY (Fw ((Zg)×Int) Zg Empty):=H (bG (λq:(Zg)×Int=>bF j G d D T q.1 q.2 i) (B,g)) (Fw.elim (λe=>M (.n (e,w? N (D+1)))) (λe=>c! e))
def bh(G:Zb)(d:Int)(B:Zg)(D:Int)(T:(Zg)->PH):aY (Fw ((Zg)×Int) Zg Empty):=bg (_r (D<d)) (H (idx G D) λu=>W2 B u G d D (len B) 0 T) (M (.x B))
def W1(B:Zg)(D:Zb)(G d:Int)(T:(Zg)->PH):aY Zg:=H (bG (λq:(Zg)×Int=>bh D G q.1 q.2 T) (B,d)) (Fw.elim (λe=>M e) (λe=>c! e))
end iN
def iN(B:Zb)(D:(Zg)->PH):aY Zg:=H (idx B 0) λw=>(H (dx w) Sl.whole).bind λz=>H (gN B (M 1) J) λu=>iN.W1 z u (len u) 0 D
open iN in
abbrev J5(G:FuncId)(e0:aX V)(T:(Sl Int)->aY Int)(m:mM Sy cL G [] e0 (λz:Sl Int=>[enc z]) (λr:Int=>[.int N r]) T U)(g:Sl (Sl Int)):Fc Sy cL (iN g T):=Fc.N 64 [.clo G [] e0,enc g] (bB 8 λL _=>Bz 1 12 eR L λX _=>Ds 7 U O [.int N 1] λu _=>bL 0 u (dW 6 (λw=>(bD [(0,.v (.clo G [] e0)),Ov 5,Cv 14 u,Iv 15 (len u),Iv 16 w.2] [Lb 2005 w.1])) (λI=>(0,(bD [Ov 5] [Lb 2005 I]))) (λw=>bn 8 17 (bB 7 λi _=>Ak 7 2005 w.1 (dW 6 (λC=>(bD [(0,.v (.clo G [] e0)),Ov 5,Cv 7 i,Cv 14 u,Iv 15 (len u),Iv 16 w.2,Iv 21 (len w.1),Iv 22 C.2] [Lb 2005 C.1])) (λd=>(2,(bD [(0,.v (.clo G [] e0)),Ov 5,Cv 14 u,Iv 15 (len u),Iv 16 w.2] [Lb 2005 d]))) (λC=>bn 8 23 (jk N 17 2005 λj _=>oR 0 2005 0 1 O (λB=>.int N B) λB _=>bB 2 λD _=>aci 1 ([B,D]:aX Int) (.buildC 1 2 [.int N 0] [0,1]) [iv B,iv D] (Aa 0 m.f (Sl.row [B,D]:Sl Int) λQ _=>jk N 0 2005 λZ _=>zI 0 2005 (.int N Q) λS _=>aZ)) aZ) (λd=>aZ))) aZ) (λI=>aZ)))
def qK(B:Zg):PH:=H (dA B) λu=>M u
instance ZD(B:Zg):Fc Sy cL (qK B):=Fc.M 65 [enc B] (bp 8 λu _=>aZ)
namespace dM
def bF(e:bW)(i4:Int)(a:Zg)(b:Int)(B:Zb)(D:Int):aY (Fw ((Zb)×Int) Zb Empty):=bg (_r (D<b)) (H (idx a D) λu=>H (Sl.iA B u) λc=>H (Sl.get B c) λd=>H (Sl.isNil d) λw=>bg w (M (.n (B,w? N (D+1)))) (H (Sl.iA B i4) λC=>H (Sl.get B C) λG=>H (Sl.isNil G) λI=>bg I (H (Sl.iA B u) λg=>H (Sl.get B g) λL=>H (Sl.iA B i4) λj=>H (Sl.put B j (L:Zg)) λQ=>M (.n (Q,w? N (D+1)))) (H (Sl.iA B i4) λS=>H (Sl.get B S) λT=>H (Sl.iA B u) λi=>H (Sl.get B i) λo=>H (iN (Sl.row [T,o]:Zb) (λz=>qK z)) λX=>H (Sl.iA B i4) λm=>H (Sl.put B m (X:Zg)) λZ=>M (.n (Z,w? N (D+1)))))) (M (.x B))
def W2(D:bW)(B:Zb)(i4:Int)(G:Zg)(d T:Int):aY (Fw ((Zb)×Int) Zb Empty):=H (bG (λq:(Zb)×Int=>bF D i4 G d q.1 q.2) (B,T)) (Fw.elim (λe=>M (.n (e,w? N (i4-1)))) (λe=>c! e))
def bh(D:bW)(B:Zb)(i4:Int):aY (Fw ((Zb)×Int) Zb Empty):=bg (_r (i4>=0)) (H (idx D.truth i4) λw=>bg w (H (idx D.l i4) λz=>H (Sl.iA B i4) λC=>H (Sl.put B C (z:Zg)) λG=>M (.n (G,w? N (i4-1)))) (H (fL D i4 1) λu=>W2 D B i4 u (len u) 0)) (M (.x B))
def W1(D:bW)(B:Zb)(i4:Int):aY Zb:=H (bG (λq:(Zb)×Int=>bh D q.1 q.2) (B,i4)) (Fw.elim (λe=>M e) (λe=>c! e))
end dM
def dM(s0:bW):aY Zb:=H (nv (len s0.l) (Sl.nil:Zg)) λu=>dM.W1 s0 u (w? N ((len s0.l)-1))
open dM in
instance Oj(s0:bW):Fc Sy cL (dM s0):=Fc.N 37 [.fptr (cells s0)] (bL 11 s0.l (Ox 0 12 λa _=>bL 10 s0.l (dW 7 (λB=>(bD [Kv 0 s0,Ov 3,Iv 4 B.2] [Lb 2003 B.1])) (λm=>(0,(bD [Ov 3] [Lb 2003 m]))) (λB=>bn 9 20 (bB 13 λb _=>bn 3 29 (bB 10 λc _=>jk N 1 2003 λd _=>Ku 0 2003 λe _=>aZ) (bp 7 λG _=>bL 0 G (dW 6 (λI=>(bD [Kv 0 s0,Ov 3,Iv 4 B.2,Cv 42 G,Iv 43 (len G),Iv 44 I.2] [Lb 2003 I.1])) (λL=>(2,(bD [Kv 0 s0,Ov 3,Iv 4 B.2] [Lb 2003 L]))) (λI=>bn 8 45 (bB 7 λf _=>jk N 9 2003 λg _=>oR 0 2003 0 1 O (λq=>enc q) λq _=>Mx 0 λT _=>bn 3 61 aZ (jk N 5 2003 λo _=>oR 0 2003 0 1 O (λC=>enc C) λC _=>Mx 0 λy _=>bn 3 67 (jk N 6 2003 λX _=>oR 0 2003 0 1 O (λD=>enc D) λD _=>jk N 0 2003 λt _=>Ku 0 2003 λZ _=>aZ) (jk N 6 2003 λh _=>oR 0 2003 0 1 O (λu=>enc u) λu _=>jk N 2 2003 λi _=>oR 0 2003 0 1 O (λw=>enc w) λw _=>vD 0 58 ([u,w]:aX Zg) (Yi (F:=J5 65 [] (λz=>qK z) mM.tJ (Sl.row [u,w]:Zb)) 0 [58] λj _=>⟨jk N 0 2003 λQ _=>Ku 0 2003 λS _=>aZ,jk N 0 2003 λQ _=>Ku 0 2003 λS _=>aZ⟩)))) aZ) (λL=>aZ)))) aZ) (λm=>aZ))))
def kG(c0:Zg)(G:aY bW):aY X':=H (Sl.isNil c0) λu=>(bg u (M O) (H (G) λw=>H (G) λz=>H (jr c0) λB=>H (idx w.truth (pW (nD z.index) B 0)) λC=>M (!C)):aY X').bind λD=>M D
instance MW(c0:Zg)(B:aY bW):Fc Sy cL (kG c0 B):=Fc.M 92 [enc c0,.fptr (cells B)] (adD 8 λG _=>xu 1 15 [16] (λu=>(bD [Bv 21 u] [])) (ck 1 6 (br 15) (LD 1 (λw=>(bD [Cv 0 c0,Kv 1 B,Bv 6 U,Cv 7 w] [])) λz _=>LD 4 (λw=>(bD [Cv 0 c0,Bv 6 U,Cv 10 z.truth,Cv 11 w] [])) λC _=>bY 4 λD _=>Sz 0 C.index D 0 (bB 0 λI _=>br 3))) λu=>aZ)
def oK(s0:bW)(B:Zb):aY X':=H (jL B (λz=>kG z (M s0:aY bW))) λu=>M (!u)
instance O6(s0:bW)(B:Zb):Fc Sy cL (oK s0 B):=Fc.M 62 [.fptr (cells s0),enc B] (bY (F:=rm 92 [.fptr (cells (M s0:aY bW))] (λz=>kG z (M s0:aY bW)) mM.tJ B) 10 λu _=>aZ)
def mo(s0:bW)(D:Zb)(B:Int):aY ((Zg)×Int):=H (oK s0 D) λu=>bg u (H (idx D B) λw=>H (Sl.isNil w) λz=>bg z (M (Sl.nil,7)) (H (idx D B) λC=>(H (dx C) Sl.whole).bind λG=>M (G,0))) (M (Sl.nil,15))
instance OP(s0:bW)(D:Zb)(B:Int):Fc Sy cL (mo s0 D B):=Fc.N 36 [.fptr (cells s0),enc D,.int N B] (bp 12 λw _=>ck 4 8 (bB 5 λz _=>Mx 1 λC _=>bn 3 13 aZ (bB 8 λu _=>Bz 1 23 eR u λG _=>aZ)) aZ)
def gq(s0:bW)(D:Zg):aY ((Zg)×Int):=H (tw s0.t D) λw=>bg w (H (dM s0) λz=>H (jr D) λB=>H (mo s0 z (pW (nD s0.index) B 0)) λu=>M (u.1,u.2)) (M (Sl.nil,18))
instance Rt(s0:bW)(B:Zg):Fc Sy cL (gq s0 B):=Fc.N 20 [.fptr (cells s0),enc B] (bp 14 λw _=>ck 3 12 (bp 7 λz _=>bY 5 λu _=>Sz 0 s0.index u 0 (bp 0 λC _=>aZ)) aZ)
namespace kH
def bh(D:Z4)(B:Zg)(p2:Zg->(bf×bf)->aY Zg):aY (Fw Zg Empty Zg):=H (iL D B) λu=>bg u.2.2 (H (p2 B (u.1,u.2.1)) λw=>M (.n w)) (M (.r B))
def W1(B:Zg)(D:Z4)(p2:Zg->(bf×bf)->aY Zg):aY ((Zg)×Int):=H (bG (λq:Zg=>bh D q p2) B) (Fw.elim (λe=>c! e) (λe=>M (e,0)))
end kH
def kH(D:Z4)(B:Zg)(p2:Zg->(bf×bf)->aY Zg):aY ((Zg)×Int):=(uW D (Sl.row [B]:Zb)).bind λu=>bg u ((kI D B).bind λw=>bg w (((dx B).bind Sl.whole).bind λz=>kH.W1 z D p2) (M ((Sl.nil:Zg),2))) (M ((Sl.nil:Zg),1))
open kH in
abbrev Ig (g2:FuncId) (e2:aX V) (p2:Sl Int->(bf×bf)->aY (Sl Int)) (G:T0 Sy g2 e2 (λz:bf×bf=>[enc z.1,enc z.2]) p2) (D:Trace) (B:Sl Int):Fc Sy cL (kH D B p2):=Fc.N 48 [enc D,enc B,.clo g2 [] e2] (bO 2 3 D (vD 10 15 ([B]:aX (Sl Int)) (bY 0 λI _=>ck 4 12 (bp 5 λd _=>ck 4 18 (Bz 7 24 eR B λL _=>R3 6 (λu=>(bD [(2,.v (.clo g2 [] e2)),Pv 3,Ov 8] [Xb 3 D,Lb 2008 u])) (λw=>(bD [Ov 6,Iv 7 0] [Lb 2006 w])) (λu=>bY 7 λC _=>ck 18 33 (abt 8 2008 G (C.1,C.2.1) λg _=>aZ) aZ) (λw=>aZ)) aZ) aZ)))
def ve(D:Z4)(B:Zg):aY ((Zg)×Int):=H (kH D B (λs(z:bf×bf)=>s.setAt z.1.proc z.1.index)) λu=>M (u.1,u.2)
instance acH(D:Z4)(B:Zg):Fc Sy cL (ve D B):=Fc.N 21 [enc D,enc B] (bO 2 2 D (bp (F:=Ig 49 [] (λs(z:bf×bf)=>s.setAt z.1.proc z.1.index) (T0.Au (op:=O) acy o? o?) D B) 8 λu _=>aZ))
namespace dQ
def bF(T:bW)(G:Zg)(d:Zb)(D:Zg)(g:Z4)(B:Int):aY (Fw Int Int Empty):=(bg (_r (B<(len G))) (H (idx D B) λu=>H (idx G B) λw=>M (u==w)) (M O):aY X').bind λz=>bg z (M (.n (w? N (B+1)))) (M (.x B))
def W2(T:bW)(g:Zg)(B:Zb)(W:Zg)(Y:Int)(D:Z4):aY (Fw ((Zg)×(Zb)) Empty ((Zb)×Int)):=(bG (λq:Int=>bF T g B W D q) Y).bind (Fw.elim (λe=>bg (e==(len g)) (M (.r (B,0))) (((dx g).bind Sl.whole).bind λw=>(Sl.iA w e).bind λz=>(Sl.get w z).bind λC=>(Sl.iA w e).bind λG=>(Sl.put w G (w? N (C+1):Int)).bind λI=>(ve D I).bind λu=>bg (u.2==0) ((d_ B (u.1:Zg)).bind λd=>M (.n (u.1,d))) (M (.r ((Sl.nil:Zb),u.2))))) (λe=>c! e))
def bh(B:bW)(G:Z4)(d:Zg)(D:Zb):aY (Fw ((Zg)×(Zb)) Empty ((Zb)×Int)):=H (gq B d) λu=>bg (u.2==0) (W2 B d D u.1 0 G) (M (.r ((Sl.nil:Zb),u.2)))
def W1(D:bW)(d:Zg)(B:Zb)(G:Z4):aY ((Zb)×Int):=H (bG (λq:(Zg)×(Zb)=>bh D G q.1 q.2) (d,B)) (Fw.elim (λe=>c! e) (λe=>M (e.1,e.2)))
end dQ
def dQ(D:Z4)(p1:T'):aY ((Zb)×Int):=H (xH D p1) λu=>bg (u.2==0) (H (u.1) λw=>H (idx w.l 0) λB=>(H (dx B) Sl.whole).bind λz=>dQ.W1 w z (Sl.row [z]:Zb) D) (M ((Sl.nil:Zb),u.2))
open dQ in
instance aaL(B:Z4)(p1:T'):Fc Sy cL (dQ B p1):=Fc.N 6 [enc B,enc p1] (bO 2 2 B (bO 0 3 p1 (bp 8 λd _=>ck 14 21 (LD 6 (λS=>(bD [Pv 2,Cv 6 S,Iv 7 d.2,Bv 21 O,Cv 23 S] [Xb 2 B,Xb 3 p1])) λz _=>bB 3 λL _=>Bz 1 29 eR L λi _=>vD 7 31 ([i]:aX Zg) (R3 6 (λu=>(bD [Pv 2,Kv 6 z,Cv 8 u.1,Ov 9] [Xb 2 B,Lb 2009 u.2])) (λC=>(bD [Ov 4,Iv 5 C.2] [Lb 2004 C.1])) (λu=>bp 7 λQ _=>ck 14 39 (dW 12 (λD=>(bD [Pv 2,Kv 6 z,Cv 8 u.1,Ov 9,Cv 10 Q.1,Iv 12 D] [Xb 2 B,Lb 2009 u.2])) (λG=>(2,(bD [Pv 2,Kv 6 z,Cv 8 u.1,Ov 9,Iv 12 G] [Xb 2 B,Lb 2009 u.2]))) (λD=>bL 7 u.1 (bK 2 10 [45] 55 (bn 2 45 (bB 2 λY _=>bB 3 λZ _=>br 3) (br 10)) λa=>bn 2 55 aZ aZ)) (λG=>bL 7 u.1 (bn 3 61 aZ (Bz 6 64 eR u.1 λb _=>jk N 7 64 λT _=>oR 0 64 0 1 O (λw=>.int N w) λw _=>jk N 1 64 λg _=>zI 0 64 (.int N (w? N (w+1))) λW _=>bp 8 λI _=>ck 13 78 (vD 6 82 ([I.1]:aX Zg) (mB 0 2009 82 83 λX _=>aZ)) aZ)))) aZ) (λC=>aZ))) aZ)))
def tq(B:Z4)(G:Sl X')(d:Zg):aY ((Zg)×Int):=H (cw B) λz=>bg z (H (mT B) λu=>bg (u.2==0) (bg ((len G)==(len u.1)) (H (jP B u.1 G) λC=>H (C) λD=>H (gq D d) λw=>M (w.1,w.2)) (M (Sl.nil,3))) (M (Sl.nil,u.2))) (M (Sl.nil,1))
instance UN(B:Z4)(D:Sl X')(G:Zg):Fc Sy cL (tq B D G):=Fc.N 7 [enc B,enc D,enc G] (bO 2 3 B (bp 8 λw _=>ck 3 12 (bp 6 λu _=>ck 16 18 (bL 4 D (bL 1 u.1 (ck 4 22 (bp 9 λz _=>LD 1 (λC=>(bD [Bv 12 O,Iv 9 u.2,Bv 18 O,Bv 22 O,Cv 31 C,Cv 32 G] [Xb 3 B])) λI _=>bp 0 λd _=>aZ) aZ))) aZ) aZ))
namespace kP
def bh(B:Int)(D:T')(G d:Int)(r:(T'×Int)->PH):aY (Fw (Int×Int) Int Empty):=bg (_r (d<(len D.l))) (H (idx D.l d) λw=>H (r (w,w? N (B-1))) λu=>M (.n ((if u>G then u else G),w? N (d+1)))) (M (.x G))
def W1(B G d:Int)(D:T')(r:(T'×Int)->PH):PH:=H (bG (λq:Int×Int=>bh B D q.1 q.2 r) (G,d)) (Fw.elim (λe=>M (w? N (e+1))) (λe=>c! e))
end kP
def jf(D:T')(B:Int)(r:(T'×Int)->PH):PH:=bg (B==0) (M 1) (kP.W1 B 0 0 D r)
open kP in
theorem D9(r:(T'×Int)->PH)(a:eP Sy cL 201 (λz:T'×Int=>[enc z.1,.int N z.2]) (λr:Int=>[.int N r]) r U)(D:T')(B:Int):Le (H (jf D B r) λr=>M [.int N r]) (gO cL 201 [enc D,.int N B]):=(Fc.M 201 [enc D,.int N B] (bO 2 2 D (bn 15 8 aZ (dW 11 (λu=>(bD [Iv 1 B,Pv 2,Iv 5 u.1,Iv 6 u.2] [Xb 2 D])) (λw=>(0,(bD [Iv 5 w] []))) (λu=>dG 7 11 (Pred.eW D.l) (bL 0 D.l (bn 3 13 (dG 9 18 (Pred.eW D.l) (bB 1 λC _=>bp (F:=Fc.of (C,w? N (B-1)) a) 3 λG _=>aZ)) aZ))) (λw=>aZ)))):Fc Sy cL (jf D B r)).F.h ()
def kP(D:T')(B:Int):PH:=dm (λr(z:T'×Int)=>jf z.1 z.2 r) 100000 (D,B)
instance aad(D:T')(B:Int):Fc Sy cL (kP D B):=Fc.of (D,B) (eP.fix (A:=λz:T'×Int=>[enc z.1,.int N z.2]) (E:=λr:Int=>[.int N r]) (sc:=U) (b:=(λr(z:T'×Int)=>jf z.1 z.2 r)) o? (λ_ _=>rfl) (λr a z=>D9 r a z.1 z.2) 100000)
def mJ(B:Int):PH:=H (bg (_r (B>=1)) (M (_r (B<=4))) (M O):aY X') λu=>H (bg u (M U) (M (B==13)):aY X') λw=>H (bg w (M U) (M (B==14)):aY X') λz=>bg z (M 0) (H (bg (B==5) (M U) (M (B==15)):aY X') λC=>(bg C (M U) (H (bg (_r (B>=18)) (M (_r (B<=21))) (M O):aY X') λD=>M D):aY X').bind λG=>bg G (M 1) (H (bg (_r (B>=6)) (M (_r (B<=12))) (M O):aY X') λI=>H (bg I (M U) (M (B==16)):aY X') λd=>H (bg d (M U) (M (B==17)):aY X') λL=>bg L (M 2) (M (-1))))
instance Z3(B:Int):Fc Sy cL (mJ B):=Fc.M 219 [.int N B] (bK 11 3 [5] 8 (bn 11 5 (br 3) (br 3)) λu=>bK 1 3 [9] 12 (bn 1 9 (br 3) (br 3)) λw=>bK 1 3 [13] 16 (bn 1 13 (br 3) (br 3)) λz=>bn 2 16 aZ (bK 9 3 [19] 22 (bn 9 19 (br 3) (br 3)) λC=>bK 1 7 [23] 30 (bn 1 23 (br 7) (bK 3 3 [26] 29 (bn 3 26 (br 3) (br 3)) λD=>br 1)) λG=>bn 2 30 aZ (bK 9 3 [33] 36 (bn 9 33 (br 3) (br 3)) λI=>bK 1 3 [37] 40 (bn 1 37 (br 3) (br 3)) λd=>bK 1 3 [0,41] 44 (bn 1 41 (br 3) (br 3)) λL=>bn 2 44 aZ aZ)))
namespace fZ
def bF(B:T')(i3:Int)(r:T'->aY X'):aY (Fw Int Unit Unit):=bg (_r (i3<(len B.l))) (H (idx B.l i3) λu=>H (r u) λw=>bg w (M (.n (w? N (i3+1)))) (M (.r ()))) (M (.x ()))
def W2(i3:Int)(B:T')(r:T'->aY X'):aY X':=H (bG (λq:Int=>bF B q r) i3) (Fw.elim (λe=>M U) (λe=>M O))
def J1(B:T')(r:T'->aY X'):aY X':=H (bg (_r (B.kind<2)) (M U) (M (_r (B.kind>4))):aY X') λu=>(bg u (H (bg (B.proc==0) (M (!(B.k?==0))) (M U):aY X') λw=>H (bg w (M U) (M (!(E? B.name==E? ByteArray.empty))):aY X') λz=>M z) (M O):aY X').bind λC=>bg C (M O) (fZ.W2 0 B r)
theorem mX(r:T'->aY X')(a:eP Sy cL 202 (λz:T'=>[enc z]) (λr:X'=>[.bool r]) r U)(B:T'):Le (H (J1 B r) (λr=>M [.bool r])) (bV Sy cL (pU (tr Tx 202)) (rQ (tb Tx 202) [1,1,1,0] [] (bD [Pv 1] [Xb 1 B]))):=bK 7 4 [28] 32 (bn 7 28 (br 4) (br 4)) λD=>bK 1 14 [33] 47 (bn 1 33 (bK 4 4 [37] 41 (ck 4 37 (br 4) (br 4)) λG=>bK 1 4 [42] 46 (bn 1 42 (br 4) (br 4)) λI=>br 1) (br 14)) λd=>bn 2 47 aZ (dh 11 (λw=>(bD [Pv 1,Iv 3 w] [Xb 1 B])) (λu=>(0,(bD [] []))) (λu=>(bD [Bv 2 O] [])) (λw=>dG 7 50 (Pred.eW B.l) (bL 0 B.l (bn 3 52 (dG 9 56 (Pred.eW B.l) (bB 1 λC _=>bp (F:=Fc.of C a) 1 λL _=>ck 3 61 aZ aZ)) aZ))) (λu=>aZ) (λu=>aZ))
end fZ
def gF(B:T')(r:T'->aY X'):aY X':=H (mJ B.kind) λu=>bg (u==(len B.l)) (bg (B.kind==1) (H (bg (_r (B.n<0)) (M U) (M (_r (B.n>1125899906842624))):aY X') λw=>bg w (M O) (fZ.J1 B r)) (bg (B.n==0) (fZ.J1 B r) (M O))) (M O)
open fZ in
theorem D5(r:T'->aY X')(a:eP Sy cL 202 (λz:T'=>[enc z]) (λr:X'=>[.bool r]) r U)(B:T'):Le (H (gF B r) λr=>M [.bool r]) (gO cL 202 [enc B]):=(Fc.M 202 [enc B] (bO 2 1 B (bY 8 λu _=>dG 2 8 (Pred.eW B.l) (bL 0 B.l (ck 3 10 (bn 11 13 (bK 7 4 [17] 21 (bn 7 17 (br 4) (br 4)) λw=>bn 2 21 aZ (nY 4 (mX r a B))) (ck 8 24 (nY 4 (mX r a B)) aZ)) aZ)))):Fc Sy cL (gF B r)).F.h ()
def fZ(B:T'):aY X':=dm (λr(z:T')=>gF z r) 100000 B
instance Yp(B:T'):Fc Sy cL (fZ B):=Fc.of B (eP.fix (A:=λz:T'=>[enc z]) (E:=λr:X'=>[.bool r]) (sc:=U) (b:=(λr(z:T')=>gF z r)) o? (λ_ _=>rfl) (λr a z=>D5 r a z) 100000)
def oU(B:T'):aY X':=H (qd B) λu=>(bg (_r (u<=200)) (H (kP B 21) λw=>M (_r (w<=20))) (M O):aY X').bind λz=>(bg z (H (fZ B) λC=>M C) (M O):aY X').bind λD=>M D
instance XU(B:T'):Fc Sy cL (oU B):=Fc.M 174 [enc B] (bO 2 1 B (bp 6 λu _=>bK 2 4 [6] 10 (bn 2 6 (bp 1 λw _=>br 2) (br 4)) λz=>bK 1 3 [1,11] 14 (bn 1 11 (bp 1 λC _=>br 1) (br 3)) λD=>aZ))
def p_(B:Z4)(p1:Int):aY X':=H (bg (_r (p1>=0)) (M (_r (p1<(len B.a?)))) (M O):aY X') λu=>M u
instance aaA(B:Z4)(p1:Int):Fc Sy cL (p_ B p1):=Fc.M 216 [enc B,.int N p1] (bO 2 2 B (bK 8 6 [1,2,7] 13 (bn 8 7 (bL 3 B.a? (br 2)) (br 6)) λu=>aZ))
namespace jR
def bh(p1:Int)(B:U')(D:Z4)(G:Int):aY (Fw Int Unit Int):=H (idx D.a? p1) λu=>bg (_r (G<(len u.g?))) (H (idx D.a? p1) λw=>H (idx w.g? G) λz=>bg (E? z.name==E? B) (M (.r G)) (M (.n (w? N (G+1))))) (M (.x ()))
def W1(p1:Int)(B:U')(G:Int)(D:Z4):PH:=H (bG (λq:Int=>bh p1 B D q) G) (Fw.elim (λe=>M (-1)) (λe=>M e))
end jR
def jR(D:Z4)(p1:Int)(B:U'):PH:=jR.W1 p1 B 0 D
open jR in
instance ab3(D:Z4)(p1:Int)(B:U'):Fc Sy cL (jR D p1 B):=Fc.M 217 [enc D,.int N p1,.str B] (bO 2 3 D (dh 11 (λw=>(bD [Iv 1 p1,(2,.v (.str B)),Pv 3,Iv 7 w] [Xb 3 D])) (λu=>(0,(bD [] []))) (λu=>(bD [Iv 6 u] [])) (λw=>bB 8 λz _=>bL 2 z.g? (bn 3 16 (bB 10 λC _=>bB 3 λG _=>bn 6 30 aZ aZ) aZ)) (λu=>aZ) (λu=>aZ)))
namespace gU
def bh(D:Z4)(B:T')(G:Int)(r:(Z4×T')->aY X'):aY (Fw Int Unit Unit):=bg (_r (G<(len B.l))) (H (idx B.l G) λu=>H (r (D,u)) λw=>bg w (M (.n (w? N (G+1)))) (M (.r ()))) (M (.x ()))
def W1(G:Int)(B:Z4)(D:T')(r:(Z4×T')->aY X'):aY X':=H (bG (λq:Int=>bh B D q r) G) (Fw.elim (λe=>M U) (λe=>M O))
end gU
def gu(B:Z4)(p1:T')(r:(Z4×T')->aY X'):aY X':=(bg (p1.kind==2) ((p_ B p1.proc).bind λI=>(bg I (M (!(p1.k?==0))) (M U):aY X').bind λd=>(bg d (M U) ((jR B p1.proc p1.name).bind λL=>M (_r (L<0))):aY X').bind λi=>M i) (M O):aY X').bind λQ=>bg Q (M O) ((bg (p1.kind==3) ((p_ B p1.proc).bind λS=>(bg S (M (!(p1.k?==0))) (M U):aY X').bind λT=>(bg T (M U) (M (!(E? p1.name==E? ByteArray.empty))):aY X').bind λg=>M g) (M O):aY X').bind λW=>bg W (M O) ((bg (p1.kind==4) ((p_ B p1.proc).bind λu=>(bg u ((p_ B p1.k?).bind λw=>M (!w)) (M U):aY X').bind λz=>(bg z (M U) (M (p1.proc==p1.k?)):aY X').bind λC=>(bg C (M U) (M (!(E? p1.name==E? ByteArray.empty))):aY X').bind λD=>M D) (M O):aY X').bind λG=>bg G (M O) (gU.W1 0 B p1 r)))
open gU in
theorem B7(r:(Z4×T')->aY X')(a:eP Sy cL 197 (λz:Z4×T'=>[enc z.1,enc z.2]) (λr:X'=>[.bool r]) r U)(B:Z4)(p1:T'):Le ((gu B p1 r).bind λr=>M [.bool r]) (gO cL 197 [enc B,enc p1]):=(Fc.M 197 [enc B,enc p1] (bO 2 2 B (bO 0 3 p1 (bK 10 20 [9] 29 (bn 10 9 (bp 3 λS _=>bK 2 4 [15] 19 (ck 2 15 (br 4) (br 4)) λT=>bK 1 8 [20] 28 (bn 1 20 (br 8) (bp 5 λg _=>br 2)) λW=>br 1) (br 20)) λX=>bn 2 29 aZ (bK 10 16 [33] 49 (bn 10 33 (bp 3 λY _=>bK 2 4 [39] 43 (ck 2 39 (br 4) (br 4)) λZ=>bK 1 4 [44] 48 (bn 1 44 (br 4) (br 4)) λb=>br 1) (br 16)) λc=>bn 2 49 aZ (bK 10 25 [53] 78 (bn 10 53 (bp 3 λD _=>bK 2 6 [59] 65 (ck 2 59 (bp 3 λG _=>br 2) (br 6)) λI=>bK 1 6 [66] 72 (bn 1 66 (br 6) (br 6)) λd=>bK 1 4 [73] 77 (bn 1 73 (br 4) (br 4)) λL=>br 1) (br 25)) λi=>bn 2 78 aZ (dh 11 (λw=>(bD [Pv 2,Pv 3,Iv 5 w] [Xb 2 B,Xb 3 p1])) (λu=>(0,(bD [] []))) (λu=>(bD [Bv 4 O] [])) (λw=>dG 7 81 (Pred.eW p1.l) (bL 0 p1.l (bn 3 83 (dG 10 88 (Pred.eW p1.l) (bB 1 λC _=>bY (F:=Fc.of (B,C) a) 1 λQ _=>ck 3 93 aZ aZ)) aZ))) (λu=>aZ) (λu=>aZ))))))):Fc Sy cL (gu B p1 r)).F.h ()
def gU(B:Z4)(p1:T'):aY X':=dm (λr(z:Z4×T')=>gu z.1 z.2 r) 100000 (B,p1)
instance Uj(B:Z4)(p1:T'):Fc Sy cL (gU B p1):=Fc.of (B,p1) (eP.fix (A:=λz:Z4×T'=>[enc z.1,enc z.2]) (E:=λr:X'=>[.bool r]) (sc:=U) (b:=(λr(z:Z4×T')=>gu z.1 z.2 r)) o? (λ_ _=>rfl) (λr a z=>B7 r a z.1 z.2) 100000)
def rF(B:T'):PH:=bg (_r (B.kind<=8)) (M 1) (M 2)
instance aaI(B:T'):Fc Sy cL (rF B):=Fc.M 200 [enc B] (bO 2 1 B (bn 11 5 aZ aZ))
namespace gP
def J2(i3 B:Int)(D:T')(r:T'->aY X'):aY (Fw Int Unit Unit):=H (idx D.l i3) λu=>H (rF u) λw=>(bg (w==B) (H (idx D.l i3) λz=>H (r z) λC=>M (!C)) (M U):aY X').bind λG=>bg G (M (.r ())) (M (.n (w? N (i3+1))))
def bh(B:T')(i3:Int)(r:T'->aY X'):aY (Fw Int Unit Unit):=bg (_r (i3<(len B.l))) (bg (_r (B.kind>=15)) (J2 i3 2 B r) (J2 i3 1 B r)) (M (.x ()))
def W1(i3:Int)(B:T')(r:T'->aY X'):aY X':=H (bG (λq:Int=>bh B q r) i3) (Fw.elim (λe=>M U) (λe=>M O))
end gP
def jS(B:T')(r:T'->aY X'):aY X':=gP.W1 0 B r
open gP in
theorem D8(r:T'->aY X')(a:eP Sy cL 198 (λz:T'=>[enc z]) (λr:X'=>[.bool r]) r U)(B:T'):Le (H (jS B r) λr=>M [.bool r]) (gO cL 198 [enc B]):=(Fc.M 198 [enc B] (bO 2 1 B (dh 11 (λC=>(bD [Pv 1,Iv 3 C] [Xb 1 B])) (λu=>(0,(bD [] []))) (λu=>(bD [Bv 2 O] [])) (λC=>dG 7 7 (Pred.eW B.l) (bL 0 B.l (bn 3 9 (bn 18 14 (qC 6 (dG 4 16 (Pred.eW B.l) (bB 1 λD _=>bp 1 λG _=>bK 3 8 [23] 31 (ck 3 23 (dG 2 25 (Pred.eW B.l) (bB 1 λw _=>bp (F:=Fc.of w a) 1 λI _=>br 2)) (br 8)) λd=>bn 2 31 aZ aZ))) (qC 4 (dG 4 16 (Pred.eW B.l) (bB 1 λD _=>bp 1 λG _=>bK 3 8 [23] 31 (ck 3 23 (dG 2 25 (Pred.eW B.l) (bB 1 λw _=>bp (F:=Fc.of w a) 1 λI _=>br 2)) (br 8)) λd=>bn 2 31 aZ aZ)))) aZ))) (λu=>aZ) (λu=>aZ))):Fc Sy cL (jS B r)).F.h ()
def gP(B:T'):aY X':=dm (λr(z:T')=>jS z r) 100000 B
instance Yh(B:T'):Fc Sy cL (gP B):=Fc.of B (eP.fix (A:=λz:T'=>[enc z]) (E:=λr:X'=>[.bool r]) (sc:=U) (b:=(λr(z:T')=>jS z r)) o? (λ_ _=>rfl) (λr a z=>D8 r a z) 100000)
namespace fW
def bF(p1 d T:Int)(G:Sl Assign)(g:Z4)(D B Bg:Int):aY (Fw (Int×Int×Int) (Int×Int) Empty):=bg (_r (Bg<(len G))) (H (idx G Bg) λz=>bg (z.var==d) (H (idx G Bg) λu=>H (idx G Bg) λw=>M (.n ((if u.value<D then u.value else D),(if w.value>B then w.value else B),w? N (Bg+1)))) (M (.n (D,B,w? N (Bg+1))))) (M (.x (D,B)))
def W2(p1 g D B G:Int)(d:Sl Assign)(Bg:Int)(T:Z4):aY (Fw (Int×Int×Int) (Int×Int) Empty):=H (bG (λq:Int×Int×Int=>bF p1 g G d T q.1 q.2.1 q.2.2) (D,B,Bg)) (Fw.elim (λe=>M (.n (e.1,e.2,w? N (G+1)))) (λe=>c! e))
def bh(p1 T:Int)(G:Z4)(D B d:Int):aY (Fw (Int×Int×Int) (Int×Int) Empty):=H (idx G.a? p1) λu=>bg (_r (d<(len u.b?))) (H (idx G.a? p1) λw=>H (idx w.b? d) λz=>W2 p1 T D B d z.assign 0 G) (M (.x (D,B)))
def W1(p1 T D B G:Int)(d:Z4):aY (Int×Int):=H (bG (λq:Int×Int×Int=>bh p1 T d q.1 q.2.1 q.2.2) (D,B,G)) (Fw.elim (λe=>M (e.1,e.2)) (λe=>c! e))
end fW
def fW(B:Z4)(p1 D:Int):aY (Int×Int):=H (idx B.a? p1) λw=>H (idx w.g? D) λu=>fW.W1 p1 D u.init_ u.init_ 0 B
open fW in
instance ZL(D:Z4)(p1 G:Int):Fc Sy cL (fW D p1 G):=Fc.M 223 [enc D,.int N p1,.int N G] (bO 2 3 D (bB 9 λd _=>bB 3 λL _=>dW 19 (λu=>(bD [Iv 1 p1,Iv 2 G,Pv 3,Iv 8 u.1,Iv 9 u.2.1,Iv 10 u.2.2] [Xb 3 D])) (λz=>(0,(bD [Iv 8 z.1,Iv 9 z.2] []))) (λu=>bB 8 λI _=>bL 2 I.b? (bn 3 32 (bB 10 λg _=>bB 3 λC _=>dW 12 (λw=>(bD [Iv 1 p1,Iv 2 G,Pv 3,Iv 8 w.1,Iv 9 w.2.1,Iv 10 u.2.2,Cv 11 C.assign,Iv 12 w.2.2] [Xb 3 D])) (λB=>(2,(bD [Iv 1 p1,Iv 2 G,Pv 3,Iv 8 B.1,Iv 9 B.2,Iv 10 u.2.2] [Xb 3 D]))) (λw=>bL 6 C.assign (bn 3 48 (bB 9 λQ _=>bn 6 57 (bB 5 λS _=>bB 6 λT _=>aZ) aZ) aZ)) (λB=>aZ)) aZ)) (λz=>aZ)))
namespace jM
def bh(p1 G:Int)(B:Z4)(D a:Int):aY (Fw (Int×Int) Int Empty):=H (idx B.a? p1) λw=>bg (_r (a<(len w.b?))) (H (idx B.a? p1) λz=>H (idx z.b? a) λu=>H (bg (u.kind==2) (M (u.k?==G)) (M O):aY X') λC=>bg C (M (.n (w? N (D+1),w? N (a+1)))) (M (.n (D,w? N (a+1))))) (M (.x D))
def W1(p1 D G a:Int)(B:Z4):PH:=H (bG (λq:Int×Int=>bh p1 D B q.1 q.2) (G,a)) (Fw.elim (λe=>M e) (λe=>c! e))
end jM
def jM(B:Z4)(p1 D:Int):PH:=jM.W1 p1 D 0 0 B
open jM in
instance aaR(B:Z4)(p1 D:Int):Fc Sy cL (jM B p1 D):=Fc.M 224 [enc B,.int N p1,.int N D] (bO 2 3 B (dW 16 (λu=>(bD [Iv 1 p1,Iv 2 D,Pv 3,Iv 7 u.1,Iv 8 u.2] [Xb 3 B])) (λw=>(0,(bD [Iv 7 w] []))) (λu=>bB 8 λz _=>bL 2 z.b? (bn 3 18 (bB 10 λG _=>bB 3 λC _=>oN 2 9 0 C (bK 8 5 [9,33] 38 (bn 8 33 (br 5) (br 5)) λI=>bn 2 38 aZ aZ)) aZ)) (λw=>aZ)))
namespace cR
def J1(a0 B:Int):PH:=M (w? N (a0*B))
end cR
def cR(a0 B:Int):PH:=H (bg (a0==0) (M O) (M (!(B==0))):aY X') λu=>bg u (H (BK N 1125899906842624 (if(w? N (0-B))>B then(w? N (0-B))else B)) λw=>bg (_r ((if(w? N (0-a0))>a0 then(w? N (0-a0))else a0)>w)) (bg ((_r (a0<0))==(_r (B<0))) (M 1125899906842625) (M (-1125899906842625))) (cR.J1 a0 B)) (cR.J1 a0 B)
open cR in
instance Zs(a0 B:Int):Fc Sy cL (cR a0 B):=Fc.M 225 [.int N a0,.int N B] (bK 11 3 [9] 12 (ck 11 9 (br 3) (br 3)) λu=>bn 2 12 (ach 19 λw _=>bn 3 24 (ck 11 29 aZ aZ) (qC 4 (aZ))) (qC 4 (aZ)))
namespace bR
def J3(D B:Int)(r:(Z4×T')->aY (Int×Int×X')):aY (Int×Int×X'):=H (bg (_r (D>=(-1125899906842624))) (M (_r (B<=1125899906842624))) (M O):aY X') λu=>M (D,B,u)
def J2(j a b T:Int)(c g:X')(m:Z4)(B:T')(r:(Z4×T')->aY (Int×Int×X')):aY (Int×Int×X'):=H (bg c (M (!g)) (M U):aY X') λi=>bg i (M (0,0,O)) (bg (B.kind==1) (bR.J3 B.n B.n r) (bg (B.kind==2) (H (jR m B.proc B.name) λQ=>H (fW m B.proc Q) λL=>bR.J3 L.1 L.2 r) (bg (B.kind==3) (H (idx m.a? B.proc) λS=>bR.J3 0 (len S.b?) r) (bg (B.kind==4) (H (jM m B.proc B.k?) λX=>bR.J3 0 X r) (bg (B.kind==5) (bR.J3 (w? N (0-a)) (w? N (0-j)) r) (bg (B.kind==6) (bR.J3 (w? N (j+b)) (w? N (a+T)) r) (bg (B.kind==7) (bR.J3 (w? N (j-T)) (w? N (a-b)) r) (H (cR j b) λu=>H (cR j T) λw=>H (cR a b) λz=>H (cR a T) λC=>H (cR j b) λD=>H (cR j T) λG=>H (cR a b) λI=>H (cR a T) λd=>bR.J3 (if(if C<z then C else z)<(if w<u then w else u)then(if C<z then C else z)else(if w<u then w else u)) (if(if d>I then d else I)>(if G>D then G else D)then(if d>I then d else I)else(if G>D then G else D)) r))))))))
def J1(g j i T:Int)(G B:X')(d:Z4)(D:T')(r:(Z4×T')->aY (Int×Int×X')):aY (Int×Int×X'):=bg (_r ((len D.l)>1)) (H (idx D.l 1) λw=>H (r (d,w)) λu=>bR.J2 g j u.1 u.2.1 G u.2.2 d D r) (bR.J2 g j i T G B d D r)
theorem z7(r:(Z4×T')->aY (Int×Int×X'))(a:eP Sy cL 218 (λz:Z4×T'=>[enc z.1,enc z.2]) (λr:Int×Int×X'=>[.int N r.1,.int N r.2.1,.bool r.2.2]) r U)(D B:Int):Le (H (J3 D B r) (λr=>M [.int N r.1,.int N r.2.1,.bool r.2.2])) (bV Sy cL (pU (tr Tx 218)) (rQ (tb Tx 218) [1,1,1,1,0,1,0,1,1,1,0] [] (bD [Iv 13 D,Iv 14 B] []))):=bK 7 3 [14,151] 154 (bn 7 151 (br 3) (br 3)) λu=>aZ
theorem XI(r:(Z4×T')->aY (Int×Int×X'))(a:eP Sy cL 218 (λz:Z4×T'=>[enc z.1,enc z.2]) (λr:Int×Int×X'=>[.int N r.1,.int N r.2.1,.bool r.2.2]) r U)(m b c T:Int)(o B:X')(d:Z4)(i:T'):Le (H (J2 m b c T o B d i r) (λr=>M [.int N r.1,.int N r.2.1,.bool r.2.2])) (bV Sy cL (pU (tr Tx 218)) (rQ (tb Tx 218) [1,1,1,1,0,1,0] [] (bD [Pv 2,Pv 3,Iv 7 m,Iv 8 b,Iv 9 c,Iv 10 T,Bv 11 o,Bv 12 B] [Xb 2 d,Xb 3 i]))):=bK 6 3 [12,45] 48 (ck 6 45 (br 3) (br 3)) λX=>bn 2 48 aZ (bn 17 51 (nY 11 (z7 r a i.n i.n)) (bn 8 58 (bY 10 λZ _=>bY 0 λj _=>nY 8 (z7 r a j.1 j.2)) (bn 8 74 (bB 6 λQ _=>bL 2 Q.b? (nY 4 (z7 r a 0 (len Q.b?)))) (bn 8 85 (bp 7 λS _=>nY 4 (z7 r a 0 S)) (bn 8 94 (nY 11 (z7 r a (w? N (0-b)) (w? N (0-m)))) (bn 8 101 (nY 13 (z7 r a (w? N (m+c)) (w? N (b+T)))) (bn 8 110 (nY 13 (z7 r a (w? N (m-T)) (w? N (b-c)))) (bp 5 λu _=>bp 2 λw _=>bp 3 λC _=>bp 2 λD _=>bp 8 λG _=>bp 2 λI _=>bp 3 λg _=>bp 2 λL _=>nY 6 (z7 r a (if(if D<C then D else C)<(if w<u then w else u)then(if D<C then D else C)else(if w<u then w else u)) (if(if L>g then L else g)>(if I>G then I else G)then(if L>g then L else g)else(if I>G then I else G)))))))))))
theorem mX(r:(Z4×T')->aY (Int×Int×X'))(a:eP Sy cL 218 (λz:Z4×T'=>[enc z.1,enc z.2]) (λr:Int×Int×X'=>[.int N r.1,.int N r.2.1,.bool r.2.2]) r U)(g j i T:Int)(G B:X')(d:Z4)(D:T'):Le (H (J1 g j i T G B d D r) (λr=>M [.int N r.1,.int N r.2.1,.bool r.2.2])) (bV Sy cL (pU (tr Tx 218)) (rQ (tb Tx 218) [1,1,1,1,0] [] (bD [Pv 2,Pv 3,Iv 7 g,Iv 8 j,Iv 9 i,Iv 10 T,Bv 11 G,Bv 12 B] [Xb 2 d,Xb 3 D]))):=dG 5 30 (Pred.eW D.l) (bL 0 D.l (bn 3 32 (dG 5 36 (Pred.eW D.l) (bB 0 λw _=>bY (F:=Fc.of (d,w) a) 1 λu _=>nY 10 (XI r a g j u.1 u.2.1 G u.2.2 d D))) (nY 4 (XI r a g j i T G B d D))))
end bR
def ij(B:Z4)(p1:T')(r:(Z4×T')->aY (Int×Int×X')):aY (Int×Int×X'):=bg (_r ((len p1.l)>0)) (H (idx p1.l 0) λw=>H (r (B,w)) λu=>bR.J1 u.1 u.2.1 0 0 u.2.2 U B p1 r) (bR.J1 0 0 0 0 U U B p1 r)
open bR in
theorem B0(r:(Z4×T')->aY (Int×Int×X'))(a:eP Sy cL 218 (λz:Z4×T'=>[enc z.1,enc z.2]) (λr:Int×Int×X'=>[.int N r.1,.int N r.2.1,.bool r.2.2]) r U)(B:Z4)(p1:T'):Le (H (ij B p1 r) λr=>M [.int N r.1,.int N r.2.1,.bool r.2.2]) (gO cL 218 [enc B,enc p1]):=(Fc.M 218 [enc B,enc p1] (bO 2 2 B (bO 0 3 p1 (dG 24 16 (Pred.eW p1.l) (bL 0 p1.l (bn 3 18 (dG 5 22 (Pred.eW p1.l) (bB 0 λw _=>bY (F:=Fc.of (B,w) a) 1 λu _=>nY 10 (mX r a u.1 u.2.1 0 0 u.2.2 U B p1))) (nY 4 (mX r a 0 0 0 0 U U B p1))))))):Fc Sy cL (ij B p1 r)).F.h ()
def bR(B:Z4)(p1:T'):aY (Int×Int×X'):=dm (λr(z:Z4×T')=>ij z.1 z.2 r) 100000 (B,p1)
instance Ub(B:Z4)(p1:T'):Fc Sy cL (bR B p1):=Fc.of (B,p1) (eP.fix (A:=λz:Z4×T'=>[enc z.1,enc z.2]) (E:=λr:Int×Int×X'=>[.int N r.1,.int N r.2.1,.bool r.2.2]) (sc:=U) (b:=(λr(z:Z4×T')=>ij z.1 z.2 r)) o? (λ_ _=>rfl) (λr a z=>B0 r a z.1 z.2) 100000)
namespace lK
def bh(D:Z4)(B:T')(a:Int)(r:(Z4×T')->aY X'):aY (Fw Int Unit Unit):=bg (_r (a<(len B.l))) (H (idx B.l a) λu=>H (r (D,u)) λw=>bg w (M (.n (w? N (a+1)))) (M (.r ()))) (M (.x ()))
def W1(a:Int)(B:Z4)(D:T')(r:(Z4×T')->aY X'):aY X':=H (bG (λq:Int=>bh B D q r) a) (Fw.elim (λe=>M U) (λe=>M O))
end lK
def kQ(B:Z4)(p1:T')(r:(Z4×T')->aY X'):aY X':=H (rF p1) λu=>bg (u==1) (H (bR B p1) λw=>M w.2.2) (lK.W1 0 B p1 r)
open lK in
theorem EG(r:(Z4×T')->aY X')(a:eP Sy cL 199 (λz:Z4×T'=>[enc z.1,enc z.2]) (λr:X'=>[.bool r]) r U)(B:Z4)(p1:T'):Le (H (kQ B p1 r) λr=>M [.bool r]) (gO cL 199 [enc B,enc p1]):=(Fc.M 199 [enc B,enc p1] (bO 2 2 B (bO 0 3 p1 (bp 7 λD _=>bn 3 11 (bp 5 λG _=>aZ) (dh 11 (λw=>(bD [Pv 2,Pv 3,Iv 8 w] [Xb 2 B,Xb 3 p1])) (λu=>(0,(bD [] []))) (λu=>(bD [Bv 4 O] [])) (λw=>dG 7 22 (Pred.eW p1.l) (bL 0 p1.l (bn 3 24 (dG 10 29 (Pred.eW p1.l) (bB 1 λC _=>bY (F:=Fc.of (B,C) a) 1 λI _=>ck 3 34 aZ aZ)) aZ))) (λu=>aZ) (λu=>aZ))))):Fc Sy cL (kQ B p1 r)).F.h ()
def lK(B:Z4)(p1:T'):aY X':=dm (λr(z:Z4×T')=>kQ z.1 z.2 r) 100000 (B,p1)
instance aav(B:Z4)(p1:T'):Fc Sy cL (lK B p1):=Fc.of (B,p1) (eP.fix (A:=λz:Z4×T'=>[enc z.1,enc z.2]) (E:=λr:X'=>[.bool r]) (sc:=U) (b:=(λr(z:Z4×T')=>kQ z.1 z.2 r)) o? (λ_ _=>rfl) (λr a z=>EG r a z.1 z.2) 100000)
def vS(B:Z4)(p1:T'):PH:=H (qt B) λu=>(bg u (H (oU p1) λw=>M (!w)) (M U):aY X').bind λz=>bg z (M 1) (H (gU B p1) λC=>bg C (H (gP p1) λD=>bg D (H (lK B p1) λG=>bg G (M 0) (M 9)) (M 14)) (M 13))
instance X5(B:Z4)(p1:T'):Fc Sy cL (vS B p1):=Fc.M 172 [enc B,enc p1] (bO 2 2 B (bO 0 3 p1 (bp 7 λu _=>bK 2 4 [8] 12 (ck 2 8 (bp 1 λw _=>br 2) (br 4)) λz=>bn 2 12 aZ (bp 8 λC _=>ck 3 16 (bp 7 λD _=>ck 3 19 (bp 8 λG _=>ck 3 23 aZ aZ) aZ) aZ))))
def wU(B:T'):aY (Int×Int):=H (oU B) λu=>bg u (H (gP B) λw=>bg w (H (rF B) λz=>M (z,0)) (M (0,14))) (M (0,1))
instance aaD(B:T'):Fc Sy cL (wU B):=Fc.M 173 [enc B] (bO 2 1 B (bp 8 λu _=>ck 3 6 (bp 7 λw _=>ck 3 9 (bp 6 λz _=>aZ) aZ) aZ))
def AA(D:Z4)(p1:T')(B:Int):PH:=H (vS D p1) λu=>bg (u==0) (H (wU p1) λw=>bg (w.1==B) (M 0) (M 14)) (M u)
instance aap(D:Z4)(p1:T')(B:Int):Fc Sy cL (AA D p1 B):=Fc.M 148 [enc D,enc p1,.int N B] (bO 2 3 D (bO 0 4 p1 (bp 8 λu _=>ck 9 14 (bp 7 λw _=>ck 14 23 aZ aZ) aZ)))
namespace fU
def bh(B:T')(i3:Int)(r:T'->aY X'):aY (Fw Int Unit Unit):=bg (_r (i3<(len B.l))) (H (idx B.l i3) λu=>H (r u) λw=>bg w (M (.r ())) (M (.n (w? N (i3+1))))) (M (.x ()))
def W1(i3:Int)(B:T')(r:T'->aY X'):aY X':=H (bG (λq:Int=>bh B q r) i3) (Fw.elim (λe=>M O) (λe=>M U))
end fU
def iq(B:T')(r:T'->aY X'):aY X':=H (bg (_r (B.kind>=18)) (M (_r (B.kind<=21))) (M O):aY X') λu=>bg u (M U) (fU.W1 0 B r)
open fU in
theorem B2(r:T'->aY X')(a:eP Sy cL 175 (λz:T'=>[enc z]) (λr:X'=>[.bool r]) r U)(B:T'):Le (H (iq B r) λr=>M [.bool r]) (gO cL 175 [enc B]):=(Fc.M 175 [enc B] (bO 2 1 B (bK 10 4 [7] 11 (bn 10 7 (br 4) (br 4)) λD=>bn 2 11 aZ (dh 11 (λw=>(bD [Pv 1,Iv 3 w] [Xb 1 B])) (λu=>(0,(bD [] []))) (λu=>(bD [Bv 2 U] [])) (λw=>dG 7 14 (Pred.eW B.l) (bL 0 B.l (bn 3 16 (dG 9 20 (Pred.eW B.l) (bB 1 λC _=>bp (F:=Fc.of C a) 1 λG _=>bn 2 24 aZ aZ)) aZ))) (λu=>aZ) (λu=>aZ)))):Fc Sy cL (iq B r)).F.h ()
def fU(B:T'):aY X':=dm (λr(z:T')=>iq z r) 100000 B
instance Ug(B:T'):Fc Sy cL (fU B):=Fc.of B (eP.fix (A:=λz:T'=>[enc z]) (E:=λr:X'=>[.bool r]) (sc:=U) (b:=(λr(z:T')=>iq z r)) o? (λ_ _=>rfl) (λr a z=>B2 r a z) 100000)
def rX(B:T'):aY X':=H (oU B) λu=>(bg u (H (fU B) λw=>M w) (M O):aY X').bind λz=>M z
instance Uk(B:T'):Fc Sy cL (rX B):=Fc.M 149 [enc B] (bO 2 1 B (bp 6 λu _=>bK 1 3 [1,5] 8 (bn 1 5 (bp 1 λw _=>br 1) (br 3)) λz=>aZ))
namespace kC
def bh(B:U')(D:Sl Var)(a:Int):aY (Fw Int Unit Int):=bg (_r (a<(len D))) (H (idx D a) λu=>bg (E? u.name==E? B) (M (.r a)) (M (.n (w? N (a+1))))) (M (.x ()))
def W1(B:U')(D:Sl Var)(a:Int):PH:=H (bG (λq:Int=>bh B D q) a) (Fw.elim (λe=>M (-1)) (λe=>M e))
end kC
def kC(D:Z4)(p1:Int)(B:U'):PH:=H (idx D.a? p1) λu=>kC.W1 B u.g? 0
open kC in
instance ZK(D:Z4)(p1:Int)(B:U'):Fc Sy cL (kC D p1 B):=Fc.M 204 [enc D,.int N p1,.str B] (bO 2 3 D (bB 8 λw _=>dh 13 (λz=>(bD [(2,.v (.str B)),Cv 7 w.g?,Iv 8 z] [])) (λu=>(0,(bD [] []))) (λu=>(bD [Iv 6 u] [])) (λz=>bL 6 w.g? (bn 3 18 (bB 9 λC _=>bn 6 27 aZ aZ) aZ)) (λu=>aZ) (λu=>aZ)))
namespace gJ
def bF(p1 G T:Int)(D:Sl Assign)(d:Z4)(B:Int):aY (Fw Int Unit Int):=bg (_r (B<(len D))) (H (idx D B) λu=>bg (u.var==G) (H (idx D B) λw=>M (.r w.value)) (M (.n (w? N (B+1))))) (M (.x ()))
def W2(p1 T d:Int)(B:Sl Assign)(D:Int)(G:Z4):aY (Fw Int Unit Int):=H (bG (λq:Int=>bF p1 T d B G q) D) (Fw.elim (λe=>M (.n (w? N (d-1)))) (λe=>M (.r e)))
def bh(p1 G:Int)(B:Z4)(D:Int):aY (Fw Int Unit Int):=bg (_r (D>=0)) (H (idx B.a? p1) λu=>H (idx u.b? D) λw=>W2 p1 G D w.assign 0 B) (M (.x ()))
def W1(p1 D G:Int)(B:Z4):PH:=H (bG (λq:Int=>bh p1 D B q) G) (Fw.elim (λe=>H (idx B.a? p1) λu=>H (idx u.g? D) λw=>M w.init_) (λe=>M e))
end gJ
def gJ(B:Z4)(p1 D k3:Int):PH:=gJ.W1 p1 D (w? N (k3-1)) B
open gJ in
instance Zz(B:Z4)(p1 D k3:Int):Fc Sy cL (gJ B p1 D k3):=Fc.M 203 [enc B,.int N p1,.int N D,.int N k3] (bO 2 4 B (dh 13 (λu=>(bD [Iv 1 p1,Iv 2 D,Pv 4,Iv 9 u] [Xb 4 B])) (λw=>(0,(bD [Iv 1 p1,Iv 2 D,Pv 4] [Xb 4 B]))) (λw=>(bD [Iv 8 w] [])) (λu=>bn 8 15 (bB 10 λI _=>bB 3 λC _=>dh 12 (λG=>(bD [Iv 1 p1,Iv 2 D,Pv 4,Iv 9 u,Cv 10 C.assign,Iv 11 G] [Xb 4 B])) (λz=>(2,(bD [Iv 1 p1,Iv 2 D,Pv 4,Iv 9 u] [Xb 4 B]))) (λz=>(bD [Iv 8 z] [])) (λG=>bL 6 C.assign (bn 3 31 (bB 9 λd _=>bn 6 40 (bB 5 λL _=>aZ) aZ) aZ)) (λz=>aZ) (λz=>aZ)) aZ) (λw=>bB 7 λg _=>bB 3 λQ _=>aZ) (λw=>aZ)))
namespace iP
def bh(T:Zg)(p2 g:Int)(G:Z4)(B:Zg)(D:Int):aY (Fw ((Zg)×Int) Zg Empty):=H (idx T p2) λz=>bg (_r (D<z)) (H (idx G.a? p2) λC=>H (idx C.b? D) λu=>H (bg (u.kind==2) (M (!(u.k?==g))) (M U):aY X') λI=>bg I (M (.n (B,w? N (D+1)))) (H (dJ G 3 u.d?) λw=>(bg (w.index==0) (M U) (H (idx T w.proc) λd=>M (_r (w.index>d))):aY X').bind λL=>bg L (H (d_ B (u.d?:Int)) λi=>M (.n (i,w? N (D+1)))) (M (.n (B,w? N (D+1)))))) (M (.x B))
def W1(d:Zg)(p2 T:Int)(B:Zg)(D:Int)(G:Z4):aY Zg:=H (bG (λq:(Zg)×Int=>bh d p2 T G q.1 q.2) (B,D)) (Fw.elim (λe=>M e) (λe=>c! e))
end iP
def iP(B:Z4)(D:Zg)(p2 G:Int):aY Zg:=iP.W1 D p2 G (Sl.nil:Zg) 0 B
open iP in
instance T7(B:Z4)(D:Zg)(p2 G:Int):Fc Sy cL (iP B D p2 G):=Fc.N 205 [enc B,enc D,.int N p2,.int N G] (bO 2 4 B (dW 17 (λu=>(bD [Cv 1 D,Iv 2 p2,Iv 3 G,Pv 4,Ov 9,Iv 10 u.2] [Xb 4 B,Lb 2009 u.1])) (λw=>(0,(bD [Ov 9] [Lb 2009 w]))) (λu=>bB 8 λC _=>bn 4 18 (bB 10 λI _=>bB 3 λz _=>oN 2 11 0 z (bK 9 5 [33] 38 (ck 9 33 (br 5) (br 5)) λd=>bn 2 38 aZ (bp 8 λL _=>bK 10 9 [12,46] 55 (bn 10 46 (br 9) (bB 5 λg _=>br 3)) λQ=>bn 2 55 (mB 6 2009 59 60 λS _=>aZ) aZ))) aZ) (λw=>aZ)))
def jW(B:Z4)(D:Zg)(p2:T')(r:(Z4×(Zg)×T')->PH):PH:=bg (p2.kind==1) (M p2.n) (bg (p2.kind==2) (H (kC B p2.proc p2.name) λS=>H (idx D p2.proc) λT=>H (gJ B p2.proc S T) λg=>M g) (bg (p2.kind==3) (H (idx D p2.proc) λm=>M m) (bg (p2.kind==4) (H (iP B D p2.proc p2.k?) λX=>M (len X)) (bg (p2.kind==5) (H (idx p2.l 0) λj=>H (r (B,D,j)) λZ=>M (w? N (0-Z))) (bg (p2.kind==6) (H (idx p2.l 0) λa=>H (r (B,D,a)) λb=>H (idx p2.l 1) λu=>H (r (B,D,u)) λw=>M (w? N (b+w))) (bg (p2.kind==7) (H (idx p2.l 0) λz=>H (r (B,D,z)) λC=>H (idx p2.l 1) λG=>H (r (B,D,G)) λI=>M (w? N (C-I))) (H (idx p2.l 0) λd=>H (r (B,D,d)) λL=>H (idx p2.l 1) λi=>H (r (B,D,i)) λQ=>M (w? N (L*Q)))))))))
theorem D_(r:(Z4×(Zg)×T')->PH)(a:eP Sy cL 176 (λz:Z4×(Zg)×T'=>[enc z.1,enc z.2.1,enc z.2.2]) (λr:Int=>[.int N r]) r U)(B:Z4)(D:Zg)(p2:T'):Le (H (jW B D p2 r) λr=>M [.int N r]) (gO cL 176 [enc B,enc D,enc p2]):=(Fc.M 176 [enc B,enc D,enc p2] (bO 2 3 B (bO 0 5 p2 (bn 17 9 aZ (bn 7 13 (bY 11 λX _=>bB 3 λm _=>bY 1 λZ _=>aZ) (bn 7 30 (bB 6 λb _=>aZ) (bn 7 37 (bp 9 λg _=>bL 0 g aZ) (bn 7 47 (dG 7 52 (Pred.eW p2.l) (bB 0 λL _=>bY (F:=Fc.of (B,D,L) a) 1 λc _=>aZ)) (bn 7 57 (dG 7 62 (Pred.eW p2.l) (bB 0 λj _=>bY (F:=Fc.of (B,D,j) a) 1 λd _=>dG 4 69 (Pred.eW p2.l) (bB 0 λu _=>bY (F:=Fc.of (B,D,u) a) 1 λQ _=>aZ))) (bn 7 74 (dG 7 79 (Pred.eW p2.l) (bB 0 λw _=>bY (F:=Fc.of (B,D,w) a) 1 λS _=>dG 4 86 (Pred.eW p2.l) (bB 0 λC _=>bY (F:=Fc.of (B,D,C) a) 1 λT _=>aZ))) (dG 10 94 (Pred.eW p2.l) (bB 0 λG _=>bY (F:=Fc.of (B,D,G) a) 1 λi _=>dG 4 101 (Pred.eW p2.l) (bB 0 λI _=>bY (F:=Fc.of (B,D,I) a) 1 λo _=>aZ)))))))))))):Fc Sy cL (jW B D p2 r)).F.h ()
def kF(B:Z4)(D:Zg)(p2:T'):PH:=dm (λr(z:Z4×(Zg)×T')=>jW z.1 z.2.1 z.2.2 r) 100000 (B,D,p2)
instance YQ(B:Z4)(D:Zg)(p2:T'):Fc Sy cL (kF B D p2):=Fc.of (B,D,p2) (eP.fix (A:=λz:Z4×(Zg)×T'=>[enc z.1,enc z.2.1,enc z.2.2]) (E:=λr:Int=>[.int N r]) (sc:=U) (b:=(λr(z:Z4×(Zg)×T')=>jW z.1 z.2.1 z.2.2 r)) o? (λ_ _=>rfl) (λr a z=>D_ r a z.1 z.2.1 z.2.2) 100000)
def jY(B:Z4)(D:Zg)(p2:T')(r:(Z4×(Zg)×T')->aY X'):aY X':=bg (p2.kind==9) (H (idx p2.l 0) λa=>H (kF B D a) λb=>H (idx p2.l 1) λc=>H (kF B D c) λd=>M (b==d)) (bg (p2.kind==10) (H (idx p2.l 0) λe=>H (kF B D e) λf=>H (idx p2.l 1) λg=>H (kF B D g) λh=>M (!(f==h))) (bg (p2.kind==11) (H (idx p2.l 0) λi=>H (kF B D i) λu=>H (idx p2.l 1) λw=>H (kF B D w) λz=>M (_r (u<z))) (bg (p2.kind==12) (H (idx p2.l 0) λC=>H (kF B D C) λG=>H (idx p2.l 1) λI=>H (kF B D I) λm=>M (_r (G<=m))) (bg (p2.kind==13) (M U) (bg (p2.kind==15) (H (idx p2.l 0) λL=>H (r (B,D,L)) λq=>M (!q)) (bg (p2.kind==16) (H (idx p2.l 0) λQ=>H (r (B,D,Q)) λS=>(bg S (H (idx p2.l 1) λT=>H (r (B,D,T)) λo=>M o) (M O):aY X').bind λy=>M y) (bg (p2.kind==17) (H (idx p2.l 0) λX=>H (r (B,D,X)) λt=>(bg t (M U) (H (idx p2.l 1) λZ=>H (r (B,D,Z)) λj=>M j):aY X').bind λk=>M k) (M O))))))))
theorem D6(r:(Z4×(Zg)×T')->aY X')(a:eP Sy cL 150 (λz:Z4×(Zg)×T'=>[enc z.1,enc z.2.1,enc z.2.2]) (λr:X'=>[.bool r]) r U)(B:Z4)(D:Zg)(p2:T'):Le (H (jY B D p2 r) λr=>M [.bool r]) (gO cL 150 [enc B,enc D,enc p2]):=(Fc.M 150 [enc B,enc D,enc p2] (bO 2 3 B (bO 0 5 p2 (bn 17 9 (dG 7 14 (Pred.eW p2.l) (bB 0 λb _=>bY 1 λc _=>dG 4 21 (Pred.eW p2.l) (bB 0 λd _=>bY 1 λe _=>aZ))) (bn 7 26 (dG 7 31 (Pred.eW p2.l) (bB 0 λf _=>bY 1 λg _=>dG 4 38 (Pred.eW p2.l) (bB 0 λh _=>bY 1 λi _=>aZ))) (bn 7 43 (dG 7 48 (Pred.eW p2.l) (bB 0 λj _=>bY 1 λt _=>dG 4 55 (Pred.eW p2.l) (bB 0 λQ _=>bY 1 λS _=>aZ))) (bn 7 60 (dG 7 65 (Pred.eW p2.l) (bB 0 λT _=>bY 1 λq _=>dG 4 72 (Pred.eW p2.l) (bB 0 λA _=>bY 1 λX _=>aZ))) (bn 7 77 aZ (bn 7 79 (dG 7 84 (Pred.eW p2.l) (bB 0 λC _=>bY (F:=Fc.of (B,D,C) a) 1 λy _=>aZ)) (bn 7 89 (dG 7 94 (Pred.eW p2.l) (bB 0 λG _=>bY (F:=Fc.of (B,D,G) a) 1 λZ _=>xu 1 8 [105,97] (λu=>(bD [Iv 8 p2.kind,Bv 9 O,Bv 26 O,Bv 43 O,Bv 60 O,Bv 77 O,Bv 79 O,Bv 89 U,Bv 106 u] [Xb 3 B,Xb 5 p2])) (bn 1 98 (dG 4 102 (Pred.eW p2.l) (bB 0 λI _=>bY (F:=Fc.of (B,D,I) a) 1 λk _=>br 1)) (br 8)) λu=>aZ)) (bn 7 107 (dG 7 112 (Pred.eW p2.l) (bB 0 λo _=>bY (F:=Fc.of (B,D,o) a) 1 λl _=>xu 1 8 [123,115] (λw=>(bD [Bv 9 O,Bv 26 O,Bv 43 O,Bv 60 O,Bv 77 O,Bv 79 O,Bv 89 O,Bv 107 U,Bv 124 w] [Xb 3 B,Xb 5 p2])) (bn 1 116 (br 8) (dG 4 120 (Pred.eW p2.l) (bB 0 λL _=>bY (F:=Fc.of (B,D,L) a) 1 λm _=>br 1))) λw=>aZ)) aZ)))))))))):Fc Sy cL (jY B D p2 r)).F.h ()
def qB(B:Z4)(D:Zg)(p2:T'):aY X':=dm (λr(z:Z4×(Zg)×T')=>jY z.1 z.2.1 z.2.2 r) 100000 (B,D,p2)
instance ZI(B:Z4)(D:Zg)(p2:T'):Fc Sy cL (qB B D p2):=Fc.of (B,D,p2) (eP.fix (A:=λz:Z4×(Zg)×T'=>[enc z.1,enc z.2.1,enc z.2.2]) (E:=λr:X'=>[.bool r]) (sc:=U) (b:=(λr(z:Z4×(Zg)×T')=>jY z.1 z.2.1 z.2.2 r)) o? (λ_ _=>rfl) (λr a z=>D6 r a z.1 z.2.1 z.2.2) 100000)
namespace iI
def bh(T:Zb)(G:Z4)(d:T')(B:Sl X')(D:Int):aY (Fw ((Sl X')×Int) (Sl X') Empty):=bg (_r (D<(len T))) (H (idx T D) λu=>H (qB G u d) λw=>H (d_ B (w:X')) λz=>M (.n (z,w? N (D+1)))) (M (.x B))
def W1(T:Zb)(B:Sl X')(D:Int)(G:Z4)(d:T'):aY ((Sl X')×(Zb)×Int):=H (bG (λq:(Sl X')×Int=>bh T G d q.1 q.2) (B,D)) (Fw.elim (λe=>M (e,T,0)) (λe=>c! e))
end iI
def iI(B:Z4)(p1:T'):aY ((Sl X')×(Zb)×Int):=H (AA B p1 2) λu=>bg (u==0) (H (rX p1) λz=>bg z (M (Sl.nil,Sl.nil,15)) (H (eC B) λw=>bg w.2 (iI.W1 w.1 (Sl.nil:Sl X') 0 B p1) (M (Sl.nil,Sl.nil,16)))) (M (Sl.nil,Sl.nil,u))
open iI in
instance YU(B:Z4)(p1:T'):Fc Sy cL (iI B p1):=Fc.N 117 [enc B,enc p1] (bO 2 2 B (bO 0 3 p1 (bp 10 λC _=>ck 9 16 (bp 7 λD _=>bn 2 19 aZ (bp 6 λu _=>ck 14 26 (dW 17 (λw=>(bD [Pv 2,Pv 3,Cv 8 u.1,Ov 10,Iv 11 w.2] [Xb 2 B,Xb 3 p1,Lb 2010 w.1])) (λz=>(0,(bD [Cv 8 u.1,Ov 10] [Lb 2010 z]))) (λw=>bL 7 u.1 (bn 3 30 (bB 10 λG _=>bY 2 λI _=>mB 1 2010 41 42 λd _=>aZ) aZ)) (λz=>aZ)) aZ)) aZ)))
namespace i_
def bh(d:Sl X')(D:Zb)(B:Zb)(G:Int):aY (Fw ((Zb)×Int) Zb Empty):=bg (_r (G<(len d))) (H (idx d G) λu=>bg u (H (idx D G) λw=>H (d_ B (w:Zg)) λz=>M (.n (z,w? N (G+1)))) (M (.n (B,w? N (G+1))))) (M (.x B))
def W1(G:Sl X')(B D:Zb)(d:Int):aY Zb:=H (bG (λq:(Zb)×Int=>bh G B q.1 q.2) (D,d)) (Fw.elim (λe=>M e) (λe=>c! e))
end i_
def i_(D:Sl X')(B:Zb):aY Zb:=i_.W1 D B (Sl.nil:Zb) 0
open i_ in
instance aaP(D:Sl X')(B:Zb):Fc Sy cL (i_ D B):=Fc.N 32 [enc D,enc B] (dW 19 (λu=>(bD [Cv 0 D,Cv 1 B,Ov 5,Iv 6 u.2] [Lb 2005 u.1])) (λw=>(0,(bD [Ov 5] [Lb 2005 w]))) (λu=>bL 7 D (bn 3 10 (bB 9 λC _=>bn 3 16 (bB 5 λz _=>vD 1 22 ([z]:aX Zg) (mB 0 2005 22 23 λG _=>aZ)) aZ) aZ)) (λw=>aZ))
def qn(B:Z4)(p1:T'):aY ((Zb)×Int):=H (iI B p1) λu=>bg (u.2.2==0) (H (i_ u.1 u.2.1) λw=>M (w,0)) (M (Sl.nil,u.2.2))
instance RB(B:Z4)(p1:T'):Fc Sy cL (qn B p1):=Fc.N 81 [enc B,enc p1] (bO 2 2 B (bO 0 3 p1 (bp 8 λu _=>ck 16 17 (bp 7 λw _=>aZ) aZ)))
namespace jd
def bh(a0 G:Zg)(B:Zg)(D:Int):aY (Fw ((Zg)×Int) Zg Empty):=bg (_r (D<(len a0))) (H (idx a0 D) λu=>H (idx G D) λw=>H (d_ B ((if w<u then w else u):Int)) λz=>M (.n (z,w? N (D+1)))) (M (.x B))
def W1(a0 D B:Zg)(G:Int):aY Zg:=H (bG (λq:(Zg)×Int=>bh a0 D q.1 q.2) (B,G)) (Fw.elim (λe=>M e) (λe=>c! e))
end jd
def jd(a0 B:Zg):aY Zg:=jd.W1 a0 B (Sl.nil:Zg) 0
open jd in
instance aat(a0 B:Zg):Fc Sy cL (jd a0 B):=Fc.N 61 [enc a0,enc B] (dW 19 (λu=>(bD [Cv 0 a0,Cv 1 B,Ov 5,Iv 6 u.2] [Lb 2005 u.1])) (λw=>(0,(bD [Ov 5] [Lb 2005 w]))) (λu=>bL 7 a0 (bn 3 10 (bB 9 λz _=>bB 3 λC _=>mB 3 2005 23 24 λD _=>aZ) aZ)) (λw=>aZ))
namespace pR
def bh(D:Zb)(G:Zg)(B:Int):aY (Fw Int Unit Int):=bg (_r (B<(len D))) (H (idx D B) λu=>H (eD u G) λw=>bg w (M (.r B)) (M (.n (w? N (B+1))))) (M (.x ()))
def W1(B:Zb)(D:Zg)(G:Int):PH:=H (bG (λq:Int=>bh B D q) G) (Fw.elim (λe=>M (-1)) (λe=>M e))
end pR
def pR(B:Zb)(D:Zg):PH:=pR.W1 B D 0
open pR in
instance aaV(B:Zb)(D:Zg):Fc Sy cL (pR B D):=Fc.M 90 [enc B,enc D] (dh 13 (λw=>(bD [Cv 0 B,Cv 1 D,Iv 5 w] [])) (λu=>(0,(bD [] []))) (λu=>(bD [Iv 4 u] [])) (λw=>bL 6 B (bn 3 9 (bB 9 λz _=>bp 2 λC _=>bn 2 17 aZ aZ) aZ)) (λu=>aZ) (λu=>aZ))
def vE(B:Zb)(D:Zg):aY X':=H (pR B D) λu=>M (_r (u>=0))
instance ZY(B:Zb)(D:Zg):Fc Sy cL (vE B D):=Fc.M 60 [enc B,enc D] (bp 9 λu _=>aZ)
namespace eN
def bF(B:Zb)(i3:Int)(D:Int):aY (Fw Int Unit Unit):=bg (_r (D<i3)) (H (idx B i3) λu=>H (idx B D) λw=>H (jd u w) λz=>H (vE B z) λC=>bg C (M (.n (w? N (D+1)))) (M (.r ()))) (M (.x ()))
def W2(B:Zb)(i3 D:Int):aY (Fw Int Unit Unit):=H (bG (λq:Int=>bF B i3 q) D) (Fw.elim (λe=>M (.n (w? N (i3+1)))) (λe=>M (.r ())))
def bh(B:Zb)(i3:Int):aY (Fw Int Unit Unit):=bg (_r (i3<(len B))) (W2 B i3 0) (M (.x ()))
def W1(B:Zb)(i3:Int):aY X':=H (bG (λq:Int=>bh B q) i3) (Fw.elim (λe=>M U) (λe=>M O))
end eN
def eN(B:Zb):aY X':=eN.W1 B 0
open eN in
instance Xy(B:Zb):Fc Sy cL (eN B):=Fc.M 33 [enc B] (dh 13 (λu=>(bD [Cv 0 B,Iv 3 u] [])) (λw=>(0,(bD [] []))) (λw=>(bD [Bv 2 O] [])) (λu=>bL 6 B (bn 3 8 (dh 12 (λC=>(bD [Cv 0 B,Iv 3 u,Iv 4 C] [])) (λz=>(2,(bD [Cv 0 B,Iv 3 u] []))) (λz=>(bD [Bv 2 O] [])) (λC=>bn 9 13 (bB 10 λD _=>bB 3 λG _=>bp 1 λI _=>bY 0 λd _=>ck 3 27 aZ aZ) aZ) (λz=>aZ) (λz=>aZ)) aZ)) (λw=>aZ) (λw=>aZ))
namespace pG
def bh(a0 D:Zg)(B:Int):aY (Fw Int Unit Unit):=bg (_r (B<(len a0))) (H (idx a0 B) λu=>H (idx D B) λw=>bg (_r (u>w)) (M (.r ())) (M (.n (w? N (B+1))))) (M (.x ()))
def W1(a0 B:Zg)(D:Int):aY X':=H (bG (λq:Int=>bh a0 B q) D) (Fw.elim (λe=>M U) (λe=>M O))
end pG
def pG(a0 B:Zg):aY X':=bg ((len a0)==(len B)) (pG.W1 a0 B 0) (M O)
open pG in
instance abq(a0 B:Zg):Fc Sy cL (pG a0 B):=Fc.M 26 [enc a0,enc B] (bL 9 a0 (bL 1 B (ck 3 10 (dh 11 (λw=>(bD [Cv 0 a0,Cv 1 B,Iv 5 w] [])) (λu=>(0,(bD [] []))) (λu=>(bD [Bv 4 O] [])) (λw=>bL 6 a0 (bn 3 14 (bB 9 λz _=>bB 3 λC _=>bn 4 25 aZ aZ) aZ)) (λu=>aZ) (λu=>aZ)) aZ)))
namespace gy
def J2(D:Zb)(G B:Zg)(a:Int):aY (Fw ((Zg)×X'×Int) ((Zg)×X') Empty):=H (idx D a) λu=>H (jd B u) λw=>M (.n (w,U,w? N (a+1)))
def bh(G:Zb)(d:Zg)(D:Zg)(B:X')(a:Int):aY (Fw ((Zg)×X'×Int) ((Zg)×X') Empty):=bg (_r (a<(len G))) (H (idx G a) λu=>H (pG d u) λw=>bg w (bg B (J2 G d D a) (H (idx G a) λz=>J2 G d z a)) (M (.n (D,B,w? N (a+1))))) (M (.x (D,B)))
def W1(G:Zb)(d D:Zg)(B:X')(a:Int):aY ((Zg)×X'):=H (bG (λq:(Zg)×X'×Int=>bh G d q.1 q.2.1 q.2.2) (D,B,a)) (Fw.elim (λe=>M (e.1,e.2)) (λe=>c! e))
end gy
def gy(B:Zb)(D:Zg):aY ((Zg)×X'):=gy.W1 B D (Sl.nil:Zg) O 0
open gy in
instance aal(B:Zb)(D:Zg):Fc Sy cL (gy B D):=Fc.N 34 [enc B,enc D] (dW 24 (λu=>(bD [Cv 0 B,Cv 1 D,Cv 6 u.1,Bv 7 u.2.1,Iv 8 u.2.2] [])) (λw=>(0,(bD [Cv 6 w.1,Bv 7 w.2] []))) (λu=>bL 6 B (bn 3 12 (bB 11 λG _=>bp 1 λI _=>ck 3 21 (ck 10 23 (qC 4 (bB 5 λz _=>bp 1 λC _=>aZ)) (bB 4 λd _=>qC 5 (bB 5 λz _=>bp 1 λC _=>aZ))) aZ) aZ)) (λw=>aZ))
def w9(D:Z4)(p1:T')(G:Zg):aY ((Zg)×Int):=H (qn D p1) λu=>bg (u.2==0) (H (pO D G) λz=>bg z (H (eN u.1) λB=>bg B (H (gy u.1 G) λw=>bg w.2 (M (w.1,0)) (M (Sl.nil,7))) (M (Sl.nil,15))) (M (Sl.nil,18))) (M (Sl.nil,u.2))
instance aaQ(B:Z4)(p1:T')(D:Zg):Fc Sy cL (w9 B p1 D):=Fc.N 52 [enc B,enc p1,enc D] (bO 2 3 B (bO 0 4 p1 (bp 8 λu _=>ck 14 19 (bp 8 λw _=>ck 3 24 (bp 7 λz _=>ck 3 27 (bp 7 λC _=>ck 14 35 aZ aZ) aZ) aZ) aZ)))
def sx(B:Z4)(p1:T'):aY ((Zg)×Int):=H (nv (len B.a?) (0:Int)) λw=>H (w9 B p1 w) λu=>M (u.1,u.2)
instance Y_(B:Z4)(p1:T'):Fc Sy cL (sx B p1):=Fc.N 25 [enc B,enc p1] (bO 2 2 B (bO 0 3 p1 (bL 10 B.a? (aep 0 λu _=>bp 0 λw _=>aZ))))
def tR(c0:Zg)(p1:Int):aY Zg:=H (oC (Sl.row []:Zg) c0) λu=>H (Sl.iA u p1) λw=>H (Sl.get u w) λz=>H (Sl.iA u p1) λB=>H (Sl.put u B (w? N (z+1):Int)) λC=>M C
instance aaG(c0:Zg)(p1:Int):Fc Sy cL (tR c0 p1):=Fc.N 28 [enc c0,.int N p1] (xY 9 6 8 λw _=>jk N 7 8 λz _=>oR 0 8 0 1 O (λu=>.int N u) λu _=>jk N 1 8 λB _=>zI 0 8 (.int N (w? N (u+1))) λC _=>aZ)
def wV(D:Z4)(G:Zg)(p2 i3:Int):aY X':=H (idx D.a? p2) λz=>H (idx z.b? i3) λu=>bg (u.kind==3) (H (dJ D 2 u.d?) λw=>H (idx G w.proc) λB=>M (_r (w.index<=B))) (M U)
instance aaS(B:Z4)(D:Zg)(p2 i3:Int):Fc Sy cL (wV B D p2 i3):=Fc.M 53 [enc B,enc D,.int N p2,.int N i3] (bO 2 4 B (bB 8 λw _=>bB 3 λu _=>oN 2 9 0 u (ck 10 22 (bp 8 λz _=>bB 11 λC _=>aZ) aZ)))
namespace iy
def bF(D:Zg)(p6:Int)(B:Z4)(G:Int)(r:(Z4×(Zg))->aY Zg):aY (Fw Int Unit Zg):=H (Sl.iA D p6) λz=>H (Sl.get D z) λC=>bg (_r (G<C)) (H (wV B D p6 G) λI=>bg I (M (.n (w? N (G+1)))) (H (idx B.a? p6) λd=>H (idx d.b? G) λL=>H (dJ B 2 L.d?) λu=>H (Sl.iA D u.proc) λg=>H (Sl.put D g (u.index:Int)) λQ=>H (r (B,Q)) λw=>M (.r w))) (M (.x ()))
def W2(D:Zg)(p6 G:Int)(B:Z4)(r:(Z4×(Zg))->aY Zg):aY (Fw Int Unit Zg):=H (bG (λq:Int=>bF D p6 B q r) G) (Fw.elim (λe=>M (.n (w? N (p6+1)))) (λe=>M (.r e)))
def bh(D:Zg)(B:Z4)(p6:Int)(r:(Z4×(Zg))->aY Zg):aY (Fw Int Unit Zg):=bg (_r (p6<(len D))) (W2 D p6 0 B r) (M (.x ()))
def W1(D:Zg)(p6:Int)(B:Z4)(r:(Z4×(Zg))->aY Zg):aY Zg:=H (bG (λq:Int=>bh D B q r) p6) (Fw.elim (λe=>M D) (λe=>M e))
end iy
def jX(D:Z4)(B:Zg)(r:(Z4×(Zg))->aY Zg):aY Zg:=H (oC (Sl.row []:Zg) B) λu=>iy.W1 u 0 D r
open iy in
theorem Ea(r:(Z4×(Zg))->aY Zg)(a:eP Sy cL 27 (λz:Z4×(Zg)=>[enc z.1,enc z.2]) (λr:Zg=>[enc r]) r O)(D:Z4)(B:Zg):Le (H (jX D B r) λr=>M [enc r]) (gO cL 27 [enc D,enc B]):=(Fc.N 27 [enc D,enc B] (bO 2 2 D (xY 7 9 11 λu _=>dh 12 (λw=>(bD [Pv 2,Ov 5,Iv 6 w] [Xb 2 D,Lb 2005 u])) (λC=>(0,(bD [Ov 5] [Lb 2005 u]))) (λC=>(bD [Cv 4 C] [])) (λw=>Ak 7 2005 u (bn 3 15 (dh 13 (λI=>(bD [Pv 2,Ov 5,Iv 6 w,Iv 7 I] [Xb 2 D,Lb 2005 u])) (λG=>(2,(bD [Pv 2,Ov 5,Iv 6 w] [Xb 2 D,Lb 2005 u]))) (λG=>(bD [Cv 4 G] [])) (λI=>jk N 8 2005 λS _=>oR 0 2005 0 1 O (λd=>.int N d) λd _=>bn 3 23 (bY 12 λT _=>bn 2 30 aZ (bB 9 λg _=>bB 3 λj _=>bY 2 λL _=>jk N 11 2005 λX _=>zI 0 2005 (.int N L.index) λi _=>bp (F:=Fc.of (D,i) a) 7 λQ _=>aZ)) aZ) (λG=>aZ) (λG=>aZ)) aZ)) (λC=>aZ) (λC=>aZ))):Fc Sy cL (jX D B r)).F.h ()
def iy(D:Z4)(B:Zg):aY Zg:=dm (λr(z:Z4×(Zg))=>jX z.1 z.2 r) 100000 (D,B)
instance Ys(D:Z4)(B:Zg):Fc Sy cL (iy D B):=Fc.of (D,B) (eP.fix (A:=λz:Z4×(Zg)=>[enc z.1,enc z.2]) (E:=λr:Zg=>[enc r]) (sc:=O) (b:=(λr(z:Z4×(Zg))=>jX z.1 z.2 r)) o? (λh=>nomatch h) (λr a z=>Ea r a z.1 z.2) 100000)
namespace eB
def bF(B d:Zg)(G:Zb)(T:Z4)(D:Int):aY (Fw Int Int Empty):=H (idx d D) λu=>H (idx B D) λw=>bg (_r (u>=w)) (M (.n (w? N (D+1)))) (M (.x D))
def W2(B T:Zg)(D:Zb)(d:Int)(G:Z4):aY (Fw ((Zg)×(Zb)) Zb Empty):=H (bG (λq:Int=>bF B T D G q) d) (Fw.elim (λe=>H (tR T e) λw=>H (iy G w) λu=>H (d_ D (u:Zg)) λz=>M (.n (u,z))) (λe=>c! e))
def bh(B:Zg)(G:Z4)(d:Zg)(D:Zb):aY (Fw ((Zg)×(Zb)) Zb Empty):=H (pG B d) λu=>bg u (M (.x D)) (W2 B d D 0 G)
def W1(B d:Zg)(D:Zb)(G:Z4):aY ((Zb)×Int):=H (bG (λq:(Zg)×(Zb)=>bh B G q.1 q.2) (d,D)) (Fw.elim (λe=>M (e,0)) (λe=>c! e))
end eB
def eB(B:Z4)(p1:T'):aY ((Zb)×Int):=H (sx B p1) λu=>bg (u.2==0) (H (nv (len B.a?) (0:Int)) λw=>eB.W1 u.1 w (Sl.row [w]:Zb) B) (M (Sl.nil,u.2))
open eB in
instance aaN(B:Z4)(p1:T'):Fc Sy cL (eB B p1):=Fc.N 8 [enc B,enc p1] (bO 2 2 B (bO 0 3 p1 (bp 8 λw _=>ck 14 18 (bL 7 B.a? (Ox 0 23 λG _=>vD 7 25 ([G]:aX Zg) (dW 7 (λu=>(bD [Pv 2,Cv 6 w.1,Cv 8 u.1,Ov 9] [Xb 2 B,Lb 2009 u.2])) (λz=>(0,(bD [Ov 9] [Lb 2009 z]))) (λu=>bp 7 λd _=>ck 3 29 aZ (dW 13 (λC=>(bD [Pv 2,Cv 6 w.1,Cv 8 u.1,Ov 9,Iv 10 C] [Xb 2 B,Lb 2009 u.2])) (λD=>(2,(bD [Pv 2,Cv 6 w.1,Cv 8 u.1,Ov 9,Iv 10 D] [Xb 2 B,Lb 2009 u.2]))) (λC=>bB 7 λL _=>bB 3 λg _=>bn 4 38 aZ aZ) (λD=>bp 7 λQ _=>bp 0 λI _=>vD 6 48 ([I]:aX Zg) (mB 0 2009 48 49 λS _=>aZ)))) (λz=>aZ)))) aZ)))
def s9(B:Z4)(d:Sl X')(T:Zg):aY ((Zg)×Int):=H (qt B) λC=>bg C (H (eC B) λu=>bg u.2 (bg ((len d)==(len u.1)) (H (pO B T) λD=>bg D (H (i_ d u.1) λw=>H (eN w) λG=>bg G (H (gy w T) λz=>bg z.2 (M (z.1,0)) (M (Sl.nil,7))) (M (Sl.nil,15))) (M (Sl.nil,18))) (M (Sl.nil,3))) (M (Sl.nil,16))) (M (Sl.nil,1))
instance Wv(B:Z4)(D:Sl X')(G:Zg):Fc Sy cL (s9 B D G):=Fc.N 9 [enc B,enc D,enc G] (bO 2 3 B (bp 8 λw _=>ck 3 15 (bp 6 λu _=>ck 14 22 (bL 7 D (bL 1 u.1 (ck 3 27 (bp 8 λz _=>ck 3 31 (bp 7 λC _=>bp 7 λI _=>ck 3 37 (bp 7 λd _=>ck 14 45 aZ aZ) aZ) aZ) aZ))) aZ) aZ))
namespace oc
def bh(a0 D:Zg)(B:Int):aY (Fw Int Unit Unit):=bg (_r (B<(len a0))) (H (idx a0 B) λu=>H (idx D B) λw=>bg (u==w) (M (.n (w? N (B+1)))) (M (.r ()))) (M (.x ()))
def W1(a0 B:Zg)(D:Int):aY X':=H (bG (λq:Int=>bh a0 B q) D) (Fw.elim (λe=>M U) (λe=>M O))
end oc
def oc(a0 B:Zg):aY X':=bg ((len a0)==(len B)) (oc.W1 a0 B 0) (M O)
open oc in
instance aaU(a0 B:Zg):Fc Sy cL (oc a0 B):=Fc.M 35 [enc a0,enc B] (bL 9 a0 (bL 1 B (ck 3 10 (dh 11 (λw=>(bD [Cv 0 a0,Cv 1 B,Iv 5 w] [])) (λu=>(0,(bD [] []))) (λu=>(bD [Bv 4 O] [])) (λw=>bL 6 a0 (bn 3 14 (bB 9 λz _=>bB 3 λC _=>ck 4 25 aZ aZ) aZ)) (λu=>aZ) (λu=>aZ)) aZ)))
namespace kJ
def bh(a0 D:Zb)(B:Int):aY (Fw Int Unit Unit):=bg (_r (B<(len a0))) (H (idx a0 B) λu=>H (idx D B) λw=>H (oc u w) λz=>bg z (M (.n (w? N (B+1)))) (M (.r ()))) (M (.x ()))
def W1(a0 B:Zb)(D:Int):aY X':=H (bG (λq:Int=>bh a0 B q) D) (Fw.elim (λe=>M U) (λe=>M O))
end kJ
def kJ(a0 B:Zb):aY X':=bg ((len a0)==(len B)) (kJ.W1 a0 B 0) (M O)
open kJ in
instance aaO(a0 B:Zb):Fc Sy cL (kJ a0 B):=Fc.M 10 [enc a0,enc B] (bL 9 a0 (bL 1 B (ck 3 10 (dh 11 (λw=>(bD [Cv 0 a0,Cv 1 B,Iv 5 w] [])) (λu=>(0,(bD [] []))) (λu=>(bD [Bv 4 O] [])) (λw=>bL 6 a0 (bn 3 14 (bB 9 λz _=>bB 3 λC _=>bY 1 λD _=>ck 3 26 aZ aZ) aZ)) (λu=>aZ) (λu=>aZ)) aZ)))
def qp(B:Z4)(p1:T')(T:Sl X')(g:Zg):aY X':=H (zH) λL=>bg L (H (yD B p1) λi=>H (bg i (M (_r ((len T)>500))) (M U):aY X') λQ=>H (bg Q (M U) (M (_r ((len g)>20))):aY X') λS=>bg S (M U) (H (dQ B p1) λu=>H (tq B T g) λw=>H (eB B p1) λz=>H (s9 B T g) λC=>H (kJ u.1 z.1) λj=>H (bg j (M (u.2==z.2)) (M O):aY X') λD=>(bg D (H (fF w.1 C.1) λG=>M G) (M O):aY X').bind λI=>H (bg I (M (w.2==C.2)) (M O):aY X') λd=>M d)) (M O)
instance Ce(B:Z4)(p1:T')(D:Sl X')(G:Zg):Fc Sy cL (qp B p1 D G):=Fc.M 3 [enc B,enc p1,enc D,enc G] (bO 2 4 B (bO 0 5 p1 (bp 6 λI _=>ck 3 18 (bp 8 λd _=>bK 2 4 [23] 27 (ck 2 23 (bL 1 D (br 2)) (br 4)) λL=>bK 1 4 [28] 32 (bn 1 28 (br 4) (bL 1 G (br 2))) λi=>bn 2 32 aZ (bp 7 λQ _=>bp 12 λS _=>bp 11 λT _=>bp 12 λg _=>bp 11 λj _=>bK 1 4 [10,14,62] 66 (bn 1 62 (br 4) (br 4)) λu=>bK 1 4 [11,15,67] 71 (bn 1 67 (bp 2 λw _=>br 1) (br 4)) λz=>bK 1 4 [12,16,72] 76 (bn 1 72 (br 4) (br 4)) λC=>aZ)) aZ)))
end
end Go.VE
