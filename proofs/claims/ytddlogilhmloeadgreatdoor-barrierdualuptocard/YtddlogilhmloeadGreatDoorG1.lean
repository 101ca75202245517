/- Functions. -/
import Derived.Test.YtddlogilhmloeadGreatDoorK1
import Derived.Test.YtddlogilhmloeadGreatDoorT1
set_option linter.all false
open Option renaming some→M,some→_h,none→G,none→_n,bind→H,bind→_l
open Bool renaming true→O,true→_k,false→U,false→_m
open Decidable renaming decide→_p
open List renaming length→W,length→_j
open Go.IntKind renaming i64→Z,i64→_o
open List renaming all_cons→c!,all_nil→E!,cons_append→n7,map_cons→P?
open Go.IntKind renaming wrap→y?
open Empty renaming elim→k!
open ByteArray renaming toList→S?
noncomputable section
open Nat(le)
open Nat(le)
open Nat(beq)
open Nat(le)
open Nat(le)
namespace Go.VE
theorem p?{p:Prop}(h:p:=by kernel_rfl):p:=h
structure Assign where
 var:Int
 value:Int
 deriving Inhabited
instance:bB Assign where
 cells x:=[.int Z x.var,.int Z x.value]
 agg:=O
 size:=2
 len _:=rfl
 good x:=by simp only[V.cN,V.good,iB,Bool.and_self]
 one x:=by simp only[c!,E!,kU,jD,kT,jY,Bool.and_self]
 plain h:=by cases h
structure Event where
 kind:Int
 k?:Int
 d?:Int
 time:Int
 assign:Sl Assign
 deriving Inhabited
abbrev WF:=Event
instance:bB WF where
 cells x:=[.int Z x.kind,.int Z x.k?,.int Z x.d?,.int Z x.time,enc x.assign]
 agg:=O
 size:=5
 len _:=rfl
 good x:=by simp only[V.cN,V.good,iB,Bool.and_self]
 one x:=by simp only[c!,E!,kU,jD,kT,jY,Bool.and_self]
 plain h:=by cases h
structure Var where
 name:ByteArray
 init_:Int
 deriving Inhabited
instance:bB Var where
 cells x:=[.str x.name,.int Z x.init_]
 agg:=O
 size:=2
 len _:=rfl
 good x:=by simp only[V.cN,V.good,iB,Bool.and_self]
 one x:=by simp only[c!,E!,kU,jD,kT,jY,Bool.and_self]
 plain h:=by cases h
structure bU where
 name:ByteArray
 i?:Sl Var
 b?:Sl Event
 deriving Inhabited
instance:bB bU where
 cells x:=[.str x.name,enc x.i?,enc x.b?]
 agg:=O
 size:=3
 len _:=rfl
 good x:=by simp only[V.cN,V.good,iB,Bool.and_self]
 one x:=by simp only[c!,E!,kU,jD,kT,jY,Bool.and_self]
 plain h:=by cases h
structure Trace where
 a?:Sl bU
 deriving Inhabited
abbrev Z4:=Trace
instance:bB Z4 where
 cells x:=[enc x.a?]
 agg:=O
 size:=1
 len _:=rfl
 good x:=by simp only[V.cN,V.good,iB,Bool.and_self]
 one x:=by simp only[c!,E!,kU,jD,kT,jY,Bool.and_self]
 plain h:=by cases h
structure Pred where
 kind:Int
 n:Int
 proc:Int
 k?:Int
 name:ByteArray
 l:Sl Pred
abbrev T':=Pred
mutual
def Pred.WZ:T'->So
 |⟨f0,f1,B,D,J,f5⟩=>[.int Z f0,.int Z f1,.int Z B,.int Z D,.str J,Pred.Ey f5]
def Pred.Ey:Sl T'->V
 |.nil=>.bG|.emp=>.dN|.row l=>.fsl 6 (Pred.FN l)|.part l=>.fsl 6 (Pred.FN l)
def Pred.FN:aX T'->S'
 |[]=>[]|x::r=>Pred.WZ x::Pred.FN r
end
instance:Inhabited T':=⟨⟨default,default,default,default,default,Sl.nil⟩⟩
mutual
theorem Pred.X6:∀x:T',V.cN x.WZ=O
 |⟨f0,f1,B,D,J,f5⟩=>by simp only[Pred.WZ,V.cN,V.good,Pred.MZ,Bool.and_self]
theorem Pred.MZ:∀x:Sl T',V.good (Pred.Ey x)=O
 |.nil=>rfl|.emp=>rfl|.row l=>by simp only[Pred.Ey,V.good,Pred.E3]|.part l=>by simp only[Pred.Ey,V.good,Pred.E3]
theorem Pred.E3:∀x:aX T',V.pg (Pred.FN x)=O
 |[]=>rfl|x::r=>by simp only[Pred.FN,V.pg,Pred.X6,Pred.E3,Bool.and_self]
end
theorem Pred.Y7(s:Sl T'):V.one (Pred.Ey s)=O:=by cases s<;>simp[Pred.Ey,V.one]
instance:bB T' where
 cells x:=[.int Z x.kind,.int Z x.n,.int Z x.proc,.int Z x.k?,.str x.name,Pred.Ey x.l]
 agg:=O
 size:=6
 len _:=rfl
 good x:=by simp only[V.cN,V.good,Pred.MZ,Bool.and_self]
 one x:=by simp only[c!,E!,kU,jD,kT,Pred.Y7,Bool.and_self]
 plain h:=by cases h
theorem Pred.Ri(x:T'):Pred.WZ x=cells x:=by cases x;rfl
theorem Pred.E7:∀l:aX T',Pred.FN l=rows l
 |[]=>rfl|x::r=>by rw[Pred.FN,Pred.E7 r,Pred.Ri];rfl
theorem Pred.mX(s:Sl T'):Pred.Ey s=enc s:=by cases s with|nil=>rfl|emp=>rfl|row l=>show V.fsl 6 (Pred.FN l)=V.fsl 6 (rows l);rw[Pred.E7]|part l=>show V.fsl 6 (Pred.FN l)=V.fsl 6 (rows l);rw[Pred.E7]
structure Span where
 proc:Int
 from_:Int
 to_:Int
 deriving Inhabited
instance:bB Span where
 cells x:=[.int Z x.proc,.int Z x.from_,.int Z x.to_]
 agg:=O
 size:=3
 len _:=rfl
 good x:=by simp only[V.cN,V.good,iB,Bool.and_self]
 one x:=by simp only[c!,E!,kU,jD,kT,jY,Bool.and_self]
 plain h:=by cases h
structure Answer where
 mode:Int
 holds:Bool
 kind:Int
 cut:Sl Int
 cuts:Sl (Sl Int)
 run:Sl (Sl Int)
 spans:Sl Span
 value:Int
 deriving Inhabited
instance:bB Answer where
 cells x:=[.int Z x.mode,.bool x.holds,.int Z x.kind,enc x.cut,enc x.cuts,enc x.run,enc x.spans,.int Z x.value]
 agg:=O
 size:=8
 len _:=rfl
 good x:=by simp only[V.cN,V.good,iB,Bool.and_self]
 one x:=by simp only[c!,E!,kU,jD,kT,jY,Bool.and_self]
 plain h:=by cases h
structure bu where
 from_:aZ
 to_:aZ
 deriving Inhabited
instance:bB bu where
 cells x:=[.int Z x.from_.proc,.int Z x.from_.index,.int Z x.to_.proc,.int Z x.to_.index]
 agg:=O
 size:=4
 len _:=rfl
 good x:=by simp only[V.cN,V.good,iB,Bool.and_self]
 one x:=by simp only[c!,E!,kU,jD,kT,jY,Bool.and_self]
 plain h:=by cases h
structure bR where
 low:Int
 high:Int
 deriving Inhabited
instance:bB bR where
 cells x:=[.int Z x.low,.int Z x.high]
 agg:=O
 size:=2
 len _:=rfl
 good x:=by simp only[V.cN,V.good,iB,Bool.and_self]
 one x:=by simp only[c!,E!,kU,jD,kT,jY,Bool.and_self]
 plain h:=by cases h
structure cF where
 lengths:Sl Int
 need:Sl (Sl aZ)
 deriving Inhabited
instance:bB cF where
 cells x:=[enc x.lengths,enc x.need]
 agg:=O
 size:=2
 len _:=rfl
 good x:=by simp only[V.cN,V.good,iB,Bool.and_self]
 one x:=by simp only[c!,E!,kU,jD,kT,jY,Bool.and_self]
 plain h:=by cases h
structure bA where
 t:Trace
 l:Sl (Sl Int)
 next:Sl (Sl Int)
 deriving Inhabited
instance:bB bA where
 cells x:=[enc x.t.a?,enc x.l,enc x.next]
 agg:=O
 size:=3
 len _:=rfl
 good x:=by simp only[V.cN,V.good,iB,Bool.and_self]
 one x:=by simp only[c!,E!,kU,jD,kT,jY,Bool.and_self]
 plain h:=by cases h
structure bX where
 t:Trace
 counts:Sl Int
 values:Sl (Sl Int)
 deriving Inhabited
instance:bB bX where
 cells x:=[enc x.t.a?,enc x.counts,enc x.values]
 agg:=O
 size:=3
 len _:=rfl
 good x:=by simp only[V.cN,V.good,iB,Bool.and_self]
 one x:=by simp only[c!,E!,kU,jD,kT,jY,Bool.and_self]
 plain h:=by cases h
structure bL where
 list:Sl (Sl Int)
 index:zu (bQ 8 Int) Int
 next:Sl (Sl Int)
 deriving Inhabited
instance:bB bL where
 cells x:=[enc x.list,enc x.index,enc x.next]
 agg:=O
 size:=3
 len _:=rfl
 good x:=by simp only[V.cN,V.good,iB,Bool.and_self]
 one x:=by simp only[c!,E!,kU,jD,kT,jY,OP,Bool.and_self]
 plain h:=by cases h
structure cO where
 t:Trace
 needs:Sl (Sl aZ)
 deriving Inhabited
instance:bB cO where
 cells x:=[enc x.t.a?,enc x.needs]
 agg:=O
 size:=2
 len _:=rfl
 good x:=by simp only[V.cN,V.good,iB,Bool.and_self]
 one x:=by simp only[c!,E!,kU,jD,kT,jY,Bool.and_self]
 plain h:=by cases h
structure AY where
 x:Int
 y:Int
 signed:Bool
 code:U8
 deriving Inhabited
instance:bB AY where
 cells x:=[.int Z x.x,.int Z x.y,.bool x.signed,.int .u8 x.code.v]
 agg:=O
 size:=4
 len _:=rfl
 good x:=by simp only[V.cN,V.good,iB,Bool.and_self]
 one x:=by simp only[c!,E!,kU,jD,kT,jY,Bool.and_self]
 plain h:=by cases h
def jM(p:Int):Int->aX WF->aX (aZ×WF)
 |_,[]=>[]|j,e::r=>(⟨p,j+1⟩,e)::jM p (j+1) r
def gO:Int->aX bU->aX (aZ×WF)
 |_,[]=>[]|i,p::r=>jM i 0 p.b?.l++gO (i+1) r
def qI(n:Nat):X':=_p (n<9223372036854775807)
def kF(t:Z4):aY (aX (aZ×WF)):=if qI (W t.a?.l)&&t.a?.l.all λp=>qI (W p.b?.l) then M (gO 0 t.a?.l)else G
def yN:bQ 22 Int:=⟨Go.Proofs.YtddlogilhmloeadGreatDoor.FJ,Y⟩
end Go.VE
namespace Go.VE
def Xw:Nat->Nat->Nat->ST
 |0,_,_=>[]|f+1,i,m=>bif m % 2==1 then i::Xw f (i+1) (m / 2)else Xw f (i+1) (m / 2)
def gK(g m:Nat)(l:ST:=[]):Gh:=.keep (Xw 128 0 g) (Xw 128 0 m++l)
def g2(n g m:Nat)(l:ST:=[]):Nat×QR×QR:=(n,[gK g m l],[gK g m l])
def g1(n g m:Nat)(l:ST:=[]):Nat×QR×QR:=(n,[gK g m l],[])
def G2(n:Nat)(x:QR):Nat×QR×QR:=(n,x,x)
def G1(n:Nat)(x:QR):Nat×QR×QR:=(n,x,[])
def cS(i n:Nat):Gh:=.canon (.s i) (2000+i) n
def cC(i j n:Nat):Gh:=.canon (.c i j) (4000+20*i+j) n
def e0(n m:Nat):Nat×GD:=(n,⟨m,[],[]⟩)
def e1(n m:Nat)(l:aX (Nat×QR×QR)):Nat×GD:=(n,⟨m,[],l⟩)
def O9:aX (Nat×GD):=[ e1 34 0x22226260002000201 [g2 6 387 0,g1 12 0 0,g1 22 16 0,g1 27 16 0],e0 16 0x226221,e0 17 0x2222212,e1 35 0x22226260002000201 [g2 6 387 0,g1 12 0 0,g1 22 16 0,g1 27 16 0],e0 18 0x226221,e0 19 0x2222212,e1 5 0x222222206444264402644402644402600262202202000020012 [g2 8 3622 4,g1 14 4 4,g1 26 16 0,g1 31 16 0],e1 6 0x22222260026e20620202020000220222012 [g1 8 64 0,g2 16 114822 0,g1 22 128 0,g1 34 64 0,g1 39 64 0],e0 81 0x26c4444026402201,e0 82 0x26442201,e1 54 0x222064c002644c00222600620000644402644022201 [g1 8 4 0,g2 14 9 0,g1 20 0 0,g1 28 4 0,g1 33 4 0],e0 55 0x26442201,e1 36 0x2222222022226020222062260202260206000022226020622000022202220620226020600002220202602012 [g1 10 16 0,g2 16 102 36,g1 22 32 32,g1 30 16 0,g1 39 16 0,g2 45 160 32,g1 51 32 32,g1 60 16 0,g2 66 416 32,g1 72 160 32,g1 80 16 0,g1 88 16 0,g1 97 16 0,g1 101 16 0],e1 37 0x2222220620226020600006444026c444c04040222020260206220000222006cc44c4444c04040440264402220064402644026c04026c44040264402644022200644022202202026022602012 [g1 13 64 0,g1 20 64 0,g1 22 142 136,g1 28 64 0,g1 36 64 0,g2 42 394 136,g1 48 0 0,g1 59 64 0,g2 64 1930 648,g1 70 394 136,g1 78 64 0,g1 84 64 0],e0 56 0x2262222262022022,e1 57 0x20222222262226c0442602020260226020622260200062200002 [g2 6 206 72,g1 12 64 64,g2 18 462 72,g1 24 206 72,g1 34 64 64,g1 40 64 64],e1 38 0x2222226cc40444cc4040444022202602262020622262020000220060e20200022020600122 [g2 30 236 44,g1 36 64 0],e1 39 0x22206222602026006220002222203622000622262002062202202026260022602062226020260062200002222012 [G2 6 [cS 3 1,gK 10 2 [2003]],G2 14 [cS 3 1,gK 58 2 [2003]],G1 20 [cS 3 1,gK 26 2 [2003]],G2 24 [cS 3 1,gK 58 2 [2003]],G1 30 [cS 3 1,gK 58 2 [2003]],G1 43 [cS 3 1,gK 58 2 [2003]],G1 46 [cS 3 1,gK 42 2 [2003]],G1 53 [cS 3 1,gK 10 2 [2003]],G2 59 [cS 3 1,gK 266 2 [2003]],g1 65 0 0,g1 73 4 0,g1 78 4 0],e1 58 0x22262622222202062026262202022200122 [G1 10 [cS 5 2,gK 44 12 [2005]],G1 20 [.canon (.s 4) 4004 2]],(40,⟨0x222222622600262000262016202620026202620022220220220262022226222222602026220000122,[(21,[.put 28])],[G2 8 [cS 5 1,.melt 2005,gK 108 12 [2005]],G1 14 [cS 5 1,.melt 2005,gK 44 12 [2005]],G2 23 [cS 5 1,.melt 2005,cS 7 2,gK 164 4 [2005,2007]],G1 29 [cS 5 1,.melt 2005,gK 32 0 [2005]],(37,[.take 2005 (.c 8 0) 1 6041],[.put 2005]),(42,[.take 2005 (.c 8 0) 1 6050],[.put 2005]),G2 48 [cS 5 1,.melt 2005,cS 7 2,cS 9 2,gK 1700 4 [2005,2007,2009]],G1 54 [cS 5 1,.melt 2005,cS 7 2,gK 164 4 [2005,2007]]]⟩),e1 20 0x202222220222620260600206200622260200062200002020222222222220260020620062226020006220002222222226222202e0006222602000622000222222222026006220000206444022220102 [g1 8 12 4,g2 14 22 6,g1 20 6 6,g1 30 12 4,g2 37 70 6,g1 43 6 6,g2 49 198 6,g1 55 70 6,g1 65 12 4,g2 73 518 6,g1 79 6 6,g2 85 1542 6,g1 91 518 6,g1 103 12 4,g1 113 12 4,g2 119 8198 6,g1 125 4 4,g2 131 24582 6,g1 137 8198 6,g1 147 12 4,g1 153 12 4],e0 7 0x2222302022212,e0 60 0x2236226200026201,e1 83 0x22206c444c0404c0022260062000062202012 [g1 8 16 0,g2 14 38 4,g1 20 0 0,g1 28 16 0,g1 33 16 0],e1 84 0x2222220626220202062202202026022602062600006200012 [g2 6 38 4,g1 12 0 0,g2 18 102 4,g1 24 38 4,g1 39 16 0,g1 46 16 0],e0 59 0x26c44260012,e1 41 0x2222226260026cc000262226020260062000012 [G2 8 [cS 5 1,gK 102 4 [2005]],G1 14 [cS 5 1,gK 32 0 [2005]]],e1 85 0x2222226260026200001 [g2 8 25 0,g1 14 8 0],e1 61 0x222262622260262600260062000262222620201 [g1 8 16 0,g2 14 35 0,g1 20 0 0,g1 28 16 0,g1 33 16 0],e1 62 0x2220626002600620000620201 [g1 8 16 0,g2 14 35 0,g1 20 0 0,g1 28 16 0,g1 33 16 0],e1 42 0x26622226222266000226c04c00262002226c04c002620001 [g2 6 35 0,g1 12 35 0],(21,⟨0x222222222226260026200026260006200000022026022200222220112,[(7,[.closeS (.s 13)])],[G2 8 [.closeS (.s 4),cS 5 1,gK 50 2 [2005]],G1 14 [cS 5 1,gK 32 0 [2005]],G1 24 [cS 2 1,gK 12 0 [2002]],G2 32 [.closeS (.s 4),cS 5 1,gK 242 2 [2005]],G1 38 [cS 5 1,gK 98 2 [2005]],G2 46 [.closeS (.s 4),cS 5 1,gK 1010 2 [2005]],G1 52 [.closeS (.s 4),cS 5 1,gK 242 2 [2005]],G1 61 [cS 2 1,gK 12 0 [2002]]]⟩),e0 8 0x2644422222022212,e0 106 0x26c4426201,e0 166 0x26c4444026402201,e0 167 0x26442201,e1 137 0x22064c402644c00222600200020064440264402201 [g1 8 4 0,g2 14 786433 0,g1 20 0 0,g1 30 4 0,g1 35 4 0],e0 139 0x26222212,e1 168 0x22226260002000201 [g2 6 387 0,g1 12 0 0,g1 22 16 0,g1 27 16 0],e0 138 0x226221,e0 140 0x26222212,e1 107 0x222222022222026c0c4402222022020000020022220026c0c44422220202602012 [g1 11 16 0,g1 17 16 0,g2 23 30064771104 32,g1 29 32 32,g1 40 16 0,g1 46 16 0,g1 55 16 0,g1 59 16 0],e0 108 0x2212,e1 142 0x2644426c4402622222022202644422202020122 [g1 18 524330 40],e0 144 0x26222212,e1 169 0x22226260002000201 [g2 6 387 0,g1 12 0 0,g1 22 16 0,g1 27 16 0],e0 143 0x226221,e1 109 0x2202626220026444022622202022020000020022220026c44022220022e02222226220202200202620201222 [g1 12 440 184,g1 19 64 0,g1 25 64 0,g1 31 64 0,g2 37 31525197391593632 160,g1 43 0 0,g1 54 64 0,g1 60 64 0,g1 65 64 0],e0 170 0x26c44426c440222012,e0 145 0x2662262221222,e1 110 0x2202326222002202001ef200220022022226200223262220022022226200202022020202020200002 [(8,[gK 4158 1086],[gK 0 1086]),g1 27 0 1086,g1 39 0 1086,g1 47 0 1086,g1 53 28 1052],e1 146 0x222622262222264444c4400222020262222262622020262020222620220122 [G1 12 [cS 7 2,gK 418 32 [2007]]],e1 111 0x20222622230026000226002020000e200262220202622002202202020200022 [(6,[gK 8252 60],[gK 0 60]),G2 14 [cS 8 2,gK 8700 65660 [2008]],g1 20 8252 60,G2 29 [cS 8 2,gK 481036345852 65660 [2008]],G1 35 [cS 8 2,gK 8700 65660 [2008]],g1 46 0 60,g1 58 48 48],e1 86 0x20022222020262222222022202002202222202e2002020202222222202600200022002022220002 [g1 8 12 12,g2 14 12582926 14,g1 20 14 14,g1 32 12 12,(39,[gK 68719476750 14],[gK 0 14]),g1 51 0 14,g1 61 12 12,g1 71 12 12,g1 75 12 12],e0 63 0x2222302022212,e0 149 0x264426402201,e0 117 0x26c4444c4404440222006c4404440264402644026c444044026440222012,e0 119 0x22e222212,e0 118 0x226221,e1 150 0x22226260002000201 [G2 6 [.drop [2,3,4,5,6,9,10,11,12,13,14,15,16,17,18]],G1 12 [.drop [0,1,2,3,4,5,6,7,8,9,10,11,12,13,14,15,16,17,18]],G1 22 [.drop [0,1,2,3,5,6,7,8,9,10,11,12,13,14,15,16,17,18]],G1 27 [.drop [0,1,2,3,5,6,7,8,9,10,11,12,13,14,15,16,17,18]]],(116,⟨0x226622064402640222220122,[(20,[.closeB 5])],[]⟩),(90,⟨0x26222200012,[(5,[.canon (.s 3) 9002 0,.canon (.s 4) 9001 0])],[]⟩),e0 121 0x26c444422012,e0 151 0x2622212,e0 122 0x262226222122,e0 120 0x2644426c404026c40426200222644426440262022026001cf444042644026200202012,e0 129 0x2262212,(96,⟨0x264c4442600122,[(10,[.closeB 3])],[]⟩),e0 91 0x2622122,e0 94 0x221,e0 125 0x221,e0 124 0x2622222212,(123,⟨0x22622012,[(5,[.closeB 1])],[]⟩),e0 92 0x22212,e1 173 0x222222626002620002220012201 [g1 8 1 0,g2 14 25 0,g1 20 8 0],e1 174 0x222222626002620002220012201 [g1 8 1 0,g2 14 25 0,g1 20 8 0],e0 154 0x2622200,e1 171 0x22222226c04422202020000226222012 [g2 8 229508 0,g1 14 128 0],e0 205 0x2622212,e0 198 0x26222122,e0 182 0x220020262262220026c4400220002220112,e1 32 0x26200201 [G1 8 [.canon (.s 2) 4004 1],G1 12 [.canon (.s 2) 4004 1]],(184,⟨0x222e202202236222002020000222202000002226200222622222020000200,[(21,[.closeS (.s 25)]),(57,[.closeS (.s 54)])],[G2 6 [cS 3 1,gK 14347 0 [2003]],G1 12 [cS 3 1,gK 11 0 [2003]],g1 23 0 0,G2 28 [cS 3 1,gK 3758096393 0 [2003]],g1 34 0 0,G2 43 [cS 3 1,gK 965830770761 0 [2003]],G1 49 [cS 3 1,gK 3758096457 0 [2003]],g1 59 0 0]⟩),e0 176 0x2212,e1 183 0x22262260202220122 [(8,[cC 5 0 1,gK 552 40 [4100]],[cC 5 0 1,gK 0 40 [4100]])],e0 172 0x2222202622622220022022202e2001112,e0 152 0x26223222002e2220222e2220222222226222220222222020022,e0 153 0x26444222012,e0 175 0x262201,e0 155 0x22222622220622020260006402201,e1 126 0x22222022001ef622226202062020620202662222620202226622226202020262222202022002064422222202622202222002002202026222002222202062222201022 [g1 22 1944 664,g1 49 2064 2064],e0 127 0x2262212,(93,⟨0x226222222302026222220122,[(21,[.closeB 2])],[]⟩),e0 72 0x22622022200226000264402220122,e0 73 0x2222002220002220112,e0 50 0x644222222022222202602122,e1 156 0x200226c0442602020202202022000222 [g1 8 192 192,(14,[gK 33008 240],[gK 0 240]),g1 24 0 240,g1 28 192 192],e0 128 0x2220622102,(134,⟨0x2222306222030622222022262222302622022002020000200202000020002,[(53,[.closeS (.s 49)]),(59,[.closeS (.c 3 0),.closeS (.c 3 1)])],[G2 8 [cC 3 0 1,cC 3 1 1,gK 14350 14 [4060,4061]],G1 14 [cC 3 0 1,cC 3 1 1,gK 12 12 [4060,4061]],G2 25 [cS 6 2,cC 3 0 1,cC 3 1 1,gK 1849454 46 [2006,4060,4061]],G1 31 [cS 6 2,cC 3 0 1,cC 3 1 1,gK 14446 46 [2006,4060,4061]],G1 44 [cS 6 2,cC 3 0 1,cC 3 1 1,gK 1849966 558 [2006,4060,4061]]]⟩),e0 160 0x26262222020262620260220626020260012,e0 197 0x26201,e0 181 0x62206000200222202201,e1 163 0x62222222220262222620062002220000001 [g2 6 3587 0,g1 12 3 0,g1 23 16 0,g1 34 16 0,g1 43 16 0,g1 47 16 0],e0 162 0x26221,e1 71 0x2206262026002000200620201 [g1 8 16 0,g2 14 12291 0,g1 20 0 0,g1 30 16 0,g1 35 16 0],e0 165 0x26221,(135,⟨0x222302222262223622020220e0002000202200002012,[(32,[.closeS (.s 34)])],[G2 8 [cS 5 1,gK 7204 4 [2005]],G1 14 [cS 5 1,gK 32 0 [2005]],G2 22 [cS 5 1,gK 400548 4 [2005]],G1 28 [cS 5 1,gK 7204 4 [2005]]]⟩),(104,⟨0x2226202620200202620222000222222202000220112,[(16,[.closeS (.s 16)])],[G1 8 [cS 2 1,gK 12 0 [2002]],G2 20 [.closeS (.s 5),cS 6 1,gK 240 16 [2006]],G1 26 [cS 6 1,gK 64 0 [2006]],G1 37 [cS 2 1,gK 12 0 [2002]],G1 43 [cS 2 1,gK 12 0 [2002]]]⟩),e0 80 0x222222220222112,e0 53 0x222022112,e1 74 0x2222236222022200000222201 [G2 8 [cS 3 1,gK 3592 0 [2003]],G1 14 [cS 3 1,gK 8 0 [2003]]],e0 147 0x26222221,e1 87 0x22226260002000201 [g2 6 387 0,g1 12 0 0,g1 22 16 0,g1 27 16 0],e0 64 0x226221,e0 112 0x264c4422012,e1 113 0x2206c444c440422022200000212 [g2 6 900 4,g1 12 0 0,g1 22 16 0,g1 27 16 0],e0 114 0x26c444422012,e1 148 0x2200222202262222626200203202026220220220200000622260202220000001002 [g2 6 57398 52,g1 12 48 48,g2 20 939581622 52,g1 26 57398 52,g1 44 112 48,g1 50 112 48],e0 115 0x22223300200262212,e1 88 0x2202620220000222026202200002220262022000000260012 [g1 8 64 0,g2 14 917518 8,g1 20 14 8,g1 30 64 0,g2 37 1879048202 8,g1 43 10 8,g1 53 64 0,g2 60 3848290697224 8,g1 66 0 0,g1 76 64 0,g1 81 64 0],e0 95 0x262622220320202622202202026262022602012,e0 75 0x2236220202220022e002002622260202600202202e20200112,(51,⟨0x22223226222220022262622022222202e2002000200220000222600227222022200000020202202220220112,[(79,[.closeS (.s 74)])],[g2 18 234881106 16777218,g1 24 82 16777218,G2 37 [cC 40 2 1,gK 15393162789442 1099528404994 [4802]],G1 43 [cC 40 2 1,gK 512 1099511627776 [4802]],G2 54 [cS 12 1,cC 40 2 1,gK 859818092927554 1099528404994 [2012,4802]],G1 60 [cS 12 1,cC 40 2 1,gK 15393162793538 1099528404994 [2012,4802]]]⟩),e0 98 0x26442201,e0 97 0x2222212,e0 76 0x2644422012,e0 130 0x6c44222222022212,e1 157 0x222226262222022200000202022026202112 [G2 18 [cS 7 2,gK 917632 0 [2007]],G1 24 [cS 7 2,gK 128 0 [2007]]],e1 158 0x226022222022 [(6,[gK 280 24],[gK 0 24]),g1 16 0 24,g1 20 16 16],e1 131 0x22222626226220222200000202022023202600112 [G2 18 [cS 8 1,gK 7340292 4 [2008]],G1 24 [cS 8 1,gK 256 0 [2008]]],e0 185 0x26222212,e0 177 0x226226222226022620220122,e0 199 0x2220622102,e1 186 0x22222622226c4c4404022222020262006c04022202020000626202260200202202e600200112 [G2 18 [cS 11 1,gK 481036339226 16 [2011]],G1 24 [cS 11 1,gK 2048 0 [2011]]],e0 178 0x22232202001ef22202220122,e0 159 0x266222226222002662222262220022266222226222002022622222202622202262222202622202222020122,e1 132 0x26c44444262220026c44444262220022226222222022222020266222226222002026622222622200202662222262220020266222226222002020122 [g1 36 147573952589676413004 12],e1 99 0x22222226260e22022002202220260022000000200220222022000020200220220200220260011122 [G1 10 [cS 5 1,gK 112 0 [2005]],G1 20 [cS 5 1,gK 112 0 [2005]],G1 28 [cS 5 1,gK 112 0 [2005]],G1 38 [cS 5 1,gK 112 0 [2005]],G2 46 [cS 11 1,gK 962072676876 12 [2011]],G1 52 [cS 11 1,gK 2560 0 [2011]],G1 65 [cS 5 1,gK 112 0 [2005]],G1 71 [cS 5 1,gK 112 0 [2005]]],e1 77 0x222222320026221122 [G1 6 [.canon (.s 4) 4004 1]],e1 78 0x222236222022200000222201 [G2 8 [cS 3 1,gK 3592 0 [2003]],G1 14 [cS 3 1,gK 8 0 [2003]],G1 23 [.canon (.s 2) 4004 1]],e1 23 0x22226260002000201 [g2 6 387 0,g1 12 0 0,g1 22 16 0,g1 27 16 0],e0 133 0x226221,e0 102 0x2221,e0 103 0x2644422201,e0 101 0x26c4444402262226c4444402262222264422622202644226222021,(100,⟨0x2222236e2000022262262022200002602220020222222022222201,[(46,[.closeS (.s 50)])],[G2 8 [cS 5 1,gK 99 0 [2005]],G1 14 [cS 5 1,gK 32 0 [2005]],G2 23 [cS 5 1,cS 7 1,gK 30064771299 0 [2005,2007]],G1 29 [cS 5 1,cS 7 1,gK 227 0 [2005,2007]],G1 40 [.canon (.s 4) 4004 1]]⟩),(79,⟨0x2662122,[(5,[.closeB 4,.closeB 5])],[G1 4 [.canon (.s 6) 4004 1]]⟩),(52,⟨0x2e22222222366422620003664226200022022200000622202222022220202622200223220262222222012,[(30,[.closeS (.s 33)]),(83,[.closeS (.s 78)])],[G1 10 [.canon (.s 4) 4004 1],G1 23 [.canon (.s 4) 4004 1],G1 30 [cS 7 1,gK 34359738505 8 [2007]],G2 35 [cS 7 1,cS 43 1,gK 61572651155592 8 [2007,2043]],G1 41 [cS 7 1,gK 128 0 [2007]],G1 54 [.canon (.s 4) 4004 1],G1 58 [.canon (.s 4) 4004 1]]⟩),e0 28 0x26222022022202222022026001122,(30,⟨0x2222322622222002226222222202622220342202202020002002200002227222222022200000022600202202220222112,[(75,[gK 1180599563589410376768 167772160 [2011,4542]]),(88,[.closeS (.s 81)])],[g2 18 1879048272 167772160,g1 24 80 167772160,G2 35 [cC 27 2 1,gK 61572651155520 167772160 [4542]],G1 41 [cC 27 2 1,gK 64 167772160 [4542]],G2 52 [cS 11 1,cC 27 2 1,gK 3439272371686464 167772160 [2011,4542]],G1 58 [cS 11 1,cC 27 2 1,gK 61572651157568 167772160 [2011,4542]]]⟩),e0 22 0x22222222202222002202220262011122,e0 9 0x2226222220202022222202022220026221022,(24,⟨0x2222221620220000262222000262222200262222226002226002220000022200120222222011,[(39,[.closeS (.s 43)])],[G2 12 [cS 6 1,cS 7 1,gK 58720451 0 [2006,2007]],G1 18 [cS 7 1,gK 128 0 [2007]],G1 40 [cS 4 1,gK 48 0 [2004]],G2 45 [cS 6 1,cS 7 1,gK 16140901064554578115 0 [2006,2007]],G1 51 [cS 6 1,cS 7 1,gK 58720451 0 [2006,2007]],G1 61 [cS 4 1,gK 48 0 [2004]]]⟩),e1 26 0x222226222262022200000222201 [G2 8 [cS 5 1,gK 14370 0 [2005]],G1 14 [cS 5 1,gK 32 0 [2005]]],e0 66 0x22622212,e0 65 0x226221,e0 89 0x26c4444222012,e0 69 0x22226202226022620221022,(44,⟨0x2222322622222002226222230262022002020000220202000020222012,[(49,[.closeS (.s 46)])],[G2 8 [cC 12 1 1,gK 114698 4098 [4241]],G1 14 [cC 12 1 1,gK 8 4096 [4241]],G2 25 [cS 6 2,cC 12 1 1,gK 14794826 4098 [2006,4241]],G1 31 [cS 6 2,cC 12 1 1,gK 114762 4098 [2006,4241]],G1 44 [cS 6 2,cC 12 1 1,gK 14795338 4610 [2006,4241]]]⟩),e1 45 0x22222262222220000222201 [G2 8 [cS 3 1,gK 3592 0 [2003]],G1 14 [cS 3 1,gK 8 0 [2003]]],e0 67 0x26c4c44440222020262620260222206c44c044404c0026c4002201,e0 68 0x2236220202221,e1 43 0x22222764c440222002226cc4c4004001cf000222000202622002260020222022322022000022200222202202220220002600002220002220112 [g2 41 15393162790720 1649267441664,g1 47 1856 1649267441664,g2 58 10048 1649267441664,g1 64 1024 1099511627776,g2 75 885443715538058536768 1649267441664,g1 81 59200 1649267441664],e1 46 0x22222221 [G1 4 [.canon (.s 2) 4004 1]],e0 48 0x262221,e1 70 0x22223622202220000022222201 [G2 8 [cS 3 1,gK 14344 0 [2003]],G1 14 [cS 3 1,gK 8 0 [2003]]],(47,⟨0x222620226220620022264ccc0004001cf00026200026002202202201,[(5,[.closeS (.s 11)])],[G2 10 [cS 6 1,gK 227 0 [2006]],G1 16 [cS 6 1,gK 64 0 [2006]],G2 22 [cS 6 1,gK 483 0 [2006]],G1 28 [cS 6 1,gK 483 0 [2006]],G1 37 [cS 4 1,gK 16 0 [2004]],G1 44 [cS 4 1,gK 16 0 [2004]]]⟩),(25,⟨0x26220026220022220220220202620112,[(30,[.closeB 6])],[]⟩),e0 10 0x2222220202220266222022222220260022202022220026201022,e1 49 0x2220626002600620000620201 [g1 8 16 0,g2 14 35 0,g1 20 0 0,g1 28 16 0,g1 33 16 0],e1 33 0x2220626002600620000620201 [g1 8 16 0,g2 14 35 0,g1 20 0 0,g1 28 16 0,g1 33 16 0],e1 15 0x22202626002600620000620201 [g1 8 16 0,g2 14 35 0,g1 20 0 0,g1 28 16 0,g1 33 16 0],e1 27 0x22206260202602062200006c440440264c4040264c4040264c404026c404026c404026c4040262020122 [g1 8 16 0,g2 14 44 12,g1 20 0 0,g1 28 16 0,g1 33 16 0],e0 11 0x260212,e0 12 0x222220220222026221122,(3,⟨0x26c44444426c44026c44022226c444442226402202220262222222026220026c44264422220220202600220202600206440264402644026440220122,[(62,[.closeS (.s 64)]),(72,[.closeS (.s 72)])],[]⟩)]
namespace trace_events_c1
def Ee:Rd:=[o1 20 (.s 18) [],o2 21 (ix 5) [.s 16,.s 18] [],o2 22 (lD 5) [.s 21] [21],o2 6 (.a (.alloc 5 [.int Z 0,.int Z 0,.int Z 0,.int Z 0,.bG])) [] [],o1 5 (.s 20) [20],oz (.l (.store 5)) [.s 6,.s 22] [22]]
def Cj:Rd:=[o1 23 (.s 0) [],o1 24 (.s 3) [],o1 25 (.s 5) [5],o2 26 (bI .add) [.s 25,.k (.int Z 1)] [25],o2 27 (.p (.build [.int Z 0,.int Z 0] [(0,1),(1,1)])) [.s 24,.s 26] [24,26],o2 28 (lD 5) [.s 6] [6],o2 29 .c [.s 23,.s 27,.s 28] [23,27,28],o2 30 (.p .not) [.s 29] [29]]
def zO:Rd:=[o2 31 (bI .add) [.s 18,.k (.int Z 1)] [],o1 18 (.s 31) [31]]
def Jm:RC:=.hg (.seq (.ops [o2 19 (bI .lss) [.s 18,.s 17] []]) (.seq (.cond (.s 19) .skip (.exit 2)) (.seq (.block 3 (.seq (.ops Ee) (.seq (.ops Cj) (.cond (.s 30) .ret .skip)))) (.ops zO)))) (.keep [0,3,8,9,10,16,17,18] [])
def ON:Rd:=[o1 12 (.s 10) [],o2 13 (ix 3) [.s 8,.s 10] [],o2 14 (lD 3) [.s 13] [13],o2 4 (.a (.alloc 3 [.str ByteArray.empty,.bG,.bG])) [] [],o1 3 (.s 12) [12],oz (.l (.store 3)) [.s 4,.s 14] [14]]
def Mc:Rd:=[o2 15 (fa 2) [.s 4] [],o2 16 (ld 1) [.s 15] [15],o2 17 ln [.s 16] [],o1 18 (.k (.int Z 0)) []]
def IS:Rd:=[o2 32 (bI .add) [.s 10,.k (.int Z 1)] [],o1 10 (.s 32) [32]]
def U2:RC:=.block 2 (.gh (.keep [0,3,8,9,10,16,17,18] []) (.loop Jm))
def TG:RC:=.hg (.seq (.ops [o2 11 (bI .lss) [.s 10,.s 9] []]) (.seq (.cond (.s 11) .skip (.exit 0)) (.seq (.block 1 (.seq (.ops ON) (.seq (.ops Mc) U2))) (.ops IS)))) (.keep [0,8,9,10] [])
def Qa:Rd:=[o2 7 (fa 0) [.s 1] [1],o2 8 (ld 1) [.s 7] [7],o2 9 ln [.s 8] [],o1 10 (.k (.int Z 0)) []]
def U1:RC:=.block 0 (.gh (.keep [0,8,9,10] []) (.loop TG))
def text:RF:=⟨33,[],.seq (.ops Qa) U1⟩
section
variable{S:Sys}
abbrev I1(ps:Sl bU)(i:Int)(B:aX (aX V))(more:Bool)(y:Nat):St:=⟨[(0,.yl y),Cv 8 ps,Iv 9 (len ps),Iv 10 i],[],[],B,more,y⟩
abbrev I2(ps:Sl bU)(i:Int)(es:Sl Event)(j:Int)(B:aX (aX V))(more:Bool)(y:Nat):St:=⟨[(0,.yl y),Iv 3 i,Cv 8 ps,Iv 9 (len ps),Iv 10 i,Cv 16 es,Iv 17 (len es),Iv 18 j],[],[],B,more,y⟩
abbrev S2(ps:Sl bU)(i:Int)(es:Sl Event)(j:Int)(b:Bool)(B:aX (aX V))(more:Bool)(y:Nat):St:=⟨[(0,.yl y),Iv 3 i,Cv 8 ps,Iv 9 (len ps),Iv 10 i,Cv 16 es,Iv 17 (len es),Iv 18 j,Bv 19 b],[],[],B,more,y⟩
theorem abR(ps:Sl bU)(i:Int)(es:Sl WF)(j:Int)(B:S')(more:X')(y:Nat)(D:_p (j<len es)=U):
 rn S.bare pZ M (.rc Jm) [] (I2 ps i es j B more y)=M (.exit 2,S2 ps i es j U B more y):=by
 refine Le.get ?_;refine Kf (n:=7) (fo':=.rc (.cond (.s 19) .skip (.exit 2))) (n?:=[.seq (.seq (.block 3 (.seq (.ops Ee) (.seq (.ops Cj) (.cond (.s 30) .ret .skip)))) (.ops zO)),.gst (.keep [0,3,8,9,10,16,17,18] [])]) (λb=>S2 ps i es j b B more y) D p? ?_
 exact Le.of_eq p?
theorem acn(ps:Sl bU)(i:Int)(es:Sl WF)(j:Int)(e:WF)(B:S')(more:X')(y:Nat)(D:_p (j<len es)=O)(J:idx es j=M e)(T:(!(more|| !B.isEmpty))=U):
 rn S.bare pZ M (.rc Jm) [] (I2 ps i es j ([enc (⟨i,y? Z (j+1)⟩:aZ),enc e]::B) more y)=M (.norm,I2 ps i es (y? Z (j+1)) B more y):=by
 refine Le.get ?_;refine Kt (n:=7) (fo':=.rc (.cond (.s 19) .skip (.exit 2))) (n?:=[.seq (.seq (.block 3 (.seq (.ops Ee) (.seq (.ops Cj) (.cond (.s 30) .ret .skip)))) (.ops zO)),.gst (.keep [0,3,8,9,10,16,17,18] [])]) (λb=>S2 ps i es j b ([enc (⟨i,y? Z (j+1)⟩:aZ),enc e]::B) more y) D p? ?_
 refine VF J ?_;refine Vr 8 U [] (Ee.drop 1) [.seq (.seq (.ops Cj) (.cond (.s 30) .ret .skip)),.blk 3,.seq (.ops zO),.gst (.keep [0,3,8,9,10,16,17,18] [])] ⟨[(0,.yl y),Iv 3 i,Cv 8 ps,Iv 9 (len ps),Iv 10 i,Cv 16 es,Iv 17 (len es),Iv 18 j,Bv 19 O,Iv 20 j],[],[],([enc (⟨i,y? Z (j+1)⟩:aZ),enc e]::B),more,y⟩ Z Y p? λx a=>?_
 obtain rfl:x=e:=g?
 refine Aal 1 U [] (Ee.drop 3) [.seq (.seq (.ops Cj) (.cond (.s 30) .ret .skip)),.blk 3,.seq (.ops zO),.gst (.keep [0,3,8,9,10,16,17,18] [])] ⟨[(0,.yl y),Iv 3 i,Cv 8 ps,Iv 9 (len ps),Iv 10 i,Cv 16 es,Iv 17 (len es),Iv 18 j,Bv 19 O,Iv 20 j,Cv 22 x],[],[],([enc (⟨i,y? Z (j+1)⟩:aZ),enc x]::B),more,y⟩ [iv 0,iv 0,iv 0,iv 0,.v .bG] Y (by simp only[bF,Bd,s9,ve,s8,uU,v7,u7,we,tB,uZ,A_,wj,wv,wR,wh,yY,zb,vj,v8,SV.cR];rfl) p? ?_
 refine Ast 1 U [] (Ee.drop 5) [.seq (.seq (.ops Cj) (.cond (.s 30) .ret .skip)),.blk 3,.seq (.ops zO),.gst (.keep [0,3,8,9,10,16,17,18] [])] ⟨[(0,.yl y),Iv 3 i,Cv 8 ps,Iv 9 (len ps),Iv 10 i,Cv 16 es,Iv 17 (len es),Iv 18 j,Bv 19 O,Cv 22 x,Pv 6,Iv 5 j],[Xb 6 (⟨0,0,0,0,.nil⟩:WF)],[],([enc (⟨i,y? Z (j+1)⟩:aZ),enc x]::B),more,y⟩ 6 0 x [iv 0,iv 0,iv 0,iv 0,.v .bG] ((cells x).map .v) Y p? ?_
 refine Kyl (n:=10) (q:=Cj.drop 6) (n?:=[.seq (.cond (.s 30) .ret .skip),.blk 3,.seq (.ops zO),.gst (.keep [0,3,8,9,10,16,17,18] [])]) (st:=⟨[(0,.yl y),Iv 3 i,Cv 8 ps,Iv 9 (len ps),Iv 10 i,Cv 16 es,Iv 17 (len es),Iv 18 j,Bv 19 O,(23,.yl y),Cv 27 (⟨i,y? Z (j+1)⟩:aZ),Cv 28 x],[Xb 6 x],[],([enc (⟨i,y? Z (j+1)⟩:aZ),enc x]::B),more,y⟩) (vs:=[cv (⟨i,y? Z (j+1)⟩:aZ),cv x]) p? Y p? p? Y Y ?_
 refine Kf (n:=3) (fo':=.rc (.cond (.s 30) .ret .skip)) (n?:=[.blk 3,.seq (.ops zO),.gst (.keep [0,3,8,9,10,16,17,18] [])]) (λb=>⟨[(0,.yl y),Iv 3 i,Cv 8 ps,Iv 9 (len ps),Iv 10 i,Cv 16 es,Iv 17 (len es),Iv 18 j,Bv 19 O,Bv 30 b],[Xb 6 x],[],B,more,y⟩) T p? ?_
 exact Le.of_eq p?
theorem YF(ps:Sl bU)(i:Int)(es:Sl WF)(j:Int)(e:WF)(B:S')(more:X')(y:Nat)(D:_p (j<len es)=O)(J:idx es j=M e)(T:(!(more|| !B.isEmpty))=O):
 rn S.bare pZ M (.rc Jm) [] (I2 ps i es j ([enc (⟨i,y? Z (j+1)⟩:aZ),enc e]::B) more y)=M (.ret,⟨[(0,.yl y),Iv 3 i,Cv 8 ps,Iv 9 (len ps),Iv 10 i,Cv 16 es,Iv 17 (len es),Iv 18 j,Bv 19 O,Bv 30 O],[Xb 6 e],[],B,more,y⟩):=by
 refine Le.get ?_;refine Kt (n:=7) (fo':=.rc (.cond (.s 19) .skip (.exit 2))) (n?:=[.seq (.seq (.block 3 (.seq (.ops Ee) (.seq (.ops Cj) (.cond (.s 30) .ret .skip)))) (.ops zO)),.gst (.keep [0,3,8,9,10,16,17,18] [])]) (λb=>S2 ps i es j b ([enc (⟨i,y? Z (j+1)⟩:aZ),enc e]::B) more y) D p? ?_
 refine VF J ?_;refine Vr 8 U [] (Ee.drop 1) [.seq (.seq (.ops Cj) (.cond (.s 30) .ret .skip)),.blk 3,.seq (.ops zO),.gst (.keep [0,3,8,9,10,16,17,18] [])] ⟨[(0,.yl y),Iv 3 i,Cv 8 ps,Iv 9 (len ps),Iv 10 i,Cv 16 es,Iv 17 (len es),Iv 18 j,Bv 19 O,Iv 20 j],[],[],([enc (⟨i,y? Z (j+1)⟩:aZ),enc e]::B),more,y⟩ Z Y p? λx a=>?_
 obtain rfl:x=e:=g?
 refine Aal 1 U [] (Ee.drop 3) [.seq (.seq (.ops Cj) (.cond (.s 30) .ret .skip)),.blk 3,.seq (.ops zO),.gst (.keep [0,3,8,9,10,16,17,18] [])] ⟨[(0,.yl y),Iv 3 i,Cv 8 ps,Iv 9 (len ps),Iv 10 i,Cv 16 es,Iv 17 (len es),Iv 18 j,Bv 19 O,Iv 20 j,Cv 22 x],[],[],([enc (⟨i,y? Z (j+1)⟩:aZ),enc x]::B),more,y⟩ [iv 0,iv 0,iv 0,iv 0,.v .bG] Y (by simp only[bF,Bd,s9,ve,s8,uU,v7,u7,we,tB,uZ,A_,wj,wv,wR,wh,yY,zb,vj,v8,SV.cR];rfl) p? ?_
 refine Ast 1 U [] (Ee.drop 5) [.seq (.seq (.ops Cj) (.cond (.s 30) .ret .skip)),.blk 3,.seq (.ops zO),.gst (.keep [0,3,8,9,10,16,17,18] [])] ⟨[(0,.yl y),Iv 3 i,Cv 8 ps,Iv 9 (len ps),Iv 10 i,Cv 16 es,Iv 17 (len es),Iv 18 j,Bv 19 O,Cv 22 x,Pv 6,Iv 5 j],[Xb 6 (⟨0,0,0,0,.nil⟩:WF)],[],([enc (⟨i,y? Z (j+1)⟩:aZ),enc x]::B),more,y⟩ 6 0 x [iv 0,iv 0,iv 0,iv 0,.v .bG] ((cells x).map .v) Y p? ?_
 refine Kyl (n:=10) (q:=Cj.drop 6) (n?:=[.seq (.cond (.s 30) .ret .skip),.blk 3,.seq (.ops zO),.gst (.keep [0,3,8,9,10,16,17,18] [])]) (st:=⟨[(0,.yl y),Iv 3 i,Cv 8 ps,Iv 9 (len ps),Iv 10 i,Cv 16 es,Iv 17 (len es),Iv 18 j,Bv 19 O,(23,.yl y),Cv 27 (⟨i,y? Z (j+1)⟩:aZ),Cv 28 x],[Xb 6 x],[],([enc (⟨i,y? Z (j+1)⟩:aZ),enc x]::B),more,y⟩) (vs:=[cv (⟨i,y? Z (j+1)⟩:aZ),cv x]) p? Y p? p? Y Y ?_
 refine Kt (n:=3) (fo':=.rc (.cond (.s 30) .ret .skip)) (n?:=[.blk 3,.seq (.ops zO),.gst (.keep [0,3,8,9,10,16,17,18] [])]) (λb=>⟨[(0,.yl y),Iv 3 i,Cv 8 ps,Iv 9 (len ps),Iv 10 i,Cv 16 es,Iv 17 (len es),Iv 18 j,Bv 19 O,Bv 30 b],[Xb 6 x],[],B,more,y⟩) T p? ?_
 exact Le.of_eq p?
abbrev S1(ps:Sl bU)(i:Int)(b:Bool)(B:aX (aX V))(more:Bool)(y:Nat):St:=⟨[(0,.yl y),Cv 8 ps,Iv 9 (len ps),Iv 10 i,Bv 11 b],[],[],B,more,y⟩
theorem aax(ps:Sl bU)(i:Int)(B:S')(more:X')(y:Nat)(D:_p (i<len ps)=U):
 rn S.bare pZ M (.rc TG) [] (I1 ps i B more y)=M (.exit 0,S1 ps i U B more y):=by
 refine Le.get ?_;refine Kf (n:=7) (fo':=.rc (.cond (.s 11) .skip (.exit 0))) (n?:=[.seq (.seq (.block 1 (.seq (.ops ON) (.seq (.ops Mc) U2))) (.ops IS)),.gst (.keep [0,8,9,10] [])]) (λb=>S1 ps i b B more y) D p? ?_
 exact Le.of_eq p?
def WU:QP:=[.blk 2,.blk 1,.seq (.ops IS),.gst (.keep [0,8,9,10] [])]
theorem W9(ps:Sl bU)(i:Int)(p:bU)(B:S')(more:X')(y:Nat)(r:Out×St)(D:_p (i<len ps)=O)(J:idx ps i=M p)
 (h:rn S.bare pZ M (.rc (.loop Jm)) WU (I2 ps i p.b? 0 B more y)=M r):rn S.bare pZ M (.rc TG) [] (I1 ps i B more y)=M r:=by
 refine Le.get ?_;refine Kt (n:=7) (fo':=.rc (.cond (.s 11) .skip (.exit 0))) (n?:=[.seq (.seq (.block 1 (.seq (.ops ON) (.seq (.ops Mc) U2))) (.ops IS)),.gst (.keep [0,8,9,10] [])]) (λb=>S1 ps i b B more y) D p? ?_
 refine VF J ?_;refine Vr 8 U [] (ON.drop 1) [.seq (.seq (.ops Mc) U2),.blk 1,.seq (.ops IS),.gst (.keep [0,8,9,10] [])] ⟨[(0,.yl y),Cv 8 ps,Iv 9 (len ps),Iv 10 i,Bv 11 O,Iv 12 i],[],[],B,more,y⟩ Z Y p? λx a=>?_
 obtain rfl:x=p:=g?
 refine Aal 1 U [] (ON.drop 3) [.seq (.seq (.ops Mc) U2),.blk 1,.seq (.ops IS),.gst (.keep [0,8,9,10] [])] ⟨[(0,.yl y),Cv 8 ps,Iv 9 (len ps),Iv 10 i,Bv 11 O,Iv 12 i,Cv 14 x],[],[],B,more,y⟩ [.v (.str ByteArray.empty),.v .bG,.v .bG] Y (by simp only[bF,Bd,s9,ve,s8,uU,v7,u7,we,tB,uZ,A_,wj,wv,wR,wh,yY,zb,vj,v8,SV.cR];rfl) p? ?_
 refine Ast 1 U [] (ON.drop 5) [.seq (.seq (.ops Mc) U2),.blk 1,.seq (.ops IS),.gst (.keep [0,8,9,10] [])] ⟨[(0,.yl y),Cv 8 ps,Iv 9 (len ps),Iv 10 i,Bv 11 O,Cv 14 x,Pv 4,Iv 3 i],[Xb 4 (⟨ByteArray.empty,.nil,.nil⟩:bU)],[],B,more,y⟩ 4 0 x [.v (.str ByteArray.empty),.v .bG,.v .bG] ((cells x).map .v) Y p? ?_
 refine abK 6 U [] (Mc.drop 2) [.seq U2,.blk 1,.seq (.ops IS),.gst (.keep [0,8,9,10] [])] ⟨[(0,.yl y),Cv 8 ps,Iv 9 (len ps),Iv 10 i,Bv 11 O,Pv 4,Iv 3 i,Cv 16 x.b?],[Xb 4 x],[],B,more,y⟩ x.b? Y p? ?_
 refine Ca (n:=5) (fo':=.rc (.loop Jm)) (n?:=WU) (e?:=I2 ps i x.b? 0 B more y) p? (Le.of_eq h)
theorem Zf(ps:Sl bU)(i:Int)(es:Sl WF)(j:Int)(B:S')(more:X')(y:Nat):
 rn S.bare pZ M (.ex 2) WU (S2 ps i es j U B more y)=M (.norm,I1 ps (y? Z (i+1)) B more y):=by kernel_rfl
theorem wrap_small(n:Nat)(h:n<9223372036854775807):y? Z ((n:Int)+1)=((n+1:Nat):Int):=by simp[y?,IntKind.bits,IntKind.signed];omega
abbrev eI(x:aZ×Event):aX V:=[enc x.1,enc x.2]
theorem xW.step{x:So}{D h?:S'}{more:X'}(h:xW D (x::h?) more):∃B,D=x::B/\((!(more|| !B.isEmpty))=U/\xW B h? more\/(!(more|| !B.isEmpty))=O/\B=[]):=by rcases h with⟨rfl,rfl⟩|⟨rfl,u,r,a⟩;exact⟨h?,Y,.inl ⟨Y,.inl ⟨Y,Y⟩⟩⟩;cases D with|nil=>grind|cons w D=>simp only[n7,List.cons.injEq]at a;obtain⟨rfl,rfl⟩:=a;refine⟨D,Y,?_⟩;cases D with|nil=>grind|cons z C=>exact .inl ⟨Y,.inr ⟨Y,f?,r,Y⟩⟩
theorem wP{α:Type}{s:Sl α}{j:Nat}{x:α}{r:aX α}(h:s.l.drop j=x::r):idx s (j:Int)=M x/\_p ((j:Int)<len s)=O/\s.l.drop (j+1)=r:=by
 have a:j<W s.l:=by apply Classical.byContradiction;intro w;rw[List.drop_eq_nil_of_le c?]at h;cases h
 have u:=List.drop_eq_getElem_cons a;rw[u]at h;simp only[List.cons.injEq]at h;refine⟨?_,g?,h.2⟩;unfold idx;simp_all
variable{Q:Out×St->aY (Out×St)}{fs:QP}
theorem inner(ps:Sl bU)(i:Int)(es:Sl WF)(T:W es.l<9223372036854775807)(more:X')(y:Nat)(R:S'):∀(a:aX WF)(j:Nat),es.l.drop j=a->∀D,xW D ((jM i j a).map eI++R) more->
 (∃(B:S')(m:Int),xW B R more/\rn S.bare pZ Q (.rc (.loop Jm)) fs (I2 ps i es j D more y)=rn S.bare pZ Q (.ex 2) fs (S2 ps i es m U B more y))\/
 (∃e?:St,e?.want=[]/\rn S.bare pZ Q (.rc (.loop Jm)) fs (I2 ps i es j D more y)=Q (.ret,e?))
 |[],j,hd,D,J=>by have b:_p ((j:Int)<len es)=U:=(by simp_all);exact .inl ⟨D,j,by simpa[jM]using J,I9 (abR ps i es j D more y b)⟩|e::a,j,hd,D,J=>by have⟨b,z,C⟩:=wP hd;have g:j<W es.l:=g?;simp only[jM,P?,n7]at J;obtain⟨B,rfl,u⟩:=xW.step J;have d:=wrap_small j c?;have w:((j:Int)+1)=y? Z ((j:Int)+1):=g?;rcases u with⟨u,I⟩|⟨u,rfl⟩;have k:=acn (S:=S) ps i es j e B more y z b u;rw[<-w]at k;have k2:=Ji (Q:=Q) (fs:=fs) k;have L:=inner ps i es T more y R a (j+1) C B g?;rw[show((j+1:Nat):Int)=(j:Int)+1 from Y]at L;grind;have k:=YF (S:=S) ps i es j e [] more y z b u;rw[<-w]at k;exact .inr ⟨_,by rfl,JK k⟩
theorem outer(ps:Sl bU)(T:W ps.l<9223372036854775807)(D:∀p∈ps.l,W p.b?.l<9223372036854775807)(more:X')(y:Nat):∀(a:aX bU)(i:Nat),ps.l.drop i=a->∀B,xW B ((gO i a).map eI) more->
 rn S.bare pZ Qi (.rc (.loop TG)) [.blk 0] (I1 ps i B more y)=M ()
 |[],i,hd,B,J=>by
  have b:_p ((i:Int)<len ps)=U:=by simp_all
  rw[I9 (aax ps i B more y b)];have:B=[]:=by
   rcases J with⟨_,rfl⟩|⟨_,I,r,c⟩;rfl;have:B=[]:=by cases B with
    |nil=>rfl|cons=>simp[gO]at c
   grind
  subst this;rfl
 |p::a,i,hd,B,J=>by have⟨b,z,C⟩:=wP hd;have hi:i<W ps.l:=g?;have d:p∈ps.l:=List.mem_of_mem_drop (i:=i) g?;simp only[gO,List.map_append]at J;have u:=wrap_small i c?;rcases inner (S:=S) (Q:=M) (fs:=WU) ps i p.b? (D p d) more y _ p.b?.l 0 rfl B J with⟨w,L,g1,g2⟩|⟨e?,g1,g2⟩;rw[Zf,u]at g2;rw[Ji (W9 ps i p B more y _ z b g2)];exact outer ps T D more y a (i+1) C w g1;rw[JK (W9 ps i p B more y _ z b g2)];simp[Qi,g1]
theorem all(t:Z4)(B:aX (aZ×WF))(h:kF t=M B)(D:S')(more:X')(J:xW D (B.map eI) more)(y:Nat):
 rn S.bare pZ Qi (.rc text.body) [] ⟨yz 0 (([]:So).map .v++.yl y::[V.fptr (cells t)].map .v),[],[],D,more,y⟩=M ():=by
 unfold kF at h;split at h
 .rename_i hk;cases h;simp only[ζh,List.all_eq_true,qI,_e]at hk;refine Le.get ?_;refine abK 4 U [] (Qa.drop 2) [.seq U1] ⟨[(0,.yl y),Cv 8 t.a?],[],[],D,more,y⟩ t.a? Y p? ?_
  refine Ca (n:=5) (fo':=.rc (.loop TG)) (n?:=[.blk 0]) (e?:=I1 t.a? 0 D more y) p? (Le.of_eq ?_)
  exact outer t.a? hk.1 hk.2 more y t.a?.l 0 rfl D J
 simp_all
end
theorem zd{α:Type}[bB α]{a b:Sl α}(h:cz a=cz b):rows a.l=rows b.l:=by cases a<;>cases b<;>first|rfl|(simp only[cz,Sl.k,kN,V.fsl.injEq,true_and,reduceCtorEq]at h;done)|(simp only[cz,Sl.k,kN,V.fsl.injEq,true_and,reduceCtorEq]at h;omega)
theorem zH(p:Int):∀(es B:aX WF)(j:Int),rows es=rows B->(jM p j es).map eI=(jM p j B).map eI
 |[],[],_,_=>rfl|[],_::_,_,h=>by simp[rows]at h|_::_,[],_,h=>by simp[rows]at h|e::es,D::B,j,h=>by simp only[rows,P?,List.cons.injEq]at h;have a:enc e=enc D:=(by show V.agg (cells e)=V.agg (cells D);rw[h.1]);simp only[jM,P?,eI,a,zH p es B (j+1) h.2]
theorem Gk:∀(ps B:aX bU)(i:Int),rows ps=rows B->(gO i ps).map eI=(gO i B).map eI
 |[],[],_,_=>rfl|[],_::_,_,h=>by simp[rows]at h|_::_,[],_,h=>by simp[rows]at h|p::ps,p'::B,i,h=>by simp only[rows,P?,List.cons.injEq]at h;have a:cz p.b?=cz p'.b?:=(by have:=h.1;change[V.str p.name,cz p.i?,cz p.b?]=[V.str p'.name,cz p'.i?,cz p'.b?]at this;grind);simp only[gO,List.map_append,zH i _ _ 0 (zd a),Gk ps B (i+1) h.2]
def yU(f:Y')(g:Y')(a b:So)(xs:S'):Prop:=∃(t:Z4)(u:aX (aZ×WF)),g=f/\a=[]/\b=[.fptr (cells t)]/\kF t=M u/\xs=u.map eI
theorem yU.uniq{f g:Y'}{a b:So}{xs ys:S'}(h:yU f g a b xs)(k:yU f g a b ys):xs=ys:=by
 obtain⟨t,C,rfl,rfl,rfl,c,rfl⟩:=h;obtain⟨w,z,_,_,B,u,rfl⟩:=k;simp only[List.cons.injEq,V.fptr.injEq,and_true]at B;have D:cz t.a?=cz w.a?:=by change[cz t.a?]=[cz w.a?]at B;grind
 unfold kF at c u;split at c<;>split at u<;>simp only[ζa,reduceCtorEq]at c u;subst c u;exact Gk _ _ 0 (zd D)
end trace_events_c1
end Go.VE
namespace Go.VE
open Go.Proofs.YtddlogilhmloeadGreatDoor
noncomputable section
def Kb(f:Y'):aY JA:=bif beq f 164 then M (vS E)else bif beq f 161 then M (vT E)else G
def Sb:Sys:=⟨E,λn=>n,λ_ _ _=>G,Bi E,Kb⟩
theorem MY:∀f q,Kb f=M q->pJ E f q:=by intro f q h;unfold Kb at h;cases a:beq f 164 with|true=>rw[a]at h;cases h;have:=Nat.eq_of_beq_eq_true a;subst this;exact UM AQ p? p? (E4 p?)|false=>rw[a]at h;cases a:beq f 161 with|true=>rw[a]at h;cases h;have:=Nat.eq_of_beq_eq_true a;subst this;exact Wq p? p? p? p?|false=>rw[a]at h;cases h
def Tx:rW:=VK E M (lk O9)
abbrev cB:cg:=dB Sb Tx
theorem abn:ud Sb Tx where
 fn f rf h:=let⟨u,a,w⟩:=EU h;⟨u,M,a,AQ,w⟩
 A2 f z y h:=Ir h
 prm:=MY
theorem R2:∀f a b xs,Sb.items f a b=M xs->fF Sb f a b xs:=λf a b xs h=>by cases h
end
end Go.VE
namespace Go.VE
noncomputable section
namespace IB
def eC(s0:Zg):aY Zg:=H (Sl.isNil s0) λu=>bg u (M Sl.nil) (H (pT (Sl.row []:Zg) s0) λw=>M w)
theorem iu:lU Sb cB 32 (λs0:Zg=>[enc s0]) (λz=>eC z):=lU.mk' (oI (Tx 32)) (λs0=>abv 9 λu _=>bp 2 4 a_ (Bj 7 5 7 λw _=>a_))
namespace cH
def dG(k6:Int)(d:Sl WF)(i g:Int)(J:Sl Assign)(T:Int)(a:S')(B:Zg)(D:Int)(more:X'):aY (Fw ((Zg)×Int) Zg Empty):=bg (_p (D<T)) (H (idx J D) λu=>H (Sl.iF B u.var) λw=>H (Sl.put B w (u.value:Int)) λz=>M (.n (z,y? Z (D+1)))) (M (.x B))
def W3(B:Zg)(k6:Int)(T:Sl WF)(D J:Int)(d:Sl Assign)(W Y:Int)(a:S')(more:X'):aY (Fw ((Zg)×Int×Int×(S')) S' S'):=(bM (λq:(Zg)×Int=>dG k6 T D J d W a q.1 q.2 more) (B,Y)).bind (Fw.elim (λe=>((eC e).bind Sl.whole).bind λw=>(yl a more [.int Z (y? Z (k6+1)),enc w]).bind λu=>bg u.1 (M (.n (e,D,y? Z (J+1),u.2))) (M (.r u.2))) (λe=>k! e))
def bK(D:Sl WF)(J:Zg)(T B:Int)(d:S')(more:X'):aY (Fw ((Zg)×Int×Int×(S')) S' S'):=bg (_p (B<T)) (H (idx D B) λu=>W3 J B D T B u.assign (len u.assign) 0 d more) (M (.x d))
def W2(B:Zg)(D:Sl WF)(J T:Int)(d:S')(more:X'):aY S':=H (bM (λq:(Zg)×Int×Int×(S')=>bK D q.1 q.2.1 q.2.2.1 q.2.2.2 more) (B,J,T,d)) (Fw.elim (λe=>M e) (λe=>M e))
def bk(d:bU)(J:Sl Var)(T:Int)(g:S')(B:Zg)(D:Int)(more:X'):aY (Fw ((Zg)×Int) Zg Empty):=bg (_p (D<T)) (H (idx J D) λu=>H (ec B (u.init_:Int)) λw=>M (.n (w,y? Z (D+1)))) (M (.x B))
def W1(B:bU)(D:Zg)(J:Sl Var)(T d:Int)(W:S')(more:X'):aY S':=(bM (λq:(Zg)×Int=>bk B J T W q.1 q.2 more) (D,d)).bind (Fw.elim (λe=>((eC e).bind Sl.whole).bind λw=>(yl W more [.int Z 0,enc w]).bind λu=>bg u.1 (cH.W2 e B.b? (len B.b?) 0 u.2 more) (M u.2)) (λe=>k! e))
end cH
def cH(D:S')(B:bU)(more:X'):aY S':=cH.W1 B (Sl.nil:Zg) B.i? (len B.i?) 0 D more
open cH in
theorem Bb(more:X')(y:Nat)(J:S')(B:bU):Le ((cH J B more).bind λr=>M r) (bZ Sb cB Qw (.rc (tb Tx 184),[],⟨yz 0 (.yl y::[V.fptr (cells B)].map .v),[],[],J,more,y⟩)):=bO 10 B.i? (dZ 6 (λC=>⟨[(0,.yl y),Kv 1 B,Ov 3,Cv 11 B.i?,Iv 12 (len B.i?),Iv 13 C.2],[Lb 2003 C.1],[],J,more,y⟩) (λD=>(0,⟨[(0,.yl y),Kv 1 B,Ov 3],[Lb 2003 D],[],J,more,y⟩)) (λC=>bp 8 14 (bH 7 λT _=>kO 10 2003 20 21 λi _=>a_) a_) (λD=>WT 7 25 iu D λL _=>Byl 1 [.int Z 0,enc L] λS _=>cM 3 27 (bO 7 B.b? (dU 6 (λu=>⟨[(0,.yl y),Ov 3,Cv 29 B.b?,Iv 30 u.2.1,Iv 31 u.2.2.1],[Lb 2003 u.1],[],u.2.2.2,more,y⟩) (λw=>(2,⟨[],[],[],w,more,y⟩)) (λw=>⟨[],[],[],w,more,y⟩) (λu=>bp 8 32 (bH 8 λz _=>lC 3 7 0 z (bO 7 z.assign (dZ 6 (λd=>⟨[(0,.yl y),Ov 3,Iv 6 u.2.2.1,Cv 29 B.b?,Iv 30 u.2.1,Iv 31 u.2.2.1,Cv 37 z.assign,Iv 38 (len z.assign),Iv 39 d.2],[Lb 2003 d.1],[],u.2.2.2,more,y⟩) (λI=>(4,⟨[(0,.yl y),Ov 3,Iv 6 u.2.2.1,Cv 29 B.b?,Iv 30 u.2.1,Iv 31 u.2.2.1],[Lb 2003 I],[],u.2.2.2,more,y⟩)) (λd=>bp 8 40 (bH 7 λg _=>js Z 11 2003 λW _=>tL 0 2003 (.int Z g.value) λX _=>a_) a_) (λI=>WT 8 54 iu I λQ _=>Byl 1 [.int Z (y? Z (u.2.2.1+1)),enc Q] λY _=>cM 3 56 a_ a_)))) a_) (λw=>a_) (λw=>a_))) a_))
end IB
end
end Go.VE
namespace Go.VE
open IB
def yF:aX Assign->Zg->aY Zg
 |[],s=>M s|a::r,s=>H (Sl.iF s a.var) λj=>H (Sl.put s j a.value) (yF r)
def yX:aX Var->Zg->aY Zg
 |[],s=>M s|v::r,s=>H (ec s v.init_) (yX r)
def PC(s:Zg):aY Zg:=H (eC s) Sl.whole
def yW:Int->aX WF->Zg->aY (aX (Int×Zg))
 |_,[],_=>M []|k,e::r,s=>H (yF e.assign.l s) λn=>H (PC n) λc=>(yW (k+1) r n).map ((k+1,c)::·)
def kD(p:bU):aY (aX (Int×Zg)):=if qI (W p.i?.l)&&(qI (W p.b?.l)&&p.b?.l.all λe=>qI (W e.assign.l))then(yX p.i?.l .nil).bind λs=>H (PC s) λc=>(yW 0 p.b?.l s).map ((0,c)::·)else G
namespace IST
abbrev eI(x:Int×Sl Int):aX V:=[enc x.1,enc x.2]
theorem EZ{n:Nat}(h:qI n=O):n<9223372036854775807:=by simpa[qI]using h
theorem wrap_small(n:Nat)(h:n<9223372036854775807):y? Z ((n:Int)+1)=((n+1:Nat):Int):=by simp[y?,IntKind.bits,IntKind.signed];omega
theorem wP{α:Type}{s:Sl α}{j:Nat}{x:α}{r:aX α}(h:s.l.drop j=x::r):idx s (j:Int)=M x/\_p ((j:Int)<len s)=O/\s.l.drop (j+1)=r:=by
 have a:j<W s.l:=by apply Classical.byContradiction;intro w;rw[List.drop_eq_nil_of_le c?]at h;cases h
 have u:=List.drop_eq_getElem_cons a;rw[u]at h;simp only[List.cons.injEq]at h;refine⟨?_,by simp[len,a],h.2⟩;unfold idx;rw[J0 c?];simp[ζd a,h.1]
theorem MG{α:Type}{s:Sl α}{j:Nat}(h:s.l.drop j=[]):_p ((j:Int)<len s)=U:=by
 have:W s.l<=j:=by simpa using h
 simp[len];omega
theorem ini(p:bU)(v:Sl Var)(T:W v.l<9223372036854775807)(D:S')(more:X'):∀(a:aX Var)(j:Nat),v.l.drop j=a->∀s B,yX a s=M B->
 bM (λq:Zg×Int=>cH.bk p v (len v) D q.1 q.2 more) (s,(j:Int))=M (.x B)
 |[],j,hd,s,B,h=>by cases h;rw[fM];simp only[cH.bk,MG hd,bg,ζb,Bool.false_eq_true,M']|x::a,j,hd,s,B,h=>by have⟨b,J,d⟩:=wP hd;have w:j<W v.l:=(by simpa[len]using J);simp only[yX,ζg]at h;have⟨n,u,h⟩:=h;rw[fM];simp only[cH.bk,b,J,u,bg,ζb,L',wrap_small j c?];exact ini p v T D more a (j+1) d n B h
theorem set(k:Int)(es:Sl WF)(a b:Int)(v:Sl Assign)(T:W v.l<9223372036854775807)(D:S')(more:X'):∀(c:aX Assign)(j:Nat),v.l.drop j=c->∀s B,yF c s=M B->
 bM (λq:Zg×Int=>cH.dG k es a b v (len v) D q.1 q.2 more) (s,(j:Int))=M (.x B)
 |[],j,hd,s,B,h=>by cases h;rw[fM];simp only[cH.dG,MG hd,bg,ζb,Bool.false_eq_true,M']|x::c,j,hd,s,B,h=>by have⟨d,J,g⟩:=wP hd;have w:j<W v.l:=(by simpa[len]using J);simp only[yF,ζg]at h;have⟨i,hi,n,u,h⟩:=h;rw[fM];simp only[cH.dG,d,J,hi,u,bg,ζb,L',wrap_small j c?];exact set k es a b v T D more c (j+1) g n B h
theorem xW.step{x:So}{D h?:S'}{more:X'}(h:xW D (x::h?) more):∃B,yl D more x=M ((more|| !B.isEmpty),B)/\((more|| !B.isEmpty)=O/\xW B h? more\/(more|| !B.isEmpty)=U/\B=[]):=by rcases h with⟨rfl,rfl⟩|⟨rfl,u,r,a⟩;exact⟨h?,by simp[yl],.inl ⟨Y,.inl ⟨Y,Y⟩⟩⟩;cases D with|nil=>exact _c Y u|cons w D=>simp only[n7,List.cons.injEq]at a;obtain⟨rfl,rfl⟩:=a;refine⟨D,by simp[yl],?_⟩;cases D with|nil=>exact .inr ⟨rfl,rfl⟩|cons z C=>exact .inl ⟨Y,.inr ⟨Y,f?,r,Y⟩⟩
theorem gm(es:Sl WF)(W:es.l.length<9223372036854775807)(J:∀e∈es.l,e.assign.l.length<9223372036854775807)(more:X'):∀(a:aX WF)(j:Nat),es.l.drop j=a->∀s B,yW (j:Int) a s=M B->∀D,xW D (B.map eI) more->
 ∃T:S',T=[]/\(bM (λq:Zg×Int×Int×S'=>cH.bK es q.1 q.2.1 q.2.2.1 q.2.2.2 more) (s,len es,(j:Int),D)=M (.x T)\/bM (λq:Zg×Int×Int×S'=>cH.bK es q.1 q.2.1 q.2.2.1 q.2.2.2 more) (s,len es,(j:Int),D)=M (.r T))
 |[],j,hd,s,B,h,D,o=>by cases h;have:D=[]:=(by rcases o with⟨_,rfl⟩|⟨_,I,r,d⟩;rfl;cases D with|nil=>rfl|cons=>simp at d);subst this;refine⟨[],rfl,.inl ?_⟩;rw[fM];simp only[cH.bK,MG hd,bg,ζb,Bool.false_eq_true,M']
 |e::a,j,hd,s,B,h,D,o=>by have⟨f,g,L⟩:=wP hd;have t:j<es.l.length:=(by simpa[len]using g);have m:e∈es.l:=List.mem_of_mem_drop (i:=j) (by rw[hd];exact List.mem_cons_self ..);simp only[yW,ζg,ζf]at h;obtain⟨n,I,c,b,r,d,rfl⟩:=h;have b:(eC n).bind Sl.whole=M c:=b;have⟨w,z,Q⟩:=xW.step o;have C:=wrap_small j c?;have z:yl D more [.int Z ((j+1:Nat):Int),enc c]=M ((more|| !w.isEmpty),w):=z;rw[fM];have u:=set j es (len es) j e.assign (J e m) D more e.assign.l 0 rfl s n I;rw[show((0:Nat):Int)=0 from rfl]at u;rcases Q with⟨g1,g2⟩|⟨g1,rfl⟩;have⟨S,X,Y⟩:=gm es W J more a (j+1) L n r d w g2;refine⟨S,X,?_⟩;rw[g1]at z;simp only[cH.bK,cH.W3,f,g,u,b,z,bg,ζb,L',Fw.elim,C];exact Y;refine⟨[],rfl,.inr ?_⟩;rw[g1]at z;simp only[cH.bK,cH.W3,f,g,u,b,C,z,bg,ζb,L',M',Bool.false_eq_true,Fw.elim]
theorem all(p:bU)(B:aX (Int×Zg))(h:kD p=M B)(D:S')(more:X')(J:xW D (B.map eI) more):cH D p more=M []:=by unfold kD at h;split at h;rename_i b;simp only[ζh,List.all_eq_true]at b;have⟨k1,k2,k3⟩:=b;simp only[ζg,ζf]at h;obtain⟨s,C,c,a,r,d,rfl⟩:=h;have a:(eC s).bind Sl.whole=M c:=a;have⟨u,w,g⟩:=xW.step J;have hi:=ini p p.i? (EZ k1) D more p.i?.l 0 rfl .nil s C;rw[show((0:Nat):Int)=0 from rfl]at hi;have w:yl D more [.int Z 0,enc c]=M ((more|| !u.isEmpty),u):=w;unfold cH cH.W1;simp only[hi,ζb,Fw.elim,a,w];rcases g with⟨g1,g2⟩|⟨g1,rfl⟩;obtain⟨L,rfl,z⟩:=gm p.b? (EZ k2) (λe I=>EZ (k3 e I)) more p.b?.l 0 rfl s r d u g2;rw[show((0:Nat):Int)=0 from rfl]at z;rw[g1];simp only[bg,L',cH.W2];rcases z with q|q<;>(rw[q];rfl);rw[g1];rfl;cases h
theorem zd{α:Type}[bB α]{a b:Sl α}(h:cz a=cz b):rows a.l=rows b.l:=by cases a<;>cases b<;>first|rfl|(simp only[cz,Sl.k,kN,V.fsl.injEq,true_and,reduceCtorEq]at h;done)|(simp only[cz,Sl.k,kN,V.fsl.injEq,true_and,reduceCtorEq]at h;exact h)
theorem LW:∀(a b:aX Var),rows a=rows b->∀s,yX a s=yX b s
 |[],[],_,_=>rfl|[],_::_,h,_=>by simp[rows]at h|_::_,[],h,_=>by simp[rows]at h|x::a,y::b,h,s=>by simp only[rows,P?,List.cons.injEq]at h;have c:x.init_=y.init_:=(by have:=h.1;change[V.str x.name,V.int Z x.init_]=[V.str y.name,V.int Z y.init_]at this;simpa using(List.cons.inj (List.cons.inj this).2).1);simp only[yX,c,funext (LW a b h.2)]
theorem Lq:∀(a b:aX Assign),rows a=rows b->∀s,yF a s=yF b s
 |[],[],_,_=>rfl|[],_::_,h,_=>by simp[rows]at h|_::_,[],h,_=>by simp[rows]at h|x::a,y::b,h,s=>by simp only[rows,P?,List.cons.injEq]at h;have c:=h.1;change[V.int Z x.var,V.int Z x.value]=[V.int Z y.var,V.int Z y.value]at c;simp only[List.cons.injEq,V.int.injEq,true_and,and_true]at c;simp only[yF,c.1,c.2,funext (Lq a b h.2)]
theorem Lh{x y:WF}(h:cells x=cells y):rows x.assign.l=rows y.assign.l:=by change[V.int Z x.kind,V.int Z x.k?,V.int Z x.d?,V.int Z x.time,cz x.assign]=[V.int Z y.kind,V.int Z y.k?,V.int Z y.d?,V.int Z y.time,cz y.assign]at h;simp only[List.cons.injEq]at h;exact zd h.2.2.2.2.1
theorem zH:∀(a b:aX WF),rows a=rows b->∀k s,yW k a s=yW k b s
 |[],[],_,_,_=>rfl|[],_::_,h,_,_=>by simp[rows]at h|_::_,[],h,_,_=>by simp[rows]at h|x::a,y::b,h,k,s=>by simp only[rows,P?,List.cons.injEq]at h;simp only[yW,Lq _ _ (Lh h.1),zH a b h.2]
theorem EW{α:Type}[bB α]{a b:aX α}(h:rows a=rows b):a.length=b.length:=by have:=_d List.length h;simpa[rows]using this
theorem Lr:∀(a b:aX WF),rows a=rows b->(a.all λe=>qI (W e.assign.l))=b.all λe=>qI (W e.assign.l)
 |[],[],_=>rfl|[],_::_,h=>by simp[rows]at h|_::_,[],h=>by simp[rows]at h|x::a,y::b,h=>by simp only[rows,P?,List.cons.injEq]at h;simp only[c!,EW (Lh h.1),Lr a b h.2]
def yU(f:Y')(g:Y')(a b:So)(xs:S'):Prop:=∃(p:bU)(u:aX (Int×Zg)),g=f/\a=[]/\b=[.fptr (cells p)]/\kD p=M u/\xs=u.map eI
theorem yU.uniq{f g:Y'}{a b:So}{xs ys:S'}(h:yU f g a b xs)(k:yU f g a b ys):xs=ys:=by obtain⟨p,C,rfl,rfl,rfl,c,rfl⟩:=h;obtain⟨w,z,_,_,u,B,rfl⟩:=k;simp only[List.cons.injEq,V.fptr.injEq,and_true]at u;change[V.str p.name,cz p.i?,cz p.b?]=[V.str w.name,cz w.i?,cz w.b?]at u;simp only[List.cons.injEq]at u;have r1:=zd u.2.1;have r2:=zd u.2.2.1;unfold kD at c B;rw[EW r1,EW r2,Lr _ _ r2,LW _ _ r1,funext (λs=>zH _ _ r2 0 s)]at c;have e:=c.symm.trans B;cases e;rfl
end IST
end Go.VE
namespace Go.VE
open Go.Proofs.YtddlogilhmloeadGreatDoor
noncomputable section
def LS(f:Y')(a b:So)(xs:S'):Prop:=trace_events_c1.yU 141 f a b xs\/IST.yU 184 f a b xs
def Sy:Sys:=⟨E,λn=>n,Bh LS,Bi E,Kb⟩
abbrev cL:cg:=dB Sy Tx
theorem XY:Sy.prm 164=M (vS Sy.E):=by kernel_rfl
theorem YL:Sy.prm 161=M (vT Sy.E):=by kernel_rfl
theorem aa_:∃fi,E.ft 141=M fi/\zP E M fi trace_events_c1.text:=aaM p?
theorem PU:ud Sy Tx where
 fn f rf h:=let⟨u,a,w⟩:=EU h;⟨u,M,a,AQ,w⟩
 A2 f z y h:=Ir h
 prm:=MY
theorem LC(p:bU)(B:aX (Int×Zg))(a:kD p=M B):fF Sy 184 [] [.fptr (cells p)] (B.map IST.eI):=by
 have w:Tx 184=M (oI (Tx 184)):=A5 p?;have⟨d,z,C⟩:=EU w;have e1:Nat.ble (W ([]:So)+1+[V.fptr (cells p)].length) (oI (Tx 184)).na=O:=by kernel_rfl
 have e2:(oI (Tx 184)).rs=[]:=by kernel_rfl
 have e3:Sy.E=Sb.E:=rfl;exact UE e3 MY (Ar abn R2) R2 z AQ C (Nat.le_of_ble_eq_true e1) e2 λu more D y=>IB.Bb more y u p [] (by rw[IST.all p B a u more D];rfl)
theorem HD:∀f a b xs,Sy.items f a b=M xs->fF Sy f a b xs:=by intro f a b xs h;have h:LS f a b xs:=QL h;rcases h with h|h;obtain⟨t,u,rfl,rfl,rfl,c,rfl⟩:=h;have⟨D,w,z⟩:=aa_;exact U7 Sy w AQ z (Nat.le_of_ble_eq_true Y) Y λB more C y=>trace_events_c1.all t u c B more C y;obtain⟨p,u,rfl,rfl,rfl,c,rfl⟩:=h;exact LC p u c
theorem B3(t:Z4)(B:aX (aZ×WF))(h:kF t=M B):Sy.items 141 [] [.fptr (cells t)]=M (B.map λx:aZ×WF=>[enc x.1,enc x.2]):=Hs (.inl ⟨t,B,Y,Y,Y,h,Y⟩) (λu a=>by rcases a with a|a<;>first|exact a.uniq ⟨t,B,rfl,rfl,rfl,h,rfl⟩|(have⟨_,_,a,_⟩:=a;exact _c a (by decide)))
theorem JE(p:bU)(B:aX (Int×Zg))(h:kD p=M B):Sy.items 184 [] [.fptr (cells p)]=M (B.map λx:Int×Zg=>[enc x.1,enc x.2]):=Hs (.inr ⟨p,B,Y,Y,Y,h,Y⟩) (λu a=>by rcases a with a|a<;>first|exact a.uniq ⟨p,B,rfl,rfl,rfl,h,rfl⟩|(have⟨_,_,a,_⟩:=a;exact _c a (by decide)))
theorem Rz:Sy.A2 4 []=M (.bool O):=C9 (Nh Y ⟨1,[],by kernel_rfl⟩)
end
end Go.VE
namespace Go.VE
noncomputable section
def vm:aY X':=M O
instance Ys:Fc Sy cL vm:=⟨4,[],λr:X'=>[.bool r],O,iG.A2 p? p? Rz⟩
namespace ga
def bk(s0:Sl WF)(D:Int)(B:Int)(p1:WF->aY X'):aY (Fw Int Unit Int):=bg (_p (B<D)) (H (idx s0 B) λu=>H (p1 u) λw=>bg w (M (.r B)) (M (.n (y? Z (B+1))))) (M (.x ()))
def W1(s0:Sl WF)(B D:Int)(p1:WF->aY X'):Ps:=H (bM (λq:Int=>bk s0 B q p1) D) (Fw.elim (λe=>M (-1)) (λe=>M e))
end ga
def ga(s0:Sl WF)(p1:WF->aY X'):Ps:=ga.W1 s0 (len s0) 0 p1
open ga in
abbrev sq(g1:FuncId)(e1:aX V)(p1:Event->aY Bool)(a:me Sy cL g1 [] e1 (λz:Event=>[enc z]) (λr:Bool=>[.bool r]) p1 O)(s0:Sl Event):Fc Sy cL (ga s0 p1):=Fc.M 34 [enc s0,.clo g1 [] e1] (bO 9 s0 (dU 5 (λw=>(bF [Cv 0 s0,(1,.v (.clo g1 [] e1)),Iv 7 (len s0),Iv 8 w] [])) (λu=>(0,(bF [] []))) (λu=>(bF [Iv 4 u] [])) (λw=>bp 7 9 (bH 16 λB _=>yJ 1 a.f B λC _=>bp 2 16 a_ a_) a_) (λu=>a_) (λu=>a_)))
def jc(s0:Sl WF)(p1:WF->aY X'):aY X':=H (ga s0 p1) λu=>M (_p (u>=0))
abbrev qz(g1:FuncId)(e1:aX V)(p1:Event->aY Bool)(a:me Sy cL g1 [] e1 (λz:Event=>[enc z]) (λr:Bool=>[.bool r]) p1 O)(s0:Sl Event):Fc Sy cL (jc s0 p1):=Fc.M 16 [enc s0,.clo g1 [] e1] (bz (F:=sq g1 e1 p1 a s0) 9 λu _=>a_)
def uo(B:WF):aY X':=M (_p ((len B.assign)>12))
instance WS(B:WF):Fc Sy cL (uo B):=Fc.M 17 [enc B] (ck 2 1 B (bO 7 B.assign a_))
namespace fV
def bk(s0:Sl Var)(D:Int)(B:Int)(p1:Var->aY X'):aY (Fw Int Unit Int):=bg (_p (B<D)) (H (idx s0 B) λu=>H (p1 u) λw=>bg w (M (.r B)) (M (.n (y? Z (B+1))))) (M (.x ()))
def W1(s0:Sl Var)(B D:Int)(p1:Var->aY X'):Ps:=H (bM (λq:Int=>bk s0 B q p1) D) (Fw.elim (λe=>M (-1)) (λe=>M e))
end fV
def fV(s0:Sl Var)(p1:Var->aY X'):Ps:=fV.W1 s0 (len s0) 0 p1
open fV in
abbrev pL(g1:FuncId)(e1:aX V)(p1:Var->aY Bool)(a:me Sy cL g1 [] e1 (λz:Var=>[enc z]) (λr:Bool=>[.bool r]) p1 O)(s0:Sl Var):Fc Sy cL (fV s0 p1):=Fc.M 35 [enc s0,.clo g1 [] e1] (bO 9 s0 (dU 5 (λw=>(bF [Cv 0 s0,(1,.v (.clo g1 [] e1)),Iv 7 (len s0),Iv 8 w] [])) (λu=>(0,(bF [] []))) (λu=>(bF [Iv 4 u] [])) (λw=>bp 7 9 (bH 16 λB _=>yJ 1 a.f B λC _=>bp 2 16 a_ a_) a_) (λu=>a_) (λu=>a_)))
def gu(s0:Sl Var)(p1:Var->aY X'):aY X':=H (fV s0 p1) λu=>M (_p (u>=0))
abbrev nT(g1:FuncId)(e1:aX V)(p1:Var->aY Bool)(a:me Sy cL g1 [] e1 (λz:Var=>[enc z]) (λr:Bool=>[.bool r]) p1 O)(s0:Sl Var):Fc Sy cL (gu s0 p1):=Fc.M 18 [enc s0,.clo g1 [] e1] (bz (F:=pL g1 e1 p1 a s0) 9 λu _=>a_)
def tZ(B:Var):aY X':=M (_p (((ByteArray.size B.name:Nat):Int)>40))
instance Xy(B:Var):Fc Sy cL (tZ B):=Fc.M 19 [enc B] (a_)
namespace lX
def bk(B:Int)(i:Sl bU)(J:Int)(j:Z4)(T D:Int):aY (Fw (Int×Int) Unit Unit):=bg (_p (D<J)) (H (idx i D) λu=>H (bg (_p ((y? Z (T+(len u.b?)))>B)) (M O) (M (_p ((len u.i?)>12))):aY X') λw=>H (bg w (M O) (M (_p (((ByteArray.size u.name:Nat):Int)>40))):aY X') λC=>(bg C (M O) (H (jc u.b? (λz=>uo z)) λd=>M d):aY X').bind λI=>(bg I (M O) (H (gu u.i? (λz=>tZ z)) λL=>M L):aY X').bind λg=>bg g (M (.r ())) (M (.n (y? Z (T+(len u.b?)),y? Z (D+1))))) (M (.x ()))
def W1(B d:Int)(g:Sl bU)(J T:Int)(D:Z4):aY X':=H (bM (λq:Int×Int=>bk B g J D q.1 q.2) (d,T)) (Fw.elim (λe=>M (_p ((len D.a?)<=10))) (λe=>M U))
end lX
def lX(D:Z4)(B:Int):aY X':=lX.W1 B 0 D.a? (len D.a?) 0 D
open lX in
instance abi(D:Z4)(B:Int):Fc Sy cL (lX D B):=Fc.M 5 [enc D,.int Z B] (ck 2 2 D (bO 13 D.a? (dU 5 (λw=>(bF [Iv 1 B,Pv 2,Iv 5 w.1,Cv 9 D.a?,Iv 10 (len D.a?),Iv 11 w.2] [Xb 2 D])) (λC=>(0,(bF [Pv 2] [Xb 2 D]))) (λC=>(bF [Bv 4 U] [])) (λw=>bp 7 12 (bH 7 λu _=>lC 2 7 0 u (bO 7 u.b? (bP 10 5 [23] 28 (bp 10 23 (br 5) (bO 2 u.i? (br 2))) λd=>bP 1 5 [29] 34 (bp 1 29 (br 5) (br 5)) λI=>bP 1 4 [35] 39 (bp 1 35 (br 4) (bz (F:=qz 17 [] (λz=>uo z) me.rA u.b?) 2 λJ _=>br 1)) λL=>bP 1 4 [7,40] 44 (bp 1 40 (br 4) (bz (F:=nT 19 [] (λz=>tZ z) me.rA u.i?) 2 λg _=>br 1)) λQ=>bp 2 44 a_ a_))) a_) (λC=>bO 6 D.a? a_) (λC=>a_))))
namespace jG
def bk(B D:Int)(d:Sl T')(g:Int)(T J:Int)(r:(T'×Int×Int)->Ps):aY (Fw (Int×Int) Int Unit):=bg (_p (J<g)) (H (idx d J) λw=>H (r (w,y? Z (B-T),y? Z (D+1))) λu=>bg (_p ((y? Z (T+u))>=B)) (M (.r ())) (M (.n (y? Z (T+u),y? Z (J+1))))) (M (.x T))
def W1(B D g:Int)(J:Sl T')(T d:Int)(r:(T'×Int×Int)->Ps):Ps:=H (bM (λq:Int×Int=>bk B D J T q.1 q.2 r) (g,d)) (Fw.elim (λe=>M e) (λe=>M B))
end jG
def iU(J:T')(D B:Int)(r:(T'×Int×Int)->Ps):Ps:=bg (_p (B>40)) (M D) (jG.W1 D B 1 J.l (len J.l) 0 r)
open jG in
theorem Ea(r:(T'×Int×Int)->Ps)(a:iG Sy cL 6 (λz:T'×Int×Int=>[enc z.1,.int Z z.2.1,.int Z z.2.2]) (λr:Int=>[.int Z r]) r O)(J:T')(D B:Int):Le (H (iU J D B r) λr=>M [.int Z r]) (kM cL 6 [enc J,.int Z D,.int Z B]):=(Fc.M 6 [enc J,.int Z D,.int Z B] (ck 2 3 J (bp 10 11 a_ (kB 13 14 (Pred.mX J.l) (bO 0 J.l (dU 5 (λu=>(bF [Iv 1 D,Iv 2 B,Iv 7 u.1,Cv 14 J.l,Iv 15 (len J.l),Iv 16 u.2] [])) (λw=>(0,(bF [Iv 7 w] []))) (λw=>(bF [Iv 6 D] [])) (λu=>bp 7 17 (bH 7 λC _=>lC 2 9 0 C (bz (F:=Fc.of (C,y? Z (D-u.1),y? Z (B+1)) a) 11 λd _=>bp 11 31 a_ a_)) a_) (λw=>a_) (λw=>a_)))))):Fc Sy cL (iU J D B r)).F.h ()
def jG(J:T')(D B:Int):Ps:=dY (λr(z:T'×Int×Int)=>iU z.1 z.2.1 z.2.2 r) 100000 (J,D,B)
instance YP(J:T')(D B:Int):Fc Sy cL (jG J D B):=Fc.of (J,D,B) (iG.fix (A:=λz:T'×Int×Int=>[enc z.1,.int Z z.2.1,.int Z z.2.2]) (E:=λr:Int=>[.int Z r]) (sc:=O) (b:=(λr(z:T'×Int×Int)=>iU z.1 z.2.1 z.2.2 r)) p? (λ_ _=>rfl) (λr a z=>Ea r a z.1 z.2.1 z.2.2) 100000)
def qP(B:Int):aY X':=H (bg (_p (B>=65)) (M (_p (B<=90))) (M U):aY X') λu=>(bg u (M O) (H (bg (_p (B>=97)) (M (_p (B<=122))) (M U):aY X') λw=>M w):aY X').bind λz=>M z
instance WM(B:Int):Fc Sy cL (qP B):=Fc.M 81 [.int .u8 B] (bP 10 3 [5] 8 (bp 10 5 (br 3) (br 3)) λu=>bP 1 7 [0,9] 16 (bp 1 9 (br 7) (bP 3 3 [0,12] 15 (bp 3 12 (br 3) (br 3)) λw=>br 1)) λz=>a_)
def vV(B:Int):aY X':=H (bg (_p (B>=48)) (M (_p (B<=57))) (M U):aY X') λu=>M u
instance YD(B:Int):Fc Sy cL (vV B):=Fc.M 82 [.int .u8 B] (bP 10 3 [0,5] 8 (bp 10 5 (br 3) (br 3)) λu=>a_)
namespace iW
def bk(s0:U')(i3:Int):aY (Fw Int Unit Unit):=bg (_p (i3<((ByteArray.size s0:Nat):Int))) (H (mP s0 i3) λz=>H (qP z) λB=>(bg B (M U) (H (mP s0 i3) λC=>H (vV C) λD=>M (!D)):aY X').bind λd=>(bg d (H (mP s0 i3) λu=>M (!(u==95))) (M U):aY X').bind λw=>bg w (M (.r ())) (M (.n (y? Z (i3+1))))) (M (.x ()))
def W1(s0:U')(i3:Int):aY X':=H (bM (λq:Int=>bk s0 q) i3) (Fw.elim (λe=>M O) (λe=>M U))
end iW
def iW(s0:U'):aY X':=H (bg (_p (((ByteArray.size s0:Nat):Int)<1)) (M O) (M (_p (((ByteArray.size s0:Nat):Int)>16))):aY X') λu=>(bg u (M O) (H (mP s0 0) λw=>H (qP w) λz=>M (!z)):aY X').bind λB=>bg B (M U) (iW.W1 s0 1)
open iW in
instance aac(s0:U'):Fc Sy cL (iW s0):=Fc.M 54 [.str s0] (bP 12 4 [7] 11 (bp 12 7 (br 4) (br 4)) λC=>bP 1 5 [12] 17 (bp 1 12 (br 5) (Cx 1 Z λD _=>bz 0 λd _=>br 2)) λI=>bp 2 17 a_ (dU 11 (λw=>(bF [(0,.v (.str s0)),Iv 3 w] [])) (λu=>(0,(bF [] []))) (λu=>(bF [Bv 2 U] [])) (λw=>bp 10 21 (Cx 9 Z λJ _=>bz 0 λL _=>bP 2 6 [29] 35 (cM 2 29 (br 6) (Cx 2 Z λg _=>bz 0 λQ _=>br 2)) λS=>bP 1 5 [36] 41 (bp 1 36 (Cx 2 Z λz _=>br 2) (br 5)) λB=>bp 2 41 a_ a_) a_) (λu=>a_) (λu=>a_)))
def rV(B:Int):aY X':=H (bg (_p (B>=(-1073741824))) (M (_p (B<=1073741824))) (M U):aY X') λu=>M u
instance Yz(B:Int):Fc Sy cL (rV B):=Fc.M 55 [.int Z B] (bP 10 3 [0,5] 8 (bp 10 5 (br 3) (br 3)) λu=>a_)
namespace eS
def dG(J:Int)(B:bU)(D:Int):aY (Fw Int Unit Unit):=bg (_p (D<J)) (H (idx B.i? D) λu=>H (idx B.i? J) λw=>bg (S? u.name==S? w.name) (M (.r ())) (M (.n (y? Z (D+1))))) (M (.x ()))
def W3(D J:Int)(B:bU):aY (Fw Int Unit Int):=H (bM (λq:Int=>dG D B q) J) (Fw.elim (λe=>H (idx B.i? D) λu=>H (rV u.init_) λw=>bg w (M (.n (y? Z (D+1)))) (M (.r 2))) (λe=>M (.r 13)))
def bK(B:bU)(D:Int):aY (Fw Int Unit Int):=bg (_p (D<(len B.i?))) (H (idx B.i? D) λu=>H (iW u.name) λw=>bg w (W3 D 0 B) (M (.r 13))) (M (.x ()))
def W2(D:Int)(B:bU):Ps:=H (bM (λq:Int=>bK B q) D) (Fw.elim (λe=>bg (_p ((len B.b?)>64)) (M 5) (M 0)) (λe=>M e))
def bk(p1:Int)(B:Z4)(D:bU)(J:Int):aY (Fw Int Unit Unit):=bg (_p (J<p1)) (H (idx B.a? J) λu=>bg (S? u.name==S? D.name) (M (.r ())) (M (.n (y? Z (J+1))))) (M (.x ()))
def W1(p1 J:Int)(D:Z4)(B:bU):Ps:=H (bM (λq:Int=>bk p1 D B q) J) (Fw.elim (λe=>bg (_p ((len B.i?)>8)) (M 5) (eS.W2 0 B)) (λe=>M 13))
end eS
def eS(B:Z4)(p1:Int):Ps:=H (idx B.a? p1) λu=>H (iW u.name) λw=>bg w (eS.W1 p1 0 B u) (M 13)
open eS in
instance ZZ(J:Z4)(p1:Int):Fc Sy cL (eS J p1):=Fc.M 36 [enc J,.int Z p1] (ck 2 2 J (bH 8 λu _=>lC 2 5 0 u (bz 7 λI _=>cM 3 17 (dU 11 (λD=>(bF [Iv 1 p1,Pv 2,Pv 5,Iv 6 D] [Xb 2 J,Xb 5 u])) (λB=>(0,(bF [Pv 5] [Xb 5 u]))) (λB=>(bF [Iv 4 13] [])) (λD=>bp 9 20 (bH 10 λL _=>bp 7 31 a_ a_) a_) (λB=>bO 7 u.i? (bp 3 35 a_ (dU 11 (λw=>(bF [Pv 5,Iv 7 w] [Xb 5 u])) (λz=>(2,(bF [Pv 5] [Xb 5 u]))) (λz=>(bF [Iv 4 z] [])) (λw=>bO 7 u.i? (bp 3 40 (bH 11 λg _=>bz 2 λQ _=>cM 3 50 (dU 11 (λd=>(bF [Pv 5,Iv 7 w,Iv 8 d] [Xb 5 u])) (λC=>(4,(bF [Pv 5,Iv 7 w] [Xb 5 u]))) (λC=>(bF [Iv 4 13] [])) (λd=>bp 9 53 (bH 10 λS _=>bH 5 λT _=>bp 5 68 a_ a_) a_) (λC=>bH 7 λi _=>bz 2 λj _=>cM 3 76 a_ a_) (λC=>a_)) a_) a_)) (λz=>bO 7 u.b? (bp 3 80 a_ a_)) (λz=>a_)))) (λB=>a_)) a_)))
namespace eT
def dG(p1 k8:Int)(T:Z4)(D:WF)(J:Assign)(B:Int):aY (Fw Int Unit Unit):=bg (_p (B<k8)) (H (idx D.assign B) λu=>bg (u.var==J.var) (M (.r ())) (M (.n (y? Z (B+1))))) (M (.x ()))
def W3(p1 k8 B:Int)(D:Z4)(J:WF)(T:Assign):aY (Fw Int Unit Int):=H (bM (λq:Int=>dG p1 k8 D J T q) B) (Fw.elim (λe=>M (.n (y? Z (k8+1)))) (λe=>M (.r 8)))
def bK(p1:Int)(D:Z4)(B:WF)(k8:Int):aY (Fw Int Unit Int):=bg (_p (k8<(len B.assign))) (H (idx B.assign k8) λu=>(bg (_p (u.var<0)) (M O) (H (idx D.a? p1) λw=>M (_p (u.var>=(len w.i?)))):aY X').bind λz=>(bg z (M O) (H (rV u.value) λC=>M (!C)):aY X').bind λd=>bg d (M (.r 2)) (W3 p1 k8 0 D B u)) (M (.x ()))
def W2(p1 k8:Int)(B:Z4)(D:WF):Ps:=H (bM (λq:Int=>bK p1 B D q) k8) (Fw.elim (λe=>M 0) (λe=>M e))
def J1(p1 i2:Int)(D:Z4)(B:WF):Ps:=(bg (_p (B.time<0)) (M O) (M (_p (B.time>1099511627776))):aY X').bind λu=>(bg u (M O) ((bg (_p (i2>0)) ((idx D.a? p1).bind λw=>(idx w.b? (y? Z (i2-1))).bind λz=>M (_p (B.time<z.time))) (M U):aY X').bind λC=>M C):aY X').bind λd=>bg d (M 11) (bg (_p ((len B.assign)>8)) (M 5) (eT.W2 p1 0 D B))
theorem oZ(p1 i2:Int)(D:Z4)(B:WF):Le ((J1 p1 i2 D B).bind (λr=>M [.int Z r])) (bZ Sy cL (sC (tr Tx 37)) (uz (tb Tx 37) [1,1,1,0] [] (bF [Iv 1 p1,Iv 2 i2,Pv 3,Pv 7] [Xb 3 D,Xb 7 B]))):=bP 7 4 [71] 75 (bp 7 71 (br 4) (br 4)) λL=>bP 1 19 [2,76] 95 (bp 1 76 (br 19) (bP 3 15 [2,79] 94 (bp 3 79 (bH 5 λg _=>bH 4 λQ _=>br 4) (br 15)) λS=>br 1)) λT=>bp 2 95 a_ (bO 8 B.assign (bp 3 99 a_ (dU 11 (λu=>(bF [Iv 1 p1,Pv 3,Pv 7,Iv 8 u] [Xb 3 D,Xb 7 B])) (λw=>(0,(bF [] []))) (λw=>(bF [Iv 6 w] [])) (λu=>bO 7 B.assign (bp 3 104 (bH 10 λz _=>bP 12 11 [115] 126 (bp 12 115 (br 11) (bH 5 λI _=>bO 2 I.i? (br 2))) λi=>Gs 1 5 [130] (λC=>(bF [Iv 1 p1,Pv 3,Pv 7,Iv 8 u,Bv 104 O,Pv 9,Bv 132 C] [Xb 3 D,Xb 7 B,Xb 9 z])) (bp 1 127 (br 5) (c_ 2 λW _=>br 2)) λC=>bp 2 132 a_ (dU 10 (λJ=>(bF [Iv 1 p1,Pv 3,Pv 7,Iv 8 u,Pv 9,Iv 10 J] [Xb 3 D,Xb 7 B,Xb 9 z])) (λd=>(2,(bF [Iv 1 p1,Pv 3,Pv 7,Iv 8 u] [Xb 3 D,Xb 7 B]))) (λd=>(bF [Iv 6 8] [])) (λJ=>bp 9 135 (bH 10 λX _=>bp 7 146 a_ a_) a_) (λd=>a_) (λd=>a_))) a_)) (λw=>a_) (λw=>a_))))
end eT
def eT(B:Z4)(p1 i2:Int):Ps:=H (idx B.a? p1) λw=>H (idx w.b? i2) λu=>bg (u.kind==1) (H (bg (u.k?==0) (M (!(u.d?==0))) (M O):aY X') λz=>bg z (M 3) (eT.J1 p1 i2 B u)) (H (bg (u.kind==2) (M U) (M (!(u.kind==3))):aY X') λC=>H (bg C (M O) (M (_p (u.k?<0))):aY X') λD=>H (bg D (M O) (M (_p (u.k?>=(len B.a?)))):aY X') λd=>H (bg d (M O) (M (u.k?==p1)):aY X') λI=>H (bg I (M O) (M (_p (u.d?<0))):aY X') λJ=>H (bg J (M O) (M (_p (u.d?>199))):aY X') λL=>bg L (M 3) (eT.J1 p1 i2 B u))
open eT in
instance ZO(B:Z4)(p1 i2:Int):Fc Sy cL (eT B p1 i2):=Fc.M 37 [enc B,.int Z p1,.int Z i2] (ck 2 3 B (bH 8 λw _=>bH 3 λu _=>lC 2 7 0 u (bp 10 22 (bP 7 4 [26] 30 (cM 7 26 (br 4) (br 4)) λz=>bp 2 30 a_ (ye 4 (oZ p1 i2 B u))) (bP 7 4 [34] 38 (cM 7 34 (br 4) (br 4)) λC=>bP 1 4 [39] 43 (bp 1 39 (br 4) (br 4)) λD=>bP 1 7 [44] 51 (bp 1 44 (br 7) (bO 4 B.a? (br 2))) λd=>bP 1 5 [52] 57 (bp 1 52 (br 5) (br 5)) λI=>bP 1 4 [58] 62 (bp 1 58 (br 4) (br 4)) λJ=>bP 1 4 [63] 67 (bp 1 63 (br 4) (br 4)) λL=>bp 2 67 a_ (ye 4 (oZ p1 i2 B u))))))
def ya(D:Z4)(B:aZ):aY WF:=H (idx D.a? B.proc) λu=>H (idx u.b? (y? Z (B.index-1))) λw=>M w
instance abS(B:Z4)(D:aZ):Fc Sy cL (ya B D):=Fc.N 56 [enc B,enc D] (ck 2 2 B (bH 10 λw _=>bH 5 λu _=>lC 1 4 0 u a_))
namespace eE
def bK(B J p7:Int)(D:Z4)(T:aZ)(a:Int):aY (Fw Int Unit aZ):=H (idx D.a? p7) λw=>bg (_p (a<(len w.b?))) (H (idx D.a? p7) λz=>H (idx z.b? a) λu=>H (bg (u.kind==B) (M (u.d?==J)) (M U):aY X') λC=>bg C (M (.r (⟨p7,y? Z (a+1)⟩:aZ))) (M (.n (y? Z (a+1))))) (M (.x ()))
def W2(B T p7 a:Int)(D:Z4)(J:aZ):aY (Fw Int Unit aZ):=H (bM (λq:Int=>bK B T p7 D J q) a) (Fw.elim (λe=>M (.n (y? Z (p7+1)))) (λe=>M (.r e)))
def bk(B T:Int)(D:Z4)(J:aZ)(p7:Int):aY (Fw Int Unit aZ):=bg (_p (p7<(len D.a?))) (W2 B T p7 0 D J) (M (.x ()))
def W1(B T p7:Int)(D:Z4)(J:aZ):aY aZ:=H (bM (λq:Int=>bk B T D J q) p7) (Fw.elim (λe=>M ⟨0,0⟩) (λe=>M e))
end eE
def eE(D:Z4)(B J:Int):aY aZ:=eE.W1 B J 0 D (⟨0,0⟩:aZ)
open eE in
instance ZU(D:Z4)(B J:Int):Fc Sy cL (eE D B J):=Fc.M 57 [enc D,.int Z B,.int Z J] (ck 2 3 D (dU 11 (λu=>(bF [Iv 1 B,Iv 2 J,Pv 3,Pv 6,Iv 7 u] [Xb 3 D,Xb 6 (⟨0,0⟩:aZ)])) (λw=>(0,(bF [Pv 6] [Xb 6 (⟨0,0⟩:aZ)]))) (λw=>(bF [Pv 6] [Xb 6 w])) (λu=>bO 7 D.a? (bp 3 14 (dU 12 (λC=>(bF [Iv 1 B,Iv 2 J,Pv 3,Pv 6,Iv 7 u,Iv 8 C] [Xb 3 D,Xb 6 (⟨0,0⟩:aZ)])) (λz=>(2,(bF [Iv 1 B,Iv 2 J,Pv 3,Pv 6,Iv 7 u] [Xb 3 D,Xb 6 (⟨0,0⟩:aZ)]))) (λz=>(bF [Pv 6] [Xb 6 z])) (λC=>bH 8 λd _=>bO 2 d.b? (bp 3 25 (bH 10 λL _=>bH 3 λI _=>lC 2 9 0 I (bP 9 5 [9,41] 46 (bp 9 41 (br 5) (br 5)) λg=>bp 2 46 a_ a_)) a_)) (λz=>a_) (λz=>a_)) a_)) (λw=>a_) (λw=>a_)))
namespace jI
def bk(J:Z4)(T:aZ)(D:WF)(B:X')(g:Int):aY (Fw (X'×Int) Bool Empty):=H (idx J.a? D.k?) λw=>bg (_p (g<(len w.b?))) (H (idx J.a? D.k?) λz=>H (idx z.b? g) λu=>(bg B (M O) (H (bg (u.kind==2) (M (u.d?==D.d?)) (M U):aY X') λC=>H (bg C (M (u.k?==T.proc)) (M U):aY X') λd=>M d):aY X').bind λI=>M (.n (I,y? Z (g+1)))) (M (.x B))
def W1(B:X')(d:Int)(D:Z4)(J:aZ)(T:WF):Ps:=H (bM (λq:X'×Int=>bk D J T q.1 q.2) (B,d)) (Fw.elim (λe=>bg e (M 0) (M 7)) (λe=>k! e))
end jI
def jI(B:Z4)(D:aZ):Ps:=H (ya B D) λu=>bg (u.kind==1) (M 0) (H (eE B u.kind u.d?) λw=>bg (N_ w D) (bg (u.kind==3) (jI.W1 U 0 B D u) (M 0)) (M 8))
open jI in
instance WI(B:Z4)(D:aZ):Fc Sy cL (jI B D):=Fc.M 38 [enc B,enc D] (ck 2 2 B (bz 8 λw _=>lC 1 5 0 w (bp 10 14 a_ (c_ 11 λI _=>cM 4 22 (bp 11 25 (dZ 14 (λu=>(bF [Pv 2,Pv 3,Pv 5,Bv 6 u.1,Iv 7 u.2] [Xb 2 B,Xb 3 D,Xb 5 w])) (λz=>(0,(bF [Bv 6 z] []))) (λu=>bH 9 λC _=>bO 2 C.b? (bp 3 35 (bH 11 λJ _=>bH 3 λd _=>lC 2 8 0 d (bP 5 18 [8,49] 67 (bp 5 49 (br 18) (bP 4 6 [53] 59 (bp 4 53 (br 6) (br 6)) λL=>bP 1 6 [8,60] 66 (bp 1 60 (br 6) (br 6)) λg=>br 1)) λQ=>a_)) a_)) (λz=>cM 8 69 a_ a_)) a_) a_))))
namespace fc
def J4(B:Zg)(p5:Int)(D:Z4):aY (Fw ((Zg)×X') ((Zg)×X') Empty):=H (Sl.iF B p5) λu=>H (Sl.get B u) λw=>H (Sl.iF B p5) λz=>H (Sl.put B z (y? Z (w+1):Int)) λC=>M (.n (C,O))
def dG(p5:Int)(J:Z4)(B:Zg)(D:X'):aY (Fw ((Zg)×X') ((Zg)×X') Empty):=H (Sl.iF B p5) λd=>H (Sl.get B d) λI=>H (idx J.a? p5) λL=>bg (_p (I<(len L.b?))) (H (idx J.a? p5) λg=>H (Sl.iF B p5) λQ=>H (Sl.get B Q) λS=>H (idx g.b? S) λu=>bg (u.kind==3) (H (eE J 2 u.d?) λw=>H (Sl.iF B w.proc) λz=>H (Sl.get B z) λC=>bg (_p (C<w.index)) (M (.x (B,D))) (J4 B p5 J)) (J4 B p5 J)) (M (.x (B,D)))
def W3(D:Zg)(B:X')(p5:Int)(J:Z4):aY (Fw ((Zg)×X'×Int) ((Zg)×X') Empty):=H (bM (λq:(Zg)×X'=>dG p5 J q.1 q.2) (D,B)) (Fw.elim (λe=>M (.n (e.1,e.2,y? Z (p5+1)))) (λe=>k! e))
def bK(J:Z4)(D:Zg)(B:X')(p5:Int):aY (Fw ((Zg)×X'×Int) ((Zg)×X') Empty):=bg (_p (p5<(len J.a?))) (W3 D B p5 J) (M (.x (D,B)))
def W2(D:Zg)(B:X')(p5:Int)(J:Z4):aY (Fw Zg Zg Empty):=H (bM (λq:(Zg)×X'×Int=>bK J q.1 q.2.1 q.2.2) (D,B,p5)) (Fw.elim (λe=>bg e.2 (M (.n e.1)) (M (.x e.1))) (λe=>k! e))
def AM(B:Zg)(D:Z4)(J:Int):aY (Fw Int Unit Unit):=bg (_p (J<(len D.a?))) (H (Sl.iF B J) λu=>H (Sl.get B u) λw=>H (idx D.a? J) λz=>bg (_p (w<(len z.b?))) (M (.r ())) (M (.n (y? Z (J+1))))) (M (.x ()))
def W5(B:Zg)(J:Int)(D:Z4):aY X':=H (bM (λq:Int=>AM B D q) J) (Fw.elim (λe=>M O) (λe=>M U))
def bk(D:Z4)(B:Zg):aY (Fw Zg Zg Empty):=W2 B U 0 D
def W1(B:Zg)(D:Z4):aY X':=H (bM (λq:Zg=>bk D q) B) (Fw.elim (λe=>fc.W5 e 0 D) (λe=>k! e))
end fc
def fc(B:Z4):aY X':=H (nC (len B.a?) (0:Int)) λu=>fc.W1 u B
open fc in
instance Ug(B:Z4):Fc Sy cL (fc B):=Fc.M 39 [enc B] (ck 2 1 B (bO 7 B.a? (Gq 0 12 λb _=>dZ 7 (λj=>(bF [Pv 1,Ov 3] [Xb 1 B,Lb 2003 j])) (λD=>(0,(bF [Pv 1,Ov 3] [Xb 1 B,Lb 2003 D]))) (λj=>dZ 17 (λw=>(bF [Pv 1,Ov 3,Bv 4 w.2.1,Iv 5 w.2.2] [Xb 1 B,Lb 2003 w.1])) (λi=>(2,(bF [Pv 1,Ov 3,Bv 4 i.2] [Xb 1 B,Lb 2003 i.1]))) (λw=>bO 8 B.a? (bp 3 17 (dZ 8 (λI=>(bF [Pv 1,Ov 3,Bv 4 I.2,Iv 5 w.2.2] [Xb 1 B,Lb 2003 I.1])) (λJ=>(4,(bF [Pv 1,Ov 3,Bv 4 J.2,Iv 5 w.2.2] [Xb 1 B,Lb 2003 J.1]))) (λI=>js Z 7 2003 λc _=>qD 0 2003 0 1 U (λQ=>.int Z Q) λQ _=>bH 3 λo _=>bO 2 o.b? (bp 3 31 (bH 9 λd _=>js Z 4 2003 λe _=>qD 0 2003 0 1 U (λS=>.int Z S) λS _=>bH 0 λa _=>lC 2 6 0 a (bp 10 46 (bz 6 λf _=>js Z 9 2003 λg _=>qD 0 2003 0 1 U (λz=>.int Z z) λz _=>bp 5 58 a_ (tK 5 (js Z 4 2003 λT _=>qD 0 2003 0 1 U (λu=>.int Z u) λu _=>js Z 1 2003 λm _=>tL 0 2003 (.int Z (y? Z (u+1))) λt _=>a_))) (tK 5 (js Z 4 2003 λT _=>qD 0 2003 0 1 U (λu=>.int Z u) λu _=>js Z 1 2003 λm _=>tL 0 2003 (.int Z (y? Z (u+1))) λt _=>a_)))) a_)) (λJ=>a_)) a_)) (λi=>cM 8 66 a_ a_)) (λD=>dU 11 (λX=>(bF [Pv 1,Ov 3,Iv 8 X] [Xb 1 B,Lb 2003 D])) (λL=>(6,(bF [] []))) (λL=>(bF [Bv 2 U] [])) (λX=>bO 8 B.a? (bp 3 71 (js Z 9 2003 λh _=>qD 0 2003 0 1 U (λC=>.int Z C) λC _=>bH 3 λq _=>bO 2 q.b? (bp 3 85 a_ a_)) a_)) (λL=>a_) (λL=>a_)))))
namespace dS
def J1(B:Sl aZ)(D:Z4)(J:aZ):aY (Sl aZ):=H (ya D J) λu=>bg (u.kind==3) (H (eE D 2 u.d?) λw=>H (ec B (w:aZ)) λz=>M z) (M B)
end dS
def dS(D:Z4)(B:aZ):aY (Sl aZ):=bg (_p (B.index>1)) (dS.J1 (Sl.row [⟨B.proc,y? Z (B.index-1)⟩]:Sl aZ) D B) (dS.J1 (Sl.nil:Sl aZ) D B)
open dS in
theorem vn(D:Z4)(B:aZ):lU Sy cL 58 (λ_:Unit=>[enc D,enc B]) (λ_=>dS D B):=lU.mk' (oI (Tx 58)) (λ_=>ck 2 2 D (bp 17 9 (WG 10 17 18 .bG (⟨B.proc,y? Z (B.index-1)⟩:aZ) (tK 5 (bz 4 λu _=>lC 1 6 0 u (bp 10 24 (bz 6 λw _=>kO 1 2005 30 31 λz _=>a_) a_)))) (tK 5 (bz 4 λu _=>lC 1 6 0 u (bp 10 24 (bz 6 λw _=>kO 1 2005 30 31 λz _=>a_) a_)))))
namespace gU
def dG(T:Sl (Sl X'))(B:Sl aZ)(d:Z4)(D:Sl aZ)(J:Int):aY (Fw ((Sl aZ)×Int) (Sl aZ) Empty):=bg (_p (J<(len B))) (H (Sl.iF B J) λu=>H (Sl.get B u) λw=>H (ec D (w:aZ)) λz=>M (.n (z,y? Z (J+1)))) (M (.x D))
def W3(B:Sl (Sl X'))(D J:Sl aZ)(T:Int)(d:Z4):aY (Fw ((Sl (Sl X'))×(Sl aZ)) (Sl (Sl X')) Empty):=H (bM (λq:(Sl aZ)×Int=>dG B J d q.1 q.2) (D,T)) (Fw.elim (λe=>M (.n (B,e))) (λe=>k! e))
def bK(J:Z4)(D:Sl (Sl X'))(B:Sl aZ):aY (Fw ((Sl (Sl X'))×(Sl aZ)) (Sl (Sl X')) Empty):=bg (_p ((len B)>0)) ((Sl.iF B 0).bind λi=>(Sl.get B i).bind λu=>(nJ B (M 1) G).bind λd=>((idx D u.proc).bind Sl.whole).bind λC=>(Sl.iF C u.index).bind λI=>(Sl.get C I).bind λL=>(Sl.whole C).bind λw=>bg L (M (.n (qK D u.proc w,d))) (((idx (qK D u.proc w) u.proc).bind Sl.whole).bind λz=>(Sl.iF z u.index).bind λg=>(Sl.put z g (O:X')).bind λQ=>(Sl.whole Q).bind λS=>((dS J u).bind Sl.whole).bind λT=>W3 (qK (qK D u.proc w) u.proc S) d T 0 J)) (M (.x D))
def W2(D:Sl (Sl X'))(B:Sl aZ)(J:Z4):aY (Sl (Sl X')):=H (bM (λq:(Sl (Sl X'))×(Sl aZ)=>bK J q.1 q.2) (D,B)) (Fw.elim (λe=>M e) (λe=>k! e))
def bk(D:Z4)(J:aZ)(B:Sl (Sl X'))(p6:Int):aY (Fw ((Sl (Sl X'))×Int) (Sl (Sl X')) Empty):=bg (_p (p6<(len D.a?))) (H (idx D.a? p6) λu=>H (nC (y? Z ((len u.b?)+1)) (U:X')) λw=>H (Sl.whole w) λz=>H (ec B (z:Sl X')) λC=>M (.n (C,y? Z (p6+1)))) (M (.x B))
def W1(D:Sl (Sl X'))(p6:Int)(B:Z4)(J:aZ):aY (Sl (Sl X')):=(bM (λq:(Sl (Sl X'))×Int=>bk B J q.1 q.2) (D,p6)).bind (Fw.elim (λe=>((dS B J).bind Sl.whole).bind λu=>gU.W2 e u B) (λe=>k! e))
end gU
def gU(B:Z4)(D:aZ):aY (Sl (Sl X')):=gU.W1 (Sl.nil:Sl (Sl X')) 0 B D
open gU in
instance aag(B:Z4)(T:aZ):Fc Sy cL (gU B T):=Fc.N 40 [enc B,enc T] (ck 2 2 B (dZ 19 (λL=>(bF [Pv 2,Pv 3,Ov 5,Iv 6 L.2] [Xb 2 B,Xb 3 T,(2005,A6 L.1)])) (λS=>(0,(bF [Pv 2,Pv 3,Ov 5] [Xb 2 B,Xb 3 T,(2005,A6 S)]))) (λL=>bO 9 B.a? (bp 3 15 (bH 10 λX _=>bO 2 X.b? (Gq 1 27 λa _=>adK (α:=X') 0 28 27 (P7 0 28 27 aaV λb _=>ab4 0 2005 28 29 λc _=>a_))) a_)) (λS=>vo 6 32 (vn B T) () λY _=>dZ 9 (λw=>(bF [Pv 2,Ov 5,Ov 7] [Xb 2 B,(2005,A6 w.1),Lb 2007 w.2])) (λq=>(2,(bF [Ov 5] [(2005,A6 q)]))) (λw=>BL 8 2007 w.2 (bp 3 35 (js Z 7 2007 λd _=>qD 0 2007 0 2 O (λu=>.agg [.int Z u.proc,.int Z u.index]) λu _=>W_ 7 O U 2007 40 [.int Z 1] λe _=>Sr 5 2005 6041 (.c 8 0) λf o=>abl 5 2005 6041 Z o (aby 0 2005 6041 o (js Z 2 6041 λt _=>qD 0 6041 0 1 U (λD=>.bool D) λD _=>P7 1 2005 6041 o λm _=>bp 1 49 a_ (Sr 4 2005 6050 (.c 8 0) λg z=>abl 5 2005 6050 Z z (aby 0 2005 6050 z (js Z 2 6050 λh _=>tL 0 6050 (.bool O) λi _=>P7 1 2005 6050 z λI _=>vo 5 60 (vn B u) () λJ _=>dZ 14 (λQ=>(bF [Pv 2,Ov 5,Ov 7,Ov 9,Iv 10 Q.2] [Xb 2 B,(2005,A6 (qK (qK w.1 u.proc m) u.proc I)),Lb 2007 Q.1,Lb 2009 J])) (λW=>(4,(bF [Pv 2,Ov 5,Ov 7] [Xb 2 B,(2005,A6 (qK (qK w.1 u.proc m) u.proc I)),Lb 2007 W]))) (λQ=>BL 10 2009 J (bp 3 64 (js Z 9 2009 λj _=>qD 0 2009 0 2 O (λC=>.agg [.int Z C.proc,.int Z C.index]) λC _=>kO 1 2007 72 73 λk _=>a_) a_)) (λW=>a_))))))) a_)) (λq=>a_))))
namespace dD
def dG(p6:Int)(B:Z4)(J:aZ)(D:Int):aY (Fw Int Unit (Int×aZ)):=H (idx B.a? p6) λw=>bg (_p (D<(len w.b?))) (H (eT B p6 D) λu=>bg (u==0) (M (.n (y? Z (D+1)))) (M (.r (u,(⟨p6,y? Z (D+1)⟩:aZ))))) (M (.x ()))
def W3(p6 J:Int)(B:Z4)(D:aZ):aY (Fw Int Unit (Int×aZ)):=H (bM (λq:Int=>dG p6 B D q) J) (Fw.elim (λe=>M (.n (y? Z (p6+1)))) (λe=>M (.r (e.1,e.2))))
def AM(J:Int)(D:Z4)(T:aZ)(B:Int):aY (Fw Int Unit (Int×aZ)):=H (idx D.a? J) λw=>bg (_p (B<(len w.b?))) (H (jI D (⟨J,y? Z (B+1)⟩:aZ)) λu=>bg (u==0) (M (.n (y? Z (B+1)))) (M (.r (u,(⟨J,y? Z (B+1)⟩:aZ))))) (M (.x ()))
def W5(T B:Int)(D:Z4)(J:aZ):aY (Fw Int Unit (Int×aZ)):=H (bM (λq:Int=>AM T D J q) B) (Fw.elim (λe=>M (.n (y? Z (T+1)))) (λe=>M (.r (e.1,e.2))))
def OW(D:Int)(J:Z4)(T:aZ)(B:Int):aY (Fw Int Unit aZ):=H (idx J.a? D) λw=>bg (_p (B<(len w.b?))) (H (gU J (⟨D,y? Z (B+1)⟩:aZ)) λz=>H (idx z D) λC=>H (idx C (y? Z (B+1))) λu=>bg u (M (.r (⟨D,y? Z (B+1)⟩:aZ))) (M (.n (y? Z (B+1))))) (M (.x ()))
def W7(B D:Int)(J:Z4)(T:aZ):aY (Fw Int Unit aZ):=H (bM (λq:Int=>OW B J T q) D) (Fw.elim (λe=>M (.n (y? Z (B+1)))) (λe=>M (.r e)))
def Ow(B:Z4)(J:aZ)(D:Int):aY (Fw Int Unit aZ):=bg (_p (D<(len B.a?))) (W7 D 0 B J) (M (.x ()))
def W6(B:Int)(D:Z4)(J:aZ):aY (aZ×Int):=H (bM (λq:Int=>Ow D J q) B) (Fw.elim (λe=>M (⟨0,0⟩,0)) (λe=>M (e,10)))
def N2(B:Z4)(D:aZ)(J:Int):aY (Fw Int Unit (Int×aZ)):=bg (_p (J<(len B.a?))) (W5 J 0 B D) (M (.x ()))
def W4(J:Int)(B:Z4)(D:aZ):aY (aZ×Int):=H (bM (λq:Int=>N2 B D q) J) (Fw.elim (λe=>H (fc B) λu=>bg u (M (⟨0,0⟩,0)) (dD.W6 0 B D)) (λe=>M (e.2,e.1)))
def bK(B:Z4)(D:aZ)(p6:Int):aY (Fw Int Unit (Int×aZ)):=bg (_p (p6<(len B.a?))) (W3 p6 0 B D) (M (.x ()))
def W2(p6:Int)(B:Z4)(D:aZ):aY (aZ×Int):=H (bM (λq:Int=>bK B D q) p6) (Fw.elim (λe=>dD.W4 0 B D) (λe=>M (e.2,e.1)))
def bk(B:Z4)(D:aZ)(p4:Int):aY (Fw Int Unit (Int×aZ)):=bg (_p (p4<(len B.a?))) (H (eS B p4) λu=>bg (u==0) (M (.n (y? Z (p4+1)))) (M (.r (u,(⟨p4,0⟩:aZ))))) (M (.x ()))
def W1(p4:Int)(B:Z4)(D:aZ):aY (aZ×Int):=H (bM (λq:Int=>bk B D q) p4) (Fw.elim (λe=>dD.W2 0 B D) (λe=>M (e.2,e.1)))
end dD
def dD(B:Z4):aY (aZ×Int):=H (bg (_p ((len B.a?)<1)) (M O) (M (_p ((len B.a?)>8))):aY X') λu=>bg u (M (⟨0,0⟩,1)) (dD.W1 0 B (⟨0,0⟩:aZ))
open dD in
instance Zn(B:Z4):Fc Sy cL (dD B):=Fc.M 20 [enc B] (ck 2 1 B (bO 9 B.a? (bP 2 5 [20] 25 (bp 2 20 (br 5) (bO 2 B.a? (br 2))) λa=>bp 2 25 a_ (dU 11 (λQ=>(bF [Pv 1,Pv 2,Iv 4 Q] [Xb 1 B,Xb 2 (⟨0,0⟩:aZ)])) (λu=>(0,(bF [Pv 1,Pv 2] [Xb 1 B,Xb 2 (⟨0,0⟩:aZ)]))) (λu=>(bF [Pv 2,Iv 3 u.1] [Xb 2 u.2])) (λQ=>bO 7 B.a? (bp 3 31 (bz 9 λb _=>cM 9 38 a_ a_) a_)) (λu=>dU 10 (λi=>(bF [Pv 1,Pv 2,Iv 6 i] [Xb 1 B,Xb 2 (⟨0,0⟩:aZ)])) (λw=>(2,(bF [Pv 1,Pv 2] [Xb 1 B,Xb 2 (⟨0,0⟩:aZ)]))) (λw=>(bF [Pv 2,Iv 3 w.1] [Xb 2 w.2])) (λi=>bO 7 B.a? (bp 3 46 (dU 12 (λS=>(bF [Pv 1,Pv 2,Iv 6 i,Iv 7 S] [Xb 1 B,Xb 2 (⟨0,0⟩:aZ)])) (λz=>(4,(bF [Pv 1,Pv 2,Iv 6 i] [Xb 1 B,Xb 2 (⟨0,0⟩:aZ)]))) (λz=>(bF [Pv 2,Iv 3 z.1] [Xb 2 z.2])) (λS=>bH 8 λt _=>bO 2 t.b? (bp 3 57 (bz 10 λc _=>cM 9 65 a_ a_) a_)) (λz=>a_) (λz=>a_)) a_)) (λw=>dU 10 (λI=>(bF [Pv 1,Pv 2,Iv 9 I] [Xb 1 B,Xb 2 (⟨0,0⟩:aZ)])) (λC=>(6,(bF [Pv 1,Pv 2] [Xb 1 B,Xb 2 (⟨0,0⟩:aZ)]))) (λC=>(bF [Pv 2,Iv 3 C.1] [Xb 2 C.2])) (λI=>bO 7 B.a? (bp 3 75 (dU 12 (λT=>(bF [Pv 1,Pv 2,Iv 9 I,Iv 10 T] [Xb 1 B,Xb 2 (⟨0,0⟩:aZ)])) (λD=>(8,(bF [Pv 1,Pv 2,Iv 9 I] [Xb 1 B,Xb 2 (⟨0,0⟩:aZ)]))) (λD=>(bF [Pv 2,Iv 3 D.1] [Xb 2 D.2])) (λT=>bH 8 λX _=>bO 2 X.b? (bp 3 86 (bz 19 λd _=>cM 9 97 a_ a_) a_)) (λD=>a_) (λD=>a_)) a_)) (λC=>bz 6 λo _=>bp 2 101 a_ (dU 11 (λJ=>(bF [Pv 1,Pv 2,Iv 13 J] [Xb 1 B,Xb 2 (⟨0,0⟩:aZ)])) (λL=>(10,(bF [Pv 2] [Xb 2 (⟨0,0⟩:aZ)]))) (λL=>(bF [Pv 2,Iv 3 10] [Xb 2 L])) (λJ=>bO 7 B.a? (bp 3 107 (dU 12 (λm=>(bF [Pv 1,Pv 2,Iv 13 J,Iv 14 m] [Xb 1 B,Xb 2 (⟨0,0⟩:aZ)])) (λj=>(12,(bF [Pv 1,Pv 2,Iv 13 J] [Xb 1 B,Xb 2 (⟨0,0⟩:aZ)]))) (λj=>(bF [Pv 2,Iv 3 10] [Xb 2 j])) (λm=>bH 8 λq _=>bO 2 q.b? (bp 3 118 (bz 19 λe _=>bH 1 λf _=>bH 3 λg _=>bp 3 134 a_ a_) a_)) (λj=>a_) (λj=>a_)) a_)) (λL=>a_) (λL=>a_))) (λC=>a_)) (λw=>a_)) (λu=>a_)))))
def vu(B:Z4):aY X':=H (dD B) λu=>M (u.2==0)
instance XG(B:Z4):Fc Sy cL (vu B):=Fc.M 7 [enc B] (ck 2 1 B (bz 6 λu _=>a_))
def tS(D:Zg)(p1:Int):aY Zg:=H (pT (Sl.row []:Zg) D) λu=>H (Sl.iF u p1) λw=>H (Sl.get u w) λz=>H (Sl.iF u p1) λB=>H (Sl.put u B (y? Z (z+1):Int)) λC=>M C
instance ZR(B:Zg)(p1:Int):Fc Sy cL (tS B p1):=Fc.N 60 [enc B,.int Z p1] (Bj 9 6 8 λw _=>js Z 9 8 λz _=>qD 0 8 0 1 U (λu=>.int Z u) λu _=>js Z 1 8 λC _=>tL 0 8 (.int Z (y? Z (u+1))) λD _=>a_)
namespace pz
def bk(B:Zg)(D:Z4)(p5:Int):aY (Fw Int Unit Unit):=bg (_p (p5<(len B))) (H (idx B p5) λu=>(bg (_p (u<0)) (M O) (H (idx B p5) λw=>H (idx D.a? p5) λz=>M (_p (w>(len z.b?)))):aY X').bind λC=>bg C (M (.r ())) (M (.n (y? Z (p5+1))))) (M (.x ()))
def W1(B:Zg)(p5:Int)(D:Z4):aY X':=H (bM (λq:Int=>bk B D q) p5) (Fw.elim (λe=>M O) (λe=>M U))
end pz
def pz(D:Z4)(B:Zg):aY X':=bg ((len B)==(len D.a?)) (pz.W1 B 0 D) (M U)
open pz in
instance aau(D:Z4)(B:Zg):Fc Sy cL (pz D B):=Fc.M 83 [enc D,enc B] (ck 2 2 D (bO 7 B (bO 2 D.a? (cM 3 11 (dU 11 (λw=>(bF [Cv 1 B,Pv 2,Iv 5 w] [Xb 2 D])) (λu=>(0,(bF [] []))) (λu=>(bF [Bv 4 U] [])) (λw=>bO 6 B (bp 3 15 (bH 9 λC _=>bP 3 13 [23] 36 (bp 3 23 (br 13) (bH 2 λd _=>bH 4 λz _=>bO 2 z.b? (br 2))) λI=>bp 2 36 a_ a_) a_)) (λu=>a_) (λu=>a_)) a_))))
namespace eD
def bK(B:Zg)(p5:Int)(D:Z4)(J:Int):aY (Fw Int Unit Unit):=H (idx B p5) λz=>bg (_p (J<z)) (H (idx D.a? p5) λC=>H (idx C.b? J) λu=>bg (u.kind==3) (H (eE D 2 u.d?) λw=>H (idx B w.proc) λd=>bg (_p (w.index>d)) (M (.r ())) (M (.n (y? Z (J+1))))) (M (.n (y? Z (J+1))))) (M (.x ()))
def W2(B:Zg)(p5 J:Int)(D:Z4):aY (Fw Int Unit Unit):=H (bM (λq:Int=>bK B p5 D q) J) (Fw.elim (λe=>M (.n (y? Z (p5+1)))) (λe=>M (.r ())))
def bk(B:Zg)(D:Z4)(p5:Int):aY (Fw Int Unit Unit):=bg (_p (p5<(len B))) (W2 B p5 0 D) (M (.x ()))
def W1(B:Zg)(p5:Int)(D:Z4):aY X':=H (bM (λq:Int=>bk B D q) p5) (Fw.elim (λe=>M O) (λe=>M U))
end eD
def eD(D:Z4)(B:Zg):aY X':=eD.W1 B 0 D
open eD in
instance Q6(D:Z4)(B:Zg):Fc Sy cL (eD D B):=Fc.M 84 [enc D,enc B] (ck 2 2 D (dU 11 (λu=>(bF [Cv 1 B,Pv 2,Iv 5 u] [Xb 2 D])) (λw=>(0,(bF [] []))) (λw=>(bF [Bv 4 U] [])) (λu=>bO 6 B (bp 3 12 (dU 12 (λC=>(bF [Cv 1 B,Pv 2,Iv 5 u,Iv 6 C] [Xb 2 D])) (λz=>(2,(bF [Cv 1 B,Pv 2,Iv 5 u] [Xb 2 D]))) (λz=>(bF [Bv 4 U] [])) (λC=>bH 7 λI _=>bp 4 20 (bH 10 λJ _=>bH 3 λd _=>lC 2 7 0 d (bp 9 34 (bz 6 λL _=>bH 11 λg _=>bp 4 46 a_ a_) a_)) a_) (λz=>a_) (λz=>a_)) a_)) (λw=>a_) (λw=>a_)))
def z8(B:Z4)(D:Zg):aY X':=H (pz B D) λu=>(bg u (H (eD B D) λw=>M w) (M U):aY X').bind λz=>M z
instance abZ(B:Z4)(D:Zg):Fc Sy cL (z8 B D):=Fc.M 59 [enc B,enc D] (ck 2 2 B (bz 7 λu _=>bP 1 4 [1,2,8] 12 (bp 1 8 (bz 2 λw _=>br 1) (br 4)) λz=>a_))
namespace ku
def bk(J:Zg)(D:Z4)(B:Zb)(p6:Int):aY (Fw ((Zb)×Int) Zb Empty):=bg (_p (p6<(len J))) (H (idx J p6) λu=>H (idx D.a? p6) λw=>(bg (_p (u<(len w.b?))) (H (tS J p6) λz=>H (z8 D z) λC=>M C) (M U):aY X').bind λd=>bg d (H (tS J p6) λI=>H (ec B (I:Zg)) λL=>M (.n (L,y? Z (p6+1)))) (M (.n (B,y? Z (p6+1))))) (M (.x B))
def W1(J:Zg)(B:Zb)(p6:Int)(D:Z4):aY Zb:=H (bM (λq:(Zb)×Int=>bk J D q.1 q.2) (B,p6)) (Fw.elim (λe=>M e) (λe=>k! e))
end ku
def ku(B:Z4)(D:Zg):aY Zb:=ku.W1 D (Sl.nil:Zb) 0 B
open ku in
instance Z6(B:Z4)(D:Zg):Fc Sy cL (ku B D):=Fc.N 41 [enc B,enc D] (ck 2 2 B (dZ 17 (λu=>(bF [Cv 1 D,Pv 2,Ov 5,Iv 6 u.2] [Xb 2 B,Lb 2005 u.1])) (λw=>(0,(bF [Ov 5] [Lb 2005 w]))) (λu=>bO 7 D (bp 3 10 (bH 9 λI _=>bH 4 λC _=>bO 2 C.b? (Gs 2 6 [30,29] (λz=>(bF [Cv 1 D,Pv 2,Ov 5,Iv 6 u.2,Bv 10 O,Bv 31 z] [Xb 2 B,Lb 2005 u.1])) (bp 2 25 (bz 3 λJ _=>c_ 0 λL _=>br 1) (br 6)) λz=>bp 2 31 (bz 5 λd _=>tG 0 36 ([d]:aX Zg) (kO 0 2005 36 37 λg _=>a_)) a_)) a_)) (λw=>a_)))
namespace iH
def bk(B:Zg)(D i4:Int):aY (Fw (Int×Int) Int Empty):=bg (_p (i4<(len B))) (H (idx B i4) λu=>M (.n (y? Z (D+u),y? Z (i4+1)))) (M (.x D))
def W1(B:Zg)(D i4:Int):Ps:=H (bM (λq:Int×Int=>bk B q.1 q.2) (D,i4)) (Fw.elim (λe=>M e) (λe=>k! e))
end iH
def iH(B:Zg):Ps:=iH.W1 B 0 0
open iH in
instance Z7(B:Zg):Fc Sy cL (iH B):=Fc.M 85 [enc B] (dZ 18 (λu=>(bF [Cv 0 B,Iv 3 u.1,Iv 4 u.2] [])) (λw=>(0,(bF [Iv 3 w] []))) (λu=>bO 6 B (bp 3 8 (bH 9 λz _=>a_) a_)) (λw=>a_))
namespace iO
def bk(a0 D:Zg)(B:Int):aY (Fw Int Unit X'):=bg (_p (B<(len a0))) (H (idx a0 B) λu=>H (idx D B) λw=>bg (u==w) (M (.n (y? Z (B+1)))) (H (idx a0 B) λz=>H (idx D B) λC=>M (.r (_p (z<C))))) (M (.x ()))
def W1(a0 B:Zg)(D:Int):aY X':=H (bM (λq:Int=>bk a0 B q) D) (Fw.elim (λe=>M U) (λe=>M e))
end iO
def iO(a0 B:Zg):aY X':=H (iH a0) λu=>H (iH B) λw=>bg (u==w) (iO.W1 a0 B 0) (H (iH a0) λz=>H (iH B) λC=>M (_p (z<C)))
open iO in
instance WB(a0 B:Zg):Fc Sy cL (iO a0 B):=Fc.M 61 [enc a0,enc B] (bz 9 λz _=>bz 1 λC _=>cM 3 10 (dU 11 (λw=>(bF [Cv 0 a0,Cv 1 B,Iv 5 w] [])) (λu=>(0,(bF [] []))) (λu=>(bF [Bv 4 u] [])) (λw=>bO 6 a0 (bp 3 19 (bH 9 λD _=>bH 3 λd _=>cM 4 30 a_ (bH 5 λI _=>bH 3 λJ _=>a_)) a_)) (λu=>a_) (λu=>a_)) (bz 4 λL _=>bz 1 λg _=>a_))
namespace eX
def bk(a0 D:Zg)(B:Int):aY (Fw Int Unit Unit):=bg (_p (B<(len a0))) (H (idx a0 B) λu=>H (idx D B) λw=>bg (u==w) (M (.n (y? Z (B+1)))) (M (.r ()))) (M (.x ()))
def W1(a0 B:Zg)(D:Int):aY X':=H (bM (λq:Int=>bk a0 B q) D) (Fw.elim (λe=>M O) (λe=>M U))
end eX
def eX(a0 B:Zg):aY X':=bg ((len a0)==(len B)) (eX.W1 a0 B 0) (M U)
open eX in
instance TN(a0 B:Zg):Fc Sy cL (eX a0 B):=Fc.M 62 [enc a0,enc B] (bO 9 a0 (bO 1 B (cM 3 10 (dU 11 (λw=>(bF [Cv 0 a0,Cv 1 B,Iv 5 w] [])) (λu=>(0,(bF [] []))) (λu=>(bF [Bv 4 U] [])) (λw=>bO 6 a0 (bp 3 14 (bH 9 λz _=>bH 3 λC _=>cM 4 25 a_ a_) a_)) (λu=>a_) (λu=>a_)) a_)))
namespace iP
def bk(D:Zb)(J:Zg)(B:Int):aY (Fw Int Int Empty):=(bg (_p (B<(len D))) (H (idx D B) λu=>H (iO u J) λw=>M w) (M U):aY X').bind λz=>bg z (M (.n (y? Z (B+1)))) (M (.x B))
def W1(B:Zb)(J:Zg)(D:Int):aY Zb:=(bM (λq:Int=>bk B J q) D).bind (Fw.elim (λe=>(bg (_p (e<(len B))) ((idx B e).bind λz=>(eX z J).bind λC=>M C) (M U):aY X').bind λd=>bg d (M B) ((iw B G (M e)).bind λI=>(pT (Sl.row []:Zb) I).bind λL=>(ec L (J:Zg)).bind λg=>(iw B (M e) G).bind λu=>(pT g u).bind λw=>M w)) (λe=>k! e))
end iP
def iP(B:Zb)(D:Zg):aY Zb:=iP.W1 B D 0
open iP in
instance XE(B:Zb)(D:Zg):Fc Sy cL (iP B D):=Fc.N 42 [enc B,enc D] (dZ 13 (λw=>(bF [Cv 0 B,Cv 1 D,Iv 5 w] [])) (λu=>(0,(bF [Cv 0 B,Cv 1 D,Iv 5 u] []))) (λw=>bO 6 B (bP 2 7 [11] 18 (bp 2 11 (bH 2 λd _=>bz 2 λI _=>br 1) (br 7)) λJ=>bp 2 18 a_ a_)) (λu=>bO 7 B (bP 2 7 [25] 32 (bp 2 25 (bH 2 λL _=>bz 2 λg _=>br 1) (br 7)) λQ=>bp 2 32 a_ (tG 5 34 ([]:aX Zg) (Fx 2 false true [.int .i64 u] λS _=>Bj 0 34 38 λT _=>tG 7 41 ([D]:aX Zg) (kO 0 38 41 42 λi _=>Fx 8 true false [.int .i64 u] λz _=>Bj 0 42 47 λC _=>a_))))))
namespace fm
def dG(D J:Zb)(g:Int)(T:Zb)(d:Z4)(B:Zb)(k9:Int):aY (Fw ((Zb)×Int) Zb Empty):=bg (_p (k9<(len T))) (H (idx T k9) λu=>H (iP B u) λw=>M (.n (w,y? Z (k9+1)))) (M (.x B))
def W3(B J D:Zb)(d:Int)(g:Zb)(k9:Int)(T:Z4):aY (Fw ((Zb)×Int) Zb Empty):=H (bM (λq:(Zb)×Int=>dG B J d g T q.1 q.2) (D,k9)) (Fw.elim (λe=>M (.n (e,y? Z (d+1)))) (λe=>k! e))
def bK(B J:Zb)(T:Z4)(D:Zb)(d:Int):aY (Fw ((Zb)×Int) Zb Empty):=bg (_p (d<(len B))) (H (idx B d) λu=>H (ku T u) λw=>W3 B J D d w 0 T) (M (.x D))
def W2(B D J:Zb)(d:Int)(T:Z4):aY (Fw ((Zb)×(Zb)) Zb Unit):=H (bM (λq:(Zb)×Int=>bK B D T q.1 q.2) (J,d)) (Fw.elim (λe=>M (.n (e,D))) (λe=>k! e))
def bk(J:Z4)(B D:Zb):aY (Fw ((Zb)×(Zb)) Zb Unit):=bg (_p ((len B)>0)) (H (pT D B) λu=>bg (_p ((len u)>5000)) (M (.r ())) (W2 B u (Sl.nil:Zb) 0 J)) (M (.x D))
def W1(B D:Zb)(J:Z4):aY ((Zb)×X'):=H (bM (λq:(Zb)×(Zb)=>bk J q.1 q.2) (B,D)) (Fw.elim (λe=>M (e,O)) (λe=>M ((Sl.nil:Zb),U)))
end fm
def fm(B:Z4):aY ((Zb)×X'):=H (nC (len B.a?) (0:Int)) λu=>fm.W1 (Sl.row [u]:Zb) (Sl.nil:Zb) B
open fm in
instance Z_(B:Z4):Fc Sy cL (fm B):=Fc.N 21 [enc B] (ck 2 1 B (bO 8 B.a? (Gq 0 13 λL _=>tG 1 14 ([L]:aX Zg) (dU 13 (λu=>(bF [Pv 1,Cv 4 u.1,Ov 5] [Xb 1 B,Lb 2005 u.2])) (λC=>(0,(bF [Ov 5] [Lb 2005 C]))) (λC=>(bF [Ov 2,Bv 3 U] [Lb 2002 (Sl.nil:Zb)])) (λu=>bO 7 u.1 (bp 3 17 (Bj 8 2005 20 λw _=>BL 7 20 w (bp 3 23 a_ (dZ 18 (λz=>(bF [Pv 1,Cv 4 u.1,Ov 5,Cv 6 z.1,Iv 7 z.2] [Xb 1 B,Lb 2005 w])) (λd=>(2,(bF [Pv 1,Ov 5,Cv 6 d] [Xb 1 B,Lb 2005 w]))) (λz=>bO 8 u.1 (bp 3 27 (bH 10 λg _=>bz 1 λI _=>dZ 12 (λD=>(bF [Pv 1,Cv 4 u.1,Ov 5,Cv 6 D.1,Iv 7 z.2,Cv 8 I,Iv 9 D.2] [Xb 1 B,Lb 2005 w])) (λJ=>(4,(bF [Pv 1,Cv 4 u.1,Ov 5,Cv 6 J,Iv 7 z.2] [Xb 1 B,Lb 2005 w]))) (λD=>bO 8 I (bp 3 39 (bH 9 λQ _=>bz 1 λS _=>a_) a_)) (λJ=>a_)) a_)) (λd=>a_)))) a_)) (λC=>a_) (λC=>a_)))))
def vA(B:Z4):aY X':=H (fm B) λu=>H (bg u.2 (M (_p ((len u.1)<=400))) (M U):aY X') λw=>M w
instance Y2(B:Z4):Fc Sy cL (vA B):=Fc.M 8 [enc B] (ck 2 1 B (bz 6 λu _=>bP 11 4 [3,11] 15 (bp 11 11 (bO 1 u.1 (br 2)) (br 4)) λw=>a_))
def pN(J D B:Int):aY X':=H (bg (_p (J>=D)) (M (_p (J<=B))) (M U):aY X') λu=>M u
instance acr(J D B:Int):Fc Sy cL (pN J D B):=Fc.M 106 [.int Z J,.int Z D,.int Z B] (bP 11 4 [0,2,10] 14 (bp 11 10 (br 4) (br 4)) λu=>a_)
def su(B:Int):aY X':=H (bg (_p (B>=97)) (M (_p (B<=122))) (M U):aY X') λu=>(bg u (M O) (H (bg (_p (B>=65)) (M (_p (B<=90))) (M U):aY X') λw=>M w):aY X').bind λz=>M z
instance Y8(B:Int):Fc Sy cL (su B):=Fc.M 166 [.int .u8 B] (bP 10 3 [5] 8 (bp 10 5 (br 3) (br 3)) λu=>bP 1 7 [0,9] 16 (bp 1 9 (br 7) (bP 3 3 [0,12] 15 (bp 3 12 (br 3) (br 3)) λw=>br 1)) λz=>a_)
def xz(B:Int):aY X':=H (bg (_p (B>=48)) (M (_p (B<=57))) (M U):aY X') λu=>M u
instance Z3(B:Int):Fc Sy cL (xz B):=Fc.M 167 [.int .u8 B] (bP 10 3 [0,5] 8 (bp 10 5 (br 3) (br 3)) λu=>a_)
namespace iz
def bk(s0:U')(D:Int)(B:Int):aY (Fw Int Unit Unit):=bg (_p (B<D)) (H (mP s0 B) λz=>H (su z) λC=>(bg C (M U) (H (mP s0 B) λd=>H (xz d) λI=>M (!I)):aY X').bind λJ=>(bg J (H (mP s0 B) λu=>M (!(u==95))) (M U):aY X').bind λw=>bg w (M (.r ())) (M (.n (y? Z (B+1))))) (M (.x ()))
def W1(s0:U')(B D:Int):aY X':=H (bM (λq:Int=>bk s0 B q) D) (Fw.elim (λe=>M O) (λe=>M U))
end iz
def iz(s0:U'):aY X':=H (bg (S? s0==S? ByteArray.empty) (M O) (M (_p (((ByteArray.size s0:Nat):Int)>16))):aY X') λu=>(bg u (M O) (H (mP s0 0) λw=>H (su w) λz=>M (!z)):aY X').bind λB=>bg B (M U) (iz.W1 s0 ((ByteArray.size s0:Nat):Int) 0)
open iz in
instance Zj(s0:U'):Fc Sy cL (iz s0):=Fc.M 137 [.str s0] (bP 11 4 [6] 10 (bp 11 6 (br 4) (br 4)) λC=>bP 1 5 [11] 16 (bp 1 11 (br 5) (Cx 1 Z λD _=>bz 0 λd _=>br 2)) λI=>bp 2 16 a_ (dU 13 (λw=>(bF [(0,.v (.str s0)),Iv 18 ((ByteArray.size s0:Nat):Int),Iv 19 w] [])) (λu=>(0,(bF [] []))) (λu=>(bF [Bv 2 U] [])) (λw=>bp 7 20 (Cx 15 Z λJ _=>bz 0 λL _=>bP 2 6 [27] 33 (cM 2 27 (br 6) (Cx 2 Z λg _=>bz 0 λQ _=>br 2)) λS=>bP 1 5 [3,34] 39 (bp 1 34 (Cx 2 Z λz _=>br 2) (br 5)) λB=>bp 2 39 a_ a_) a_) (λu=>a_) (λu=>a_)))
def kY(B D:bU):aY X':=M (S? B.name==S? D.name)
instance M5(B D:bU):Fc Sy cL (kY B D):=Fc.M 139 [enc B,.fptr (cells D)] (ck 2 2 B a_)
namespace ig
def bk(s0:Sl bU)(D:Int)(B:Int)(p1:bU->aY X'):aY (Fw Int Unit Int):=bg (_p (B<D)) (H (idx s0 B) λu=>H (p1 u) λw=>bg w (M (.r B)) (M (.n (y? Z (B+1))))) (M (.x ()))
def W1(s0:Sl bU)(B D:Int)(p1:bU->aY X'):Ps:=H (bM (λq:Int=>bk s0 B q p1) D) (Fw.elim (λe=>M (-1)) (λe=>M e))
end ig
def ig(s0:Sl bU)(p1:bU->aY X'):Ps:=ig.W1 s0 (len s0) 0 p1
open ig in
abbrev zJ(g1:FuncId)(e1:aX V)(p1:bU->aY Bool)(a:me Sy cL g1 [] e1 (λz:bU=>[enc z]) (λr:Bool=>[.bool r]) p1 O)(s0:Sl bU):Fc Sy cL (ig s0 p1):=Fc.M 168 [enc s0,.clo g1 [] e1] (bO 9 s0 (dU 5 (λw=>(bF [Cv 0 s0,(1,.v (.clo g1 [] e1)),Iv 7 (len s0),Iv 8 w] [])) (λu=>(0,(bF [] []))) (λu=>(bF [Iv 4 u] [])) (λw=>bp 7 9 (bH 16 λB _=>yJ 1 a.f B λC _=>bp 2 16 a_ a_) a_) (λu=>a_) (λu=>a_)))
def jv(s0:Sl bU)(p1:bU->aY X'):aY X':=H (ig s0 p1) λu=>M (_p (u>=0))
abbrev yf(g1:FuncId)(e1:aX V)(p1:bU->aY Bool)(a:me Sy cL g1 [] e1 (λz:bU=>[enc z]) (λr:Bool=>[.bool r]) p1 O)(s0:Sl bU):Fc Sy cL (jv s0 p1):=Fc.M 138 [enc s0,.clo g1 [] e1] (bz (F:=zJ g1 e1 p1 a s0) 9 λu _=>a_)
def kV(B D:Var):aY X':=M (S? B.name==S? D.name)
instance M0(B D:Var):Fc Sy cL (kV B D):=Fc.M 140 [enc B,.fptr (cells D)] (a_)
namespace fE
def bk(D:Sl Var)(J:Int)(T:bU)(B:Int):aY (Fw Int Unit Int):=bg (_p (B<J)) (H (idx D B) λu=>H (iz u.name) λd=>(bg d (H (iw T.i? G (M B)) λI=>H (gu I (λz=>kV z u)) λL=>M L) (M O):aY X').bind λw=>bg w (M (.r 13)) (H (pN u.init_ (-1073741824) 1073741824) λC=>bg C (M (.n (y? Z (B+1)))) (M (.r 2)))) (M (.x ()))
def W1(D:Sl Var)(J T:Int)(B:bU):Ps:=H (bM (λq:Int=>bk D J B q) T) (Fw.elim (λe=>bg (_p ((len B.b?)>64)) (M 5) (M 0)) (λe=>M e))
end fE
def fE(J:Z4)(p1:Int):Ps:=H (idx J.a? p1) λu=>H (iz u.name) λw=>(bg w (H (iw J.a? G (M p1)) λB=>H (jv B (λz=>kY z u)) λC=>M C) (M O):aY X').bind λD=>bg D (M 13) (bg (_p ((len u.i?)>8)) (M 5) (fE.W1 u.i? (len u.i?) 0 u))
open fE in
instance Qm(D:Z4)(p1:Int):Fc Sy cL (fE D p1):=Fc.M 107 [enc D,.int Z p1] (ck 2 2 D (bH 8 λu _=>lC 2 5 0 u (bz 8 λg _=>bP 2 7 [1,2,18] 25 (cM 2 18 (Fx 3 U O [.int Z p1] λd _=>c_ (F:=yf 139 [.fptr (cells u)] (λz=>kY z u) me.rA d) 1 λQ _=>br 1) (br 7)) λS=>bp 3 13 a_ (bO 5 u.i? (bp 4 26 a_ (bO 9 u.i? (dU 5 (λB=>(bF [Pv 5,Cv 32 u.i?,Iv 33 (len u.i?),Iv 34 B] [Xb 5 u])) (λw=>(1,(bF [Pv 5] [Xb 5 u]))) (λw=>(bF [Iv 4 w] [])) (λB=>bp 7 35 (bH 8 λC _=>bz 11 λT _=>bP 2 7 [6,44] 51 (cM 2 44 (Fx 3 U O [.int Z B] λI _=>c_ (F:=nT 140 [.fptr (cells C)] (λz=>kV z C) me.rA I) 1 λi _=>br 1) (br 7)) λJ=>bp 3 39 a_ (bz 5 λL _=>cM 4 52 a_ a_)) a_) (λw=>bO 7 u.b? (bp 3 61 a_ a_)) (λw=>a_))))))))
def ko(B:Z4):aY Z4:=M B
instance Y4(B:Z4):Fc Sy cL (ko B):=Fc.NE (λr:Z4=>[(.clo 141 [] [.fptr (cells r)])]) 108 [enc B] (ck 2 1 B a_)
namespace jH
def J1(p1:Int)(D:X')(J:Z4)(B:WF):aY X':=bg D (H (pN B.k? 0 (y? Z ((len J.a?)-1))) λu=>H (bg u (M (!(B.k?==p1))) (M U):aY X') λw=>(bg w (H (pN B.d? 0 199) λz=>M z) (M U):aY X').bind λC=>M C) (M U)
end jH
def jH(B:Z4)(p1:Int)(e2:WF):aY X':=bg (e2.kind==1) (H (bg (e2.k?==0) (M (e2.d?==0)) (M U):aY X') λu=>M u) (bg (e2.kind==2) (jH.J1 p1 O B e2) (jH.J1 p1 (e2.kind==3) B e2))
open jH in
instance XU(B:Z4)(p1:Int)(e2:WF):Fc Sy cL (jH B p1 e2):=Fc.M 142 [enc B,.int Z p1,enc e2] (ck 2 3 B (ck 0 5 e2 (bp 17 9 (bP 7 4 [5,14] 18 (bp 7 14 (br 4) (br 4)) λD=>a_) (bp 8 19 (tK 4 (bp 0 19 (bO 7 B.a? (bz 1 λu _=>bP 1 5 [1,29] 34 (bp 1 29 (br 5) (br 5)) λw=>bP 1 4 [5,35] 39 (bp 1 35 (bz 2 λz _=>br 1) (br 4)) λC=>a_)) a_)) (tK 7 (bp 0 19 (bO 7 B.a? (bz 1 λu _=>bP 1 5 [1,29] 34 (bp 1 29 (br 5) (br 5)) λw=>bP 1 4 [5,35] 39 (bp 1 35 (bz 2 λz _=>br 1) (br 4)) λC=>a_)) a_))))))
def mz(B D:Assign):aY X':=M (B.var==D.var)
instance OJ(B D:Assign):Fc Sy cL (mz B D):=Fc.M 144 [enc B,.fptr (cells D)] (a_)
namespace gw
def bk(s0:Sl Assign)(D:Int)(B:Int)(p1:Assign->aY X'):aY (Fw Int Unit Int):=bg (_p (B<D)) (H (idx s0 B) λu=>H (p1 u) λw=>bg w (M (.r B)) (M (.n (y? Z (B+1))))) (M (.x ()))
def W1(s0:Sl Assign)(B D:Int)(p1:Assign->aY X'):Ps:=H (bM (λq:Int=>bk s0 B q p1) D) (Fw.elim (λe=>M (-1)) (λe=>M e))
end gw
def gw(s0:Sl Assign)(p1:Assign->aY X'):Ps:=gw.W1 s0 (len s0) 0 p1
open gw in
abbrev yH(g1:FuncId)(e1:aX V)(p1:Assign->aY Bool)(a:me Sy cL g1 [] e1 (λz:Assign=>[enc z]) (λr:Bool=>[.bool r]) p1 O)(s0:Sl Assign):Fc Sy cL (gw s0 p1):=Fc.M 169 [enc s0,.clo g1 [] e1] (bO 9 s0 (dU 5 (λw=>(bF [Cv 0 s0,(1,.v (.clo g1 [] e1)),Iv 7 (len s0),Iv 8 w] [])) (λu=>(0,(bF [] []))) (λu=>(bF [Iv 4 u] [])) (λw=>bp 7 9 (bH 16 λB _=>yJ 1 a.f B λC _=>bp 2 16 a_ a_) a_) (λu=>a_) (λu=>a_)))
def iQ(s0:Sl Assign)(p1:Assign->aY X'):aY X':=H (gw s0 p1) λu=>M (_p (u>=0))
abbrev wQ(g1:FuncId)(e1:aX V)(p1:Assign->aY Bool)(a:me Sy cL g1 [] e1 (λz:Assign=>[enc z]) (λr:Bool=>[.bool r]) p1 O)(s0:Sl Assign):Fc Sy cL (iQ s0 p1):=Fc.M 143 [enc s0,.clo g1 [] e1] (bz (F:=yH g1 e1 p1 a s0) 9 λu _=>a_)
namespace en
def bK(D:Sl Assign)(J:Int)(T:WF)(g:bU)(B:Int):aY (Fw Int Unit Int):=bg (_p (B<J)) (H (idx D B) λu=>H (pN u.var 0 (y? Z ((len g.i?)-1))) λd=>(bg d (H (pN u.value (-1073741824) 1073741824) λI=>M (!I)) (M O):aY X').bind λL=>bg L (M (.r 2)) (H (iw T.assign G (M B)) λw=>H (iQ w (λz=>mz z u)) λC=>bg C (M (.r 8)) (M (.n (y? Z (B+1)))))) (M (.x ()))
def W2(B:Sl Assign)(D J:Int)(T:WF)(d:bU):Ps:=H (bM (λq:Int=>bK B D T d q) J) (Fw.elim (λe=>M 0) (λe=>M e))
def J1(D:Int)(T:Z4)(J:aZ)(B:WF)(d:bU):Ps:=H (jH T J.proc B) λu=>bg u (H (pN B.time 0 1099511627776) λw=>H (bg w (M (_p (B.time<D))) (M O):aY X') λz=>bg z (M 11) (bg (_p ((len B.assign)>8)) (M 5) (en.W2 B.assign (len B.assign) 0 B d))) (M 3)
theorem oZ(D:Int)(i:Z4)(T:aZ)(B:WF)(J:bU):Le (H (J1 D i T B J) (λr=>M [.int Z r])) (bZ Sy cL (sC (tr Tx 109)) (uz (tb Tx 109) [1,1,1,1,0] [] (bF [Pv 3,Pv 4,Pv 5,Pv 7,Iv 8 D] [Xb 3 i,Xb 4 T,Xb 5 B,Xb 7 J]))):=bz 8 λL _=>cM 4 28 (bz 5 λg _=>bP 2 5 [8,40] 45 (cM 2 40 (br 5) (br 5)) λQ=>bp 3 35 a_ (bO 5 B.assign (bp 4 46 a_ (bO 9 B.assign (dU 5 (λw=>(bF [Pv 5,Pv 7,Cv 52 B.assign,Iv 53 (len B.assign),Iv 54 w] [Xb 5 B,Xb 7 J])) (λu=>(1,(bF [] []))) (λu=>(bF [Iv 6 u] [])) (λw=>bp 7 55 (bH 8 λC _=>bO 13 J.i? (bz 1 λS _=>bP 2 5 [68] 73 (cM 2 68 (bz 2 λj _=>br 2) (br 5)) λX=>bp 3 59 a_ (Fx 6 U O [.int Z w] λd _=>c_ (F:=wQ 144 [.fptr (cells C)] (λz=>mz z C) me.rA d) 1 λI _=>bp 3 74 a_ a_))) a_) (λu=>a_) (λu=>a_)))))) a_
end en
def en(D:Z4)(B:aZ)(e2:WF):Ps:=H (idx D.a? B.proc) λu=>bg (_p (B.index>1)) (H (idx u.b? (y? Z (B.index-2))) λw=>en.J1 w.time D B e2 u) (en.J1 0 D B e2 u)
open en in
instance SH(D:Z4)(B:aZ)(e2:WF):Fc Sy cL (en D B e2):=Fc.M 109 [enc D,enc B,enc e2] (ck 2 3 D (ck 1 5 e2 (bH 9 λu _=>lC 2 7 0 u (bp 15 19 (bH 7 λw _=>ye 6 (oZ w.time D B e2 u)) (ye 4 (oZ 0 D B e2 u))))))
def s_(e0:WF)(B D:Int):aY X':=H (bg (e0.kind==2) (M (e0.d?==B)) (M U):aY X') λu=>H (bg u (M (e0.k?==D)) (M U):aY X') λw=>M w
instance TX(e0:WF)(B D:Int):Fc Sy cL (s_ e0 B D):=Fc.M 170 [enc e0,.fptr (cells B),.fptr (cells D)] (ck 2 3 e0 (bP 9 5 [1,8] 13 (bp 9 8 (br 5) (br 5)) λu=>bP 1 5 [2,3,14] 19 (bp 1 14 (br 5) (br 5)) λw=>a_))
def w9(D:Z4)(p1 J B:Int):aY X':=H (idx D.a? p1) λu=>H (jc u.b? (λz=>s_ z J B)) λw=>M w
instance ZX(J:Z4)(p1 D B:Int):Fc Sy cL (w9 J p1 D B):=Fc.M 145 [enc J,.int Z p1,.int Z D,.int Z B] (ck 2 4 J (bH 10 λu _=>c_ (F:=qz 170 [.fptr (cells D),.fptr (cells B)] (λz=>s_ z D B) me.rA u.b?) 3 λw _=>a_))
namespace fG
def k_(D J:Z4)(T:aY (bQ 200 bu))(g:aZ)(i:Int)(x:aZ×WF)(B:bQ 200 bu):aY (Fw (bQ 200 bu) Empty (aZ×Int×(bQ 200 bu))):=bg (x.2.kind==2) (H (bQ.at B x.2.d?) λu=>bg (_p (u.from_.index>0)) (M (.r (x.1,8,B))) (H (bQ.at B x.2.d?) λw=>M (.n (bQ.set B x.2.d? (⟨x.1,w.to_⟩:bu))))) (bg (x.2.kind==3) (H (bQ.at B x.2.d?) λz=>bg (_p (z.to_.index>0)) (M (.r (x.1,8,B))) (H (w9 J x.2.k? x.2.d? x.1.proc) λC=>bg C (H (bQ.at B x.2.d?) λd=>M (.n (bQ.set B x.2.d? (⟨d.from_,x.1⟩:bu)))) (M (.r (x.1,7,B))))) (M (.n B)))
def E1(B J:Z4)(T:aY (bQ 200 bu))(d:aZ)(g:Int)(D:bQ 200 bu):aY ((aY (bQ 200 bu))×aZ×Int):=H (kF B) λu=>H (mw (λ(x:aZ×WF)(q:bQ 200 bu)=>k_ B J T d g x q) u D) (Fw.sN (λq=>M (M q,⟨0,0⟩,0)) (λe=>k! e) (λe=>M ((G:aY (bQ 200 bu)),e.1,e.2.1)))
end fG
def fG(B:Z4):aY ((aY (bQ 200 bu))×aZ×Int):=H (ko B) λu=>fG.E1 u B (G:aY (bQ 200 bu)) (⟨0,0⟩:aZ) 0 (bQ.Jd 200 (⟨⟨0,0⟩,⟨0,0⟩⟩:bu))
open fG in
instance PZ(D:Z4):Fc Sy cL (fG D):=Fc.N 110 [enc D] (ck 2 1 D (ck 8 10 (bQ.Jd 200 (⟨⟨0,0⟩,⟨0,0⟩⟩:bu)) (Bal 0 5 (bF [Pv 1,Pv 2,Pv 3,Pv 4,Pv 10] [Xb 1 D,(2,.box [cv (G:aY (bQ 200 bu))]),Xb 3 (⟨0,0⟩:aZ),(4,.box [iv 0]),Xb 10 (bQ.Jd 200 (⟨⟨0,0⟩,⟨0,0⟩⟩:bu))]) [cv (G:aY (bQ 200 bu))] (by simp only[bF,Bd,s9,ve,s8,uU,v7,u7,we,tB,uZ,A_,wj,wv,wR,wh,yY,zb,vj,v8];rfl) (bz 7 λB _=>HT λi C=>D9 4 [Pv 1,Pv 2,Pv 3,Pv 4,Pv 5,(12,.v (.clo 141 [] [.fptr (cells B)]))] (λw=>[Xb 1 D,(2,.box [cv (G:aY (bQ 200 bu))]),Xb 3 (⟨0,0⟩:aZ),(4,.box [iv 0]),(5,.box [.ptr 10 0]),Xb 10 w]) (λz=>k! z) (λz=>[Xb 1 D,(2,.box [cv (G:aY (bQ 200 bu))]),Xb 3 z.1,(4,.box [iv z.2.1]),(5,.box [.ptr 10 0]),Xb 10 z.2.2]) (B3 B i C) (λu w=>Bal 2 6 ⟨[Pv 1,Pv 2,Pv 3,Pv 4,Pv 5,(12,.v (.clo 141 [] [.fptr (cells B)])),Cv 13 u.1,Cv 14 u.2],[Xb 1 D,(2,.box [cv (G:aY (bQ 200 bu))]),Xb 3 (⟨0,0⟩:aZ),(4,.box [iv 0]),(5,.box [.ptr 10 0]),Xb 10 w],[1,2,3,4,5],[],O,0⟩ [iv 0,iv 0] (by simp only[bF,Bd,s9,ve,s8,uU,v7,u7,we,tB,uZ,A_,wj,wv,wR,wh,yY,zb,vj,v8];rfl) (Bal 4 7 ⟨[Pv 1,Pv 2,Pv 3,Pv 4,Pv 5,(12,.v (.clo 141 [] [.fptr (cells B)])),Cv 14 u.2,Pv 6],[Xb 1 D,(2,.box [cv (G:aY (bQ 200 bu))]),Xb 3 (⟨0,0⟩:aZ),(4,.box [iv 0]),(5,.box [.ptr 10 0]),Xb 10 w,Xb 6 u.1],[1,2,3,4,5],[],O,0⟩ [iv 0,iv 0,iv 0,iv 0,.v .bG] (by simp only[bF,Bd,s9,ve,s8,uU,v7,u7,we,tB,uZ,A_,wj,wv,wR,wh,yY,zb,vj,v8];rfl) (lC 0 7 0 u.2 (Bs 1 (bp 22 19 (DU 7 Z 10 λg Q=>O_ 2 1 U 10 w u.2.d? 1 g Q (.int Z g.from_.index) (by rfl) (bp 3 28 a_ (DU 8 Z 10 λI S=>WA 1 10 w u.2.d? 0 I S (⟨u.1,I.to_⟩:bu) u.1 rfl a_))) (bp 7 36 (DU 7 Z 10 λJ T=>O_ 2 1 U 10 w u.2.d? 3 J T (.int Z J.to_.index) (by rfl) (bp 3 45 a_ (bz 12 λm _=>cM 3 54 (DU 8 Z 10 λL j=>WA 1 10 w u.2.d? 2 L j (⟨L.from_,u.1⟩:bu) u.1 rfl a_) a_))) a_)))))) (λw=>ach 13 (bF [Pv 2,Pv 3,Pv 4] [(2,.box [.ptr 10 0]),Xb 3 (⟨0,0⟩:aZ),(4,.box [iv 0]),Xb 10 w]) [.ptr 10 0,cv (⟨0,0⟩:aZ),iv 0] (Zq (d:=10) (x:=w) (vs:=[enc (⟨0,0⟩:aZ),.int Z 0]) p?) p?) (λx=>k! x) (λz=>a_)))))
namespace kC
def J1(D:bQ 200 bu)(B:Sl aZ)(T:Sl WF)(J:aZ):aY (Sl aZ):=H (idx T (y? Z (J.index-1))) λu=>(bg (u.kind==2) (H (bQ.at D u.d?) λw=>M (_p (w.to_.index>0))) (M U):aY X').bind λz=>bg z (H (bQ.at D u.d?) λC=>H (ec B (C.to_:aZ)) λd=>M d) (M B)
theorem oZ(B:bQ 200 bu)(D:Sl aZ)(T:Sl WF)(J:aZ):Le (H (J1 B D T J) (λr=>M [enc r])) (bZ Sy cL (sC (tr Tx 146)) (uz (tb Tx 146) [1,1,1,1,0,0] [] (bF [Kv 1 B,Pv 5,Ov 7,Cv 8 T] [Xb 5 J,Lb 2007 D]))):=bH 7 λu _=>lC 2 9 0 u (bP 8 10 [40] 50 (bp 8 40 (Pm 4 Z λw z=>V4 0 2 B u.d? 0 w z (V4 0 1 B u.d? 2 w z (Pr 0 1 U B u.d? 3 w z (.int Z w.to_.index) (by rfl) (br 2)))) (br 10)) λI=>bp 2 50 (Pm 7 Z λC d=>V4 0 2 B u.d? 0 C d (Pr 0 2 O B u.d? 2 C d (enc C.to_) (by rfl) (kO 1 2007 59 60 λL _=>a_))) a_)
end kC
def kC(D:Z4)(B:bQ 200 bu)(x2:aZ):aY (Sl aZ):=H (idx D.a? x2.proc) λu=>bg (_p (x2.index<(len u.b?))) (kC.J1 B (Sl.row [⟨x2.proc,y? Z (x2.index+1)⟩]:Sl aZ) u.b? x2) (kC.J1 B (Sl.nil:Sl aZ) u.b? x2)
open kC in
instance Z5(D:Z4)(B:bQ 200 bu)(x2:aZ):Fc Sy cL (kC D B x2):=Fc.N 146 [enc D,.fptr (cells B),enc x2] (ck 2 3 D (bH 15 λu _=>bO 11 u.b? (bp 3 21 (WG 10 29 30 .bG (⟨x2.proc,y? Z (x2.index+1)⟩:aZ) (ye 5 (oZ B (Sl.row [⟨x2.proc,y? Z (x2.index+1)⟩]:Sl aZ) u.b? x2))) (ye 5 (oZ B (Sl.nil:Sl aZ) u.b? x2)))))
namespace jF
def dG(g:Z4)(j:Sl aZ)(i:Int)(a:Z4)(b:bQ 200 bu)(c:aZ)(d:X')(T:aZ)(B:Sl aZ)(J:Int)(D:Mo aZ X'):aY (Fw ((Sl aZ)×Int×(Mo aZ X')) ((Sl aZ)×(Mo aZ X')) Unit):=bg (_p (J<i)) (H (idx j J) λu=>bg (N_ u T) (M (.r ())) (bg (iM D u U) (M (.n (B,y? Z (J+1),D))) (H (ec B (u:aZ)) λw=>M (.n (w,y? Z (J+1),mA D u O))))) (M (.x (B,D)))
def W3(D:Sl aZ)(B:Z4)(g:Sl aZ)(j i:Int)(a:Z4)(b:bQ 200 bu)(c:aZ)(d:X')(J:aZ)(T:Mo aZ X'):aY (Fw ((Sl aZ)×(Mo aZ X')) Unit Unit):=H (bM (λq:(Sl aZ)×Int×(Mo aZ X')=>dG B g j a b c d J q.1 q.2.1 q.2.2) (D,i,T)) (Fw.elim (λe=>M (.n (e.1,e.2))) (λe=>M (.r ())))
def bK(D J:Z4)(T:bQ 200 bu)(g:aZ)(a:X')(d:aZ)(B:Sl aZ)(i:Mo aZ X'):aY (Fw ((Sl aZ)×(Mo aZ X')) Unit Unit):=bg (_p ((len B)>0)) (H (Sl.iF B (y? Z ((len B)-1))) λw=>H (Sl.get B w) λz=>H (nJ B G (M (y? Z ((len B)-1)))) λC=>H (kC J T z) λu=>W3 C D u (len u) 0 J T g a d i) (M (.x ()))
def W2(J:Sl aZ)(B d:Z4)(i:bQ 200 bu)(g:aZ)(a:X')(D:aZ)(T:Mo aZ X'):aY (Fw Unit Empty aZ):=H (bM (λq:(Sl aZ)×(Mo aZ X')=>bK B d i g a D q.1 q.2) (J,T)) (Fw.elim (λe=>M (.n ())) (λe=>M (.r D)))
def k_(B D:Z4)(J:bQ 200 bu)(T:aZ)(d:X')(x:aZ×WF):aY (Fw Unit Empty aZ):=W2 (Sl.row [x.1]:Sl aZ) B D J T d x.1 []
def E1(B D:Z4)(J:bQ 200 bu)(T:aZ)(d:X'):aY (aZ×X'):=H (kF B) λu=>H (mw (λ(x:aZ×WF)(q:Unit)=>k_ B D J T d x) u ()) (Fw.sN (λq=>M (⟨0,0⟩,U)) (λe=>k! e) (λe=>M (e,O)))
end jF
def jF(B:Z4)(D:bQ 200 bu):aY (aZ×X'):=H (ko B) λu=>jF.E1 u B D (⟨0,0⟩:aZ) U
open jF in
instance X0(B:Z4)(J:bQ 200 bu):Fc Sy cL (jF B J):=Fc.M 111 [enc B,.fptr (cells J)] (ck 2 2 B (bz 9 λw _=>HT λi Q=>D9 4 [Pv 2,Pv 3,Pv 4,Pv 5,(13,.v (.clo 141 [] [.fptr (cells w)]))] (λS=>[Xb 2 B,(3,.box [cp J]),Xb 4 (⟨0,0⟩:aZ),(5,.box [bv U])]) (λd=>k! d) (λd=>[Xb 2 B,(3,.box [cp J]),Xb 4 d,(5,.box [bv O])]) (B3 w i Q) (λC S=>Bs 4 (dU 18 (λu=>⟨[Pv 2,Pv 3,Pv 4,Pv 5,Pv 6,(7,.mp 16),Ov 8,(13,.v (.clo 141 [] [.fptr (cells w)]))],[Xb 2 B,(3,.box [cp J]),Xb 4 (⟨0,0⟩:aZ),(5,.box [bv U]),Xb 6 C.1,(16,iZ u.2),Lb 2008 u.1],[2,3,4,5],[],O,0⟩) (λI=>(2,⟨[Pv 2,Pv 3,Pv 4,Pv 5,(13,.v (.clo 141 [] [.fptr (cells w)]))],[Xb 2 B,(3,.box [cp J]),Xb 4 (⟨0,0⟩:aZ),(5,.box [bv U])],[2,3,4,5],[],O,0⟩)) (λI=>⟨[],[Xb 2 B,(3,.box [cp J]),Xb 4 C.1,(5,.box [bv O])],[2,3,4,5],[],O,0⟩) (λu=>BL 6 2008 u.1 (bp 3 21 (BL 8 2008 u.1 (js Z 1 2008 λm _=>qD 0 2008 0 2 O (λL=>.agg [.int Z L.proc,.int Z L.index]) λL _=>BL 8 2008 u.1 (W_ 1 U O 2008 32 [.int Z (y? Z ((len u.1)-1))] λX _=>bz 8 λg _=>bO 0 g (dU 6 (λz=>⟨[Pv 2,Pv 3,Pv 4,Pv 5,Pv 6,(7,.mp 16),Ov 8,(13,.v (.clo 141 [] [.fptr (cells w)])),Cv 36 g,Iv 37 (len g),Iv 38 z.2.1],[Xb 2 B,(3,.box [cp J]),Xb 4 (⟨0,0⟩:aZ),(5,.box [bv U]),Xb 6 C.1,(16,iZ z.2.2),Lb 2008 z.1],[2,3,4,5],[],O,0⟩) (λD=>(4,⟨[Pv 2,Pv 3,Pv 4,Pv 5,Pv 6,(7,.mp 16),Ov 8,(13,.v (.clo 141 [] [.fptr (cells w)]))],[Xb 2 B,(3,.box [cp J]),Xb 4 (⟨0,0⟩:aZ),(5,.box [bv U]),Xb 6 C.1,(16,iZ D.2),Lb 2008 D.1],[2,3,4,5],[],O,0⟩)) (λD=>⟨[],[Xb 2 B,(3,.box [cp J]),Xb 4 C.1,(5,.box [bv O])],[2,3,4,5],[],O,0⟩) (λz=>bp 8 39 (bH 7 λT _=>bp 13 44 a_ (Kl 7 16 z.2.2 T U (cM 3 49 a_ (Ky 5 16 z.2.2 T O (kO 6 2008 54 55 λj _=>a_))))) a_) (λD=>a_) (λD=>a_))))) a_)) (λI=>a_) (λI=>a_))) (λS=>a_) (λx=>k! x) (λd=>a_)))
namespace iS
def OT(B D:Z4)(J:aZ)(T:Int)(x:aZ×WF):aY (Fw Unit Empty (aZ×Int)):=H (en D x.1 x.2) λu=>bg (u==0) (M (.n ())) (M (.r (x.1,u)))
def E2(B D:Z4)(J:aZ)(T:Int):aY (aZ×Int):=H (kF B) λz=>H (mw (λ(x:aZ×WF)(q:Unit)=>OT B D J T x) z ()) (Fw.sN (λq=>H (fG D) λu=>bg (u.2.2==0) (H (u.1) λC=>H (jF D C) λw=>bg w.2 (M (w.1,10)) (M (⟨0,0⟩,0))) (M (u.2.1,u.2.2))) (λe=>k! e) (λe=>M (e.1,e.2)))
def bk(D:Int)(J:Z4)(T:aZ)(d:Int)(B:Int):aY (Fw Int Unit (aZ×Int)):=bg (_p (B<D)) (H (fE J B) λu=>bg (u==0) (M (.n (y? Z (B+1)))) (M (.r ((⟨B,0⟩:aZ),u)))) (M (.x ()))
def W1(T d:Int)(B:Z4)(D:aZ)(J:Int):aY (aZ×Int):=H (bM (λq:Int=>bk T B D J q) d) (Fw.elim (λe=>H (ko B) λu=>iS.E2 u B D J) (λe=>M (e.1,e.2)))
end iS
def iS(B:Z4):aY (aZ×Int):=H (pN (len B.a?) 1 8) λu=>bg u (iS.W1 (len B.a?) 0 B (⟨0,0⟩:aZ) 0) (M (⟨0,0⟩,1))
open iS in
instance aae(B:Z4):Fc Sy cL (iS B):=Fc.M 86 [enc B] (ck 2 1 B (bO 9 B.a? (bz 0 λg _=>cM 3 18 (bO 8 B.a? (dU 5 (λC=>(bF [Pv 1,Pv 2,Pv 3,Iv 22 (len B.a?),Iv 23 C] [Xb 1 B,Xb 2 (⟨0,0⟩:aZ),(3,.box [iv 0])])) (λu=>(0,(bF [Pv 1,Pv 2,Pv 3] [Xb 1 B,Xb 2 (⟨0,0⟩:aZ),(3,.box [iv 0])]))) (λu=>(bF [Pv 2,Pv 3] [Xb 2 u.1,(3,.box [iv u.2])])) (λC=>bp 7 24 (bz 15 λQ _=>cM 9 30 a_ a_) a_) (λu=>bz 6 λz _=>HT λJ D=>D9 4 [Pv 1,Pv 2,Pv 3,(36,.v (.clo 141 [] [.fptr (cells z)]))] (λd=>[Xb 1 B,Xb 2 (⟨0,0⟩:aZ),(3,.box [iv 0])]) (λw=>k! w) (λw=>[Xb 1 B,Xb 2 w.1,(3,.box [iv w.2])]) (B3 z J D) (λL d=>lC 8 7 0 L.2 (Bs 1 (bz 7 λS _=>cM 9 44 a_ a_))) (λd=>bz 5 λI _=>cM 17 54 (H_ 8 (λT=>(bF [Pv 2,Pv 3,(36,.v (.clo 141 [] [.fptr (cells z)])),Pv 10,Iv 11 I.2.2,Bv 54 U,Cv 58 B,Cv 59 T] [Xb 1 B,Xb 2 (⟨0,0⟩:aZ),(3,.box [iv 0]),Xb 10 I.2.1])) λi _=>bz 0 λj _=>bp 13 63 a_ a_) a_) (λx=>k! x) (λw=>a_)) (λu=>a_))) a_)))
def cm(B:Z4):aY X':=H (iS B) λu=>M (u.2==0)
instance ZQ(B:Z4):Fc Sy cL (cm B):=Fc.M 63 [enc B] (ck 2 1 B (bz 6 λu _=>a_))
def wO(B:Int):aY X':=H (bg (B==2) (M O) (M (B==3)):aY X') λu=>H (bg u (M O) (M (B==4)):aY X') λw=>M w
instance TV(B:Int):Fc Sy cL (wO B):=Fc.M 149 [.int Z B] (bP 10 3 [5] 8 (bp 10 5 (br 3) (br 3)) λu=>bP 1 3 [0,9] 12 (bp 1 9 (br 3) (br 3)) λw=>a_)
def mg(B:T'):aY X':=H (bg (_p (B.kind<1)) (M O) (M (_p (B.kind>=22))):aY X') λz=>(bg z (M O) (H (bQ.at yN B.kind) λC=>M (!((len B.l)==C))):aY X').bind λD=>H (bg D (M O) (M (_p (B.n<0))):aY X') λd=>H (bg d (M O) (M (_p (B.n>1125899906842624))):aY X') λI=>(bg I (M O) (H (bg (B.n==0) (M U) (M (!(B.kind==1))):aY X') λJ=>M J):aY X').bind λL=>bg L (M U) (H (wO B.kind) λg=>(bg g (M O) (H (bg (B.proc==0) (M (B.k?==0)) (M U):aY X') λQ=>H (bg Q (M (S? B.name==S? ByteArray.empty)) (M U):aY X') λu=>M u):aY X').bind λw=>M w)
instance WL(B:T'):Fc Sy cL (mg B):=Fc.M 117 [enc B] (ck 2 1 B (bP 10 4 [6] 10 (bp 10 6 (br 4) (br 4)) λD=>bP 1 9 [11] 20 (bp 1 11 (br 9) (kB 2 13 (Pred.mX B.l) (bO 0 B.l (Pm 2 Z λu w=>Pr 0 1 U yN B.kind 0 u w (.int Z u) (by rfl) (br 2))))) λd=>bP 1 4 [21] 25 (bp 1 21 (br 4) (br 4)) λI=>bP 1 4 [26] 30 (bp 1 26 (br 4) (br 4)) λJ=>bP 1 9 [31] 40 (bp 1 31 (br 9) (bP 4 4 [35] 39 (cM 4 35 (br 4) (br 4)) λL=>br 1)) λg=>bp 2 40 a_ (bz 7 λQ _=>bP 1 14 [1,44] 58 (bp 1 44 (br 14) (bP 4 4 [48] 52 (bp 4 48 (br 4) (br 4)) λS=>bP 1 4 [1,53] 57 (bp 1 53 (br 4) (br 4)) λz=>br 1)) λC=>a_)))
def jl(D:T')(J B:Int)(r:(T'×Int×Int)->aY (X'×Int)):aY (X'×Int):=H (r (D,y? Z (J+1),B)) λu=>M ((!u.1),u.2)
abbrev zM(r:(Pred×Int×Int)->aY (Bool×Int))(a:Da Sy cL 116 (λz:Pred×Int×Int=>[cv z.1,iv z.2.1,.ptr 9002 0,.ptr 9001 0]) (λz:Pred×Int×Int=>[(9002,bx (z.2.2:Int)),(9001,.box [.clo 116 [] [.ptr 9002 0,.ptr 9001 0]])]) (λr:Bool×Int=>[.bool r.1]) (λ(z:Pred×Int×Int)(r:Bool×Int)=>[(9002,bx (r.2:Int)),(9001,.box [.clo 116 [] [.ptr 9002 0,.ptr 9001 0]])]) r)(D:Pred)(J B:Int):tH Sy cL (jl D J B r):=tH.mk' 119 [cv D,.ptr 9001 0,.v (.fptr (cells J))] [(9001,.box [.clo 116 [] [.ptr 9002 0,.ptr 9001 0]]),(9002,bx (B:Int))] (λr:Bool×Int=>[.bool r.1]) (λr:Bool×Int=>[(9001,.box [.clo 116 [] [.ptr 9002 0,.ptr 9001 0]]),(9002,bx (r.2:Int))]) (ck 2 3 D (A1 9 (tH.of (D,y? Z (J+1),B) a) λu _=>a_))
section
variable{σ:Type}{gf:Y'}{ex:R'}{os:σ->dK}{p:T'->σ->aY (X'×σ)}(h:Ba Sy cL (.clo gf [] ex) gf ex os p)(s0:Sl T')(x:σ)
abbrev xG:tH Sy cL (VL s0 p x):=tH.mk' 150 [cv s0,(.clo gf [] ex)] (os x) (λr=>[.int Z r.1]) (λr=>os r.2) (bO 9 s0 (dU 5 (λq=>⟨[Cv 0 s0,(1,(.clo gf [] ex)),Iv 7 (len s0),Iv 8 q.1],os q.2,(os x).map (·.1),[],O,0⟩) (λe=>(0,⟨[],os e,(os x).map (·.1),[],O,0⟩)) (λe=>⟨[Iv 4 e.1],os e.2,(os x).map (·.1),[],O,0⟩) (λq=>bp 7 9 (bH 16 λy _=>SK 1 h y q.2 λr _=>bp 2 16 a_ a_) a_) (λe=>Kn 9 h [.int Z (-1)] Y) (λe=>Le.of_eq (Mj h (ys:=[.int Z e.1]) p? Y)))) (hp:=λr=>h.wi x r.2)
abbrev yo:tH Sy cL (C4 s0 p x):=tH.mk' 118 [cv s0,(.clo gf [] ex)] (os x) (λr=>[.bool r.1]) (λr=>os r.2) (Oq 9 (xG h s0 x) (h.hd x (enc s0)) (λr=>h.put x r.2) λy _=>Kn 5 h [.bool (_p (y.1>=0))] Y) (hp:=λr=>h.wi x r.2)
end
section
variable{σ:Type}{gf:Y'}{ex:So}{os:σ->dK}{p:T'->σ->aY (X'×σ)}(h:Ba Sy cL (.v (.clo gf [] ex)) gf (ex.map .v) os p)(s0:Sl T')(x:σ)
abbrev xP:tH Sy cL (VL s0 p x):=tH.mk' 150 [cv s0,(.v (.clo gf [] ex))] (os x) (λr=>[.int Z r.1]) (λr=>os r.2) (bO 9 s0 (dU 5 (λq=>⟨[Cv 0 s0,(1,(.v (.clo gf [] ex))),Iv 7 (len s0),Iv 8 q.1],os q.2,(os x).map (·.1),[],O,0⟩) (λe=>(0,⟨[],os e,(os x).map (·.1),[],O,0⟩)) (λe=>⟨[Iv 4 e.1],os e.2,(os x).map (·.1),[],O,0⟩) (λq=>bp 7 9 (bH 16 λy _=>SK 1 h y q.2 λr _=>bp 2 16 a_ a_) a_) (λe=>Kn 9 h [.int Z (-1)] Y) (λe=>Le.of_eq (Mj h (ys:=[.int Z e.1]) p? Y)))) (hp:=λr=>h.wi x r.2)
abbrev ny:tH Sy cL (C4 s0 p x):=tH.mk' 118 [cv s0,(.v (.clo gf [] ex))] (os x) (λr=>[.bool r.1]) (λr=>os r.2) (Oq 9 (xP h s0 x) (h.hd x (enc s0)) (λr=>h.put x r.2) λy _=>Kn 5 h [.bool (_p (y.1>=0))] Y) (hp:=λr=>h.wi x r.2)
end
def fq(J:T')(B D:Int)(r:(T'×Int×Int)->aY (X'×Int)):aY (X'×Int):=H (bg (_p ((y? Z (D-1))<0)) (M O) (M (_p (B>20))):aY X') λw=>(bg w (M O) (H (mg J) λz=>M (!z)):aY X').bind λC=>bg C (M (U,y? Z (D-1))) (H (C4 J.l (λx s=>jl x B s r) (y? Z (D-1))) λu=>M ((!u.1),u.2))
theorem zK(r:(T'×Int×Int)->aY (X'×Int))(a:Da Sy cL 116 (λz:T'×Int×Int=>[cv z.1,iv z.2.1,.ptr 9002 0,.ptr 9001 0]) (λz:T'×Int×Int=>[(9002,bx (z.2.2:Int)),(9001,.box [.clo 116 [] [.ptr 9002 0,.ptr 9001 0]])]) (λr:X'×Int=>[.bool r.1]) (λ(z:T'×Int×Int)(r:X'×Int)=>[(9002,bx (r.2:Int)),(9001,.box [.clo 116 [] [.ptr 9002 0,.ptr 9001 0]])]) r)(D:T')(B J:Int):∀T,fq D B J r=M T->∃m',cL 116 [cv D,iv B,.ptr 9002 0,.ptr 9001 0] [(9002,bx (J:Int)),(9001,.box [.clo 116 [] [.ptr 9002 0,.ptr 9001 0]])]=M (((λr:X'×Int=>[.bool r.1]) T).map .v,m')/\∀i,lY m' ([(9002,bx (J:Int)),(9001,.box [.clo 116 [] [.ptr 9002 0,.ptr 9001 0]])].map (·.1)) i=M (rL i ((λr:X'×Int=>[(9002,bx (r.2:Int)),(9001,.box [.clo 116 [] [.ptr 9002 0,.ptr 9001 0]])]) T)):=(tH.mk' 116 [cv D,iv B,.ptr 9002 0,.ptr 9001 0] [(9002,bx (J:Int)),(9001,.box [.clo 116 [] [.ptr 9002 0,.ptr 9001 0]])] (λr:X'×Int=>[.bool r.1]) (λr:X'×Int=>[(9002,bx (r.2:Int)),(9001,.box [.clo 116 [] [.ptr 9002 0,.ptr 9001 0]])]) (ck 2 4 D (bP 17 3 [11] 14 (bp 17 11 (br 3) (br 3)) λu=>bP 1 4 [15] 19 (bp 1 15 (br 4) (bz 1 λw _=>br 2)) λC=>bp 2 19 a_ (kB 7 21 (Pred.mX D.l) (A1 2 (yo (Ba.ofK (σ:=Int) (g:=119) (e:=[.ptr 9001 0,cp B]) (os:=λs=>[(9001,.box [.clo 116 [] [.ptr 9002 0,.ptr 9001 0]]),(9002,bx (s:Int))]) (p:=(λx s=>jl x B s r)) (λx s=>zM r a x B s)) D.l (y? Z (J-1))) λd _=>a_)))):tH Sy cL (fq D B J r)).h
def rU(D:T')(B J:Int):aY (X'×Int):=dY (λr(z:T'×Int×Int)=>fq z.1 z.2.1 z.2.2 r) 100000 (D,B,J)
abbrev BI(D:Pred)(B J:Int):tH Sy cL (rU D B J):=tH.of (D,B,J) (Da.fix (A:=λz:Pred×Int×Int=>[cv z.1,iv z.2.1,.ptr 9002 0,.ptr 9001 0]) (O:=λz:Pred×Int×Int=>[(9002,bx (z.2.2:Int)),(9001,.box [.clo 116 [] [.ptr 9002 0,.ptr 9001 0]])]) (E:=λr:Bool×Int=>[.bool r.1]) (M:=λ(z:Pred×Int×Int)(r:Bool×Int)=>[(9002,bx (r.2:Int)),(9001,.box [.clo 116 [] [.ptr 9002 0,.ptr 9001 0]])]) (b:=(λr(z:Pred×Int×Int)=>fq z.1 z.2.1 z.2.2 r)) p? p? p? (λr a z=>zK r a z.1 z.2.1 z.2.2) 100000)
def nj(B:T'):aY X':=H (rU B 1 200) λu=>M u.1
instance TU(B:T'):Fc Sy cL (nj B):=Fc.M 90 [enc B] (ck 2 1 B (A1 26 (BI B 1 200) λu _=>a_))
def lT(B:Z4)(p1:Int):aY X':=H (bg (_p (p1>=0)) (M (_p (p1<(len B.a?)))) (M U):aY X') λu=>M u
instance TL(B:Z4)(p1:Int):Fc Sy cL (lT B p1):=Fc.M 121 [enc B,.int Z p1] (ck 2 2 B (bP 8 6 [1,2,7] 13 (bp 8 7 (bO 3 B.a? (br 2)) (br 6)) λu=>a_))
def pX(B:Var)(D:U'):aY X':=M (S? B.name==S? D)
instance Q_(B:Var)(D:U'):Fc Sy cL (pX B D):=Fc.M 151 [enc B,.fptr (cells D)] (a_)
def sX(D:Z4)(p1:Int)(B:U'):aY X':=H (idx D.a? p1) λu=>H (gu u.i? (λz=>pX z B)) λw=>M w
instance Vc(D:Z4)(p1:Int)(B:U'):Fc Sy cL (sX D p1 B):=Fc.M 122 [enc D,.int Z p1,.str B] (ck 2 3 D (bH 9 λu _=>c_ (F:=nT 151 [.fptr (cells B)] (λz=>pX z B) me.rA u.i?) 3 λw _=>a_))
def lN(B:T')(D:Z4):aY X':=bg (B.kind==2) ((lT D B.proc).bind λC=>(bg C (M (B.k?==0)) (M U):aY X').bind λd=>(bg d ((sX D B.proc B.name).bind λI=>M I) (M U):aY X').bind λJ=>M J) (bg (B.kind==3) ((lT D B.proc).bind λL=>(bg L (M (B.k?==0)) (M U):aY X').bind λg=>(bg g (M (S? B.name==S? ByteArray.empty)) (M U):aY X').bind λQ=>M Q) (bg (B.kind==4) ((lT D B.proc).bind λS=>(bg S ((lT D B.k?).bind λT=>M T) (M U):aY X').bind λu=>(bg u (M (!(B.proc==B.k?))) (M U):aY X').bind λw=>(bg w (M (S? B.name==S? ByteArray.empty)) (M U):aY X').bind λz=>M z) (M O)))
instance M8 (B:Pred) (D:Trace):Fc Sy cL (lN B D):=Fc.M 120 [enc B,.fptr (cells D)] (ck 2 2 B (bp 17 6 (bz 6 λC _=>bP 1 4 [12] 16 (bp 1 12 (br 4) (br 4)) λd=>bP 1 7 [1,2,17] 24 (bp 1 17 (bz 5 λI _=>br 1) (br 7)) λJ=>a_) (bp 7 25 (bz 6 λL _=>bP 1 4 [31] 35 (bp 1 31 (br 4) (br 4)) λg=>bP 1 4 [2,36] 40 (bp 1 36 (br 4) (br 4)) λQ=>a_) (bp 7 41 (bz 6 λS _=>bP 1 5 [1,47] 52 (bp 1 47 (bz 3 λT _=>br 1) (br 5)) λu=>bP 1 6 [53] 59 (bp 1 53 (br 6) (br 6)) λw=>bP 1 4 [2,60] 64 (bp 1 60 (br 4) (br 4)) λz=>a_) a_))))
def uN(B:T')(p1:T'->aY X')(r:T'->aY X'):aY X':=H (r B) λu=>M (!u)
abbrev Dy(g1:FuncId)(e1:aX V)(p1:Pred->aY Bool)(b:me Sy cL g1 [] e1 (λz:Pred=>[enc z]) (λr:Bool=>[.bool r]) p1 O)(r:Pred->aY Bool)(a:iG Sy cL 96 (λz:Pred=>[enc z,.clo g1 [] e1]) (λr:Bool=>[.bool r]) r O)(B:Pred):Fc Sy cL (uN B p1 r):=Fc.M 129 [enc B,.fptr [.clo g1 [] e1]] (ck 2 2 B (bz (F:=Fc.of B a) 7 λu _=>a_))
def j_(D:T')(p1:T'->aY X')(r:T'->aY X'):aY X':=H (p1 D) λw=>(bg w (H (C4 D.l (λx u=>((λz=>uN z p1 r) x).map λb=>(b,u)) ()) λB=>M (!B.1)) (M U):aY X').bind λC=>M C
theorem CB(g1:Y')(e1:So)(p1:T'->aY X')(a:me Sy cL g1 [] e1 (λz:T'=>[enc z]) (λr:X'=>[.bool r]) p1 O)(r:T'->aY X')(b:iG Sy cL 96 (λz:T'=>[enc z,.clo g1 [] e1]) (λr:X'=>[.bool r]) r O)(B:T'):Le (H (j_ B p1 r) λr=>M [.bool r]) (kM cL 96 [enc B,.clo g1 [] e1]):=(Fc.M 96 [enc B,.clo g1 [] e1] (ck 2 2 B (yJ 8 a.f B λw _=>Gs 1 6 [] (λu=>(bF [Bv 14 u] [Xb 2 B])) (bp 1 8 (kB 2 10 (Pred.mX B.l) (A1 2 (ny (Ba.ofP (g:=129) (e:=[.fptr [.clo g1 [] e1]]) (p:=(λz=>uN z p1 r)) (me.rA (F:=λz=>Dy g1 e1 p1 a r b z))) B.l ()) λC _=>br 2)) (br 7)) λu=>a_)):Fc Sy cL (j_ B p1 r)).F.h ()
def oN(B:T')(p1:T'->aY X'):aY X':=dY (λr(z:T')=>j_ z p1 r) 100000 B
abbrev vz(g1:FuncId)(e1:aX V)(p1:Pred->aY Bool)(a:me Sy cL g1 [] e1 (λz:Pred=>[enc z]) (λr:Bool=>[.bool r]) p1 O)(B:Pred):Fc Sy cL (oN B p1):=Fc.of B (iG.fix (A:=λz:Pred=>[enc z,.clo g1 [] e1]) (E:=λr:Bool=>[.bool r]) (sc:=O) (b:=(λr(z:Pred)=>j_ z p1 r)) p? (λ_ _=>rfl) (λr c z=>CB g1 e1 p1 a r c z) 100000)
def pY(B:Z4)(p1:T'):aY X':=H (oN p1 (λz=>lN z B)) λu=>M u
instance Q8 (B:Trace) (p1:Pred):Fc Sy cL (pY B p1):=Fc.M 91 [enc B,enc p1] (ck 2 2 B (ck 0 3 p1 (c_ (F:=vz 120 [.fptr (cells B)] (λz=>lN z B) me.rA p1) 7 λu _=>a_)))
def nk(B:Int):Ps:=bg (_p (B<=8)) (M 1) (M 2)
instance TM(B:Int):Fc Sy cL (nk B):=Fc.M 94 [.int Z B] (bp 12 4 a_ a_)
def ua(B:Int):Ps:=bg (_p (B<=12)) (M 1) (M 2)
instance Wy(B:Int):Fc Sy cL (ua B):=Fc.M 125 [.int Z B] (bp 12 4 a_ a_)
def nV(B D:T'):aY X':=H (nk B.kind) λu=>H (ua D.kind) λw=>M (!(u==w))
instance NN(B D:T'):Fc Sy cL (nV B D):=Fc.M 124 [enc B,.fptr (cells D)] (ck 2 2 B (c_ 7 λu _=>c_ 2 λw _=>a_))
def jZ(B:T'):aY X':=H (C4 B.l (λx u=>((λz=>nV z B) x).map λb=>(b,u)) ()) λw=>M (!w.1)
instance Q7(B:T'):Fc Sy cL (jZ B):=Fc.M 123 [enc B] (ck 2 1 B (kB 7 4 (Pred.mX B.l) (A1 2 (ny (Ba.ofP (g:=124) (e:=[.fptr (cells B)]) (p:=(λz=>nV z B)) me.rA) B.l ()) λu _=>a_)))
def ql(B:T'):aY X':=H (oN B (λz=>jZ z)) λu=>M u
instance UF(B:T'):Fc Sy cL (ql B):=Fc.M 92 [enc B] (ck 2 1 B (bz (F:=vz 123 [] (λz=>jZ z) me.rA B) 6 λu _=>a_))
namespace fK
def bK(D:Zg)(B i4:Int):aY (Fw (Int×Int) Int Empty):=bg (_p (i4<(len D))) (H (idx D i4) λu=>M (.n ((if u<B then u else B),y? Z (i4+1)))) (M (.x B))
def W2(B:Zg)(D i4:Int):Ps:=H (bM (λq:Int×Int=>bK B q.1 q.2) (D,i4)) (Fw.elim (λe=>M e) (λe=>k! e))
def J1(B:Zg):Ps:=H (idx B 0) λu=>fK.W2 B u 1
end fK
def fK(B:Zg):Ps:=bg (_p ((len B)<1)) (G) (fK.J1 B)
open fK in
instance Ua(B:Zg):Fc Sy cL (fK B):=Fc.M 173 [enc B] (bO 9 B (bp 3 7 ((Le.none _)) (tK 4 (bH 3 λz _=>dZ 12 (λu=>(bF [Cv 0 B,Iv 3 u.1,Iv 4 u.2] [])) (λw=>(0,(bF [Iv 3 w] []))) (λu=>bO 6 B (bp 3 15 (bH 9 λC _=>a_) a_)) (λw=>a_)))))
namespace fL
def bK(D:Zg)(B i4:Int):aY (Fw (Int×Int) Int Empty):=bg (_p (i4<(len D))) (H (idx D i4) λu=>M (.n ((if u>B then u else B),y? Z (i4+1)))) (M (.x B))
def W2(B:Zg)(D i4:Int):Ps:=H (bM (λq:Int×Int=>bK B q.1 q.2) (D,i4)) (Fw.elim (λe=>M e) (λe=>k! e))
def J1(B:Zg):Ps:=H (idx B 0) λu=>fL.W2 B u 1
end fL
def fL(B:Zg):Ps:=bg (_p ((len B)<1)) (G) (fL.J1 B)
open fL in
instance UN(B:Zg):Fc Sy cL (fL B):=Fc.M 174 [enc B] (bO 9 B (bp 3 7 ((Le.none _)) (tK 4 (bH 3 λz _=>dZ 12 (λu=>(bF [Cv 0 B,Iv 3 u.1,Iv 4 u.2] [])) (λw=>(0,(bF [Iv 3 w] []))) (λu=>bO 6 B (bp 3 15 (bH 9 λC _=>a_) a_)) (λw=>a_)))))
def nF(B:Zg):aY bR:=H (fK B) λu=>H (fL B) λw=>M ⟨u,w⟩
instance WJ(B:Zg):Fc Sy cL (nF B):=Fc.M 154 [enc B] (bz 8 λu _=>bz 1 λw _=>a_)
namespace fT
def bk(d:Int)(D:Sl WF)(J:Int)(T B:Int):aY (Fw (Int×Int) Int Empty):=bg (_p (B<J)) (H (idx D B) λu=>H (bg (u.kind==2) (M (u.k?==d)) (M U):aY X') λw=>bg w (M (.n (y? Z (T+1),y? Z (B+1)))) (M (.n (T,y? Z (B+1))))) (M (.x T))
def W1(T d:Int)(B:Sl WF)(D J:Int):Ps:=H (bM (λq:Int×Int=>bk T B D q.1 q.2) (d,J)) (Fw.elim (λe=>M e) (λe=>k! e))
end fT
def fT(B:Z4)(p1 D:Int):Ps:=H (idx B.a? p1) λu=>fT.W1 D 0 u.b? (len u.b?) 0
open fT in
instance Re(B:Z4)(p1 D:Int):Fc Sy cL (fT B p1 D):=Fc.M 171 [enc B,.int Z p1,.int Z D] (ck 2 3 B (bH 14 λu _=>bO 2 u.b? (dZ 5 (λw=>(bF [Iv 2 D,Iv 7 w.1,Cv 15 u.b?,Iv 16 (len u.b?),Iv 17 w.2] [])) (λz=>(0,(bF [Iv 7 z] []))) (λw=>bp 7 18 (bH 7 λC _=>lC 2 9 0 C (bP 8 5 [9,24] 29 (bp 8 24 (br 5) (br 5)) λd=>bp 2 29 a_ a_)) a_) (λz=>a_))))
def p8(B:Var)(D:U'):aY X':=M (S? B.name==S? D)
instance Q5(B:Var)(D:U'):Fc Sy cL (p8 B D):=Fc.M 205 [enc B,.fptr (cells D)] (a_)
def wS(D:bU)(B:U'):Ps:=H (fV D.i? (λz=>p8 z B)) λu=>M u
instance Vt(D:bU)(B:U'):Fc Sy cL (wS D B):=Fc.M 198 [enc D,.str B] (ck 2 2 D (c_ (F:=pL 205 [.fptr (cells B)] (λz=>p8 z B) me.rA D.i?) 9 λu _=>a_))
def um(D:Z4)(p1:Int)(B:U'):aY (Int×Int):=H (cm D) λw=>bg w (H (bg (_p (p1<0)) (M O) (M (_p (p1>=(len D.a?)))):aY X') λz=>bg z (M (0,2)) (H (idx D.a? p1) λC=>H (wS C B) λu=>bg (_p (u<0)) (M (0,13)) (M (u,0)))) (M (0,1))
instance Xl(D:Z4)(p1:Int)(B:U'):Fc Sy cL (um D p1 B):=Fc.M 182 [enc D,.int Z p1,.str B] (ck 2 3 D (bz 9 λu _=>cM 4 9 (bP 6 6 [16] 22 (bp 6 16 (br 6) (bO 3 D.a? (br 2))) λw=>bp 3 13 a_ (bH 9 λz _=>bz 2 λC _=>bp 10 31 a_ a_)) a_))
def eC(s0:Zg):aY Zg:=H (Sl.isNil s0) λu=>bg u (M Sl.nil) (H (pT (Sl.row []:Zg) s0) λw=>M w)
theorem iu:lU Sy cL 32 (λs0:Zg=>[enc s0]) (λz=>eC z):=lU.mk' (oI (Tx 32)) (λs0=>abv 9 λu _=>bp 2 4 a_ (Bj 7 5 7 λw _=>a_))
def pI(B:bU):aY bU:=M B
instance TR(B:bU):Fc Sy cL (pI B):=Fc.NE (λr:bU=>[(.clo 184 [] [.fptr (cells r)])]) 176 [enc B] (ck 2 1 B a_)
namespace gJ
def k_(D:bU)(J:Int)(x:Int×(Zg))(B:Zg):aY (Fw Zg Empty Empty):=H (idx x.2 J) λu=>H (ec B (u:Int)) λw=>M (.n w)
def E1(B:bU)(J:Int)(D:Zg):aY Zg:=H (kD B) λu=>H (mw (λ(x:Int×(Zg))(q:Zg)=>k_ B J x q) u D) (Fw.sN (λq=>M q) (λe=>k! e) (λe=>k! e))
end gJ
def gJ(B:bU)(i1:Int):aY Zg:=H (pI B) λu=>gJ.E1 u i1 (Sl.nil:Zg)
open gJ in
instance TO(D:bU)(i1:Int):Fc Sy cL (gJ D i1):=Fc.N 183 [enc D,.int Z i1] (ck 2 2 D (bz 13 λz _=>HT λC B=>D9 5 [Pv 3,Pv 5,(9,.v (.clo 184 [] [.fptr (cells z)]))] (λu=>[(3,.box [iv i1]),(5,.box [.own 4100]),Lb 4100 u]) (λw=>k! w) (λw=>k! w) (JE z C B) (λd u=>Bs 3 (bH 7 λI _=>kO 2 4100 17 18 λJ _=>a_)) (λu=>a_) (λx=>k! x) (λx=>k! x)))
def tC(J:Z4)(p1:Int)(B:U'):aY (Int×Int×Int):=H (um J p1 B) λu=>bg (u.2==0) (H (idx J.a? p1) λz=>H (gJ z u.1) λw=>H (fK w) λC=>H (fL w) λD=>M (C,D,0)) (M (0,0,u.2))
instance Vh(D:Z4)(p1:Int)(B:U'):Fc Sy cL (tC D p1 B):=Fc.M 172 [enc D,.int Z p1,.str B] (ck 2 3 D (bz 10 λu _=>cM 14 19 (bH 8 λw _=>bz 2 λz _=>bz 6 λC _=>bz 1 λd _=>a_) a_))
def g_(B:Z4)(p1:T'):aY bR:=bg (p1.kind==1) (H (nF (Sl.row [p1.n]:Zg)) λw=>M w) (bg (p1.kind==3) (H (idx B.a? p1.proc) λz=>M ⟨0,len z.b?⟩) (bg (p1.kind==4) (H (fT B p1.proc p1.k?) λC=>M ⟨0,C⟩) (H (tC B p1.proc p1.name) λu=>M ⟨u.1,u.2.1⟩)))
instance W0(B:Z4)(p1:T'):Fc Sy cL (g_ B p1):=Fc.M 152 [enc B,enc p1] (ck 2 2 B (ck 0 3 p1 (bp 17 10 (c_ 6 λw _=>a_) (bp 7 16 (bH 7 λu _=>bO 2 u.b? a_) (bp 7 27 (bz 8 λz _=>a_) (bz 11 λC _=>a_))))))
def jS(B:bR):aY X':=H (bg (_p (B.low<(-1125899906842624))) (M O) (M (_p (B.high>1125899906842624))):aY X') λu=>M u
instance Kd(B:bR):Fc Sy cL (jS B):=Fc.M 153 [enc B] (bP 12 4 [1,6] 10 (bp 12 6 (br 4) (br 4)) λu=>a_)
def sM(a0:Int):Ps:=M (if(y? Z (0-a0))>a0 then(y? Z (0-a0))else a0)
instance YX(a0:Int):Fc Sy cL (sM a0):=Fc.M 175 [.int Z a0] (a_)
def iK(a0 B:Int):Ps:=H (bg (a0==0) (M O) (M (B==0)):aY X') λu=>bg u (M 0) (H (sM a0) λw=>H (sM B) λz=>H (BE Z 1125899906842624 z) λC=>bg (_p (w>C)) (bg ((_p (a0<0))==(_p (B<0))) (M 1125899906842625) (M (y? Z (0-1125899906842625)))) (M (y? Z (a0*B))))
instance RL(a0 B:Int):Fc Sy cL (iK a0 B):=Fc.M 155 [.int Z a0,.int Z B] (bP 11 3 [8] 11 (bp 11 8 (br 3) (br 3)) λu=>bp 2 11 a_ (bz 15 λw _=>bz 1 λz _=>adR 0 λC _=>bp 3 20 (cM 15 25 a_ a_) a_))
namespace cZ
def J2(D B:bR)(r:(Z4×T')->aY (bR×X')):aY (bR×X'):=H (jS B) λu=>M (B,(!u))
def J1(i g:X')(T:T')(J B D:bR)(r:(Z4×T')->aY (bR×X')):aY (bR×X'):=H (bg i (M (!g)) (M O):aY X') λC=>bg C (M (⟨0,0⟩,U)) (bg (T.kind==5) (cZ.J2 J (⟨y? Z (0-B.high),y? Z (0-B.low)⟩:bR) r) (bg (T.kind==6) (cZ.J2 J (⟨y? Z (B.low+D.low),y? Z (B.high+D.high)⟩:bR) r) (bg (T.kind==7) (cZ.J2 J (⟨y? Z (B.low-D.high),y? Z (B.high-D.low)⟩:bR) r) (H (iK B.low D.low) λd=>H (iK B.low D.high) λI=>H (iK B.high D.low) λu=>H (iK B.high D.high) λw=>H (nF (Sl.row [d,I,u,w]:Zg)) λz=>cZ.J2 J z r))))
theorem oZ(r:(Z4×T')->aY (bR×X'))(a:iG Sy cL 126 (λz:Z4×T'=>[enc z.1,enc z.2]) (λr:bR×X'=>[enc r.1,.bool r.2]) r O)(D B:X')(J:T')(T i j:bR):Le (H (J1 D B J T i j r) (λr=>M [enc r.1,.bool r.2])) (bZ Sy cL (sC (tr Tx 126)) (uz (tb Tx 126) [1,1,1,1,1,0] [] (bF [Pv 3,Pv 4,Pv 7,Bv 8 D,Pv 9,Bv 10 B] [Xb 3 J,Xb 4 T,Xb 7 i,Xb 9 j]))):=bP 6 3 [10,48] 51 (cM 6 48 (br 3) (br 3)) λg=>bp 2 51 a_ (bp 22 77 (tK 14 (c_ 4 λu _=>a_)) (bp 7 86 (tK 18 (c_ 4 λu _=>a_)) (bp 7 99 (tK 18 (c_ 4 λu _=>a_)) (c_ 6 λd _=>c_ 4 λI _=>c_ 4 λw _=>c_ 4 λC _=>adL 0 ([d,I,w,C]:SW) (.buildC 1 4 [.int Z 0] [0,1,2,3]) [iv d,iv I,iv w,iv C] (c_ 0 λL _=>tK 5 (c_ 4 λu _=>a_))))))
end cZ
def dF(B:Z4)(p1:T')(r:(Z4×T')->aY (bR×X')):aY (bR×X'):=bg ((len p1.l)==0) (H (g_ B p1) λw=>H (jS w) λC=>M (w,(!C))) (H (idx p1.l 0) λD=>H (r (B,D)) λu=>bg ((len p1.l)==2) (H (idx p1.l 1) λd=>H (r (B,d)) λz=>cZ.J1 u.2 z.2 p1 (⟨0,0⟩:bR) u.1 z.1 r) (cZ.J1 u.2 O p1 (⟨0,0⟩:bR) u.1 u.1 r))
open cZ in
theorem Cb(r:(Z4×T')->aY (bR×X'))(a:iG Sy cL 126 (λz:Z4×T'=>[enc z.1,enc z.2]) (λr:bR×X'=>[enc r.1,.bool r.2]) r O)(B:Z4)(p1:T'):Le (H (dF B p1 r) λr=>M [enc r.1,.bool r.2]) (kM cL 126 [enc B,enc p1]):=(Fc.M 126 [enc B,enc p1] (ck 2 2 B (ck 0 3 p1 (kB 9 13 (Pred.mX p1.l) (bO 0 p1.l (bp 3 15 (bz 5 λd _=>c_ 8 λI _=>a_) (kB 8 26 (Pred.mX p1.l) (bH 0 λC _=>c_ (F:=Fc.of (B,C) a) 1 λu _=>kB 21 34 (Pred.mX p1.l) (bO 0 p1.l (bp 3 36 (kB 5 40 (Pred.mX p1.l) (bH 0 λD _=>c_ (F:=Fc.of (B,D) a) 1 λw _=>ye 8 (oZ r a u.2 w.2 p1 (⟨0,0⟩:bR) u.1 w.1))) (ye 4 (oZ r a u.2 O p1 (⟨0,0⟩:bR) u.1 u.1))))))))))):Fc Sy cL (dF B p1 r)).F.h ()
def cZ(B:Z4)(p1:T'):aY (bR×X'):=dY (λr(z:Z4×T')=>dF z.1 z.2 r) 100000 (B,p1)
instance TQ(B:Z4)(p1:T'):Fc Sy cL (cZ B p1):=Fc.of (B,p1) (iG.fix (A:=λz:Z4×T'=>[enc z.1,enc z.2]) (E:=λr:bR×X'=>[enc r.1,.bool r.2]) (sc:=O) (b:=(λr(z:Z4×T')=>dF z.1 z.2 r)) p? (λ_ _=>rfl) (λr a z=>Cb r a z.1 z.2) 100000)
def jX(B:T')(D:Z4)(r:(Z4×T')->aY X'):aY X':=H (r (D,B)) λu=>M (!u)
abbrev Ck(r:(Trace×Pred)->aY Bool)(a:iG Sy cL 93 (λz:Trace×Pred=>[enc z.1,enc z.2]) (λr:Bool=>[.bool r]) r O)(B:Pred)(D:Trace):Fc Sy cL (jX B D r):=Fc.M 127 [enc B,.fptr (cells D)] (ck 2 2 B (bz (F:=Fc.of (D,B) a) 7 λu _=>a_))
def cq(D:Z4)(p1:T')(r:(Z4×T')->aY X'):aY X':=H (nk p1.kind) λw=>bg (w==1) (H (cZ D p1) λB=>M B.2) (H (C4 p1.l (λx u=>((λz=>jX z D r) x).map λb=>(b,u)) ()) λC=>M (!C.1))
theorem Cl(r:(Z4×T')->aY X')(a:iG Sy cL 93 (λz:Z4×T'=>[enc z.1,enc z.2]) (λr:X'=>[.bool r]) r O)(B:Z4)(p1:T'):Le (H (cq B p1 r) λr=>M [.bool r]) (kM cL 93 [enc B,enc p1]):=(Fc.M 93 [enc B,enc p1] (ck 2 2 B (ck 0 3 p1 (bz 8 λu _=>bp 3 10 (bz 5 λw _=>a_) (kB 7 19 (Pred.mX p1.l) (A1 2 (ny (Ba.ofP (g:=127) (e:=[.fptr (cells B)]) (p:=(λz=>jX z B r)) (me.rA (F:=λz=>Ck r a z B))) p1.l ()) λC _=>a_))))):Fc Sy cL (cq B p1 r)).F.h ()
def ou(B:Z4)(p1:T'):aY X':=dY (λr(z:Z4×T')=>cq z.1 z.2 r) 100000 (B,p1)
instance T9(B:Z4)(p1:T'):Fc Sy cL (ou B p1):=Fc.of (B,p1) (iG.fix (A:=λz:Z4×T'=>[enc z.1,enc z.2]) (E:=λr:X'=>[.bool r]) (sc:=O) (b:=(λr(z:Z4×T')=>cq z.1 z.2 r)) p? (λ_ _=>rfl) (λr a z=>Cl r a z.1 z.2) 100000)
def fJ(B:Z4)(p1:T'):Ps:=H (cm B) λu=>(bg u (H (nj p1) λw=>M (!w)) (M O):aY X').bind λz=>bg z (M 1) (H (pY B p1) λC=>bg C (H (ql p1) λD=>bg D (H (ou B p1) λd=>bg d (M 0) (M 9)) (M 14)) (M 13))
instance Ul(B:Z4)(p1:T'):Fc Sy cL (fJ B p1):=Fc.M 72 [enc B,enc p1] (ck 2 2 B (ck 0 3 p1 (bz 8 λu _=>bP 2 4 [9] 13 (cM 2 9 (bz 1 λw _=>br 2) (br 4)) λz=>bp 3 5 a_ (bz 5 λC _=>cM 4 14 (bz 4 λD _=>cM 4 19 (bz 5 λd _=>cM 4 23 a_ a_) a_) a_))))
def qW(B:T'):aY (Int×Int):=H (nj B) λu=>bg u (H (ql B) λw=>bg w (H (nk B.kind) λz=>M (z,0)) (M (0,14))) (M (0,1))
instance Xc(B:T'):Fc Sy cL (qW B):=Fc.M 73 [enc B] (ck 2 1 B (bz 9 λu _=>cM 4 4 (bz 4 λw _=>cM 4 8 (bz 8 λz _=>a_) a_) a_))
def mE(B:Z4)(p1:T'):Ps:=H (fJ B p1) λu=>bg (u==0) (H (qW p1) λw=>H (bg (w.2==0) (M (!(w.1==2))) (M O):aY X') λz=>bg z (M 14) (M 0)) (M u)
instance We(B:Z4)(p1:T'):Fc Sy cL (mE B p1):=Fc.M 50 [enc B,enc p1] (ck 2 2 B (ck 0 3 p1 (bz 8 λu _=>cM 9 12 (bz 7 λw _=>bP 12 3 [6,21] 24 (cM 12 21 (br 3) (br 3)) λz=>bp 2 24 a_ a_) a_)))
namespace je
def k_(D:Z4)(B J:Int)(T:aZ)(d:X')(x:aZ×WF):aY (Fw Unit Empty aZ):=H (bg (x.2.kind==B) (M (x.2.d?==J)) (M U):aY X') λu=>bg u (M (.r x.1)) (M (.n ()))
def E1(B:Z4)(D J:Int)(T:aZ)(d:X'):aY (aZ×X'):=H (kF B) λu=>H (mw (λ(x:aZ×WF)(q:Unit)=>k_ B D J T d x) u ()) (Fw.sN (λq=>M (⟨0,0⟩,U)) (λe=>k! e) (λe=>M (e,O)))
end je
def je(D:Z4)(B J:Int):aY (aZ×X'):=H (cm D) λu=>bg u (H (ko D) λw=>je.E1 w B J (⟨0,0⟩:aZ) U) (M (⟨0,0⟩,U))
open je in
instance abL(J:Z4)(B D:Int):Fc Sy cL (je J B D):=Fc.M 156 [enc J,.int Z B,.int Z D] (ck 2 3 J (bz 10 λL _=>cM 3 12 (bz 7 λw _=>HT λd z=>D9 4 [Pv 4,Pv 5,Pv 6,Pv 7,(15,.v (.clo 141 [] [.fptr (cells w)]))] (λC=>[(4,.box [iv B]),(5,.box [iv D]),Xb 6 (⟨0,0⟩:aZ),(7,.box [bv U])]) (λu=>k! u) (λu=>[(4,.box [iv B]),(5,.box [iv D]),Xb 6 u,(7,.box [bv O])]) (B3 w d z) (λI C=>lC 8 9 0 I.2 (Bs 1 (bP 9 5 [9,22] 27 (bp 9 22 (br 5) (br 5)) λg=>bp 2 27 a_ a_))) (λC=>a_) (λx=>k! x) (λu=>a_)) a_))
def qv(B:Z4)(m1:Int):aY (aZ×X'):=H (je B 2 m1) λu=>M (u.1,u.2)
instance XX(B:Z4)(m1:Int):Fc Sy cL (qv B m1):=Fc.M 128 [enc B,.int Z m1] (ck 2 2 B (bz 8 λu _=>a_))
namespace l9
def J3(B:Sl aZ)(j:Sl bU)(i a:Int)(b:Sl WF)(c J:Int)(T:Z4)(d g:cF)(e:bU)(D:aZ):aY (Fw ((Sl aZ)×Int×Z4×cF×cF) ((Sl aZ)×Z4×cF) Empty):=H (ec B (D:aZ)) λu=>M (.n (u,y? Z (J+1),T,(⟨Sl.nil,Sl.nil⟩:cF),g))
def bK(i:Sl bU)(a b:Int)(T:Sl WF)(g:Int)(c:bU)(B:Sl aZ)(D:Int)(J:Z4)(d j:cF):aY (Fw ((Sl aZ)×Int×Z4×cF×cF) ((Sl aZ)×Z4×cF) Empty):=bg (_p (D<g)) (H (idx T D) λu=>bg (u.kind==3) (H (qv J u.d?) λw=>J3 B i a b T g D J (⟨Sl.nil,Sl.nil⟩:cF) j c w.1) (J3 B i a b T g D J (⟨Sl.nil,Sl.nil⟩:cF) j c (⟨0,0⟩:aZ))) (M (.x (B,J,j)))
def W2(B:Sl aZ)(T:Sl bU)(g D:Int)(j:Sl WF)(i a:Int)(b:Z4)(c d:cF)(J:bU):aY (Fw (Int×Z4×cF×cF) cF Empty):=H (bM (λq:(Sl aZ)×Int×Z4×cF×cF=>bK T g D j i J q.1 q.2.1 q.2.2.1 q.2.2.2.1 q.2.2.2.2) (B,a,b,c,d)) (Fw.elim (λe=>H (ec e.2.2.lengths (len J.b?:Int)) λu=>H (ec e.2.2.need (e.1:Sl aZ)) λw=>M (.n (y? Z (D+1),e.2.1,(⟨Sl.nil,Sl.nil⟩:cF),(⟨u,w⟩:cF)))) (λe=>k! e))
def bk(D:Sl bU)(J:Int)(B:Int)(d:Z4)(g T:cF):aY (Fw (Int×Z4×cF×cF) cF Empty):=bg (_p (B<J)) (H (idx D B) λu=>W2 (Sl.nil:Sl aZ) D J B u.b? (len u.b?) 0 d (⟨Sl.nil,Sl.nil⟩:cF) T u) (M (.x T))
def W1(B:Sl bU)(D J:Int)(T:Z4)(d g:cF):aY cF:=H (bM (λq:Int×Z4×cF×cF=>bk B D q.1 q.2.1 q.2.2.1 q.2.2.2) (J,T,d,g)) (Fw.elim (λe=>M e) (λe=>k! e))
end l9
def l9(B:Z4):aY cF:=l9.W1 B.a? (len B.a?) 0 B (⟨Sl.nil,Sl.nil⟩:cF) (⟨Sl.nil,Sl.nil⟩:cF)
open l9 in
instance ac8(D:Z4):Fc Sy cL (l9 D):=Fc.N 134 [enc D] (ck 2 1 D (bO 13 D.a? (dZ 7 (λu=>(bF [Pv 1,Pv 2,Pv 3,Cv 11 D.a?,Iv 12 (len D.a?),Iv 13 u.1] [Xb 1 u.2.1,Xb 2 (⟨Sl.nil,Sl.nil⟩:cF),(3,.box [.own 4060,.own 4061]),Lb 4060 u.2.2.2.lengths,Lb 4061 u.2.2.2.need])) (λC=>(0,(bF [Pv 2,Pv 3] [Xb 2 (⟨Sl.nil,Sl.nil⟩:cF),(3,.box [.own 4060,.own 4061]),Lb 4060 C.lengths,Lb 4061 C.need]))) (λu=>bp 9 14 (bH 7 λw _=>lC 2 5 0 w (bO 12 w.b? (dZ 8 (λz=>(bF [Pv 1,Pv 2,Pv 3,Pv 5,Ov 6,Cv 11 D.a?,Iv 12 (len D.a?),Iv 13 u.1,Cv 18 w.b?,Iv 19 (len w.b?),Iv 20 z.2.1] [Xb 1 z.2.2.1,Xb 2 (⟨Sl.nil,Sl.nil⟩:cF),(3,.box [.own 4060,.own 4061]),Xb 5 w,Lb 2006 z.1,Lb 4060 z.2.2.2.2.lengths,Lb 4061 z.2.2.2.2.need])) (λB=>(2,(bF [Pv 1,Pv 2,Pv 3,Pv 5,Ov 6,Cv 11 D.a?,Iv 12 (len D.a?),Iv 13 u.1] [Xb 1 B.2.1,Xb 2 (⟨Sl.nil,Sl.nil⟩:cF),(3,.box [.own 4060,.own 4061]),Xb 5 w,Lb 2006 B.1,Lb 4060 B.2.2.lengths,Lb 4061 B.2.2.need]))) (λz=>bp 10 21 (bH 7 λd _=>lC 2 8 0 d (bp 15 26 (bz 5 λJ _=>tK 10 (kO 4 2006 36 37 λI _=>a_)) (tK 7 (kO 4 2006 36 37 λI _=>a_)))) a_) (λB=>bO 8 w.b? (kO 1 4060 44 45 λL _=>tG 9 50 ([B.1]:aX (Sl aZ)) (kO 0 4061 50 51 λg _=>a_)))))) a_) (λC=>lC 7 2 0 C a_))))
def qG(J:cF)(B:Zg)(p2:Int):aY X':=H (idx B p2) λw=>H (idx J.lengths p2) λz=>bg (w==z) (M U) (H (idx J.need p2) λC=>H (idx B p2) λD=>H (idx C D) λu=>H (idx B u.proc) λd=>M (_p (u.index<=d)))
instance SD(B:cF)(D:Zg)(p2:Int):Fc Sy cL (qG B D p2):=Fc.M 160 [enc B,enc D,.int Z p2] (ck 2 3 B (bH 8 λu _=>bH 4 λw _=>bp 4 17 a_ (bH 8 λz _=>bH 3 λC _=>bH 1 λd _=>bH 12 λI _=>a_)))
def ue(B:Int):aY X':=M (!(B==B))
instance Xa(B:Int):Fc Sy cL (ue B):=Fc.M 197 [.int Z B] (a_)
def rE(B D:Int):Ps:=H (ue B) λw=>H (ue D) λu=>bg w (bg u (M 0) (M (-1))) (bg u (M 1) (bg (_p (B<D)) (M (-1)) (bg (_p (B>D)) (M 1) (M 0))))
instance TT(B D:Int):Fc Sy cL (rE B D):=Fc.M 181 [.int Z B,.int Z D] (bz 8 λu _=>bz 6 λw _=>bp 9 11 (bp 7 12 a_ a_) (bp 9 13 a_ (bp 11 16 a_ (bp 11 19 a_ a_))))
namespace fZ
def bk(T D d:Zg)(J:Int)(B:Int):aY (Fw Int Unit Int):=bg (_p (B<J)) (H (idx d B) λw=>bg (_p (B>=(len D))) (M (.r 1)) (H (idx D B) λz=>H (rE w z) λu=>bg (u==0) (M (.n (y? Z (B+1)))) (M (.r u)))) (M (.x ()))
def W1(B D d:Zg)(J T:Int):Ps:=H (bM (λq:Int=>bk B D d J q) T) (Fw.elim (λe=>bg (_p ((len B)<(len D))) (M (-1)) (M 0)) (λe=>M e))
end fZ
def fZ(B D:Zg):Ps:=fZ.W1 B D B (len B) 0
open fZ in
instance Qt(B D:Zg):Fc Sy cL (fZ B D):=Fc.M 163 [enc B,enc D] (bO 9 B (dU 5 (λw=>(bF [Cv 0 B,Cv 1 D,Cv 9 B,Iv 10 (len B),Iv 11 w] [])) (λu=>(0,(bF [Cv 0 B,Cv 1 D] []))) (λu=>(bF [Iv 4 u] [])) (λw=>bp 7 12 (bH 8 λz _=>bO 10 D (bp 3 19 a_ (bH 7 λC _=>bz 8 λd _=>cM 9 28 a_ a_))) a_) (λu=>bO 6 B (bO 1 D (bp 3 35 a_ a_))) (λu=>a_)))
def lp(a0 B:Zg):Ps:=H (fZ a0 B) λu=>M u
instance Qf(a0 B:Zg):Fc Sy cL (lp a0 B):=Fc.M 162 [enc a0,enc B] (bz 9 λu _=>a_)
namespace fN
def bk(D J:Zg)(T:Int)(B:Int):aY (Fw Int Unit Unit):=bg (_p (B<T)) (H (idx D B) λu=>H (idx J B) λw=>bg (u==w) (M (.n (y? Z (B+1)))) (M (.r ()))) (M (.x ()))
def W1(B D:Zg)(J T:Int):aY X':=H (bM (λq:Int=>bk B D J q) T) (Fw.elim (λe=>M O) (λe=>M U))
end fN
def fN(B D:Zg):aY X':=bg ((len B)==(len D)) (fN.W1 B D (len B) 0) (M U)
open fN in
instance S4(B D:Zg):Fc Sy cL (fN B D):=Fc.M 71 [enc B,enc D] (bO 9 B (bO 1 D (cM 3 10 (bO 7 B (dU 5 (λw=>(bF [Cv 0 B,Cv 1 D,Iv 12 (len B),Iv 13 w] [])) (λu=>(0,(bF [] []))) (λu=>(bF [Bv 4 U] [])) (λw=>bp 7 14 (bH 15 λz _=>bH 3 λC _=>cM 4 24 a_ a_) a_) (λu=>a_) (λu=>a_))) a_)))
def mZ(a0 B:Zg):aY X':=H (fN a0 B) λu=>M u
instance P6(a0 B:Zg):Fc Sy cL (mZ a0 B):=Fc.M 165 [enc a0,enc B] (bz 9 λu _=>a_)
namespace eV
def bK(g:Zg)(W:Zb)(Y a J:Int)(T:cF)(D:Zb)(B:Int):aY (Fw ((Zb)×Int) Zb Empty):=bg (_p (B<J)) ((qG T g B).bind λw=>bg w (((eC g).bind Sl.whole).bind λu=>(Sl.iF u B).bind λz=>(Sl.get u z).bind λC=>(Sl.iF u B).bind λd=>(Sl.put u d (y? Z (C+1):Int)).bind λI=>(ec D (I:Zg)).bind λL=>M (.n (L,y? Z (B+1)))) (M (.n (D,y? Z (B+1))))) (M (.x D))
def W2(B:Zb)(a:Zg)(T:Zb)(D J d i:Int)(g:cF):aY (Fw ((Zb)×Int×Int) Zb Empty):=H (bM (λq:(Zb)×Int=>bK a T D J d g q.1 q.2) (B,i)) (Fw.elim (λe=>M (.n (e,D,y? Z (J+1)))) (λe=>k! e))
def bk(J:Zb)(d:cF)(B:Zb)(T D:Int):aY (Fw ((Zb)×Int×Int) Zb Empty):=bg (_p (D<T)) (H (idx J D) λu=>W2 B u J T D (len u) 0 d) (M (.x B))
def W1(B D:Zb)(J T:Int)(d:cF):aY Zb:=H (bM (λq:(Zb)×Int×Int=>bk D d q.1 q.2.1 q.2.2) (B,J,T)) (Fw.elim (λe=>H (BH e lp) λw=>H (Ax w mZ) λu=>M u) (λe=>k! e))
end eV
def eV(D:cF)(B:Zb):aY Zb:=eV.W1 (Sl.nil:Zb) B (len B) 0 D
open eV in
instance TS(J:cF)(B:Zb):Fc Sy cL (eV J B):=Fc.N 135 [enc J,enc B] (ck 2 2 J (bO 12 B (dZ 6 (λu=>(bF [Pv 2,Ov 5,Cv 10 B,Iv 11 u.2.1,Iv 12 u.2.2] [Xb 2 J,Lb 2005 u.1])) (λd=>(0,(bF [Ov 5] [Lb 2005 d]))) (λu=>bp 8 13 (bH 7 λw _=>bO 7 w (dZ 6 (λC=>(bF [Pv 2,Ov 5,Cv 7 w,Cv 10 B,Iv 11 u.2.1,Iv 12 u.2.2,Iv 17 (len w),Iv 18 C.2] [Xb 2 J,Lb 2005 C.1])) (λI=>(2,(bF [Pv 2,Ov 5,Cv 10 B,Iv 11 u.2.1,Iv 12 u.2.2] [Xb 2 J,Lb 2005 I]))) (λC=>bp 8 19 (bz 16 λQ _=>bp 2 24 (vo 4 26 iu w λS _=>js Z 7 26 λT _=>qD 0 26 0 1 U (λD=>.int Z D) λD _=>js Z 1 26 λi _=>tL 0 26 (.int Z (y? Z (D+1))) λL _=>tG 6 35 ([L]:aX Zg) (kO 0 2005 35 36 λW _=>a_)) a_) a_) (λI=>a_))) a_) (λd=>ac4 5 2005 PU HD YL (iG.rA (λz=>inferInstanceAs (Fc Sy cL (lp z.1 z.2))) default (λ_=>rfl) (λ_=>rfl) (λ_=>rfl) (λ_=>rfl)) λX _=>acT 5 2005 42 PU HD XY (iG.rA (λz=>inferInstanceAs (Fc Sy cL (mZ z.1 z.2))) default (λ_=>rfl) (λ_=>rfl) (λ_=>rfl) (λ_=>rfl)) λg _=>a_))))
namespace lE
def bk(T:cF)(B:Zb)(J:Sl Zb)(D:Int):aY (Fw ((Zb)×(Sl Zb)×Int) (Sl Zb) Unit):=bg (_p ((len B)>0)) (bg (_p ((y? Z (D+(len B)))>5000)) (M (.r ())) (H (ec J (B:Zb)) λu=>H (eV T B) λw=>M (.n (w,u,y? Z (D+(len B)))))) (M (.x J))
def W1(B:Zb)(J:Sl Zb)(D:Int)(T:cF):aY ((Sl Zb)×Int):=H (bM (λq:(Zb)×(Sl Zb)×Int=>bk T q.1 q.2.1 q.2.2) (B,J,D)) (Fw.elim (λe=>M (e,0)) (λe=>M ((Sl.nil:Sl Zb),16)))
end lE
def lE(B:Z4):aY ((Sl Zb)×Int):=H (cm B) λu=>bg u (H (l9 B) λw=>H (nC (len B.a?) (0:Int)) λz=>lE.W1 (Sl.row [z]:Zb) (Sl.nil:Sl Zb) 0 w) (M ((Sl.nil:Sl Zb),1))
open lE in
instance aaa (B:Trace):Fc Sy cL (lE B):=Fc.N 104 [enc B] (ck 2 1 B (bz 8 λD _=>cM 3 10 (bz 6 λz _=>lC 1 4 0 z (bO 6 B.a? (Gq 0 16 λC _=>tG 1 17 ([C]:aX (Sl Int)) (dU 18 (λu=>(bF [Pv 4,Cv 5 u.1,Ov 6,Iv 7 u.2.2] [Xb 4 z,Lb 2006 u.2.1])) (λw=>(0,(bF [Ov 6] [Lb 2006 w]))) (λw=>(bF [Ov 2,Iv 3 16] [Lb 2002 (Sl.nil:Sl (Sl (Sl Int)))])) (λu=>bO 7 u.1 (bp 3 20 (bO 10 u.1 (bp 10 29 a_ (tG 6 32 ([u.1]:aX (Sl (Sl Int))) (kO 0 2006 32 33 λd _=>bz 7 λI _=>a_)))) a_)) (λw=>a_) (λw=>a_))))) a_))
def gM(s:Sl Zb):aY Zb:=if W s.l<=2147483648/\W (s.l.flatMap Sl.l)<=2147483648 then M (E_ s)else G
instance PS(s:Sl Zb):Fc Sy cL (gM s):=Fc.of (A:=λz:Sl Zb=>[enc z]) (E:=λr:Zb=>[enc r]) (p:=gM) (n:=105) (z:=s) (iG.aaA p? p? (λz r h=>by
 unfold gM at h;split at h
 next a=>cases h;exact C9 (Yq (E:=Sy.E) (N:=λn=>n) (gid:=136) (nm:=M) (λ_ _ h=>(Option.some.inj h).symm) Y p? p? (E4 p?) (E4 p?) Y z a.1 a.2)
 cases h))
def mo(B:Z4):aY ((Zb)×Int):=H (lE B) λu=>H (gM u.1) λw=>M (w,u.2)
instance abW(B:Z4):Fc Sy cL (mo B):=Fc.N 80 [enc B] (ck 2 1 B (bz 7 λu _=>bz 10 λw _=>a_))
def mh(B:Z4):aY ((Zb)×Int):=H (mo B) λu=>M (u.1,u.2)
instance abU(B:Z4):Fc Sy cL (mh B):=Fc.N 53 [enc B] (ck 2 1 B (bz 7 λu _=>a_))
namespace iR
def bk(T:Zg)(D:Int)(J:Sl U8)(B:Int):aY (Fw ((Sl U8)×Int) (Sl U8) Empty):=bg (_p (B<D)) (H (idx T B) λu=>H (Sl.iF J B) λw=>H (Sl.put J w (⟨y? .u8 u⟩:U8)) λz=>M (.n (z,y? Z (B+1)))) (M (.x J))
def W1(J:Sl U8)(T:Zg)(B D:Int):aY U':=H (bM (λq:(Sl U8)×Int=>bk T B q.1 q.2) (J,D)) (Fw.elim (λe=>M (Ip e)) (λe=>k! e))
end iR
def iR(B:Zg):aY U':=H (nC (len B) (⟨0⟩:U8)) λu=>iR.W1 u B (len B) 0
open iR in
instance X7(B:Zg):Fc Sy cL (iR B):=Fc.M 74 [enc B] (bO 8 B (Gq 0 8 λC _=>bO 7 B (dZ 6 (λu=>(bF [Ov 3,Cv 9 B,Iv 10 (len B),Iv 11 u.2] [Lb 2003 u.1])) (λw=>(0,(bF [Ov 3] [Lb 2003 w]))) (λu=>bp 8 12 (bH 8 λz _=>js Z 10 2003 λD _=>tL 0 2003 (.int .u8 (y? .u8 z)) λd _=>a_) a_) (λw=>Xt 5 2003 w a_))))
def lJ(B:Zg)(D:Z4):aY X':=M (!((len B)==(len D.a?)))
instance YJ(B:Zg)(D:Z4):Fc Sy cL (lJ B D):=Fc.M 147 [enc B,.fptr (cells D)] (bO 8 B (bO 2 D.a? a_))
namespace iC
def bk(s0:Zb)(D:Int)(B:Int)(p1:(Zg)->aY X'):aY (Fw Int Unit Int):=bg (_p (B<D)) (H (idx s0 B) λu=>H (p1 u) λw=>bg w (M (.r B)) (M (.n (y? Z (B+1))))) (M (.x ()))
def W1(s0:Zb)(B D:Int)(p1:(Zg)->aY X'):Ps:=H (bM (λq:Int=>bk s0 B q p1) D) (Fw.elim (λe=>M (-1)) (λe=>M e))
end iC
def iC(s0:Zb)(p1:(Zg)->aY X'):Ps:=iC.W1 s0 (len s0) 0 p1
open iC in
abbrev zL(g1:FuncId)(e1:aX V)(p1:(Sl Int)->aY Bool)(a:me Sy cL g1 [] e1 (λz:Sl Int=>[enc z]) (λr:Bool=>[.bool r]) p1 O)(s0:Sl (Sl Int)):Fc Sy cL (iC s0 p1):=Fc.M 87 [enc s0,.clo g1 [] e1] (bO 9 s0 (dU 5 (λw=>(bF [Cv 0 s0,(1,.v (.clo g1 [] e1)),Iv 7 (len s0),Iv 8 w] [])) (λu=>(0,(bF [] []))) (λu=>(bF [Iv 4 u] [])) (λw=>bp 7 9 (bH 16 λB _=>yJ 1 a.f B λC _=>bp 2 16 a_ a_) a_) (λu=>a_) (λu=>a_)))
def jx(s0:Zb)(p1:(Zg)->aY X'):aY X':=H (iC s0 p1) λu=>M (_p (u>=0))
abbrev qU(g1:FuncId)(e1:aX V)(p1:(Sl Int)->aY Bool)(a:me Sy cL g1 [] e1 (λz:Sl Int=>[enc z]) (λr:Bool=>[.bool r]) p1 O)(s0:Sl (Sl Int)):Fc Sy cL (jx s0 p1):=Fc.M 64 [enc s0,.clo g1 [] e1] (bz (F:=zL g1 e1 p1 a s0) 9 λu _=>a_)
def zN(D:Z4)(J:Zb):aY X':=H (cm D) λu=>(bg u (H (jx J (λz=>lJ z D)) λw=>M (!w)) (M U):aY X').bind λB=>M B
instance abT(B:Z4)(D:Zb):Fc Sy cL (zN B D):=Fc.M 112 [enc B,enc D] (ck 2 2 B (bz 6 λu _=>bP 1 5 [1,2,7] 12 (bp 1 7 (c_ (F:=qU 147 [.fptr (cells B)] (λz=>lJ z B) me.rA D) 2 λw _=>br 2) (br 5)) λC=>a_))
namespace lH
def bk(J:Zg)(T:Int)(D:Z4)(B:Int):aY (Fw Int Unit Unit):=bg (_p (B<T)) (H (idx J B) λu=>(bg (_p (u<0)) (M O) (H (idx D.a? B) λw=>M (_p (u>(len w.b?)))):aY X').bind λz=>bg z (M (.r ())) (M (.n (y? Z (B+1))))) (M (.x ()))
def W1(D:Zg)(J T:Int)(B:Z4):aY X':=H (bM (λq:Int=>bk D J B q) T) (Fw.elim (λe=>M O) (λe=>M U))
end lH
def lH(D:Z4)(B:Zg):aY X':=lH.W1 B (len B) 0 D
open lH in
instance Z9(D:Z4)(B:Zg):Fc Sy cL (lH D B):=Fc.M 113 [enc D,enc B] (ck 2 2 D (bO 7 B (dU 5 (λw=>(bF [Pv 2,Cv 7 B,Iv 8 (len B),Iv 9 w] [Xb 2 D])) (λu=>(0,(bF [] []))) (λu=>(bF [Bv 4 U] [])) (λw=>bp 7 10 (bH 8 λC _=>bP 10 10 [5,6,16] 26 (bp 10 16 (br 10) (bH 4 λz _=>bO 2 z.b? (br 2))) λd=>bp 2 26 a_ a_) a_) (λu=>a_) (λu=>a_))))
def xw(B:Z4)(p1:Int):aY X':=H (bg (_p (p1>=0)) (M (_p (p1<(len B.a?)))) (M U):aY X') λu=>M u
instance Z8(B:Z4)(p1:Int):Fc Sy cL (xw B p1):=Fc.M 114 [enc B,.int Z p1] (ck 2 2 B (bP 8 6 [1,2,7] 13 (bp 8 7 (bO 3 B.a? (br 2)) (br 6)) λu=>a_))
namespace iX
def bK(g:Zg)(p7:Int)(a:Zg)(b c:Int)(T:Sl WF)(d:Int)(i:Z4)(J D:aZ)(B:Int):aY (Fw Int Unit (aZ×aZ)):=bg (_p (B<d)) (H (idx T B) λw=>bg (w.kind==3) (H (qv i w.d?) λu=>H (idx g u.1.proc) λz=>bg (_p (u.1.index>z)) (M (.r (u.1,(⟨p7,y? Z (B+1)⟩:aZ)))) (M (.n (y? Z (B+1))))) (M (.n (y? Z (B+1))))) (M (.x ()))
def W2(a:Zg)(p7:Int)(T:Zg)(d J:Int)(i:Sl WF)(g b:Int)(c:Z4)(D B:aZ):aY (Fw Int Unit (aZ×aZ)):=H (bM (λq:Int=>bK a p7 T d J i g c D B q) b) (Fw.elim (λe=>M (.n (y? Z (J+1)))) (λe=>M (.r (e.1,e.2))))
def bk(g T:Zg)(d:Int)(i:Z4)(J B:aZ)(D:Int):aY (Fw Int Unit (aZ×aZ)):=bg (_p (D<d)) (H (idx T D) λw=>H (idx i.a? D) λz=>H (iw z.b? G (M w)) λu=>W2 g D T d D u (len u) 0 i J B) (M (.x ()))
def W1(g J:Zg)(T d:Int)(i:Z4)(D B:aZ):aY (aZ×aZ×X'):=H (bM (λq:Int=>bk g J T i D B q) d) (Fw.elim (λe=>M (⟨0,0⟩,⟨0,0⟩,U)) (λe=>M (e.1,e.2,O)))
end iX
def iX(D:Z4)(B:Zg):aY (aZ×aZ×X'):=iX.W1 B B (len B) 0 D (⟨0,0⟩:aZ) (⟨0,0⟩:aZ)
open iX in
instance ZV(D:Z4)(B:Zg):Fc Sy cL (iX D B):=Fc.M 148 [enc D,enc B] (ck 2 2 D (bO 9 B (dU 5 (λu=>(bF [Cv 1 B,Pv 2,Pv 4,Pv 5,Cv 13 B,Iv 14 (len B),Iv 15 u] [Xb 2 D,Xb 4 (⟨0,0⟩:aZ),Xb 5 (⟨0,0⟩:aZ)])) (λw=>(0,(bF [Pv 4,Pv 5] [Xb 4 (⟨0,0⟩:aZ),Xb 5 (⟨0,0⟩:aZ)]))) (λw=>(bF [Pv 4,Pv 5,Bv 6 O] [Xb 4 w.1,Xb 5 w.2])) (λu=>bp 7 16 (bH 8 λI _=>bH 10 λL _=>Fx 3 U O [.int Z I] λC _=>bO 0 C (dU 5 (λd=>(bF [Cv 1 B,Pv 2,Pv 4,Pv 5,Iv 7 u,Cv 13 B,Iv 14 (len B),Iv 15 u,Cv 27 C,Iv 28 (len C),Iv 29 d] [Xb 2 D,Xb 4 (⟨0,0⟩:aZ),Xb 5 (⟨0,0⟩:aZ)])) (λz=>(2,(bF [Cv 1 B,Pv 2,Pv 4,Pv 5,Cv 13 B,Iv 14 (len B),Iv 15 u] [Xb 2 D,Xb 4 (⟨0,0⟩:aZ),Xb 5 (⟨0,0⟩:aZ)]))) (λz=>(bF [Pv 4,Pv 5,Bv 6 O] [Xb 4 z.1,Xb 5 z.2])) (λd=>bp 7 30 (bH 8 λJ _=>lC 3 10 0 J (cM 10 36 (bz 8 λg _=>bH 15 λQ _=>bp 4 51 a_ a_) a_)) a_) (λz=>a_) (λz=>a_))) a_) (λw=>a_) (λw=>a_))))
def yL(B:Z4)(D:Zg):aY X':=H (iX B D) λu=>M (!u.2.2)
instance aaP(B:Z4)(D:Zg):Fc Sy cL (yL B D):=Fc.M 115 [enc B,enc D] (ck 2 2 B (bz 7 λu _=>a_))
namespace di
def dG(D:Zb)(J:Int)(T:Z4)(B:Int):aY (Fw Int Unit Unit):=bg (_p (B<J)) (H (idx D B) λu=>H (yL T u) λw=>bg w (M (.n (y? Z (B+1)))) (M (.r ()))) (M (.x ()))
def W3(B:Zb)(D J:Int)(T:Z4):Ps:=H (bM (λq:Int=>dG B D T q) J) (Fw.elim (λe=>M 0) (λe=>M 18))
def bK(d:Zb)(D:Zg)(J:Int)(T:Z4)(B:Int):aY (Fw Int Unit Unit):=bg (_p (B<J)) (H (idx D B) λu=>H (xw T u) λw=>bg w (M (.n (y? Z (B+1)))) (M (.r ()))) (M (.x ()))
def W2(D:Zb)(J:Zg)(T d:Int)(B:Z4):Ps:=H (bM (λq:Int=>bK D J T B q) d) (Fw.elim (λe=>di.W3 D (len D) 0 B) (λe=>M 2))
def bk(g:Zb)(D:Zg)(J:Zb)(T:Int)(d:Z4)(B:Int):aY (Fw Int Unit Unit):=bg (_p (B<T)) (H (idx J B) λu=>H (lH d u) λw=>bg w (M (.n (y? Z (B+1)))) (M (.r ()))) (M (.x ()))
def W1(g:Zb)(B:Zg)(J:Zb)(T d:Int)(D:Z4):Ps:=H (bM (λq:Int=>bk g B J T D q) d) (Fw.elim (λe=>di.W2 g B (len B) 0 D) (λe=>M 2))
end di
def di(J:Z4)(D:Zb)(B:Zg):Ps:=H (zN J D) λu=>bg u (di.W1 D B D (len D) 0 J) (M 1)
open di in
instance abY(J:Z4)(D:Zb)(B:Zg):Fc Sy cL (di J D B):=Fc.M 88 [enc J,enc D,enc B] (ck 2 3 J (bz 8 λL _=>cM 3 16 (bO 7 D (dU 5 (λC=>(bF [Cv 1 D,Cv 2 B,Pv 3,Cv 17 D,Iv 18 (len D),Iv 19 C] [Xb 3 J])) (λu=>(0,(bF [Cv 1 D,Cv 2 B,Pv 3] [Xb 3 J]))) (λu=>(bF [Iv 6 2] [])) (λC=>bp 7 20 (bH 7 λg _=>bz 8 λQ _=>cM 3 26 a_ a_) a_) (λu=>bO 6 B (dU 5 (λd=>(bF [Cv 1 D,Pv 3,Cv 28 B,Iv 29 (len B),Iv 30 d] [Xb 3 J])) (λw=>(2,(bF [Cv 1 D,Pv 3] [Xb 3 J]))) (λw=>(bF [Iv 6 2] [])) (λd=>bp 7 31 (bH 7 λS _=>bz 8 λT _=>cM 3 37 a_ a_) a_) (λw=>bO 6 D (dU 5 (λI=>(bF [Pv 3,Cv 39 D,Iv 40 (len D),Iv 41 I] [Xb 3 J])) (λz=>(4,(bF [] []))) (λz=>(bF [Iv 6 18] [])) (λI=>bp 7 42 (bH 7 λi _=>bz 8 λj _=>cM 3 48 a_ a_) a_) (λz=>a_) (λz=>a_))) (λw=>a_))) (λu=>a_))) a_))
def xe(D:Z4)(J:Zg)(p2:Int):aY X':=H (idx D.a? p2) λz=>H (idx J p2) λB=>H (idx z.b? B) λu=>bg (u.kind==3) (H (qv D u.d?) λw=>H (idx J w.1.proc) λC=>M (_p (w.1.index<=C))) (M O)
instance aad(B:Z4)(D:Zg)(p2:Int):Fc Sy cL (xe B D p2):=Fc.M 95 [enc B,enc D,.int Z p2] (ck 2 3 B (bH 8 λw _=>bH 4 λz _=>bH 1 λu _=>lC 2 7 0 u (cM 10 24 (bz 8 λC _=>bH 15 λd _=>a_) a_)))
def wX(D:Z4)(B:Zg)(p2:Int):aY ((Zg)×Int):=(di D (Sl.row [B]:Zb) (Sl.row [p2]:Zg)).bind λw=>bg (w==0) ((idx B p2).bind λz=>(idx D.a? p2).bind λC=>bg (z==(len C.b?)) (M (Sl.nil,4)) ((xe D B p2).bind λd=>bg d (((eC B).bind Sl.whole).bind λu=>(Sl.iF u p2).bind λI=>(Sl.get u I).bind λJ=>(Sl.iF u p2).bind λL=>(Sl.put u L (y? Z (J+1):Int)).bind λg=>M (g,0)) (M (Sl.nil,11)))) (M (Sl.nil,w))
instance aaf(D:Z4)(B:Zg)(p2:Int):Fc Sy cL (wX D B p2):=Fc.N 75 [enc D,enc B,.int .i64 p2] (ck 2 3 D (tG 9 12 ([B]:aX Zg) (c_ 2 λz _=>cM 9 17 (bH 9 λC _=>bH 4 λw _=>bO 2 w.b? (bp 4 19 a_ (bz 6 λd _=>cM 4 32 (vo 7 39 iu B λI _=>js .i64 7 39 λJ _=>qD 0 39 0 1 false (λu=>.int .i64 u) λu _=>js .i64 1 39 λL _=>tL 0 39 (.int .i64 (y? .i64 (u+1))) λg _=>a_) a_))) a_)))
namespace dI
def dG(d:Zg)(a:Zb)(b c i:Int)(g:Z4)(T:Mo ByteArray Int)(B:Zg)(J:Int)(D:bA):aY (Fw ((Zg)×Int×bA) ((Zg)×(Mo ByteArray Int)×bA) Empty):=bg (_p (J<i)) (H (wX g d J) λu=>bg (u.2==0) (H (iR u.1) λw=>H (ec B (iM T w 0:Int)) λz=>M (.n (z,y? Z (J+1),D))) (M (.n (B,y? Z (J+1),D)))) (M (.x (B,T,D)))
def W3(d B:Zg)(i:Zb)(g D a b:Int)(c:Z4)(J:Mo ByteArray Int)(T:bA):aY (Fw (Int×(Mo ByteArray Int)×bA) bA Empty):=H (bM (λq:(Zg)×Int×bA=>dG d i g D a c J q.1 q.2.1 q.2.2) (B,b,T)) (Fw.elim (λe=>H (ec e.2.2.next (e.1:Zg)) λu=>M (.n (y? Z (D+1),e.2.1,(⟨e.2.2.t,e.2.2.l,u⟩:bA)))) (λe=>k! e))
def bK(J:Zb)(T:Int)(g:Z4)(D:Int)(d:Mo ByteArray Int)(B:bA):aY (Fw (Int×(Mo ByteArray Int)×bA) bA Empty):=bg (_p (D<T)) (H (idx J D) λu=>W3 u (Sl.nil:Zg) J T D (len u) 0 g d B) (M (.x B))
def W2(J:Zb)(T d:Int)(g:Z4)(B:Mo ByteArray Int)(D:bA):aY ((aY bA)×Int):=H (bM (λq:Int×(Mo ByteArray Int)×bA=>bK J T g q.1 q.2.1 q.2.2) (d,B,D)) (Fw.elim (λe=>M (M e,0)) (λe=>k! e))
def bk(g J:Zb)(T:Int)(d:Z4)(B:Int)(D:Mo ByteArray Int):aY (Fw (Int×(Mo ByteArray Int)) (Mo ByteArray Int) Empty):=bg (_p (B<T)) (H (idx J B) λu=>H (iR u) λw=>M (.n (y? Z (B+1),mA D w B))) (M (.x D))
def W1(J T:Zb)(d g:Int)(B:Z4)(D:Mo ByteArray Int):aY ((aY bA)×Int):=H (bM (λq:Int×(Mo ByteArray Int)=>bk J T d B q.1 q.2) (g,D)) (Fw.elim (λe=>dI.W2 J (len J) 0 B e (⟨B,J,Sl.nil⟩:bA)) (λe=>k! e))
end dI
def dI(B:Z4):aY ((aY bA)×Int):=H (mh B) λu=>bg (u.2==0) (dI.W1 u.1 u.1 (len u.1) 0 B []) (M (G,u.2))
open dI in
instance Xg(D:Z4):Fc Sy cL (dI D):=Fc.N 51 [enc D] (ck 2 1 D (bz 7 λu _=>cM 14 22 (bO 13 u.1 (dZ 5 (λC=>(bF [Pv 1,Cv 4 u.1,(6,.mp 24),Cv 25 u.1,Iv 26 (len u.1),Iv 27 C.1] [Xb 1 D,(24,iZ C.2)])) (λJ=>(0,(bF [Pv 1,Cv 4 u.1,(6,.mp 24)] [Xb 1 D,(24,iZ J)]))) (λC=>bp 7 28 (bH 8 λQ _=>bz 8 λL _=>Ky 1 24 C.2 L C.1 a_) a_) (λJ=>wE 6 (⟨D,u.1,Sl.nil⟩:bA) [enc D,enc u.1] [.bG,.bG,.bG] [(0,1),(1,1)] (by simp only[jQ,lq,f_,oW,nr,pF,oS];rfl) rfl (ck 0 40 (⟨D,u.1,Sl.nil⟩:bA) (bO 7 u.1 (dZ 6 (λw=>(bF [Pv 1,(6,.mp 24),(9,.ptr 40 0),Cv 41 u.1,Iv 42 (len u.1),Iv 43 w.1] [Xb 1 D,(24,iZ w.2.1),(40,.box [cv w.2.2.t.a?,cv w.2.2.l,.own 4802]),Lb 4802 w.2.2.next])) (λd=>(2,(bF [(9,.ptr 40 0)] [(40,.box [cv d.t.a?,cv d.l,.own 4802]),Lb 4802 d.next]))) (λw=>bp 8 44 (bH 7 λI _=>bO 13 I (dZ 7 (λB=>(bF [Pv 1,(6,.mp 24),(9,.ptr 40 0),Cv 11 I,Ov 12,Cv 41 u.1,Iv 42 (len u.1),Iv 43 w.1,Iv 48 (len I),Iv 49 B.2.1] [Xb 1 D,(24,iZ w.2.1),(40,.box [cv B.2.2.t.a?,cv B.2.2.l,.own 4802]),Lb 2012 B.1,Lb 4802 B.2.2.next])) (λz=>(4,(bF [Pv 1,(6,.mp 24),(9,.ptr 40 0),Ov 12,Cv 41 u.1,Iv 42 (len u.1),Iv 43 w.1] [Xb 1 D,(24,iZ z.2.1),(40,.box [cv z.2.2.t.a?,cv z.2.2.l,.own 4802]),Lb 2012 z.1,Lb 4802 z.2.2.next]))) (λB=>bp 9 50 (bz 16 λS _=>bp 13 60 (bz 5 λg _=>Kl 0 24 w.2.1 g 0 (kO 1 2012 66 67 λT _=>a_)) a_) a_) (λz=>tG 10 75 ([z.1]:aX Zg) (kO 0 4802 75 76 λi _=>a_)))) a_) (λd=>a_))))))) a_))
def tM(B:Int):aY X':=H (bg (_p (B>=18)) (M (_p (B<=21))) (M U):aY X') λu=>M u
instance Rb(B:Int):Fc Sy cL (tM B):=Fc.M 98 [.int Z B] (bP 10 3 [0,5] 8 (bp 10 5 (br 3) (br 3)) λu=>a_)
def nR(B:T'):aY X':=H (tM B.kind) λu=>M (!u)
instance NL(B:T'):Fc Sy cL (nR B):=Fc.M 97 [enc B] (ck 2 1 B (bz 7 λu _=>a_))
def nH(D:T'):aY X':=H (nj D) λu=>(bg u (H (oN D (λz=>nR z)) λw=>M (!w)) (M U):aY X').bind λB=>M B
instance Ra(B:T'):Fc Sy cL (nH B):=Fc.M 76 [enc B] (ck 2 1 B (bz 6 λu _=>bP 1 4 [1,5] 9 (bp 1 5 (bz (F:=vz 97 [] (λz=>nR z) me.rA B) 1 λw _=>br 2) (br 4)) λC=>a_))
def sO(D:T')(B:Int):Ps:=H (qW D) λu=>H (bg (u.2==0) (M (!(u.1==B))) (M O):aY X') λw=>bg w (M 14) (M 0)
instance Um(D:T')(B:Int):Fc Sy cL (sO D B):=Fc.M 130 [enc D,.int Z B] (ck 2 2 D (bz 7 λu _=>bP 12 4 [1,5,14] 18 (cM 12 14 (br 4) (br 4)) λw=>bp 2 18 a_ a_))
namespace kz
def bk(J:Zg)(T:Int)(B:Sl aZ)(D:Int):aY (Fw ((Sl aZ)×Int) (Sl aZ) Empty):=bg (_p (D<T)) (H (idx J D) λu=>bg (_p (u>0)) (H (ec B (⟨D,u⟩:aZ)) λw=>M (.n (w,y? Z (D+1)))) (M (.n (B,y? Z (D+1))))) (M (.x B))
def W1(B:Sl aZ)(D:Zg)(J T:Int):aY ((Sl aZ)×Int):=H (bM (λq:(Sl aZ)×Int=>bk D J q.1 q.2) (B,T)) (Fw.elim (λe=>M (e,0)) (λe=>k! e))
end kz
def kz(D:Z4)(B:Zg):aY ((Sl aZ)×Int):=H (di D (Sl.row [B]:Zb) (Sl.nil:Zg)) λu=>bg (u==0) (kz.W1 (Sl.nil:Sl aZ) B (len B) 0) (M (Sl.nil,u))
open kz in
instance Zp(D:Z4)(B:Zg):Fc Sy cL (kz D B):=Fc.N 157 [enc D,enc B] (ck 2 2 D (tG 9 12 ([B]:aX Zg) (c_ 0 λz _=>cM 9 15 (bO 12 B (dZ 6 (λu=>(bF [Ov 7,Cv 17 B,Iv 18 (len B),Iv 19 u.2] [Lb 2007 u.1])) (λw=>(0,(bF [Ov 7] [Lb 2007 w]))) (λu=>bp 8 20 (bH 8 λC _=>bp 11 25 (kO 7 2007 30 31 λd _=>a_) a_) a_) (λw=>a_))) a_)))
namespace gD
def k_(B:bU)(D:Int)(x:Int×(Zg))(J:Zg):aY (Fw Zg Empty Zg):=bg (x.1==D) (M (.r x.2)) (M (.n (Sl.nil:Zg)))
def E1(B:bU)(D:Int)(J:Zg):aY Zg:=H (kD B) λu=>H (mw (λ(x:Int×(Zg))(q:Zg)=>k_ B D x q) u J) (Fw.sN (λq=>M Sl.nil) (λe=>k! e) (λe=>M e))
end gD
def gD(B:bU)(k1:Int):aY Zg:=H (pI B) λu=>gD.E1 u k1 (Sl.nil:Zg)
open gD in
instance Ur(D:bU)(k1:Int):Fc Sy cL (gD D k1):=Fc.N 158 [enc D,.int Z k1] (ck 2 2 D (bz 8 λw _=>HT λC z=>D9 4 [Pv 3,Pv 4,(8,.v (.clo 184 [] [.fptr (cells w)]))] (λB=>[(3,.box [iv k1]),(4,.box [.v .bG])]) (λu=>k! u) (λu=>[(3,.box [iv k1]),(4,.box [cv u])]) (JE w C z) (λd B=>Bs 8 (bp 9 13 (lC 4 4 0 d.2 a_) a_)) (λB=>a_) (λx=>k! x) (λu=>a_)))
namespace kn
def bk(J:Zg)(T:Int)(d:Z4)(D:Zb)(B:Int):aY (Fw ((Zb)×Int) Zb Empty):=bg (_p (B<T)) (H (idx J B) λu=>H (idx d.a? B) λw=>H (gD w u) λz=>H (ec D (z:Zg)) λC=>M (.n (C,y? Z (B+1)))) (M (.x D))
def W1(B:Zb)(D:Zg)(J T:Int)(d:Z4):aY ((Zb)×Int):=H (bM (λq:(Zb)×Int=>bk D J d q.1 q.2) (B,T)) (Fw.elim (λe=>M (e,0)) (λe=>k! e))
end kn
def kn(D:Z4)(B:Zg):aY ((Zb)×Int):=H (kz D B) λu=>bg (u.2==0) (kn.W1 (Sl.nil:Zb) B (len B) 0 D) (M (Sl.nil,u.2))
open kn in
instance ZT(D:Z4)(B:Zg):Fc Sy cL (kn D B):=Fc.N 131 [enc D,enc B] (ck 2 2 D (bz 9 λC _=>cM 13 18 (bO 12 B (dZ 6 (λu=>(bF [Pv 2,Ov 8,Cv 20 B,Iv 21 (len B),Iv 22 u.2] [Xb 2 D,Lb 2008 u.1])) (λw=>(0,(bF [Ov 8] [Lb 2008 w]))) (λu=>bp 8 23 (bH 8 λd _=>bH 10 λI _=>bz 2 λz _=>tG 0 35 ([z]:aX Zg) (kO 0 2008 35 36 λJ _=>a_)) a_) (λw=>a_))) a_))
def ja(B:Var)(D:T'):aY X':=M (S? B.name==S? D.name)
instance IP(B:Var)(D:T'):Fc Sy cL (ja B D):=Fc.M 185 [enc B,.fptr (cells D)] (a_)
def kA(D:bX)(p1:T'):Ps:=H (idx D.t.a? p1.proc) λu=>H (fV u.i? (λz=>ja z p1)) λw=>H (idx D.values p1.proc) λB=>H (idx B w) λC=>M C
instance MH(B:bX)(p1:T'):Fc Sy cL (kA B p1):=Fc.M 177 [enc B,enc p1] (ck 2 2 B (ck 0 3 p1 (bH 10 λu _=>c_ (F:=pL 185 [.fptr (cells p1)] (λz=>ja z p1) me.rA u.i?) 3 λw _=>bH 9 λC _=>bH 2 λD _=>a_)))
def wL(B:Z4)(m1:Int):aY (aZ×X'):=H (je B 3 m1) λu=>M (u.1,u.2)
instance UG(B:Z4)(m1:Int):Fc Sy cL (wL B m1):=Fc.M 199 [enc B,.int Z m1] (ck 2 2 B (bz 8 λu _=>a_))
namespace jr
def bk(j:Zg)(i:Int)(T:Sl WF)(g:Z4)(B:Zg)(J D:Int):aY (Fw ((Zg)×Int×Int) Zg Empty):=bg (_p (D<J)) (H (idx T D) λu=>H (bg (u.kind==2) (M (!(u.k?==i))) (M O):aY X') λC=>bg C (M (.n (B,J,y? Z (D+1)))) (H (wL g u.d?) λw=>(bg w.2 (H (idx j w.1.proc) λd=>M (_p (w.1.index>d))) (M O):aY X').bind λI=>bg I (H (ec B (u.d?:Int)) λz=>M (.n (z,J,y? Z (D+1)))) (M (.n (B,J,y? Z (D+1)))))) (M (.x B))
def W1(i:Zg)(g:Int)(B:Zg)(D:Sl WF)(J T:Int)(d:Z4):aY ((Zg)×Int):=H (bM (λq:(Zg)×Int×Int=>bk i g D d q.1 q.2.1 q.2.2) (B,J,T)) (Fw.elim (λe=>M (e,0)) (λe=>k! e))
end jr
def jr(B:Z4)(D:Zg)(p2 J:Int):aY ((Zg)×Int):=H (di B (Sl.row [D]:Zb) (Sl.row [p2,J]:Zg)) λu=>bg (u==0) (H (idx B.a? p2) λz=>H (idx D p2) λC=>H (iw z.b? G (M C)) λw=>jr.W1 D J (Sl.nil:Zg) w (len w) 0 B) (M (Sl.nil,u))
open jr in
instance Zl(B:Z4)(D:Zg)(p2 J:Int):Fc Sy cL (jr B D p2 J):=Fc.N 186 [enc B,enc D,.int Z p2,.int Z J] (ck 2 4 B (tG 9 18 ([D]:aX Zg) (c_ 3 λL _=>cM 9 24 (bH 14 λg _=>bH 4 λC _=>Fx 1 U O [.int Z C] λw _=>bO 0 w (dZ 6 (λu=>(bF [Cv 1 D,Iv 3 J,Pv 4,Ov 11,Cv 36 w,Iv 37 u.2.1,Iv 38 u.2.2] [Xb 4 B,Lb 2011 u.1])) (λz=>(0,(bF [Ov 11] [Lb 2011 z]))) (λu=>bp 8 39 (bH 7 λd _=>lC 2 13 0 d (bP 9 5 [45] 50 (cM 9 45 (br 5) (br 5)) λQ=>bp 2 50 a_ (bz 8 λS _=>bP 13 9 [14,60] 69 (cM 13 60 (bH 5 λT _=>br 3) (br 9)) λi=>bp 2 69 (kO 6 2011 73 74 λI _=>a_) a_))) a_) (λz=>a_))) a_)))
def ng(B:bX)(p1:T'):Ps:=H (jr B.t B.counts p1.proc p1.k?) λu=>M (len u.1)
instance M4(B:bX)(p1:T'):Fc Sy cL (ng B p1):=Fc.M 178 [enc B,enc p1] (ck 2 2 B (ck 0 3 p1 (bz 13 λu _=>bO 10 u.1 a_)))
def b7(B:bX)(p1:T')(r:(bX×T')->Ps):Ps:=bg (p1.kind==1) (M p1.n) (bg (p1.kind==2) (H (kA B p1) λL=>M L) (bg (p1.kind==3) (H (idx B.counts p1.proc) λg=>M g) (bg (p1.kind==4) (H (ng B p1) λQ=>M Q) (bg (p1.kind==5) (H (idx p1.l 0) λS=>H (r (B,S)) λT=>M (y? Z (0-T))) (bg (p1.kind==6) (H (idx p1.l 0) λi=>H (r (B,i)) λm=>H (idx p1.l 1) λX=>H (r (B,X)) λj=>M (y? Z (m+j))) (bg (p1.kind==7) (H (idx p1.l 0) λu=>H (r (B,u)) λw=>H (idx p1.l 1) λz=>H (r (B,z)) λC=>M (y? Z (w-C))) (H (idx p1.l 0) λD=>H (r (B,D)) λd=>H (idx p1.l 1) λI=>H (r (B,I)) λJ=>M (y? Z (d*J)))))))))
theorem yS(r:(bX×T')->Ps)(a:iG Sy cL 159 (λz:bX×T'=>[enc z.1,enc z.2]) (λr:Int=>[.int Z r]) r O)(B:bX)(p1:T'):Le (H (b7 B p1 r) λr=>M [.int Z r]) (kM cL 159 [enc B,enc p1]):=(Fc.M 159 [enc B,enc p1] (ck 2 2 B (ck 0 3 p1 (bp 17 7 a_ (bp 7 11 (bz 5 λT _=>a_) (bp 7 16 (bH 7 λi _=>a_) (bp 7 24 (bz 5 λo _=>a_) (bp 7 29 (kB 6 33 (Pred.mX p1.l) (bH 0 λd _=>c_ (F:=Fc.of (B,d) a) 1 λX _=>a_)) (bp 7 38 (kB 6 42 (Pred.mX p1.l) (bH 0 λI _=>c_ (F:=Fc.of (B,I) a) 1 λm _=>kB 3 48 (Pred.mX p1.l) (bH 0 λJ _=>c_ (F:=Fc.of (B,J) a) 1 λj _=>a_))) (bp 7 53 (kB 6 57 (Pred.mX p1.l) (bH 0 λu _=>c_ (F:=Fc.of (B,u) a) 1 λL _=>kB 3 63 (Pred.mX p1.l) (bH 0 λw _=>c_ (F:=Fc.of (B,w) a) 1 λg _=>a_))) (kB 9 70 (Pred.mX p1.l) (bH 0 λC _=>c_ (F:=Fc.of (B,C) a) 1 λQ _=>kB 3 76 (Pred.mX p1.l) (bH 0 λD _=>c_ (F:=Fc.of (B,D) a) 1 λS _=>a_)))))))))))):Fc Sy cL (b7 B p1 r)).F.h ()
def ez(B:bX)(p1:T'):Ps:=dY (λr(z:bX×T')=>b7 z.1 z.2 r) 100000 (B,p1)
instance Nl(B:bX)(p1:T'):Fc Sy cL (ez B p1):=Fc.of (B,p1) (iG.fix (A:=λz:bX×T'=>[enc z.1,enc z.2]) (E:=λr:Int=>[.int Z r]) (sc:=O) (b:=(λr(z:bX×T')=>b7 z.1 z.2 r)) p? (λ_ _=>rfl) (λr a z=>yS r a z.1 z.2) 100000)
namespace eM
def J1(j:Int)(i:X')(D:bX)(B:T')(r:(bX×T')->aY X'):aY X':=bg i (M (B.kind==13)) (bg (j==15) (H (idx B.l 0) λu=>H (r (D,u)) λw=>M (!w)) (bg (j==16) (H (idx B.l 0) λz=>H (r (D,z)) λC=>(bg C (H (idx B.l 1) λd=>H (r (D,d)) λI=>M I) (M U):aY X').bind λJ=>M J) (H (idx B.l 0) λL=>H (r (D,L)) λg=>(bg g (M O) (H (idx B.l 1) λQ=>H (r (D,Q)) λS=>M S):aY X').bind λT=>M T)))
theorem oZ(r:(bX×T')->aY X')(a:iG Sy cL 132 (λz:bX×T'=>[enc z.1,enc z.2]) (λr:X'=>[.bool r]) r O)(T:Int)(J:X')(B:bX)(D:T'):Le (H (J1 T J B D r) (λr=>M [.bool r])) (bZ Sy cL (sC (tr Tx 132)) (uz (tb Tx 132) [1,0,1,0,1,1,1,1,1,1,1,1,1,0] [] (bF [Pv 2,Pv 3,Iv 6 T,Bv 67 J] [Xb 2 B,Xb 3 D]))):=bp 0 67 a_ (bp 7 73 (kB 6 77 (Pred.mX D.l) (bH 0 λC _=>c_ (F:=Fc.of (B,C) a) 1 λQ _=>a_)) (bp 7 82 (kB 6 86 (Pred.mX D.l) (bH 0 λd _=>c_ (F:=Fc.of (B,d) a) 1 λS _=>Gs 1 7 [96,89] (λu=>(bF [Bv 67 U,Bv 73 U,Bv 82 O,Bv 97 u] [Xb 2 B,Xb 3 D])) (bp 1 90 (kB 3 93 (Pred.mX D.l) (bH 0 λI _=>c_ (F:=Fc.of (B,I) a) 1 λi _=>br 1)) (br 7)) λu=>a_)) (kB 9 100 (Pred.mX D.l) (bH 0 λL _=>c_ (F:=Fc.of (B,L) a) 1 λj _=>Gs 1 7 [110,103] (λw=>(bF [Bv 67 U,Bv 73 U,Bv 82 U,Bv 111 w] [Xb 2 B,Xb 3 D])) (bp 1 104 (br 7) (kB 3 107 (Pred.mX D.l) (bH 0 λg _=>c_ (F:=Fc.of (B,g) a) 1 λX _=>br 1))) λw=>a_))))
end eM
def cK(B:bX)(p1:T')(r:(bX×T')->aY X'):aY X':=bg (p1.kind==9) (H (idx p1.l 0) λJ=>H (ez B J) λL=>H (idx p1.l 1) λg=>H (ez B g) λQ=>M (L==Q)) (bg (p1.kind==10) (H (idx p1.l 0) λS=>H (ez B S) λT=>H (idx p1.l 1) λi=>H (ez B i) λj=>M (!(T==j))) (bg (p1.kind==11) (H (idx p1.l 0) λX=>H (ez B X) λu=>H (idx p1.l 1) λw=>H (ez B w) λz=>M (_p (u<z))) (bg (p1.kind==12) (H (idx p1.l 0) λC=>H (ez B C) λD=>H (idx p1.l 1) λd=>H (ez B d) λI=>M (_p (D<=I))) (bg (p1.kind==13) (eM.J1 p1.kind O B p1 r) (eM.J1 p1.kind (p1.kind==14) B p1 r)))))
open eM in
theorem zo(r:(bX×T')->aY X')(a:iG Sy cL 132 (λz:bX×T'=>[enc z.1,enc z.2]) (λr:X'=>[.bool r]) r O)(B:bX)(p1:T'):Le (H (cK B p1 r) λr=>M [.bool r]) (kM cL 132 [enc B,enc p1]):=(Fc.M 132 [enc B,enc p1] (ck 2 2 B (ck 0 3 p1 (bp 17 7 (kB 6 11 (Pred.mX p1.l) (bH 0 λL _=>c_ 1 λg _=>kB 3 17 (Pred.mX p1.l) (bH 0 λQ _=>c_ 1 λS _=>a_))) (bp 7 22 (kB 6 26 (Pred.mX p1.l) (bH 0 λT _=>c_ 1 λi _=>kB 3 32 (Pred.mX p1.l) (bH 0 λm _=>c_ 1 λX _=>a_))) (bp 7 37 (kB 6 41 (Pred.mX p1.l) (bH 0 λj _=>c_ 1 λu _=>kB 3 47 (Pred.mX p1.l) (bH 0 λw _=>c_ 1 λC _=>a_))) (bp 7 52 (kB 6 56 (Pred.mX p1.l) (bH 0 λD _=>c_ 1 λd _=>kB 3 62 (Pred.mX p1.l) (bH 0 λI _=>c_ 1 λJ _=>a_))) (bp 8 67 (ye 4 (oZ r a p1.kind O B p1)) (ye 7 (oZ r a p1.kind (p1.kind==14) B p1))))))))):Fc Sy cL (cK B p1 r)).F.h ()
def eM(B:bX)(p1:T'):aY X':=dY (λr(z:bX×T')=>cK z.1 z.2 r) 100000 (B,p1)
instance N3(B:bX)(p1:T'):Fc Sy cL (eM B p1):=Fc.of (B,p1) (iG.fix (A:=λz:bX×T'=>[enc z.1,enc z.2]) (E:=λr:X'=>[.bool r]) (sc:=O) (b:=(λr(z:bX×T')=>cK z.1 z.2 r)) p? (λ_ _=>rfl) (λr a z=>zo r a z.1 z.2) 100000)
namespace kr
def bk(g T:Zb)(d:Int)(J:Z4)(i:T')(B:Sl X')(D:Int):aY (Fw ((Sl X')×Int) (Sl X') ((Zb)×(Sl X')×Int)):=bg (_p (D<d)) (H (idx T D) λw=>H (kn J w) λu=>bg (u.2==0) (H (eM (⟨J,w,u.1⟩:bX) i) λz=>H (ec B (z:X')) λC=>M (.n (C,y? Z (D+1)))) (M (.r ((Sl.nil:Zb),(Sl.nil:Sl X'),u.2)))) (M (.x B))
def W1(g:Zb)(B:Sl X')(D:Zb)(J T:Int)(d:Z4)(i:T'):aY ((Zb)×(Sl X')×Int):=H (bM (λq:(Sl X')×Int=>bk g D J d i q.1 q.2) (B,T)) (Fw.elim (λe=>M (g,e,0)) (λe=>M (e.1,e.2.1,e.2.2)))
end kr
def kr(B:Z4)(p1:T'):aY ((Zb)×(Sl X')×Int):=H (fJ B p1) λw=>bg (w==0) (H (sO p1 2) λz=>bg (z==0) (H (nH p1) λC=>bg C (M (Sl.nil,(Sl.nil:Sl X'),15)) (H (mh B) λu=>bg (u.2==0) (kr.W1 u.1 (Sl.nil:Sl X') u.1 (len u.1) 0 B p1) (M (Sl.nil,(Sl.nil:Sl X'),u.2)))) (M (Sl.nil,(Sl.nil:Sl X'),z))) (M (Sl.nil,(Sl.nil:Sl X'),w))
open kr in
abbrev Hw(D:Trace)(p1:Pred):Te Sy cL (λz:(Sl (Sl Int))=>enc z) (kr D p1):=Te.mk' 99 [enc D,enc p1] (ck 2 2 D (ck 0 3 p1 (bz 10 λI _=>cM 9 20 (bz 7 λJ _=>cM 9 25 (bz 7 λL _=>bp 2 28 a_ (bz 6 λw _=>cM 14 35 (bO 12 w.1 (dU 6 (λB=>(bF [Pv 2,Pv 3,Cv 9 w.1,Ov 11,Cv 37 w.1,Iv 38 (len w.1),Iv 39 B.2] [Xb 2 D,Xb 3 p1,Lb 2011 B.1])) (λu=>(0,(bF [Cv 9 w.1,Ov 11] [Lb 2011 u]))) (λu=>(bF [Cv 4 u.1,Ov 5,Iv 6 u.2.2] [Lb 2005 u.2.1])) (λB=>bp 8 40 (bH 7 λC _=>bz 8 λd _=>cM 14 50 (wE 8 (⟨D,C,d.1⟩:bX) [enc D,enc C,enc d.1] [.bG,.bG,.bG] [(0,1),(1,1),(2,1)] (by simp only[jQ,lq,f_,oW,nr,pF,oS];rfl) Y (bz 1 λg _=>kO 1 2011 59 60 λQ _=>a_)) a_) a_) (λu=>a_) (λu=>a_))) a_)) a_) a_)))
def qi(B:Z4)(p1:T'):aY ((Sl X')×Int):=H (kr B p1) λu=>M (u.2.1,u.2.2)
abbrev E5(B:Trace)(p1:Pred):Tm Sy cL (qi B p1):=Tm.mk' 77 [enc B,enc p1] (ck 2 2 B (ck 0 3 p1 (aav 8 12 (Hw B p1) λu _=>a_)))
namespace eZ
def bk(T:Sl X')(J:Int)(B:Sl X')(D:Int):aY (Fw ((Sl X')×Int) (Sl X') Empty):=bg (_p (D<J)) (H (idx T D) λu=>H (Sl.iF B D) λw=>H (Sl.put B w ((!u):X')) λz=>M (.n (z,y? Z (D+1)))) (M (.x B))
def W1(B T:Sl X')(D J:Int):aY (Sl X'):=H (bM (λq:(Sl X')×Int=>bk T D q.1 q.2) (B,J)) (Fw.elim (λe=>M e) (λe=>k! e))
end eZ
def eZ(B:Sl X'):aY (Sl X'):=H (nC (len B) (U:X')) λu=>eZ.W1 u B (len B) 0
open eZ in
theorem Br:lU Sy cL 78 (λB:Sl X'=>[enc B]) (λz=>eZ z):=lU.mk' (oI (Tx 78)) (λB=>bO 8 B (Gq 0 8 λD _=>bO 7 B (dZ 6 (λu=>(bF [Ov 3,Cv 9 B,Iv 10 (len B),Iv 11 u.2] [Lb 2003 u.1])) (λw=>(0,(bF [Ov 3] [Lb 2003 w]))) (λu=>bp 8 12 (bH 8 λC _=>js Z 10 2003 λd _=>tL 0 2003 (.bool (!C)) λI _=>a_) a_) (λw=>a_))))
namespace dO
def bk(s0:Sl X')(D:X')(J:Int)(B:Int):aY (Fw Int Unit Int):=bg (_p (B<J)) (H (idx s0 B) λu=>bg (D==u) (M (.r B)) (M (.n (y? Z (B+1))))) (M (.x ()))
def W1(s0:Sl X')(B:X')(D J:Int):Ps:=H (bM (λq:Int=>bk s0 B D q) J) (Fw.elim (λe=>M (-1)) (λe=>M e))
end dO
def dO(s0:Sl X')(B:X'):Ps:=dO.W1 s0 B (len s0) 0
open dO in
instance Q9(s0:Sl X')(B:X'):Fc Sy cL (dO s0 B):=Fc.M 23 [enc s0,.bool B] (bO 9 s0 (dU 5 (λw=>(bF [Cv 0 s0,Bv 1 B,Iv 7 (len s0),Iv 8 w] [])) (λu=>(0,(bF [] []))) (λu=>(bF [Iv 4 u] [])) (λw=>bp 7 9 (bH 16 λz _=>bp 4 16 a_ a_) a_) (λu=>a_) (λu=>a_)))
def jK(s0:Sl X')(B:X'):aY X':=H (dO s0 B) λu=>M (_p (u>=0))
instance NM(s0:Sl X')(B:X'):Fc Sy cL (jK s0 B):=Fc.M 133 [enc s0,.bool B] (bz 9 λu _=>a_)
def qV(B:Sl X'):aY X':=H (jK B O) λu=>M u
instance Xe(B:Sl X'):Fc Sy cL (qV B):=Fc.M 102 [enc B] (bz 8 λu _=>a_)
def sD(B:Sl X'):aY X':=(bg (_p ((len B)>0)) (H (jK B U) λu=>M (!u)) (M U):aY X').bind λw=>M w
instance X8(B:Sl X'):Fc Sy cL (sD B):=Fc.M 103 [enc B] (bO 8 B (bP 2 4 [0,6] 10 (bp 2 6 (bz 1 λu _=>br 2) (br 4)) λw=>a_))
def iD(J:Int)(B:Sl X')(i:Int)(T:Sl X'):aY X':=bg (i==18) ((idx T J).bind λd=>(bg d (M O) ((qV B).bind λI=>M I):aY X').bind λL=>M L) (bg (i==19) ((idx T J).bind λg=>(bg g (M O) ((sD B).bind λQ=>M Q):aY X').bind λS=>M S) (bg (i==20) ((idx T J).bind λW=>(bg W ((bg ((len B)==0) (M O) ((qV B).bind λX=>M X):aY X').bind λY=>M Y) (M U):aY X').bind λu=>M u) ((idx T J).bind λw=>(bg w ((bg ((len B)==0) (M O) ((sD B).bind λz=>M z):aY X').bind λC=>M C) (M U):aY X').bind λD=>M D)))
instance J7(D:Int)(B:Sl X')(J:Int)(T:Sl X'):Fc Sy cL (iD D B J T):=Fc.M 101 [.int Z D,enc B,.fptr (cells J),.fptr (cells T)] (bp 18 8 (bH 5 λI _=>bP 2 3 [1,14] 17 (bp 2 14 (br 3) (bz 1 λL _=>br 1)) λg=>a_) (bp 7 18 (bH 5 λQ _=>bP 2 3 [1,24] 27 (bp 2 24 (br 3) (bz 1 λS _=>br 1)) λi=>a_) (bp 7 28 (bH 5 λW _=>bP 2 8 [1,34] 42 (bp 2 34 (bO 1 B (bP 2 3 [1,38] 41 (bp 2 38 (br 3) (bz 1 λX _=>br 1)) λY=>br 1)) (br 8)) λu=>a_) (bH 8 λw _=>bP 2 8 [1,47] 55 (bp 2 47 (bO 1 B (bP 2 3 [1,51] 54 (bp 2 51 (br 3) (bz 1 λz _=>br 1)) λC=>br 1)) (br 8)) λd=>a_))))
namespace dM
def bK(i:bA)(D:Sl X')(g:Int)(T:Zg)(d:Int)(B:Sl X')(J:Int)(p1:(Int×(Sl X'))->aY X'):aY (Fw ((Sl X')×Int) (Sl X') Empty):=bg (_p (J<d)) (H (idx T J) λu=>H (Sl.iF D u) λw=>H (Sl.get D w) λz=>H (ec B (z:X')) λC=>M (.n (C,y? Z (J+1)))) (M (.x B))
def W2(T:bA)(B:Sl X')(J:Int)(D:Sl X')(d:Zg)(i g:Int)(p1:(Int×(Sl X'))->aY X'):aY (Fw ((Sl X')×Int) (Sl X') Empty):=H (bM (λq:(Sl X')×Int=>bK T B J d i q.1 q.2 p1) (D,g)) (Fw.elim (λe=>H (p1 (J,e)) λu=>H (Sl.iF B J) λw=>H (Sl.put B w (u:X')) λz=>M (.n (z,y? Z (J-1)))) (λe=>k! e))
def bk(D:bA)(B:Sl X')(J:Int)(p1:(Int×(Sl X'))->aY X'):aY (Fw ((Sl X')×Int) (Sl X') Empty):=bg (_p (J>=0)) (H (idx D.next J) λu=>W2 D B J (Sl.nil:Sl X') u (len u) 0 p1) (M (.x B))
def W1(D:bA)(B:Sl X')(J:Int)(p1:(Int×(Sl X'))->aY X'):aY (Sl X'):=H (bM (λq:(Sl X')×Int=>bk D q.1 q.2 p1) (B,J)) (Fw.elim (λe=>M e) (λe=>k! e))
end dM
def dM(B:bA)(p1:(Int×(Sl X'))->aY X'):aY (Sl X'):=H (nC (len B.l) (U:X')) λu=>dM.W1 B u (y? Z ((len B.l)-1)) p1
open dM in
theorem yx(g1:Y')(e1:So)(p1:(Int×(Sl X'))->aY X')(a:me Sy cL g1 [] e1 (λz:Int×(Sl X')=>[.int Z z.1,enc z.2]) (λr:X'=>[.bool r]) p1 O)(B:bA):lU Sy cL 100 (λ_:Unit=>[.fptr (cells B),.clo g1 [] e1]) (λ_=>dM B p1):=lU.mk' (oI (Tx 100)) (λ_=>bO 11 B.l (Gq 0 15 λL _=>bO 10 B.l (dZ 7 (λu=>(bF [Kv 0 B,(1,.v (.clo g1 [] e1)),Ov 5,Iv 6 u.2] [Lb 2005 u.1])) (λd=>(0,(bF [Ov 5] [Lb 2005 d]))) (λu=>bp 9 23 (bH 18 λw _=>bO 1 w (dZ 7 (λC=>(bF [Kv 0 B,(1,.v (.clo g1 [] e1)),Ov 5,Iv 6 u.2,Ov 7,Cv 32 w,Iv 33 (len w),Iv 34 C.2] [Lb 2005 u.1,Lb 2007 C.1])) (λD=>(2,(bF [Kv 0 B,(1,.v (.clo g1 [] e1)),Ov 5,Iv 6 u.2,Ov 7] [Lb 2005 u.1,Lb 2007 D]))) (λC=>bp 9 35 (bH 7 λg _=>js Z 8 2005 λQ _=>qD 0 2005 0 1 U (λI=>.bool I) λI _=>kO 1 2007 43 44 λS _=>a_) a_) (λD=>yJ 9 a.f (u.2,D) λJ _=>js Z 0 2005 λT _=>tL 0 2005 (.bool J) λi _=>a_))) a_) (λd=>a_))))
def nh(D:bA)(B:Int)(J:Sl X'):aY (Sl X'):=(H (dM D (λz=>iD z.1 z.2 B J)) Sl.whole).bind λu=>M u
theorem yd(J:bA)(B:Int)(D:Sl X'):lU Sy cL 79 (λ_:Unit=>[.fptr (cells J),.int Z B,enc D]) (λ_=>nh J B D):=lU.mk' (oI (Tx 79)) (λ_=>ck 3 5 D (vo 9 9 (yx 101 [.fptr (cells B),.fptr (cells D)] (λz=>iD z.1 z.2 B D) me.rA J) () λu _=>a_))
namespace cw
def bK(J:Sl X')(i:Int)(j:T')(D:Sl X')(B:Int)(r:(bA×T')->aY (Sl X')):aY (Fw ((Sl X')×Int) (Sl X') Empty):=bg (_p (B<i)) (H (Sl.iF J B) λX=>H (Sl.get J X) λu=>bg (j.kind==16) (H (Sl.iF D B) λw=>H (Sl.get D w) λz=>H (bg z (M u) (M U):aY X') λC=>H (Sl.iF D B) λd=>H (Sl.put D d (C:X')) λI=>M (.n (I,y? Z (B+1)))) (H (Sl.iF D B) λL=>H (Sl.get D L) λg=>H (bg g (M O) (M u):aY X') λQ=>H (Sl.iF D B) λS=>H (Sl.put D S (Q:X')) λT=>M (.n (T,y? Z (B+1))))) (M (.x D))
def W2(d B:Sl X')(D J:Int)(T:T')(r:(bA×T')->aY (Sl X')):aY (Sl X'):=H (bM (λq:(Sl X')×Int=>bK B D T q.1 q.2 r) (d,J)) (Fw.elim (λe=>M e) (λe=>k! e))
def J1(D:bA)(T:Sl X')(J:X')(B:T')(r:(bA×T')->aY (Sl X')):aY (Sl X'):=bg J ((idx B.l 1).bind λw=>((r (D,w)).bind Sl.whole).bind λu=>cw.W2 T u (len u) 0 B r) (((nh D B.kind T).bind Sl.whole).bind λz=>M z)
theorem oZ(r:(bA×T')->aY (Sl X'))(a:lU Sy cL 52 (λz:bA×T'=>[.fptr (cells z.1),enc z.2]) r)(D:bA)(T:Sl X')(J:X')(B:T'):Le ((J1 D T J B r).bind (λr=>M (cG r))) (bZ Sy cL (Fs (tr Tx 52)) (uz (tb Tx 52) [1,1,1,0,1,0,1,1,1,0,0] [] (bF [Kv 0 D,Pv 3,Ov 7,Bv 35 J] [Xb 3 B,Lb 2007 T]))):=bp 0 35 (kB 7 40 (Pred.mX B.l) (bH 0 λS _=>vo 1 43 a (D,S) λg _=>BL 0 43 g (dZ 7 (λI=>(bF [Pv 3,Ov 7,Ov 43,Iv 44 (len g),Iv 45 I.2] [Xb 3 B,Lb 2007 I.1,Lb 2043 g])) (λL=>(1,(bF [Ov 7] [Lb 2007 L]))) (λI=>bp 9 46 (js Z 8 2043 λb _=>qD 0 2043 0 1 U (λu=>.bool u) λu _=>bp 11 52 (js Z 6 2007 λj _=>qD 0 2007 0 1 U (λw=>.bool w) λw _=>bP 1 2 [9,59] 61 (bp 1 59 (br 2) (br 2)) λi=>js Z 0 2007 λW _=>tL 0 2007 (.bool i) λX _=>a_) (js Z 6 2007 λY _=>qD 0 2007 0 1 U (λC=>.bool C) λC _=>bP 1 2 [9,69] 71 (bp 1 69 (br 2) (br 2)) λQ=>js Z 0 2007 λm _=>tL 0 2007 (.bool Q) λc _=>a_)) a_) (λL=>a_)))) (vo 11 79 (yd D B.kind T) () λd _=>a_)
end cw
def cr(B:bA)(p1:T')(r:(bA×T')->aY (Sl X')):aY (Sl X'):=(nH p1).bind λw=>bg w ((idx p1.l 0).bind λz=>((r (B,z)).bind Sl.whole).bind λu=>bg (p1.kind==15) (((eZ u).bind Sl.whole).bind λC=>M C) (bg (p1.kind==16) (cw.J1 B u O p1 r) (cw.J1 B u (p1.kind==17) p1 r))) (((qi B.t p1).bind AS).bind λD=>M D.1)
open cw in
theorem xH(r:(bA×T')->aY (Sl X'))(a:lU Sy cL 52 (λz:bA×T'=>[.fptr (cells z.1),enc z.2]) r)(B:bA)(p1:T'):∀s,cr B p1 r=some s->∃e m',cL 52 ([.fptr (cells B),enc p1].map .v) []=some ([.own e],m')/\bh m' e=some (cG s):=(lU.mk' (oI (Tx 52)) (λ_=>ck 2 3 p1 (bz 7 λC _=>cM 3 12 (kB 8 25 (Pred.mX p1.l) (bH 0 λw _=>vo 1 28 a (B,w) λu _=>bp 17 31 (vo 5 34 Br u λD _=>a_) (bp 8 35 (ye 5 (oZ r a B u true p1)) (ye 8 (oZ r a B u (p1.kind==17) p1))))) (acE (E5 B.t p1) 8 19 λd _=>a_))):lU Sy cL 52 (λ_:Unit=>[.fptr (cells B),enc p1]) (λ_=>cr B p1 r)).h ()
def cw(B:bA)(p1:T'):aY (Sl X'):=dY (λr(z:bA×T')=>cr z.1 z.2 r) 100000 (B,p1)
theorem xD:lU Sy cL 52 (λz:bA×T'=>[.fptr (cells z.1),enc z.2]) (λz:bA×T'=>cw z.1 z.2):=lU.fix (A:=λz:bA×T'=>[.fptr (cells z.1),enc z.2]) (b:=(λr(z:bA×T')=>cr z.1 z.2 r)) p? p? (by intro x;rfl) (λr a z=>xH r a z.1 z.2) 100000
def gE(D:Z4)(p1:T'):aY ((Sl X')×Int):=H (mE D p1) λw=>bg (w==0) (H (dI D) λu=>bg (u.2==0) (H (u.1) λz=>(H (cw z p1) Sl.whole).bind λB=>M (B,0)) (M (Sl.nil,u.2))) (M (Sl.nil,w))
instance Uc(B:Z4)(p1:T'):Fc Sy cL (gE B p1):=Fc.N 28 [enc B,enc p1] (ck 2 2 B (ck 0 3 p1 (bz 9 λu _=>cM 9 13 (bz 6 λw _=>cM 14 21 (H_ 7 (λC=>(bF [Iv 6 u,Bv 13 U,Iv 8 w.2,Bv 21 U,Cv 23 C,Cv 24 p1] [Xb 2 B,Xb 3 p1])) λz _=>vo 0 25 xD (z,p1) λD _=>a_) a_) a_)))
def oR(c:Zg):aY (bQ 8 Int):=M (pS 8 c)
instance WR(c:Zg):Fc Sy cL (oR c):=Fc.of (A:=λz:Zg=>[enc z]) (E:=λr:bQ 8 Int=>[enc r]) (p:=oR) (n:=31) (b:=O) (z:=c) (iG.scalar (iG.aaA p? p? (λz r h=>by
 cases h;exact C9 (Yw p? Y (λ_=>rfl) z))) QS)
namespace dQ
def dG(d:Zg)(g:Zb)(a b i:Int)(T:Mo (bQ 8 Int) Int)(D:Zg)(J:Int)(B:bL):aY (Fw ((Zg)×Int×bL) ((Zg)×(Mo (bQ 8 Int) Int)×bL) Empty):=bg (_p (J<i)) (H (oR d) λu=>H (bQ.at u J) λw=>H (bQ.at u J) λC=>bg (AF T (bQ.set u J (y? Z (w+1)))) (H (ec D (iM T (bQ.set u J (y? Z (w+1))) 0:Int)) λz=>M (.n (z,y? Z (J+1),(⟨B.list,⟨G⟩,B.next⟩:bL)))) (M (.n (D,y? Z (J+1),(⟨B.list,⟨G⟩,B.next⟩:bL))))) (M (.x (D,T,(⟨B.list,⟨G⟩,B.next⟩:bL))))
def W3(d B:Zg)(i:Zb)(g D a b:Int)(J:Mo (bQ 8 Int) Int)(T:bL):aY (Fw (Int×(Mo (bQ 8 Int) Int)×bL) ((Mo (bQ 8 Int) Int)×bL) Empty):=H (bM (λq:(Zg)×Int×bL=>dG d i g D a J q.1 q.2.1 q.2.2) (B,b,T)) (Fw.elim (λe=>H (ec e.2.2.next (e.1:Zg)) λu=>M (.n (y? Z (D+1),e.2.1,(⟨e.2.2.list,⟨G⟩,u⟩:bL)))) (λe=>k! e))
def bK(T:Zb)(d:Int)(J:Int)(D:Mo (bQ 8 Int) Int)(B:bL):aY (Fw (Int×(Mo (bQ 8 Int) Int)×bL) ((Mo (bQ 8 Int) Int)×bL) Empty):=bg (_p (J<d)) (H (idx T J) λu=>W3 u (Sl.nil:Zg) T d J (len u) 0 D (⟨B.list,⟨G⟩,B.next⟩:bL)) (M (.x (D,(⟨B.list,⟨G⟩,B.next⟩:bL))))
def W2(J:Zb)(T d:Int)(B:Mo (bQ 8 Int) Int)(D:bL):aY ((aY bL)×Int):=H (bM (λq:Int×(Mo (bQ 8 Int) Int)×bL=>bK J T q.1 q.2.1 q.2.2) (d,B,D)) (Fw.elim (λe=>M (M (⟨e.2.list,⟨M e.1⟩,e.2.next⟩:bL),0)) (λe=>k! e))
def bk(T d:Zb)(g:Int)(B:Int)(D:Mo (bQ 8 Int) Int)(J:bL):aY (Fw (Int×(Mo (bQ 8 Int) Int)×bL) ((Mo (bQ 8 Int) Int)×bL) Empty):=bg (_p (B<g)) (H (idx d B) λu=>H (oR u) λw=>M (.n (y? Z (B+1),mA D w B,(⟨J.list,⟨G⟩,Sl.nil⟩:bL)))) (M (.x (D,(⟨J.list,⟨G⟩,Sl.nil⟩:bL))))
def W1(B T:Zb)(d g:Int)(D:Mo (bQ 8 Int) Int)(J:bL):aY ((aY bL)×Int):=H (bM (λq:Int×(Mo (bQ 8 Int) Int)×bL=>bk B T d q.1 q.2.1 q.2.2) (g,D,J)) (Fw.elim (λe=>dQ.W2 B (len B) 0 e.1 (⟨e.2.list,⟨G⟩,Sl.nil⟩:bL)) (λe=>k! e))
end dQ
def dQ(B:Z4):aY ((aY bL)×Int):=H (mh B) λu=>bg (u.2==0) (dQ.W1 u.1 u.1 (len u.1) 0 [] (⟨u.1,⟨G⟩,Sl.nil⟩:bL)) (M (G,u.2))
open dQ in
instance Wv(T:Z4):Fc Sy cL (dQ T):=Fc.N 30 [enc T] (ck 2 1 T (bz 7 λu _=>cM 14 22 (acY 7 [cv u.1,.mp 25] [cv u.1,.mp 25,.v .bG] [.bG,.ir,.bG] [(0,1),(1,1)] (by simp only[G8,Rl,Wo,Q0,Ti,Po,f_,oW,nr,pF,oS];rfl) (ack 0 27 [cv u.1,.mp 25,.v .bG] (by simp only[c!,aaR,UB,ZD,Un,kU,jD,kT,jY,OP];rfl) (bO 7 u.1 (dZ 5 (λB=>(bF [Cv 4 u.1,(6,.ptr 27 0),Cv 28 u.1,Iv 29 (len u.1),Iv 30 B.1] [(25,iZ B.2.1),(27,.box [cv B.2.2.list,.mp 25,.v .bG])])) (λL=>(0,(bF [Cv 4 u.1,(6,.ptr 27 0)] [(25,iZ L.1),(27,.box [cv L.2.list,.mp 25,.v .bG])]))) (λB=>bp 7 31 (bH 8 λm _=>c_ 11 λg _=>Ky 1 25 B.2.1 g B.1 a_) a_) (λL=>bO 6 u.1 (dZ 6 (λz=>(bF [(6,.ptr 27 0),Cv 43 u.1,Iv 44 (len u.1),Iv 45 z.1] [(25,iZ z.2.1),(27,.box [cv z.2.2.list,.mp 25,.own 4542]),Lb 4542 z.2.2.next])) (λJ=>(2,(bF [(6,.ptr 27 0)] [(25,iZ J.1),(27,.box [cv J.2.list,.mp 25,.own 4542]),Lb 4542 J.2.next]))) (λz=>bp 8 46 (bH 7 λI _=>bO 13 I (dZ 7 (λw=>(bF [(6,.ptr 27 0),Cv 10 I,Ov 11,Cv 43 u.1,Iv 44 (len u.1),Iv 45 z.1,Iv 50 (len I),Iv 51 w.2.1] [(25,iZ z.2.1),(27,.box [cv w.2.2.list,.mp 25,.own 4542]),Lb 2011 w.1,Lb 4542 w.2.2.next])) (λC=>(4,(bF [(6,.ptr 27 0),Ov 11,Cv 43 u.1,Iv 44 (len u.1),Iv 45 z.1] [(25,iZ C.2.1),(27,.box [cv C.2.2.list,.mp 25,.own 4542]),Lb 2011 C.1,Lb 4542 C.2.2.next]))) (λw=>bp 9 52 (bz 14 λD _=>ZM 0 13 (bF [(6,.ptr 27 0),Cv 10 I,Ov 11,Cv 43 u.1,Iv 44 (len u.1),Iv 45 z.1,Iv 50 (len I),Iv 51 w.2.1,Bv 52 O,Iv 12 w.2.1,Cv 55 D] [(25,iZ z.2.1),(27,.box [cv w.2.2.list,.mp 25,.own 4542]),Lb 2011 w.1,Lb 4542 w.2.2.next]) 8 (0:Int) p? (adP 0 13 (bQ.Jd 8 (0:Int)) D (DU 5 Z 13 λd Q=>O_ 0 1 U 13 D w.2.1 0 d Q (.int Z d) (by rfl) (DU 1 Z 13 λS i=>acs 0 1 13 D w.2.1 0 S i (y? Z (d+1)) (.int Z (y? Z (d+1))) (by rfl) (adG 8 13 (bQ.set D w.2.1 (y? Z (d+1))) Y (aa4 0 25 z.2.1 (bQ.set D w.2.1 (y? Z (d+1))) 0 (bp 12 70 (kO 6 2011 73 74 λX _=>a_) a_))))))) a_) (λC=>tG 10 82 ([C.1]:aX Zg) (kO 0 4542 82 83 λj _=>a_)))) a_) (λJ=>a_))))))) a_))
def mG(B:Z4)(p1:T'):aY ((aY bL)×(Sl X')×Int):=H (gE B p1) λu=>bg (u.2==0) (H (dQ B) λw=>M (w.1,u.1,w.2)) (M (G,Sl.nil,u.2))
instance Ub(B:Z4)(p1:T'):Fc Sy cL (mG B p1):=Fc.N 22 [enc B,enc p1] (ck 2 2 B (ck 0 3 p1 (bz 9 λu _=>cM 14 17 (bz 6 λw _=>a_) a_)))
def mC(D:Z4)(p1:T'):aY (Answer×Int):=H (mG D p1) λu=>bg (u.2.2==0) (H (dO u.2.1 O) λw=>bg (_p (w<0)) (M (⟨1,U,6,Sl.nil,Sl.nil,Sl.nil,Sl.nil,0⟩,0)) (H (u.1) λz=>H (idx z.list w) λB=>M (⟨1,O,1,B,Sl.nil,Sl.nil,Sl.nil,0⟩,0))) (M (⟨0,U,0,Sl.nil,Sl.nil,Sl.nil,Sl.nil,0⟩,u.2.2))
instance Sg(B:Z4)(p1:T'):Fc Sy cL (mC B p1):=Fc.N 9 [enc B,enc p1] (ck 2 2 B (ck 0 3 p1 (bz 8 λw _=>cM 16 18 (bz 6 λz _=>bp 10 24 (wE 3 (⟨1,U,6,Sl.nil,Sl.nil,Sl.nil,Sl.nil,0⟩:Answer) [.int Z 1,.int Z 6] [.int Z 0,.bool U,.int Z 0,.bG,.bG,.bG,.bG,.int Z 0] [(0,1),(2,1)] (by simp only[jQ,lq,f_,oW,nr,pF,oS];rfl) Y (lC 0 4 0 (⟨1,U,6,Sl.nil,Sl.nil,Sl.nil,Sl.nil,0⟩:Answer) a_)) (H_ 6 (λC=>(bF [Pv 4,Iv 8 w.2.2,Bv 18 U,Iv 9 z,Bv 24 U,Cv 26 C] [Xb 2 B,Xb 3 p1,Xb 4 (⟨0,U,0,Sl.nil,Sl.nil,Sl.nil,Sl.nil,0⟩:Answer)])) λD _=>bH 4 λu _=>wE 1 (⟨1,O,1,u,Sl.nil,Sl.nil,Sl.nil,0⟩:Answer) [.int Z 1,.bool O,.int Z 1,enc u] [.int Z 0,.bool U,.int Z 0,.bG,.bG,.bG,.bG,.int Z 0] [(0,1),(1,1),(2,1),(3,1)] (by simp only[jQ,lq,f_,oW,nr,pF,oS];rfl) Y (lC 0 4 0 (⟨1,O,1,u,Sl.nil,Sl.nil,Sl.nil,0⟩:Answer) a_))) (wE 3 (⟨0,U,0,Sl.nil,Sl.nil,Sl.nil,Sl.nil,0⟩:Answer) [] [.int Z 0,.bool U,.int Z 0,.bG,.bG,.bG,.bG,.int Z 0] [] (by simp only[jQ,lq,f_,oW,nr,pF,oS];rfl) Y (lC 1 4 0 (⟨0,U,0,Sl.nil,Sl.nil,Sl.nil,Sl.nil,0⟩:Answer) a_)))))
namespace dc
def bK(g:bL)(d:Sl X')(i a:Zb)(b c:Int)(T:Zg)(B:Sl X')(J D:Int):aY (Fw ((Sl X')×Int×Int) (Sl X') Empty):=bg (_p (D<J)) (H (idx T D) λu=>H (Sl.iF B u) λw=>H (Sl.put B w (O:X')) λz=>M (.n (z,J,y? Z (D+1)))) (M (.x B))
def W2(d:bL)(J B:Sl X')(D i:Zb)(g T:Int)(a:Zg)(b c:Int):aY (Fw ((Sl X')×(Zb)×Int) Zb Unit):=H (bM (λq:(Sl X')×Int×Int=>bK d J D i g T a q.1 q.2.1 q.2.2) (B,b,c)) (Fw.elim (λe=>M (.n (e,D,y? Z (T+1)))) (λe=>k! e))
def bk(g:bL)(T:Sl X')(W:Zb)(Y:Int)(B:Sl X')(J:Zb)(D:Int):aY (Fw ((Sl X')×(Zb)×Int) Zb Unit):=bg (_p (D<Y)) ((idx W D).bind λw=>(Sl.iF B D).bind λz=>(Sl.get B z).bind λC=>bg C ((idx T D).bind λd=>bg d (((eC w).bind Sl.whole).bind λI=>(ec J (I:Zg)).bind λL=>M (.n (B,L,y? Z (D+1)))) (bg (D==(y? Z ((len g.list)-1))) (M (.r ())) ((idx g.next D).bind λu=>W2 g T B J W Y D u (len u) 0))) (M (.n (B,J,y? Z (D+1))))) (M (.x J))
def W1(T:bL)(D B:Sl X')(J d:Zb)(i g:Int):aY ((Zb)×X'):=H (bM (λq:(Sl X')×(Zb)×Int=>bk T D d i q.1 q.2.1 q.2.2) (B,J,g)) (Fw.elim (λe=>M (e,O)) (λe=>M ((Sl.nil:Zb),U)))
end dc
def dc(D:bL)(B:Sl X'):aY ((Zb)×X'):=H (nC (len D.list) (U:X')) λu=>H (Sl.iF u 0) λw=>H (Sl.put u w (O:X')) λz=>dc.W1 D B z (Sl.nil:Zb) D.list (len D.list) 0
open dc in
instance Ke(D:bL)(B:Sl X'):Fc Sy cL (dc D B):=Fc.N 24 [.fptr (cells D),enc B] (bO 12 D.list (Gq 0 17 λT _=>js Z 6 17 λi _=>tL 0 17 (.bool O) λW _=>bO 14 D.list (dU 7 (λu=>(bF [Kv 0 D,Cv 1 B,Ov 6,Ov 7,Cv 23 D.list,Iv 24 (len D.list),Iv 25 u.2.2] [Lb 2006 u.1,Lb 2007 u.2.1])) (λw=>(0,(bF [Ov 7] [Lb 2007 w]))) (λw=>(bF [Ov 4,Bv 5 U] [Lb 2004 (Sl.nil:Zb)])) (λu=>bp 9 26 (bH 8 λJ _=>js Z 11 2006 λX _=>qD 0 2006 0 1 U (λd=>.bool d) λd _=>cM 4 30 (bH 5 λY _=>bp 4 36 (vo 5 43 iu J λL _=>tG 1 44 ([L]:aX Zg) (kO 0 2007 44 45 λj _=>a_)) (bO 8 D.list (bp 5 46 a_ (bH 11 λC _=>bO 1 C (dZ 7 (λz=>(bF [Kv 0 D,Cv 1 B,Ov 6,Ov 7,Cv 23 D.list,Iv 24 (len D.list),Iv 25 u.2.2,Cv 61 C,Iv 62 z.2.1,Iv 63 z.2.2] [Lb 2006 z.1,Lb 2007 u.2.1])) (λI=>(3,(bF [Kv 0 D,Cv 1 B,Ov 6,Ov 7,Cv 23 D.list,Iv 24 (len D.list),Iv 25 u.2.2] [Lb 2006 I,Lb 2007 u.2.1]))) (λz=>bp 9 64 (bH 7 λg _=>js Z 7 2006 λQ _=>tL 0 2006 (.bool O) λS _=>a_) a_) (λI=>a_)))))) a_) a_) (λw=>a_) (λw=>a_))))
namespace eG
def bk(J:Sl X')(T:Zb)(d:Int)(B:Zb)(D:Int):aY (Fw ((Zb)×Int) Zb Empty):=bg (_p (D<d)) (H (idx T D) λu=>H (idx J D) λw=>bg w (H (ec B (u:Zg)) λz=>M (.n (z,y? Z (D+1)))) (M (.n (B,y? Z (D+1))))) (M (.x B))
def W1(B:Sl X')(D J:Zb)(T d:Int):aY Zb:=H (bM (λq:(Zb)×Int=>bk B J T q.1 q.2) (D,d)) (Fw.elim (λe=>M e) (λe=>k! e))
end eG
def eG(D:bL)(B:Sl X'):aY Zb:=eG.W1 B (Sl.nil:Zb) D.list (len D.list) 0
open eG in
instance M3(D:bL)(B:Sl X'):Fc Sy cL (eG D B):=Fc.N 26 [.fptr (cells D),enc B] (bO 17 D.list (dZ 6 (λu=>(bF [Cv 1 B,Ov 5,Cv 11 D.list,Iv 12 (len D.list),Iv 13 u.2] [Lb 2005 u.1])) (λw=>(0,(bF [Ov 5] [Lb 2005 w]))) (λu=>bp 8 14 (bH 8 λz _=>bH 9 λC _=>bp 3 21 (tG 4 24 ([z]:aX Zg) (kO 0 2005 24 25 λd _=>a_)) a_) a_) (λw=>a_)))
def tn(B:Z4)(D:Zg):aY X':=H (di B (Sl.row [D]:Zb) (Sl.nil:Zg)) λu=>M (u==0)
instance UU(B:Z4)(D:Zg):Fc Sy cL (tn B D):=Fc.M 66 [enc B,enc D] (ck 2 2 B (tG 7 7 ([D]:aX Zg) (c_ 0 λu _=>a_)))
def rM(B:Zg)(D:Z4):aY X':=H (tn D B) λu=>M (!u)
instance TP(B:Zg)(D:Z4):Fc Sy cL (rM B D):=Fc.M 65 [enc B,.fptr (cells D)] (bz 9 λu _=>a_)
def uh(a B:WF):aY X':=H (bg (a.kind==2) (M (a.d?==B.d?)) (M U):aY X') λu=>M u
instance WH(a B:WF):Fc Sy cL (uh a B):=Fc.M 89 [enc a,.fptr (cells B)] (ck 2 2 a (bP 9 6 [1,2,7] 13 (bp 9 7 (br 6) (br 6)) λu=>a_))
def yK(B:Z4)(e1:WF):aY (aZ×X'):=H (idx B.a? e1.k?) λw=>H (ga w.b? (λz=>uh z e1)) λu=>M (⟨e1.k?,y? Z (u+1)⟩,_p (u>=0))
instance abG(B:Z4)(e1:WF):Fc Sy cL (yK B e1):=Fc.M 69 [enc B,enc e1] (ck 2 2 B (ck 0 3 e1 (bH 10 λu _=>c_ (F:=sq 89 [.fptr (cells e1)] (λz=>uh z e1) me.rA u.b?) 3 λw _=>a_)))
namespace i_
def J3(d:Sl aZ)(i:Sl bU)(g a:Int)(b:Sl WF)(c J:Int)(T:Z4)(B:aZ)(D:cO):aY (Fw ((Sl aZ)×Int×Z4×cO) ((Sl aZ)×Z4×cO) Empty):=H (ec d (B:aZ)) λu=>M (.n (u,y? Z (J+1),T,D))
def bK(i:Sl bU)(g b:Int)(T:Sl WF)(d:Int)(a:Sl aZ)(D:Int)(J:Z4)(B:cO):aY (Fw ((Sl aZ)×Int×Z4×cO) ((Sl aZ)×Z4×cO) Empty):=bg (_p (D<d)) (H (idx T D) λu=>bg (u.kind==3) (H (yK J u) λw=>J3 a i g b T d D J w.1 B) (J3 a i g b T d D J (⟨0,0⟩:aZ) B)) (M (.x (a,J,B)))
def W2(a:Sl aZ)(J:Sl bU)(T B:Int)(d:Sl WF)(i g:Int)(b:Z4)(D:cO):aY (Fw (Int×Z4×cO) cO Empty):=H (bM (λq:(Sl aZ)×Int×Z4×cO=>bK J T B d i q.1 q.2.1 q.2.2.1 q.2.2.2) (a,g,b,D)) (Fw.elim (λe=>H (ec e.2.2.needs (e.1:Sl aZ)) λu=>M (.n (y? Z (B+1),e.2.1,(⟨e.2.2.t,u⟩:cO)))) (λe=>k! e))
def bk(J:Sl bU)(T:Int)(D:Int)(d:Z4)(B:cO):aY (Fw (Int×Z4×cO) cO Empty):=bg (_p (D<T)) (H (idx J D) λu=>W2 (Sl.nil:Sl aZ) J T D u.b? (len u.b?) 0 d B) (M (.x B))
def W1(D:Sl bU)(J T:Int)(d:Z4)(B:cO):aY (aY cO):=H (bM (λq:Int×Z4×cO=>bk D J q.1 q.2.1 q.2.2) (T,d,B)) (Fw.elim (λe=>M (M e)) (λe=>k! e))
end i_
def i_(B:Z4):aY (aY cO):=i_.W1 B.a? (len B.a?) 0 B (⟨B,Sl.nil⟩:cO)
open i_ in
instance acg(B:Z4):Fc Sy cL (i_ B):=Fc.N 44 [enc B] (ck 2 1 B (wE 6 (⟨B,Sl.nil⟩:cO) [enc B] [.bG,.bG] [(0,1)] (by simp only[jQ,lq,f_,oW,nr,pF,oS];rfl) Y (ck 0 12 (⟨B,Sl.nil⟩:cO) (bO 8 B.a? (dZ 6 (λu=>(bF [Pv 1,(3,.ptr 12 0),Cv 14 B.a?,Iv 15 (len B.a?),Iv 16 u.1] [Xb 1 u.2.1,(12,.box [cv u.2.2.t.a?,.own 4241]),Lb 4241 u.2.2.needs])) (λD=>(0,(bF [(3,.ptr 12 0)] [(12,.box [cv D.t.a?,.own 4241]),Lb 4241 D.needs]))) (λu=>bp 8 17 (bH 7 λC _=>lC 2 5 0 C (bO 12 C.b? (dZ 7 (λw=>(bF [Pv 1,(3,.ptr 12 0),Ov 6,Cv 14 B.a?,Iv 15 (len B.a?),Iv 16 u.1,Cv 21 C.b?,Iv 22 (len C.b?),Iv 23 w.2.1] [Xb 1 w.2.2.1,(12,.box [cv w.2.2.2.t.a?,.own 4241]),Lb 2006 w.1,Lb 4241 w.2.2.2.needs])) (λz=>(2,(bF [Pv 1,(3,.ptr 12 0),Ov 6,Cv 14 B.a?,Iv 15 (len B.a?),Iv 16 u.1] [Xb 1 z.2.1,(12,.box [cv z.2.2.t.a?,.own 4241]),Lb 2006 z.1,Lb 4241 z.2.2.needs]))) (λw=>bp 9 24 (bH 7 λd _=>lC 2 8 0 d (bp 15 29 (bz 4 λJ _=>tK 9 (kO 4 2006 38 39 λI _=>a_)) (tK 6 (kO 4 2006 38 39 λI _=>a_)))) a_) (λz=>tG 10 47 ([z.1]:aX (Sl aZ)) (kO 0 4241 47 48 λL _=>a_))))) a_) (λD=>a_))))))
namespace jN
def bk(T:Zg)(D:Int)(J:Sl U8)(B:Int):aY (Fw ((Sl U8)×Int) (Sl U8) Empty):=bg (_p (B<D)) (H (idx T B) λu=>H (ec J (⟨y? .u8 u⟩:U8)) λw=>M (.n (w,y? Z (B+1)))) (M (.x J))
def W1(J:Sl U8)(T:Zg)(B D:Int):aY U':=H (bM (λq:(Sl U8)×Int=>bk T B q.1 q.2) (J,D)) (Fw.elim (λe=>M (Ip e)) (λe=>k! e))
end jN
def jN(B:Zg):aY U':=H (xE (len B) (⟨0⟩:U8)) λu=>jN.W1 u B (len B) 0
open jN in
instance ads(B:Zg):Fc Sy cL (jN B):=Fc.M 45 [enc B] (bO 8 B (adY (zero:=[.int .u8 0]) 0 8 λz _=>bO 7 B (dZ 6 (λu=>(bF [Ov 3,Cv 9 B,Iv 10 (len B),Iv 11 u.2] [Lb 2003 u.1])) (λw=>(0,(bF [Ov 3] [Lb 2003 w]))) (λu=>bp 8 12 (bH 7 λC _=>kO 9 2003 18 19 λD _=>a_) a_) (λw=>Xt 5 2003 w a_))))
def qR(s0:cO)(B:Zg)(p2:Int):aY X':=H (bg (_p (p2<0)) (M O) (M (_p (p2>=(len B)))):aY X') λw=>(bg w (M O) (H (idx B p2) λz=>H (idx s0.needs p2) λC=>M (_p (z>=(len C)))):aY X').bind λD=>bg D (M U) (H (idx s0.needs p2) λd=>H (idx B p2) λI=>H (idx d I) λu=>(bg (u.index==0) (M O) (H (idx B u.proc) λJ=>M (_p (u.index<=J))):aY X').bind λL=>M L)
instance WV(s0:cO)(B:Zg)(p2:Int):Fc Sy cL (qR s0 B p2):=Fc.M 67 [.fptr (cells s0),enc B,.int Z p2] (bP 11 5 [10] 15 (bp 11 10 (br 5) (bO 2 B (br 2))) λw=>bP 1 14 [16] 30 (bp 1 16 (br 14) (bH 2 λz _=>bH 6 λu _=>bO 1 u (br 2))) λC=>bp 2 30 a_ (bH 10 λD _=>bH 3 λd _=>bH 1 λI _=>bP 11 9 [1,7,47] 56 (bp 11 47 (br 9) (bH 5 λJ _=>br 3)) λL=>a_))
def sA(D:Zg)(p1:Int):aY Zg:=(H (eC D) Sl.whole).bind λu=>H (Sl.iF u p1) λw=>H (Sl.get u w) λz=>H (Sl.iF u p1) λB=>H (Sl.put u B (y? Z (z+1):Int)) λC=>M C
instance ac0(B:Zg)(p1:Int):Fc Sy cL (sA B p1):=Fc.N 68 [enc B,.int Z p1] (vo 8 7 iu B λw _=>js Z 7 7 λz _=>qD 0 7 0 1 U (λu=>.int Z u) λu _=>js Z 1 7 λC _=>tL 0 7 (.int Z (y? Z (u+1))) λD _=>a_)
namespace eO
def dG(Y:Zb)(g:cO)(a:Int)(J:Zg)(W:Int)(b T:Mo ByteArray X')(D:X')(B:Int):aY (Fw (X'×Int) Bool Empty):=bg (_p (B<W)) ((bg D (M O) ((qR g J B).bind λd=>(bg d ((sA J B).bind λu=>(jN u).bind λw=>M (iM T w U)) (M U):aY X').bind λz=>M z):aY X').bind λC=>M (.n (C,y? Z (B+1)))) (M (.x D))
def W3(T:Zb)(Y:cO)(d:Int)(J:Zg)(W:X')(a b:Int)(B D:Mo ByteArray X'):aY (Fw (Int×(Mo ByteArray X')) (Mo ByteArray X') Empty):=(bM (λq:X'×Int=>dG T Y d J a B D q.1 q.2) (W,b)).bind (Fw.elim (λe=>(jN J).bind λu=>(bg e ((jN J).bind λw=>M (!iM B w U)) (M U):aY X').bind λz=>M (.n (y? Z (d-1),mA D u z))) (λe=>k! e))
def bK(B:Zb)(d:cO)(T:Mo ByteArray X')(D:Int)(J:Mo ByteArray X'):aY (Fw (Int×(Mo ByteArray X')) (Mo ByteArray X') Empty):=bg (_p (D>=0)) (H (idx B D) λu=>W3 B d D u (D==(y? Z ((len B)-1))) (len u) 0 T J) (M (.x J))
def W2(B:Zb)(T:cO)(d:Int)(D J:Mo ByteArray X'):aY ((zu ByteArray X')×Int):=H (bM (λq:Int×(Mo ByteArray X')=>bK B T D q.1 q.2) (d,J)) (Fw.elim (λe=>M (⟨M e⟩,0)) (λe=>k! e))
def bk(d:Zb)(g:cO)(J:Zb)(T:Int)(i:Mo ByteArray X')(D:Int)(B:Mo ByteArray X'):aY (Fw (Int×(Mo ByteArray X')) (Mo ByteArray X') Empty):=bg (_p (D<T)) (H (idx J D) λu=>H (jN u) λw=>M (.n (y? Z (D+1),mA B w O))) (M (.x B))
def W1(B:Zb)(J:cO)(d:Zb)(i g:Int)(T D:Mo ByteArray X'):aY ((zu ByteArray X')×Int):=H (bM (λq:Int×(Mo ByteArray X')=>bk B J d i D q.1 q.2) (g,T)) (Fw.elim (λe=>eO.W2 B J (y? Z ((len B)-1)) e D) (λe=>k! e))
end eO
def eO(B:Z4)(D:Zb):aY ((zu ByteArray X')×Int):=H (cm B) λw=>bg w (bg (_p ((len D)>5000)) (M (⟨G⟩,5)) (H (jx D (λz=>rM z B)) λC=>bg C (M (⟨G⟩,18)) (H (mh B) λu=>bg (u.2==0) (H (i_ B) λd=>H (d) λI=>eO.W1 u.1 I D (len D) 0 [] []) (M (⟨G⟩,u.2))))) (M (⟨G⟩,1))
open eO in
instance Yx(T:Z4)(J:Zb):Fc Sy cL (eO T J):=Fc.NE (λr:(zu ByteArray X')×Int=>[enc r.1,.int Z r.2]) 43 [enc T,enc J] (ck 2 2 T (bz 9 λb _=>cM 4 17 (bO 4 J (bp 4 21 a_ (c_ (F:=qU 65 [.fptr (cells T)] (λz=>rM z T) me.rA J) 5 λc _=>bp 3 25 a_ (bz 7 λu _=>cM 14 35 (bz 6 λd _=>H_ 5 (λa=>(bF [Cv 1 J,Bv 17 U,Bv 21 U,Bv 25 U,Cv 6 u.1,Iv 7 u.2,Bv 35 U,Cv 8 a] [Xb 2 T])) λC _=>bO 10 J (dZ 5 (λD=>(bF [Cv 6 u.1,Kv 8 C,(9,.mp 39),(10,.mp 40),Cv 41 J,Iv 42 (len J),Iv 43 D.1] [(39,iZ D.2),(40,iZ ([]:Mo ByteArray X'))])) (λB=>(1,(bF [Cv 6 u.1,Kv 8 C,(9,.mp 39),(10,.mp 40)] [(39,iZ B),(40,iZ ([]:Mo ByteArray X'))]))) (λD=>bp 7 44 (bH 7 λe _=>bz 7 λX _=>Ky 0 39 D.2 X O a_) a_) (λB=>bO 6 u.1 (dZ 6 (λw=>(bF [Cv 6 u.1,Kv 8 C,(9,.mp 39),(10,.mp 40),Iv 13 w.1] [(39,iZ B),(40,iZ w.2)])) (λL=>(3,(bF [(10,.mp 40)] [(40,iZ L)]))) (λw=>bp 8 55 (bH 9 λi _=>bO 8 u.1 (bO 9 i (dZ 5 (λI=>(bF [Cv 6 u.1,Kv 8 C,(9,.mp 39),(10,.mp 40),Iv 13 w.1,Cv 14 i,Bv 15 I.1,Iv 68 (len i),Iv 69 I.2] [(39,iZ B),(40,iZ w.2)])) (λj=>(5,(bF [Cv 6 u.1,Kv 8 C,(9,.mp 39),(10,.mp 40),Iv 13 w.1,Cv 14 i,Bv 15 j] [(39,iZ B),(40,iZ w.2)]))) (λI=>bp 7 70 (bP 14 13 [16,73] 86 (bp 14 73 (br 13) (bz 3 λf _=>bP 1 7 [16,78] 85 (bp 1 78 (bz 3 λY _=>bz 0 λQ _=>Kl 0 40 w.2 Q U (br 1)) (br 7)) λo=>br 1)) λg=>a_) a_) (λj=>bz 5 λS _=>bP 2 6 [14,92] 98 (bp 2 92 (bz 2 λm _=>Kl 0 39 B m U (br 2)) (br 6)) λW=>Ky 0 40 w.2 S W a_)))) a_) (λL=>a_))))) a_)))) a_))
def od(s0:cO):aY Zg:=H (nC (len s0.needs) (0:Int)) λu=>M u
theorem ru:lU Sy cL 46 (λs0:cO=>[.fptr (cells s0)]) (λz=>od z):=lU.mk' (oI (Tx 46)) (λs0=>bO 11 s0.needs (Gq 0 8 λu _=>a_))
def qb(B:Zg)(D:zu ByteArray X'):aY X':=H (jN B) λu=>M (iM (yp D) u U)
instance YM(D:Zg)(B:zu ByteArray X'):Fc Sy cL (qb D B):=Fc.M 48 [enc D,.fptr (cells B)] (c_ 9 λu _=>R6 0 B u U a_)
namespace hD
def bk(D:Sl (Sl aZ))(J:Int)(T:Zg)(B:Int):aY (Fw ((Zg)×Int) Zg Empty):=bg (_p (B<J)) (H (idx D B) λu=>H (Sl.iF T B) λw=>H (Sl.put T w (len u:Int)) λz=>M (.n (z,y? Z (B+1)))) (M (.x T))
def W1(T:Zg)(B:Sl (Sl aZ))(D J:Int):aY Zg:=H (bM (λq:(Zg)×Int=>bk B D q.1 q.2) (T,J)) (Fw.elim (λe=>M e) (λe=>k! e))
end hD
def hD(s0:cO):aY Zg:=(H (od s0) Sl.whole).bind λu=>hD.W1 u s0.needs (len s0.needs) 0
open hD in
instance UH(s0:cO):Fc Sy cL (hD s0):=Fc.N 70 [.fptr (cells s0)] (vo 8 7 ru s0 λB _=>bO 10 s0.needs (dZ 6 (λu=>(bF [Ov 3,Cv 11 s0.needs,Iv 12 (len s0.needs),Iv 13 u.2] [Lb 2003 u.1])) (λw=>(0,(bF [Ov 3] [Lb 2003 w]))) (λu=>bp 8 14 (bH 8 λz _=>bO 9 z (js Z 0 2003 λC _=>tL 0 2003 (.int Z (len z)) λD _=>a_)) a_) (λw=>a_)))
namespace gF
def bK(D:cO)(J:Zg)(g:Zb)(T:Zg)(B:Int)(p1:(Zg)->aY X'):aY (Fw Int Int Empty):=(bg (_p (B<(len J))) (H (qR D J B) λu=>(bg u (H (sA J B) λw=>H (p1 w) λz=>M z) (M U):aY X').bind λC=>M (!C)) (M U):aY X').bind λd=>bg d (M (.n (y? Z (B+1)))) (M (.x B))
def W2(J:cO)(T:Zg)(B:Zb)(D:Zg)(d:Int)(p1:(Zg)->aY X'):aY (Fw ((Zg)×(Zb)) Zb Unit):=H (bM (λq:Int=>bK J T B D q p1) d) (Fw.elim (λe=>bg (e==(len T)) (M (.r ())) (H (sA T e) λu=>H (ec B (u:Zg)) λw=>M (.n (u,w)))) (λe=>k! e))
def bk(J:cO)(B:Zg)(T:Zg)(D:Zb)(p1:(Zg)->aY X'):aY (Fw ((Zg)×(Zb)) Zb Unit):=H (fN T B) λu=>bg u (M (.x D)) (W2 J T D B 0 p1)
def W1(J:cO)(T:Zg)(D:Zb)(B:Zg)(p1:(Zg)->aY X'):aY Zb:=H (bM (λq:(Zg)×(Zb)=>bk J B q.1 q.2 p1) (T,D)) (Fw.elim (λe=>M e) (λe=>M (Sl.nil:Zb)))
end gF
def gF(s0:cO)(p1:(Zg)->aY X'):aY Zb:=(H (od s0) Sl.whole).bind λu=>H (hD s0) λw=>gF.W1 s0 u (Sl.row [u]:Zb) w p1
open gF in
abbrev Fj(g1:FuncId)(e1:aX V)(p1:(Sl Int)->aY Bool)(a:me Sy cL g1 [] e1 (λz:Sl Int=>[enc z]) (λr:Bool=>[.bool r]) p1 O)(s0:cO):Fc Sy cL (gF s0 p1):=Fc.N 47 [.fptr (cells s0),.clo g1 [] e1] (vo 8 10 ru s0 λd _=>tG 7 12 ([d]:aX (Sl Int)) (bz 7 λB _=>dU 6 (λu=>(bF [Kv 0 s0,(1,.v (.clo g1 [] e1)),Cv 5 u.1,Ov 6,Cv 7 B] [Lb 2006 u.2])) (λw=>(0,(bF [Ov 6] [Lb 2006 w]))) (λw=>(bF [Ov 4] [Lb 2004 (Sl.nil:Sl (Sl Int))])) (λu=>bz 7 λg _=>cM 3 18 a_ (dZ 13 (λC=>(bF [Kv 0 s0,(1,.v (.clo g1 [] e1)),Cv 5 u.1,Ov 6,Cv 7 B,Iv 8 C] [Lb 2006 u.2])) (λD=>(2,(bF [Kv 0 s0,(1,.v (.clo g1 [] e1)),Cv 5 u.1,Ov 6,Cv 7 B,Iv 8 D] [Lb 2006 u.2]))) (λC=>bO 7 u.1 (bP 2 13 [23] 36 (bp 2 23 (bz 3 λQ _=>bP 1 6 [28] 34 (bp 1 28 (bz 3 λI _=>yJ 0 a.f I λS _=>br 1) (br 6)) λT=>br 2) (br 13)) λi=>bp 2 36 a_ a_)) (λD=>bO 7 u.1 (bp 3 42 a_ (bz 7 λJ _=>tG 6 48 ([J]:aX (Sl Int)) (kO 0 2006 48 49 λL _=>a_)))))) (λw=>a_) (λw=>a_)))
def Ai(J:Z4)(T:Zb):aY ((Zb)×Int):=H (eO J T) λu=>bg (u.2==0) (H (i_ J) λB=>H (B) λw=>H (od w) λC=>H (jN C) λD=>bg (iM (yp u.1) D U) (H (gF w (λz=>qb z u.1)) λd=>M (d,0)) (M (Sl.nil,7))) (M (Sl.nil,u.2))
instance abV(B:Z4)(D:Zb):Fc Sy cL (Ai B D):=Fc.N 25 [enc B,enc D] (ck 2 2 B (bz 8 λu _=>lC 4 6 0 u.1 (cM 10 16 (bz 6 λI _=>H_ 8 (λd=>(bF [Pv 6,Iv 7 u.2,Bv 16 U,Cv 8 d,Cv 20 u.1,Cv 21 d] [Xb 2 B,(6,.box [cv u.1])])) λw _=>acV 0 ru w λJ _=>c_ 0 λC _=>R6 0 u.1 C U (cM 3 25 (bz (F:=Fj 48 [.fptr (cells u.1)] (λz=>qb z u.1) me.rA w) 8 λL _=>a_) a_)) a_)))
def kZ(D:Z4)(p1:T'):aY (Answer×Int):=H (mG D p1) λu=>bg (u.2.2==0) (H (u.1) λz=>H (dc z u.2.1) λB=>bg B.2 (M (⟨2,O,2,Sl.nil,B.1,Sl.nil,Sl.nil,0⟩,0)) (H (eG z u.2.1) λC=>H (Ai D C) λw=>bg (w.2==0) (M (⟨2,U,3,Sl.nil,Sl.nil,w.1,Sl.nil,0⟩,0)) (M (⟨0,U,0,Sl.nil,Sl.nil,Sl.nil,Sl.nil,0⟩,w.2)))) (M (⟨0,U,0,Sl.nil,Sl.nil,Sl.nil,Sl.nil,0⟩,u.2.2))
instance QU(B:Z4)(p1:T'):Fc Sy cL (kZ B p1):=Fc.N 10 [enc B,enc p1] (ck 2 2 B (ck 0 3 p1 (bz 8 λu _=>cM 16 20 (H_ 8 (λC=>(bF [Pv 2,Pv 4,Cv 6 C,Cv 7 u.2.1,Iv 8 u.2.2,Bv 20 U,Cv 24 C,Cv 25 u.2.1] [Xb 2 B,Xb 3 p1,Xb 4 (⟨0,U,0,Sl.nil,Sl.nil,Sl.nil,Sl.nil,0⟩:Answer)])) λD _=>bz 0 λw _=>bp 12 29 (wE 4 (⟨2,O,2,Sl.nil,w.1,Sl.nil,Sl.nil,0⟩:Answer) [.int Z 2,.bool O,.int Z 2,enc w.1] [.int Z 0,.bool U,.int Z 0,.bG,.bG,.bG,.bG,.int Z 0] [(0,1),(1,1),(2,1),(4,1)] (by simp only[jQ,lq,f_,oW,nr,pF,oS];rfl) Y (lC 0 4 0 (⟨2,O,2,Sl.nil,w.1,Sl.nil,Sl.nil,0⟩:Answer) a_)) (bz 8 λd _=>bz 0 λz _=>cM 14 41 (wE 6 (⟨2,U,3,Sl.nil,Sl.nil,z.1,Sl.nil,0⟩:Answer) [.int Z 2,.int Z 3,enc z.1] [.int Z 0,.bool U,.int Z 0,.bG,.bG,.bG,.bG,.int Z 0] [(0,1),(2,1),(5,1)] (by simp only[jQ,lq,f_,oW,nr,pF,oS];rfl) Y (lC 0 4 0 (⟨2,U,3,Sl.nil,Sl.nil,z.1,Sl.nil,0⟩:Answer) a_)) (wE 3 (⟨0,U,0,Sl.nil,Sl.nil,Sl.nil,Sl.nil,0⟩:Answer) [] [.int Z 0,.bool U,.int Z 0,.bG,.bG,.bG,.bG,.int Z 0] [] (by simp only[jQ,lq,f_,oW,nr,pF,oS];rfl) Y (lC 1 4 0 (⟨0,U,0,Sl.nil,Sl.nil,Sl.nil,Sl.nil,0⟩:Answer) a_)))) (wE 3 (⟨0,U,0,Sl.nil,Sl.nil,Sl.nil,Sl.nil,0⟩:Answer) [] [.int Z 0,.bool U,.int Z 0,.bG,.bG,.bG,.bG,.int Z 0] [] (by simp only[jQ,lq,f_,oW,nr,pF,oS];rfl) Y (lC 1 4 0 (⟨0,U,0,Sl.nil,Sl.nil,Sl.nil,Sl.nil,0⟩:Answer) a_)))))
namespace nY
def bk(a0 D:Zg)(B:Int):aY (Fw Int Unit Unit):=bg (_p (B<(len a0))) (H (idx a0 B) λu=>H (idx D B) λw=>bg (u==w) (M (.n (y? Z (B+1)))) (M (.r ()))) (M (.x ()))
def W1(a0 B:Zg)(D:Int):aY X':=H (bM (λq:Int=>bk a0 B q) D) (Fw.elim (λe=>M O) (λe=>M U))
end nY
def nY(a0 B:Zg):aY X':=bg ((len a0)==(len B)) (nY.W1 a0 B 0) (M U)
open nY in
instance aab(a0 B:Zg):Fc Sy cL (nY a0 B):=Fc.M 49 [enc a0,enc B] (bO 9 a0 (bO 1 B (cM 3 10 (dU 11 (λw=>(bF [Cv 0 a0,Cv 1 B,Iv 5 w] [])) (λu=>(0,(bF [] []))) (λu=>(bF [Bv 4 U] [])) (λw=>bO 6 a0 (bp 3 14 (bH 9 λz _=>bH 3 λC _=>cM 4 25 a_ a_) a_)) (λu=>a_) (λu=>a_)) a_)))
namespace n5
def bk(a0 D:Zg)(B:Int):aY (Fw Int Unit Unit):=bg (_p (B<(len a0))) (H (idx a0 B) λu=>H (idx D B) λw=>bg (u==w) (M (.n (y? Z (B+1)))) (M (.r ()))) (M (.x ()))
def W1(a0 B:Zg)(D:Int):aY X':=H (bM (λq:Int=>bk a0 B q) D) (Fw.elim (λe=>M O) (λe=>M U))
end n5
def n5(a0 B:Zg):aY X':=bg ((len a0)==(len B)) (n5.W1 a0 B 0) (M U)
open n5 in
instance ZS(a0 B:Zg):Fc Sy cL (n5 a0 B):=Fc.M 33 [enc a0,enc B] (bO 9 a0 (bO 1 B (cM 3 10 (dU 11 (λw=>(bF [Cv 0 a0,Cv 1 B,Iv 5 w] [])) (λu=>(0,(bF [] []))) (λu=>(bF [Bv 4 U] [])) (λw=>bO 6 a0 (bp 3 14 (bH 9 λz _=>bH 3 λC _=>cM 4 25 a_ a_) a_)) (λu=>a_) (λu=>a_)) a_)))
namespace jJ
def bk(a0 D:Zb)(B:Int):aY (Fw Int Unit Unit):=bg (_p (B<(len a0))) (H (idx a0 B) λu=>H (idx D B) λw=>H (n5 u w) λz=>bg z (M (.n (y? Z (B+1)))) (M (.r ()))) (M (.x ()))
def W1(a0 B:Zb)(D:Int):aY X':=H (bM (λq:Int=>bk a0 B q) D) (Fw.elim (λe=>M O) (λe=>M U))
end jJ
def jJ(a0 B:Zb):aY X':=bg ((len a0)==(len B)) (jJ.W1 a0 B 0) (M U)
open jJ in
instance ZW(a0 B:Zb):Fc Sy cL (jJ a0 B):=Fc.M 15 [enc a0,enc B] (bO 9 a0 (bO 1 B (cM 3 10 (dU 11 (λw=>(bF [Cv 0 a0,Cv 1 B,Iv 5 w] [])) (λu=>(0,(bF [] []))) (λu=>(bF [Bv 4 U] [])) (λw=>bO 6 a0 (bp 3 14 (bH 9 λz _=>bH 3 λC _=>c_ 1 λD _=>cM 3 26 a_ a_) a_)) (λu=>a_) (λu=>a_)) a_)))
namespace lG
def bk(B J:Answer)(D:Int):aY (Fw Int Unit Unit):=bg (_p (D<(len B.spans))) (H (idx B.spans D) λu=>H (idx J.spans D) λw=>bg ([u.proc,u.from_,u.to_]==[w.proc,w.from_,w.to_]) (M (.n (y? Z (D+1)))) (M (.r ()))) (M (.x ()))
def W1(J:Int)(B D:Answer):aY X':=H (bM (λq:Int=>bk B D q) J) (Fw.elim (λe=>M O) (λe=>M U))
end lG
def lG(a0 B:Answer):aY X':=H (bg (a0.mode==B.mode) (M (!(a0.holds==B.holds))) (M O):aY X') λw=>H (bg w (M O) (M (!(a0.kind==B.kind))):aY X') λz=>H (bg z (M O) (M (!(a0.value==B.value))):aY X') λC=>(bg C (M O) (H (nY a0.cut B.cut) λD=>M (!D)):aY X').bind λd=>(bg d (M O) (H (jJ a0.cuts B.cuts) λI=>M (!I)):aY X').bind λJ=>(bg J (M O) (H (jJ a0.run B.run) λL=>M (!L)):aY X').bind λg=>H (bg g (M O) (M (!((len a0.spans)==(len B.spans)))):aY X') λu=>bg u (M U) (lG.W1 0 a0 B)
open lG in
instance ZP(a0 B:Answer):Fc Sy cL (lG a0 B):=Fc.M 27 [enc a0,enc B] (ck 2 2 a0 (ck 0 3 B (bP 12 6 [11] 17 (cM 12 11 (br 6) (br 6)) λd=>bP 1 6 [18] 24 (bp 1 18 (br 6) (br 6)) λI=>bP 1 6 [25] 31 (bp 1 25 (br 6) (br 6)) λJ=>bP 1 7 [32] 39 (bp 1 32 (br 7) (bz 4 λL _=>br 2)) λg=>bP 1 7 [40] 47 (bp 1 40 (br 7) (bz 4 λQ _=>br 2)) λS=>bP 1 7 [48] 55 (bp 1 48 (br 7) (bz 4 λT _=>br 2)) λi=>bP 1 8 [56] 64 (bp 1 56 (br 8) (bO 2 a0.spans (bO 2 B.spans (br 2)))) λz=>bp 2 64 a_ (dU 11 (λw=>(bF [Pv 2,Pv 3,Iv 5 w] [Xb 2 a0,Xb 3 B])) (λu=>(0,(bF [] []))) (λu=>(bF [Bv 4 U] [])) (λw=>bO 7 a0.spans (bp 3 69 (bH 10 λC _=>bH 4 λD _=>cM 4 82 a_ a_) a_)) (λu=>a_) (λu=>a_)))))
def tP(a0:Answer):aY X':=H (lG a0 (⟨0,U,0,Sl.nil,Sl.nil,Sl.nil,Sl.nil,0⟩:Answer)) λu=>M u
instance ZY(a0:Answer):Fc Sy cL (tP a0):=Fc.M 11 [enc a0] (ck 2 1 a0 (wE 6 (⟨0,U,0,Sl.nil,Sl.nil,Sl.nil,Sl.nil,0⟩:Answer) [] [.int Z 0,.bool U,.int Z 0,.bG,.bG,.bG,.bG,.int Z 0] [] (by simp only[jQ,lq,f_,oW,nr,pF,oS];rfl) Y (bz 0 λu _=>a_)))
def jA(B:Z4)(p1:T'):aY (X'×Int):=H (gE B p1) λu=>bg (u.2==0) (H (idx u.1 0) λw=>M (w,0)) (M (U,u.2))
instance Pu(B:Z4)(p1:T'):Fc Sy cL (jA B p1):=Fc.M 12 [enc B,enc p1] (ck 2 2 B (ck 0 3 p1 (bz 8 λu _=>cM 14 15 (bH 6 λw _=>a_) a_)))
def o7(D:Z4)(p1:T'):aY X':=(vm).bind λY=>(bg Y ((lX D 14).bind λo=>M (!o)) (M O):aY X').bind λa=>(bg a (M O) ((jG p1 60 1).bind λb=>M (_p (b>=60))):aY X').bind λc=>(bg c (M O) ((vu D).bind λd=>M (!d)):aY X').bind λe=>(bg e (M O) ((vA D).bind λf=>M (!f)):aY X').bind λg=>bg g ((vm).bind λC=>M C) ((mC D p1).bind λw=>(kZ D p1).bind λu=>bg (w.2==0) ((jA D (⟨18,0,0,0,ByteArray.empty,Sl.row [p1]⟩:T')).bind λz=>(jA D (⟨19,0,0,0,ByteArray.empty,Sl.row [p1]⟩:T')).bind λB=>(bg (z.2==0) (M (!(B.2==0))) (M O):aY X').bind λi=>bg i ((bg (u.2==0) ((bg (z.2==1) (M (B.2==1)) (M U):aY X').bind λI=>M I) (M U):aY X').bind λJ=>M J) ((bg (u.2==0) (M (w.1.holds==z.1)) (M U):aY X').bind λL=>(bg L (M (u.1.holds==B.1)) (M U):aY X').bind λj=>(bg j ((bg u.1.holds (M w.1.holds) (M O):aY X').bind λQ=>M Q) (M U):aY X').bind λS=>M S)) ((tP w.1).bind λT=>(bg T ((tP u.1).bind λm=>M m) (M U):aY X').bind λW=>(bg W (M (u.2==w.2)) (M U):aY X').bind λX=>M X))
instance B8(B:Z4)(p1:T'):Fc Sy cL (o7 B p1):=Fc.M 3 [enc B,enc p1] (ck 2 2 B (ck 0 3 p1 (bz 6 λo _=>bP 2 4 [15] 19 (cM 2 15 (bz 1 λa _=>br 2) (br 4)) λb=>bP 1 4 [20] 24 (bp 1 20 (br 4) (bz 1 λc _=>br 2)) λd=>bP 1 4 [25] 29 (bp 1 25 (br 4) (bz 1 λe _=>br 2)) λf=>bP 1 4 [30] 34 (bp 1 30 (br 4) (bz 1 λg _=>br 2)) λh=>bp 2 34 (bz 3 λC _=>a_) (bz 7 λu _=>lC 4 5 0 u.1 (bz 7 λw _=>lC 4 7 0 w.1 (cM 10 49 (tG 7 64 ([p1]:aX T') (wE 1 (⟨18,0,0,0,ByteArray.empty,Sl.row [p1]⟩:T') [.int Z 18,enc (Sl.row [p1]:Sl T')] [.int Z 0,.int Z 0,.int Z 0,.int Z 0,.str ByteArray.empty,.bG] [(0,1),(5,1)] (by have e0:cells (Sl.row [p1]:Sl T')=[Pred.Ey (Sl.row [p1]:Sl T')]:=_d (λz=>[z]) (Pred.mX (Sl.row [p1]:Sl T')).symm;simp only[jQ,lq,f_,oW,nr,pF,oS,e0];rfl) rfl (bz 0 λD _=>tG 11 72 ([p1]:aX T') (wE 1 (⟨19,0,0,0,ByteArray.empty,Sl.row [p1]⟩:T') [.int Z 19,enc (Sl.row [p1]:Sl T')] [.int Z 0,.int Z 0,.int Z 0,.int Z 0,.str ByteArray.empty,.bG] [(0,1),(5,1)] (by have e0:cells (Sl.row [p1]:Sl T')=[Pred.Ey (Sl.row [p1]:Sl T')]:=_d (λz=>[z]) (Pred.mX (Sl.row [p1]:Sl T')).symm;simp only[jQ,lq,f_,oW,nr,pF,oS,e0];rfl) rfl (bz 0 λi _=>bP 13 3 [79] 82 (cM 13 79 (br 3) (br 3)) λI=>bp 2 82 (bP 6 7 [10,12,85] 92 (bp 6 85 (bP 3 3 [12,88] 91 (bp 3 88 (br 3) (br 3)) λJ=>br 1) (br 7)) λL=>a_) (bP 8 5 [9,95] 100 (bp 8 95 (br 5) (br 5)) λj=>bP 1 5 [11,101] 106 (bp 1 101 (br 5) (br 5)) λQ=>bP 1 8 [5,7,107] 115 (bp 1 107 (bP 4 3 [5,111] 114 (cM 4 111 (br 3) (br 3)) λS=>br 1) (br 8)) λT=>a_)))))) (bz 4 λm _=>bP 1 3 [7,52] 55 (bp 1 52 (bz 1 λW _=>br 1) (br 3)) λX=>bP 1 4 [6,8,56] 60 (bp 1 56 (br 4) (br 4)) λY=>a_)))))))
end
end Go.VE
