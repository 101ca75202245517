/- Functions. -/
import Derived.Test.YtddlogilhmloeabGreatDoorK1
import Derived.Test.YtddlogilhmloeabGreatDoorT1
set_option linter.all false
open Option renaming some→M,some→_k,none→J,none→_q,bind→H,bind→_o
open Bool renaming true→U,true→_n,false→O,false→_p
open Decidable renaming decide→_s
open List renaming length→W,length→_m
open Go.IntKind renaming i64→N,i64→_r
open List renaming all_cons→q!,all_nil→T!,cons_append→m8,map_cons→K?
open Go.IntKind renaming signed→i8,wrap→w?
open Empty renaming elim→c!
open ByteArray renaming toList→C?
noncomputable section
open Nat(le)
open Nat(le)
open Nat(beq)
open Nat(le)
open Nat(le)
namespace Go.VE
theorem p?{p:Prop}(h:p:=by kernel_rfl):p:=h
structure Pred where
 kind:Int
 n:Int
 proc:Int
 k?:Int
 name:ByteArray
 l:Sl Pred
abbrev T':=Pred
mutual
def Pred.WR:T'->So
 |⟨f0,f1,B,D,G,f5⟩=>[.int N f0,.int N f1,.int N B,.int N D,.str G,Pred.IY f5]
def Pred.IY:Sl T'->V
 |.nil=>.bN|.emp=>.dS|.row l=>.fsl 6 (Pred.Gg l)|.part l=>.fsl 6 (Pred.Gg l)
def Pred.Gg:aY T'->S'
 |[]=>[]|x::r=>Pred.WR x::Pred.Gg r
end
instance:Inhabited T':=⟨⟨default,default,default,default,default,Sl.nil⟩⟩
mutual
theorem Pred.X7:∀x:T',V.c_ x.WR=U
 |⟨f0,f1,B,D,G,f5⟩=>by simp only[Pred.WR,V.c_,V.good,Pred.My,Bool.and_self]
theorem Pred.My:∀x:Sl T',V.good (Pred.IY x)=U
 |.nil=>rfl|.emp=>rfl|.row l=>by simp only[Pred.IY,V.good,Pred.Fz]|.part l=>by simp only[Pred.IY,V.good,Pred.Fz]
theorem Pred.Fz:∀x:aY T',V.pL (Pred.Gg x)=U
 |[]=>rfl|x::r=>by simp only[Pred.Gg,V.pL,Pred.X7,Pred.Fz,Bool.and_self]
end
theorem Pred.X1(s:Sl T'):V.one (Pred.IY s)=U:=by cases s<;>simp[Pred.IY,V.one]
instance:bD T' where
 cells x:=[.int N x.kind,.int N x.n,.int N x.proc,.int N x.k?,.str x.name,Pred.IY x.l]
 agg:=U
 size:=6
 len _:=rfl
 good x:=by simp only[V.c_,V.good,Pred.My,Bool.and_self]
 one x:=by simp only[q!,T!,qw,oL,qC,Pred.X1,Bool.and_self]
 plain h:=by cases h
theorem Pred.SG(x:T'):Pred.WR x=cells x:=by cases x;rfl
theorem Pred.Fa:∀l:aY T',Pred.Gg l=rows l
 |[]=>rfl|x::r=>by rw[Pred.Gg,Pred.Fa r,Pred.SG];rfl
theorem Pred.eT(s:Sl T'):Pred.IY s=enc s:=by cases s with|nil=>rfl|emp=>rfl|row l=>show V.fsl 6 (Pred.Gg l)=V.fsl 6 (rows l);rw[Pred.Fa]|part l=>show V.fsl 6 (Pred.Gg l)=V.fsl 6 (rows l);rw[Pred.Fa]
structure Var where
 name:ByteArray
 init_:Int
 deriving Inhabited
instance:bD Var where
 cells x:=[.str x.name,.int N x.init_]
 agg:=U
 size:=2
 len _:=rfl
 good x:=by simp only[V.c_,V.good,lZ,Bool.and_self]
 one x:=by simp only[q!,T!,qw,oL,qC,qb,Bool.and_self]
 plain h:=by cases h
structure Assign where
 var:Int
 value:Int
 deriving Inhabited
instance:bD Assign where
 cells x:=[.int N x.var,.int N x.value]
 agg:=U
 size:=2
 len _:=rfl
 good x:=by simp only[V.c_,V.good,lZ,Bool.and_self]
 one x:=by simp only[q!,T!,qw,oL,qC,qb,Bool.and_self]
 plain h:=by cases h
structure Event where
 kind:Int
 k?:Int
 d?:Int
 time:Int
 assign:Sl Assign
 deriving Inhabited
abbrev WF:=Event
instance:bD WF where
 cells x:=[.int N x.kind,.int N x.k?,.int N x.d?,.int N x.time,enc x.assign]
 agg:=U
 size:=5
 len _:=rfl
 good x:=by simp only[V.c_,V.good,lZ,Bool.and_self]
 one x:=by simp only[q!,T!,qw,oL,qC,qb,Bool.and_self]
 plain h:=by cases h
structure bT where
 name:ByteArray
 h?:Sl Var
 c?:Sl Event
 deriving Inhabited
instance:bD bT where
 cells x:=[.str x.name,enc x.h?,enc x.c?]
 agg:=U
 size:=3
 len _:=rfl
 good x:=by simp only[V.c_,V.good,lZ,Bool.and_self]
 one x:=by simp only[q!,T!,qw,oL,qC,qb,Bool.and_self]
 plain h:=by cases h
structure Trace where
 b?:Sl bT
 deriving Inhabited
abbrev Z4:=Trace
instance:bD Z4 where
 cells x:=[enc x.b?]
 agg:=U
 size:=1
 len _:=rfl
 good x:=by simp only[V.c_,V.good,lZ,Bool.and_self]
 one x:=by simp only[q!,T!,qw,oL,qC,qb,Bool.and_self]
 plain h:=by cases h
structure bC where
 from_:bf
 to_:bf
 deriving Inhabited
instance:bD bC where
 cells x:=[.int N x.from_.proc,.int N x.from_.index,.int N x.to_.proc,.int N x.to_.index]
 agg:=U
 size:=4
 len _:=rfl
 good x:=by simp only[V.c_,V.good,lZ,Bool.and_self]
 one x:=by simp only[q!,T!,qw,oL,qC,qb,Bool.and_self]
 plain h:=by cases h
structure bQ where
 low:Int
 high:Int
 deriving Inhabited
instance:bD bQ where
 cells x:=[.int N x.low,.int N x.high]
 agg:=U
 size:=2
 len _:=rfl
 good x:=by simp only[V.c_,V.good,lZ,Bool.and_self]
 one x:=by simp only[q!,T!,qw,oL,qC,qb,Bool.and_self]
 plain h:=by cases h
structure cG where
 lengths:Sl Int
 need:Sl (Sl bf)
 deriving Inhabited
instance:bD cG where
 cells x:=[enc x.lengths,enc x.need]
 agg:=U
 size:=2
 len _:=rfl
 good x:=by simp only[V.c_,V.good,lZ,Bool.and_self]
 one x:=by simp only[q!,T!,qw,oL,qC,qb,Bool.and_self]
 plain h:=by cases h
structure bF where
 t:Trace
 l:Sl (Sl Int)
 next:Sl (Sl Int)
 deriving Inhabited
instance:bD bF where
 cells x:=[enc x.t.b?,enc x.l,enc x.next]
 agg:=U
 size:=3
 len _:=rfl
 good x:=by simp only[V.c_,V.good,lZ,Bool.and_self]
 one x:=by simp only[q!,T!,qw,oL,qC,qb,Bool.and_self]
 plain h:=by cases h
structure bY where
 t:Trace
 counts:Sl Int
 values:Sl (Sl Int)
 deriving Inhabited
instance:bD bY where
 cells x:=[enc x.t.b?,enc x.counts,enc x.values]
 agg:=U
 size:=3
 len _:=rfl
 good x:=by simp only[V.c_,V.good,lZ,Bool.and_self]
 one x:=by simp only[q!,T!,qw,oL,qC,qb,Bool.and_self]
 plain h:=by cases h
def ki(p:Int):Int->aY WF->aY (bf×WF)
 |_,[]=>[]|j,e::r=>(⟨p,j+1⟩,e)::ki p (j+1) r
def hD:Int->aY bT->aY (bf×WF)
 |_,[]=>[]|i,p::r=>ki i 0 p.c?.l++hD (i+1) r
def rz(n:Nat):X':=_s (n<9223372036854775807)
def kN(t:Z4):aX (aY (bf×WF)):=if rz (W t.b?.l)&&t.b?.l.all λp=>rz (W p.c?.l) then M (hD 0 t.b?.l)else J
def vr:cn 22 Int:=⟨Go.Proofs.YtddlogilhmloeabGreatDoor.GJ,Y⟩
end Go.VE
namespace Go.VE
def Xr:Nat->Nat->Nat->ST
 |0,_,_=>[]|f+1,i,m=>bif m % 2==1 then i::Xr f (i+1) (m / 2)else Xr f (i+1) (m / 2)
def gK(g m:Nat)(l:ST:=[]):Gh:=.keep (Xr 128 0 g) (Xr 128 0 m++l)
def g2(n g m:Nat)(l:ST:=[]):Nat×Pi×Pi:=(n,[gK g m l],[gK g m l])
def g1(n g m:Nat)(l:ST:=[]):Nat×Pi×Pi:=(n,[gK g m l],[])
def G2(n:Nat)(x:Pi):Nat×Pi×Pi:=(n,x,x)
def G1(n:Nat)(x:Pi):Nat×Pi×Pi:=(n,x,[])
def cS(i n:Nat):Gh:=.canon (.s i) (2000+i) n
def cC(i j n:Nat):Gh:=.canon (.c i j) (4000+20*i+j) n
def e0(n m:Nat):Nat×GD:=(n,⟨m,[],[]⟩)
def e1(n m:Nat)(l:aY (Nat×Pi×Pi)):Nat×GD:=(n,⟨m,[],l⟩)
def Ro:aY (Nat×GD):=[ e1 42 0x22226260002000201 [g2 6 387 0,g1 12 0 0,g1 22 16 0,g1 27 16 0],e0 17 0x226221,e1 43 0x22226260002000201 [g2 6 387 0,g1 12 0 0,g1 22 16 0,g1 27 16 0],e0 19 0x226221,e0 20 0x2222212,e0 18 0x264442644402222012,e1 5 0x26444264440264422022262222202000020012 [g2 8 906 2,g1 14 10 2],e1 21 0x222000ff2026020064026220000202202 [g1 10 30 16 [9001,9002],g2 13 94 16 [9001,9002],g1 19 0 0 [9001,9002]],(6,⟨0x2227222000012,[(5,[.canon (.s 3) 9001 0,.canon (.s 4) 9002 0])],[]⟩),e0 133 0x26c4426201,e0 199 0x26c4444026402201,e0 200 0x26442201,e1 173 0x22064c402644c00222600200020064440264402201 [g1 8 4 0,g2 14 786433 0,g1 20 0 0,g1 30 4 0,g1 35 4 0],e0 174 0x26222212,e0 175 0x26222212,e1 182 0x22226260002000201 [g2 6 387 0,g1 12 0 0,g1 22 16 0,g1 27 16 0],e0 141 0x226221,e1 134 0x222222022222026c0c4402222022020000020022220026c0c44422220202602012 [g1 11 16 0,g1 17 16 0,g2 23 30064771104 32,g1 29 32 32,g1 40 16 0,g1 46 16 0,g1 55 16 0,g1 59 16 0],e0 135 0x2212,e1 177 0x2644426c4402622222022202644422202020122 [g1 18 524330 40],e0 179 0x26222212,e1 201 0x22226260002000201 [g2 6 387 0,g1 12 0 0,g1 22 16 0,g1 27 16 0],e0 178 0x226221,e1 136 0x2202626220026444022622202022020000020022220026c44022220022e02222226220202200202620201222 [g1 12 440 184,g1 19 64 0,g1 25 64 0,g1 31 64 0,g2 37 31525197391593632 160,g1 43 0 0,g1 54 64 0,g1 60 64 0,g1 65 64 0],e0 202 0x26c44426c440222012,e0 180 0x2662262221222,e1 137 0x2202326222002202001ef200220022022226200223262220022022226200202022020202020200002 [(8,[gK 4158 1086],[gK 0 1086]),g1 27 0 1086,g1 39 0 1086,g1 47 0 1086,g1 53 28 1052],e1 181 0x222622262222264444c4400222020262222262622020262020222620220122 [G1 12 [cS 7 2,gK 418 32 [2007]]],e1 138 0x20222622230026000226002020000e200262220202622002202202020200022 [(6,[gK 8252 60],[gK 0 60]),G2 14 [cS 8 2,gK 8700 65660 [2008]],g1 20 8252 60,G2 29 [cS 8 2,gK 481036345852 65660 [2008]],G1 35 [cS 8 2,gK 8700 65660 [2008]],g1 46 0 60,g1 58 48 48],e1 87 0x20022222020262222222022202002202222202e2002020202222222202600200022002022220002 [g1 8 12 12,g2 14 12582926 14,g1 20 14 14,g1 32 12 12,(39,[gK 68719476750 14],[gK 0 14]),g1 51 0 14,g1 61 12 12,g1 71 12 12,g1 75 12 12],e0 50 0x2222302022212,e0 139 0x264426402201,e0 89 0x26c4444c4404440222006c4404440264402644026c444044026440222012,e0 91 0x22e222212,e0 90 0x226221,e1 140 0x22226260002000201 [G2 6 [.drop [2,3,4,5,6,9,10,11,12,13,14,15,16,17,18]],G1 12 [.drop [0,1,2,3,4,5,6,7,8,9,10,11,12,13,14,15,16,17,18]],G1 22 [.drop [0,1,2,3,5,6,7,8,9,10,11,12,13,14,15,16,17,18]],G1 27 [.drop [0,1,2,3,5,6,7,8,9,10,11,12,13,14,15,16,17,18]]],(88,⟨0x226622064402640222220122,[(20,[.closeB 5])],[]⟩),(51,⟨0x26222200012,[(5,[.canon (.s 3) 9004 0,.canon (.s 4) 9003 0])],[]⟩),e0 93 0x26c444422012,e0 142 0x2622212,e0 94 0x262226222122,e0 92 0x2644426c404026c40426200222644426440262022026001cf444042644026200202012,e0 129 0x2262212,(83,⟨0x264c4442600122,[(10,[.closeB 3])],[]⟩),e0 52 0x2622122,e0 81 0x221,e0 97 0x221,e0 96 0x2622222212,(95,⟨0x22622012,[(5,[.closeB 1])],[]⟩),e0 53 0x22212,e1 185 0x222222626002620002220012201 [g1 8 1 0,g2 14 25 0,g1 20 8 0],e1 186 0x222222626002620002220012201 [g1 8 1 0,g2 14 25 0,g1 20 8 0],e0 145 0x2622200,e1 183 0x22222226c04422202020000226222012 [g2 8 229508 0,g1 14 128 0],e0 224 0x2622212,e0 211 0x26222122,e0 203 0x220020262262220026c4400220002220112,e1 78 0x26200201 [G1 8 [.canon (.s 2) 4004 1],G1 12 [.canon (.s 2) 4004 1]],(208,⟨0x222e202202236222002020000222202000002226200222622222020000200,[(21,[.closeS (.s 25)]),(57,[.closeS (.s 54)])],[G2 6 [cS 3 1,gK 14347 0 [2003]],G1 12 [cS 3 1,gK 11 0 [2003]],g1 23 0 0,G2 28 [cS 3 1,gK 3758096393 0 [2003]],g1 34 0 0,G2 43 [cS 3 1,gK 965830770761 0 [2003]],G1 49 [cS 3 1,gK 3758096457 0 [2003]],g1 59 0 0]⟩),e0 196 0x2212,e1 204 0x22262260202220122 [(8,[cC 5 0 1,gK 552 40 [4100]],[cC 5 0 1,gK 0 40 [4100]])],e0 184 0x2222202622622220022022202e2001112,e0 143 0x26223222002e2220222e2220222222226222220222222020022,e0 144 0x26444222012,e0 187 0x262201,e0 146 0x22222622220622020260006402201,e1 98 0x22222022001ef622226202062020620202662222620202226622226202020262222202022002064422222202622202222002002202026222002222202062222201022 [g1 22 1944 664,g1 49 2064 2064],e0 99 0x2262212,(54,⟨0x226222222302026222220122,[(21,[.closeB 2])],[]⟩),e0 25 0x22622022200226000264402220122,e0 44 0x2222002220002220112,e0 22 0x644222222022222202602122,e1 170 0x200226c0442602020202202022000222 [g1 8 192 192,(14,[gK 33008 240],[gK 0 240]),g1 24 0 240,g1 28 192 192],e0 128 0x2220622102,(149,⟨0x2222306222030622222022262222302622022002020000200202000020002,[(53,[.closeS (.s 49)]),(59,[.closeS (.c 3 0),.closeS (.c 3 1)])],[G2 8 [cC 3 0 1,cC 3 1 1,gK 14350 14 [4060,4061]],G1 14 [cC 3 0 1,cC 3 1 1,gK 12 12 [4060,4061]],G2 25 [cS 6 2,cC 3 0 1,cC 3 1 1,gK 1849454 46 [2006,4060,4061]],G1 31 [cS 6 2,cC 3 0 1,cC 3 1 1,gK 14446 46 [2006,4060,4061]],G1 44 [cS 6 2,cC 3 0 1,cC 3 1 1,gK 1849966 558 [2006,4060,4061]]]⟩),e0 188 0x26262222020262620260220626020260012,e0 222 0x26201,e0 207 0x62206000200222202201,e1 191 0x62222222220262222620062002220000001 [g2 6 3587 0,g1 12 3 0,g1 23 16 0,g1 34 16 0,g1 43 16 0,g1 47 16 0],e0 190 0x26221,e1 60 0x2206262026002000200620201 [g1 8 16 0,g2 14 12291 0,g1 20 0 0,g1 30 16 0,g1 35 16 0],e0 193 0x26221,(150,⟨0x222302222262223622020220e0002000202200002012,[(32,[.closeS (.s 34)])],[G2 8 [cS 5 1,gK 7204 4 [2005]],G1 14 [cS 5 1,gK 32 0 [2005]],G2 22 [cS 5 1,gK 400548 4 [2005]],G1 28 [cS 5 1,gK 7204 4 [2005]]]⟩),(107,⟨0x2226202620200202620222000222222202000220112,[(16,[.closeS (.s 16)])],[G1 8 [cS 2 1,gK 12 0 [2002]],G2 20 [.closeS (.s 5),cS 6 1,gK 240 16 [2006]],G1 26 [cS 6 1,gK 64 0 [2006]],G1 37 [cS 2 1,gK 12 0 [2002]],G1 43 [cS 2 1,gK 12 0 [2002]]]⟩),e0 57 0x222222220222112,e0 45 0x222022112,e1 46 0x2222236222022200000222201 [G2 8 [cS 3 1,gK 3592 0 [2003]],G1 14 [cS 3 1,gK 8 0 [2003]]],e0 147 0x26222221,e1 58 0x22226260002000201 [g2 6 387 0,g1 12 0 0,g1 22 16 0,g1 27 16 0],e0 104 0x226221,e0 100 0x264c4422012,e1 101 0x2206c444c440422022200000212 [g2 6 900 4,g1 12 0 0,g1 22 16 0,g1 27 16 0],e0 102 0x26c444422012,e1 148 0x2200222202262222626200203202026220220220200000622260202220000001002 [g2 6 57398 52,g1 12 48 48,g2 20 939581622 52,g1 26 57398 52,g1 44 112 48,g1 50 112 48],e0 103 0x22223300200262212,e1 55 0x2202620220000222026202200002220262022000000260012 [g1 8 64 0,g2 14 917518 8,g1 20 14 8,g1 30 64 0,g2 37 1879048202 8,g1 43 10 8,g1 53 64 0,g2 60 3848290697224 8,g1 66 0 0,g1 76 64 0,g1 81 64 0],e0 82 0x262622220320202622202202026262022602012,e0 47 0x2236220202220022e002002622260202600202202e20200112,(23,⟨0x22223226222220022262622022222202e2002000200220000222600227222022200000020202202220220112,[(79,[.closeS (.s 74)])],[g2 18 234881106 16777218,g1 24 82 16777218,G2 37 [cC 40 2 1,gK 15393162789442 1099528404994 [4802]],G1 43 [cC 40 2 1,gK 512 1099511627776 [4802]],G2 54 [cS 12 1,cC 40 2 1,gK 859818092927554 1099528404994 [2012,4802]],G1 60 [cS 12 1,cC 40 2 1,gK 15393162793538 1099528404994 [2012,4802]]]⟩),e0 85 0x26442201,e0 84 0x2222212,e0 48 0x2644422012,e0 130 0x6c44222222022212,e1 26 0x222226262222022200000202022026202112 [G2 18 [cS 7 2,gK 917632 0 [2007]],G1 24 [cS 7 2,gK 128 0 [2007]]],e1 171 0x226022222022 [(6,[gK 280 24],[gK 0 24]),g1 16 0 24,g1 20 16 16],e1 131 0x22222626226220222200000202022023202600112 [G2 18 [cS 8 1,gK 7340292 4 [2008]],G1 24 [cS 8 1,gK 256 0 [2008]]],e0 209 0x26222212,e0 197 0x226226222226022620220122,e0 223 0x2220622102,e1 210 0x22222622226c4c4404022222020262006c04022202020000626202260200202202e600200112 [G2 18 [cS 11 1,gK 481036339226 16 [2011]],G1 24 [cS 11 1,gK 2048 0 [2011]]],e0 198 0x22232202001ef22202220122,e0 172 0x266222226222002662222262220022266222226222002022622222202622202262222202622202222020122,e1 132 0x26c44444262220026c44444262220022226222222022222020266222226222002026622222622200202662222262220020266222226222002020122 [g1 36 147573952589676413004 12],e1 86 0x22222226260e22022002202220260022000000200220222022000020200220220200220260011122 [G1 10 [cS 5 1,gK 112 0 [2005]],G1 20 [cS 5 1,gK 112 0 [2005]],G1 28 [cS 5 1,gK 112 0 [2005]],G1 38 [cS 5 1,gK 112 0 [2005]],G2 46 [cS 11 1,gK 962072676876 12 [2011]],G1 52 [cS 11 1,gK 2560 0 [2011]],G1 65 [cS 5 1,gK 112 0 [2005]],G1 71 [cS 5 1,gK 112 0 [2005]]],e1 49 0x222222320026221122 [G1 6 [.canon (.s 4) 4004 1]],e1 38 0x222236222022200000222201 [G2 8 [cS 3 1,gK 3592 0 [2003]],G1 14 [cS 3 1,gK 8 0 [2003]],G1 23 [.canon (.s 2) 4004 1]],e1 169 0x22226260002000201 [g2 6 387 0,g1 12 0 0,g1 22 16 0,g1 27 16 0],e0 127 0x226221,e0 76 0x2221,e0 77 0x2644422201,e0 75 0x26c4444402262226c4444402262222264422622202644226222021,(74,⟨0x2222236e2000022262262022200002602220020222222022222201,[(46,[.closeS (.s 50)])],[G2 8 [cS 5 1,gK 99 0 [2005]],G1 14 [cS 5 1,gK 32 0 [2005]],G2 23 [cS 5 1,cS 7 1,gK 30064771299 0 [2005,2007]],G1 29 [cS 5 1,cS 7 1,gK 227 0 [2005,2007]],G1 40 [.canon (.s 4) 4004 1]]⟩),(39,⟨0x2662122,[(5,[.closeB 4,.closeB 5])],[G1 4 [.canon (.s 6) 4004 1]]⟩),(24,⟨0x2e22222222366422620003664226200022022200000622202222022220202622200223220262222222012,[(30,[.closeS (.s 33)]),(83,[.closeS (.s 78)])],[G1 10 [.canon (.s 4) 4004 1],G1 23 [.canon (.s 4) 4004 1],G1 30 [cS 7 1,gK 34359738505 8 [2007]],G2 35 [cS 7 1,cS 43 1,gK 61572651155592 8 [2007,2043]],G1 41 [cS 7 1,gK 128 0 [2007]],G1 54 [.canon (.s 4) 4004 1],G1 58 [.canon (.s 4) 4004 1]]⟩),e0 7 0x26222022022202222022026001122,e0 106 0x22622212,e0 105 0x226221,e0 56 0x622022012,e0 59 0x26221,e0 27 0x262220220222022220220262001122,e1 8 0x22622202202220262220220222026202022022126002022006c4404022026001122 [g1 10 298 40],e0 9 0x222220220222026221122,e0 194 0x26c4444026402201,e0 195 0x26442201,e1 159 0x222064c002644c00222600620000644402644022201 [g1 8 4 0,g2 14 9 0,g1 20 0 0,g1 28 4 0,g1 33 4 0],e0 160 0x26442201,e1 114 0x2222222022226020222062260202260206000022226020622000022202220620226020600002220202602012 [g1 10 16 0,g2 16 102 36,g1 22 32 32,g1 30 16 0,g1 39 16 0,g2 45 160 32,g1 51 32 32,g1 60 16 0,g2 66 416 32,g1 72 160 32,g1 80 16 0,g1 88 16 0,g1 97 16 0,g1 101 16 0],e1 115 0x2222220620226020600006444026c444c04040222020260206220000222006cc44c4444c04040440264402220064402644026c04026c44040264402644022200644022202202026022602012 [g1 13 64 0,g1 20 64 0,g1 22 142 136,g1 28 64 0,g1 36 64 0,g2 42 394 136,g1 48 0 0,g1 59 64 0,g2 64 1930 648,g1 70 394 136,g1 78 64 0,g1 84 64 0],e0 161 0x2262222262022022,e1 162 0x20222222262226c0442602020260226020622260200062200002 [g2 6 206 72,g1 12 64 64,g2 18 462 72,g1 24 206 72,g1 34 64 64,g1 40 64 64],e1 116 0x2222226cc40444cc4040444022202602262020622262020000220060e20200022020600122 [g2 30 236 44,g1 36 64 0],e1 117 0x22206222602026006220002222203622000622262002062202202026260022602062226020260062200002222012 [G2 6 [cS 3 1,gK 10 2 [2003]],G2 14 [cS 3 1,gK 58 2 [2003]],G1 20 [cS 3 1,gK 26 2 [2003]],G2 24 [cS 3 1,gK 58 2 [2003]],G1 30 [cS 3 1,gK 58 2 [2003]],G1 43 [cS 3 1,gK 58 2 [2003]],G1 46 [cS 3 1,gK 42 2 [2003]],G1 53 [cS 3 1,gK 10 2 [2003]],G2 59 [cS 3 1,gK 266 2 [2003]],g1 65 0 0,g1 73 4 0,g1 78 4 0],e1 163 0x22262622222202062026262202022200122 [G1 10 [cS 5 2,gK 44 12 [2005]],G1 20 [.canon (.s 4) 4004 2]],(118,⟨0x222222622600262000262016202620026202620022220220220262022226222222602026220000122,[(21,[.put 28])],[G2 8 [cS 5 1,.melt 2005,gK 108 12 [2005]],G1 14 [cS 5 1,.melt 2005,gK 44 12 [2005]],G2 23 [cS 5 1,.melt 2005,cS 7 2,gK 164 4 [2005,2007]],G1 29 [cS 5 1,.melt 2005,gK 32 0 [2005]],(37,[.take 2005 (.c 8 0) 1 6041],[.put 2005]),(42,[.take 2005 (.c 8 0) 1 6050],[.put 2005]),G2 48 [cS 5 1,.melt 2005,cS 7 2,cS 9 2,gK 1700 4 [2005,2007,2009]],G1 54 [cS 5 1,.melt 2005,cS 7 2,gK 164 4 [2005,2007]]]⟩),e1 66 0x202222220222620260600206200622260200062200002020222222222220260020620062226020006220002222222226222202e0006222602000622000222222222026006220000206444022220102 [g1 8 12 4,g2 14 22 6,g1 20 6 6,g1 30 12 4,g2 37 70 6,g1 43 6 6,g2 49 198 6,g1 55 70 6,g1 65 12 4,g2 73 518 6,g1 79 6 6,g2 85 1542 6,g1 91 518 6,g1 103 12 4,g1 113 12 4,g2 119 8198 6,g1 125 4 4,g2 131 24582 6,g1 137 8198 6,g1 147 12 4,g1 153 12 4],e0 30 0x2222302022212,e1 164 0x222222666202602006c002622000012 [g2 8 102 4,g1 14 32 0],e0 119 0x222212,e1 120 0x22222226620260202622000020012 [g2 16 102 4,g1 22 32 0],e0 165 0x6442640264022006c4044026402200640264026402201,e1 121 0x2220222602062200006c4404c440444026440222002200644022202200622022012 [g1 8 4 0,g1 19 4 0,g1 26 4 0,g1 28 2 2,g1 34 4 0,g2 40 10 2,g1 46 0 0,g1 54 4 0,g1 59 4 0],e0 67 0x264426440222012,e0 122 0x26c444422012,e1 123 0x22222602260226020622260200012 [g2 6 142 8,g1 12 0 0,g1 20 64 0,g1 25 64 0],e1 68 0x22202626020062200006c4404cc40404c4c40044c400222006c4404c44044c400222006c4001cf404004c44044c4002220122 [g1 8 16 0,g1 16 16 0,g1 24 16 0,g2 30 44 12,g1 36 0 0,g1 44 16 0,g1 49 16 0],e0 124 0x22212,e1 69 0x22206444c0402622260200220062200012 [g2 6 10 2,g1 12 0 0,g1 23 26 2,g1 28 4 0,g1 33 4 0],e1 166 0x222222222222622600262260026022600620002226022602062226020002022260226020112 [g2 10 1806 8,g1 16 768 0,g2 24 7950 8,g1 30 1806 8],e1 167 0x222222226c0442220202602260206222602000012 [g2 8 398 8,g1 14 128 0],e1 168 0x26220062222622222620062006402201 [g1 24 3 0],e1 125 0x222644222002666226206602600266600600660060022622622222226226222202222222202e2220222022226222222022202ee2220220022022222022010000644222222200262220022202222002622200222000000011122 [g1 12 8076 12,g1 18 8076 12,g1 60 24576 0],e1 70 0x222026260200622000222332002622220122 [g1 10 16 0,g2 16 268 12,g1 22 0 0,g1 30 16 0,g1 35 16 0],e0 31 0x2622022002600064402220122,e1 32 0x22206c444c0404c002226006200012 [g2 6 38 4,g1 12 0 0,g1 20 16 0,g1 25 16 0],e0 71 0x262222212,e0 126 0x26262222020622202202026222622012,e1 72 0x22222202001ef000062600006200012 [g2 6 38 4,g1 12 0 0,g2 18 102 4,g1 24 38 4,g1 32 16 0,g1 38 16 0],e0 33 0x26c4426c0026c0022012,e0 73 0x2220022000220112,e0 34 0x622322022222202602122,e0 12 0x262202620026002220260006c440402220122,e0 110 0x2236226200026201,e1 152 0x22206c444c0404c0022260062000062202012 [g1 8 16 0,g2 14 38 4,g1 20 0 0,g1 28 16 0,g1 33 16 0],e1 153 0x2222220626220202062202202026022602062600006200012 [g2 6 38 4,g1 12 0 0,g2 18 102 4,g1 24 38 4,g1 39 16 0,g1 46 16 0],e0 109 0x26c44260012,e1 61 0x2222226260026cc000262226020260062000012 [G2 8 [cS 5 1,gK 102 4 [2005]],G1 14 [cS 5 1,gK 32 0 [2005]]],e1 154 0x2222226260026200001 [g2 8 25 0,g1 14 8 0],e1 111 0x222262622260262600260062000262222620201 [g1 8 16 0,g2 14 35 0,g1 20 0 0,g1 28 16 0,g1 33 16 0],e1 35 0x2220626002600620000620201 [g1 8 16 0,g2 14 35 0,g1 20 0 0,g1 28 16 0,g1 33 16 0],e1 62 0x26622226222266000226c04c00262002226c04c002620001 [g2 6 35 0,g1 12 35 0],(28,⟨0x222222222226260026200026260006200000022026022200222220112,[(7,[.closeS (.s 13)])],[G2 8 [.closeS (.s 4),cS 5 1,gK 50 2 [2005]],G1 14 [cS 5 1,gK 32 0 [2005]],G1 24 [cS 2 1,gK 12 0 [2002]],G2 32 [.closeS (.s 4),cS 5 1,gK 242 2 [2005]],G1 38 [cS 5 1,gK 98 2 [2005]],G2 46 [.closeS (.s 4),cS 5 1,gK 1010 2 [2005]],G1 52 [.closeS (.s 4),cS 5 1,gK 242 2 [2005]],G1 61 [cS 2 1,gK 12 0 [2002]]]⟩),e1 13 0x22222602600620001 [g2 6 35 0,g1 12 0 0,g1 20 16 0,g1 25 16 0],(155,⟨0x22222222366262600026000062000262600062000222012,[(5,[.melt 11])],[G2 8 [cS 5 1,.melt 2005,gK 102 4 [2005]],G1 14 [cS 5 1,.melt 2005,gK 32 0 [2005]],G2 22 [cS 5 1,.melt 2005,gK 486 4 [2005]],G1 28 [cS 5 1,.melt 2005,gK 102 4 [2005]],(31,[.take 2005 (.s 6) 1 6030],[.put 2005])]⟩),e1 112 0x22222366ccc44404c44044c002260000222264c4c04c00022264c4c04c0002262260000202226002022222220260212 [G2 10 [cS 12 1,gK 14364 0 [2012]],G1 16 [cS 12 1,gK 4096 0 [2012]],G2 25 [cS 12 1,gK 129052 0 [2012]],G1 31 [cS 12 1,gK 63516 0 [2012]]],e1 64 0x222223622600006200022201 [G2 8 [cS 3 1,gK 25 0 [2003]],G1 14 [cS 3 1,gK 8 0 [2003]]],(63,⟨0x22001ef222222001ef2222222001ef2222202001ef2222202222362260000620002220222160062000222012,[(46,[.closeS (.s 47)]),(54,[.closeS (.s 54)]),(62,[.closeS (.s 61),.closeS (.s 62)]),(69,[.closeS (.s 67),.closeS (.s 68)])],[G2 8 [cS 9 1,gK 1566 16 [2009]],G1 14 [cS 9 1,gK 542 16 [2009]],G2 25 [cS 9 1,cS 11 1,gK 6686 16 [2009,2011]],G1 31 [cS 9 1,cS 11 1,gK 2590 16 [2009,2011]]]⟩),e1 157 0x22222602260062000222622212 [g2 8 388 0,g1 14 0 0,g1 22 64 0,g1 27 64 0],e1 156 0x22262226222222222222622602260062000222602260202022212 [g2 6 534 16,g1 12 22 16,g2 20 3606 16,g1 26 534 16,g1 34 256 0,g1 40 256 0],e1 158 0x222222622226c4c4404022202062006c0402220202602260206260000012 [G2 8 [cS 9 1,gK 1566 16 [2009]],G1 14 [cS 9 1,gK 512 0 [2009]]],e0 113 0x26e222222e22200026e222222e2220002226e222222e2220002022e2222222022001ef22202220226222202001ef26222e20202200202222020122,e0 65 0x26001cf4444442e2220002226001cf4444442e2220002022e2222222002026e222222e2220002026e222222e2220002026e222222e2220002026e222222e2220002020122,e1 29 0x2222236e026000006200022222366cc4c0044c004440264c0022600006200022e222002e222000222022e222222202001efe222222200020202020202220122 [G1 22 [cS 7 1,gK 196778 40 [2007]],G1 38 [cS 7 1,gK 17592186044586 40 [2007]],G2 45 [cS 7 1,gK 1954 32 [2007]],G1 51 [cS 7 1,gK 128 0 [2007]],G2 64 [cS 7 1,gK 2218 40 [2007]],G1 70 [cS 7 1,gK 128 0 [2007]]],e0 10 0x222e2020002222202202002202e02220011122,e1 11 0x2220626002600620000620201 [g1 8 16 0,g2 14 35 0,g1 20 0 0,g1 28 16 0,g1 33 16 0],e1 3 0x26c4cc4444222264426222022202e20206cc440440426c0426c042260222220026002220260022202e00022202600064402640220020122 [g1 42 91650 0]]
namespace trace_events_c1
def Ey:R0:=[o1 20 (.s 18) [],o2 21 (ix 5) [.s 16,.s 18] [],o2 22 (lD 5) [.s 21] [21],o2 6 (.a (.alloc 5 [.int N 0,.int N 0,.int N 0,.int N 0,.bN])) [] [],o1 5 (.s 20) [20],oz (.l (.store 5)) [.s 6,.s 22] [22]]
def B4:R0:=[o1 23 (.s 0) [],o1 24 (.s 3) [],o1 25 (.s 5) [5],o2 26 (bI .add) [.s 25,.k (.int N 1)] [25],o2 27 (.p (.build [.int N 0,.int N 0] [(0,1),(1,1)])) [.s 24,.s 26] [24,26],o2 28 (lD 5) [.s 6] [6],o2 29 .c [.s 23,.s 27,.s 28] [23,27,28],o2 30 (.p .not) [.s 29] [29]]
def zS:R0:=[o2 31 (bI .add) [.s 18,.k (.int N 1)] [],o1 18 (.s 31) [31]]
def IQ:RC:=.hg (.seq (.ops [o2 19 (bI .lss) [.s 18,.s 17] []]) (.seq (.cond (.s 19) .skip (.exit 2)) (.seq (.block 3 (.seq (.ops Ey) (.seq (.ops B4) (.cond (.s 30) .ret .skip)))) (.ops zS)))) (.keep [0,3,8,9,10,16,17,18] [])
def OQ:R0:=[o1 12 (.s 10) [],o2 13 (ix 3) [.s 8,.s 10] [],o2 14 (lD 3) [.s 13] [13],o2 4 (.a (.alloc 3 [.str ByteArray.empty,.bN,.bN])) [] [],o1 3 (.s 12) [12],oz (.l (.store 3)) [.s 4,.s 14] [14]]
def KS:R0:=[o2 15 (fa 2) [.s 4] [],o2 16 (ld 1) [.s 15] [15],o2 17 ln [.s 16] [],o1 18 (.k (.int N 0)) []]
def JJ:R0:=[o2 32 (bI .add) [.s 10,.k (.int N 1)] [],o1 10 (.s 32) [32]]
def U2:RC:=.block 2 (.gh (.keep [0,3,8,9,10,16,17,18] []) (.loop IQ))
def RU:RC:=.hg (.seq (.ops [o2 11 (bI .lss) [.s 10,.s 9] []]) (.seq (.cond (.s 11) .skip (.exit 0)) (.seq (.block 1 (.seq (.ops OQ) (.seq (.ops KS) U2))) (.ops JJ)))) (.keep [0,8,9,10] [])
def Qa:R0:=[o2 7 (fa 0) [.s 1] [1],o2 8 (ld 1) [.s 7] [7],o2 9 ln [.s 8] [],o1 10 (.k (.int N 0)) []]
def U1:RC:=.block 0 (.gh (.keep [0,8,9,10] []) (.loop RU))
def text:RF:=⟨33,[],.seq (.ops Qa) U1⟩
section
variable{S:Sys}
abbrev I1(ps:Sl bT)(i:Int)(B:aY (aY V))(more:Bool)(y:Nat):St:=⟨[(0,.yl y),Cv 8 ps,Iv 9 (len ps),Iv 10 i],[],[],B,more,y⟩
abbrev I2(ps:Sl bT)(i:Int)(es:Sl Event)(j:Int)(B:aY (aY V))(more:Bool)(y:Nat):St:=⟨[(0,.yl y),Iv 3 i,Cv 8 ps,Iv 9 (len ps),Iv 10 i,Cv 16 es,Iv 17 (len es),Iv 18 j],[],[],B,more,y⟩
abbrev S2(ps:Sl bT)(i:Int)(es:Sl Event)(j:Int)(b:Bool)(B:aY (aY V))(more:Bool)(y:Nat):St:=⟨[(0,.yl y),Iv 3 i,Cv 8 ps,Iv 9 (len ps),Iv 10 i,Cv 16 es,Iv 17 (len es),Iv 18 j,Bv 19 b],[],[],B,more,y⟩
theorem ab0(ps:Sl bT)(i:Int)(es:Sl WF)(j:Int)(B:S')(more:X')(y:Nat)(D:_s (j<len es)=O):
 rn S.bare qo M (.rc IQ) [] (I2 ps i es j B more y)=M (.exit 2,S2 ps i es j O B more y):=by
 refine Le.get ?_;refine Kf (n:=7) (fo':=.rc (.cond (.s 19) .skip (.exit 2))) (n?:=[.seq (.seq (.block 3 (.seq (.ops Ey) (.seq (.ops B4) (.cond (.s 30) .ret .skip)))) (.ops zS)),.gst (.keep [0,3,8,9,10,16,17,18] [])]) (λb=>S2 ps i es j b B more y) D p? ?_
 exact Le.of_eq p?
theorem acq(ps:Sl bT)(i:Int)(es:Sl WF)(j:Int)(e:WF)(B:S')(more:X')(y:Nat)(D:_s (j<len es)=U)(G:idx es j=M e)(d:(!(more|| !B.isEmpty))=O):
 rn S.bare qo M (.rc IQ) [] (I2 ps i es j ([enc (⟨i,w? N (j+1)⟩:bf),enc e]::B) more y)=M (.norm,I2 ps i es (w? N (j+1)) B more y):=by
 refine Le.get ?_;refine Kt (n:=7) (fo':=.rc (.cond (.s 19) .skip (.exit 2))) (n?:=[.seq (.seq (.block 3 (.seq (.ops Ey) (.seq (.ops B4) (.cond (.s 30) .ret .skip)))) (.ops zS)),.gst (.keep [0,3,8,9,10,16,17,18] [])]) (λb=>S2 ps i es j b ([enc (⟨i,w? N (j+1)⟩:bf),enc e]::B) more y) D p? ?_
 refine VY G ?_;refine Uj 8 O [] (Ey.drop 1) [.seq (.seq (.ops B4) (.cond (.s 30) .ret .skip)),.blk 3,.seq (.ops zS),.gst (.keep [0,3,8,9,10,16,17,18] [])] ⟨[(0,.yl y),Iv 3 i,Cv 8 ps,Iv 9 (len ps),Iv 10 i,Cv 16 es,Iv 17 (len es),Iv 18 j,Bv 19 U,Iv 20 j],[],[],([enc (⟨i,w? N (j+1)⟩:bf),enc e]::B),more,y⟩ N Y p? λx a=>?_
 obtain rfl:x=e:=g?
 refine Aal 1 O [] (Ey.drop 3) [.seq (.seq (.ops B4) (.cond (.s 30) .ret .skip)),.blk 3,.seq (.ops zS),.gst (.keep [0,3,8,9,10,16,17,18] [])] ⟨[(0,.yl y),Iv 3 i,Cv 8 ps,Iv 9 (len ps),Iv 10 i,Cv 16 es,Iv 17 (len es),Iv 18 j,Bv 19 U,Iv 20 j,Cv 22 x],[],[],([enc (⟨i,w? N (j+1)⟩:bf),enc x]::B),more,y⟩ [iv 0,iv 0,iv 0,iv 0,.v .bN] Y (by simp only[bE,AS,tD,ve,tF,vc,wN,vf,wh,tE,u_,A6,wE,wL,wu,wI,yY,yW,vi,wK,SV.cZ];rfl) p? ?_
 refine Ast 1 O [] (Ey.drop 5) [.seq (.seq (.ops B4) (.cond (.s 30) .ret .skip)),.blk 3,.seq (.ops zS),.gst (.keep [0,3,8,9,10,16,17,18] [])] ⟨[(0,.yl y),Iv 3 i,Cv 8 ps,Iv 9 (len ps),Iv 10 i,Cv 16 es,Iv 17 (len es),Iv 18 j,Bv 19 U,Cv 22 x,Pv 6,Iv 5 j],[Xb 6 (⟨0,0,0,0,.nil⟩:WF)],[],([enc (⟨i,w? N (j+1)⟩:bf),enc x]::B),more,y⟩ 6 0 x [iv 0,iv 0,iv 0,iv 0,.v .bN] ((cells x).map .v) Y p? ?_
 refine Kyl (n:=10) (q:=B4.drop 6) (n?:=[.seq (.cond (.s 30) .ret .skip),.blk 3,.seq (.ops zS),.gst (.keep [0,3,8,9,10,16,17,18] [])]) (st:=⟨[(0,.yl y),Iv 3 i,Cv 8 ps,Iv 9 (len ps),Iv 10 i,Cv 16 es,Iv 17 (len es),Iv 18 j,Bv 19 U,(23,.yl y),Cv 27 (⟨i,w? N (j+1)⟩:bf),Cv 28 x],[Xb 6 x],[],([enc (⟨i,w? N (j+1)⟩:bf),enc x]::B),more,y⟩) (vs:=[cv (⟨i,w? N (j+1)⟩:bf),cv x]) p? Y p? p? Y Y ?_
 refine Kf (n:=3) (fo':=.rc (.cond (.s 30) .ret .skip)) (n?:=[.blk 3,.seq (.ops zS),.gst (.keep [0,3,8,9,10,16,17,18] [])]) (λb=>⟨[(0,.yl y),Iv 3 i,Cv 8 ps,Iv 9 (len ps),Iv 10 i,Cv 16 es,Iv 17 (len es),Iv 18 j,Bv 19 U,Bv 30 b],[Xb 6 x],[],B,more,y⟩) d p? ?_
 exact Le.of_eq p?
theorem YJ(ps:Sl bT)(i:Int)(es:Sl WF)(j:Int)(e:WF)(B:S')(more:X')(y:Nat)(D:_s (j<len es)=U)(G:idx es j=M e)(d:(!(more|| !B.isEmpty))=U):
 rn S.bare qo M (.rc IQ) [] (I2 ps i es j ([enc (⟨i,w? N (j+1)⟩:bf),enc e]::B) more y)=M (.ret,⟨[(0,.yl y),Iv 3 i,Cv 8 ps,Iv 9 (len ps),Iv 10 i,Cv 16 es,Iv 17 (len es),Iv 18 j,Bv 19 U,Bv 30 U],[Xb 6 e],[],B,more,y⟩):=by
 refine Le.get ?_;refine Kt (n:=7) (fo':=.rc (.cond (.s 19) .skip (.exit 2))) (n?:=[.seq (.seq (.block 3 (.seq (.ops Ey) (.seq (.ops B4) (.cond (.s 30) .ret .skip)))) (.ops zS)),.gst (.keep [0,3,8,9,10,16,17,18] [])]) (λb=>S2 ps i es j b ([enc (⟨i,w? N (j+1)⟩:bf),enc e]::B) more y) D p? ?_
 refine VY G ?_;refine Uj 8 O [] (Ey.drop 1) [.seq (.seq (.ops B4) (.cond (.s 30) .ret .skip)),.blk 3,.seq (.ops zS),.gst (.keep [0,3,8,9,10,16,17,18] [])] ⟨[(0,.yl y),Iv 3 i,Cv 8 ps,Iv 9 (len ps),Iv 10 i,Cv 16 es,Iv 17 (len es),Iv 18 j,Bv 19 U,Iv 20 j],[],[],([enc (⟨i,w? N (j+1)⟩:bf),enc e]::B),more,y⟩ N Y p? λx a=>?_
 obtain rfl:x=e:=g?
 refine Aal 1 O [] (Ey.drop 3) [.seq (.seq (.ops B4) (.cond (.s 30) .ret .skip)),.blk 3,.seq (.ops zS),.gst (.keep [0,3,8,9,10,16,17,18] [])] ⟨[(0,.yl y),Iv 3 i,Cv 8 ps,Iv 9 (len ps),Iv 10 i,Cv 16 es,Iv 17 (len es),Iv 18 j,Bv 19 U,Iv 20 j,Cv 22 x],[],[],([enc (⟨i,w? N (j+1)⟩:bf),enc x]::B),more,y⟩ [iv 0,iv 0,iv 0,iv 0,.v .bN] Y (by simp only[bE,AS,tD,ve,tF,vc,wN,vf,wh,tE,u_,A6,wE,wL,wu,wI,yY,yW,vi,wK,SV.cZ];rfl) p? ?_
 refine Ast 1 O [] (Ey.drop 5) [.seq (.seq (.ops B4) (.cond (.s 30) .ret .skip)),.blk 3,.seq (.ops zS),.gst (.keep [0,3,8,9,10,16,17,18] [])] ⟨[(0,.yl y),Iv 3 i,Cv 8 ps,Iv 9 (len ps),Iv 10 i,Cv 16 es,Iv 17 (len es),Iv 18 j,Bv 19 U,Cv 22 x,Pv 6,Iv 5 j],[Xb 6 (⟨0,0,0,0,.nil⟩:WF)],[],([enc (⟨i,w? N (j+1)⟩:bf),enc x]::B),more,y⟩ 6 0 x [iv 0,iv 0,iv 0,iv 0,.v .bN] ((cells x).map .v) Y p? ?_
 refine Kyl (n:=10) (q:=B4.drop 6) (n?:=[.seq (.cond (.s 30) .ret .skip),.blk 3,.seq (.ops zS),.gst (.keep [0,3,8,9,10,16,17,18] [])]) (st:=⟨[(0,.yl y),Iv 3 i,Cv 8 ps,Iv 9 (len ps),Iv 10 i,Cv 16 es,Iv 17 (len es),Iv 18 j,Bv 19 U,(23,.yl y),Cv 27 (⟨i,w? N (j+1)⟩:bf),Cv 28 x],[Xb 6 x],[],([enc (⟨i,w? N (j+1)⟩:bf),enc x]::B),more,y⟩) (vs:=[cv (⟨i,w? N (j+1)⟩:bf),cv x]) p? Y p? p? Y Y ?_
 refine Kt (n:=3) (fo':=.rc (.cond (.s 30) .ret .skip)) (n?:=[.blk 3,.seq (.ops zS),.gst (.keep [0,3,8,9,10,16,17,18] [])]) (λb=>⟨[(0,.yl y),Iv 3 i,Cv 8 ps,Iv 9 (len ps),Iv 10 i,Cv 16 es,Iv 17 (len es),Iv 18 j,Bv 19 U,Bv 30 b],[Xb 6 x],[],B,more,y⟩) d p? ?_
 exact Le.of_eq p?
abbrev S1(ps:Sl bT)(i:Int)(b:Bool)(B:aY (aY V))(more:Bool)(y:Nat):St:=⟨[(0,.yl y),Cv 8 ps,Iv 9 (len ps),Iv 10 i,Bv 11 b],[],[],B,more,y⟩
theorem abf(ps:Sl bT)(i:Int)(B:S')(more:X')(y:Nat)(D:_s (i<len ps)=O):
 rn S.bare qo M (.rc RU) [] (I1 ps i B more y)=M (.exit 0,S1 ps i O B more y):=by
 refine Le.get ?_;refine Kf (n:=7) (fo':=.rc (.cond (.s 11) .skip (.exit 0))) (n?:=[.seq (.seq (.block 1 (.seq (.ops OQ) (.seq (.ops KS) U2))) (.ops JJ)),.gst (.keep [0,8,9,10] [])]) (λb=>S1 ps i b B more y) D p? ?_
 exact Le.of_eq p?
def WE:QQ:=[.blk 2,.blk 1,.seq (.ops JJ),.gst (.keep [0,8,9,10] [])]
theorem WW(ps:Sl bT)(i:Int)(p:bT)(B:S')(more:X')(y:Nat)(r:Out×St)(D:_s (i<len ps)=U)(G:idx ps i=M p)
 (h:rn S.bare qo M (.rc (.loop IQ)) WE (I2 ps i p.c? 0 B more y)=M r):rn S.bare qo M (.rc RU) [] (I1 ps i B more y)=M r:=by
 refine Le.get ?_;refine Kt (n:=7) (fo':=.rc (.cond (.s 11) .skip (.exit 0))) (n?:=[.seq (.seq (.block 1 (.seq (.ops OQ) (.seq (.ops KS) U2))) (.ops JJ)),.gst (.keep [0,8,9,10] [])]) (λb=>S1 ps i b B more y) D p? ?_
 refine VY G ?_;refine Uj 8 O [] (OQ.drop 1) [.seq (.seq (.ops KS) U2),.blk 1,.seq (.ops JJ),.gst (.keep [0,8,9,10] [])] ⟨[(0,.yl y),Cv 8 ps,Iv 9 (len ps),Iv 10 i,Bv 11 U,Iv 12 i],[],[],B,more,y⟩ N Y p? λx a=>?_
 obtain rfl:x=p:=g?
 refine Aal 1 O [] (OQ.drop 3) [.seq (.seq (.ops KS) U2),.blk 1,.seq (.ops JJ),.gst (.keep [0,8,9,10] [])] ⟨[(0,.yl y),Cv 8 ps,Iv 9 (len ps),Iv 10 i,Bv 11 U,Iv 12 i,Cv 14 x],[],[],B,more,y⟩ [.v (.str ByteArray.empty),.v .bN,.v .bN] Y (by simp only[bE,AS,tD,ve,tF,vc,wN,vf,wh,tE,u_,A6,wE,wL,wu,wI,yY,yW,vi,wK,SV.cZ];rfl) p? ?_
 refine Ast 1 O [] (OQ.drop 5) [.seq (.seq (.ops KS) U2),.blk 1,.seq (.ops JJ),.gst (.keep [0,8,9,10] [])] ⟨[(0,.yl y),Cv 8 ps,Iv 9 (len ps),Iv 10 i,Bv 11 U,Cv 14 x,Pv 4,Iv 3 i],[Xb 4 (⟨ByteArray.empty,.nil,.nil⟩:bT)],[],B,more,y⟩ 4 0 x [.v (.str ByteArray.empty),.v .bN,.v .bN] ((cells x).map .v) Y p? ?_
 refine abc 6 O [] (KS.drop 2) [.seq U2,.blk 1,.seq (.ops JJ),.gst (.keep [0,8,9,10] [])] ⟨[(0,.yl y),Cv 8 ps,Iv 9 (len ps),Iv 10 i,Bv 11 U,Pv 4,Iv 3 i,Cv 16 x.c?],[Xb 4 x],[],B,more,y⟩ x.c? Y p? ?_
 refine Bj (n:=5) (fo':=.rc (.loop IQ)) (n?:=WE) (e?:=I2 ps i x.c? 0 B more y) p? (Le.of_eq h)
theorem Ym(ps:Sl bT)(i:Int)(es:Sl WF)(j:Int)(B:S')(more:X')(y:Nat):
 rn S.bare qo M (.ex 2) WE (S2 ps i es j O B more y)=M (.norm,I1 ps (w? N (i+1)) B more y):=by kernel_rfl
theorem wrap_small(n:Nat)(h:n<9223372036854775807):w? N ((n:Int)+1)=((n+1:Nat):Int):=by simp[w?,IntKind.bits,i8];omega
abbrev eI(x:bf×Event):aY V:=[enc x.1,enc x.2]
theorem xP.step{x:So}{D i?:S'}{more:X'}(h:xP D (x::i?) more):∃B,D=x::B/\((!(more|| !B.isEmpty))=O/\xP B i? more\/(!(more|| !B.isEmpty))=U/\B=[]):=by rcases h with⟨rfl,rfl⟩|⟨rfl,u,r,a⟩;exact⟨i?,Y,.inl ⟨Y,.inl ⟨Y,Y⟩⟩⟩;cases D with|nil=>grind|cons w D=>simp only[m8,List.cons.injEq]at a;obtain⟨rfl,rfl⟩:=a;refine⟨D,Y,?_⟩;cases D with|nil=>grind|cons z C=>exact .inl ⟨Y,.inr ⟨Y,f?,r,Y⟩⟩
theorem wO{α:Type}{s:Sl α}{j:Nat}{x:α}{r:aY α}(h:s.l.drop j=x::r):idx s (j:Int)=M x/\_s ((j:Int)<len s)=U/\s.l.drop (j+1)=r:=by
 have a:j<W s.l:=by apply Classical.byContradiction;intro w;rw[List.drop_eq_nil_of_le a?]at h;cases h
 have u:=List.drop_eq_getElem_cons a;rw[u]at h;simp only[List.cons.injEq]at h;refine⟨?_,g?,h.2⟩;unfold idx;simp_all
variable{Q:Out×St->aX (Out×St)}{fs:QQ}
theorem inner(ps:Sl bT)(i:Int)(es:Sl WF)(d:W es.l<9223372036854775807)(more:X')(y:Nat)(R:S'):∀(a:aY WF)(j:Nat),es.l.drop j=a->∀D,xP D ((ki i j a).map eI++R) more->
 (∃(B:S')(T:Int),xP B R more/\rn S.bare qo Q (.rc (.loop IQ)) fs (I2 ps i es j D more y)=rn S.bare qo Q (.ex 2) fs (S2 ps i es T O B more y))\/
 (∃e?:St,e?.want=[]/\rn S.bare qo Q (.rc (.loop IQ)) fs (I2 ps i es j D more y)=Q (.ret,e?))
 |[],j,hd,D,G=>by have b:_s ((j:Int)<len es)=O:=(by simp_all);exact .inl ⟨D,j,by simpa[ki]using G,I6 (ab0 ps i es j D more y b)⟩|e::a,j,hd,D,G=>by have⟨b,z,C⟩:=wO hd;have g:j<W es.l:=g?;simp only[ki,K?,m8]at G;obtain⟨B,rfl,u⟩:=xP.step G;have I:=wrap_small j a?;have w:((j:Int)+1)=w? N ((j:Int)+1):=g?;rcases u with⟨u,L⟩|⟨u,rfl⟩;have k:=acq (S:=S) ps i es j e B more y z b u;rw[<-w]at k;have k2:=JV (Q:=Q) (fs:=fs) k;have m:=inner ps i es d more y R a (j+1) C B g?;rw[show((j+1:Nat):Int)=(j:Int)+1 from Y]at m;grind;have k:=YJ (S:=S) ps i es j e [] more y z b u;rw[<-w]at k;exact .inr ⟨_,by rfl,IL k⟩
theorem outer(ps:Sl bT)(d:W ps.l<9223372036854775807)(D:∀p∈ps.l,W p.c?.l<9223372036854775807)(more:X')(y:Nat):∀(a:aY bT)(i:Nat),ps.l.drop i=a->∀B,xP B ((hD i a).map eI) more->
 rn S.bare qo Qi (.rc (.loop RU)) [.blk 0] (I1 ps i B more y)=M ()
 |[],i,hd,B,G=>by
  have b:_s ((i:Int)<len ps)=O:=by simp_all
  rw[I6 (abf ps i B more y b)];have:B=[]:=by
   rcases G with⟨_,rfl⟩|⟨_,L,r,c⟩;rfl;have:B=[]:=by cases B with
    |nil=>rfl|cons=>simp[hD]at c
   grind
  subst this;rfl
 |p::a,i,hd,B,G=>by have⟨b,z,C⟩:=wO hd;have hi:i<W ps.l:=g?;have I:p∈ps.l:=List.mem_of_mem_drop (i:=i) g?;simp only[hD,List.map_append]at G;have u:=wrap_small i a?;rcases inner (S:=S) (Q:=M) (fs:=WE) ps i p.c? (D p I) more y _ p.c?.l 0 rfl B G with⟨w,g,g1,g2⟩|⟨e?,g1,g2⟩;rw[Ym,u]at g2;rw[JV (WW ps i p B more y _ z b g2)];exact outer ps d D more y a (i+1) C w g1;rw[IL (WW ps i p B more y _ z b g2)];simp[Qi,g1]
theorem all(t:Z4)(B:aY (bf×WF))(h:kN t=M B)(D:S')(more:X')(G:xP D (B.map eI) more)(y:Nat):
 rn S.bare qo Qi (.rc text.body) [] ⟨ye 0 (([]:So).map .v++.yl y::[V.fptr (cells t)].map .v),[],[],D,more,y⟩=M ():=by
 unfold kN at h;split at h
 .rename_i hk;cases h;simp only[ζh,List.all_eq_true,rz,_g]at hk;refine Le.get ?_;refine abc 4 O [] (Qa.drop 2) [.seq U1] ⟨[(0,.yl y),Cv 8 t.b?],[],[],D,more,y⟩ t.b? Y p? ?_
  refine Bj (n:=5) (fo':=.rc (.loop RU)) (n?:=[.blk 0]) (e?:=I1 t.b? 0 D more y) p? (Le.of_eq ?_)
  exact outer t.b? hk.1 hk.2 more y t.b?.l 0 rfl D G
 simp_all
end
theorem yU{α:Type}[bD α]{a b:Sl α}(h:cE a=cE b):rows a.l=rows b.l:=by cases a<;>cases b<;>first|rfl|(simp only[cE,Sl.k,lQ,V.fsl.injEq,true_and,reduceCtorEq]at h;done)|(simp only[cE,Sl.k,lQ,V.fsl.injEq,true_and,reduceCtorEq]at h;omega)
theorem zj(p:Int):∀(es B:aY WF)(j:Int),rows es=rows B->(ki p j es).map eI=(ki p j B).map eI
 |[],[],_,_=>rfl|[],_::_,_,h=>by simp[rows]at h|_::_,[],_,h=>by simp[rows]at h|e::es,D::B,j,h=>by simp only[rows,K?,List.cons.injEq]at h;have a:enc e=enc D:=(by show V.agg (cells e)=V.agg (cells D);rw[h.1]);simp only[ki,K?,eI,a,zj p es B (j+1) h.2]
theorem Gd:∀(ps B:aY bT)(i:Int),rows ps=rows B->(hD i ps).map eI=(hD i B).map eI
 |[],[],_,_=>rfl|[],_::_,_,h=>by simp[rows]at h|_::_,[],_,h=>by simp[rows]at h|p::ps,p'::B,i,h=>by simp only[rows,K?,List.cons.injEq]at h;have a:cE p.c?=cE p'.c?:=(by have:=h.1;change[V.str p.name,cE p.h?,cE p.c?]=[V.str p'.name,cE p'.h?,cE p'.c?]at this;grind);simp only[hD,List.map_append,zj i _ _ 0 (yU a),Gd ps B (i+1) h.2]
def yI(f:Y')(g:Y')(a b:So)(xs:S'):Prop:=∃(t:Z4)(u:aY (bf×WF)),g=f/\a=[]/\b=[.fptr (cells t)]/\kN t=M u/\xs=u.map eI
theorem yI.uniq{f g:Y'}{a b:So}{xs ys:S'}(h:yI f g a b xs)(k:yI f g a b ys):xs=ys:=by
 obtain⟨t,C,rfl,rfl,rfl,c,rfl⟩:=h;obtain⟨w,z,_,_,B,u,rfl⟩:=k;simp only[List.cons.injEq,V.fptr.injEq,and_true]at B;have D:cE t.b?=cE w.b?:=by change[cE t.b?]=[cE w.b?]at B;grind
 unfold kN at c u;split at c<;>split at u<;>simp only[ζa,reduceCtorEq]at c u;subst c u;exact Gd _ _ 0 (yU D)
end trace_events_c1
end Go.VE
namespace Go.VE
open Go.Proofs.YtddlogilhmloeabGreatDoor
noncomputable section
def KB(f:Y'):aX JW:=bif beq f 192 then M (vF E)else bif beq f 189 then M (vT E)else J
def Sb:Sys:=⟨E,λn=>n,λ_ _ _=>J,AZ E,KB⟩
theorem LY:∀f q,KB f=M q->qa E f q:=by intro f q h;unfold KB at h;cases a:beq f 192 with|true=>rw[a]at h;cases h;have:=Nat.eq_of_beq_eq_true a;subst this;exact V9 AN p? p? (FC p?)|false=>rw[a]at h;cases a:beq f 189 with|true=>rw[a]at h;cases h;have:=Nat.eq_of_beq_eq_true a;subst this;exact Wj p? p? p? p?|false=>rw[a]at h;cases h
def Tx:sY:=Vl E M (lk Ro)
abbrev cB:b_:=dB Sb Tx
theorem aaP:uk Sb Tx where
 fn f rf h:=let⟨u,a,w⟩:=EX h;⟨u,M,a,AN,w⟩
 A8 f z y h:=Jt h
 prm:=LY
theorem Sw:∀f a b xs,Sb.items f a b=M xs->fM Sb f a b xs:=λf a b xs h=>by cases h
end
end Go.VE
namespace Go.VE
noncomputable section
namespace IB
def fq(s0:Zg):aX Zg:=H (Sl.isNil s0) λu=>bh u (M Sl.nil) (H (qh (Sl.row []:Zg) s0) λw=>M w)
theorem lI:nG Sb cB 78 (λs0:Zg=>[enc s0]) (λz=>fq z):=nG.mk' (pI (Tx 78)) (λs0=>abd 9 λu _=>bp 2 4 aZ (AX 7 5 7 λw _=>aZ))
namespace cM
def dQ(k6:Int)(T:Sl WF)(g j:Int)(G:Sl Assign)(d:Int)(i:S')(B:Zg)(D:Int)(more:X'):aX (Fw ((Zg)×Int) Zg Empty):=bh (_s (D<d)) (H (idx G D) λu=>H (Sl.iE B u.var) λw=>H (Sl.put B w (u.value:Int)) λz=>M (.n (z,w? N (D+1)))) (M (.x B))
def W3(B:Zg)(k6:Int)(d:Sl WF)(D G:Int)(T:Sl Assign)(g W:Int)(Y:S')(more:X'):aX (Fw ((Zg)×Int×Int×(S')) S' S'):=(bL (λq:(Zg)×Int=>dQ k6 d D G T g Y q.1 q.2 more) (B,W)).bind (Fw.elim (λe=>((fq e).bind Sl.whole).bind λw=>(yl Y more [.int N (w? N (k6+1)),enc w]).bind λu=>bh u.1 (M (.n (e,D,w? N (G+1),u.2))) (M (.r u.2))) (λe=>c! e))
def bK(D:Sl WF)(G:Zg)(d B:Int)(T:S')(more:X'):aX (Fw ((Zg)×Int×Int×(S')) S' S'):=bh (_s (B<d)) (H (idx D B) λu=>W3 G B D d B u.assign (len u.assign) 0 T more) (M (.x T))
def W2(B:Zg)(D:Sl WF)(G d:Int)(T:S')(more:X'):aX S':=H (bL (λq:(Zg)×Int×Int×(S')=>bK D q.1 q.2.1 q.2.2.1 q.2.2.2 more) (B,G,d,T)) (Fw.elim (λe=>M e) (λe=>M e))
def bl(T:bT)(G:Sl Var)(d:Int)(g:S')(B:Zg)(D:Int)(more:X'):aX (Fw ((Zg)×Int) Zg Empty):=bh (_s (D<d)) (H (idx G D) λu=>H (eH B (u.init_:Int)) λw=>M (.n (w,w? N (D+1)))) (M (.x B))
def W1(B:bT)(D:Zg)(G:Sl Var)(d T:Int)(g:S')(more:X'):aX S':=(bL (λq:(Zg)×Int=>bl B G d g q.1 q.2 more) (D,T)).bind (Fw.elim (λe=>((fq e).bind Sl.whole).bind λw=>(yl g more [.int N 0,enc w]).bind λu=>bh u.1 (cM.W2 e B.c? (len B.c?) 0 u.2 more) (M u.2)) (λe=>c! e))
end cM
def cM(D:S')(B:bT)(more:X'):aX S':=cM.W1 B (Sl.nil:Zg) B.h? (len B.h?) 0 D more
open cM in
theorem Ba(more:X')(y:Nat)(d:S')(B:bT):Le ((cM d B more).bind λr=>M r) (bZ Sb cB Qw (.rc (tb Tx 208),[],⟨ye 0 (.yl y::[V.fptr (cells B)].map .v),[],[],d,more,y⟩)):=bM 10 B.h? (dO 6 (λC=>⟨[(0,.yl y),Kv 1 B,Ov 3,Cv 11 B.h?,Iv 12 (len B.h?),Iv 13 C.2],[Lb 2003 C.1],[],d,more,y⟩) (λD=>(0,⟨[(0,.yl y),Kv 1 B,Ov 3],[Lb 2003 D],[],d,more,y⟩)) (λC=>bp 8 14 (bB 7 λT _=>om 10 2003 20 21 λg _=>aZ) aZ) (λD=>WT 7 25 lI D λL _=>Byl 1 [.int N 0,enc L] λS _=>ct 3 27 (bM 7 B.c? (dM 6 (λu=>⟨[(0,.yl y),Ov 3,Cv 29 B.c?,Iv 30 u.2.1,Iv 31 u.2.2.1],[Lb 2003 u.1],[],u.2.2.2,more,y⟩) (λw=>(2,⟨[],[],[],w,more,y⟩)) (λw=>⟨[],[],[],w,more,y⟩) (λu=>bp 8 32 (bB 8 λz _=>o7 3 7 0 z (bM 7 z.assign (dO 6 (λG=>⟨[(0,.yl y),Ov 3,Iv 6 u.2.2.1,Cv 29 B.c?,Iv 30 u.2.1,Iv 31 u.2.2.1,Cv 37 z.assign,Iv 38 (len z.assign),Iv 39 G.2],[Lb 2003 G.1],[],u.2.2.2,more,y⟩) (λI=>(4,⟨[(0,.yl y),Ov 3,Iv 6 u.2.2.1,Cv 29 B.c?,Iv 30 u.2.1,Iv 31 u.2.2.1],[Lb 2003 I],[],u.2.2.2,more,y⟩)) (λG=>bp 8 40 (bB 7 λi _=>jx N 11 2003 λW _=>r_ 0 2003 (.int N i.value) λX _=>aZ) aZ) (λI=>WT 8 54 lI I λQ _=>Byl 1 [.int N (w? N (u.2.2.1+1)),enc Q] λY _=>ct 3 56 aZ aZ)))) aZ) (λw=>aZ) (λw=>aZ))) aZ))
end IB
end
end Go.VE
namespace Go.VE
open IB
def yM:aY Assign->Zg->aX Zg
 |[],s=>M s|a::r,s=>H (Sl.iE s a.var) λj=>H (Sl.put s j a.value) (yM r)
def yD:aY Var->Zg->aX Zg
 |[],s=>M s|v::r,s=>H (eH s v.init_) (yD r)
def Pe(s:Zg):aX Zg:=H (fq s) Sl.whole
def yA:Int->aY WF->Zg->aX (aY (Int×Zg))
 |_,[],_=>M []|k,e::r,s=>H (yM e.assign.l s) λn=>H (Pe n) λc=>(yA (k+1) r n).map ((k+1,c)::·)
def kX(p:bT):aX (aY (Int×Zg)):=if rz (W p.h?.l)&&(rz (W p.c?.l)&&p.c?.l.all λe=>rz (W e.assign.l))then(yD p.h?.l .nil).bind λs=>H (Pe s) λc=>(yA 0 p.c?.l s).map ((0,c)::·)else J
namespace IST
abbrev eI(x:Int×Sl Int):aY V:=[enc x.1,enc x.2]
theorem EV{n:Nat}(h:rz n=U):n<9223372036854775807:=by simpa[rz]using h
theorem wrap_small(n:Nat)(h:n<9223372036854775807):w? N ((n:Int)+1)=((n+1:Nat):Int):=by simp[w?,IntKind.bits,i8];omega
theorem wO{α:Type}{s:Sl α}{j:Nat}{x:α}{r:aY α}(h:s.l.drop j=x::r):idx s (j:Int)=M x/\_s ((j:Int)<len s)=U/\s.l.drop (j+1)=r:=by
 have a:j<W s.l:=by apply Classical.byContradiction;intro w;rw[List.drop_eq_nil_of_le a?]at h;cases h
 have u:=List.drop_eq_getElem_cons a;rw[u]at h;simp only[List.cons.injEq]at h;refine⟨?_,by simp[len,a],h.2⟩;unfold idx;rw[L' a?];simp[ζd a,h.1]
theorem LF{α:Type}{s:Sl α}{j:Nat}(h:s.l.drop j=[]):_s ((j:Int)<len s)=O:=by
 have:W s.l<=j:=by simpa using h
 simp[len];omega
theorem ini(p:bT)(v:Sl Var)(d:W v.l<9223372036854775807)(D:S')(more:X'):∀(a:aY Var)(j:Nat),v.l.drop j=a->∀s B,yD a s=M B->
 bL (λq:Zg×Int=>cM.bl p v (len v) D q.1 q.2 more) (s,(j:Int))=M (.x B)
 |[],j,hd,s,B,h=>by cases h;rw[fP];simp only[cM.bl,LF hd,bh,ζb,Bool.false_eq_true,_a]|x::a,j,hd,s,B,h=>by have⟨b,G,T⟩:=wO hd;have w:j<W v.l:=(by simpa[len]using G);simp only[yD,ζg]at h;have⟨n,u,h⟩:=h;rw[fP];simp only[cM.bl,b,G,u,bh,ζb,N',wrap_small j a?];exact ini p v d D more a (j+1) T n B h
theorem set(k:Int)(es:Sl WF)(a b:Int)(v:Sl Assign)(g:W v.l<9223372036854775807)(D:S')(more:X'):∀(c:aY Assign)(j:Nat),v.l.drop j=c->∀s B,yM c s=M B->
 bL (λq:Zg×Int=>cM.dQ k es a b v (len v) D q.1 q.2 more) (s,(j:Int))=M (.x B)
 |[],j,hd,s,B,h=>by cases h;rw[fP];simp only[cM.dQ,LF hd,bh,ζb,Bool.false_eq_true,_a]|x::c,j,hd,s,B,h=>by have⟨d,G,T⟩:=wO hd;have w:j<W v.l:=(by simpa[len]using G);simp only[yM,ζg]at h;have⟨i,hi,n,u,h⟩:=h;rw[fP];simp only[cM.dQ,d,G,hi,u,bh,ζb,N',wrap_small j a?];exact set k es a b v g D more c (j+1) T n B h
theorem xP.step{x:So}{D i?:S'}{more:X'}(h:xP D (x::i?) more):∃B,yl D more x=M ((more|| !B.isEmpty),B)/\((more|| !B.isEmpty)=U/\xP B i? more\/(more|| !B.isEmpty)=O/\B=[]):=by rcases h with⟨rfl,rfl⟩|⟨rfl,u,r,a⟩;exact⟨i?,by simp[yl],.inl ⟨Y,.inl ⟨Y,Y⟩⟩⟩;cases D with|nil=>exact _e Y u|cons w D=>simp only[m8,List.cons.injEq]at a;obtain⟨rfl,rfl⟩:=a;refine⟨D,by simp[yl],?_⟩;cases D with|nil=>exact .inr ⟨rfl,rfl⟩|cons z C=>exact .inl ⟨Y,.inr ⟨Y,f?,r,Y⟩⟩
theorem gz(es:Sl WF)(m:es.l.length<9223372036854775807)(G:∀e∈es.l,e.assign.l.length<9223372036854775807)(more:X'):∀(a:aY WF)(j:Nat),es.l.drop j=a->∀s B,yA (j:Int) a s=M B->∀D,xP D (B.map eI) more->
 ∃g:S',g=[]/\(bL (λq:Zg×Int×Int×S'=>cM.bK es q.1 q.2.1 q.2.2.1 q.2.2.2 more) (s,len es,(j:Int),D)=M (.x g)\/bL (λq:Zg×Int×Int×S'=>cM.bK es q.1 q.2.1 q.2.2.1 q.2.2.2 more) (s,len es,(j:Int),D)=M (.r g))
 |[],j,hd,s,B,h,D,T=>by cases h;have:D=[]:=(by rcases T with⟨_,rfl⟩|⟨_,L,r,d⟩;rfl;cases D with|nil=>rfl|cons=>simp at d);subst this;refine⟨[],rfl,.inl ?_⟩;rw[fP];simp only[cM.bK,LF hd,bh,ζb,Bool.false_eq_true,_a]
 |e::a,j,hd,s,B,h,D,T=>by have⟨f,I,o⟩:=wO hd;have Z:j<es.l.length:=(by simpa[len]using I);have Q:e∈es.l:=List.mem_of_mem_drop (i:=j) (by rw[hd];exact List.mem_cons_self ..);simp only[yA,ζg,ζf]at h;obtain⟨n,L,c,b,r,d,rfl⟩:=h;have b:(fq n).bind Sl.whole=M c:=b;have⟨w,z,S⟩:=xP.step T;have C:=wrap_small j a?;have z:yl D more [.int N ((j+1:Nat):Int),enc c]=M ((more|| !w.isEmpty),w):=z;rw[fP];have u:=set j es (len es) j e.assign (G e Q) D more e.assign.l 0 rfl s n L;rw[show((0:Nat):Int)=0 from rfl]at u;rcases S with⟨g1,g2⟩|⟨g1,rfl⟩;have⟨W,X,Y⟩:=gz es m G more a (j+1) o n r d w g2;refine⟨W,X,?_⟩;rw[g1]at z;simp only[cM.bK,cM.W3,f,I,u,b,z,bh,ζb,N',Fw.elim,C];exact Y;refine⟨[],rfl,.inr ?_⟩;rw[g1]at z;simp only[cM.bK,cM.W3,f,I,u,b,C,z,bh,ζb,N',_a,Bool.false_eq_true,Fw.elim]
theorem all(p:bT)(B:aY (Int×Zg))(h:kX p=M B)(D:S')(more:X')(G:xP D (B.map eI) more):cM D p more=M []:=by unfold kX at h;split at h;rename_i b;simp only[ζh,List.all_eq_true]at b;have⟨k1,k2,k3⟩:=b;simp only[ζg,ζf]at h;obtain⟨s,C,c,a,r,d,rfl⟩:=h;have a:(fq s).bind Sl.whole=M c:=a;have⟨u,w,I⟩:=xP.step G;have hi:=ini p p.h? (EV k1) D more p.h?.l 0 rfl .nil s C;rw[show((0:Nat):Int)=0 from rfl]at hi;have w:yl D more [.int N 0,enc c]=M ((more|| !u.isEmpty),u):=w;unfold cM cM.W1;simp only[hi,ζb,Fw.elim,a,w];rcases I with⟨g1,g2⟩|⟨g1,rfl⟩;obtain⟨L,rfl,z⟩:=gz p.c? (EV k2) (λe g=>EV (k3 e g)) more p.c?.l 0 rfl s r d u g2;rw[show((0:Nat):Int)=0 from rfl]at z;rw[g1];simp only[bh,N',cM.W2];rcases z with q|q<;>(rw[q];rfl);rw[g1];rfl;cases h
theorem yU{α:Type}[bD α]{a b:Sl α}(h:cE a=cE b):rows a.l=rows b.l:=by cases a<;>cases b<;>first|rfl|(simp only[cE,Sl.k,lQ,V.fsl.injEq,true_and,reduceCtorEq]at h;done)|(simp only[cE,Sl.k,lQ,V.fsl.injEq,true_and,reduceCtorEq]at h;exact h)
theorem L3:∀(a b:aY Var),rows a=rows b->∀s,yD a s=yD b s
 |[],[],_,_=>rfl|[],_::_,h,_=>by simp[rows]at h|_::_,[],h,_=>by simp[rows]at h|x::a,y::b,h,s=>by simp only[rows,K?,List.cons.injEq]at h;have c:x.init_=y.init_:=(by have:=h.1;change[V.str x.name,V.int N x.init_]=[V.str y.name,V.int N y.init_]at this;simpa using(List.cons.inj (List.cons.inj this).2).1);simp only[yD,c,funext (L3 a b h.2)]
theorem Lw:∀(a b:aY Assign),rows a=rows b->∀s,yM a s=yM b s
 |[],[],_,_=>rfl|[],_::_,h,_=>by simp[rows]at h|_::_,[],h,_=>by simp[rows]at h|x::a,y::b,h,s=>by simp only[rows,K?,List.cons.injEq]at h;have c:=h.1;change[V.int N x.var,V.int N x.value]=[V.int N y.var,V.int N y.value]at c;simp only[List.cons.injEq,V.int.injEq,true_and,and_true]at c;simp only[yM,c.1,c.2,funext (Lw a b h.2)]
theorem ML{x y:WF}(h:cells x=cells y):rows x.assign.l=rows y.assign.l:=by change[V.int N x.kind,V.int N x.k?,V.int N x.d?,V.int N x.time,cE x.assign]=[V.int N y.kind,V.int N y.k?,V.int N y.d?,V.int N y.time,cE y.assign]at h;simp only[List.cons.injEq]at h;exact yU h.2.2.2.2.1
theorem zj:∀(a b:aY WF),rows a=rows b->∀k s,yA k a s=yA k b s
 |[],[],_,_,_=>rfl|[],_::_,h,_,_=>by simp[rows]at h|_::_,[],h,_,_=>by simp[rows]at h|x::a,y::b,h,k,s=>by simp only[rows,K?,List.cons.injEq]at h;simp only[yA,Lw _ _ (ML h.1),zj a b h.2]
theorem ET{α:Type}[bD α]{a b:aY α}(h:rows a=rows b):a.length=b.length:=by have:=_f List.length h;simpa[rows]using this
theorem Mq:∀(a b:aY WF),rows a=rows b->(a.all λe=>rz (W e.assign.l))=b.all λe=>rz (W e.assign.l)
 |[],[],_=>rfl|[],_::_,h=>by simp[rows]at h|_::_,[],h=>by simp[rows]at h|x::a,y::b,h=>by simp only[rows,K?,List.cons.injEq]at h;simp only[q!,ET (ML h.1),Mq a b h.2]
def yI(f:Y')(g:Y')(a b:So)(xs:S'):Prop:=∃(p:bT)(u:aY (Int×Zg)),g=f/\a=[]/\b=[.fptr (cells p)]/\kX p=M u/\xs=u.map eI
theorem yI.uniq{f g:Y'}{a b:So}{xs ys:S'}(h:yI f g a b xs)(k:yI f g a b ys):xs=ys:=by obtain⟨p,C,rfl,rfl,rfl,c,rfl⟩:=h;obtain⟨w,z,_,_,u,B,rfl⟩:=k;simp only[List.cons.injEq,V.fptr.injEq,and_true]at u;change[V.str p.name,cE p.h?,cE p.c?]=[V.str w.name,cE w.h?,cE w.c?]at u;simp only[List.cons.injEq]at u;have r1:=yU u.2.1;have r2:=yU u.2.2.1;unfold kX at c B;rw[ET r1,ET r2,Mq _ _ r2,L3 _ _ r1,funext (λs=>zj _ _ r2 0 s)]at c;have e:=c.symm.trans B;cases e;rfl
end IST
end Go.VE
namespace Go.VE
open Go.Proofs.YtddlogilhmloeabGreatDoor
noncomputable section
def MA(f:Y')(a b:So)(xs:S'):Prop:=trace_events_c1.yI 176 f a b xs\/IST.yI 208 f a b xs
def Sy:Sys:=⟨E,λn=>n,AM MA,AZ E,KB⟩
abbrev cL:b_:=dB Sy Tx
theorem ZU:Sy.prm 192=M (vF Sy.E):=by kernel_rfl
theorem X8:Sy.prm 189=M (vT Sy.E):=by kernel_rfl
theorem abF:∃fi,E.ft 176=M fi/\Aj E M fi trace_events_c1.text:=aba p?
theorem QF:uk Sy Tx where
 fn f rf h:=let⟨u,a,w⟩:=EX h;⟨u,M,a,AN,w⟩
 A8 f z y h:=Jt h
 prm:=LY
theorem Mt(p:bT)(B:aY (Int×Zg))(a:kX p=M B):fM Sy 208 [] [.fptr (cells p)] (B.map IST.eI):=by
 have w:Tx 208=M (pI (Tx 208)):=A7 p?;have⟨G,z,C⟩:=EX w;have e1:Nat.ble (W ([]:So)+1+[V.fptr (cells p)].length) (pI (Tx 208)).na=U:=by kernel_rfl
 have e2:(pI (Tx 208)).rs=[]:=by kernel_rfl
 have e3:Sy.E=Sb.E:=rfl;exact Wk e3 LY (Ao aaP Sw) Sw z AN C (Nat.le_of_ble_eq_true e1) e2 λu more D y=>IB.Ba more y u p [] (by rw[IST.all p B a u more D];rfl)
theorem Is:∀f a b xs,Sy.items f a b=M xs->fM Sy f a b xs:=by intro f a b xs h;have h:MA f a b xs:=Qq h;rcases h with h|h;obtain⟨t,u,rfl,rfl,rfl,c,rfl⟩:=h;have⟨D,w,z⟩:=abF;exact Uo Sy w AN z (Nat.le_of_ble_eq_true Y) Y λB more C y=>trace_events_c1.all t u c B more C y;obtain⟨p,u,rfl,rfl,rfl,c,rfl⟩:=h;exact Mt p u c
theorem Bt(t:Z4)(B:aY (bf×WF))(h:kN t=M B):Sy.items 176 [] [.fptr (cells t)]=M (B.map λx:bf×WF=>[enc x.1,enc x.2]):=F9 (.inl ⟨t,B,Y,Y,Y,h,Y⟩) (λu a=>by rcases a with a|a<;>first|exact a.uniq ⟨t,B,rfl,rfl,rfl,h,rfl⟩|(have⟨_,_,a,_⟩:=a;exact _e a (by decide)))
theorem Jw(p:bT)(B:aY (Int×Zg))(h:kX p=M B):Sy.items 208 [] [.fptr (cells p)]=M (B.map λx:Int×Zg=>[enc x.1,enc x.2]):=F9 (.inr ⟨p,B,Y,Y,Y,h,Y⟩) (λu a=>by rcases a with a|a<;>first|exact a.uniq ⟨p,B,rfl,rfl,rfl,h,rfl⟩|(have⟨_,_,a,_⟩:=a;exact _e a (by decide)))
theorem R9:Sy.A8 4 []=M (.bool U):=IN (NQ Y ⟨1,[],by kernel_rfl⟩)
end
end Go.VE
namespace Go.VE
noncomputable section
def zp:aX X':=M U
instance XW:Fc Sy cL zp:=⟨4,[],λr:X'=>[.bool r],U,eZ.A8 p? p? R9⟩
namespace iR
def bl(s0:Sl bT)(D:Int)(B:Int)(p1:bT->aX X'):aX (Fw Int Unit Int):=bh (_s (B<D)) (H (idx s0 B) λu=>H (p1 u) λw=>bh w (M (.r B)) (M (.n (w? N (B+1))))) (M (.x ()))
def W1(s0:Sl bT)(B D:Int)(p1:bT->aX X'):Ps:=H (bL (λq:Int=>bl s0 B q p1) D) (Fw.elim (λe=>M (-1)) (λe=>M e))
end iR
def iR(s0:Sl bT)(p1:bT->aX X'):Ps:=iR.W1 s0 (len s0) 0 p1
open iR in
abbrev zI(g1:FuncId)(e1:aY V)(p1:bT->aX Bool)(a:mV Sy cL g1 [] e1 (λz:bT=>[enc z]) (λr:Bool=>[.bool r]) p1 U)(s0:Sl bT):Fc Sy cL (iR s0 p1):=Fc.M 42 [enc s0,.clo g1 [] e1] (bM 9 s0 (dM 5 (λw=>(bE [Cv 0 s0,(1,.v (.clo g1 [] e1)),Iv 7 (len s0),Iv 8 w] [])) (λu=>(0,(bE [] []))) (λu=>(bE [Iv 4 u] [])) (λw=>bp 7 9 (bB 16 λB _=>zW 1 a.f B λC _=>bp 2 16 aZ aZ) aZ) (λu=>aZ) (λu=>aZ)))
def iS(s0:Sl bT)(p1:bT->aX X'):aX X':=H (iR s0 p1) λu=>M (_s (u>=0))
abbrev rH(g1:FuncId)(e1:aY V)(p1:bT->aX Bool)(a:mV Sy cL g1 [] e1 (λz:bT=>[enc z]) (λr:Bool=>[.bool r]) p1 U)(s0:Sl bT):Fc Sy cL (iS s0 p1):=Fc.M 17 [enc s0,.clo g1 [] e1] (bu (F:=zI g1 e1 p1 a s0) 9 λu _=>aZ)
namespace iu
def bl(s0:Sl WF)(D:Int)(B:Int)(p1:WF->aX X'):aX (Fw Int Unit Int):=bh (_s (B<D)) (H (idx s0 B) λu=>H (p1 u) λw=>bh w (M (.r B)) (M (.n (w? N (B+1))))) (M (.x ()))
def W1(s0:Sl WF)(B D:Int)(p1:WF->aX X'):Ps:=H (bL (λq:Int=>bl s0 B q p1) D) (Fw.elim (λe=>M (-1)) (λe=>M e))
end iu
def iu(s0:Sl WF)(p1:WF->aX X'):Ps:=iu.W1 s0 (len s0) 0 p1
open iu in
abbrev zC(g1:FuncId)(e1:aY V)(p1:Event->aX Bool)(a:mV Sy cL g1 [] e1 (λz:Event=>[enc z]) (λr:Bool=>[.bool r]) p1 U)(s0:Sl Event):Fc Sy cL (iu s0 p1):=Fc.M 43 [enc s0,.clo g1 [] e1] (bM 9 s0 (dM 5 (λw=>(bE [Cv 0 s0,(1,.v (.clo g1 [] e1)),Iv 7 (len s0),Iv 8 w] [])) (λu=>(0,(bE [] []))) (λu=>(bE [Iv 4 u] [])) (λw=>bp 7 9 (bB 16 λB _=>zW 1 a.f B λC _=>bp 2 16 aZ aZ) aZ) (λu=>aZ) (λu=>aZ)))
def jy(s0:Sl WF)(p1:WF->aX X'):aX X':=H (iu s0 p1) λu=>M (_s (u>=0))
abbrev qV(g1:FuncId)(e1:aY V)(p1:Event->aX Bool)(a:mV Sy cL g1 [] e1 (λz:Event=>[enc z]) (λr:Bool=>[.bool r]) p1 U)(s0:Sl Event):Fc Sy cL (jy s0 p1):=Fc.M 19 [enc s0,.clo g1 [] e1] (bu (F:=zC g1 e1 p1 a s0) 9 λu _=>aZ)
def rj(e0:WF):aX X':=M (_s ((len e0.assign)>20))
instance Tl(e0:WF):Fc Sy cL (rj e0):=Fc.M 20 [enc e0] (bR 2 1 e0 (bM 7 e0.assign aZ))
def pn(B:bT):aX X':=H (bh (_s ((len B.c?)>40)) (M U) (M (_s ((len B.h?)>20)))) λu=>(bh u (M U) (H (jy B.c? (λz=>rj z)) λw=>M w):aX X').bind λC=>M C
instance XL(B:bT):Fc Sy cL (pn B):=Fc.M 18 [enc B] (bR 2 1 B (bM 7 B.c? (bH 2 5 [7] 12 (bp 2 7 (bn 5) (bM 2 B.h? (bn 2))) λu=>bH 1 4 [1,13] 17 (bp 1 13 (bn 4) (bu (F:=qV 20 [] (λz=>rj z) mV.s9 B.c?) 2 λw _=>bn 1)) λC=>aZ)))
namespace kZ
def bl(G:Sl bT)(d:Int)(T:Z4)(D B:Int):aX (Fw (Int×Int) Int Empty):=bh (_s (B<d)) (H (idx G B) λu=>M (.n (w? N (D+(len u.c?)),w? N (B+1)))) (M (.x D))
def W1(G:Int)(d:Sl bT)(T g:Int)(B:Z4):aX X':=H (bL (λq:Int×Int=>bl d T B q.1 q.2) (G,g)) (Fw.elim (λe=>H (bh (_s (e>30)) (M (!(e==36))) (M O)) λu=>H (bh u (M U) (M (_s ((len B.b?)>10)))) λw=>(bh w (M U) (H (iS B.b? (λz=>pn z)) λC=>M C):aX X').bind λD=>M D) (λe=>c! e))
end kZ
def kZ(B:Z4):aX X':=kZ.W1 0 B.b? (len B.b?) 0 B
open kZ in
instance abp(B:Z4):Fc Sy cL (kZ B):=Fc.M 5 [enc B] (bR 2 1 B (bM 13 B.b? (dO 5 (λu=>(bE [Pv 1,Iv 3 u.1,Cv 7 B.b?,Iv 8 (len B.b?),Iv 9 u.2] [Xb 1 B])) (λw=>(0,(bE [Pv 1,Iv 3 w] [Xb 1 B]))) (λu=>bp 7 10 (bB 7 λC _=>o7 2 5 0 C (bM 6 C.c? aZ)) aZ) (λw=>bH 7 3 [3,21] 24 (bp 7 21 (bn 3) (bn 3)) λD=>bH 1 5 [25] 30 (bp 1 25 (bn 5) (bM 2 B.b? (bn 2))) λG=>bH 1 4 [1,31] 35 (bp 1 31 (bn 4) (bu (F:=rH 18 [] (λz=>pn z) mV.s9 B.b?) 2 λI _=>bn 1)) λd=>aZ))))
namespace fU
def bK(D:Int)(G:T')(d B:Int)(r:(T'×Int×Int)->Ps):aX (Fw (Int×Int) Int Empty):=H (bh (_s (d<(len G.l))) (M (_s (B<=300))) (M O)) λu=>bh u (H (idx G.l d) λw=>H (r (w,w? N (D+1),B)) λz=>M (.n (w? N (d+1),z))) (M (.x B))
def W2(B d:Int)(G:T')(D:Int)(r:(T'×Int×Int)->Ps):Ps:=H (bL (λq:Int×Int=>bK B G q.1 q.2 r) (d,D)) (Fw.elim (λe=>M e) (λe=>c! e))
def J1(B:Int)(G:T')(D:Int)(r:(T'×Int×Int)->Ps):Ps:=fU.W2 B 0 G D r
theorem ja(r:(T'×Int×Int)->Ps)(a:zc Sy cL 21 (λz:T'×Int×Int=>[cv z.1,iv z.2.1,.ptr 9001 0,.ptr 9002 0]) (λz:T'×Int×Int=>[(9001,bx (z.2.2:Int)),(9002,.box [.clo 21 [] [.ptr 9001 0,.ptr 9002 0]])]) (λr:Int=>[]) (λ(z:T'×Int×Int)(r:Int)=>[(9001,bx (r:Int)),(9002,.box [.clo 21 [] [.ptr 9001 0,.ptr 9002 0]])]) r)(B:Int)(G:T')(D:Int):Le (H (J1 B G D r) (λr=>M ([],[(9001,bx (r:Int)),(9002,.box [.clo 21 [] [.ptr 9001 0,.ptr 9002 0]])]))) (bZ Sy cL (Fy (tr Tx 21) [9001,9002]) (o9 (tb Tx 21) [1,1,1,0] [] ⟨[Iv 1 B,(2,.ptr 9001 0),(3,.ptr 9002 0),Pv 4],[Xb 4 G,(9001,.box [iv D]),(9002,.box [.clo 21 [] [.ptr 9001 0,.ptr 9002 0]])],[9001,9002],[],U,0⟩)):=dO 7 (λu=>⟨[Iv 1 B,(2,.ptr 9001 0),(3,.ptr 9002 0),Pv 4,Iv 6 u.1],[Xb 4 G,(9001,.box [iv u.2]),(9002,.box [.clo 21 [] [.ptr 9001 0,.ptr 9002 0]])],[9001,9002],[],U,0⟩) (λw=>(0,⟨[],[(9001,.box [iv w]),(9002,.box [.clo 21 [] [.ptr 9001 0,.ptr 9002 0]])],[9001,9002],[],U,0⟩)) (λu=>dK 7 13 (Pred.eT G.l) (bM 0 G.l (bH 2 3 [16] 19 (bp 2 16 (bn 3) (bn 3)) λI=>bp 2 19 (dK 9 24 (Pred.eT G.l) (bB 1 λC _=>YH 3 (ql.of (C,w? N (B+1),u.2) a) λd _=>aZ)) aZ))) (λw=>aZ)
end fU
def jb(D:T')(B G:Int)(r:(T'×Int×Int)->Ps):Ps:=bh (_s (B>40)) (fU.J1 B D 1000 r) (fU.J1 B D (w? N (G+1)) r)
open fU in
theorem Cb(r:(T'×Int×Int)->Ps)(a:zc Sy cL 21 (λz:T'×Int×Int=>[cv z.1,iv z.2.1,.ptr 9001 0,.ptr 9002 0]) (λz:T'×Int×Int=>[(9001,bx (z.2.2:Int)),(9002,.box [.clo 21 [] [.ptr 9001 0,.ptr 9002 0]])]) (λr:Int=>[]) (λ(z:T'×Int×Int)(r:Int)=>[(9001,bx (r:Int)),(9002,.box [.clo 21 [] [.ptr 9001 0,.ptr 9002 0]])]) r)(D:T')(B G:Int):∀d,jb D B G r=M d->∃m',cL 21 [cv D,iv B,.ptr 9001 0,.ptr 9002 0] [(9001,bx (G:Int)),(9002,.box [.clo 21 [] [.ptr 9001 0,.ptr 9002 0]])]=M (((λr:Int=>[]) d).map .v,m')/\∀T,lB m' ([(9001,bx (G:Int)),(9002,.box [.clo 21 [] [.ptr 9001 0,.ptr 9002 0]])].map (·.1)) T=M (oZ T ((λr:Int=>[(9001,bx (r:Int)),(9002,.box [.clo 21 [] [.ptr 9001 0,.ptr 9002 0]])]) d)):=(ql.mk' 21 [cv D,iv B,.ptr 9001 0,.ptr 9002 0] [(9001,bx (G:Int)),(9002,.box [.clo 21 [] [.ptr 9001 0,.ptr 9002 0]])] (λr:Int=>[]) (λr:Int=>[(9001,bx (r:Int)),(9002,.box [.clo 21 [] [.ptr 9001 0,.ptr 9002 0]])]) (bR 2 4 D (bp 16 10 (kn 6 (ja r a B D 1000)) (kn 4 (ja r a B D (w? N (G+1)))))):ql Sy cL (jb D B G r)).h
def fU(D:T')(B G:Int):Ps:=cI (λr(z:T'×Int×Int)=>jb z.1 z.2.1 z.2.2 r) 100000 (D,B,G)
abbrev ER(D:Pred)(B G:Int):ql Sy cL (fU D B G):=ql.of (D,B,G) (zc.fix (A:=λz:Pred×Int×Int=>[cv z.1,iv z.2.1,.ptr 9001 0,.ptr 9002 0]) (O:=λz:Pred×Int×Int=>[(9001,bx (z.2.2:Int)),(9002,.box [.clo 21 [] [.ptr 9001 0,.ptr 9002 0]])]) (E:=λr:Int=>[]) (M:=λ(z:Pred×Int×Int)(r:Int)=>[(9001,bx (r:Int)),(9002,.box [.clo 21 [] [.ptr 9001 0,.ptr 9002 0]])]) (b:=(λr(z:Pred×Int×Int)=>jb z.1 z.2.1 z.2.2 r)) p? p? p? (λr a z=>Cb r a z.1 z.2.1 z.2.2) 100000)
def xo(B:T'):aX X':=H (fU B 0 0) λu=>M (_s (u>300))
instance Z_(B:T'):Fc Sy cL (xo B):=Fc.M 6 [enc B] (bR 2 1 B (zq 26 (ER B 0 0) λu _=>aZ))
def qd(G D B:Int):aX X':=H (bh (_s (G>=D)) (M (_s (G<=B))) (M O)) λu=>M u
instance ac4(G D B:Int):Fc Sy cL (qd G D B):=Fc.M 133 [.int N G,.int N D,.int N B] (bH 11 4 [0,2,10] 14 (bp 11 10 (bn 4) (bn 4)) λu=>aZ)
def sL(B:Int):aX X':=H (bh (_s (B>=97)) (M (_s (B<=122))) (M O)) λu=>(bh u (M U) (H (bh (_s (B>=65)) (M (_s (B<=90))) (M O)) λw=>M w):aX X').bind λz=>M z
instance X3(B:Int):Fc Sy cL (sL B):=Fc.M 199 [.int .u8 B] (bH 10 3 [5] 8 (bp 10 5 (bn 3) (bn 3)) λu=>bH 1 7 [0,9] 16 (bp 1 9 (bn 7) (bH 3 3 [0,12] 15 (bp 3 12 (bn 3) (bn 3)) λw=>bn 1)) λz=>aZ)
def xy(B:Int):aX X':=H (bh (_s (B>=48)) (M (_s (B<=57))) (M O)) λu=>M u
instance aai(B:Int):Fc Sy cL (xy B):=Fc.M 200 [.int .u8 B] (bH 10 3 [0,5] 8 (bp 10 5 (bn 3) (bn 3)) λu=>aZ)
namespace iM
def bl(s0:U')(D:Int)(B:Int):aX (Fw Int Unit Unit):=bh (_s (B<D)) (H (nF s0 B) λz=>H (sL z) λC=>(bh C (M O) (H (nF s0 B) λG=>H (xy G) λI=>M (!I)):aX X').bind λd=>(bh d (H (nF s0 B) λu=>M (!(u==95))) (M O):aX X').bind λw=>bh w (M (.r ())) (M (.n (w? N (B+1))))) (M (.x ()))
def W1(s0:U')(B D:Int):aX X':=H (bL (λq:Int=>bl s0 B q) D) (Fw.elim (λe=>M U) (λe=>M O))
end iM
def iM(s0:U'):aX X':=H (bh (C? s0==C? ByteArray.empty) (M U) (M (_s (((ByteArray.size s0:Nat):Int)>16)))) λu=>(bh u (M U) (H (nF s0 0) λw=>H (sL w) λz=>M (!z)):aX X').bind λB=>bh B (M O) (iM.W1 s0 ((ByteArray.size s0:Nat):Int) 0)
open iM in
instance Yu(s0:U'):Fc Sy cL (iM s0):=Fc.M 173 [.str s0] (bH 11 4 [6] 10 (bp 11 6 (bn 4) (bn 4)) λC=>bH 1 5 [11] 16 (bp 1 11 (bn 5) (Dc 1 N λD _=>bu 0 λG _=>bn 2)) λI=>bp 2 16 aZ (dM 13 (λw=>(bE [(0,.v (.str s0)),Iv 18 ((ByteArray.size s0:Nat):Int),Iv 19 w] [])) (λu=>(0,(bE [] []))) (λu=>(bE [Bv 2 O] [])) (λw=>bp 7 20 (Dc 15 N λd _=>bu 0 λL _=>bH 2 6 [27] 33 (ct 2 27 (bn 6) (Dc 2 N λg _=>bu 0 λQ _=>bn 2)) λS=>bH 1 5 [3,34] 39 (bp 1 34 (Dc 2 N λz _=>bn 2) (bn 5)) λB=>bp 2 39 aZ aZ) aZ) (λu=>aZ) (λu=>aZ)))
def lF(B D:bT):aX X':=M (C? B.name==C? D.name)
instance Nf(B D:bT):Fc Sy cL (lF B D):=Fc.M 174 [enc B,.fptr (cells D)] (bR 2 2 B aZ)
def lK(B D:Var):aX X':=M (C? B.name==C? D.name)
instance Nc(B D:Var):Fc Sy cL (lK B D):=Fc.M 175 [enc B,.fptr (cells D)] (aZ)
namespace gq
def bl(s0:Sl Var)(D:Int)(B:Int)(p1:Var->aX X'):aX (Fw Int Unit Int):=bh (_s (B<D)) (H (idx s0 B) λu=>H (p1 u) λw=>bh w (M (.r B)) (M (.n (w? N (B+1))))) (M (.x ()))
def W1(s0:Sl Var)(B D:Int)(p1:Var->aX X'):Ps:=H (bL (λq:Int=>bl s0 B q p1) D) (Fw.elim (λe=>M (-1)) (λe=>M e))
end gq
def gq(s0:Sl Var)(p1:Var->aX X'):Ps:=gq.W1 s0 (len s0) 0 p1
open gq in
abbrev p_(g1:FuncId)(e1:aY V)(p1:Var->aX Bool)(a:mV Sy cL g1 [] e1 (λz:Var=>[enc z]) (λr:Bool=>[.bool r]) p1 U)(s0:Sl Var):Fc Sy cL (gq s0 p1):=Fc.M 182 [enc s0,.clo g1 [] e1] (bM 9 s0 (dM 5 (λw=>(bE [Cv 0 s0,(1,.v (.clo g1 [] e1)),Iv 7 (len s0),Iv 8 w] [])) (λu=>(0,(bE [] []))) (λu=>(bE [Iv 4 u] [])) (λw=>bp 7 9 (bB 16 λB _=>zW 1 a.f B λC _=>bp 2 16 aZ aZ) aZ) (λu=>aZ) (λu=>aZ)))
def i_(s0:Sl Var)(p1:Var->aX X'):aX X':=H (gq s0 p1) λu=>M (_s (u>=0))
abbrev sA(g1:FuncId)(e1:aY V)(p1:Var->aX Bool)(a:mV Sy cL g1 [] e1 (λz:Var=>[enc z]) (λr:Bool=>[.bool r]) p1 U)(s0:Sl Var):Fc Sy cL (i_ s0 p1):=Fc.M 141 [enc s0,.clo g1 [] e1] (bu (F:=p_ g1 e1 p1 a s0) 9 λu _=>aZ)
namespace fK
def bl(D:Sl Var)(G:Int)(d:bT)(B:Int):aX (Fw Int Unit Int):=bh (_s (B<G)) (H (idx D B) λu=>H (iM u.name) λI=>(bh I (H (iK d.h? J (M B)) λL=>H (i_ L (λz=>lK z u)) λg=>M g) (M U):aX X').bind λw=>bh w (M (.r 13)) (H (qd u.init_ (-1073741824) 1073741824) λC=>bh C (M (.n (w? N (B+1)))) (M (.r 2)))) (M (.x ()))
def W1(D:Sl Var)(G d:Int)(B:bT):Ps:=H (bL (λq:Int=>bl D G B q) d) (Fw.elim (λe=>bh (_s ((len B.c?)>64)) (M 5) (M 0)) (λe=>M e))
end fK
def fK(G:Z4)(p1:Int):Ps:=H (idx G.b? p1) λu=>H (iM u.name) λw=>(bh w (H (iK G.b? J (M p1)) λB=>H (iS B (λz=>lF z u)) λC=>M C) (M U):aX X').bind λD=>bh D (M 13) (bh (_s ((len u.h?)>8)) (M 5) (fK.W1 u.h? (len u.h?) 0 u))
open fK in
instance Pp(D:Z4)(p1:Int):Fc Sy cL (fK D p1):=Fc.M 134 [enc D,.int N p1] (bR 2 2 D (bB 8 λu _=>o7 2 5 0 u (bu 8 λi _=>bH 2 7 [1,2,18] 25 (ct 2 18 (E5 3 O U [.int N p1] λG _=>ck (F:=rH 174 [.fptr (cells u)] (λz=>lF z u) mV.s9 G) 1 λQ _=>bn 1) (bn 7)) λS=>bp 3 13 aZ (bM 5 u.h? (bp 4 26 aZ (bM 9 u.h? (dM 5 (λB=>(bE [Pv 5,Cv 32 u.h?,Iv 33 (len u.h?),Iv 34 B] [Xb 5 u])) (λw=>(1,(bE [Pv 5] [Xb 5 u]))) (λw=>(bE [Iv 4 w] [])) (λB=>bp 7 35 (bB 8 λC _=>bu 11 λT _=>bH 2 7 [6,44] 51 (ct 2 44 (E5 3 O U [.int N B] λI _=>ck (F:=sA 175 [.fptr (cells C)] (λz=>lK z C) mV.s9 I) 1 λg _=>bn 1) (bn 7)) λd=>bp 3 39 aZ (bu 5 λL _=>ct 4 52 aZ aZ)) aZ) (λw=>bM 7 u.c? (bp 3 61 aZ aZ)) (λw=>aZ))))))))
def kR(B:Z4):aX Z4:=M B
instance ZI(B:Z4):Fc Sy cL (kR B):=Fc.NE (λr:Z4=>[(.clo 176 [] [.fptr (cells r)])]) 135 [enc B] (bR 2 1 B aZ)
namespace jO
def J1(p1:Int)(D:X')(G:Z4)(B:WF):aX X':=bh D (H (qd B.k? 0 (w? N ((len G.b?)-1))) λu=>H (bh u (M (!(B.k?==p1))) (M O)) λw=>(bh w (H (qd B.d? 0 199) λz=>M z) (M O):aX X').bind λC=>M C) (M O)
end jO
def jO(B:Z4)(p1:Int)(e2:WF):aX X':=bh (e2.kind==1) (H (bh (e2.k?==0) (M (e2.d?==0)) (M O)) λu=>M u) (bh (e2.kind==2) (jO.J1 p1 U B e2) (jO.J1 p1 (e2.kind==3) B e2))
open jO in
instance YR(B:Z4)(p1:Int)(e2:WF):Fc Sy cL (jO B p1 e2):=Fc.M 177 [enc B,.int N p1,enc e2] (bR 2 3 B (bR 0 5 e2 (bp 17 9 (bH 7 4 [5,14] 18 (bp 7 14 (bn 4) (bn 4)) λD=>aZ) (bp 8 19 (o_ 4 (bp 0 19 (bM 7 B.b? (bu 1 λu _=>bH 1 5 [1,29] 34 (bp 1 29 (bn 5) (bn 5)) λw=>bH 1 4 [5,35] 39 (bp 1 35 (bu 2 λz _=>bn 1) (bn 4)) λC=>aZ)) aZ)) (o_ 7 (bp 0 19 (bM 7 B.b? (bu 1 λu _=>bH 1 5 [1,29] 34 (bp 1 29 (bn 5) (bn 5)) λw=>bH 1 4 [5,35] 39 (bp 1 35 (bu 2 λz _=>bn 1) (bn 4)) λC=>aZ)) aZ))))))
def mQ(B D:Assign):aX X':=M (B.var==D.var)
instance OJ(B D:Assign):Fc Sy cL (mQ B D):=Fc.M 179 [enc B,.fptr (cells D)] (aZ)
namespace gQ
def bl(s0:Sl Assign)(D:Int)(B:Int)(p1:Assign->aX X'):aX (Fw Int Unit Int):=bh (_s (B<D)) (H (idx s0 B) λu=>H (p1 u) λw=>bh w (M (.r B)) (M (.n (w? N (B+1))))) (M (.x ()))
def W1(s0:Sl Assign)(B D:Int)(p1:Assign->aX X'):Ps:=H (bL (λq:Int=>bl s0 B q p1) D) (Fw.elim (λe=>M (-1)) (λe=>M e))
end gQ
def gQ(s0:Sl Assign)(p1:Assign->aX X'):Ps:=gQ.W1 s0 (len s0) 0 p1
open gQ in
abbrev yR(g1:FuncId)(e1:aY V)(p1:Assign->aX Bool)(a:mV Sy cL g1 [] e1 (λz:Assign=>[enc z]) (λr:Bool=>[.bool r]) p1 U)(s0:Sl Assign):Fc Sy cL (gQ s0 p1):=Fc.M 201 [enc s0,.clo g1 [] e1] (bM 9 s0 (dM 5 (λw=>(bE [Cv 0 s0,(1,.v (.clo g1 [] e1)),Iv 7 (len s0),Iv 8 w] [])) (λu=>(0,(bE [] []))) (λu=>(bE [Iv 4 u] [])) (λw=>bp 7 9 (bB 16 λB _=>zW 1 a.f B λC _=>bp 2 16 aZ aZ) aZ) (λu=>aZ) (λu=>aZ)))
def je(s0:Sl Assign)(p1:Assign->aX X'):aX X':=H (gQ s0 p1) λu=>M (_s (u>=0))
abbrev wo(g1:FuncId)(e1:aY V)(p1:Assign->aX Bool)(a:mV Sy cL g1 [] e1 (λz:Assign=>[enc z]) (λr:Bool=>[.bool r]) p1 U)(s0:Sl Assign):Fc Sy cL (je s0 p1):=Fc.M 178 [enc s0,.clo g1 [] e1] (bu (F:=yR g1 e1 p1 a s0) 9 λu _=>aZ)
namespace eu
def bK(D:Sl Assign)(G:Int)(d:WF)(T:bT)(B:Int):aX (Fw Int Unit Int):=bh (_s (B<G)) (H (idx D B) λu=>H (qd u.var 0 (w? N ((len T.h?)-1))) λI=>(bh I (H (qd u.value (-1073741824) 1073741824) λL=>M (!L)) (M U):aX X').bind λg=>bh g (M (.r 2)) (H (iK d.assign J (M B)) λw=>H (je w (λz=>mQ z u)) λC=>bh C (M (.r 8)) (M (.n (w? N (B+1)))))) (M (.x ()))
def W2(B:Sl Assign)(D G:Int)(d:WF)(T:bT):Ps:=H (bL (λq:Int=>bK B D d T q) G) (Fw.elim (λe=>M 0) (λe=>M e))
def J1(D:Int)(d:Z4)(G:bf)(B:WF)(T:bT):Ps:=H (jO d G.proc B) λu=>bh u (H (qd B.time 0 1099511627776) λw=>H (bh w (M (_s (B.time<D))) (M U)) λz=>bh z (M 11) (bh (_s ((len B.assign)>8)) (M 5) (eu.W2 B.assign (len B.assign) 0 B T))) (M 3)
theorem ja(D:Int)(T:Z4)(d:bf)(B:WF)(G:bT):Le (H (J1 D T d B G) (λr=>M [.int N r])) (bZ Sy cL (oR (tr Tx 136)) (o9 (tb Tx 136) [1,1,1,1,0] [] (bE [Pv 3,Pv 4,Pv 5,Pv 7,Iv 8 D] [Xb 3 T,Xb 4 d,Xb 5 B,Xb 7 G]))):=bu 8 λi _=>ct 4 28 (bu 5 λQ _=>bH 2 5 [8,40] 45 (ct 2 40 (bn 5) (bn 5)) λS=>bp 3 35 aZ (bM 5 B.assign (bp 4 46 aZ (bM 9 B.assign (dM 5 (λw=>(bE [Pv 5,Pv 7,Cv 52 B.assign,Iv 53 (len B.assign),Iv 54 w] [Xb 5 B,Xb 7 G])) (λu=>(1,(bE [] []))) (λu=>(bE [Iv 6 u] [])) (λw=>bp 7 55 (bB 8 λC _=>bM 13 G.h? (bu 1 λg _=>bH 2 5 [68] 73 (ct 2 68 (bu 2 λj _=>bn 2) (bn 5)) λX=>bp 3 59 aZ (E5 6 O U [.int N w] λI _=>ck (F:=wo 179 [.fptr (cells C)] (λz=>mQ z C) mV.s9 I) 1 λL _=>bp 3 74 aZ aZ))) aZ) (λu=>aZ) (λu=>aZ)))))) aZ
end eu
def eu(D:Z4)(B:bf)(e2:WF):Ps:=H (idx D.b? B.proc) λu=>bh (_s (B.index>1)) (H (idx u.c? (w? N (B.index-2))) λw=>eu.J1 w.time D B e2 u) (eu.J1 0 D B e2 u)
open eu in
instance Ty(D:Z4)(B:bf)(e2:WF):Fc Sy cL (eu D B e2):=Fc.M 136 [enc D,enc B,enc e2] (bR 2 3 D (bR 1 5 e2 (bB 9 λu _=>o7 2 7 0 u (bp 15 19 (bB 7 λw _=>kn 6 (ja w.time D B e2 u)) (kn 4 (ja 0 D B e2 u))))))
def ta(e0:WF)(B D:Int):aX X':=H (bh (e0.kind==2) (M (e0.d?==B)) (M O)) λu=>H (bh u (M (e0.k?==D)) (M O)) λw=>M w
instance V7(e0:WF)(B D:Int):Fc Sy cL (ta e0 B D):=Fc.M 202 [enc e0,.fptr (cells B),.fptr (cells D)] (bR 2 3 e0 (bH 9 5 [1,8] 13 (bp 9 8 (bn 5) (bn 5)) λu=>bH 1 5 [2,3,14] 19 (bp 1 14 (bn 5) (bn 5)) λw=>aZ))
def xu(D:Z4)(p1 G B:Int):aX X':=H (idx D.b? p1) λu=>H (jy u.c? (λz=>ta z G B)) λw=>M w
instance aaq(G:Z4)(p1 D B:Int):Fc Sy cL (xu G p1 D B):=Fc.M 180 [enc G,.int N p1,.int N D,.int N B] (bR 2 4 G (bB 10 λu _=>ck (F:=qV 202 [.fptr (cells D),.fptr (cells B)] (λz=>ta z D B) mV.s9 u.c?) 3 λw _=>aZ))
namespace fL
def lM(D G:Z4)(d:aX (cn 200 bC))(T:bf)(g:Int)(x:bf×WF)(B:cn 200 bC):aX (Fw (cn 200 bC) Empty (bf×Int×(cn 200 bC))):=bh (x.2.kind==2) (H (cn.at B x.2.d?) λu=>bh (_s (u.from_.index>0)) (M (.r (x.1,8,B))) (H (cn.at B x.2.d?) λw=>M (.n (cn.set B x.2.d? (⟨x.1,w.to_⟩:bC))))) (bh (x.2.kind==3) (H (cn.at B x.2.d?) λz=>bh (_s (z.to_.index>0)) (M (.r (x.1,8,B))) (H (xu G x.2.k? x.2.d? x.1.proc) λC=>bh C (H (cn.at B x.2.d?) λI=>M (.n (cn.set B x.2.d? (⟨I.from_,x.1⟩:bC)))) (M (.r (x.1,7,B))))) (M (.n B)))
def E1(B G:Z4)(d:aX (cn 200 bC))(T:bf)(g:Int)(D:cn 200 bC):aX ((aX (cn 200 bC))×bf×Int):=H (kN B) λu=>H (mN (λ(x:bf×WF)(q:cn 200 bC)=>lM B G d T g x q) u D) (Fw.tK (λq=>M (M q,⟨0,0⟩,0)) (λe=>c! e) (λe=>M ((J:aX (cn 200 bC)),e.1,e.2.1)))
end fL
def fL(B:Z4):aX ((aX (cn 200 bC))×bf×Int):=H (kR B) λu=>fL.E1 u B (J:aX (cn 200 bC)) (⟨0,0⟩:bf) 0 (cn.RZ 200 (⟨⟨0,0⟩,⟨0,0⟩⟩:bC))
open fL in
instance PV(D:Z4):Fc Sy cL (fL D):=Fc.N 137 [enc D] (bR 2 1 D (bR 8 10 (cn.RZ 200 (⟨⟨0,0⟩,⟨0,0⟩⟩:bC)) (Bal 0 5 (bE [Pv 1,Pv 2,Pv 3,Pv 4,Pv 10] [Xb 1 D,(2,.box [cv (J:aX (cn 200 bC))]),Xb 3 (⟨0,0⟩:bf),(4,.box [iv 0]),Xb 10 (cn.RZ 200 (⟨⟨0,0⟩,⟨0,0⟩⟩:bC))]) [cv (J:aX (cn 200 bC))] (by simp only[bE,AS,tD,ve,tF,vc,wN,vf,wh,tE,u_,A6,wE,wL,wu,wI,yY,yW,vi,wK];rfl) (bu 7 λB _=>HG λj C=>D2 4 [Pv 1,Pv 2,Pv 3,Pv 4,Pv 5,(12,.v (.clo 176 [] [.fptr (cells B)]))] (λw=>[Xb 1 D,(2,.box [cv (J:aX (cn 200 bC))]),Xb 3 (⟨0,0⟩:bf),(4,.box [iv 0]),(5,.box [.ptr 10 0]),Xb 10 w]) (λz=>c! z) (λz=>[Xb 1 D,(2,.box [cv (J:aX (cn 200 bC))]),Xb 3 z.1,(4,.box [iv z.2.1]),(5,.box [.ptr 10 0]),Xb 10 z.2.2]) (Bt B j C) (λu w=>Bal 2 6 ⟨[Pv 1,Pv 2,Pv 3,Pv 4,Pv 5,(12,.v (.clo 176 [] [.fptr (cells B)])),Cv 13 u.1,Cv 14 u.2],[Xb 1 D,(2,.box [cv (J:aX (cn 200 bC))]),Xb 3 (⟨0,0⟩:bf),(4,.box [iv 0]),(5,.box [.ptr 10 0]),Xb 10 w],[1,2,3,4,5],[],U,0⟩ [iv 0,iv 0] (by simp only[bE,AS,tD,ve,tF,vc,wN,vf,wh,tE,u_,A6,wE,wL,wu,wI,yY,yW,vi,wK];rfl) (Bal 4 7 ⟨[Pv 1,Pv 2,Pv 3,Pv 4,Pv 5,(12,.v (.clo 176 [] [.fptr (cells B)])),Cv 14 u.2,Pv 6],[Xb 1 D,(2,.box [cv (J:aX (cn 200 bC))]),Xb 3 (⟨0,0⟩:bf),(4,.box [iv 0]),(5,.box [.ptr 10 0]),Xb 10 w,Xb 6 u.1],[1,2,3,4,5],[],U,0⟩ [iv 0,iv 0,iv 0,iv 0,.v .bN] (by simp only[bE,AS,tD,ve,tF,vc,wN,vf,wh,tE,u_,A6,wE,wL,wu,wI,yY,yW,vi,wK];rfl) (o7 0 7 0 u.2 (A5 1 (bp 22 19 (KA 7 N 10 λG Q=>WZ 2 1 O 10 w u.2.d? 1 G Q (.int N G.from_.index) (by rfl) (bp 3 28 aZ (KA 8 N 10 λI S=>Xu 1 10 w u.2.d? 0 I S (⟨u.1,I.to_⟩:bC) u.1 rfl aZ))) (bp 7 36 (KA 7 N 10 λg T=>WZ 2 1 O 10 w u.2.d? 3 g T (.int N g.to_.index) (by rfl) (bp 3 45 aZ (bu 12 λm _=>ct 3 54 (KA 8 N 10 λL i=>Xu 1 10 w u.2.d? 2 L i (⟨L.from_,u.1⟩:bC) u.1 rfl aZ) aZ))) aZ)))))) (λw=>ac5 13 (bE [Pv 2,Pv 3,Pv 4] [(2,.box [.ptr 10 0]),Xb 3 (⟨0,0⟩:bf),(4,.box [iv 0]),Xb 10 w]) [.ptr 10 0,cv (⟨0,0⟩:bf),iv 0] (X_ (d:=10) (x:=w) (vs:=[enc (⟨0,0⟩:bf),.int N 0]) p?) p?) (λx=>c! x) (λz=>aZ)))))
namespace kS
def J1(D:cn 200 bC)(B:Sl bf)(d:Sl WF)(G:bf):aX (Sl bf):=H (idx d (w? N (G.index-1))) λu=>(bh (u.kind==2) (H (cn.at D u.d?) λw=>M (_s (w.to_.index>0))) (M O):aX X').bind λz=>bh z (H (cn.at D u.d?) λC=>H (eH B (C.to_:bf)) λI=>M I) (M B)
theorem ja(B:cn 200 bC)(D:Sl bf)(d:Sl WF)(G:bf):Le (H (J1 B D d G) (λr=>M [enc r])) (bZ Sy cL (oR (tr Tx 181)) (o9 (tb Tx 181) [1,1,1,1,0,0] [] (bE [Kv 1 B,Pv 5,Ov 7,Cv 8 d] [Xb 5 G,Lb 2007 D]))):=bB 7 λu _=>o7 2 9 0 u (bH 8 10 [40] 50 (bp 8 40 (Qf 4 N λw z=>Vt 0 2 B u.d? 0 w z (Vt 0 1 B u.d? 2 w z (PL 0 1 O B u.d? 3 w z (.int N w.to_.index) (by rfl) (bn 2)))) (bn 10)) λL=>bp 2 50 (Qf 7 N λC I=>Vt 0 2 B u.d? 0 C I (PL 0 2 U B u.d? 2 C I (enc C.to_) (by rfl) (om 1 2007 59 60 λg _=>aZ))) aZ)
end kS
def kS(D:Z4)(B:cn 200 bC)(x2:bf):aX (Sl bf):=H (idx D.b? x2.proc) λu=>bh (_s (x2.index<(len u.c?))) (kS.J1 B (Sl.row [⟨x2.proc,w? N (x2.index+1)⟩]:Sl bf) u.c? x2) (kS.J1 B (Sl.nil:Sl bf) u.c? x2)
open kS in
instance aah(D:Z4)(B:cn 200 bC)(x2:bf):Fc Sy cL (kS D B x2):=Fc.N 181 [enc D,.fptr (cells B),enc x2] (bR 2 3 D (bB 15 λu _=>bM 11 u.c? (bp 3 21 (Xf 10 29 30 .bN (⟨x2.proc,w? N (x2.index+1)⟩:bf) (kn 5 (ja B (Sl.row [⟨x2.proc,w? N (x2.index+1)⟩]:Sl bf) u.c? x2))) (kn 5 (ja B (Sl.nil:Sl bf) u.c? x2)))))
namespace jL
def dQ(T:Z4)(g:Sl bf)(j:Int)(i:Z4)(a:cn 200 bC)(b:bf)(c:X')(d:bf)(B:Sl bf)(G:Int)(D:Mo bf X'):aX (Fw ((Sl bf)×Int×(Mo bf X')) ((Sl bf)×(Mo bf X')) Unit):=bh (_s (G<j)) (H (idx g G) λu=>bh (O2 u d) (M (.r ())) (bh (vL D u O) (M (.n (B,w? N (G+1),D))) (H (eH B (u:bf)) λw=>M (.n (w,w? N (G+1),qy D u U))))) (M (.x (B,D)))
def W3(D:Sl bf)(B:Z4)(T:Sl bf)(g j:Int)(i:Z4)(a:cn 200 bC)(b:bf)(c:X')(G:bf)(d:Mo bf X'):aX (Fw ((Sl bf)×(Mo bf X')) Unit Unit):=H (bL (λq:(Sl bf)×Int×(Mo bf X')=>dQ B T g i a b c G q.1 q.2.1 q.2.2) (D,j,d)) (Fw.elim (λe=>M (.n (e.1,e.2))) (λe=>M (.r ())))
def bK(D G:Z4)(d:cn 200 bC)(j:bf)(i:X')(T:bf)(B:Sl bf)(g:Mo bf X'):aX (Fw ((Sl bf)×(Mo bf X')) Unit Unit):=bh (_s ((len B)>0)) (H (Sl.iE B (w? N ((len B)-1))) λw=>H (Sl.get B w) λz=>H (nW B J (M (w? N ((len B)-1)))) λC=>H (kS G d z) λu=>W3 C D u (len u) 0 G d j i T g) (M (.x ()))
def W2(G:Sl bf)(B T:Z4)(g:cn 200 bC)(j:bf)(i:X')(D:bf)(d:Mo bf X'):aX (Fw Unit Empty bf):=H (bL (λq:(Sl bf)×(Mo bf X')=>bK B T g j i D q.1 q.2) (G,d)) (Fw.elim (λe=>M (.n ())) (λe=>M (.r D)))
def lM(B D:Z4)(G:cn 200 bC)(d:bf)(T:X')(x:bf×WF):aX (Fw Unit Empty bf):=W2 (Sl.row [x.1]:Sl bf) B D G d T x.1 []
def E1(B D:Z4)(G:cn 200 bC)(d:bf)(T:X'):aX (bf×X'):=H (kN B) λu=>H (mN (λ(x:bf×WF)(q:Unit)=>lM B D G d T x) u ()) (Fw.tK (λq=>M (⟨0,0⟩,O)) (λe=>c! e) (λe=>M (e,U)))
end jL
def jL(B:Z4)(D:cn 200 bC):aX (bf×X'):=H (kR B) λu=>jL.E1 u B D (⟨0,0⟩:bf) O
open jL in
instance Yy(B:Z4)(G:cn 200 bC):Fc Sy cL (jL B G):=Fc.M 138 [enc B,.fptr (cells G)] (bR 2 2 B (bu 9 λw _=>HG λg Q=>D2 4 [Pv 2,Pv 3,Pv 4,Pv 5,(13,.v (.clo 176 [] [.fptr (cells w)]))] (λS=>[Xb 2 B,(3,.box [cp G]),Xb 4 (⟨0,0⟩:bf),(5,.box [bv O])]) (λI=>c! I) (λI=>[Xb 2 B,(3,.box [cp G]),Xb 4 I,(5,.box [bv U])]) (Bt w g Q) (λC S=>A5 4 (dM 18 (λu=>⟨[Pv 2,Pv 3,Pv 4,Pv 5,Pv 6,(7,.mp 16),Ov 8,(13,.v (.clo 176 [] [.fptr (cells w)]))],[Xb 2 B,(3,.box [cp G]),Xb 4 (⟨0,0⟩:bf),(5,.box [bv O]),Xb 6 C.1,(16,tR u.2),Lb 2008 u.1],[2,3,4,5],[],U,0⟩) (λd=>(2,⟨[Pv 2,Pv 3,Pv 4,Pv 5,(13,.v (.clo 176 [] [.fptr (cells w)]))],[Xb 2 B,(3,.box [cp G]),Xb 4 (⟨0,0⟩:bf),(5,.box [bv O])],[2,3,4,5],[],U,0⟩)) (λd=>⟨[],[Xb 2 B,(3,.box [cp G]),Xb 4 C.1,(5,.box [bv U])],[2,3,4,5],[],U,0⟩) (λu=>B2 6 2008 u.1 (bp 3 21 (B2 8 2008 u.1 (jx N 1 2008 λm _=>rB 0 2008 0 2 U (λL=>.agg [.int N L.proc,.int N L.index]) λL _=>B2 8 2008 u.1 (Xh 1 O U 2008 32 [.int N (w? N ((len u.1)-1))] λX _=>bu 8 λi _=>bM 0 i (dM 6 (λz=>⟨[Pv 2,Pv 3,Pv 4,Pv 5,Pv 6,(7,.mp 16),Ov 8,(13,.v (.clo 176 [] [.fptr (cells w)])),Cv 36 i,Iv 37 (len i),Iv 38 z.2.1],[Xb 2 B,(3,.box [cp G]),Xb 4 (⟨0,0⟩:bf),(5,.box [bv O]),Xb 6 C.1,(16,tR z.2.2),Lb 2008 z.1],[2,3,4,5],[],U,0⟩) (λD=>(4,⟨[Pv 2,Pv 3,Pv 4,Pv 5,Pv 6,(7,.mp 16),Ov 8,(13,.v (.clo 176 [] [.fptr (cells w)]))],[Xb 2 B,(3,.box [cp G]),Xb 4 (⟨0,0⟩:bf),(5,.box [bv O]),Xb 6 C.1,(16,tR D.2),Lb 2008 D.1],[2,3,4,5],[],U,0⟩)) (λD=>⟨[],[Xb 2 B,(3,.box [cp G]),Xb 4 C.1,(5,.box [bv U])],[2,3,4,5],[],U,0⟩) (λz=>bp 8 39 (bB 7 λT _=>bp 13 44 aZ (Xw 7 16 z.2.2 T O (ct 3 49 aZ (aa0 5 16 z.2.2 T U (om 6 2008 54 55 λj _=>aZ))))) aZ) (λD=>aZ) (λD=>aZ))))) aZ)) (λd=>aZ) (λd=>aZ))) (λS=>aZ) (λx=>c! x) (λI=>aZ)))
namespace jr
def OI(B D:Z4)(G:bf)(d:Int)(x:bf×WF):aX (Fw Unit Empty (bf×Int)):=H (eu D x.1 x.2) λu=>bh (u==0) (M (.n ())) (M (.r (x.1,u)))
def E2(B D:Z4)(G:bf)(d:Int):aX (bf×Int):=H (kN B) λz=>H (mN (λ(x:bf×WF)(q:Unit)=>OI B D G d x) z ()) (Fw.tK (λq=>H (fL D) λu=>bh (u.2.2==0) (H (u.1) λC=>H (jL D C) λw=>bh w.2 (M (w.1,10)) (M (⟨0,0⟩,0))) (M (u.2.1,u.2.2))) (λe=>c! e) (λe=>M (e.1,e.2)))
def bl(D:Int)(G:Z4)(d:bf)(T:Int)(B:Int):aX (Fw Int Unit (bf×Int)):=bh (_s (B<D)) (H (fK G B) λu=>bh (u==0) (M (.n (w? N (B+1)))) (M (.r ((⟨B,0⟩:bf),u)))) (M (.x ()))
def W1(d T:Int)(B:Z4)(D:bf)(G:Int):aX (bf×Int):=H (bL (λq:Int=>bl d B D G q) T) (Fw.elim (λe=>H (kR B) λu=>jr.E2 u B D G) (λe=>M (e.1,e.2)))
end jr
def jr(B:Z4):aX (bf×Int):=H (qd (len B.b?) 1 8) λu=>bh u (jr.W1 (len B.b?) 0 B (⟨0,0⟩:bf) 0) (M (⟨0,0⟩,1))
open jr in
instance ZX(B:Z4):Fc Sy cL (jr B):=Fc.M 87 [enc B] (bR 2 1 B (bM 9 B.b? (bu 0 λi _=>ct 3 18 (bM 8 B.b? (dM 5 (λC=>(bE [Pv 1,Pv 2,Pv 3,Iv 22 (len B.b?),Iv 23 C] [Xb 1 B,Xb 2 (⟨0,0⟩:bf),(3,.box [iv 0])])) (λu=>(0,(bE [Pv 1,Pv 2,Pv 3] [Xb 1 B,Xb 2 (⟨0,0⟩:bf),(3,.box [iv 0])]))) (λu=>(bE [Pv 2,Pv 3] [Xb 2 u.1,(3,.box [iv u.2])])) (λC=>bp 7 24 (bu 15 λQ _=>ct 9 30 aZ aZ) aZ) (λu=>bu 6 λz _=>HG λd D=>D2 4 [Pv 1,Pv 2,Pv 3,(36,.v (.clo 176 [] [.fptr (cells z)]))] (λG=>[Xb 1 B,Xb 2 (⟨0,0⟩:bf),(3,.box [iv 0])]) (λw=>c! w) (λw=>[Xb 1 B,Xb 2 w.1,(3,.box [iv w.2])]) (Bt z d D) (λL G=>o7 8 7 0 L.2 (A5 1 (bu 7 λS _=>ct 9 44 aZ aZ))) (λG=>bu 5 λI _=>ct 17 54 (abQ 8 (λT=>(bE [Pv 2,Pv 3,(36,.v (.clo 176 [] [.fptr (cells z)])),Pv 10,Iv 11 I.2.2,Bv 54 O,Cv 58 B,Cv 59 T] [Xb 1 B,Xb 2 (⟨0,0⟩:bf),(3,.box [iv 0]),Xb 10 I.2.1])) λg _=>bu 0 λj _=>bp 13 63 aZ aZ) aZ) (λx=>c! x) (λw=>aZ)) (λu=>aZ))) aZ)))
def cu(B:Z4):aX X':=H (jr B) λu=>M (u.2==0)
instance aas(B:Z4):Fc Sy cL (cu B):=Fc.M 50 [enc B] (bR 2 1 B (bu 6 λu _=>aZ))
def v_(B:Int):aX X':=H (bh (B==2) (M U) (M (B==3))) λu=>H (bh u (M U) (M (B==4))) λw=>M w
instance U0(B:Int):Fc Sy cL (v_ B):=Fc.M 139 [.int N B] (bH 10 3 [5] 8 (bp 10 5 (bn 3) (bn 3)) λu=>bH 1 3 [0,9] 12 (bp 1 9 (bn 3) (bn 3)) λw=>aZ)
def mH(B:T'):aX X':=H (bh (_s (B.kind<1)) (M U) (M (_s (B.kind>=22)))) λz=>(bh z (M U) (H (cn.at vr B.kind) λC=>M (!((len B.l)==C))):aX X').bind λD=>H (bh D (M U) (M (_s (B.n<0)))) λG=>H (bh G (M U) (M (_s (B.n>1125899906842624)))) λI=>(bh I (M U) (H (bh (B.n==0) (M O) (M (!(B.kind==1)))) λd=>M d):aX X').bind λL=>bh L (M O) (H (v_ B.kind) λg=>(bh g (M U) (H (bh (B.proc==0) (M (B.k?==0)) (M O)) λQ=>H (bh Q (M (C? B.name==C? ByteArray.empty)) (M O)) λu=>M u):aX X').bind λw=>M w)
instance Xp(B:T'):Fc Sy cL (mH B):=Fc.M 89 [enc B] (bR 2 1 B (bH 10 4 [6] 10 (bp 10 6 (bn 4) (bn 4)) λD=>bH 1 9 [11] 20 (bp 1 11 (bn 9) (dK 2 13 (Pred.eT B.l) (bM 0 B.l (Qf 2 N λu w=>PL 0 1 O vr B.kind 0 u w (.int N u) (by rfl) (bn 2))))) λG=>bH 1 4 [21] 25 (bp 1 21 (bn 4) (bn 4)) λI=>bH 1 4 [26] 30 (bp 1 26 (bn 4) (bn 4)) λd=>bH 1 9 [31] 40 (bp 1 31 (bn 9) (bH 4 4 [35] 39 (ct 4 35 (bn 4) (bn 4)) λL=>bn 1)) λg=>bp 2 40 aZ (bu 7 λQ _=>bH 1 14 [1,44] 58 (bp 1 44 (bn 14) (bH 4 4 [48] 52 (bp 4 48 (bn 4) (bn 4)) λS=>bH 1 4 [1,53] 57 (bp 1 53 (bn 4) (bn 4)) λz=>bn 1)) λC=>aZ)))
def jG(D:T')(G B:Int)(r:(T'×Int×Int)->aX (X'×Int)):aX (X'×Int):=H (r (D,w? N (G+1),B)) λu=>M ((!u.1),u.2)
abbrev zJ(r:(Pred×Int×Int)->aX (Bool×Int))(a:zc Sy cL 88 (λz:Pred×Int×Int=>[cv z.1,iv z.2.1,.ptr 9004 0,.ptr 9003 0]) (λz:Pred×Int×Int=>[(9004,bx (z.2.2:Int)),(9003,.box [.clo 88 [] [.ptr 9004 0,.ptr 9003 0]])]) (λr:Bool×Int=>[.bool r.1]) (λ(z:Pred×Int×Int)(r:Bool×Int)=>[(9004,bx (r.2:Int)),(9003,.box [.clo 88 [] [.ptr 9004 0,.ptr 9003 0]])]) r)(D:Pred)(G B:Int):ql Sy cL (jG D G B r):=ql.mk' 91 [cv D,.ptr 9003 0,.v (.fptr (cells G))] [(9003,.box [.clo 88 [] [.ptr 9004 0,.ptr 9003 0]]),(9004,bx (B:Int))] (λr:Bool×Int=>[.bool r.1]) (λr:Bool×Int=>[(9003,.box [.clo 88 [] [.ptr 9004 0,.ptr 9003 0]]),(9004,bx (r.2:Int))]) (bR 2 3 D (zq 9 (ql.of (D,w? N (G+1),B) a) λu _=>aZ))
section
variable{σ:Type}{gf:Y'}{ex:SW}{os:σ->dN}{p:T'->σ->aX (X'×σ)}(h:A2 Sy cL (.clo gf [] ex) gf ex os p)(s0:Sl T')(x:σ)
abbrev xF:ql Sy cL (Vq s0 p x):=ql.mk' 140 [cv s0,(.clo gf [] ex)] (os x) (λr=>[.int N r.1]) (λr=>os r.2) (bM 9 s0 (dM 5 (λq=>⟨[Cv 0 s0,(1,(.clo gf [] ex)),Iv 7 (len s0),Iv 8 q.1],os q.2,(os x).map (·.1),[],U,0⟩) (λe=>(0,⟨[],os e,(os x).map (·.1),[],U,0⟩)) (λe=>⟨[Iv 4 e.1],os e.2,(os x).map (·.1),[],U,0⟩) (λq=>bp 7 9 (bB 16 λy _=>TI 1 h y q.2 λr _=>bp 2 16 aZ aZ) aZ) (λe=>Kn 9 h [.int N (-1)] Y) (λe=>Le.of_eq (LO h (ys:=[.int N e.1]) p? Y)))) (hp:=λr=>h.wi x r.2)
abbrev yj:ql Sy cL (CF s0 p x):=ql.mk' 90 [cv s0,(.clo gf [] ex)] (os x) (λr=>[.bool r.1]) (λr=>os r.2) (Oj 9 (xF h s0 x) (h.hd x (enc s0)) (λr=>h.put x r.2) λy _=>Kn 5 h [.bool (_s (y.1>=0))] Y) (hp:=λr=>h.wi x r.2)
end
section
variable{σ:Type}{gf:Y'}{ex:So}{os:σ->dN}{p:T'->σ->aX (X'×σ)}(h:A2 Sy cL (.v (.clo gf [] ex)) gf (ex.map .v) os p)(s0:Sl T')(x:σ)
abbrev xN:ql Sy cL (Vq s0 p x):=ql.mk' 140 [cv s0,(.v (.clo gf [] ex))] (os x) (λr=>[.int N r.1]) (λr=>os r.2) (bM 9 s0 (dM 5 (λq=>⟨[Cv 0 s0,(1,(.v (.clo gf [] ex))),Iv 7 (len s0),Iv 8 q.1],os q.2,(os x).map (·.1),[],U,0⟩) (λe=>(0,⟨[],os e,(os x).map (·.1),[],U,0⟩)) (λe=>⟨[Iv 4 e.1],os e.2,(os x).map (·.1),[],U,0⟩) (λq=>bp 7 9 (bB 16 λy _=>TI 1 h y q.2 λr _=>bp 2 16 aZ aZ) aZ) (λe=>Kn 9 h [.int N (-1)] Y) (λe=>Le.of_eq (LO h (ys:=[.int N e.1]) p? Y)))) (hp:=λr=>h.wi x r.2)
abbrev nR:ql Sy cL (CF s0 p x):=ql.mk' 90 [cv s0,(.v (.clo gf [] ex))] (os x) (λr=>[.bool r.1]) (λr=>os r.2) (Oj 9 (xN h s0 x) (h.hd x (enc s0)) (λr=>h.put x r.2) λy _=>Kn 5 h [.bool (_s (y.1>=0))] Y) (hp:=λr=>h.wi x r.2)
end
def fF(G:T')(B D:Int)(r:(T'×Int×Int)->aX (X'×Int)):aX (X'×Int):=H (bh (_s ((w? N (D-1))<0)) (M U) (M (_s (B>20)))) λw=>(bh w (M U) (H (mH G) λz=>M (!z)):aX X').bind λC=>bh C (M (O,w? N (D-1))) (H (CF G.l (λx s=>jG x B s r) (w? N (D-1))) λu=>M ((!u.1),u.2))
theorem zH(r:(T'×Int×Int)->aX (X'×Int))(a:zc Sy cL 88 (λz:T'×Int×Int=>[cv z.1,iv z.2.1,.ptr 9004 0,.ptr 9003 0]) (λz:T'×Int×Int=>[(9004,bx (z.2.2:Int)),(9003,.box [.clo 88 [] [.ptr 9004 0,.ptr 9003 0]])]) (λr:X'×Int=>[.bool r.1]) (λ(z:T'×Int×Int)(r:X'×Int)=>[(9004,bx (r.2:Int)),(9003,.box [.clo 88 [] [.ptr 9004 0,.ptr 9003 0]])]) r)(D:T')(B G:Int):∀d,fF D B G r=M d->∃m',cL 88 [cv D,iv B,.ptr 9004 0,.ptr 9003 0] [(9004,bx (G:Int)),(9003,.box [.clo 88 [] [.ptr 9004 0,.ptr 9003 0]])]=M (((λr:X'×Int=>[.bool r.1]) d).map .v,m')/\∀T,lB m' ([(9004,bx (G:Int)),(9003,.box [.clo 88 [] [.ptr 9004 0,.ptr 9003 0]])].map (·.1)) T=M (oZ T ((λr:X'×Int=>[(9004,bx (r.2:Int)),(9003,.box [.clo 88 [] [.ptr 9004 0,.ptr 9003 0]])]) d)):=(ql.mk' 88 [cv D,iv B,.ptr 9004 0,.ptr 9003 0] [(9004,bx (G:Int)),(9003,.box [.clo 88 [] [.ptr 9004 0,.ptr 9003 0]])] (λr:X'×Int=>[.bool r.1]) (λr:X'×Int=>[(9004,bx (r.2:Int)),(9003,.box [.clo 88 [] [.ptr 9004 0,.ptr 9003 0]])]) (bR 2 4 D (bH 17 3 [11] 14 (bp 17 11 (bn 3) (bn 3)) λu=>bH 1 4 [15] 19 (bp 1 15 (bn 4) (bu 1 λw _=>bn 2)) λC=>bp 2 19 aZ (dK 7 21 (Pred.eT D.l) (zq 2 (yj (A2.ofK (σ:=Int) (g:=91) (e:=[.ptr 9003 0,cp B]) (os:=λs=>[(9003,.box [.clo 88 [] [.ptr 9004 0,.ptr 9003 0]]),(9004,bx (s:Int))]) (p:=(λx s=>jG x B s r)) (λx s=>zJ r a x B s)) D.l (w? N (G-1))) λI _=>aZ)))):ql Sy cL (fF D B G r)).h
def s6(D:T')(B G:Int):aX (X'×Int):=cI (λr(z:T'×Int×Int)=>fF z.1 z.2.1 z.2.2 r) 100000 (D,B,G)
abbrev BV(D:Pred)(B G:Int):ql Sy cL (s6 D B G):=ql.of (D,B,G) (zc.fix (A:=λz:Pred×Int×Int=>[cv z.1,iv z.2.1,.ptr 9004 0,.ptr 9003 0]) (O:=λz:Pred×Int×Int=>[(9004,bx (z.2.2:Int)),(9003,.box [.clo 88 [] [.ptr 9004 0,.ptr 9003 0]])]) (E:=λr:Bool×Int=>[.bool r.1]) (M:=λ(z:Pred×Int×Int)(r:Bool×Int)=>[(9004,bx (r.2:Int)),(9003,.box [.clo 88 [] [.ptr 9004 0,.ptr 9003 0]])]) (b:=(λr(z:Pred×Int×Int)=>fF z.1 z.2.1 z.2.2 r)) p? p? p? (λr a z=>zH r a z.1 z.2.1 z.2.2) 100000)
def nM(B:T'):aX X':=H (s6 B 1 200) λu=>M u.1
instance T9(B:T'):Fc Sy cL (nM B):=Fc.M 51 [enc B] (bR 2 1 B (zq 26 (BV B 1 200) λu _=>aZ))
def mq(B:Z4)(p1:Int):aX X':=H (bh (_s (p1>=0)) (M (_s (p1<(len B.b?)))) (M O)) λu=>M u
instance TY(B:Z4)(p1:Int):Fc Sy cL (mq B p1):=Fc.M 93 [enc B,.int N p1] (bR 2 2 B (bH 8 6 [1,2,7] 13 (bp 8 7 (bM 3 B.b? (bn 2)) (bn 6)) λu=>aZ))
def qt(B:Var)(D:U'):aX X':=M (C? B.name==C? D)
instance Rx(B:Var)(D:U'):Fc Sy cL (qt B D):=Fc.M 142 [enc B,.fptr (cells D)] (aZ)
def tn(D:Z4)(p1:Int)(B:U'):aX X':=H (idx D.b? p1) λu=>H (i_ u.h? (λz=>qt z B)) λw=>M w
instance VO(D:Z4)(p1:Int)(B:U'):Fc Sy cL (tn D p1 B):=Fc.M 94 [enc D,.int N p1,.str B] (bR 2 3 D (bB 9 λu _=>ck (F:=sA 142 [.fptr (cells B)] (λz=>qt z B) mV.s9 u.h?) 3 λw _=>aZ))
def lW(B:T')(D:Z4):aX X':=bh (B.kind==2) ((mq D B.proc).bind λC=>(bh C (M (B.k?==0)) (M O):aX X').bind λG=>(bh G ((tn D B.proc B.name).bind λI=>M I) (M O):aX X').bind λd=>M d) (bh (B.kind==3) ((mq D B.proc).bind λL=>(bh L (M (B.k?==0)) (M O):aX X').bind λg=>(bh g (M (C? B.name==C? ByteArray.empty)) (M O):aX X').bind λQ=>M Q) (bh (B.kind==4) ((mq D B.proc).bind λS=>(bh S ((mq D B.k?).bind λT=>M T) (M O):aX X').bind λu=>(bh u (M (!(B.proc==B.k?))) (M O):aX X').bind λw=>(bh w (M (C? B.name==C? ByteArray.empty)) (M O):aX X').bind λz=>M z) (M U)))
instance NS (B:Pred) (D:Trace):Fc Sy cL (lW B D):=Fc.M 92 [enc B,.fptr (cells D)] (bR 2 2 B (bp 17 6 (bu 6 λC _=>bH 1 4 [12] 16 (bp 1 12 (bn 4) (bn 4)) λG=>bH 1 7 [1,2,17] 24 (bp 1 17 (bu 5 λI _=>bn 1) (bn 7)) λd=>aZ) (bp 7 25 (bu 6 λL _=>bH 1 4 [31] 35 (bp 1 31 (bn 4) (bn 4)) λg=>bH 1 4 [2,36] 40 (bp 1 36 (bn 4) (bn 4)) λQ=>aZ) (bp 7 41 (bu 6 λS _=>bH 1 5 [1,47] 52 (bp 1 47 (bu 3 λT _=>bn 1) (bn 5)) λu=>bH 1 6 [53] 59 (bp 1 53 (bn 6) (bn 6)) λw=>bH 1 4 [2,60] 64 (bp 1 60 (bn 4) (bn 4)) λz=>aZ) aZ))))
def uA(B:T')(p1:T'->aX X')(r:T'->aX X'):aX X':=H (r B) λu=>M (!u)
abbrev CU(g1:FuncId)(e1:aY V)(p1:Pred->aX Bool)(b:mV Sy cL g1 [] e1 (λz:Pred=>[enc z]) (λr:Bool=>[.bool r]) p1 U)(r:Pred->aX Bool)(a:eZ Sy cL 83 (λz:Pred=>[enc z,.clo g1 [] e1]) (λr:Bool=>[.bool r]) r U)(B:Pred):Fc Sy cL (uA B p1 r):=Fc.M 129 [enc B,.fptr [.clo g1 [] e1]] (bR 2 2 B (bu (F:=Fc.of B a) 7 λu _=>aZ))
def kK(D:T')(p1:T'->aX X')(r:T'->aX X'):aX X':=H (p1 D) λw=>(bh w (H (CF D.l (λx u=>((λz=>uA z p1 r) x).map λb=>(b,u)) ()) λB=>M (!B.1)) (M O):aX X').bind λC=>M C
theorem Dk(g1:Y')(e1:So)(p1:T'->aX X')(a:mV Sy cL g1 [] e1 (λz:T'=>[enc z]) (λr:X'=>[.bool r]) p1 U)(r:T'->aX X')(b:eZ Sy cL 83 (λz:T'=>[enc z,.clo g1 [] e1]) (λr:X'=>[.bool r]) r U)(B:T'):Le (H (kK B p1 r) λr=>M [.bool r]) (iB cL 83 [enc B,.clo g1 [] e1]):=(Fc.M 83 [enc B,.clo g1 [] e1] (bR 2 2 B (zW 8 a.f B λw _=>BW 1 6 [] (λu=>(bE [Bv 14 u] [Xb 2 B])) (bp 1 8 (dK 2 10 (Pred.eT B.l) (zq 2 (nR (A2.ofP (g:=129) (e:=[.fptr [.clo g1 [] e1]]) (p:=(λz=>uA z p1 r)) (mV.s9 (F:=λz=>CU g1 e1 p1 a r b z))) B.l ()) λC _=>bn 2)) (bn 7)) λu=>aZ)):Fc Sy cL (kK B p1 r)).F.h ()
def pq(B:T')(p1:T'->aX X'):aX X':=cI (λr(z:T')=>kK z p1 r) 100000 B
abbrev vC(g1:FuncId)(e1:aY V)(p1:Pred->aX Bool)(a:mV Sy cL g1 [] e1 (λz:Pred=>[enc z]) (λr:Bool=>[.bool r]) p1 U)(B:Pred):Fc Sy cL (pq B p1):=Fc.of B (eZ.fix (A:=λz:Pred=>[enc z,.clo g1 [] e1]) (E:=λr:Bool=>[.bool r]) (sc:=U) (b:=(λr(z:Pred)=>kK z p1 r)) p? (λ_ _=>rfl) (λr c z=>Dk g1 e1 p1 a r c z) 100000)
def qp(B:Z4)(p1:T'):aX X':=H (pq p1 (λz=>lW z B)) λu=>M u
instance Rz (B:Trace) (p1:Pred):Fc Sy cL (qp B p1):=Fc.M 52 [enc B,enc p1] (bR 2 2 B (bR 0 3 p1 (ck (F:=vC 92 [.fptr (cells B)] (λz=>lW z B) mV.s9 p1) 7 λu _=>aZ)))
def nL(B:Int):Ps:=bh (_s (B<=8)) (M 1) (M 2)
instance T5(B:Int):Fc Sy cL (nL B):=Fc.M 81 [.int N B] (bp 12 4 aZ aZ)
def uu(B:Int):Ps:=bh (_s (B<=12)) (M 1) (M 2)
instance WU(B:Int):Fc Sy cL (uu B):=Fc.M 97 [.int N B] (bp 12 4 aZ aZ)
def n_(B D:T'):aX X':=H (nL B.kind) λu=>H (uu D.kind) λw=>M (!(u==w))
instance Nx(B D:T'):Fc Sy cL (n_ B D):=Fc.M 96 [enc B,.fptr (cells D)] (bR 2 2 B (ck 7 λu _=>ck 2 λw _=>aZ))
def kF(B:T'):aX X':=H (CF B.l (λx u=>((λz=>n_ z B) x).map λb=>(b,u)) ()) λw=>M (!w.1)
instance Rq(B:T'):Fc Sy cL (kF B):=Fc.M 95 [enc B] (bR 2 1 B (dK 7 4 (Pred.eT B.l) (zq 2 (nR (A2.ofP (g:=96) (e:=[.fptr (cells B)]) (p:=(λz=>n_ z B)) mV.s9) B.l ()) λu _=>aZ)))
def qH(B:T'):aX X':=H (pq B (λz=>kF z)) λu=>M u
instance V0(B:T'):Fc Sy cL (qH B):=Fc.M 53 [enc B] (bR 2 1 B (bu (F:=vC 95 [] (λz=>kF z) mV.s9 B) 6 λu _=>aZ))
namespace fR
def bK(D:Zg)(B i4:Int):aX (Fw (Int×Int) Int Empty):=bh (_s (i4<(len D))) (H (idx D i4) λu=>M (.n ((if u<B then u else B),w? N (i4+1)))) (M (.x B))
def W2(B:Zg)(D i4:Int):Ps:=H (bL (λq:Int×Int=>bK B q.1 q.2) (D,i4)) (Fw.elim (λe=>M e) (λe=>c! e))
def J1(B:Zg):Ps:=H (idx B 0) λu=>fR.W2 B u 1
end fR
def fR(B:Zg):Ps:=bh (_s ((len B)<1)) (J) (fR.J1 B)
open fR in
instance V4(B:Zg):Fc Sy cL (fR B):=Fc.M 185 [enc B] (bM 9 B (bp 3 7 ((Le.none _)) (o_ 4 (bB 3 λz _=>dO 12 (λu=>(bE [Cv 0 B,Iv 3 u.1,Iv 4 u.2] [])) (λw=>(0,(bE [Iv 3 w] []))) (λu=>bM 6 B (bp 3 15 (bB 9 λC _=>aZ) aZ)) (λw=>aZ)))))
namespace fT
def bK(D:Zg)(B i4:Int):aX (Fw (Int×Int) Int Empty):=bh (_s (i4<(len D))) (H (idx D i4) λu=>M (.n ((if u>B then u else B),w? N (i4+1)))) (M (.x B))
def W2(B:Zg)(D i4:Int):Ps:=H (bL (λq:Int×Int=>bK B q.1 q.2) (D,i4)) (Fw.elim (λe=>M e) (λe=>c! e))
def J1(B:Zg):Ps:=H (idx B 0) λu=>fT.W2 B u 1
end fT
def fT(B:Zg):Ps:=bh (_s ((len B)<1)) (J) (fT.J1 B)
open fT in
instance Wf(B:Zg):Fc Sy cL (fT B):=Fc.M 186 [enc B] (bM 9 B (bp 3 7 ((Le.none _)) (o_ 4 (bB 3 λz _=>dO 12 (λu=>(bE [Cv 0 B,Iv 3 u.1,Iv 4 u.2] [])) (λw=>(0,(bE [Iv 3 w] []))) (λu=>bM 6 B (bp 3 15 (bB 9 λC _=>aZ) aZ)) (λw=>aZ)))))
def nP(B:Zg):aX bQ:=H (fR B) λu=>H (fT B) λw=>M ⟨u,w⟩
instance XD(B:Zg):Fc Sy cL (nP B):=Fc.M 145 [enc B] (bu 8 λu _=>bu 1 λw _=>aZ)
namespace gb
def bl(T:Int)(D:Sl WF)(G:Int)(d B:Int):aX (Fw (Int×Int) Int Empty):=bh (_s (B<G)) (H (idx D B) λu=>H (bh (u.kind==2) (M (u.k?==T)) (M O)) λw=>bh w (M (.n (w? N (d+1),w? N (B+1)))) (M (.n (d,w? N (B+1))))) (M (.x d))
def W1(d T:Int)(B:Sl WF)(D G:Int):Ps:=H (bL (λq:Int×Int=>bl d B D q.1 q.2) (T,G)) (Fw.elim (λe=>M e) (λe=>c! e))
end gb
def gb(B:Z4)(p1 D:Int):Ps:=H (idx B.b? p1) λu=>gb.W1 D 0 u.c? (len u.c?) 0
open gb in
instance Rp(B:Z4)(p1 D:Int):Fc Sy cL (gb B p1 D):=Fc.M 183 [enc B,.int N p1,.int N D] (bR 2 3 B (bB 14 λu _=>bM 2 u.c? (dO 5 (λw=>(bE [Iv 2 D,Iv 7 w.1,Cv 15 u.c?,Iv 16 (len u.c?),Iv 17 w.2] [])) (λz=>(0,(bE [Iv 7 z] []))) (λw=>bp 7 18 (bB 7 λC _=>o7 2 9 0 C (bH 8 5 [9,24] 29 (bp 8 24 (bn 5) (bn 5)) λG=>bp 2 29 aZ aZ)) aZ) (λz=>aZ))))
def qn(B:Var)(D:U'):aX X':=M (C? B.name==C? D)
instance Rw(B:Var)(D:U'):Fc Sy cL (qn B D):=Fc.M 224 [enc B,.fptr (cells D)] (aZ)
def wJ(D:bT)(B:U'):Ps:=H (gq D.h? (λz=>qn z B)) λu=>M u
instance UJ(D:bT)(B:U'):Fc Sy cL (wJ D B):=Fc.M 211 [enc D,.str B] (bR 2 2 D (ck (F:=p_ 224 [.fptr (cells B)] (λz=>qn z B) mV.s9 D.h?) 9 λu _=>aZ))
def um(D:Z4)(p1:Int)(B:U'):aX (Int×Int):=H (cu D) λw=>bh w (H (bh (_s (p1<0)) (M U) (M (_s (p1>=(len D.b?))))) λz=>bh z (M (0,2)) (H (idx D.b? p1) λC=>H (wJ C B) λu=>bh (_s (u<0)) (M (0,13)) (M (u,0)))) (M (0,1))
instance Xt(D:Z4)(p1:Int)(B:U'):Fc Sy cL (um D p1 B):=Fc.M 203 [enc D,.int N p1,.str B] (bR 2 3 D (bu 9 λu _=>ct 4 9 (bH 6 6 [16] 22 (bp 6 16 (bn 6) (bM 3 D.b? (bn 2))) λw=>bp 3 13 aZ (bB 9 λz _=>bu 2 λC _=>bp 10 31 aZ aZ)) aZ))
def fq(s0:Zg):aX Zg:=H (Sl.isNil s0) λu=>bh u (M Sl.nil) (H (qh (Sl.row []:Zg) s0) λw=>M w)
theorem lI:nG Sy cL 78 (λs0:Zg=>[enc s0]) (λz=>fq z):=nG.mk' (pI (Tx 78)) (λs0=>abd 9 λu _=>bp 2 4 aZ (AX 7 5 7 λw _=>aZ))
def pJ(B:bT):aX bT:=M B
instance T8(B:bT):Fc Sy cL (pJ B):=Fc.NE (λr:bT=>[(.clo 208 [] [.fptr (cells r)])]) 196 [enc B] (bR 2 1 B aZ)
namespace iq
def lM(D:bT)(G:Int)(x:Int×(Zg))(B:Zg):aX (Fw Zg Empty Empty):=H (idx x.2 G) λu=>H (eH B (u:Int)) λw=>M (.n w)
def E1(B:bT)(G:Int)(D:Zg):aX Zg:=H (kX B) λu=>H (mN (λ(x:Int×(Zg))(q:Zg)=>lM B G x q) u D) (Fw.tK (λq=>M q) (λe=>c! e) (λe=>c! e))
end iq
def iq(B:bT)(i1:Int):aX Zg:=H (pJ B) λu=>iq.E1 u i1 (Sl.nil:Zg)
open iq in
instance Ua(D:bT)(i1:Int):Fc Sy cL (iq D i1):=Fc.N 204 [enc D,.int N i1] (bR 2 2 D (bu 13 λz _=>HG λC B=>D2 5 [Pv 3,Pv 5,(9,.v (.clo 208 [] [.fptr (cells z)]))] (λu=>[(3,.box [iv i1]),(5,.box [.own 4100]),Lb 4100 u]) (λw=>c! w) (λw=>c! w) (Jw z C B) (λG u=>A5 3 (bB 7 λI _=>om 2 4100 17 18 λd _=>aZ)) (λu=>aZ) (λx=>c! x) (λx=>c! x)))
def tH(G:Z4)(p1:Int)(B:U'):aX (Int×Int×Int):=H (um G p1 B) λu=>bh (u.2==0) (H (idx G.b? p1) λz=>H (iq z u.1) λw=>H (fR w) λC=>H (fT w) λD=>M (C,D,0)) (M (0,0,u.2))
instance Uq(D:Z4)(p1:Int)(B:U'):Fc Sy cL (tH D p1 B):=Fc.M 184 [enc D,.int N p1,.str B] (bR 2 3 D (bu 10 λu _=>ct 14 19 (bB 8 λw _=>bu 2 λz _=>bu 6 λC _=>bu 1 λG _=>aZ) aZ))
def eV(B:Z4)(p1:T'):aX bQ:=bh (p1.kind==1) (H (nP (Sl.row [p1.n]:Zg)) λw=>M w) (bh (p1.kind==3) (H (idx B.b? p1.proc) λz=>M ⟨0,len z.c?⟩) (bh (p1.kind==4) (H (gb B p1.proc p1.k?) λC=>M ⟨0,C⟩) (H (tH B p1.proc p1.name) λu=>M ⟨u.1,u.2.1⟩)))
instance Xi(B:Z4)(p1:T'):Fc Sy cL (eV B p1):=Fc.M 143 [enc B,enc p1] (bR 2 2 B (bR 0 3 p1 (bp 17 10 (ck 6 λw _=>aZ) (bp 7 16 (bB 7 λu _=>bM 2 u.c? aZ) (bp 7 27 (bu 8 λz _=>aZ) (bu 11 λC _=>aZ))))))
def ku(B:bQ):aX X':=H (bh (_s (B.low<(-1125899906842624))) (M U) (M (_s (B.high>1125899906842624)))) λu=>M u
instance Kp(B:bQ):Fc Sy cL (ku B):=Fc.M 144 [enc B] (bH 12 4 [1,6] 10 (bp 12 6 (bn 4) (bn 4)) λu=>aZ)
def qJ(a0:Int):Ps:=M (if(w? N (0-a0))>a0 then(w? N (0-a0))else a0)
instance XP(a0:Int):Fc Sy cL (qJ a0):=Fc.M 187 [.int N a0] (aZ)
def gD(a0 B:Int):Ps:=H (bh (a0==0) (M U) (M (B==0))) λu=>bh u (M 0) (H (qJ a0) λw=>H (qJ B) λz=>H (x_ N 1125899906842624 z) λC=>bh (_s (w>C)) (bh ((_s (a0<0))==(_s (B<0))) (M 1125899906842625) (M (w? N (0-1125899906842625)))) (M (w? N (a0*B))))
instance Tz(a0 B:Int):Fc Sy cL (gD a0 B):=Fc.M 146 [.int N a0,.int N B] (bH 11 3 [8] 11 (bp 11 8 (bn 3) (bn 3)) λu=>bp 2 11 aZ (bu 15 λw _=>bu 1 λz _=>abD 0 λC _=>bp 3 20 (ct 15 25 aZ aZ) aZ))
namespace cQ
def J2(D B:bQ)(r:(Z4×T')->aX (bQ×X')):aX (bQ×X'):=H (ku B) λu=>M (B,(!u))
def J1(g T:X')(d:T')(G B D:bQ)(r:(Z4×T')->aX (bQ×X')):aX (bQ×X'):=H (bh g (M (!T)) (M U)) λC=>bh C (M (⟨0,0⟩,O)) (bh (d.kind==5) (cQ.J2 G (⟨w? N (0-B.high),w? N (0-B.low)⟩:bQ) r) (bh (d.kind==6) (cQ.J2 G (⟨w? N (B.low+D.low),w? N (B.high+D.high)⟩:bQ) r) (bh (d.kind==7) (cQ.J2 G (⟨w? N (B.low-D.high),w? N (B.high-D.low)⟩:bQ) r) (H (gD B.low D.low) λI=>H (gD B.low D.high) λL=>H (gD B.high D.low) λu=>H (gD B.high D.high) λw=>H (nP (Sl.row [I,L,u,w]:Zg)) λz=>cQ.J2 G z r))))
theorem ja(r:(Z4×T')->aX (bQ×X'))(a:eZ Sy cL 98 (λz:Z4×T'=>[enc z.1,enc z.2]) (λr:bQ×X'=>[enc r.1,.bool r.2]) r U)(D B:X')(G:T')(d T g:bQ):Le (H (J1 D B G d T g r) (λr=>M [enc r.1,.bool r.2])) (bZ Sy cL (oR (tr Tx 98)) (o9 (tb Tx 98) [1,1,1,1,1,0] [] (bE [Pv 3,Pv 4,Pv 7,Bv 8 D,Pv 9,Bv 10 B] [Xb 3 G,Xb 4 d,Xb 7 T,Xb 9 g]))):=bH 6 3 [10,48] 51 (ct 6 48 (bn 3) (bn 3)) λQ=>bp 2 51 aZ (bp 22 77 (o_ 14 (ck 4 λu _=>aZ)) (bp 7 86 (o_ 18 (ck 4 λu _=>aZ)) (bp 7 99 (o_ 18 (ck 4 λu _=>aZ)) (ck 6 λI _=>ck 4 λL _=>ck 4 λw _=>ck 4 λC _=>adH 0 ([I,L,w,C]:Rd) (.buildC 1 4 [.int N 0] [0,1,2,3]) [iv I,iv L,iv w,iv C] (ck 0 λi _=>o_ 5 (ck 4 λu _=>aZ))))))
end cQ
def cO(B:Z4)(p1:T')(r:(Z4×T')->aX (bQ×X')):aX (bQ×X'):=bh ((len p1.l)==0) (H (eV B p1) λw=>H (ku w) λC=>M (w,(!C))) (H (idx p1.l 0) λD=>H (r (B,D)) λu=>bh ((len p1.l)==2) (H (idx p1.l 1) λG=>H (r (B,G)) λz=>cQ.J1 u.2 z.2 p1 (⟨0,0⟩:bQ) u.1 z.1 r) (cQ.J1 u.2 U p1 (⟨0,0⟩:bQ) u.1 u.1 r))
open cQ in
theorem Bo(r:(Z4×T')->aX (bQ×X'))(a:eZ Sy cL 98 (λz:Z4×T'=>[enc z.1,enc z.2]) (λr:bQ×X'=>[enc r.1,.bool r.2]) r U)(B:Z4)(p1:T'):Le (H (cO B p1 r) λr=>M [enc r.1,.bool r.2]) (iB cL 98 [enc B,enc p1]):=(Fc.M 98 [enc B,enc p1] (bR 2 2 B (bR 0 3 p1 (dK 9 13 (Pred.eT p1.l) (bM 0 p1.l (bp 3 15 (bu 5 λG _=>ck 8 λI _=>aZ) (dK 8 26 (Pred.eT p1.l) (bB 0 λC _=>ck (F:=Fc.of (B,C) a) 1 λu _=>dK 21 34 (Pred.eT p1.l) (bM 0 p1.l (bp 3 36 (dK 5 40 (Pred.eT p1.l) (bB 0 λD _=>ck (F:=Fc.of (B,D) a) 1 λw _=>kn 8 (ja r a u.2 w.2 p1 (⟨0,0⟩:bQ) u.1 w.1))) (kn 4 (ja r a u.2 U p1 (⟨0,0⟩:bQ) u.1 u.1))))))))))):Fc Sy cL (cO B p1 r)).F.h ()
def cQ(B:Z4)(p1:T'):aX (bQ×X'):=cI (λr(z:Z4×T')=>cO z.1 z.2 r) 100000 (B,p1)
instance T7(B:Z4)(p1:T'):Fc Sy cL (cQ B p1):=Fc.of (B,p1) (eZ.fix (A:=λz:Z4×T'=>[enc z.1,enc z.2]) (E:=λr:bQ×X'=>[enc r.1,.bool r.2]) (sc:=U) (b:=(λr(z:Z4×T')=>cO z.1 z.2 r)) p? (λ_ _=>rfl) (λr a z=>Bo r a z.1 z.2) 100000)
def mB(B:T')(D:Z4)(r:(Z4×T')->aX X'):aX X':=H (r (D,B)) λu=>M (!u)
abbrev Cc(r:(Trace×Pred)->aX Bool)(a:eZ Sy cL 54 (λz:Trace×Pred=>[enc z.1,enc z.2]) (λr:Bool=>[.bool r]) r U)(B:Pred)(D:Trace):Fc Sy cL (mB B D r):=Fc.M 99 [enc B,.fptr (cells D)] (bR 2 2 B (bu (F:=Fc.of (D,B) a) 7 λu _=>aZ))
def cK(D:Z4)(p1:T')(r:(Z4×T')->aX X'):aX X':=H (nL p1.kind) λw=>bh (w==1) (H (cQ D p1) λB=>M B.2) (H (CF p1.l (λx u=>((λz=>mB z D r) x).map λb=>(b,u)) ()) λC=>M (!C.1))
theorem Cd(r:(Z4×T')->aX X')(a:eZ Sy cL 54 (λz:Z4×T'=>[enc z.1,enc z.2]) (λr:X'=>[.bool r]) r U)(B:Z4)(p1:T'):Le (H (cK B p1 r) λr=>M [.bool r]) (iB cL 54 [enc B,enc p1]):=(Fc.M 54 [enc B,enc p1] (bR 2 2 B (bR 0 3 p1 (bu 8 λu _=>bp 3 10 (bu 5 λw _=>aZ) (dK 7 19 (Pred.eT p1.l) (zq 2 (nR (A2.ofP (g:=99) (e:=[.fptr (cells B)]) (p:=(λz=>mB z B r)) (mV.s9 (F:=λz=>Cc r a z B))) p1.l ()) λC _=>aZ))))):Fc Sy cL (cK B p1 r)).F.h ()
def qK(B:Z4)(p1:T'):aX X':=cI (λr(z:Z4×T')=>cK z.1 z.2 r) 100000 (B,p1)
instance US(B:Z4)(p1:T'):Fc Sy cL (qK B p1):=Fc.of (B,p1) (eZ.fix (A:=λz:Z4×T'=>[enc z.1,enc z.2]) (E:=λr:X'=>[.bool r]) (sc:=U) (b:=(λr(z:Z4×T')=>cK z.1 z.2 r)) p? (λ_ _=>rfl) (λr a z=>Cd r a z.1 z.2) 100000)
def fV(B:Z4)(p1:T'):Ps:=H (cu B) λu=>(bh u (H (nM p1) λw=>M (!w)) (M U):aX X').bind λz=>bh z (M 1) (H (qp B p1) λC=>bh C (H (qH p1) λD=>bh D (H (qK B p1) λG=>bh G (M 0) (M 9)) (M 14)) (M 13))
instance Ug(B:Z4)(p1:T'):Fc Sy cL (fV B p1):=Fc.M 25 [enc B,enc p1] (bR 2 2 B (bR 0 3 p1 (bu 8 λu _=>bH 2 4 [9] 13 (ct 2 9 (bu 1 λw _=>bn 2) (bn 4)) λz=>bp 3 5 aZ (bu 5 λC _=>ct 4 14 (bu 4 λD _=>ct 4 19 (bu 5 λG _=>ct 4 23 aZ aZ) aZ) aZ))))
def rI(B:T'):aX (Int×Int):=H (nM B) λu=>bh u (H (qH B) λw=>bh w (H (nL B.kind) λz=>M (z,0)) (M (0,14))) (M (0,1))
instance XA(B:T'):Fc Sy cL (rI B):=Fc.M 44 [enc B] (bR 2 1 B (bu 9 λu _=>ct 4 4 (bu 4 λw _=>ct 4 8 (bu 8 λz _=>aZ) aZ) aZ))
def qF(B:Z4)(p1:T'):Ps:=H (fV B p1) λu=>bh (u==0) (H (rI p1) λw=>H (bh (w.2==0) (M (!(w.1==2))) (M U)) λz=>bh z (M 14) (M 0)) (M u)
instance Ul(B:Z4)(p1:T'):Fc Sy cL (qF B p1):=Fc.M 22 [enc B,enc p1] (bR 2 2 B (bR 0 3 p1 (bu 8 λu _=>ct 9 12 (bu 7 λw _=>bH 12 3 [6,21] 24 (ct 12 21 (bn 3) (bn 3)) λz=>bp 2 24 aZ aZ) aZ)))
namespace jB
def lM(D:Z4)(B G:Int)(d:bf)(T:X')(x:bf×WF):aX (Fw Unit Empty bf):=H (bh (x.2.kind==B) (M (x.2.d?==G)) (M O)) λu=>bh u (M (.r x.1)) (M (.n ()))
def E1(B:Z4)(D G:Int)(d:bf)(T:X'):aX (bf×X'):=H (kN B) λu=>H (mN (λ(x:bf×WF)(q:Unit)=>lM B D G d T x) u ()) (Fw.tK (λq=>M (⟨0,0⟩,O)) (λe=>c! e) (λe=>M (e,U)))
end jB
def jB(D:Z4)(B G:Int):aX (bf×X'):=H (cu D) λu=>bh u (H (kR D) λw=>jB.E1 w B G (⟨0,0⟩:bf) O) (M (⟨0,0⟩,O))
open jB in
instance abW(G:Z4)(B D:Int):Fc Sy cL (jB G B D):=Fc.M 170 [enc G,.int N B,.int N D] (bR 2 3 G (bu 10 λL _=>ct 3 12 (bu 7 λw _=>HG λI z=>D2 4 [Pv 4,Pv 5,Pv 6,Pv 7,(15,.v (.clo 176 [] [.fptr (cells w)]))] (λC=>[(4,.box [iv B]),(5,.box [iv D]),Xb 6 (⟨0,0⟩:bf),(7,.box [bv O])]) (λu=>c! u) (λu=>[(4,.box [iv B]),(5,.box [iv D]),Xb 6 u,(7,.box [bv U])]) (Bt w I z) (λd C=>o7 8 9 0 d.2 (A5 1 (bH 9 5 [9,22] 27 (bp 9 22 (bn 5) (bn 5)) λg=>bp 2 27 aZ aZ))) (λC=>aZ) (λx=>c! x) (λu=>aZ)) aZ))
def qG(B:Z4)(m1:Int):aX (bf×X'):=H (jB B 2 m1) λu=>M (u.1,u.2)
instance Yx(B:Z4)(m1:Int):Fc Sy cL (qG B m1):=Fc.M 128 [enc B,.int N m1] (bR 2 2 B (bu 8 λu _=>aZ))
namespace mE
def J3(B:Sl bf)(i:Sl bT)(m j:Int)(a:Sl WF)(b G:Int)(g:Z4)(c T:cG)(d:bT)(D:bf):aX (Fw ((Sl bf)×Int×Z4×cG×cG) ((Sl bf)×Z4×cG) Empty):=H (eH B (D:bf)) λu=>M (.n (u,w? N (G+1),g,(⟨Sl.nil,Sl.nil⟩:cG),T))
def bK(j:Sl bT)(i a:Int)(d:Sl WF)(T:Int)(b:bT)(B:Sl bf)(D:Int)(G:Z4)(c g:cG):aX (Fw ((Sl bf)×Int×Z4×cG×cG) ((Sl bf)×Z4×cG) Empty):=bh (_s (D<T)) (H (idx d D) λu=>bh (u.kind==3) (H (qG G u.d?) λw=>J3 B j i a d T D G (⟨Sl.nil,Sl.nil⟩:cG) g b w.1) (J3 B j i a d T D G (⟨Sl.nil,Sl.nil⟩:cG) g b (⟨0,0⟩:bf))) (M (.x (B,G,g)))
def W2(B:Sl bf)(d:Sl bT)(T D:Int)(g:Sl WF)(j i:Int)(a:Z4)(b c:cG)(G:bT):aX (Fw (Int×Z4×cG×cG) cG Empty):=H (bL (λq:(Sl bf)×Int×Z4×cG×cG=>bK d T D g j G q.1 q.2.1 q.2.2.1 q.2.2.2.1 q.2.2.2.2) (B,i,a,b,c)) (Fw.elim (λe=>H (eH e.2.2.lengths (len G.c?:Int)) λu=>H (eH e.2.2.need (e.1:Sl bf)) λw=>M (.n (w? N (D+1),e.2.1,(⟨Sl.nil,Sl.nil⟩:cG),(⟨u,w⟩:cG)))) (λe=>c! e))
def bl(D:Sl bT)(G:Int)(B:Int)(T:Z4)(g d:cG):aX (Fw (Int×Z4×cG×cG) cG Empty):=bh (_s (B<G)) (H (idx D B) λu=>W2 (Sl.nil:Sl bf) D G B u.c? (len u.c?) 0 T (⟨Sl.nil,Sl.nil⟩:cG) d u) (M (.x d))
def W1(B:Sl bT)(D G:Int)(d:Z4)(T g:cG):aX cG:=H (bL (λq:Int×Z4×cG×cG=>bl B D q.1 q.2.1 q.2.2.1 q.2.2.2) (G,d,T,g)) (Fw.elim (λe=>M e) (λe=>c! e))
end mE
def mE(B:Z4):aX cG:=mE.W1 B.b? (len B.b?) 0 B (⟨Sl.nil,Sl.nil⟩:cG) (⟨Sl.nil,Sl.nil⟩:cG)
open mE in
instance adj(D:Z4):Fc Sy cL (mE D):=Fc.N 149 [enc D] (bR 2 1 D (bM 13 D.b? (dO 7 (λu=>(bE [Pv 1,Pv 2,Pv 3,Cv 11 D.b?,Iv 12 (len D.b?),Iv 13 u.1] [Xb 1 u.2.1,Xb 2 (⟨Sl.nil,Sl.nil⟩:cG),(3,.box [.own 4060,.own 4061]),Lb 4060 u.2.2.2.lengths,Lb 4061 u.2.2.2.need])) (λC=>(0,(bE [Pv 2,Pv 3] [Xb 2 (⟨Sl.nil,Sl.nil⟩:cG),(3,.box [.own 4060,.own 4061]),Lb 4060 C.lengths,Lb 4061 C.need]))) (λu=>bp 9 14 (bB 7 λw _=>o7 2 5 0 w (bM 12 w.c? (dO 8 (λz=>(bE [Pv 1,Pv 2,Pv 3,Pv 5,Ov 6,Cv 11 D.b?,Iv 12 (len D.b?),Iv 13 u.1,Cv 18 w.c?,Iv 19 (len w.c?),Iv 20 z.2.1] [Xb 1 z.2.2.1,Xb 2 (⟨Sl.nil,Sl.nil⟩:cG),(3,.box [.own 4060,.own 4061]),Xb 5 w,Lb 2006 z.1,Lb 4060 z.2.2.2.2.lengths,Lb 4061 z.2.2.2.2.need])) (λB=>(2,(bE [Pv 1,Pv 2,Pv 3,Pv 5,Ov 6,Cv 11 D.b?,Iv 12 (len D.b?),Iv 13 u.1] [Xb 1 B.2.1,Xb 2 (⟨Sl.nil,Sl.nil⟩:cG),(3,.box [.own 4060,.own 4061]),Xb 5 w,Lb 2006 B.1,Lb 4060 B.2.2.lengths,Lb 4061 B.2.2.need]))) (λz=>bp 10 21 (bB 7 λG _=>o7 2 8 0 G (bp 15 26 (bu 5 λd _=>o_ 10 (om 4 2006 36 37 λI _=>aZ)) (o_ 7 (om 4 2006 36 37 λI _=>aZ)))) aZ) (λB=>bM 8 w.c? (om 1 4060 44 45 λL _=>zb 9 50 ([B.1]:aY (Sl bf)) (om 0 4061 50 51 λg _=>aZ)))))) aZ) (λC=>o7 7 2 0 C aZ))))
def rD(d:cG)(B:Zg)(p2:Int):aX X':=H (idx B p2) λw=>H (idx d.lengths p2) λz=>bh (w==z) (M O) (H (idx d.need p2) λC=>H (idx B p2) λD=>H (idx C D) λu=>H (idx B u.proc) λG=>M (_s (u.index<=G)))
instance TL(B:cG)(D:Zg)(p2:Int):Fc Sy cL (rD B D p2):=Fc.M 188 [enc B,enc D,.int N p2] (bR 2 3 B (bB 8 λu _=>bB 4 λw _=>bp 4 17 aZ (bB 8 λz _=>bB 3 λC _=>bB 1 λG _=>bB 12 λI _=>aZ)))
def uo(B:Int):aX X':=M (!(B==B))
instance W8(B:Int):Fc Sy cL (uo B):=Fc.M 222 [.int N B] (aZ)
def sE(B D:Int):Ps:=H (uo B) λw=>H (uo D) λu=>bh w (bh u (M 0) (M (-1))) (bh u (M 1) (bh (_s (B<D)) (M (-1)) (bh (_s (B>D)) (M 1) (M 0))))
instance T0(B D:Int):Fc Sy cL (sE B D):=Fc.M 207 [.int N B,.int N D] (bu 8 λu _=>bu 6 λw _=>bp 9 11 (bp 7 12 aZ aZ) (bp 9 13 aZ (bp 11 16 aZ (bp 11 19 aZ aZ))))
namespace gu
def bl(d D T:Zg)(G:Int)(B:Int):aX (Fw Int Unit Int):=bh (_s (B<G)) (H (idx T B) λw=>bh (_s (B>=(len D))) (M (.r 1)) (H (idx D B) λz=>H (sE w z) λu=>bh (u==0) (M (.n (w? N (B+1)))) (M (.r u)))) (M (.x ()))
def W1(B D T:Zg)(G d:Int):Ps:=H (bL (λq:Int=>bl B D T G q) d) (Fw.elim (λe=>bh (_s ((len B)<(len D))) (M (-1)) (M 0)) (λe=>M e))
end gu
def gu(B D:Zg):Ps:=gu.W1 B D B (len B) 0
open gu in
instance PZ(B D:Zg):Fc Sy cL (gu B D):=Fc.M 191 [enc B,enc D] (bM 9 B (dM 5 (λw=>(bE [Cv 0 B,Cv 1 D,Cv 9 B,Iv 10 (len B),Iv 11 w] [])) (λu=>(0,(bE [Cv 0 B,Cv 1 D] []))) (λu=>(bE [Iv 4 u] [])) (λw=>bp 7 12 (bB 8 λz _=>bM 10 D (bp 3 19 aZ (bB 7 λC _=>bu 8 λG _=>ct 9 28 aZ aZ))) aZ) (λu=>bM 6 B (bM 1 D (bp 3 35 aZ aZ))) (λu=>aZ)))
def lG(a0 B:Zg):Ps:=H (gu a0 B) λu=>M u
instance Qc(a0 B:Zg):Fc Sy cL (lG a0 B):=Fc.M 190 [enc a0,enc B] (bu 9 λu _=>aZ)
namespace fW
def bl(D G:Zg)(d:Int)(B:Int):aX (Fw Int Unit Unit):=bh (_s (B<d)) (H (idx D B) λu=>H (idx G B) λw=>bh (u==w) (M (.n (w? N (B+1)))) (M (.r ()))) (M (.x ()))
def W1(B D:Zg)(G d:Int):aX X':=H (bL (λq:Int=>bl B D G q) d) (Fw.elim (λe=>M U) (λe=>M O))
end fW
def fW(B D:Zg):aX X':=bh ((len B)==(len D)) (fW.W1 B D (len B) 0) (M O)
open fW in
instance Th(B D:Zg):Fc Sy cL (fW B D):=Fc.M 60 [enc B,enc D] (bM 9 B (bM 1 D (ct 3 10 (bM 7 B (dM 5 (λw=>(bE [Cv 0 B,Cv 1 D,Iv 12 (len B),Iv 13 w] [])) (λu=>(0,(bE [] []))) (λu=>(bE [Bv 4 O] [])) (λw=>bp 7 14 (bB 15 λz _=>bB 3 λC _=>ct 4 24 aZ aZ) aZ) (λu=>aZ) (λu=>aZ))) aZ)))
def nh(a0 B:Zg):aX X':=H (fW a0 B) λu=>M u
instance Pu(a0 B:Zg):Fc Sy cL (nh a0 B):=Fc.M 193 [enc a0,enc B] (bu 9 λu _=>aZ)
namespace fe
def bK(T:Zg)(g:Zb)(W Y G:Int)(d:cG)(D:Zb)(B:Int):aX (Fw ((Zb)×Int) Zb Empty):=bh (_s (B<G)) ((rD d T B).bind λw=>bh w (((fq T).bind Sl.whole).bind λu=>(Sl.iE u B).bind λz=>(Sl.get u z).bind λC=>(Sl.iE u B).bind λI=>(Sl.put u I (w? N (C+1):Int)).bind λL=>(eH D (L:Zg)).bind λi=>M (.n (i,w? N (B+1)))) (M (.n (D,w? N (B+1))))) (M (.x D))
def W2(B:Zb)(i:Zg)(d:Zb)(D G T g:Int)(j:cG):aX (Fw ((Zb)×Int×Int) Zb Empty):=H (bL (λq:(Zb)×Int=>bK i d D G T j q.1 q.2) (B,g)) (Fw.elim (λe=>M (.n (e,D,w? N (G+1)))) (λe=>c! e))
def bl(G:Zb)(T:cG)(B:Zb)(d D:Int):aX (Fw ((Zb)×Int×Int) Zb Empty):=bh (_s (D<d)) (H (idx G D) λu=>W2 B u G d D (len u) 0 T) (M (.x B))
def W1(B D:Zb)(G d:Int)(T:cG):aX Zb:=H (bL (λq:(Zb)×Int×Int=>bl D T q.1 q.2.1 q.2.2) (B,G,d)) (Fw.elim (λe=>H (Bs e lG) λw=>H (AF w nh) λu=>M u) (λe=>c! e))
end fe
def fe(D:cG)(B:Zb):aX Zb:=fe.W1 (Sl.nil:Zb) B (len B) 0 D
open fe in
instance T_(G:cG)(B:Zb):Fc Sy cL (fe G B):=Fc.N 150 [enc G,enc B] (bR 2 2 G (bM 12 B (dO 6 (λu=>(bE [Pv 2,Ov 5,Cv 10 B,Iv 11 u.2.1,Iv 12 u.2.2] [Xb 2 G,Lb 2005 u.1])) (λI=>(0,(bE [Ov 5] [Lb 2005 I]))) (λu=>bp 8 13 (bB 7 λw _=>bM 7 w (dO 6 (λC=>(bE [Pv 2,Ov 5,Cv 7 w,Cv 10 B,Iv 11 u.2.1,Iv 12 u.2.2,Iv 17 (len w),Iv 18 C.2] [Xb 2 G,Lb 2005 C.1])) (λd=>(2,(bE [Pv 2,Ov 5,Cv 10 B,Iv 11 u.2.1,Iv 12 u.2.2] [Xb 2 G,Lb 2005 d]))) (λC=>bp 8 19 (bu 16 λQ _=>bp 2 24 (Ar 4 26 lI w λS _=>jx N 7 26 λT _=>rB 0 26 0 1 O (λD=>.int N D) λD _=>jx N 1 26 λg _=>r_ 0 26 (.int N (w? N (D+1))) λL _=>zb 6 35 ([L]:aY Zg) (om 0 2005 35 36 λW _=>aZ)) aZ) aZ) (λd=>aZ))) aZ) (λI=>acO 5 2005 QF Is X8 (eZ.s9 (λz=>inferInstanceAs (Fc Sy cL (lG z.1 z.2))) default (λ_=>rfl) (λ_=>rfl) (λ_=>rfl) (λ_=>rfl)) λX _=>acU 5 2005 42 QF Is ZU (eZ.s9 (λz=>inferInstanceAs (Fc Sy cL (nh z.1 z.2))) default (λ_=>rfl) (λ_=>rfl) (λ_=>rfl) (λ_=>rfl)) λi _=>aZ))))
namespace lS
def bl(d:cG)(B:Zb)(G:Sl Zb)(D:Int):aX (Fw ((Zb)×(Sl Zb)×Int) (Sl Zb) Unit):=bh (_s ((len B)>0)) (bh (_s ((w? N (D+(len B)))>5000)) (M (.r ())) (H (eH G (B:Zb)) λu=>H (fe d B) λw=>M (.n (w,u,w? N (D+(len B)))))) (M (.x G))
def W1(B:Zb)(G:Sl Zb)(D:Int)(d:cG):aX ((Sl Zb)×Int):=H (bL (λq:(Zb)×(Sl Zb)×Int=>bl d q.1 q.2.1 q.2.2) (B,G,D)) (Fw.elim (λe=>M (e,0)) (λe=>M ((Sl.nil:Sl Zb),16)))
end lS
def lS(B:Z4):aX ((Sl Zb)×Int):=H (cu B) λu=>bh u (H (mE B) λw=>H (jQ (len B.b?) (0:Int)) λz=>lS.W1 (Sl.row [z]:Zb) (Sl.nil:Sl Zb) 0 w) (M ((Sl.nil:Sl Zb),1))
open lS in
instance aap (B:Trace):Fc Sy cL (lS B):=Fc.N 107 [enc B] (bR 2 1 B (bu 8 λD _=>ct 3 10 (bu 6 λz _=>o7 1 4 0 z (bM 6 B.b? (A1 0 16 λC _=>zb 1 17 ([C]:aY (Sl Int)) (dM 18 (λu=>(bE [Pv 4,Cv 5 u.1,Ov 6,Iv 7 u.2.2] [Xb 4 z,Lb 2006 u.2.1])) (λw=>(0,(bE [Ov 6] [Lb 2006 w]))) (λw=>(bE [Ov 2,Iv 3 16] [Lb 2002 (Sl.nil:Sl (Sl (Sl Int)))])) (λu=>bM 7 u.1 (bp 3 20 (bM 10 u.1 (bp 10 29 aZ (zb 6 32 ([u.1]:aY (Sl (Sl Int))) (om 0 2006 32 33 λG _=>bu 7 λI _=>aZ)))) aZ)) (λw=>aZ) (λw=>aZ))))) aZ))
def hU(s:Sl Zb):aX Zb:=if W s.l<=2147483648/\W (s.l.flatMap Sl.l)<=2147483648 then M (EJ s)else J
instance QI(s:Sl Zb):Fc Sy cL (hU s):=Fc.of (A:=λz:Sl Zb=>[enc z]) (E:=λr:Zb=>[enc r]) (p:=hU) (n:=108) (z:=s) (eZ.adX p? p? (λz r h=>by
 unfold hU at h;split at h
 next a=>cases h;exact IN (Zl (E:=Sy.E) (N:=λn=>n) (gid:=151) (nm:=M) (λ_ _ h=>(Option.some.inj h).symm) Y p? p? (FC p?) (FC p?) Y z a.1 a.2)
 cases h))
def oq(B:Z4):aX ((Zb)×Int):=H (lS B) λu=>H (hU u.1) λw=>M (w,u.2)
instance ab9(B:Z4):Fc Sy cL (oq B):=Fc.N 57 [enc B] (bR 2 1 B (bu 7 λu _=>bu 10 λw _=>aZ))
def qX(B:Z4):aX ((Zb)×Int):=H (oq B) λu=>M (u.1,u.2)
instance ab6(B:Z4):Fc Sy cL (qX B):=Fc.N 45 [enc B] (bR 2 1 B (bu 7 λu _=>aZ))
namespace jh
def bl(d:Zg)(D:Int)(G:Sl U8)(B:Int):aX (Fw ((Sl U8)×Int) (Sl U8) Empty):=bh (_s (B<D)) (H (idx d B) λu=>H (Sl.iE G B) λw=>H (Sl.put G w (⟨w? .u8 u⟩:U8)) λz=>M (.n (z,w? N (B+1)))) (M (.x G))
def W1(G:Sl U8)(d:Zg)(B D:Int):aX U':=H (bL (λq:(Sl U8)×Int=>bl d B q.1 q.2) (G,D)) (Fw.elim (λe=>M (Rn e)) (λe=>c! e))
end jh
def jh(B:Zg):aX U':=H (jQ (len B) (⟨0⟩:U8)) λu=>jh.W1 u B (len B) 0
open jh in
instance YQ(B:Zg):Fc Sy cL (jh B):=Fc.M 46 [enc B] (bM 8 B (A1 0 8 λC _=>bM 7 B (dO 6 (λu=>(bE [Ov 3,Cv 9 B,Iv 10 (len B),Iv 11 u.2] [Lb 2003 u.1])) (λw=>(0,(bE [Ov 3] [Lb 2003 w]))) (λu=>bp 8 12 (bB 8 λz _=>jx N 10 2003 λD _=>r_ 0 2003 (.int .u8 (w? .u8 z)) λG _=>aZ) aZ) (λw=>acM 5 2003 w aZ))))
def l_(B:Zg)(D:Z4):aX X':=M (!((len B)==(len D.b?)))
instance Yl(B:Zg)(D:Z4):Fc Sy cL (l_ B D):=Fc.M 147 [enc B,.fptr (cells D)] (bM 8 B (bM 2 D.b? aZ))
namespace fQ
def bl(s0:Zb)(D:Int)(B:Int)(p1:(Zg)->aX X'):aX (Fw Int Unit Int):=bh (_s (B<D)) (H (idx s0 B) λu=>H (p1 u) λw=>bh w (M (.r B)) (M (.n (w? N (B+1))))) (M (.x ()))
def W1(s0:Zb)(B D:Int)(p1:(Zg)->aX X'):Ps:=H (bL (λq:Int=>bl s0 B q p1) D) (Fw.elim (λe=>M (-1)) (λe=>M e))
end fQ
def fQ(s0:Zb)(p1:(Zg)->aX X'):Ps:=fQ.W1 s0 (len s0) 0 p1
open fQ in
abbrev tM(g1:FuncId)(e1:aY V)(p1:(Sl Int)->aX Bool)(a:mV Sy cL g1 [] e1 (λz:Sl Int=>[enc z]) (λr:Bool=>[.bool r]) p1 U)(s0:Sl (Sl Int)):Fc Sy cL (fQ s0 p1):=Fc.M 58 [enc s0,.clo g1 [] e1] (bM 9 s0 (dM 5 (λw=>(bE [Cv 0 s0,(1,.v (.clo g1 [] e1)),Iv 7 (len s0),Iv 8 w] [])) (λu=>(0,(bE [] []))) (λu=>(bE [Iv 4 u] [])) (λw=>bp 7 9 (bB 16 λB _=>zW 1 a.f B λC _=>bp 2 16 aZ aZ) aZ) (λu=>aZ) (λu=>aZ)))
def jT(s0:Zb)(p1:(Zg)->aX X'):aX X':=H (fQ s0 p1) λu=>M (_s (u>=0))
abbrev rP(g1:FuncId)(e1:aY V)(p1:(Sl Int)->aX Bool)(a:mV Sy cL g1 [] e1 (λz:Sl Int=>[enc z]) (λr:Bool=>[.bool r]) p1 U)(s0:Sl (Sl Int)):Fc Sy cL (jT s0 p1):=Fc.M 104 [enc s0,.clo g1 [] e1] (bu (F:=tM g1 e1 p1 a s0) 9 λu _=>aZ)
def zL(D:Z4)(G:Zb):aX X':=H (cu D) λu=>(bh u (H (jT G (λz=>l_ z D)) λw=>M (!w)) (M O):aX X').bind λB=>M B
instance ab8(B:Z4)(D:Zb):Fc Sy cL (zL B D):=Fc.M 100 [enc B,enc D] (bR 2 2 B (bu 6 λu _=>bH 1 5 [1,2,7] 12 (bp 1 7 (ck (F:=rP 147 [.fptr (cells B)] (λz=>l_ z B) mV.s9 D) 2 λw _=>bn 2) (bn 5)) λC=>aZ))
namespace lT
def bl(G:Zg)(d:Int)(D:Z4)(B:Int):aX (Fw Int Unit Unit):=bh (_s (B<d)) (H (idx G B) λu=>(bh (_s (u<0)) (M U) (H (idx D.b? B) λw=>M (_s (u>(len w.c?)))):aX X').bind λz=>bh z (M (.r ())) (M (.n (w? N (B+1))))) (M (.x ()))
def W1(D:Zg)(G d:Int)(B:Z4):aX X':=H (bL (λq:Int=>bl D G B q) d) (Fw.elim (λe=>M U) (λe=>M O))
end lT
def lT(D:Z4)(B:Zg):aX X':=lT.W1 B (len B) 0 D
open lT in
instance ZY(D:Z4)(B:Zg):Fc Sy cL (lT D B):=Fc.M 101 [enc D,enc B] (bR 2 2 D (bM 7 B (dM 5 (λw=>(bE [Pv 2,Cv 7 B,Iv 8 (len B),Iv 9 w] [Xb 2 D])) (λu=>(0,(bE [] []))) (λu=>(bE [Bv 4 O] [])) (λw=>bp 7 10 (bB 8 λC _=>bH 10 10 [5,6,16] 26 (bp 10 16 (bn 10) (bB 4 λz _=>bM 2 z.c? (bn 2))) λG=>bp 2 26 aZ aZ) aZ) (λu=>aZ) (λu=>aZ))))
def xk(B:Z4)(p1:Int):aX X':=H (bh (_s (p1>=0)) (M (_s (p1<(len B.b?)))) (M O)) λu=>M u
instance aab(B:Z4)(p1:Int):Fc Sy cL (xk B p1):=Fc.M 102 [enc B,.int N p1] (bR 2 2 B (bH 8 6 [1,2,7] 13 (bp 8 7 (bM 3 B.b? (bn 2)) (bn 6)) λu=>aZ))
namespace jo
def bK(j:Zg)(p7:Int)(i:Zg)(a b:Int)(d:Sl WF)(T:Int)(g:Z4)(G D:bf)(B:Int):aX (Fw Int Unit (bf×bf)):=bh (_s (B<T)) (H (idx d B) λw=>bh (w.kind==3) (H (qG g w.d?) λu=>H (idx j u.1.proc) λz=>bh (_s (u.1.index>z)) (M (.r (u.1,(⟨p7,w? N (B+1)⟩:bf)))) (M (.n (w? N (B+1))))) (M (.n (w? N (B+1))))) (M (.x ()))
def W2(a:Zg)(p7:Int)(d:Zg)(T G:Int)(g:Sl WF)(j i:Int)(b:Z4)(D B:bf):aX (Fw Int Unit (bf×bf)):=H (bL (λq:Int=>bK a p7 d T G g j b D B q) i) (Fw.elim (λe=>M (.n (w? N (G+1)))) (λe=>M (.r (e.1,e.2))))
def bl(i d:Zg)(T:Int)(g:Z4)(G B:bf)(D:Int):aX (Fw Int Unit (bf×bf)):=bh (_s (D<T)) (H (idx d D) λw=>H (idx g.b? D) λz=>H (iK z.c? J (M w)) λu=>W2 i D d T D u (len u) 0 g G B) (M (.x ()))
def W1(i G:Zg)(d T:Int)(g:Z4)(D B:bf):aX (bf×bf×X'):=H (bL (λq:Int=>bl i G d g D B q) T) (Fw.elim (λe=>M (⟨0,0⟩,⟨0,0⟩,O)) (λe=>M (e.1,e.2,U)))
end jo
def jo(D:Z4)(B:Zg):aX (bf×bf×X'):=jo.W1 B B (len B) 0 D (⟨0,0⟩:bf) (⟨0,0⟩:bf)
open jo in
instance Z3(D:Z4)(B:Zg):Fc Sy cL (jo D B):=Fc.M 148 [enc D,enc B] (bR 2 2 D (bM 9 B (dM 5 (λu=>(bE [Cv 1 B,Pv 2,Pv 4,Pv 5,Cv 13 B,Iv 14 (len B),Iv 15 u] [Xb 2 D,Xb 4 (⟨0,0⟩:bf),Xb 5 (⟨0,0⟩:bf)])) (λw=>(0,(bE [Pv 4,Pv 5] [Xb 4 (⟨0,0⟩:bf),Xb 5 (⟨0,0⟩:bf)]))) (λw=>(bE [Pv 4,Pv 5,Bv 6 U] [Xb 4 w.1,Xb 5 w.2])) (λu=>bp 7 16 (bB 8 λI _=>bB 10 λL _=>E5 3 O U [.int N I] λC _=>bM 0 C (dM 5 (λG=>(bE [Cv 1 B,Pv 2,Pv 4,Pv 5,Iv 7 u,Cv 13 B,Iv 14 (len B),Iv 15 u,Cv 27 C,Iv 28 (len C),Iv 29 G] [Xb 2 D,Xb 4 (⟨0,0⟩:bf),Xb 5 (⟨0,0⟩:bf)])) (λz=>(2,(bE [Cv 1 B,Pv 2,Pv 4,Pv 5,Cv 13 B,Iv 14 (len B),Iv 15 u] [Xb 2 D,Xb 4 (⟨0,0⟩:bf),Xb 5 (⟨0,0⟩:bf)]))) (λz=>(bE [Pv 4,Pv 5,Bv 6 U] [Xb 4 z.1,Xb 5 z.2])) (λG=>bp 7 30 (bB 8 λd _=>o7 3 10 0 d (ct 10 36 (bu 8 λg _=>bB 15 λQ _=>bp 4 51 aZ aZ) aZ)) aZ) (λz=>aZ) (λz=>aZ))) aZ) (λw=>aZ) (λw=>aZ))))
def yE(B:Z4)(D:Zg):aX X':=H (jo B D) λu=>M (!u.2.2)
instance aaV(B:Z4)(D:Zg):Fc Sy cL (yE B D):=Fc.M 103 [enc B,enc D] (bR 2 2 B (bu 7 λu _=>aZ))
namespace dn
def dQ(D:Zb)(G:Int)(d:Z4)(B:Int):aX (Fw Int Unit Unit):=bh (_s (B<G)) (H (idx D B) λu=>H (yE d u) λw=>bh w (M (.n (w? N (B+1)))) (M (.r ()))) (M (.x ()))
def W3(B:Zb)(D G:Int)(d:Z4):Ps:=H (bL (λq:Int=>dQ B D d q) G) (Fw.elim (λe=>M 0) (λe=>M 18))
def bK(T:Zb)(D:Zg)(G:Int)(d:Z4)(B:Int):aX (Fw Int Unit Unit):=bh (_s (B<G)) (H (idx D B) λu=>H (xk d u) λw=>bh w (M (.n (w? N (B+1)))) (M (.r ()))) (M (.x ()))
def W2(D:Zb)(G:Zg)(d T:Int)(B:Z4):Ps:=H (bL (λq:Int=>bK D G d B q) T) (Fw.elim (λe=>dn.W3 D (len D) 0 B) (λe=>M 2))
def bl(g:Zb)(D:Zg)(G:Zb)(d:Int)(T:Z4)(B:Int):aX (Fw Int Unit Unit):=bh (_s (B<d)) (H (idx G B) λu=>H (lT T u) λw=>bh w (M (.n (w? N (B+1)))) (M (.r ()))) (M (.x ()))
def W1(g:Zb)(B:Zg)(G:Zb)(d T:Int)(D:Z4):Ps:=H (bL (λq:Int=>bl g B G d D q) T) (Fw.elim (λe=>dn.W2 g B (len B) 0 D) (λe=>M 2))
end dn
def dn(G:Z4)(D:Zb)(B:Zg):Ps:=H (zL G D) λu=>bh u (dn.W1 D B D (len D) 0 G) (M 1)
open dn in
instance ab4(G:Z4)(D:Zb)(B:Zg):Fc Sy cL (dn G D B):=Fc.M 55 [enc G,enc D,enc B] (bR 2 3 G (bu 8 λL _=>ct 3 16 (bM 7 D (dM 5 (λC=>(bE [Cv 1 D,Cv 2 B,Pv 3,Cv 17 D,Iv 18 (len D),Iv 19 C] [Xb 3 G])) (λu=>(0,(bE [Cv 1 D,Cv 2 B,Pv 3] [Xb 3 G]))) (λu=>(bE [Iv 6 2] [])) (λC=>bp 7 20 (bB 7 λi _=>bu 8 λQ _=>ct 3 26 aZ aZ) aZ) (λu=>bM 6 B (dM 5 (λI=>(bE [Cv 1 D,Pv 3,Cv 28 B,Iv 29 (len B),Iv 30 I] [Xb 3 G])) (λw=>(2,(bE [Cv 1 D,Pv 3] [Xb 3 G]))) (λw=>(bE [Iv 6 2] [])) (λI=>bp 7 31 (bB 7 λS _=>bu 8 λT _=>ct 3 37 aZ aZ) aZ) (λw=>bM 6 D (dM 5 (λd=>(bE [Pv 3,Cv 39 D,Iv 40 (len D),Iv 41 d] [Xb 3 G])) (λz=>(4,(bE [] []))) (λz=>(bE [Iv 6 18] [])) (λd=>bp 7 42 (bB 7 λg _=>bu 8 λj _=>ct 3 48 aZ aZ) aZ) (λz=>aZ) (λz=>aZ))) (λw=>aZ))) (λu=>aZ))) aZ))
def xA(D:Z4)(G:Zg)(p2:Int):aX X':=H (idx D.b? p2) λz=>H (idx G p2) λB=>H (idx z.c? B) λu=>bh (u.kind==3) (H (qG D u.d?) λw=>H (idx G w.1.proc) λC=>M (_s (w.1.index<=C))) (M U)
instance Z9(B:Z4)(D:Zg)(p2:Int):Fc Sy cL (xA B D p2):=Fc.M 82 [enc B,enc D,.int N p2] (bR 2 3 B (bB 8 λw _=>bB 4 λz _=>bB 1 λu _=>o7 2 7 0 u (ct 10 24 (bu 8 λC _=>bB 15 λG _=>aZ) aZ)))
def xe(D:Z4)(B:Zg)(p2:Int):aX ((Zg)×Int):=(dn D (Sl.row [B]:Zb) (Sl.row [p2]:Zg)).bind λw=>bh (w==0) ((idx B p2).bind λz=>(idx D.b? p2).bind λC=>bh (z==(len C.c?)) (M (Sl.nil,4)) ((xA D B p2).bind λG=>bh G (((fq B).bind Sl.whole).bind λu=>(Sl.iE u p2).bind λI=>(Sl.get u I).bind λd=>(Sl.iE u p2).bind λL=>(Sl.put u L (w? N (d+1):Int)).bind λg=>M (g,0)) (M (Sl.nil,11)))) (M (Sl.nil,w))
instance aav(D:Z4)(B:Zg)(p2:Int):Fc Sy cL (xe D B p2):=Fc.N 47 [enc D,enc B,.int .i64 p2] (bR 2 3 D (zb 9 12 ([B]:aY Zg) (ck 2 λz _=>ct 9 17 (bB 9 λC _=>bB 4 λw _=>bM 2 w.c? (bp 4 19 aZ (bu 6 λG _=>ct 4 32 (Ar 7 39 lI B λI _=>jx .i64 7 39 λd _=>rB 0 39 0 1 false (λu=>.int .i64 u) λu _=>jx .i64 1 39 λL _=>r_ 0 39 (.int .i64 (w? .i64 (u+1))) λg _=>aZ) aZ))) aZ)))
namespace dU
def dQ(T:Zg)(i:Zb)(a b g:Int)(j:Z4)(d:Mo ByteArray Int)(B:Zg)(G:Int)(D:bF):aX (Fw ((Zg)×Int×bF) ((Zg)×(Mo ByteArray Int)×bF) Empty):=bh (_s (G<g)) (H (xe j T G) λu=>bh (u.2==0) (H (jh u.1) λw=>H (eH B (vL d w 0:Int)) λz=>M (.n (z,w? N (G+1),D))) (M (.n (B,w? N (G+1),D)))) (M (.x (B,d,D)))
def W3(T B:Zg)(g:Zb)(j D i a:Int)(b:Z4)(G:Mo ByteArray Int)(d:bF):aX (Fw (Int×(Mo ByteArray Int)×bF) bF Empty):=H (bL (λq:(Zg)×Int×bF=>dQ T g j D i b G q.1 q.2.1 q.2.2) (B,a,d)) (Fw.elim (λe=>H (eH e.2.2.next (e.1:Zg)) λu=>M (.n (w? N (D+1),e.2.1,(⟨e.2.2.t,e.2.2.l,u⟩:bF)))) (λe=>c! e))
def bK(G:Zb)(d:Int)(g:Z4)(D:Int)(T:Mo ByteArray Int)(B:bF):aX (Fw (Int×(Mo ByteArray Int)×bF) bF Empty):=bh (_s (D<d)) (H (idx G D) λu=>W3 u (Sl.nil:Zg) G d D (len u) 0 g T B) (M (.x B))
def W2(G:Zb)(d T:Int)(g:Z4)(B:Mo ByteArray Int)(D:bF):aX ((aX bF)×Int):=H (bL (λq:Int×(Mo ByteArray Int)×bF=>bK G d g q.1 q.2.1 q.2.2) (T,B,D)) (Fw.elim (λe=>M (M e,0)) (λe=>c! e))
def bl(g G:Zb)(d:Int)(T:Z4)(B:Int)(D:Mo ByteArray Int):aX (Fw (Int×(Mo ByteArray Int)) (Mo ByteArray Int) Empty):=bh (_s (B<d)) (H (idx G B) λu=>H (jh u) λw=>M (.n (w? N (B+1),qy D w B))) (M (.x D))
def W1(G d:Zb)(T g:Int)(B:Z4)(D:Mo ByteArray Int):aX ((aX bF)×Int):=H (bL (λq:Int×(Mo ByteArray Int)=>bl G d T B q.1 q.2) (g,D)) (Fw.elim (λe=>dU.W2 G (len G) 0 B e (⟨B,G,Sl.nil⟩:bF)) (λe=>c! e))
end dU
def dU(B:Z4):aX ((aX bF)×Int):=H (qX B) λu=>bh (u.2==0) (dU.W1 u.1 u.1 (len u.1) 0 B []) (M (J,u.2))
open dU in
instance Xj(D:Z4):Fc Sy cL (dU D):=Fc.N 23 [enc D] (bR 2 1 D (bu 7 λu _=>ct 14 22 (bM 13 u.1 (dO 5 (λC=>(bE [Pv 1,Cv 4 u.1,(6,.mp 24),Cv 25 u.1,Iv 26 (len u.1),Iv 27 C.1] [Xb 1 D,(24,tR C.2)])) (λd=>(0,(bE [Pv 1,Cv 4 u.1,(6,.mp 24)] [Xb 1 D,(24,tR d)]))) (λC=>bp 7 28 (bB 8 λQ _=>bu 8 λL _=>aa0 1 24 C.2 L C.1 aZ) aZ) (λd=>abz 6 (⟨D,u.1,Sl.nil⟩:bF) [enc D,enc u.1] [.bN,.bN,.bN] [(0,1),(1,1)] (by simp only[GA,JD,qW,SL,N6,RE,SQ];rfl) rfl (bR 0 40 (⟨D,u.1,Sl.nil⟩:bF) (bM 7 u.1 (dO 6 (λw=>(bE [Pv 1,(6,.mp 24),(9,.ptr 40 0),Cv 41 u.1,Iv 42 (len u.1),Iv 43 w.1] [Xb 1 D,(24,tR w.2.1),(40,.box [cv w.2.2.t.b?,cv w.2.2.l,.own 4802]),Lb 4802 w.2.2.next])) (λG=>(2,(bE [(9,.ptr 40 0)] [(40,.box [cv G.t.b?,cv G.l,.own 4802]),Lb 4802 G.next]))) (λw=>bp 8 44 (bB 7 λI _=>bM 13 I (dO 7 (λB=>(bE [Pv 1,(6,.mp 24),(9,.ptr 40 0),Cv 11 I,Ov 12,Cv 41 u.1,Iv 42 (len u.1),Iv 43 w.1,Iv 48 (len I),Iv 49 B.2.1] [Xb 1 D,(24,tR w.2.1),(40,.box [cv B.2.2.t.b?,cv B.2.2.l,.own 4802]),Lb 2012 B.1,Lb 4802 B.2.2.next])) (λz=>(4,(bE [Pv 1,(6,.mp 24),(9,.ptr 40 0),Ov 12,Cv 41 u.1,Iv 42 (len u.1),Iv 43 w.1] [Xb 1 D,(24,tR z.2.1),(40,.box [cv z.2.2.t.b?,cv z.2.2.l,.own 4802]),Lb 2012 z.1,Lb 4802 z.2.2.next]))) (λB=>bp 9 50 (bu 16 λS _=>bp 13 60 (bu 5 λi _=>Xw 0 24 w.2.1 i 0 (om 1 2012 66 67 λT _=>aZ)) aZ) aZ) (λz=>zb 10 75 ([z.1]:aY Zg) (om 0 4802 75 76 λg _=>aZ)))) aZ) (λG=>aZ))))))) aZ))
def tQ(B:Int):aX X':=H (bh (_s (B>=18)) (M (_s (B<=21))) (M O)) λu=>M u
instance Rt(B:Int):Fc Sy cL (tQ B):=Fc.M 85 [.int N B] (bH 10 3 [0,5] 8 (bp 10 5 (bn 3) (bn 3)) λu=>aZ)
def nZ(B:T'):aX X':=H (tQ B.kind) λu=>M (!u)
instance NG(B:T'):Fc Sy cL (nZ B):=Fc.M 84 [enc B] (bR 2 1 B (bu 7 λu _=>aZ))
def mG(D:T'):aX X':=H (nM D) λu=>(bh u (H (pq D (λz=>nZ z)) λw=>M (!w)) (M O):aX X').bind λB=>M B
instance Rs(B:T'):Fc Sy cL (mG B):=Fc.M 48 [enc B] (bR 2 1 B (bu 6 λu _=>bH 1 4 [1,5] 9 (bp 1 5 (bu (F:=vC 84 [] (λz=>nZ z) mV.s9 B) 1 λw _=>bn 2) (bn 4)) λC=>aZ))
def tC(D:T')(B:Int):Ps:=H (rI D) λu=>H (bh (u.2==0) (M (!(u.1==B))) (M U)) λw=>bh w (M 14) (M 0)
instance UA(D:T')(B:Int):Fc Sy cL (tC D B):=Fc.M 130 [enc D,.int N B] (bR 2 2 D (bu 7 λu _=>bH 12 4 [1,5,14] 18 (ct 12 14 (bn 4) (bn 4)) λw=>bp 2 18 aZ aZ))
namespace jK
def bl(G:Zg)(d:Int)(B:Sl bf)(D:Int):aX (Fw ((Sl bf)×Int) (Sl bf) Empty):=bh (_s (D<d)) (H (idx G D) λu=>bh (_s (u>0)) (H (eH B (⟨D,u⟩:bf)) λw=>M (.n (w,w? N (D+1)))) (M (.n (B,w? N (D+1))))) (M (.x B))
def W1(B:Sl bf)(D:Zg)(G d:Int):aX ((Sl bf)×Int):=H (bL (λq:(Sl bf)×Int=>bl D G q.1 q.2) (B,d)) (Fw.elim (λe=>M (e,0)) (λe=>c! e))
end jK
def jK(D:Z4)(B:Zg):aX ((Sl bf)×Int):=H (dn D (Sl.row [B]:Zb) (Sl.nil:Zg)) λu=>bh (u==0) (jK.W1 (Sl.nil:Sl bf) B (len B) 0) (M (Sl.nil,u))
open jK in
instance Zu(D:Z4)(B:Zg):Fc Sy cL (jK D B):=Fc.N 26 [enc D,enc B] (bR 2 2 D (zb 9 12 ([B]:aY Zg) (ck 0 λz _=>ct 9 15 (bM 12 B (dO 6 (λu=>(bE [Ov 7,Cv 17 B,Iv 18 (len B),Iv 19 u.2] [Lb 2007 u.1])) (λw=>(0,(bE [Ov 7] [Lb 2007 w]))) (λu=>bp 8 20 (bB 8 λC _=>bp 11 25 (om 7 2007 30 31 λG _=>aZ) aZ) aZ) (λw=>aZ))) aZ)))
namespace gY
def lM(B:bT)(D:Int)(x:Int×(Zg))(G:Zg):aX (Fw Zg Empty Zg):=bh (x.1==D) (M (.r x.2)) (M (.n (Sl.nil:Zg)))
def E1(B:bT)(D:Int)(G:Zg):aX Zg:=H (kX B) λu=>H (mN (λ(x:Int×(Zg))(q:Zg)=>lM B D x q) u G) (Fw.tK (λq=>M Sl.nil) (λe=>c! e) (λe=>M e))
end gY
def gY(B:bT)(k1:Int):aX Zg:=H (pJ B) λu=>gY.E1 u k1 (Sl.nil:Zg)
open gY in
instance Wz(D:bT)(k1:Int):Fc Sy cL (gY D k1):=Fc.N 171 [enc D,.int N k1] (bR 2 2 D (bu 8 λw _=>HG λC z=>D2 4 [Pv 3,Pv 4,(8,.v (.clo 208 [] [.fptr (cells w)]))] (λB=>[(3,.box [iv k1]),(4,.box [.v .bN])]) (λu=>c! u) (λu=>[(3,.box [iv k1]),(4,.box [cv u])]) (Jw w C z) (λG B=>A5 8 (bp 9 13 (o7 4 4 0 G.2 aZ) aZ)) (λB=>aZ) (λx=>c! x) (λu=>aZ)))
namespace kV
def bl(G:Zg)(d:Int)(T:Z4)(D:Zb)(B:Int):aX (Fw ((Zb)×Int) Zb Empty):=bh (_s (B<d)) (H (idx G B) λu=>H (idx T.b? B) λw=>H (gY w u) λz=>H (eH D (z:Zg)) λC=>M (.n (C,w? N (B+1)))) (M (.x D))
def W1(B:Zb)(D:Zg)(G d:Int)(T:Z4):aX ((Zb)×Int):=H (bL (λq:(Zb)×Int=>bl D G T q.1 q.2) (B,d)) (Fw.elim (λe=>M (e,0)) (λe=>c! e))
end kV
def kV(D:Z4)(B:Zg):aX ((Zb)×Int):=H (jK D B) λu=>bh (u.2==0) (kV.W1 (Sl.nil:Zb) B (len B) 0 D) (M (Sl.nil,u.2))
open kV in
instance ZZ(D:Z4)(B:Zg):Fc Sy cL (kV D B):=Fc.N 131 [enc D,enc B] (bR 2 2 D (bu 9 λC _=>ct 13 18 (bM 12 B (dO 6 (λu=>(bE [Pv 2,Ov 8,Cv 20 B,Iv 21 (len B),Iv 22 u.2] [Xb 2 D,Lb 2008 u.1])) (λw=>(0,(bE [Ov 8] [Lb 2008 w]))) (λu=>bp 8 23 (bB 8 λG _=>bB 10 λI _=>bu 2 λz _=>zb 0 35 ([z]:aY Zg) (om 0 2008 35 36 λd _=>aZ)) aZ) (λw=>aZ))) aZ))
def jC(B:Var)(D:T'):aX X':=M (C? B.name==C? D.name)
instance I7(B:Var)(D:T'):Fc Sy cL (jC B D):=Fc.M 209 [enc B,.fptr (cells D)] (aZ)
def mX(D:bY)(p1:T'):Ps:=H (idx D.t.b? p1.proc) λu=>H (gq u.h? (λz=>jC z p1)) λw=>H (idx D.values p1.proc) λB=>H (idx B w) λC=>M C
instance Mw(B:bY)(p1:T'):Fc Sy cL (mX B p1):=Fc.M 197 [enc B,enc p1] (bR 2 2 B (bR 0 3 p1 (bB 10 λu _=>ck (F:=p_ 209 [.fptr (cells p1)] (λz=>jC z p1) mV.s9 u.h?) 3 λw _=>bB 9 λC _=>bB 2 λD _=>aZ)))
def wB(B:Z4)(m1:Int):aX (bf×X'):=H (jB B 3 m1) λu=>M (u.1,u.2)
instance Us(B:Z4)(m1:Int):Fc Sy cL (wB B m1):=Fc.M 223 [enc B,.int N m1] (bR 2 2 B (bu 8 λu _=>aZ))
namespace jM
def bl(g:Zg)(i:Int)(d:Sl WF)(T:Z4)(B:Zg)(G D:Int):aX (Fw ((Zg)×Int×Int) Zg Empty):=bh (_s (D<G)) (H (idx d D) λu=>H (bh (u.kind==2) (M (!(u.k?==i))) (M U)) λC=>bh C (M (.n (B,G,w? N (D+1)))) (H (wB T u.d?) λw=>(bh w.2 (H (idx g w.1.proc) λI=>M (_s (w.1.index>I))) (M U):aX X').bind λL=>bh L (H (eH B (u.d?:Int)) λz=>M (.n (z,G,w? N (D+1)))) (M (.n (B,G,w? N (D+1)))))) (M (.x B))
def W1(g:Zg)(i:Int)(B:Zg)(D:Sl WF)(G d:Int)(T:Z4):aX ((Zg)×Int):=H (bL (λq:(Zg)×Int×Int=>bl g i D T q.1 q.2.1 q.2.2) (B,G,d)) (Fw.elim (λe=>M (e,0)) (λe=>c! e))
end jM
def jM(B:Z4)(D:Zg)(p2 G:Int):aX ((Zg)×Int):=H (dn B (Sl.row [D]:Zb) (Sl.row [p2,G]:Zg)) λu=>bh (u==0) (H (idx B.b? p2) λz=>H (idx D p2) λC=>H (iK z.c? J (M C)) λw=>jM.W1 D G (Sl.nil:Zg) w (len w) 0 B) (M (Sl.nil,u))
open jM in
instance Y9(B:Z4)(D:Zg)(p2 G:Int):Fc Sy cL (jM B D p2 G):=Fc.N 210 [enc B,enc D,.int N p2,.int N G] (bR 2 4 B (zb 9 18 ([D]:aY Zg) (ck 3 λL _=>ct 9 24 (bB 14 λi _=>bB 4 λC _=>E5 1 O U [.int N C] λw _=>bM 0 w (dO 6 (λu=>(bE [Cv 1 D,Iv 3 G,Pv 4,Ov 11,Cv 36 w,Iv 37 u.2.1,Iv 38 u.2.2] [Xb 4 B,Lb 2011 u.1])) (λz=>(0,(bE [Ov 11] [Lb 2011 z]))) (λu=>bp 8 39 (bB 7 λI _=>o7 2 13 0 I (bH 9 5 [45] 50 (ct 9 45 (bn 5) (bn 5)) λQ=>bp 2 50 aZ (bu 8 λS _=>bH 13 9 [14,60] 69 (ct 13 60 (bB 5 λT _=>bn 3) (bn 9)) λg=>bp 2 69 (om 6 2011 73 74 λd _=>aZ) aZ))) aZ) (λz=>aZ))) aZ)))
def nO(B:bY)(p1:T'):Ps:=H (jM B.t B.counts p1.proc p1.k?) λu=>M (len u.1)
instance Nd(B:bY)(p1:T'):Fc Sy cL (nO B p1):=Fc.M 198 [enc B,enc p1] (bR 2 2 B (bR 0 3 p1 (bu 13 λu _=>bM 10 u.1 aZ)))
def cz(B:bY)(p1:T')(r:(bY×T')->Ps):Ps:=bh (p1.kind==1) (M p1.n) (bh (p1.kind==2) (H (mX B p1) λL=>M L) (bh (p1.kind==3) (H (idx B.counts p1.proc) λi=>M i) (bh (p1.kind==4) (H (nO B p1) λQ=>M Q) (bh (p1.kind==5) (H (idx p1.l 0) λS=>H (r (B,S)) λT=>M (w? N (0-T))) (bh (p1.kind==6) (H (idx p1.l 0) λg=>H (r (B,g)) λm=>H (idx p1.l 1) λX=>H (r (B,X)) λj=>M (w? N (m+j))) (bh (p1.kind==7) (H (idx p1.l 0) λu=>H (r (B,u)) λw=>H (idx p1.l 1) λz=>H (r (B,z)) λC=>M (w? N (w-C))) (H (idx p1.l 0) λD=>H (r (B,D)) λG=>H (idx p1.l 1) λI=>H (r (B,I)) λd=>M (w? N (G*d)))))))))
theorem yF(r:(bY×T')->Ps)(a:eZ Sy cL 172 (λz:bY×T'=>[enc z.1,enc z.2]) (λr:Int=>[.int N r]) r U)(B:bY)(p1:T'):Le (H (cz B p1 r) λr=>M [.int N r]) (iB cL 172 [enc B,enc p1]):=(Fc.M 172 [enc B,enc p1] (bR 2 2 B (bR 0 3 p1 (bp 17 7 aZ (bp 7 11 (bu 5 λT _=>aZ) (bp 7 16 (bB 7 λg _=>aZ) (bp 7 24 (bu 5 λm _=>aZ) (bp 7 29 (dK 6 33 (Pred.eT p1.l) (bB 0 λG _=>ck (F:=Fc.of (B,G) a) 1 λX _=>aZ)) (bp 7 38 (dK 6 42 (Pred.eT p1.l) (bB 0 λI _=>ck (F:=Fc.of (B,I) a) 1 λj _=>dK 3 48 (Pred.eT p1.l) (bB 0 λd _=>ck (F:=Fc.of (B,d) a) 1 λZ _=>aZ))) (bp 7 53 (dK 6 57 (Pred.eT p1.l) (bB 0 λu _=>ck (F:=Fc.of (B,u) a) 1 λL _=>dK 3 63 (Pred.eT p1.l) (bB 0 λw _=>ck (F:=Fc.of (B,w) a) 1 λi _=>aZ))) (dK 9 70 (Pred.eT p1.l) (bB 0 λC _=>ck (F:=Fc.of (B,C) a) 1 λQ _=>dK 3 76 (Pred.eT p1.l) (bB 0 λD _=>ck (F:=Fc.of (B,D) a) 1 λS _=>aZ)))))))))))):Fc Sy cL (cz B p1 r)).F.h ()
def eP(B:bY)(p1:T'):Ps:=cI (λr(z:bY×T')=>cz z.1 z.2 r) 100000 (B,p1)
instance NB(B:bY)(p1:T'):Fc Sy cL (eP B p1):=Fc.of (B,p1) (eZ.fix (A:=λz:bY×T'=>[enc z.1,enc z.2]) (E:=λr:Int=>[.int N r]) (sc:=U) (b:=(λr(z:bY×T')=>cz z.1 z.2 r)) p? (λ_ _=>rfl) (λr a z=>yF r a z.1 z.2) 100000)
namespace eN
def J1(j:Int)(g:X')(D:bY)(B:T')(r:(bY×T')->aX X'):aX X':=bh g (M (B.kind==13)) (bh (j==15) (H (idx B.l 0) λu=>H (r (D,u)) λw=>M (!w)) (bh (j==16) (H (idx B.l 0) λz=>H (r (D,z)) λC=>(bh C (H (idx B.l 1) λG=>H (r (D,G)) λI=>M I) (M O):aX X').bind λd=>M d) (H (idx B.l 0) λL=>H (r (D,L)) λi=>(bh i (M U) (H (idx B.l 1) λQ=>H (r (D,Q)) λS=>M S):aX X').bind λT=>M T)))
theorem ja(r:(bY×T')->aX X')(a:eZ Sy cL 132 (λz:bY×T'=>[enc z.1,enc z.2]) (λr:X'=>[.bool r]) r U)(T:Int)(G:X')(B:bY)(D:T'):Le (H (J1 T G B D r) (λr=>M [.bool r])) (bZ Sy cL (oR (tr Tx 132)) (o9 (tb Tx 132) [1,0,1,0,1,1,1,1,1,1,1,1,1,0] [] (bE [Pv 2,Pv 3,Iv 6 T,Bv 67 G] [Xb 2 B,Xb 3 D]))):=bp 0 67 aZ (bp 7 73 (dK 6 77 (Pred.eT D.l) (bB 0 λC _=>ck (F:=Fc.of (B,C) a) 1 λQ _=>aZ)) (bp 7 82 (dK 6 86 (Pred.eT D.l) (bB 0 λI _=>ck (F:=Fc.of (B,I) a) 1 λS _=>BW 1 7 [96,89] (λu=>(bE [Bv 67 O,Bv 73 O,Bv 82 U,Bv 97 u] [Xb 2 B,Xb 3 D])) (bp 1 90 (dK 3 93 (Pred.eT D.l) (bB 0 λd _=>ck (F:=Fc.of (B,d) a) 1 λg _=>bn 1)) (bn 7)) λu=>aZ)) (dK 9 100 (Pred.eT D.l) (bB 0 λL _=>ck (F:=Fc.of (B,L) a) 1 λj _=>BW 1 7 [110,103] (λw=>(bE [Bv 67 O,Bv 73 O,Bv 82 O,Bv 111 w] [Xb 2 B,Xb 3 D])) (bp 1 104 (bn 7) (dK 3 107 (Pred.eT D.l) (bB 0 λi _=>ck (F:=Fc.of (B,i) a) 1 λX _=>bn 1))) λw=>aZ))))
end eN
def cU(B:bY)(p1:T')(r:(bY×T')->aX X'):aX X':=bh (p1.kind==9) (H (idx p1.l 0) λd=>H (eP B d) λL=>H (idx p1.l 1) λi=>H (eP B i) λQ=>M (L==Q)) (bh (p1.kind==10) (H (idx p1.l 0) λS=>H (eP B S) λT=>H (idx p1.l 1) λg=>H (eP B g) λj=>M (!(T==j))) (bh (p1.kind==11) (H (idx p1.l 0) λX=>H (eP B X) λu=>H (idx p1.l 1) λw=>H (eP B w) λz=>M (_s (u<z))) (bh (p1.kind==12) (H (idx p1.l 0) λC=>H (eP B C) λD=>H (idx p1.l 1) λG=>H (eP B G) λI=>M (_s (D<=I))) (bh (p1.kind==13) (eN.J1 p1.kind U B p1 r) (eN.J1 p1.kind (p1.kind==14) B p1 r)))))
open eN in
theorem zu(r:(bY×T')->aX X')(a:eZ Sy cL 132 (λz:bY×T'=>[enc z.1,enc z.2]) (λr:X'=>[.bool r]) r U)(B:bY)(p1:T'):Le (H (cU B p1 r) λr=>M [.bool r]) (iB cL 132 [enc B,enc p1]):=(Fc.M 132 [enc B,enc p1] (bR 2 2 B (bR 0 3 p1 (bp 17 7 (dK 6 11 (Pred.eT p1.l) (bB 0 λL _=>ck 1 λi _=>dK 3 17 (Pred.eT p1.l) (bB 0 λQ _=>ck 1 λS _=>aZ))) (bp 7 22 (dK 6 26 (Pred.eT p1.l) (bB 0 λT _=>ck 1 λg _=>dK 3 32 (Pred.eT p1.l) (bB 0 λm _=>ck 1 λX _=>aZ))) (bp 7 37 (dK 6 41 (Pred.eT p1.l) (bB 0 λj _=>ck 1 λu _=>dK 3 47 (Pred.eT p1.l) (bB 0 λw _=>ck 1 λC _=>aZ))) (bp 7 52 (dK 6 56 (Pred.eT p1.l) (bB 0 λD _=>ck 1 λG _=>dK 3 62 (Pred.eT p1.l) (bB 0 λI _=>ck 1 λd _=>aZ))) (bp 8 67 (kn 4 (ja r a p1.kind U B p1)) (kn 7 (ja r a p1.kind (p1.kind==14) B p1))))))))):Fc Sy cL (cU B p1 r)).F.h ()
def eN(B:bY)(p1:T'):aX X':=cI (λr(z:bY×T')=>cU z.1 z.2 r) 100000 (B,p1)
instance OK(B:bY)(p1:T'):Fc Sy cL (eN B p1):=Fc.of (B,p1) (eZ.fix (A:=λz:bY×T'=>[enc z.1,enc z.2]) (E:=λr:X'=>[.bool r]) (sc:=U) (b:=(λr(z:bY×T')=>cU z.1 z.2 r)) p? (λ_ _=>rfl) (λr a z=>zu r a z.1 z.2) 100000)
namespace kO
def bl(i d:Zb)(T:Int)(G:Z4)(g:T')(B:Sl X')(D:Int):aX (Fw ((Sl X')×Int) (Sl X') ((Zb)×(Sl X')×Int)):=bh (_s (D<T)) (H (idx d D) λw=>H (kV G w) λu=>bh (u.2==0) (H (eN (⟨G,w,u.1⟩:bY) g) λz=>H (eH B (z:X')) λC=>M (.n (C,w? N (D+1)))) (M (.r ((Sl.nil:Zb),(Sl.nil:Sl X'),u.2)))) (M (.x B))
def W1(i:Zb)(B:Sl X')(D:Zb)(G d:Int)(T:Z4)(g:T'):aX ((Zb)×(Sl X')×Int):=H (bL (λq:(Sl X')×Int=>bl i D G T g q.1 q.2) (B,d)) (Fw.elim (λe=>M (i,e,0)) (λe=>M (e.1,e.2.1,e.2.2)))
end kO
def kO(B:Z4)(p1:T'):aX ((Zb)×(Sl X')×Int):=H (fV B p1) λw=>bh (w==0) (H (tC p1 2) λz=>bh (z==0) (H (mG p1) λC=>bh C (M (Sl.nil,(Sl.nil:Sl X'),15)) (H (qX B) λu=>bh (u.2==0) (kO.W1 u.1 (Sl.nil:Sl X') u.1 (len u.1) 0 B p1) (M (Sl.nil,(Sl.nil:Sl X'),u.2)))) (M (Sl.nil,(Sl.nil:Sl X'),z))) (M (Sl.nil,(Sl.nil:Sl X'),w))
open kO in
abbrev HN(D:Trace)(p1:Pred):S6 Sy cL (λz:(Sl (Sl Int))=>enc z) (kO D p1):=S6.mk' 86 [enc D,enc p1] (bR 2 2 D (bR 0 3 p1 (bu 10 λI _=>ct 9 20 (bu 7 λd _=>ct 9 25 (bu 7 λL _=>bp 2 28 aZ (bu 6 λw _=>ct 14 35 (bM 12 w.1 (dM 6 (λB=>(bE [Pv 2,Pv 3,Cv 9 w.1,Ov 11,Cv 37 w.1,Iv 38 (len w.1),Iv 39 B.2] [Xb 2 D,Xb 3 p1,Lb 2011 B.1])) (λu=>(0,(bE [Cv 9 w.1,Ov 11] [Lb 2011 u]))) (λu=>(bE [Cv 4 u.1,Ov 5,Iv 6 u.2.2] [Lb 2005 u.2.1])) (λB=>bp 8 40 (bB 7 λC _=>bu 8 λG _=>ct 14 50 (abz 8 (⟨D,C,G.1⟩:bY) [enc D,enc C,enc G.1] [.bN,.bN,.bN] [(0,1),(1,1),(2,1)] (by simp only[GA,JD,qW,SL,N6,RE,SQ];rfl) Y (bu 1 λg _=>om 1 2011 59 60 λQ _=>aZ)) aZ) aZ) (λu=>aZ) (λu=>aZ))) aZ)) aZ) aZ)))
def oG(B:Z4)(p1:T'):aX ((Sl X')×Int):=H (kO B p1) λu=>M (u.2.1,u.2.2)
abbrev E7(B:Trace)(p1:Pred):SX Sy cL (oG B p1):=SX.mk' 49 [enc B,enc p1] (bR 2 2 B (bR 0 3 p1 (abi 8 12 (HN B p1) λu _=>aZ)))
namespace gH
def bl(d:Sl X')(G:Int)(B:Sl X')(D:Int):aX (Fw ((Sl X')×Int) (Sl X') Empty):=bh (_s (D<G)) (H (idx d D) λu=>H (Sl.iE B D) λw=>H (Sl.put B w ((!u):X')) λz=>M (.n (z,w? N (D+1)))) (M (.x B))
def W1(B d:Sl X')(D G:Int):aX (Sl X'):=H (bL (λq:(Sl X')×Int=>bl d D q.1 q.2) (B,G)) (Fw.elim (λe=>M e) (λe=>c! e))
end gH
def gH(B:Sl X'):aX (Sl X'):=H (jQ (len B) (O:X')) λu=>gH.W1 u B (len B) 0
open gH in
theorem Bg:nG Sy cL 38 (λB:Sl X'=>[enc B]) (λz=>gH z):=nG.mk' (pI (Tx 38)) (λB=>bM 8 B (A1 0 8 λD _=>bM 7 B (dO 6 (λu=>(bE [Ov 3,Cv 9 B,Iv 10 (len B),Iv 11 u.2] [Lb 2003 u.1])) (λw=>(0,(bE [Ov 3] [Lb 2003 w]))) (λu=>bp 8 12 (bB 8 λC _=>jx N 10 2003 λG _=>r_ 0 2003 (.bool (!C)) λI _=>aZ) aZ) (λw=>aZ))))
namespace gL
def bl(s0:Sl X')(D:X')(G:Int)(B:Int):aX (Fw Int Unit Int):=bh (_s (B<G)) (H (idx s0 B) λu=>bh (D==u) (M (.r B)) (M (.n (w? N (B+1))))) (M (.x ()))
def W1(s0:Sl X')(B:X')(D G:Int):Ps:=H (bL (λq:Int=>bl s0 B D q) G) (Fw.elim (λe=>M (-1)) (λe=>M e))
end gL
def gL(s0:Sl X')(B:X'):Ps:=gL.W1 s0 B (len s0) 0
open gL in
instance Rr(s0:Sl X')(B:X'):Fc Sy cL (gL s0 B):=Fc.M 169 [enc s0,.bool B] (bM 9 s0 (dM 5 (λw=>(bE [Cv 0 s0,Bv 1 B,Iv 7 (len s0),Iv 8 w] [])) (λu=>(0,(bE [] []))) (λu=>(bE [Iv 4 u] [])) (λw=>bp 7 9 (bB 16 λz _=>bp 4 16 aZ aZ) aZ) (λu=>aZ) (λu=>aZ)))
def ko(s0:Sl X')(B:X'):aX X':=H (gL s0 B) λu=>M (_s (u>=0))
instance Nz(s0:Sl X')(B:X'):Fc Sy cL (ko s0 B):=Fc.M 127 [enc s0,.bool B] (bu 9 λu _=>aZ)
def rK(B:Sl X'):aX X':=H (ko B U) λu=>M u
instance WS(B:Sl X'):Fc Sy cL (rK B):=Fc.M 76 [enc B] (bu 8 λu _=>aZ)
def sZ(B:Sl X'):aX X':=(bh (_s ((len B)>0)) (H (ko B O) λu=>M (!u)) (M O):aX X').bind λw=>M w
instance YY(B:Sl X'):Fc Sy cL (sZ B):=Fc.M 77 [enc B] (bM 8 B (bH 2 4 [0,6] 10 (bp 2 6 (bu 1 λu _=>bn 2) (bn 4)) λw=>aZ))
def iJ(G:Int)(B:Sl X')(T:Int)(d:Sl X'):aX X':=bh (T==18) ((idx d G).bind λI=>(bh I (M U) ((rK B).bind λL=>M L):aX X').bind λi=>M i) (bh (T==19) ((idx d G).bind λQ=>(bh Q (M U) ((sZ B).bind λS=>M S):aX X').bind λg=>M g) (bh (T==20) ((idx d G).bind λW=>(bh W ((bh ((len B)==0) (M U) ((rK B).bind λX=>M X):aX X').bind λY=>M Y) (M O):aX X').bind λu=>M u) ((idx d G).bind λw=>(bh w ((bh ((len B)==0) (M U) ((sZ B).bind λz=>M z):aX X').bind λC=>M C) (M O):aX X').bind λD=>M D)))
instance J_(D:Int)(B:Sl X')(G:Int)(d:Sl X'):Fc Sy cL (iJ D B G d):=Fc.M 75 [.int N D,enc B,.fptr (cells G),.fptr (cells d)] (bp 18 8 (bB 5 λL _=>bH 2 3 [1,14] 17 (bp 2 14 (bn 3) (bu 1 λi _=>bn 1)) λQ=>aZ) (bp 7 18 (bB 5 λS _=>bH 2 3 [1,24] 27 (bp 2 24 (bn 3) (bu 1 λT _=>bn 1)) λg=>aZ) (bp 7 28 (bB 5 λW _=>bH 2 8 [1,34] 42 (bp 2 34 (bM 1 B (bH 2 3 [1,38] 41 (bp 2 38 (bn 3) (bu 1 λX _=>bn 1)) λY=>bn 1)) (bn 8)) λu=>aZ) (bB 8 λw _=>bH 2 8 [1,47] 55 (bp 2 47 (bM 1 B (bH 2 3 [1,51] 54 (bp 2 51 (bn 3) (bu 1 λz _=>bn 1)) λC=>bn 1)) (bn 8)) λI=>aZ))))
namespace dP
def bK(g:bF)(D:Sl X')(i:Int)(d:Zg)(T:Int)(B:Sl X')(G:Int)(p1:(Int×(Sl X'))->aX X'):aX (Fw ((Sl X')×Int) (Sl X') Empty):=bh (_s (G<T)) (H (idx d G) λu=>H (Sl.iE D u) λw=>H (Sl.get D w) λz=>H (eH B (z:X')) λC=>M (.n (C,w? N (G+1)))) (M (.x B))
def W2(d:bF)(B:Sl X')(G:Int)(D:Sl X')(T:Zg)(g i:Int)(p1:(Int×(Sl X'))->aX X'):aX (Fw ((Sl X')×Int) (Sl X') Empty):=H (bL (λq:(Sl X')×Int=>bK d B G T g q.1 q.2 p1) (D,i)) (Fw.elim (λe=>H (p1 (G,e)) λu=>H (Sl.iE B G) λw=>H (Sl.put B w (u:X')) λz=>M (.n (z,w? N (G-1)))) (λe=>c! e))
def bl(D:bF)(B:Sl X')(G:Int)(p1:(Int×(Sl X'))->aX X'):aX (Fw ((Sl X')×Int) (Sl X') Empty):=bh (_s (G>=0)) (H (idx D.next G) λu=>W2 D B G (Sl.nil:Sl X') u (len u) 0 p1) (M (.x B))
def W1(D:bF)(B:Sl X')(G:Int)(p1:(Int×(Sl X'))->aX X'):aX (Sl X'):=H (bL (λq:(Sl X')×Int=>bl D q.1 q.2 p1) (B,G)) (Fw.elim (λe=>M e) (λe=>c! e))
end dP
def dP(B:bF)(p1:(Int×(Sl X'))->aX X'):aX (Sl X'):=H (jQ (len B.l) (O:X')) λu=>dP.W1 B u (w? N ((len B.l)-1)) p1
open dP in
theorem yf(g1:Y')(e1:So)(p1:(Int×(Sl X'))->aX X')(a:mV Sy cL g1 [] e1 (λz:Int×(Sl X')=>[.int N z.1,enc z.2]) (λr:X'=>[.bool r]) p1 U)(B:bF):nG Sy cL 74 (λ_:Unit=>[.fptr (cells B),.clo g1 [] e1]) (λ_=>dP B p1):=nG.mk' (pI (Tx 74)) (λ_=>bM 11 B.l (A1 0 15 λL _=>bM 10 B.l (dO 7 (λu=>(bE [Kv 0 B,(1,.v (.clo g1 [] e1)),Ov 5,Iv 6 u.2] [Lb 2005 u.1])) (λG=>(0,(bE [Ov 5] [Lb 2005 G]))) (λu=>bp 9 23 (bB 18 λw _=>bM 1 w (dO 7 (λC=>(bE [Kv 0 B,(1,.v (.clo g1 [] e1)),Ov 5,Iv 6 u.2,Ov 7,Cv 32 w,Iv 33 (len w),Iv 34 C.2] [Lb 2005 u.1,Lb 2007 C.1])) (λD=>(2,(bE [Kv 0 B,(1,.v (.clo g1 [] e1)),Ov 5,Iv 6 u.2,Ov 7] [Lb 2005 u.1,Lb 2007 D]))) (λC=>bp 9 35 (bB 7 λi _=>jx N 8 2005 λQ _=>rB 0 2005 0 1 O (λI=>.bool I) λI _=>om 1 2007 43 44 λS _=>aZ) aZ) (λD=>zW 9 a.f (u.2,D) λd _=>jx N 0 2005 λT _=>r_ 0 2005 (.bool d) λg _=>aZ))) aZ) (λG=>aZ))))
def nH(D:bF)(B:Int)(G:Sl X'):aX (Sl X'):=(H (dP D (λz=>iJ z.1 z.2 B G)) Sl.whole).bind λu=>M u
theorem yu(G:bF)(B:Int)(D:Sl X'):nG Sy cL 39 (λ_:Unit=>[.fptr (cells G),.int N B,enc D]) (λ_=>nH G B D):=nG.mk' (pI (Tx 39)) (λ_=>bR 3 5 D (Ar 9 9 (yf 75 [.fptr (cells B),.fptr (cells D)] (λz=>iJ z.1 z.2 B D) mV.s9 G) () λu _=>aZ))
namespace dg
def bK(G:Sl X')(g:Int)(j:T')(D:Sl X')(B:Int)(r:(bF×T')->aX (Sl X')):aX (Fw ((Sl X')×Int) (Sl X') Empty):=bh (_s (B<g)) (H (Sl.iE G B) λX=>H (Sl.get G X) λu=>bh (j.kind==16) (H (Sl.iE D B) λw=>H (Sl.get D w) λz=>H (bh z (M u) (M O)) λC=>H (Sl.iE D B) λI=>H (Sl.put D I (C:X')) λd=>M (.n (d,w? N (B+1)))) (H (Sl.iE D B) λL=>H (Sl.get D L) λi=>H (bh i (M U) (M u)) λQ=>H (Sl.iE D B) λS=>H (Sl.put D S (Q:X')) λT=>M (.n (T,w? N (B+1))))) (M (.x D))
def W2(T B:Sl X')(D G:Int)(d:T')(r:(bF×T')->aX (Sl X')):aX (Sl X'):=H (bL (λq:(Sl X')×Int=>bK B D d q.1 q.2 r) (T,G)) (Fw.elim (λe=>M e) (λe=>c! e))
def J1(D:bF)(d:Sl X')(G:X')(B:T')(r:(bF×T')->aX (Sl X')):aX (Sl X'):=bh G ((idx B.l 1).bind λw=>((r (D,w)).bind Sl.whole).bind λu=>dg.W2 d u (len u) 0 B r) (((nH D B.kind d).bind Sl.whole).bind λz=>M z)
theorem ja(r:(bF×T')->aX (Sl X'))(a:nG Sy cL 24 (λz:bF×T'=>[.fptr (cells z.1),enc z.2]) r)(D:bF)(T:Sl X')(g:X')(B:T'):Le ((J1 D T g B r).bind (λr=>M (cH r))) (bZ Sy cL (E6 (tr Tx 24)) (o9 (tb Tx 24) [1,1,1,0,1,0,1,1,1,0,0] [] (bE [Kv 0 D,Pv 3,Ov 7,Bv 35 g] [Xb 3 B,Lb 2007 T]))):=bp 0 35 (dK 7 40 (Pred.eT B.l) (bB 0 λS _=>Ar 1 43 a (D,S) λG _=>B2 0 43 G (dO 7 (λI=>(bE [Pv 3,Ov 7,Ov 43,Iv 44 (len G),Iv 45 I.2] [Xb 3 B,Lb 2007 I.1,Lb 2043 G])) (λL=>(1,(bE [Ov 7] [Lb 2007 L]))) (λI=>bp 9 46 (jx N 8 2043 λb _=>rB 0 2043 0 1 O (λu=>.bool u) λu _=>bp 11 52 (jx N 6 2007 λi _=>rB 0 2007 0 1 O (λw=>.bool w) λw _=>bH 1 2 [9,59] 61 (bp 1 59 (bn 2) (bn 2)) λj=>jx N 0 2007 λW _=>r_ 0 2007 (.bool j) λX _=>aZ) (jx N 6 2007 λY _=>rB 0 2007 0 1 O (λC=>.bool C) λC _=>bH 1 2 [9,69] 71 (bp 1 69 (bn 2) (bn 2)) λQ=>jx N 0 2007 λZ _=>r_ 0 2007 (.bool Q) λc _=>aZ)) aZ) (λL=>aZ)))) (Ar 11 79 (yu D B.kind T) () λd _=>aZ)
end dg
def dc(B:bF)(p1:T')(r:(bF×T')->aX (Sl X')):aX (Sl X'):=(mG p1).bind λw=>bh w ((idx p1.l 0).bind λz=>((r (B,z)).bind Sl.whole).bind λu=>bh (p1.kind==15) (((gH u).bind Sl.whole).bind λC=>M C) (bh (p1.kind==16) (dg.J1 B u U p1 r) (dg.J1 B u (p1.kind==17) p1 r))) (((oG B.t p1).bind zy).bind λD=>M D.1)
open dg in
theorem xH(r:(bF×T')->aX (Sl X'))(a:nG Sy cL 24 (λz:bF×T'=>[.fptr (cells z.1),enc z.2]) r)(B:bF)(p1:T'):∀s,dc B p1 r=some s->∃e m',cL 24 ([.fptr (cells B),enc p1].map .v) []=some ([.own e],m')/\bk m' e=some (cH s):=(nG.mk' (pI (Tx 24)) (λ_=>bR 2 3 p1 (bu 7 λC _=>ct 3 12 (dK 8 25 (Pred.eT p1.l) (bB 0 λw _=>Ar 1 28 a (B,w) λu _=>bp 17 31 (Ar 5 34 Bg u λD _=>aZ) (bp 8 35 (kn 5 (ja r a B u true p1)) (kn 8 (ja r a B u (p1.kind==17) p1))))) (acL (E7 B.t p1) 8 19 λG _=>aZ))):nG Sy cL 24 (λ_:Unit=>[.fptr (cells B),enc p1]) (λ_=>dc B p1 r)).h ()
def dg(B:bF)(p1:T'):aX (Sl X'):=cI (λr(z:bF×T')=>dc z.1 z.2 r) 100000 (B,p1)
theorem xK:nG Sy cL 24 (λz:bF×T'=>[.fptr (cells z.1),enc z.2]) (λz:bF×T'=>dg z.1 z.2):=nG.fix (A:=λz:bF×T'=>[.fptr (cells z.1),enc z.2]) (b:=(λr(z:bF×T')=>dc z.1 z.2 r)) p? p? (by intro x;rfl) (λr a z=>xH r a z.1 z.2) 100000
def ji(D:Z4)(p1:T'):aX ((Sl X')×Int):=H (qF D p1) λw=>bh (w==0) (H (dU D) λu=>bh (u.2==0) (H (u.1) λz=>(H (dg z p1) Sl.whole).bind λB=>M (B,0)) (M (Sl.nil,u.2))) (M (Sl.nil,w))
instance Wb(B:Z4)(p1:T'):Fc Sy cL (ji B p1):=Fc.N 7 [enc B,enc p1] (bR 2 2 B (bR 0 3 p1 (bu 9 λu _=>ct 9 13 (bu 6 λw _=>ct 14 21 (abQ 7 (λC=>(bE [Iv 6 u,Bv 13 O,Iv 8 w.2,Bv 21 O,Cv 23 C,Cv 24 p1] [Xb 2 B,Xb 3 p1])) λz _=>Ar 0 25 xK (z,p1) λD _=>aZ) aZ) aZ)))
def tI(B:Z4)(D:Zg):aX X':=H (dn B (Sl.row [D]:Zb) (Sl.nil:Zg)) λu=>M (u==0)
instance Wa(B:Z4)(D:Zg):Fc Sy cL (tI B D):=Fc.M 106 [enc B,enc D] (bR 2 2 B (zb 7 7 ([D]:aY Zg) (ck 0 λu _=>aZ)))
def sD(B:Zg)(D:Z4):aX X':=H (tI D B) λu=>M (!u)
instance Ub(B:Zg)(D:Z4):Fc Sy cL (sD B D):=Fc.M 105 [enc B,.fptr (cells D)] (bu 9 λu _=>aZ)
def vt(B:Z4)(D:Zb):Ps:=H (cu B) λu=>bh u (H (jT D (λz=>sD z B)) λw=>bh w (M 18) (M 0)) (M 1)
instance ZL(B:Z4)(D:Zb):Fc Sy cL (vt B D):=Fc.M 56 [enc B,enc D] (bR 2 2 B (bu 7 λu _=>ct 3 7 (ck (F:=rP 105 [.fptr (cells B)] (λz=>sD z B) mV.s9 D) 8 λw _=>bp 2 10 aZ aZ) aZ))
def vv(B D:Zg):aX X':=H (fW D B) λu=>M u
instance Zf(B D:Zg):Fc Sy cL (vv B D):=Fc.M 59 [enc B,.fptr (cells D)] (bu 9 λu _=>aZ)
def zM(D:Z4)(G:Zg):aX (Int×Int):=H (vt D (Sl.row [G]:Zb)) λw=>bh (w==0) (H (oq D) λu=>bh (u.2==0) (H (fQ u.1 (λz=>vv z G)) λB=>M (B,0)) (M (0,u.2))) (M (0,w))
instance ab3(D:Z4)(B:Zg):Fc Sy cL (zM D B):=Fc.M 27 [enc D,enc B] (bR 2 2 D (bR 0 3 B (zb 9 11 ([B]:aY Zg) (ck 0 λw _=>ct 9 14 (bu 6 λu _=>ct 14 22 (ck (F:=tM 59 [.fptr (cells B)] (λz=>vv z B) mV.s9 u.1) 7 λC _=>aZ) aZ) aZ))))
namespace fS
def J1(G:Zg)(d:Int)(B:Z4)(D:T'):aX (X'×Int):=bh (d==0) (H (jK B G) λz=>bh (z.2==0) (H (ji B D) λu=>bh (u.2==0) (H (zM B G) λw=>bh (w.2==0) (H (idx u.1 w.1) λC=>M (C,0)) (M (O,w.2))) (M (O,u.2))) (M (O,z.2))) (M (O,d))
end fS
def fS(B:Z4)(D:Zg)(p2:T'):aX (X'×Int):=H (fV B p2) λu=>H (bh (u==1) (M O) (M (!((len D)==(len B.b?))))) λw=>bh w (fS.J1 D 1 B p2) (fS.J1 D u B p2)
open fS in
instance UM(B:Z4)(D:Zg)(p2:T'):Fc Sy cL (fS B D p2):=Fc.M 8 [enc B,enc D,enc p2] (bR 2 3 B (bR 0 5 p2 (bu 8 λG _=>bH 9 7 [16] 23 (ct 9 16 (bn 7) (bM 1 D (bM 2 B.b? (bn 2)))) λI=>bp 2 23 (o_ 6 (ct 7 25 (bu 8 λu _=>ct 12 34 (bu 7 λw _=>ct 14 43 (bu 7 λz _=>ct 14 52 (bB 7 λC _=>aZ) aZ) aZ) aZ) aZ)) (o_ 4 (ct 7 25 (bu 8 λu _=>ct 12 34 (bu 7 λw _=>ct 14 43 (bu 7 λz _=>ct 14 52 (bB 7 λC _=>aZ) aZ) aZ) aZ) aZ)))))
def pN(B:Z4)(p1:T'):aX (X'×Int):=H (ji B p1) λu=>bh (u.2==0) (H (idx u.1 0) λw=>M (w,0)) (M (O,u.2))
instance Po(B:Z4)(p1:T'):Fc Sy cL (pN B p1):=Fc.M 9 [enc B,enc p1] (bR 2 2 B (bR 0 3 p1 (bu 8 λu _=>ct 14 15 (bB 6 λw _=>aZ) aZ)))
def rJ(B:Int):aX X':=H (bh (_s (B>=65)) (M (_s (B<=90))) (M O)) λu=>(bh u (M U) (H (bh (_s (B>=97)) (M (_s (B<=122))) (M O)) λw=>M w):aX X').bind λz=>M z
instance XJ(B:Int):Fc Sy cL (rJ B):=Fc.M 194 [.int .u8 B] (bH 10 3 [5] 8 (bp 10 5 (bn 3) (bn 3)) λu=>bH 1 7 [0,9] 16 (bp 1 9 (bn 7) (bH 3 3 [0,12] 15 (bp 3 12 (bn 3) (bn 3)) λw=>bn 1)) λz=>aZ)
def vQ(B:Int):aX X':=H (bh (_s (B>=48)) (M (_s (B<=57))) (M O)) λu=>M u
instance YZ(B:Int):Fc Sy cL (vQ B):=Fc.M 195 [.int .u8 B] (bH 10 3 [0,5] 8 (bp 10 5 (bn 3) (bn 3)) λu=>aZ)
namespace jm
def bl(s0:U')(i3:Int):aX (Fw Int Unit Unit):=bh (_s (i3<((ByteArray.size s0:Nat):Int))) (H (nF s0 i3) λz=>H (rJ z) λB=>(bh B (M O) (H (nF s0 i3) λC=>H (vQ C) λD=>M (!D)):aX X').bind λG=>(bh G (H (nF s0 i3) λu=>M (!(u==95))) (M O):aX X').bind λw=>bh w (M (.r ())) (M (.n (w? N (i3+1))))) (M (.x ()))
def W1(s0:U')(i3:Int):aX X':=H (bL (λq:Int=>bl s0 q) i3) (Fw.elim (λe=>M U) (λe=>M O))
end jm
def jm(s0:U'):aX X':=H (bh (_s (((ByteArray.size s0:Nat):Int)<1)) (M U) (M (_s (((ByteArray.size s0:Nat):Int)>16)))) λu=>(bh u (M U) (H (nF s0 0) λw=>H (rJ w) λz=>M (!z)):aX X').bind λB=>bh B (M O) (jm.W1 s0 1)
open jm in
instance ZW(s0:U'):Fc Sy cL (jm s0):=Fc.M 159 [.str s0] (bH 12 4 [7] 11 (bp 12 7 (bn 4) (bn 4)) λC=>bH 1 5 [12] 17 (bp 1 12 (bn 5) (Dc 1 N λD _=>bu 0 λG _=>bn 2)) λI=>bp 2 17 aZ (dM 11 (λw=>(bE [(0,.v (.str s0)),Iv 3 w] [])) (λu=>(0,(bE [] []))) (λu=>(bE [Bv 2 O] [])) (λw=>bp 10 21 (Dc 9 N λd _=>bu 0 λL _=>bH 2 6 [29] 35 (ct 2 29 (bn 6) (Dc 2 N λg _=>bu 0 λQ _=>bn 2)) λS=>bH 1 5 [36] 41 (bp 1 36 (Dc 2 N λz _=>bn 2) (bn 5)) λB=>bp 2 41 aZ aZ) aZ) (λu=>aZ) (λu=>aZ)))
def sO(B:Int):aX X':=H (bh (_s (B>=(-1073741824))) (M (_s (B<=1073741824))) (M O)) λu=>M u
instance X9(B:Int):Fc Sy cL (sO B):=Fc.M 160 [.int N B] (bH 10 3 [0,5] 8 (bp 10 5 (bn 3) (bn 3)) λu=>aZ)
namespace eX
def dQ(G:Int)(B:bT)(D:Int):aX (Fw Int Unit Unit):=bh (_s (D<G)) (H (idx B.h? D) λu=>H (idx B.h? G) λw=>bh (C? u.name==C? w.name) (M (.r ())) (M (.n (w? N (D+1))))) (M (.x ()))
def W3(D G:Int)(B:bT):aX (Fw Int Unit Int):=H (bL (λq:Int=>dQ D B q) G) (Fw.elim (λe=>H (idx B.h? D) λu=>H (sO u.init_) λw=>bh w (M (.n (w? N (D+1)))) (M (.r 2))) (λe=>M (.r 13)))
def bK(B:bT)(D:Int):aX (Fw Int Unit Int):=bh (_s (D<(len B.h?))) (H (idx B.h? D) λu=>H (jm u.name) λw=>bh w (W3 D 0 B) (M (.r 13))) (M (.x ()))
def W2(D:Int)(B:bT):Ps:=H (bL (λq:Int=>bK B q) D) (Fw.elim (λe=>bh (_s ((len B.c?)>64)) (M 5) (M 0)) (λe=>M e))
def bl(p1:Int)(B:Z4)(D:bT)(G:Int):aX (Fw Int Unit Unit):=bh (_s (G<p1)) (H (idx B.b? G) λu=>bh (C? u.name==C? D.name) (M (.r ())) (M (.n (w? N (G+1))))) (M (.x ()))
def W1(p1 G:Int)(D:Z4)(B:bT):Ps:=H (bL (λq:Int=>bl p1 D B q) G) (Fw.elim (λe=>bh (_s ((len B.h?)>8)) (M 5) (eX.W2 0 B)) (λe=>M 13))
end eX
def eX(B:Z4)(p1:Int):Ps:=H (idx B.b? p1) λu=>H (jm u.name) λw=>bh w (eX.W1 p1 0 B u) (M 13)
open eX in
instance aar(d:Z4)(p1:Int):Fc Sy cL (eX d p1):=Fc.M 114 [enc d,.int N p1] (bR 2 2 d (bB 8 λu _=>o7 2 5 0 u (bu 7 λI _=>ct 3 17 (dM 11 (λD=>(bE [Iv 1 p1,Pv 2,Pv 5,Iv 6 D] [Xb 2 d,Xb 5 u])) (λB=>(0,(bE [Pv 5] [Xb 5 u]))) (λB=>(bE [Iv 4 13] [])) (λD=>bp 9 20 (bB 10 λL _=>bp 7 31 aZ aZ) aZ) (λB=>bM 7 u.h? (bp 3 35 aZ (dM 11 (λw=>(bE [Pv 5,Iv 7 w] [Xb 5 u])) (λz=>(2,(bE [Pv 5] [Xb 5 u]))) (λz=>(bE [Iv 4 z] [])) (λw=>bM 7 u.h? (bp 3 40 (bB 11 λi _=>bu 2 λQ _=>ct 3 50 (dM 11 (λG=>(bE [Pv 5,Iv 7 w,Iv 8 G] [Xb 5 u])) (λC=>(4,(bE [Pv 5,Iv 7 w] [Xb 5 u]))) (λC=>(bE [Iv 4 13] [])) (λG=>bp 9 53 (bB 10 λS _=>bB 5 λT _=>bp 5 68 aZ aZ) aZ) (λC=>bB 7 λg _=>bu 2 λj _=>ct 3 76 aZ aZ) (λC=>aZ)) aZ) aZ)) (λz=>bM 7 u.c? (bp 3 80 aZ aZ)) (λz=>aZ)))) (λB=>aZ)) aZ)))
namespace eY
def dQ(p1 k8:Int)(d:Z4)(D:WF)(G:Assign)(B:Int):aX (Fw Int Unit Unit):=bh (_s (B<k8)) (H (idx D.assign B) λu=>bh (u.var==G.var) (M (.r ())) (M (.n (w? N (B+1))))) (M (.x ()))
def W3(p1 k8 B:Int)(D:Z4)(G:WF)(d:Assign):aX (Fw Int Unit Int):=H (bL (λq:Int=>dQ p1 k8 D G d q) B) (Fw.elim (λe=>M (.n (w? N (k8+1)))) (λe=>M (.r 8)))
def bK(p1:Int)(D:Z4)(B:WF)(k8:Int):aX (Fw Int Unit Int):=bh (_s (k8<(len B.assign))) (H (idx B.assign k8) λu=>(bh (_s (u.var<0)) (M U) (H (idx D.b? p1) λw=>M (_s (u.var>=(len w.h?)))):aX X').bind λz=>(bh z (M U) (H (sO u.value) λC=>M (!C)):aX X').bind λG=>bh G (M (.r 2)) (W3 p1 k8 0 D B u)) (M (.x ()))
def W2(p1 k8:Int)(B:Z4)(D:WF):Ps:=H (bL (λq:Int=>bK p1 B D q) k8) (Fw.elim (λe=>M 0) (λe=>M e))
def J1(p1 i2:Int)(D:Z4)(B:WF):Ps:=(bh (_s (B.time<0)) (M U) (M (_s (B.time>1099511627776))):aX X').bind λu=>(bh u (M U) ((bh (_s (i2>0)) ((idx D.b? p1).bind λw=>(idx w.c? (w? N (i2-1))).bind λz=>M (_s (B.time<z.time))) (M O):aX X').bind λC=>M C):aX X').bind λG=>bh G (M 11) (bh (_s ((len B.assign)>8)) (M 5) (eY.W2 p1 0 D B))
theorem ja(p1 i2:Int)(D:Z4)(B:WF):Le ((J1 p1 i2 D B).bind (λr=>M [.int N r])) (bZ Sy cL (oR (tr Tx 115)) (o9 (tb Tx 115) [1,1,1,0] [] (bE [Iv 1 p1,Iv 2 i2,Pv 3,Pv 7] [Xb 3 D,Xb 7 B]))):=bH 7 4 [71] 75 (bp 7 71 (bn 4) (bn 4)) λL=>bH 1 19 [2,76] 95 (bp 1 76 (bn 19) (bH 3 15 [2,79] 94 (bp 3 79 (bB 5 λi _=>bB 4 λQ _=>bn 4) (bn 15)) λS=>bn 1)) λT=>bp 2 95 aZ (bM 8 B.assign (bp 3 99 aZ (dM 11 (λu=>(bE [Iv 1 p1,Pv 3,Pv 7,Iv 8 u] [Xb 3 D,Xb 7 B])) (λw=>(0,(bE [] []))) (λw=>(bE [Iv 6 w] [])) (λu=>bM 7 B.assign (bp 3 104 (bB 10 λz _=>bH 12 11 [115] 126 (bp 12 115 (bn 11) (bB 5 λI _=>bM 2 I.h? (bn 2))) λg=>BW 1 5 [130] (λC=>(bE [Iv 1 p1,Pv 3,Pv 7,Iv 8 u,Bv 104 U,Pv 9,Bv 132 C] [Xb 3 D,Xb 7 B,Xb 9 z])) (bp 1 127 (bn 5) (ck 2 λW _=>bn 2)) λC=>bp 2 132 aZ (dM 10 (λd=>(bE [Iv 1 p1,Pv 3,Pv 7,Iv 8 u,Pv 9,Iv 10 d] [Xb 3 D,Xb 7 B,Xb 9 z])) (λG=>(2,(bE [Iv 1 p1,Pv 3,Pv 7,Iv 8 u] [Xb 3 D,Xb 7 B]))) (λG=>(bE [Iv 6 8] [])) (λd=>bp 9 135 (bB 10 λX _=>bp 7 146 aZ aZ) aZ) (λG=>aZ) (λG=>aZ))) aZ)) (λw=>aZ) (λw=>aZ))))
end eY
def eY(B:Z4)(p1 i2:Int):Ps:=H (idx B.b? p1) λw=>H (idx w.c? i2) λu=>bh (u.kind==1) (H (bh (u.k?==0) (M (!(u.d?==0))) (M U)) λz=>bh z (M 3) (eY.J1 p1 i2 B u)) (H (bh (u.kind==2) (M O) (M (!(u.kind==3)))) λC=>H (bh C (M U) (M (_s (u.k?<0)))) λD=>H (bh D (M U) (M (_s (u.k?>=(len B.b?))))) λG=>H (bh G (M U) (M (u.k?==p1))) λI=>H (bh I (M U) (M (_s (u.d?<0)))) λd=>H (bh d (M U) (M (_s (u.d?>199)))) λL=>bh L (M 3) (eY.J1 p1 i2 B u))
open eY in
instance Z8(B:Z4)(p1 i2:Int):Fc Sy cL (eY B p1 i2):=Fc.M 115 [enc B,.int N p1,.int N i2] (bR 2 3 B (bB 8 λw _=>bB 3 λu _=>o7 2 7 0 u (bp 10 22 (bH 7 4 [26] 30 (ct 7 26 (bn 4) (bn 4)) λz=>bp 2 30 aZ (kn 4 (ja p1 i2 B u))) (bH 7 4 [34] 38 (ct 7 34 (bn 4) (bn 4)) λC=>bH 1 4 [39] 43 (bp 1 39 (bn 4) (bn 4)) λD=>bH 1 7 [44] 51 (bp 1 44 (bn 7) (bM 4 B.b? (bn 2))) λG=>bH 1 5 [52] 57 (bp 1 52 (bn 5) (bn 5)) λI=>bH 1 4 [58] 62 (bp 1 58 (bn 4) (bn 4)) λd=>bH 1 4 [63] 67 (bp 1 63 (bn 4) (bn 4)) λL=>bp 2 67 aZ (kn 4 (ja p1 i2 B u))))))
def xX(D:Z4)(B:bf):aX WF:=H (idx D.b? B.proc) λu=>H (idx u.c? (w? N (B.index-1))) λw=>M w
instance ab_(B:Z4)(D:bf):Fc Sy cL (xX B D):=Fc.N 161 [enc B,enc D] (bR 2 2 B (bB 10 λw _=>bB 5 λu _=>o7 1 4 0 u aZ))
namespace eo
def bK(B G p7:Int)(D:Z4)(d:bf)(a:Int):aX (Fw Int Unit bf):=H (idx D.b? p7) λw=>bh (_s (a<(len w.c?))) (H (idx D.b? p7) λz=>H (idx z.c? a) λu=>H (bh (u.kind==B) (M (u.d?==G)) (M O)) λC=>bh C (M (.r (⟨p7,w? N (a+1)⟩:bf))) (M (.n (w? N (a+1))))) (M (.x ()))
def W2(B d p7 a:Int)(D:Z4)(G:bf):aX (Fw Int Unit bf):=H (bL (λq:Int=>bK B d p7 D G q) a) (Fw.elim (λe=>M (.n (w? N (p7+1)))) (λe=>M (.r e)))
def bl(B d:Int)(D:Z4)(G:bf)(p7:Int):aX (Fw Int Unit bf):=bh (_s (p7<(len D.b?))) (W2 B d p7 0 D G) (M (.x ()))
def W1(B d p7:Int)(D:Z4)(G:bf):aX bf:=H (bL (λq:Int=>bl B d D G q) p7) (Fw.elim (λe=>M ⟨0,0⟩) (λe=>M e))
end eo
def eo(D:Z4)(B G:Int):aX bf:=eo.W1 B G 0 D (⟨0,0⟩:bf)
open eo in
instance Z5(D:Z4)(B G:Int):Fc Sy cL (eo D B G):=Fc.M 162 [enc D,.int N B,.int N G] (bR 2 3 D (dM 11 (λu=>(bE [Iv 1 B,Iv 2 G,Pv 3,Pv 6,Iv 7 u] [Xb 3 D,Xb 6 (⟨0,0⟩:bf)])) (λw=>(0,(bE [Pv 6] [Xb 6 (⟨0,0⟩:bf)]))) (λw=>(bE [Pv 6] [Xb 6 w])) (λu=>bM 7 D.b? (bp 3 14 (dM 12 (λC=>(bE [Iv 1 B,Iv 2 G,Pv 3,Pv 6,Iv 7 u,Iv 8 C] [Xb 3 D,Xb 6 (⟨0,0⟩:bf)])) (λz=>(2,(bE [Iv 1 B,Iv 2 G,Pv 3,Pv 6,Iv 7 u] [Xb 3 D,Xb 6 (⟨0,0⟩:bf)]))) (λz=>(bE [Pv 6] [Xb 6 z])) (λC=>bB 8 λI _=>bM 2 I.c? (bp 3 25 (bB 10 λL _=>bB 3 λd _=>o7 2 9 0 d (bH 9 5 [9,41] 46 (bp 9 41 (bn 5) (bn 5)) λg=>bp 2 46 aZ aZ)) aZ)) (λz=>aZ) (λz=>aZ)) aZ)) (λw=>aZ) (λw=>aZ)))
namespace jY
def bl(G:Z4)(d:bf)(D:WF)(B:X')(T:Int):aX (Fw (X'×Int) Bool Empty):=H (idx G.b? D.k?) λw=>bh (_s (T<(len w.c?))) (H (idx G.b? D.k?) λz=>H (idx z.c? T) λu=>(bh B (M U) (H (bh (u.kind==2) (M (u.d?==D.d?)) (M O)) λC=>H (bh C (M (u.k?==d.proc)) (M O)) λI=>M I):aX X').bind λL=>M (.n (L,w? N (T+1)))) (M (.x B))
def W1(B:X')(T:Int)(D:Z4)(G:bf)(d:WF):Ps:=H (bL (λq:X'×Int=>bl D G d q.1 q.2) (B,T)) (Fw.elim (λe=>bh e (M 0) (M 7)) (λe=>c! e))
end jY
def jY(B:Z4)(D:bf):Ps:=H (xX B D) λu=>bh (u.kind==1) (M 0) (H (eo B u.kind u.d?) λw=>bh (O2 w D) (bh (u.kind==3) (jY.W1 O 0 B D u) (M 0)) (M 8))
open jY in
instance WY(B:Z4)(D:bf):Fc Sy cL (jY B D):=Fc.M 116 [enc B,enc D] (bR 2 2 B (bu 8 λw _=>o7 1 5 0 w (bp 10 14 aZ (ck 11 λI _=>ct 4 22 (bp 11 25 (dO 14 (λu=>(bE [Pv 2,Pv 3,Pv 5,Bv 6 u.1,Iv 7 u.2] [Xb 2 B,Xb 3 D,Xb 5 w])) (λz=>(0,(bE [Bv 6 z] []))) (λu=>bB 9 λC _=>bM 2 C.c? (bp 3 35 (bB 11 λd _=>bB 3 λG _=>o7 2 8 0 G (bH 5 18 [8,49] 67 (bp 5 49 (bn 18) (bH 4 6 [53] 59 (bp 4 53 (bn 6) (bn 6)) λL=>bH 1 6 [8,60] 66 (bp 1 60 (bn 6) (bn 6)) λg=>bn 1)) λQ=>aZ)) aZ)) (λz=>ct 8 69 aZ aZ)) aZ) aZ))))
namespace fu
def J4(B:Zg)(p5:Int)(D:Z4):aX (Fw ((Zg)×X') ((Zg)×X') Empty):=H (Sl.iE B p5) λu=>H (Sl.get B u) λw=>H (Sl.iE B p5) λz=>H (Sl.put B z (w? N (w+1):Int)) λC=>M (.n (C,U))
def dQ(p5:Int)(G:Z4)(B:Zg)(D:X'):aX (Fw ((Zg)×X') ((Zg)×X') Empty):=H (Sl.iE B p5) λI=>H (Sl.get B I) λd=>H (idx G.b? p5) λL=>bh (_s (d<(len L.c?))) (H (idx G.b? p5) λg=>H (Sl.iE B p5) λQ=>H (Sl.get B Q) λS=>H (idx g.c? S) λu=>bh (u.kind==3) (H (eo G 2 u.d?) λw=>H (Sl.iE B w.proc) λz=>H (Sl.get B z) λC=>bh (_s (C<w.index)) (M (.x (B,D))) (J4 B p5 G)) (J4 B p5 G)) (M (.x (B,D)))
def W3(D:Zg)(B:X')(p5:Int)(G:Z4):aX (Fw ((Zg)×X'×Int) ((Zg)×X') Empty):=H (bL (λq:(Zg)×X'=>dQ p5 G q.1 q.2) (D,B)) (Fw.elim (λe=>M (.n (e.1,e.2,w? N (p5+1)))) (λe=>c! e))
def bK(G:Z4)(D:Zg)(B:X')(p5:Int):aX (Fw ((Zg)×X'×Int) ((Zg)×X') Empty):=bh (_s (p5<(len G.b?))) (W3 D B p5 G) (M (.x (D,B)))
def W2(D:Zg)(B:X')(p5:Int)(G:Z4):aX (Fw Zg Zg Empty):=H (bL (λq:(Zg)×X'×Int=>bK G q.1 q.2.1 q.2.2) (D,B,p5)) (Fw.elim (λe=>bh e.2 (M (.n e.1)) (M (.x e.1))) (λe=>c! e))
def AK(B:Zg)(D:Z4)(G:Int):aX (Fw Int Unit Unit):=bh (_s (G<(len D.b?))) (H (Sl.iE B G) λu=>H (Sl.get B u) λw=>H (idx D.b? G) λz=>bh (_s (w<(len z.c?))) (M (.r ())) (M (.n (w? N (G+1))))) (M (.x ()))
def W5(B:Zg)(G:Int)(D:Z4):aX X':=H (bL (λq:Int=>AK B D q) G) (Fw.elim (λe=>M U) (λe=>M O))
def bl(D:Z4)(B:Zg):aX (Fw Zg Zg Empty):=W2 B O 0 D
def W1(B:Zg)(D:Z4):aX X':=H (bL (λq:Zg=>bl D q) B) (Fw.elim (λe=>fu.W5 e 0 D) (λe=>c! e))
end fu
def fu(B:Z4):aX X':=H (jQ (len B.b?) (0:Int)) λu=>fu.W1 u B
open fu in
instance VP(B:Z4):Fc Sy cL (fu B):=Fc.M 117 [enc B] (bR 2 1 B (bM 7 B.b? (A1 0 12 λb _=>dO 7 (λm=>(bE [Pv 1,Ov 3] [Xb 1 B,Lb 2003 m])) (λD=>(0,(bE [Pv 1,Ov 3] [Xb 1 B,Lb 2003 D]))) (λm=>dO 17 (λw=>(bE [Pv 1,Ov 3,Bv 4 w.2.1,Iv 5 w.2.2] [Xb 1 B,Lb 2003 w.1])) (λG=>(2,(bE [Pv 1,Ov 3,Bv 4 G.2] [Xb 1 B,Lb 2003 G.1]))) (λw=>bM 8 B.b? (bp 3 17 (dO 8 (λI=>(bE [Pv 1,Ov 3,Bv 4 I.2,Iv 5 w.2.2] [Xb 1 B,Lb 2003 I.1])) (λi=>(4,(bE [Pv 1,Ov 3,Bv 4 i.2,Iv 5 w.2.2] [Xb 1 B,Lb 2003 i.1]))) (λI=>jx N 7 2003 λc _=>rB 0 2003 0 1 O (λQ=>.int N Q) λQ _=>bB 3 λZ _=>bM 2 Z.c? (bp 3 31 (bB 9 λd _=>jx N 4 2003 λe _=>rB 0 2003 0 1 O (λS=>.int N S) λS _=>bB 0 λa _=>o7 2 6 0 a (bp 10 46 (bu 6 λf _=>jx N 9 2003 λg _=>rB 0 2003 0 1 O (λz=>.int N z) λz _=>bp 5 58 aZ (o_ 5 (jx N 4 2003 λT _=>rB 0 2003 0 1 O (λu=>.int N u) λu _=>jx N 1 2003 λj _=>r_ 0 2003 (.int N (w? N (u+1))) λq _=>aZ))) (o_ 5 (jx N 4 2003 λT _=>rB 0 2003 0 1 O (λu=>.int N u) λu _=>jx N 1 2003 λj _=>r_ 0 2003 (.int N (w? N (u+1))) λq _=>aZ)))) aZ)) (λi=>aZ)) aZ)) (λG=>ct 8 66 aZ aZ)) (λD=>dM 11 (λX=>(bE [Pv 1,Ov 3,Iv 8 X] [Xb 1 B,Lb 2003 D])) (λL=>(6,(bE [] []))) (λL=>(bE [Bv 2 O] [])) (λX=>bM 8 B.b? (bp 3 71 (jx N 9 2003 λh _=>rB 0 2003 0 1 O (λC=>.int N C) λC _=>bB 3 λo _=>bM 2 o.c? (bp 3 85 aZ aZ)) aZ)) (λL=>aZ) (λL=>aZ)))))
namespace dW
def J1(B:Sl bf)(D:Z4)(G:bf):aX (Sl bf):=H (xX D G) λu=>bh (u.kind==3) (H (eo D 2 u.d?) λw=>H (eH B (w:bf)) λz=>M z) (M B)
end dW
def dW(D:Z4)(B:bf):aX (Sl bf):=bh (_s (B.index>1)) (dW.J1 (Sl.row [⟨B.proc,w? N (B.index-1)⟩]:Sl bf) D B) (dW.J1 (Sl.nil:Sl bf) D B)
open dW in
theorem vm(D:Z4)(B:bf):nG Sy cL 163 (λ_:Unit=>[enc D,enc B]) (λ_=>dW D B):=nG.mk' (pI (Tx 163)) (λ_=>bR 2 2 D (bp 17 9 (Xf 10 17 18 .bN (⟨B.proc,w? N (B.index-1)⟩:bf) (o_ 5 (bu 4 λu _=>o7 1 6 0 u (bp 10 24 (bu 6 λw _=>om 1 2005 30 31 λz _=>aZ) aZ)))) (o_ 5 (bu 4 λu _=>o7 1 6 0 u (bp 10 24 (bu 6 λw _=>om 1 2005 30 31 λz _=>aZ) aZ)))))
namespace ir
def dQ(d:Sl (Sl X'))(B:Sl bf)(T:Z4)(D:Sl bf)(G:Int):aX (Fw ((Sl bf)×Int) (Sl bf) Empty):=bh (_s (G<(len B))) (H (Sl.iE B G) λu=>H (Sl.get B u) λw=>H (eH D (w:bf)) λz=>M (.n (z,w? N (G+1)))) (M (.x D))
def W3(B:Sl (Sl X'))(D G:Sl bf)(d:Int)(T:Z4):aX (Fw ((Sl (Sl X'))×(Sl bf)) (Sl (Sl X')) Empty):=H (bL (λq:(Sl bf)×Int=>dQ B G T q.1 q.2) (D,d)) (Fw.elim (λe=>M (.n (B,e))) (λe=>c! e))
def bK(G:Z4)(D:Sl (Sl X'))(B:Sl bf):aX (Fw ((Sl (Sl X'))×(Sl bf)) (Sl (Sl X')) Empty):=bh (_s ((len B)>0)) ((Sl.iE B 0).bind λg=>(Sl.get B g).bind λu=>(nW B (M 1) J).bind λI=>((idx D u.proc).bind Sl.whole).bind λC=>(Sl.iE C u.index).bind λd=>(Sl.get C d).bind λL=>(Sl.whole C).bind λw=>bh L (M (.n (pT D u.proc w,I))) (((idx (pT D u.proc w) u.proc).bind Sl.whole).bind λz=>(Sl.iE z u.index).bind λi=>(Sl.put z i (U:X')).bind λQ=>(Sl.whole Q).bind λS=>((dW G u).bind Sl.whole).bind λT=>W3 (pT (pT D u.proc w) u.proc S) I T 0 G)) (M (.x D))
def W2(D:Sl (Sl X'))(B:Sl bf)(G:Z4):aX (Sl (Sl X')):=H (bL (λq:(Sl (Sl X'))×(Sl bf)=>bK G q.1 q.2) (D,B)) (Fw.elim (λe=>M e) (λe=>c! e))
def bl(D:Z4)(G:bf)(B:Sl (Sl X'))(p6:Int):aX (Fw ((Sl (Sl X'))×Int) (Sl (Sl X')) Empty):=bh (_s (p6<(len D.b?))) (H (idx D.b? p6) λu=>H (jQ (w? N ((len u.c?)+1)) (O:X')) λw=>H (Sl.whole w) λz=>H (eH B (z:Sl X')) λC=>M (.n (C,w? N (p6+1)))) (M (.x B))
def W1(D:Sl (Sl X'))(p6:Int)(B:Z4)(G:bf):aX (Sl (Sl X')):=(bL (λq:(Sl (Sl X'))×Int=>bl B G q.1 q.2) (D,p6)).bind (Fw.elim (λe=>((dW B G).bind Sl.whole).bind λu=>ir.W2 e u B) (λe=>c! e))
end ir
def ir(B:Z4)(D:bf):aX (Sl (Sl X')):=ir.W1 (Sl.nil:Sl (Sl X')) 0 B D
open ir in
instance aal(B:Z4)(T:bf):Fc Sy cL (ir B T):=Fc.N 118 [enc B,enc T] (bR 2 2 B (dO 19 (λL=>(bE [Pv 2,Pv 3,Ov 5,Iv 6 L.2] [Xb 2 B,Xb 3 T,(2005,vY L.1)])) (λS=>(0,(bE [Pv 2,Pv 3,Ov 5] [Xb 2 B,Xb 3 T,(2005,vY S)]))) (λL=>bM 9 B.b? (bp 3 15 (bB 10 λX _=>bM 2 X.c? (A1 1 27 λa _=>adJ (α:=X') 0 28 27 (Ku 0 28 27 abV λb _=>ada 0 2005 28 29 λc _=>aZ))) aZ)) (λS=>Ar 6 32 (vm B T) () λY _=>dO 9 (λw=>(bE [Pv 2,Ov 5,Ov 7] [Xb 2 B,(2005,vY w.1),Lb 2007 w.2])) (λo=>(2,(bE [Ov 5] [(2005,vY o)]))) (λw=>B2 8 2007 w.2 (bp 3 35 (jx N 7 2007 λd _=>rB 0 2007 0 2 U (λu=>.agg [.int N u.proc,.int N u.index]) λu _=>Xh 7 U O 2007 40 [.int N 1] λe _=>MF 5 2005 6041 (.c 8 0) λf q=>PU 5 2005 6041 N q (UF 0 2005 6041 q (jx N 2 6041 λZ _=>rB 0 6041 0 1 O (λD=>.bool D) λD _=>Ku 1 2005 6041 q λG _=>bp 1 49 aZ (MF 4 2005 6050 (.c 8 0) λg z=>PU 5 2005 6050 N z (UF 0 2005 6050 z (jx N 2 6050 λh _=>r_ 0 6050 (.bool U) λi _=>Ku 1 2005 6050 z λI _=>Ar 5 60 (vm B u) () λm _=>dO 14 (λQ=>(bE [Pv 2,Ov 5,Ov 7,Ov 9,Iv 10 Q.2] [Xb 2 B,(2005,vY (pT (pT w.1 u.proc G) u.proc I)),Lb 2007 Q.1,Lb 2009 m])) (λW=>(4,(bE [Pv 2,Ov 5,Ov 7] [Xb 2 B,(2005,vY (pT (pT w.1 u.proc G) u.proc I)),Lb 2007 W]))) (λQ=>B2 10 2009 m (bp 3 64 (jx N 9 2009 λj _=>rB 0 2009 0 2 U (λC=>.agg [.int N C.proc,.int N C.index]) λC _=>om 1 2007 72 73 λk _=>aZ) aZ)) (λW=>aZ))))))) aZ)) (λo=>aZ))))
namespace dF
def dQ(p6:Int)(B:Z4)(G:bf)(D:Int):aX (Fw Int Unit (Int×bf)):=H (idx B.b? p6) λw=>bh (_s (D<(len w.c?))) (H (eY B p6 D) λu=>bh (u==0) (M (.n (w? N (D+1)))) (M (.r (u,(⟨p6,w? N (D+1)⟩:bf))))) (M (.x ()))
def W3(p6 G:Int)(B:Z4)(D:bf):aX (Fw Int Unit (Int×bf)):=H (bL (λq:Int=>dQ p6 B D q) G) (Fw.elim (λe=>M (.n (w? N (p6+1)))) (λe=>M (.r (e.1,e.2))))
def AK(G:Int)(D:Z4)(d:bf)(B:Int):aX (Fw Int Unit (Int×bf)):=H (idx D.b? G) λw=>bh (_s (B<(len w.c?))) (H (jY D (⟨G,w? N (B+1)⟩:bf)) λu=>bh (u==0) (M (.n (w? N (B+1)))) (M (.r (u,(⟨G,w? N (B+1)⟩:bf))))) (M (.x ()))
def W5(d B:Int)(D:Z4)(G:bf):aX (Fw Int Unit (Int×bf)):=H (bL (λq:Int=>AK d D G q) B) (Fw.elim (λe=>M (.n (w? N (d+1)))) (λe=>M (.r (e.1,e.2))))
def Oa(D:Int)(G:Z4)(d:bf)(B:Int):aX (Fw Int Unit bf):=H (idx G.b? D) λw=>bh (_s (B<(len w.c?))) (H (ir G (⟨D,w? N (B+1)⟩:bf)) λz=>H (idx z D) λC=>H (idx C (w? N (B+1))) λu=>bh u (M (.r (⟨D,w? N (B+1)⟩:bf))) (M (.n (w? N (B+1))))) (M (.x ()))
def W7(B D:Int)(G:Z4)(d:bf):aX (Fw Int Unit bf):=H (bL (λq:Int=>Oa B G d q) D) (Fw.elim (λe=>M (.n (w? N (B+1)))) (λe=>M (.r e)))
def N4(B:Z4)(G:bf)(D:Int):aX (Fw Int Unit bf):=bh (_s (D<(len B.b?))) (W7 D 0 B G) (M (.x ()))
def W6(B:Int)(D:Z4)(G:bf):aX (bf×Int):=H (bL (λq:Int=>N4 D G q) B) (Fw.elim (λe=>M (⟨0,0⟩,0)) (λe=>M (e,10)))
def yZ(B:Z4)(D:bf)(G:Int):aX (Fw Int Unit (Int×bf)):=bh (_s (G<(len B.b?))) (W5 G 0 B D) (M (.x ()))
def W4(G:Int)(B:Z4)(D:bf):aX (bf×Int):=H (bL (λq:Int=>yZ B D q) G) (Fw.elim (λe=>H (fu B) λu=>bh u (M (⟨0,0⟩,0)) (dF.W6 0 B D)) (λe=>M (e.2,e.1)))
def bK(B:Z4)(D:bf)(p6:Int):aX (Fw Int Unit (Int×bf)):=bh (_s (p6<(len B.b?))) (W3 p6 0 B D) (M (.x ()))
def W2(p6:Int)(B:Z4)(D:bf):aX (bf×Int):=H (bL (λq:Int=>bK B D q) p6) (Fw.elim (λe=>dF.W4 0 B D) (λe=>M (e.2,e.1)))
def bl(B:Z4)(D:bf)(p4:Int):aX (Fw Int Unit (Int×bf)):=bh (_s (p4<(len B.b?))) (H (eX B p4) λu=>bh (u==0) (M (.n (w? N (p4+1)))) (M (.r (u,(⟨p4,0⟩:bf))))) (M (.x ()))
def W1(p4:Int)(B:Z4)(D:bf):aX (bf×Int):=H (bL (λq:Int=>bl B D q) p4) (Fw.elim (λe=>dF.W2 0 B D) (λe=>M (e.2,e.1)))
end dF
def dF(B:Z4):aX (bf×Int):=H (bh (_s ((len B.b?)<1)) (M U) (M (_s ((len B.b?)>8)))) λu=>bh u (M (⟨0,0⟩,1)) (dF.W1 0 B (⟨0,0⟩:bf))
open dF in
instance YX(B:Z4):Fc Sy cL (dF B):=Fc.M 66 [enc B] (bR 2 1 B (bM 9 B.b? (bH 2 5 [20] 25 (bp 2 20 (bn 5) (bM 2 B.b? (bn 2))) λa=>bp 2 25 aZ (dM 11 (λQ=>(bE [Pv 1,Pv 2,Iv 4 Q] [Xb 1 B,Xb 2 (⟨0,0⟩:bf)])) (λu=>(0,(bE [Pv 1,Pv 2] [Xb 1 B,Xb 2 (⟨0,0⟩:bf)]))) (λu=>(bE [Pv 2,Iv 3 u.1] [Xb 2 u.2])) (λQ=>bM 7 B.b? (bp 3 31 (bu 9 λb _=>ct 9 38 aZ aZ) aZ)) (λu=>dM 10 (λG=>(bE [Pv 1,Pv 2,Iv 6 G] [Xb 1 B,Xb 2 (⟨0,0⟩:bf)])) (λw=>(2,(bE [Pv 1,Pv 2] [Xb 1 B,Xb 2 (⟨0,0⟩:bf)]))) (λw=>(bE [Pv 2,Iv 3 w.1] [Xb 2 w.2])) (λG=>bM 7 B.b? (bp 3 46 (dM 12 (λS=>(bE [Pv 1,Pv 2,Iv 6 G,Iv 7 S] [Xb 1 B,Xb 2 (⟨0,0⟩:bf)])) (λz=>(4,(bE [Pv 1,Pv 2,Iv 6 G] [Xb 1 B,Xb 2 (⟨0,0⟩:bf)]))) (λz=>(bE [Pv 2,Iv 3 z.1] [Xb 2 z.2])) (λS=>bB 8 λq _=>bM 2 q.c? (bp 3 57 (bu 10 λc _=>ct 9 65 aZ aZ) aZ)) (λz=>aZ) (λz=>aZ)) aZ)) (λw=>dM 10 (λI=>(bE [Pv 1,Pv 2,Iv 9 I] [Xb 1 B,Xb 2 (⟨0,0⟩:bf)])) (λC=>(6,(bE [Pv 1,Pv 2] [Xb 1 B,Xb 2 (⟨0,0⟩:bf)]))) (λC=>(bE [Pv 2,Iv 3 C.1] [Xb 2 C.2])) (λI=>bM 7 B.b? (bp 3 75 (dM 12 (λT=>(bE [Pv 1,Pv 2,Iv 9 I,Iv 10 T] [Xb 1 B,Xb 2 (⟨0,0⟩:bf)])) (λD=>(8,(bE [Pv 1,Pv 2,Iv 9 I] [Xb 1 B,Xb 2 (⟨0,0⟩:bf)]))) (λD=>(bE [Pv 2,Iv 3 D.1] [Xb 2 D.2])) (λT=>bB 8 λX _=>bM 2 X.c? (bp 3 86 (bu 19 λd _=>ct 9 97 aZ aZ) aZ)) (λD=>aZ) (λD=>aZ)) aZ)) (λC=>bu 6 λZ _=>bp 2 101 aZ (dM 11 (λi=>(bE [Pv 1,Pv 2,Iv 13 i] [Xb 1 B,Xb 2 (⟨0,0⟩:bf)])) (λL=>(10,(bE [Pv 2] [Xb 2 (⟨0,0⟩:bf)]))) (λL=>(bE [Pv 2,Iv 3 10] [Xb 2 L])) (λi=>bM 7 B.b? (bp 3 107 (dM 12 (λj=>(bE [Pv 1,Pv 2,Iv 13 i,Iv 14 j] [Xb 1 B,Xb 2 (⟨0,0⟩:bf)])) (λm=>(12,(bE [Pv 1,Pv 2,Iv 13 i] [Xb 1 B,Xb 2 (⟨0,0⟩:bf)]))) (λm=>(bE [Pv 2,Iv 3 10] [Xb 2 m])) (λj=>bB 8 λo _=>bM 2 o.c? (bp 3 118 (bu 19 λe _=>bB 1 λf _=>bB 3 λg _=>bp 3 134 aZ aZ) aZ)) (λm=>aZ) (λm=>aZ)) aZ)) (λL=>aZ) (λL=>aZ))) (λC=>aZ)) (λw=>aZ)) (λu=>aZ)))))
def mo(B:Z4):aX X':=H (dF B) λu=>M (u.2==0)
instance XT(B:Z4):Fc Sy cL (mo B):=Fc.M 30 [enc B] (bR 2 1 B (bu 6 λu _=>aZ))
namespace me
def bl(B:Int)(D:T')(G d:Int)(r:(T'×Int)->Ps):aX (Fw (Int×Int) Int Empty):=H (bh (_s (d<(len D.l))) (M (_s (G<=B))) (M O)) λu=>bh u (H (idx D.l d) λw=>H (r (w,w? N (B-G))) λz=>M (.n (w? N (G+z),w? N (d+1)))) (M (.x G))
def W1(B G d:Int)(D:T')(r:(T'×Int)->Ps):Ps:=H (bL (λq:Int×Int=>bl B D q.1 q.2 r) (G,d)) (Fw.elim (λe=>M e) (λe=>c! e))
end me
def jq(D:T')(B:Int)(r:(T'×Int)->Ps):Ps:=me.W1 B 1 0 D r
open me in
theorem D_(r:(T'×Int)->Ps)(a:eZ Sy cL 164 (λz:T'×Int=>[enc z.1,.int N z.2]) (λr:Int=>[.int N r]) r U)(D:T')(B:Int):Le (H (jq D B r) λr=>M [.int N r]) (iB cL 164 [enc D,.int N B]):=(Fc.M 164 [enc D,.int N B] (bR 2 2 D (dO 16 (λu=>(bE [Iv 1 B,Pv 2,Iv 5 u.1,Iv 6 u.2] [Xb 2 D])) (λw=>(0,(bE [Iv 5 w] []))) (λu=>dK 7 9 (Pred.eT D.l) (bM 0 D.l (bH 2 4 [12] 16 (bp 2 12 (bn 4) (bn 4)) λG=>bp 2 16 (dK 9 21 (Pred.eT D.l) (bB 1 λC _=>bu (F:=Fc.of (C,w? N (B-u.1)) a) 4 λI _=>aZ)) aZ))) (λw=>aZ))):Fc Sy cL (jq D B r)).F.h ()
def me(D:T')(B:Int):Ps:=cI (λr(z:T'×Int)=>jq z.1 z.2 r) 100000 (D,B)
instance ZM(D:T')(B:Int):Fc Sy cL (me D B):=Fc.of (D,B) (eZ.fix (A:=λz:T'×Int=>[enc z.1,.int N z.2]) (E:=λr:Int=>[.int N r]) (sc:=U) (b:=(λr(z:T'×Int)=>jq z.1 z.2 r)) p? (λ_ _=>rfl) (λr a z=>D_ r a z.1 z.2) 100000)
def Aq(B:T'):Ps:=H (me B 200) λu=>M (if 201<u then 201 else u)
instance aan(B:T'):Fc Sy cL (Aq B):=Fc.M 119 [enc B] (bR 2 1 B (bu 6 λu _=>aZ))
namespace kW
def bl(B:Int)(D:T')(G d:Int)(r:(T'×Int)->Ps):aX (Fw (Int×Int) Int Empty):=bh (_s (d<(len D.l))) (H (idx D.l d) λw=>H (r (w,w? N (B-1))) λu=>M (.n ((if u>G then u else G),w? N (d+1)))) (M (.x G))
def W1(B G d:Int)(D:T')(r:(T'×Int)->Ps):Ps:=H (bL (λq:Int×Int=>bl B D q.1 q.2 r) (G,d)) (Fw.elim (λe=>M (w? N (e+1))) (λe=>c! e))
end kW
def js(D:T')(B:Int)(r:(T'×Int)->Ps):Ps:=bh (B==0) (M 1) (kW.W1 B 0 0 D r)
open kW in
theorem D8(r:(T'×Int)->Ps)(a:eZ Sy cL 120 (λz:T'×Int=>[enc z.1,.int N z.2]) (λr:Int=>[.int N r]) r U)(D:T')(B:Int):Le (H (js D B r) λr=>M [.int N r]) (iB cL 120 [enc D,.int N B]):=(Fc.M 120 [enc D,.int N B] (bR 2 2 D (bp 15 8 aZ (dO 11 (λu=>(bE [Iv 1 B,Pv 2,Iv 5 u.1,Iv 6 u.2] [Xb 2 D])) (λw=>(0,(bE [Iv 5 w] []))) (λu=>dK 7 11 (Pred.eT D.l) (bM 0 D.l (bp 3 13 (dK 9 18 (Pred.eT D.l) (bB 1 λC _=>bu (F:=Fc.of (C,w? N (B-1)) a) 3 λG _=>aZ)) aZ))) (λw=>aZ)))):Fc Sy cL (js D B r)).F.h ()
def kW(D:T')(B:Int):Ps:=cI (λr(z:T'×Int)=>js z.1 z.2 r) 100000 (D,B)
instance XV(D:T')(B:Int):Fc Sy cL (kW D B):=Fc.of (D,B) (eZ.fix (A:=λz:T'×Int=>[enc z.1,.int N z.2]) (E:=λr:Int=>[.int N r]) (sc:=U) (b:=(λr(z:T'×Int)=>js z.1 z.2 r)) p? (λ_ _=>rfl) (λr a z=>D8 r a z.1 z.2) 100000)
def nv(B:Int):Ps:=H (bh (_s (B>=1)) (M (_s (B<=4))) (M O)) λu=>H (bh u (M U) (M (B==13))) λw=>H (bh w (M U) (M (B==14))) λz=>bh z (M 0) (H (bh (B==5) (M U) (M (B==15))) λC=>(bh C (M U) (H (bh (_s (B>=18)) (M (_s (B<=21))) (M O)) λD=>M D):aX X').bind λG=>bh G (M 1) (H (bh (_s (B>=6)) (M (_s (B<=12))) (M O)) λI=>H (bh I (M U) (M (B==16))) λd=>H (bh d (M U) (M (B==17))) λL=>bh L (M 2) (M (-1))))
instance Ya(B:Int):Fc Sy cL (nv B):=Fc.M 165 [.int N B] (bH 11 3 [5] 8 (bp 11 5 (bn 3) (bn 3)) λu=>bH 1 3 [9] 12 (bp 1 9 (bn 3) (bn 3)) λw=>bH 1 3 [13] 16 (bp 1 13 (bn 3) (bn 3)) λz=>bp 2 16 aZ (bH 9 3 [19] 22 (bp 9 19 (bn 3) (bn 3)) λC=>bH 1 7 [23] 30 (bp 1 23 (bn 7) (bH 3 3 [26] 29 (bp 3 26 (bn 3) (bn 3)) λD=>bn 1)) λG=>bp 2 30 aZ (bH 9 3 [33] 36 (bp 9 33 (bn 3) (bn 3)) λI=>bH 1 3 [37] 40 (bp 1 37 (bn 3) (bn 3)) λd=>bH 1 3 [0,41] 44 (bp 1 41 (bn 3) (bn 3)) λL=>bp 2 44 aZ aZ)))
namespace gC
def bK(B:T')(i3:Int)(r:T'->aX X'):aX (Fw Int Unit Unit):=bh (_s (i3<(len B.l))) (H (idx B.l i3) λu=>H (r u) λw=>bh w (M (.n (w? N (i3+1)))) (M (.r ()))) (M (.x ()))
def W2(i3:Int)(B:T')(r:T'->aX X'):aX X':=H (bL (λq:Int=>bK B q r) i3) (Fw.elim (λe=>M U) (λe=>M O))
def J1(B:T')(r:T'->aX X'):aX X':=H (bh (_s (B.kind<2)) (M U) (M (_s (B.kind>4)))) λu=>(bh u (H (bh (B.proc==0) (M (!(B.k?==0))) (M U)) λw=>H (bh w (M U) (M (!(C? B.name==C? ByteArray.empty)))) λz=>M z) (M O):aX X').bind λC=>bh C (M O) (gC.W2 0 B r)
theorem ja(r:T'->aX X')(a:eZ Sy cL 121 (λz:T'=>[enc z]) (λr:X'=>[.bool r]) r U)(B:T'):Le (H (J1 B r) (λr=>M [.bool r])) (bZ Sy cL (oR (tr Tx 121)) (o9 (tb Tx 121) [1,1,1,0] [] (bE [Pv 1] [Xb 1 B]))):=bH 7 4 [28] 32 (bp 7 28 (bn 4) (bn 4)) λD=>bH 1 14 [33] 47 (bp 1 33 (bH 4 4 [37] 41 (ct 4 37 (bn 4) (bn 4)) λG=>bH 1 4 [42] 46 (bp 1 42 (bn 4) (bn 4)) λI=>bn 1) (bn 14)) λd=>bp 2 47 aZ (dM 11 (λw=>(bE [Pv 1,Iv 3 w] [Xb 1 B])) (λu=>(0,(bE [] []))) (λu=>(bE [Bv 2 O] [])) (λw=>dK 7 50 (Pred.eT B.l) (bM 0 B.l (bp 3 52 (dK 9 56 (Pred.eT B.l) (bB 1 λC _=>bu (F:=Fc.of C a) 1 λL _=>ct 3 61 aZ aZ)) aZ))) (λu=>aZ) (λu=>aZ))
end gC
def gW(B:T')(r:T'->aX X'):aX X':=H (nv B.kind) λu=>bh (u==(len B.l)) (bh (B.kind==1) (H (bh (_s (B.n<0)) (M U) (M (_s (B.n>1125899906842624)))) λw=>bh w (M O) (gC.J1 B r)) (bh (B.n==0) (gC.J1 B r) (M O))) (M O)
open gC in
theorem D9(r:T'->aX X')(a:eZ Sy cL 121 (λz:T'=>[enc z]) (λr:X'=>[.bool r]) r U)(B:T'):Le (H (gW B r) λr=>M [.bool r]) (iB cL 121 [enc B]):=(Fc.M 121 [enc B] (bR 2 1 B (ck 8 λu _=>dK 2 8 (Pred.eT B.l) (bM 0 B.l (ct 3 10 (bp 11 13 (bH 7 4 [17] 21 (bp 7 17 (bn 4) (bn 4)) λw=>bp 2 21 aZ (kn 4 (ja r a B))) (ct 8 24 (kn 4 (ja r a B)) aZ)) aZ)))):Fc Sy cL (gW B r)).F.h ()
def gC(B:T'):aX X':=cI (λr(z:T')=>gW z r) 100000 B
instance Y2(B:T'):Fc Sy cL (gC B):=Fc.of B (eZ.fix (A:=λz:T'=>[enc z]) (E:=λr:X'=>[.bool r]) (sc:=U) (b:=(λr(z:T')=>gW z r)) p? (λ_ _=>rfl) (λr a z=>D9 r a z) 100000)
def rM(B:T'):aX X':=H (Aq B) λu=>(bh (_s (u<=200)) (H (kW B 21) λw=>M (_s (w<=20))) (M O):aX X').bind λz=>(bh z (H (gC B) λC=>M C) (M O):aX X').bind λD=>M D
instance Xe(B:T'):Fc Sy cL (rM B):=Fc.M 67 [enc B] (bR 2 1 B (bu 6 λu _=>bH 2 4 [6] 10 (bp 2 6 (bu 1 λw _=>bn 2) (bn 4)) λz=>bH 1 3 [1,11] 14 (bp 1 11 (bu 1 λC _=>bn 1) (bn 3)) λD=>aZ))
def qc(B:Z4)(p1:Int):aX X':=H (bh (_s (p1>=0)) (M (_s (p1<(len B.b?)))) (M O)) λu=>M u
instance aao(B:Z4)(p1:Int):Fc Sy cL (qc B p1):=Fc.M 122 [enc B,.int N p1] (bR 2 2 B (bH 8 6 [1,2,7] 13 (bp 8 7 (bM 3 B.b? (bn 2)) (bn 6)) λu=>aZ))
namespace kg
def bl(p1:Int)(B:U')(D:Z4)(G:Int):aX (Fw Int Unit Int):=H (idx D.b? p1) λu=>bh (_s (G<(len u.h?))) (H (idx D.b? p1) λw=>H (idx w.h? G) λz=>bh (C? z.name==C? B) (M (.r G)) (M (.n (w? N (G+1))))) (M (.x ()))
def W1(p1:Int)(B:U')(G:Int)(D:Z4):Ps:=H (bL (λq:Int=>bl p1 B D q) G) (Fw.elim (λe=>M (-1)) (λe=>M e))
end kg
def kg(D:Z4)(p1:Int)(B:U'):Ps:=kg.W1 p1 B 0 D
open kg in
instance aa1(D:Z4)(p1:Int)(B:U'):Fc Sy cL (kg D p1 B):=Fc.M 123 [enc D,.int N p1,.str B] (bR 2 3 D (dM 11 (λw=>(bE [Iv 1 p1,(2,.v (.str B)),Pv 3,Iv 7 w] [Xb 3 D])) (λu=>(0,(bE [] []))) (λu=>(bE [Iv 6 u] [])) (λw=>bB 8 λz _=>bM 2 z.h? (bp 3 16 (bB 10 λC _=>bB 3 λG _=>bp 6 30 aZ aZ) aZ)) (λu=>aZ) (λu=>aZ)))
namespace h_
def bl(D:Z4)(B:T')(G:Int)(r:(Z4×T')->aX X'):aX (Fw Int Unit Unit):=bh (_s (G<(len B.l))) (H (idx B.l G) λu=>H (r (D,u)) λw=>bh w (M (.n (w? N (G+1)))) (M (.r ()))) (M (.x ()))
def W1(G:Int)(B:Z4)(D:T')(r:(Z4×T')->aX X'):aX X':=H (bL (λq:Int=>bl B D q r) G) (Fw.elim (λe=>M U) (λe=>M O))
end h_
def gM(B:Z4)(p1:T')(r:(Z4×T')->aX X'):aX X':=(bh (p1.kind==2) ((qc B p1.proc).bind λI=>(bh I (M (!(p1.k?==0))) (M U):aX X').bind λd=>(bh d (M U) ((kg B p1.proc p1.name).bind λL=>M (_s (L<0))):aX X').bind λi=>M i) (M O):aX X').bind λQ=>bh Q (M O) ((bh (p1.kind==3) ((qc B p1.proc).bind λS=>(bh S (M (!(p1.k?==0))) (M U):aX X').bind λT=>(bh T (M U) (M (!(C? p1.name==C? ByteArray.empty))):aX X').bind λg=>M g) (M O):aX X').bind λW=>bh W (M O) ((bh (p1.kind==4) ((qc B p1.proc).bind λu=>(bh u ((qc B p1.k?).bind λw=>M (!w)) (M U):aX X').bind λz=>(bh z (M U) (M (p1.proc==p1.k?)):aX X').bind λC=>(bh C (M U) (M (!(C? p1.name==C? ByteArray.empty))):aX X').bind λD=>M D) (M O):aX X').bind λG=>bh G (M O) (h_.W1 0 B p1 r)))
open h_ in
theorem BZ(r:(Z4×T')->aX X')(a:eZ Sy cL 68 (λz:Z4×T'=>[enc z.1,enc z.2]) (λr:X'=>[.bool r]) r U)(B:Z4)(p1:T'):Le ((gM B p1 r).bind λr=>M [.bool r]) (iB cL 68 [enc B,enc p1]):=(Fc.M 68 [enc B,enc p1] (bR 2 2 B (bR 0 3 p1 (bH 10 20 [9] 29 (bp 10 9 (bu 3 λS _=>bH 2 4 [15] 19 (ct 2 15 (bn 4) (bn 4)) λT=>bH 1 8 [20] 28 (bp 1 20 (bn 8) (bu 5 λg _=>bn 2)) λW=>bn 1) (bn 20)) λX=>bp 2 29 aZ (bH 10 16 [33] 49 (bp 10 33 (bu 3 λY _=>bH 2 4 [39] 43 (ct 2 39 (bn 4) (bn 4)) λZ=>bH 1 4 [44] 48 (bp 1 44 (bn 4) (bn 4)) λb=>bn 1) (bn 16)) λc=>bp 2 49 aZ (bH 10 25 [53] 78 (bp 10 53 (bu 3 λD _=>bH 2 6 [59] 65 (ct 2 59 (bu 3 λG _=>bn 2) (bn 6)) λI=>bH 1 6 [66] 72 (bp 1 66 (bn 6) (bn 6)) λd=>bH 1 4 [73] 77 (bp 1 73 (bn 4) (bn 4)) λL=>bn 1) (bn 25)) λi=>bp 2 78 aZ (dM 11 (λw=>(bE [Pv 2,Pv 3,Iv 5 w] [Xb 2 B,Xb 3 p1])) (λu=>(0,(bE [] []))) (λu=>(bE [Bv 4 O] [])) (λw=>dK 7 81 (Pred.eT p1.l) (bM 0 p1.l (bp 3 83 (dK 10 88 (Pred.eT p1.l) (bB 1 λC _=>ck (F:=Fc.of (B,C) a) 1 λQ _=>ct 3 93 aZ aZ)) aZ))) (λu=>aZ) (λu=>aZ))))))):Fc Sy cL (gM B p1 r)).F.h ()
def h_(B:Z4)(p1:T'):aX X':=cI (λr(z:Z4×T')=>gM z.1 z.2 r) 100000 (B,p1)
instance TZ(B:Z4)(p1:T'):Fc Sy cL (h_ B p1):=Fc.of (B,p1) (eZ.fix (A:=λz:Z4×T'=>[enc z.1,enc z.2]) (E:=λr:X'=>[.bool r]) (sc:=U) (b:=(λr(z:Z4×T')=>gM z.1 z.2 r)) p? (λ_ _=>rfl) (λr a z=>BZ r a z.1 z.2) 100000)
def rY(B:T'):Ps:=bh (_s (B.kind<=8)) (M 1) (M 2)
instance aaj(B:T'):Fc Sy cL (rY B):=Fc.M 124 [enc B] (bR 2 1 B (bp 11 5 aZ aZ))
namespace g_
def J2(i3 B:Int)(D:T')(r:T'->aX X'):aX (Fw Int Unit Unit):=H (idx D.l i3) λu=>H (rY u) λw=>(bh (w==B) (H (idx D.l i3) λz=>H (r z) λC=>M (!C)) (M U):aX X').bind λG=>bh G (M (.r ())) (M (.n (w? N (i3+1))))
def bl(B:T')(i3:Int)(r:T'->aX X'):aX (Fw Int Unit Unit):=bh (_s (i3<(len B.l))) (bh (_s (B.kind>=15)) (J2 i3 2 B r) (J2 i3 1 B r)) (M (.x ()))
def W1(i3:Int)(B:T')(r:T'->aX X'):aX X':=H (bL (λq:Int=>bl B q r) i3) (Fw.elim (λe=>M U) (λe=>M O))
end g_
def kr(B:T')(r:T'->aX X'):aX X':=g_.W1 0 B r
open g_ in
theorem D7(r:T'->aX X')(a:eZ Sy cL 69 (λz:T'=>[enc z]) (λr:X'=>[.bool r]) r U)(B:T'):Le (H (kr B r) λr=>M [.bool r]) (iB cL 69 [enc B]):=(Fc.M 69 [enc B] (bR 2 1 B (dM 11 (λC=>(bE [Pv 1,Iv 3 C] [Xb 1 B])) (λu=>(0,(bE [] []))) (λu=>(bE [Bv 2 O] [])) (λC=>dK 7 7 (Pred.eT B.l) (bM 0 B.l (bp 3 9 (bp 18 14 (o_ 6 (dK 4 16 (Pred.eT B.l) (bB 1 λD _=>bu 1 λG _=>bH 3 8 [23] 31 (ct 3 23 (dK 2 25 (Pred.eT B.l) (bB 1 λw _=>bu (F:=Fc.of w a) 1 λI _=>bn 2)) (bn 8)) λd=>bp 2 31 aZ aZ))) (o_ 4 (dK 4 16 (Pred.eT B.l) (bB 1 λD _=>bu 1 λG _=>bH 3 8 [23] 31 (ct 3 23 (dK 2 25 (Pred.eT B.l) (bB 1 λw _=>bu (F:=Fc.of w a) 1 λI _=>bn 2)) (bn 8)) λd=>bp 2 31 aZ aZ)))) aZ))) (λu=>aZ) (λu=>aZ))):Fc Sy cL (kr B r)).F.h ()
def g_(B:T'):aX X':=cI (λr(z:T')=>kr z r) 100000 B
instance ZF(B:T'):Fc Sy cL (g_ B):=Fc.of B (eZ.fix (A:=λz:T'=>[enc z]) (E:=λr:X'=>[.bool r]) (sc:=U) (b:=(λr(z:T')=>kr z r)) p? (λ_ _=>rfl) (λr a z=>D7 r a z) 100000)
namespace gE
def bK(p1 d T:Int)(G:Sl Assign)(g:Z4)(D B B_:Int):aX (Fw (Int×Int×Int) (Int×Int) Empty):=bh (_s (B_<(len G))) (H (idx G B_) λz=>bh (z.var==d) (H (idx G B_) λu=>H (idx G B_) λw=>M (.n ((if u.value<D then u.value else D),(if w.value>B then w.value else B),w? N (B_+1)))) (M (.n (D,B,w? N (B_+1))))) (M (.x (D,B)))
def W2(p1 g D B G:Int)(d:Sl Assign)(B_:Int)(T:Z4):aX (Fw (Int×Int×Int) (Int×Int) Empty):=H (bL (λq:Int×Int×Int=>bK p1 g G d T q.1 q.2.1 q.2.2) (D,B,B_)) (Fw.elim (λe=>M (.n (e.1,e.2,w? N (G+1)))) (λe=>c! e))
def bl(p1 T:Int)(G:Z4)(D B d:Int):aX (Fw (Int×Int×Int) (Int×Int) Empty):=H (idx G.b? p1) λu=>bh (_s (d<(len u.c?))) (H (idx G.b? p1) λw=>H (idx w.c? d) λz=>W2 p1 T D B d z.assign 0 G) (M (.x (D,B)))
def W1(p1 T D B G:Int)(d:Z4):aX (Int×Int):=H (bL (λq:Int×Int×Int=>bl p1 T d q.1 q.2.1 q.2.2) (D,B,G)) (Fw.elim (λe=>M (e.1,e.2)) (λe=>c! e))
end gE
def gE(B:Z4)(p1 D:Int):aX (Int×Int):=H (idx B.b? p1) λw=>H (idx w.h? D) λu=>gE.W1 p1 D u.init_ u.init_ 0 B
open gE in
instance ZR(D:Z4)(p1 G:Int):Fc Sy cL (gE D p1 G):=Fc.M 166 [enc D,.int N p1,.int N G] (bR 2 3 D (bB 9 λd _=>bB 3 λL _=>dO 19 (λu=>(bE [Iv 1 p1,Iv 2 G,Pv 3,Iv 8 u.1,Iv 9 u.2.1,Iv 10 u.2.2] [Xb 3 D])) (λz=>(0,(bE [Iv 8 z.1,Iv 9 z.2] []))) (λu=>bB 8 λI _=>bM 2 I.c? (bp 3 32 (bB 10 λg _=>bB 3 λC _=>dO 12 (λw=>(bE [Iv 1 p1,Iv 2 G,Pv 3,Iv 8 w.1,Iv 9 w.2.1,Iv 10 u.2.2,Cv 11 C.assign,Iv 12 w.2.2] [Xb 3 D])) (λB=>(2,(bE [Iv 1 p1,Iv 2 G,Pv 3,Iv 8 B.1,Iv 9 B.2,Iv 10 u.2.2] [Xb 3 D]))) (λw=>bM 6 C.assign (bp 3 48 (bB 9 λQ _=>bp 6 57 (bB 5 λS _=>bB 6 λT _=>aZ) aZ) aZ)) (λB=>aZ)) aZ)) (λz=>aZ)))
namespace jX
def bl(p1 G:Int)(B:Z4)(D a:Int):aX (Fw (Int×Int) Int Empty):=H (idx B.b? p1) λw=>bh (_s (a<(len w.c?))) (H (idx B.b? p1) λz=>H (idx z.c? a) λu=>H (bh (u.kind==2) (M (u.k?==G)) (M O)) λC=>bh C (M (.n (w? N (D+1),w? N (a+1)))) (M (.n (D,w? N (a+1))))) (M (.x D))
def W1(p1 D G a:Int)(B:Z4):Ps:=H (bL (λq:Int×Int=>bl p1 D B q.1 q.2) (G,a)) (Fw.elim (λe=>M e) (λe=>c! e))
end jX
def jX(B:Z4)(p1 D:Int):Ps:=jX.W1 p1 D 0 0 B
open jX in
instance aaf(B:Z4)(p1 D:Int):Fc Sy cL (jX B p1 D):=Fc.M 167 [enc B,.int N p1,.int N D] (bR 2 3 B (dO 16 (λu=>(bE [Iv 1 p1,Iv 2 D,Pv 3,Iv 7 u.1,Iv 8 u.2] [Xb 3 B])) (λw=>(0,(bE [Iv 7 w] []))) (λu=>bB 8 λz _=>bM 2 z.c? (bp 3 18 (bB 10 λG _=>bB 3 λC _=>o7 2 9 0 C (bH 8 5 [9,33] 38 (bp 8 33 (bn 5) (bn 5)) λI=>bp 2 38 aZ aZ)) aZ)) (λw=>aZ)))
namespace c8
def J1(a0 B:Int):Ps:=M (w? N (a0*B))
end c8
def c8(a0 B:Int):Ps:=H (bh (a0==0) (M O) (M (!(B==0)))) λu=>bh u (H (x_ N 1125899906842624 (if(w? N (0-B))>B then(w? N (0-B))else B)) λw=>bh (_s ((if(w? N (0-a0))>a0 then(w? N (0-a0))else a0)>w)) (bh ((_s (a0<0))==(_s (B<0))) (M 1125899906842625) (M (-1125899906842625))) (c8.J1 a0 B)) (c8.J1 a0 B)
open c8 in
instance XO(a0 B:Int):Fc Sy cL (c8 a0 B):=Fc.M 168 [.int N a0,.int N B] (bH 11 3 [9] 12 (ct 11 9 (bn 3) (bn 3)) λu=>bp 2 12 (abD 19 λw _=>bp 3 24 (ct 11 29 aZ aZ) (o_ 4 (aZ))) (o_ 4 (aZ)))
namespace bU
def J3(D B:Int)(r:(Z4×T')->aX (Int×Int×X')):aX (Int×Int×X'):=H (bh (_s (D>=(-1125899906842624))) (M (_s (B<=1125899906842624))) (M O)) λu=>M (D,B,u)
def J2(j a b T:Int)(c g:X')(m:Z4)(B:T')(r:(Z4×T')->aX (Int×Int×X')):aX (Int×Int×X'):=H (bh c (M (!g)) (M U)) λi=>bh i (M (0,0,O)) (bh (B.kind==1) (bU.J3 B.n B.n r) (bh (B.kind==2) (H (kg m B.proc B.name) λQ=>H (gE m B.proc Q) λL=>bU.J3 L.1 L.2 r) (bh (B.kind==3) (H (idx m.b? B.proc) λS=>bU.J3 0 (len S.c?) r) (bh (B.kind==4) (H (jX m B.proc B.k?) λX=>bU.J3 0 X r) (bh (B.kind==5) (bU.J3 (w? N (0-a)) (w? N (0-j)) r) (bh (B.kind==6) (bU.J3 (w? N (j+b)) (w? N (a+T)) r) (bh (B.kind==7) (bU.J3 (w? N (j-T)) (w? N (a-b)) r) (H (c8 j b) λu=>H (c8 j T) λw=>H (c8 a b) λz=>H (c8 a T) λC=>H (c8 j b) λD=>H (c8 j T) λG=>H (c8 a b) λI=>H (c8 a T) λd=>bU.J3 (if(if C<z then C else z)<(if w<u then w else u)then(if C<z then C else z)else(if w<u then w else u)) (if(if d>I then d else I)>(if G>D then G else D)then(if d>I then d else I)else(if G>D then G else D)) r))))))))
def J1(g j i T:Int)(G B:X')(d:Z4)(D:T')(r:(Z4×T')->aX (Int×Int×X')):aX (Int×Int×X'):=bh (_s ((len D.l)>1)) (H (idx D.l 1) λw=>H (r (d,w)) λu=>bU.J2 g j u.1 u.2.1 G u.2.2 d D r) (bU.J2 g j i T G B d D r)
theorem zR(r:(Z4×T')->aX (Int×Int×X'))(a:eZ Sy cL 125 (λz:Z4×T'=>[enc z.1,enc z.2]) (λr:Int×Int×X'=>[.int N r.1,.int N r.2.1,.bool r.2.2]) r U)(D B:Int):Le (H (J3 D B r) (λr=>M [.int N r.1,.int N r.2.1,.bool r.2.2])) (bZ Sy cL (oR (tr Tx 125)) (o9 (tb Tx 125) [1,1,1,1,0,1,0,1,1,1,0] [] (bE [Iv 13 D,Iv 14 B] []))):=bH 7 3 [14,151] 154 (bp 7 151 (bn 3) (bn 3)) λu=>aZ
theorem GB(r:(Z4×T')->aX (Int×Int×X'))(a:eZ Sy cL 125 (λz:Z4×T'=>[enc z.1,enc z.2]) (λr:Int×Int×X'=>[.int N r.1,.int N r.2.1,.bool r.2.2]) r U)(m b c T:Int)(o B:X')(d:Z4)(i:T'):Le (H (J2 m b c T o B d i r) (λr=>M [.int N r.1,.int N r.2.1,.bool r.2.2])) (bZ Sy cL (oR (tr Tx 125)) (o9 (tb Tx 125) [1,1,1,1,0,1,0] [] (bE [Pv 2,Pv 3,Iv 7 m,Iv 8 b,Iv 9 c,Iv 10 T,Bv 11 o,Bv 12 B] [Xb 2 d,Xb 3 i]))):=bH 6 3 [12,45] 48 (ct 6 45 (bn 3) (bn 3)) λX=>bp 2 48 aZ (bp 17 51 (kn 11 (zR r a i.n i.n)) (bp 8 58 (ck 10 λZ _=>ck 0 λj _=>kn 8 (zR r a j.1 j.2)) (bp 8 74 (bB 6 λQ _=>bM 2 Q.c? (kn 4 (zR r a 0 (len Q.c?)))) (bp 8 85 (bu 7 λS _=>kn 4 (zR r a 0 S)) (bp 8 94 (kn 11 (zR r a (w? N (0-b)) (w? N (0-m)))) (bp 8 101 (kn 13 (zR r a (w? N (m+c)) (w? N (b+T)))) (bp 8 110 (kn 13 (zR r a (w? N (m-T)) (w? N (b-c)))) (bu 5 λu _=>bu 2 λw _=>bu 3 λC _=>bu 2 λD _=>bu 8 λG _=>bu 2 λI _=>bu 3 λg _=>bu 2 λL _=>kn 6 (zR r a (if(if D<C then D else C)<(if w<u then w else u)then(if D<C then D else C)else(if w<u then w else u)) (if(if L>g then L else g)>(if I>G then I else G)then(if L>g then L else g)else(if I>G then I else G)))))))))))
theorem ja(r:(Z4×T')->aX (Int×Int×X'))(a:eZ Sy cL 125 (λz:Z4×T'=>[enc z.1,enc z.2]) (λr:Int×Int×X'=>[.int N r.1,.int N r.2.1,.bool r.2.2]) r U)(g j i T:Int)(G B:X')(d:Z4)(D:T'):Le (H (J1 g j i T G B d D r) (λr=>M [.int N r.1,.int N r.2.1,.bool r.2.2])) (bZ Sy cL (oR (tr Tx 125)) (o9 (tb Tx 125) [1,1,1,1,0] [] (bE [Pv 2,Pv 3,Iv 7 g,Iv 8 j,Iv 9 i,Iv 10 T,Bv 11 G,Bv 12 B] [Xb 2 d,Xb 3 D]))):=dK 5 30 (Pred.eT D.l) (bM 0 D.l (bp 3 32 (dK 5 36 (Pred.eT D.l) (bB 0 λw _=>ck (F:=Fc.of (d,w) a) 1 λu _=>kn 10 (GB r a g j u.1 u.2.1 G u.2.2 d D))) (kn 4 (GB r a g j i T G B d D))))
end bU
def iG(B:Z4)(p1:T')(r:(Z4×T')->aX (Int×Int×X')):aX (Int×Int×X'):=bh (_s ((len p1.l)>0)) (H (idx p1.l 0) λw=>H (r (B,w)) λu=>bU.J1 u.1 u.2.1 0 0 u.2.2 U B p1 r) (bU.J1 0 0 0 0 U U B p1 r)
open bU in
theorem BU(r:(Z4×T')->aX (Int×Int×X'))(a:eZ Sy cL 125 (λz:Z4×T'=>[enc z.1,enc z.2]) (λr:Int×Int×X'=>[.int N r.1,.int N r.2.1,.bool r.2.2]) r U)(B:Z4)(p1:T'):Le (H (iG B p1 r) λr=>M [.int N r.1,.int N r.2.1,.bool r.2.2]) (iB cL 125 [enc B,enc p1]):=(Fc.M 125 [enc B,enc p1] (bR 2 2 B (bR 0 3 p1 (dK 24 16 (Pred.eT p1.l) (bM 0 p1.l (bp 3 18 (dK 5 22 (Pred.eT p1.l) (bB 0 λw _=>ck (F:=Fc.of (B,w) a) 1 λu _=>kn 10 (ja r a u.1 u.2.1 0 0 u.2.2 U B p1))) (kn 4 (ja r a 0 0 0 0 U U B p1))))))):Fc Sy cL (iG B p1 r)).F.h ()
def bU(B:Z4)(p1:T'):aX (Int×Int×X'):=cI (λr(z:Z4×T')=>iG z.1 z.2 r) 100000 (B,p1)
instance T6(B:Z4)(p1:T'):Fc Sy cL (bU B p1):=Fc.of (B,p1) (eZ.fix (A:=λz:Z4×T'=>[enc z.1,enc z.2]) (E:=λr:Int×Int×X'=>[.int N r.1,.int N r.2.1,.bool r.2.2]) (sc:=U) (b:=(λr(z:Z4×T')=>iG z.1 z.2 r)) p? (λ_ _=>rfl) (λr a z=>BU r a z.1 z.2) 100000)
namespace lR
def bl(D:Z4)(B:T')(a:Int)(r:(Z4×T')->aX X'):aX (Fw Int Unit Unit):=bh (_s (a<(len B.l))) (H (idx B.l a) λu=>H (r (D,u)) λw=>bh w (M (.n (w? N (a+1)))) (M (.r ()))) (M (.x ()))
def W1(a:Int)(B:Z4)(D:T')(r:(Z4×T')->aX X'):aX X':=H (bL (λq:Int=>bl B D q r) a) (Fw.elim (λe=>M U) (λe=>M O))
end lR
def lp(B:Z4)(p1:T')(r:(Z4×T')->aX X'):aX X':=H (rY p1) λu=>bh (u==1) (H (bU B p1) λw=>M w.2.2) (lR.W1 0 B p1 r)
open lR in
theorem FB(r:(Z4×T')->aX X')(a:eZ Sy cL 70 (λz:Z4×T'=>[enc z.1,enc z.2]) (λr:X'=>[.bool r]) r U)(B:Z4)(p1:T'):Le (H (lp B p1 r) λr=>M [.bool r]) (iB cL 70 [enc B,enc p1]):=(Fc.M 70 [enc B,enc p1] (bR 2 2 B (bR 0 3 p1 (bu 7 λD _=>bp 3 11 (bu 5 λG _=>aZ) (dM 11 (λw=>(bE [Pv 2,Pv 3,Iv 8 w] [Xb 2 B,Xb 3 p1])) (λu=>(0,(bE [] []))) (λu=>(bE [Bv 4 O] [])) (λw=>dK 7 22 (Pred.eT p1.l) (bM 0 p1.l (bp 3 24 (dK 10 29 (Pred.eT p1.l) (bB 1 λC _=>ck (F:=Fc.of (B,C) a) 1 λI _=>ct 3 34 aZ aZ)) aZ))) (λu=>aZ) (λu=>aZ))))):Fc Sy cL (lp B p1 r)).F.h ()
def lR(B:Z4)(p1:T'):aX X':=cI (λr(z:Z4×T')=>lp z.1 z.2 r) 100000 (B,p1)
instance Z6(B:Z4)(p1:T'):Fc Sy cL (lR B p1):=Fc.of (B,p1) (eZ.fix (A:=λz:Z4×T'=>[enc z.1,enc z.2]) (E:=λr:X'=>[.bool r]) (sc:=U) (b:=(λr(z:Z4×T')=>lp z.1 z.2 r)) p? (λ_ _=>rfl) (λr a z=>FB r a z.1 z.2) 100000)
def oP(B:Z4)(p1:T'):Ps:=H (mo B) λu=>(bh u (H (rM p1) λw=>M (!w)) (M U):aX X').bind λz=>bh z (M 1) (H (h_ B p1) λC=>bh C (H (g_ p1) λD=>bh D (H (lR B p1) λG=>bh G (M 0) (M 9)) (M 14)) (M 13))
instance Ze(B:Z4)(p1:T'):Fc Sy cL (oP B p1):=Fc.M 31 [enc B,enc p1] (bR 2 2 B (bR 0 3 p1 (bu 7 λu _=>bH 2 4 [8] 12 (ct 2 8 (bu 1 λw _=>bn 2) (bn 4)) λz=>bp 2 12 aZ (bu 8 λC _=>ct 3 16 (bu 7 λD _=>ct 3 19 (bu 8 λG _=>ct 3 23 aZ aZ) aZ) aZ))))
namespace jR
def bl(B:Zg)(D:Z4)(p5:Int):aX (Fw Int Unit Unit):=bh (_s (p5<(len B))) (H (idx B p5) λu=>(bh (_s (u<0)) (M U) (H (idx B p5) λw=>H (idx D.b? p5) λz=>M (_s (w>(len z.c?)))):aX X').bind λC=>bh C (M (.r ())) (M (.n (w? N (p5+1))))) (M (.x ()))
def W1(D:Zg)(p5:Int)(B:Z4):aX X':=H (bL (λq:Int=>bl D B q) p5) (Fw.elim (λe=>M U) (λe=>M O))
end jR
def jR(B:Z4)(D:Zg):aX X':=jR.W1 D 0 B
open jR in
instance Y6(B:Z4)(D:Zg):Fc Sy cL (jR B D):=Fc.M 32 [enc B,enc D] (bR 2 2 B (dM 11 (λw=>(bE [Cv 1 D,Pv 2,Iv 5 w] [Xb 2 B])) (λu=>(0,(bE [] []))) (λu=>(bE [Bv 4 O] [])) (λw=>bM 6 D (bp 3 9 (bB 9 λC _=>bH 3 13 [17] 30 (bp 3 17 (bn 13) (bB 2 λG _=>bB 4 λz _=>bM 2 z.c? (bn 2))) λI=>bp 2 30 aZ aZ) aZ)) (λu=>aZ) (λu=>aZ)))
def Ay(B:Z4)(D:Zg):aX X':=M ((len D)==(len B.b?))
instance aae(B:Z4)(D:Zg):Fc Sy cL (Ay B D):=Fc.M 71 [enc B,enc D] (bR 2 2 B (bM 6 D (bM 2 B.b? aZ)))
def AE(D:Z4)(G:Zg)(p2 i3:Int):aX X':=H (idx D.b? p2) λz=>H (idx z.c? i3) λu=>bh (u.kind==3) (H (eo D 2 u.d?) λw=>H (idx G w.proc) λB=>M (_s (w.index<=B))) (M U)
instance aag(B:Z4)(D:Zg)(p2 i3:Int):Fc Sy cL (AE B D p2 i3):=Fc.M 126 [enc B,enc D,.int N p2,.int N i3] (bR 2 4 B (bB 8 λw _=>bB 3 λu _=>o7 2 9 0 u (ct 10 22 (bu 8 λz _=>bB 11 λC _=>aZ) aZ)))
namespace iH
def bK(G:Zg)(p5:Int)(B:Z4)(D:Int):aX (Fw Int Unit Unit):=H (idx G p5) λu=>bh (_s (D<u)) (H (AE B G p5 D) λw=>bh w (M (.n (w? N (D+1)))) (M (.r ()))) (M (.x ()))
def W2(D:Zg)(p5 G:Int)(B:Z4):aX (Fw Int Unit Unit):=H (bL (λq:Int=>bK D p5 B q) G) (Fw.elim (λe=>M (.n (w? N (p5+1)))) (λe=>M (.r ())))
def bl(D:Zg)(B:Z4)(p5:Int):aX (Fw Int Unit Unit):=bh (_s (p5<(len D))) (W2 D p5 0 B) (M (.x ()))
def W1(D:Zg)(p5:Int)(B:Z4):aX X':=H (bL (λq:Int=>bl D B q) p5) (Fw.elim (λe=>M U) (λe=>M O))
end iH
def iH(B:Z4)(D:Zg):aX X':=iH.W1 D 0 B
open iH in
instance XG(B:Z4)(D:Zg):Fc Sy cL (iH B D):=Fc.M 72 [enc B,enc D] (bR 2 2 B (dM 11 (λu=>(bE [Cv 1 D,Pv 2,Iv 5 u] [Xb 2 B])) (λw=>(0,(bE [] []))) (λw=>(bE [Bv 4 O] [])) (λu=>bM 6 D (bp 3 10 (dM 12 (λC=>(bE [Cv 1 D,Pv 2,Iv 5 u,Iv 6 C] [Xb 2 B])) (λz=>(2,(bE [Cv 1 D,Pv 2,Iv 5 u] [Xb 2 B]))) (λz=>(bE [Bv 4 O] [])) (λC=>bB 7 λG _=>bp 4 18 (bu 11 λI _=>ct 3 26 aZ aZ) aZ) (λz=>aZ) (λz=>aZ)) aZ)) (λw=>aZ) (λw=>aZ)))
def mA(B:Z4)(D:Zg):aX X':=H (mo B) λu=>(bh u (H (Ay B D) λw=>M w) (M O):aX X').bind λz=>(bh z (H (jR B D) λC=>M C) (M O):aX X').bind λG=>(bh G (H (iH B D) λI=>M I) (M O):aX X').bind λd=>M d
instance Ry(B:Z4)(D:Zg):Fc Sy cL (mA B D):=Fc.M 33 [enc B,enc D] (bR 2 2 B (bu 6 λu _=>bH 1 4 [7] 11 (bp 1 7 (bu 2 λw _=>bn 1) (bn 4)) λz=>bH 1 4 [12] 16 (bp 1 12 (bu 2 λC _=>bn 1) (bn 4)) λG=>bH 1 4 [1,2,17] 21 (bp 1 17 (bu 2 λI _=>bn 1) (bn 4)) λd=>aZ))
def xz(B:T'):aX (Int×Int):=H (rM B) λu=>bh u (H (g_ B) λw=>bh w (H (rY B) λz=>M (z,0)) (M (0,14))) (M (0,1))
instance aad(B:T'):Fc Sy cL (xz B):=Fc.M 73 [enc B] (bR 2 1 B (bu 8 λu _=>ct 3 6 (bu 7 λw _=>ct 3 9 (bu 6 λz _=>aZ) aZ) aZ))
def ow(D:Z4)(p1:T')(B:Int):Ps:=H (oP D p1) λu=>bh (u==0) (H (xz p1) λw=>bh (w.1==B) (M 0) (M 14)) (M u)
instance aak(D:Z4)(p1:T')(B:Int):Fc Sy cL (ow D p1 B):=Fc.M 34 [enc D,enc p1,.int N B] (bR 2 3 D (bR 0 4 p1 (bu 8 λu _=>ct 9 14 (bu 7 λw _=>ct 14 23 aZ aZ) aZ)))
def jU(B:Z4)(D:Zg)(p2:T'):Ps:=H (mo B) λw=>H (bh w (M (!((len D)==(len B.b?)))) (M U)) λz=>bh z (M 1) (H (oP B p2) λu=>bh (u==0) (H (jR B D) λC=>bh C (H (mA B D) λG=>bh G (H (ow B p2 2) λI=>M I) (M 18)) (M 2)) (M u))
instance XY(B:Z4)(D:Zg)(p2:T'):Fc Sy cL (jU B D p2):=Fc.M 12 [enc B,enc D,enc p2] (bR 2 3 B (bR 0 5 p2 (bu 7 λu _=>bH 2 7 [11] 18 (ct 2 11 (bM 1 D (bM 2 B.b? (bn 2))) (bn 7)) λw=>bp 2 18 aZ (bu 8 λz _=>ct 9 23 (bu 8 λC _=>ct 3 28 (bu 8 λG _=>ct 3 32 (bu 7 λI _=>aZ) aZ) aZ) aZ))))
def t_(D:Zg)(p1:Int):aX Zg:=H (qh (Sl.row []:Zg) D) λu=>H (Sl.iE u p1) λw=>H (Sl.get u w) λz=>H (Sl.iE u p1) λB=>H (Sl.put u B (w? N (z+1):Int)) λC=>M C
instance aac(B:Zg)(p1:Int):Fc Sy cL (t_ B p1):=Fc.N 110 [enc B,.int N p1] (AX 9 6 8 λw _=>jx N 9 8 λz _=>rB 0 8 0 1 O (λu=>.int N u) λu _=>jx N 1 8 λC _=>r_ 0 8 (.int N (w? N (u+1))) λD _=>aZ)
namespace pP
def bl(B:Zg)(D:Z4)(p5:Int):aX (Fw Int Unit Unit):=bh (_s (p5<(len B))) (H (idx B p5) λu=>(bh (_s (u<0)) (M U) (H (idx B p5) λw=>H (idx D.b? p5) λz=>M (_s (w>(len z.c?)))):aX X').bind λC=>bh C (M (.r ())) (M (.n (w? N (p5+1))))) (M (.x ()))
def W1(B:Zg)(p5:Int)(D:Z4):aX X':=H (bL (λq:Int=>bl B D q) p5) (Fw.elim (λe=>M U) (λe=>M O))
end pP
def pP(D:Z4)(B:Zg):aX X':=bh ((len B)==(len D.b?)) (pP.W1 B 0 D) (M O)
open pP in
instance abL(D:Z4)(B:Zg):Fc Sy cL (pP D B):=Fc.M 152 [enc D,enc B] (bR 2 2 D (bM 7 B (bM 2 D.b? (ct 3 11 (dM 11 (λw=>(bE [Cv 1 B,Pv 2,Iv 5 w] [Xb 2 D])) (λu=>(0,(bE [] []))) (λu=>(bE [Bv 4 O] [])) (λw=>bM 6 B (bp 3 15 (bB 9 λC _=>bH 3 13 [23] 36 (bp 3 23 (bn 13) (bB 2 λG _=>bB 4 λz _=>bM 2 z.c? (bn 2))) λI=>bp 2 36 aZ aZ) aZ)) (λu=>aZ) (λu=>aZ)) aZ))))
namespace eF
def bK(B:Zg)(p5:Int)(D:Z4)(G:Int):aX (Fw Int Unit Unit):=H (idx B p5) λz=>bh (_s (G<z)) (H (idx D.b? p5) λC=>H (idx C.c? G) λu=>bh (u.kind==3) (H (eo D 2 u.d?) λw=>H (idx B w.proc) λI=>bh (_s (w.index>I)) (M (.r ())) (M (.n (w? N (G+1))))) (M (.n (w? N (G+1))))) (M (.x ()))
def W2(B:Zg)(p5 G:Int)(D:Z4):aX (Fw Int Unit Unit):=H (bL (λq:Int=>bK B p5 D q) G) (Fw.elim (λe=>M (.n (w? N (p5+1)))) (λe=>M (.r ())))
def bl(B:Zg)(D:Z4)(p5:Int):aX (Fw Int Unit Unit):=bh (_s (p5<(len B))) (W2 B p5 0 D) (M (.x ()))
def W1(B:Zg)(p5:Int)(D:Z4):aX X':=H (bL (λq:Int=>bl B D q) p5) (Fw.elim (λe=>M U) (λe=>M O))
end eF
def eF(D:Z4)(B:Zg):aX X':=eF.W1 B 0 D
open eF in
instance Ru(D:Z4)(B:Zg):Fc Sy cL (eF D B):=Fc.M 153 [enc D,enc B] (bR 2 2 D (dM 11 (λu=>(bE [Cv 1 B,Pv 2,Iv 5 u] [Xb 2 D])) (λw=>(0,(bE [] []))) (λw=>(bE [Bv 4 O] [])) (λu=>bM 6 B (bp 3 12 (dM 12 (λC=>(bE [Cv 1 B,Pv 2,Iv 5 u,Iv 6 C] [Xb 2 D])) (λz=>(2,(bE [Cv 1 B,Pv 2,Iv 5 u] [Xb 2 D]))) (λz=>(bE [Bv 4 O] [])) (λC=>bB 7 λI _=>bp 4 20 (bB 10 λd _=>bB 3 λG _=>o7 2 7 0 G (bp 9 34 (bu 6 λL _=>bB 11 λg _=>bp 4 46 aZ aZ) aZ)) aZ) (λz=>aZ) (λz=>aZ)) aZ)) (λw=>aZ) (λw=>aZ)))
def zP(B:Z4)(D:Zg):aX X':=H (pP B D) λu=>(bh u (H (eF B D) λw=>M w) (M O):aX X').bind λz=>M z
instance acd(B:Z4)(D:Zg):Fc Sy cL (zP B D):=Fc.M 109 [enc B,enc D] (bR 2 2 B (bu 7 λu _=>bH 1 4 [1,2,8] 12 (bp 1 8 (bu 2 λw _=>bn 1) (bn 4)) λz=>aZ))
namespace jk
def bl(G:Zg)(D:Z4)(B:Zb)(p6:Int):aX (Fw ((Zb)×Int) Zb Empty):=bh (_s (p6<(len G))) (H (idx G p6) λu=>H (idx D.b? p6) λw=>(bh (_s (u<(len w.c?))) (H (t_ G p6) λz=>H (zP D z) λC=>M C) (M O):aX X').bind λI=>bh I (H (t_ G p6) λd=>H (eH B (d:Zg)) λL=>M (.n (L,w? N (p6+1)))) (M (.n (B,w? N (p6+1))))) (M (.x B))
def W1(G:Zg)(B:Zb)(p6:Int)(D:Z4):aX Zb:=H (bL (λq:(Zb)×Int=>bl G D q.1 q.2) (B,p6)) (Fw.elim (λe=>M e) (λe=>c! e))
end jk
def jk(B:Z4)(D:Zg):aX Zb:=jk.W1 D (Sl.nil:Zb) 0 B
open jk in
instance aau(B:Z4)(D:Zg):Fc Sy cL (jk B D):=Fc.N 61 [enc B,enc D] (bR 2 2 B (dO 17 (λu=>(bE [Cv 1 D,Pv 2,Ov 5,Iv 6 u.2] [Xb 2 B,Lb 2005 u.1])) (λw=>(0,(bE [Ov 5] [Lb 2005 w]))) (λu=>bM 7 D (bp 3 10 (bB 9 λI _=>bB 4 λC _=>bM 2 C.c? (BW 2 6 [30,29] (λz=>(bE [Cv 1 D,Pv 2,Ov 5,Iv 6 u.2,Bv 10 U,Bv 31 z] [Xb 2 B,Lb 2005 u.1])) (bp 2 25 (bu 3 λd _=>ck 0 λL _=>bn 1) (bn 6)) λz=>bp 2 31 (bu 5 λG _=>zb 0 36 ([G]:aY Zg) (om 0 2005 36 37 λg _=>aZ)) aZ)) aZ)) (λw=>aZ)))
namespace iW
def bl(B:Zg)(D i4:Int):aX (Fw (Int×Int) Int Empty):=bh (_s (i4<(len B))) (H (idx B i4) λu=>M (.n (w? N (D+u),w? N (i4+1)))) (M (.x D))
def W1(B:Zg)(D i4:Int):Ps:=H (bL (λq:Int×Int=>bl B q.1 q.2) (D,i4)) (Fw.elim (λe=>M e) (λe=>c! e))
end iW
def iW(B:Zg):Ps:=iW.W1 B 0 0
open iW in
instance Z7(B:Zg):Fc Sy cL (iW B):=Fc.M 154 [enc B] (dO 18 (λu=>(bE [Cv 0 B,Iv 3 u.1,Iv 4 u.2] [])) (λw=>(0,(bE [Iv 3 w] []))) (λu=>bM 6 B (bp 3 8 (bB 9 λz _=>aZ) aZ)) (λw=>aZ))
namespace jf
def bl(a0 D:Zg)(B:Int):aX (Fw Int Unit X'):=bh (_s (B<(len a0))) (H (idx a0 B) λu=>H (idx D B) λw=>bh (u==w) (M (.n (w? N (B+1)))) (H (idx a0 B) λz=>H (idx D B) λC=>M (.r (_s (z<C))))) (M (.x ()))
def W1(a0 B:Zg)(D:Int):aX X':=H (bL (λq:Int=>bl a0 B q) D) (Fw.elim (λe=>M O) (λe=>M e))
end jf
def jf(a0 B:Zg):aX X':=H (iW a0) λu=>H (iW B) λw=>bh (u==w) (jf.W1 a0 B 0) (H (iW a0) λz=>H (iW B) λC=>M (_s (z<C)))
open jf in
instance Xv(a0 B:Zg):Fc Sy cL (jf a0 B):=Fc.M 111 [enc a0,enc B] (bu 9 λz _=>bu 1 λC _=>ct 3 10 (dM 11 (λw=>(bE [Cv 0 a0,Cv 1 B,Iv 5 w] [])) (λu=>(0,(bE [] []))) (λu=>(bE [Bv 4 u] [])) (λw=>bM 6 a0 (bp 3 19 (bB 9 λD _=>bB 3 λG _=>ct 4 30 aZ (bB 5 λI _=>bB 3 λd _=>aZ)) aZ)) (λu=>aZ) (λu=>aZ)) (bu 4 λL _=>bu 1 λg _=>aZ))
namespace fc
def bl(a0 D:Zg)(B:Int):aX (Fw Int Unit Unit):=bh (_s (B<(len a0))) (H (idx a0 B) λu=>H (idx D B) λw=>bh (u==w) (M (.n (w? N (B+1)))) (M (.r ()))) (M (.x ()))
def W1(a0 B:Zg)(D:Int):aX X':=H (bL (λq:Int=>bl a0 B q) D) (Fw.elim (λe=>M U) (λe=>M O))
end fc
def fc(a0 B:Zg):aX X':=bh ((len a0)==(len B)) (fc.W1 a0 B 0) (M O)
open fc in
instance T4(a0 B:Zg):Fc Sy cL (fc a0 B):=Fc.M 35 [enc a0,enc B] (bM 9 a0 (bM 1 B (ct 3 10 (dM 11 (λw=>(bE [Cv 0 a0,Cv 1 B,Iv 5 w] [])) (λu=>(0,(bE [] []))) (λu=>(bE [Bv 4 O] [])) (λw=>bM 6 a0 (bp 3 14 (bB 9 λz _=>bB 3 λC _=>ct 4 25 aZ aZ) aZ)) (λu=>aZ) (λu=>aZ)) aZ)))
namespace jg
def bl(D:Zb)(G:Zg)(B:Int):aX (Fw Int Int Empty):=(bh (_s (B<(len D))) (H (idx D B) λu=>H (jf u G) λw=>M w) (M O):aX X').bind λz=>bh z (M (.n (w? N (B+1)))) (M (.x B))
def W1(B:Zb)(G:Zg)(D:Int):aX Zb:=(bL (λq:Int=>bl B G q) D).bind (Fw.elim (λe=>(bh (_s (e<(len B))) ((idx B e).bind λz=>(fc z G).bind λC=>M C) (M O):aX X').bind λI=>bh I (M B) ((iK B J (M e)).bind λd=>(qh (Sl.row []:Zb) d).bind λL=>(eH L (G:Zg)).bind λg=>(iK B (M e) J).bind λu=>(qh g u).bind λw=>M w)) (λe=>c! e))
end jg
def jg(B:Zb)(D:Zg):aX Zb:=jg.W1 B D 0
open jg in
instance WL(B:Zb)(D:Zg):Fc Sy cL (jg B D):=Fc.N 62 [enc B,enc D] (dO 13 (λw=>(bE [Cv 0 B,Cv 1 D,Iv 5 w] [])) (λu=>(0,(bE [Cv 0 B,Cv 1 D,Iv 5 u] []))) (λw=>bM 6 B (bH 2 7 [11] 18 (bp 2 11 (bB 2 λG _=>bu 2 λI _=>bn 1) (bn 7)) λd=>bp 2 18 aZ aZ)) (λu=>bM 7 B (bH 2 7 [25] 32 (bp 2 25 (bB 2 λL _=>bu 2 λi _=>bn 1) (bn 7)) λQ=>bp 2 32 aZ (zb 5 34 ([]:aY Zg) (E5 2 false true [.int .i64 u] λS _=>AX 0 34 38 λT _=>zb 7 41 ([D]:aY Zg) (om 0 38 41 42 λg _=>E5 8 true false [.int .i64 u] λz _=>AX 0 42 47 λC _=>aZ))))))
namespace fH
def dQ(D G:Zb)(g:Int)(d:Zb)(T:Z4)(B:Zb)(k9:Int):aX (Fw ((Zb)×Int) Zb Empty):=bh (_s (k9<(len d))) (H (idx d k9) λu=>H (jg B u) λw=>M (.n (w,w? N (k9+1)))) (M (.x B))
def W3(B G D:Zb)(T:Int)(g:Zb)(k9:Int)(d:Z4):aX (Fw ((Zb)×Int) Zb Empty):=H (bL (λq:(Zb)×Int=>dQ B G T g d q.1 q.2) (D,k9)) (Fw.elim (λe=>M (.n (e,w? N (T+1)))) (λe=>c! e))
def bK(B G:Zb)(d:Z4)(D:Zb)(T:Int):aX (Fw ((Zb)×Int) Zb Empty):=bh (_s (T<(len B))) (H (idx B T) λu=>H (jk d u) λw=>W3 B G D T w 0 d) (M (.x D))
def W2(B D G:Zb)(T:Int)(d:Z4):aX (Fw ((Zb)×(Zb)) Zb Unit):=H (bL (λq:(Zb)×Int=>bK B D d q.1 q.2) (G,T)) (Fw.elim (λe=>M (.n (e,D))) (λe=>c! e))
def bl(G:Z4)(B D:Zb):aX (Fw ((Zb)×(Zb)) Zb Unit):=bh (_s ((len B)>0)) (H (qh D B) λu=>bh (_s ((len u)>5000)) (M (.r ())) (W2 B u (Sl.nil:Zb) 0 G)) (M (.x D))
def W1(B D:Zb)(G:Z4):aX ((Zb)×X'):=H (bL (λq:(Zb)×(Zb)=>bl G q.1 q.2) (B,D)) (Fw.elim (λe=>M (e,U)) (λe=>M ((Sl.nil:Zb),O)))
end fH
def fH(B:Z4):aX ((Zb)×X'):=H (jQ (len B.b?) (0:Int)) λu=>fH.W1 (Sl.row [u]:Zb) (Sl.nil:Zb) B
open fH in
instance aaa(B:Z4):Fc Sy cL (fH B):=Fc.N 28 [enc B] (bR 2 1 B (bM 8 B.b? (A1 0 13 λL _=>zb 1 14 ([L]:aY Zg) (dM 13 (λu=>(bE [Pv 1,Cv 4 u.1,Ov 5] [Xb 1 B,Lb 2005 u.2])) (λC=>(0,(bE [Ov 5] [Lb 2005 C]))) (λC=>(bE [Ov 2,Bv 3 O] [Lb 2002 (Sl.nil:Zb)])) (λu=>bM 7 u.1 (bp 3 17 (AX 8 2005 20 λw _=>B2 7 20 w (bp 3 23 aZ (dO 18 (λz=>(bE [Pv 1,Cv 4 u.1,Ov 5,Cv 6 z.1,Iv 7 z.2] [Xb 1 B,Lb 2005 w])) (λG=>(2,(bE [Pv 1,Ov 5,Cv 6 G] [Xb 1 B,Lb 2005 w]))) (λz=>bM 8 u.1 (bp 3 27 (bB 10 λg _=>bu 1 λI _=>dO 12 (λD=>(bE [Pv 1,Cv 4 u.1,Ov 5,Cv 6 D.1,Iv 7 z.2,Cv 8 I,Iv 9 D.2] [Xb 1 B,Lb 2005 w])) (λd=>(4,(bE [Pv 1,Cv 4 u.1,Ov 5,Cv 6 d,Iv 7 z.2] [Xb 1 B,Lb 2005 w]))) (λD=>bM 8 I (bp 3 39 (bB 9 λQ _=>bu 1 λS _=>aZ) aZ)) (λd=>aZ)) aZ)) (λG=>aZ)))) aZ)) (λC=>aZ) (λC=>aZ)))))
namespace oy
def bl(D:Zb)(G:Zg)(B:Int):aX (Fw Int Unit Int):=bh (_s (B<(len D))) (H (idx D B) λu=>H (fc u G) λw=>bh w (M (.r B)) (M (.n (w? N (B+1))))) (M (.x ()))
def W1(B:Zb)(D:Zg)(G:Int):Ps:=H (bL (λq:Int=>bl B D q) G) (Fw.elim (λe=>M (-1)) (λe=>M e))
end oy
def oy(B:Zb)(D:Zg):Ps:=oy.W1 B D 0
open oy in
instance aat(B:Zb)(D:Zg):Fc Sy cL (oy B D):=Fc.M 13 [enc B,enc D] (dM 13 (λw=>(bE [Cv 0 B,Cv 1 D,Iv 5 w] [])) (λu=>(0,(bE [] []))) (λu=>(bE [Iv 4 u] [])) (λw=>bM 6 B (bp 3 9 (bB 9 λz _=>bu 2 λC _=>bp 2 17 aZ aZ) aZ)) (λu=>aZ) (λu=>aZ))
namespace iX
def bK(T:Zb)(G:Int)(d:Zb)(g:Z4)(B:Zb)(k8:Int):aX (Fw ((Zb)×Int) Zb Empty):=bh (_s (k8<(len d))) (((idx B G).bind Sl.whole).bind λw=>(idx d k8).bind λz=>(oy T z).bind λC=>(eH w (C:Int)).bind λD=>(Sl.whole D).bind λu=>M (.n (pT B G u,w? N (k8+1)))) (M (.x B))
def W2(d B:Zb)(G:Int)(T:Zb)(k8:Int)(D:Z4):aX (Fw ((Zb)×Int) Zb Empty):=H (bL (λq:(Zb)×Int=>bK d G T D q.1 q.2) (B,k8)) (Fw.elim (λe=>M (.n (e,w? N (G+1)))) (λe=>c! e))
def bl(G:Zb)(D:Z4)(B:Zb)(d:Int):aX (Fw ((Zb)×Int) Zb Empty):=bh (_s (d<(len G))) (H (idx G d) λu=>H (jk D u) λw=>W2 G B d w 0 D) (M (.x B))
def W1(G B:Zb)(d:Int)(D:Z4):aX Zb:=H (bL (λq:(Zb)×Int=>bl G D q.1 q.2) (B,d)) (Fw.elim (λe=>M e) (λe=>c! e))
end iX
def iX(D:Z4)(B:Zb):aX Zb:=H (jQ (len B) (Sl.nil:Zg)) λu=>iX.W1 B u 0 D
open iX in
instance aam(D:Z4)(B:Zb):Fc Sy cL (iX D B):=Fc.N 155 [enc D,enc B] (bR 2 2 D (bM 6 B (A1 0 11 λi d=>abh 0 11 (Yb d) (dO 13 (λu=>(bE [Cv 1 B,Pv 2,Ov 5,Iv 6 u.2] [Xb 2 D,(2005,vY u.1)])) (λC=>(0,(bE [Ov 5] [(2005,vY C)]))) (λu=>bM 8 B (bp 3 15 (bB 10 λQ _=>bu 1 λG _=>dO 12 (λz=>(bE [Cv 1 B,Pv 2,Ov 5,Iv 6 u.2,Cv 7 G,Iv 8 z.2] [Xb 2 D,(2005,vY z.1)])) (λI=>(2,(bE [Cv 1 B,Pv 2,Ov 5,Iv 6 u.2] [Xb 2 D,(2005,vY I)]))) (λz=>bM 8 G (bp 3 27 (MF 5 2005 6030 (.s 6) λS w=>PU 6 2005 6030 N w (UF 0 2005 6030 w (bB 3 λT _=>ck 1 λg _=>om 1 6030 42 43 λW _=>PU 0 2005 6030 N w (adO 0 2005 6030 43 w (Ku 1 2005 43 w λL _=>aZ))))) aZ)) (λI=>aZ)) aZ)) (λC=>aZ)))))
namespace ga
def bK(a2 a:Sl X')(j:X')(d:Zb)(B:Sl X')(T:Int)(G D:X')(Hi:Int):aX (Fw (X'×X'×Int) (X'×X') Empty):=H (idx d T) λL=>bh (_s (Hi<(len L))) ((bh G (M U) (H (idx d T) λi=>H (idx i Hi) λQ=>H (Sl.iE B Q) λS=>H (Sl.get B S) λg=>M g):aX X').bind λm=>(bh D (H (idx d T) λu=>H (idx u Hi) λw=>H (Sl.iE B w) λz=>H (Sl.get B z) λC=>M C) (M O):aX X').bind λI=>M (.n (m,I,w? N (Hi+1)))) (M (.x (G,D)))
def W2(a2 W:Sl X')(D:X')(g:Zb)(B:Sl X')(G:Int)(T d:X')(Hi:Int):aX (Fw ((Sl X')×Int) (Sl X') Empty):=(bL (λq:X'×X'×Int=>bK a2 W D g B G q.1 q.2.1 q.2.2) (T,d,Hi)).bind (Fw.elim (λe=>(idx W G).bind λu=>(bh u (M U) ((idx a2 G).bind λw=>(bh w ((bh D (M e.2) (M O):aX X').bind λz=>(bh z (M U) ((bh D (M O) (M e.1):aX X').bind λC=>M C):aX X').bind λI=>M I) (M O):aX X').bind λL=>M L):aX X').bind λi=>(Sl.iE B G).bind λQ=>(Sl.put B Q (i:X')).bind λS=>M (.n (S,w? N (G-1)))) (λe=>c! e))
def bl(a2 T:Sl X')(G:X')(d:Zb)(B:Sl X')(D:Int):aX (Fw ((Sl X')×Int) (Sl X') Empty):=bh (_s (D>=0)) (H (idx d D) λu=>W2 a2 T G d B D O (_s ((len u)>0)) 0) (M (.x B))
def W1(a2 T:Sl X')(D:X')(G:Zb)(B:Sl X')(d:Int):aX (Sl X'):=H (bL (λq:(Sl X')×Int=>bl a2 T D G q.1 q.2) (B,d)) (Fw.elim (λe=>M e) (λe=>c! e))
end ga
def ga(G:Z4)(D:Zb)(a2 d:Sl X')(B:X'):aX (Sl X'):=H (iX G D) λu=>H (jQ (len D) (O:X')) λw=>ga.W1 a2 d B u w (w? N ((len D)-1))
open ga in
instance Zp(o:Z4)(T:Zb)(a2 G:Sl X')(B:X'):Fc Sy cL (ga o T a2 G B):=Fc.N 112 [enc o,enc T,enc a2,enc G,.bool B] (bR 2 5 o (bu 7 λC _=>bM 6 T (A1 0 22 λa _=>bM 7 T (dO 7 (λu=>(bE [Cv 2 a2,Cv 3 G,Bv 4 B,Cv 11 C,Ov 12,Iv 13 u.2] [Lb 2012 u.1])) (λI=>(0,(bE [Ov 12] [Lb 2012 I]))) (λu=>bp 9 27 (bB 9 λq _=>bM 1 q (dO 14 (λw=>(bE [Cv 2 a2,Cv 3 G,Bv 4 B,Cv 11 C,Ov 12,Iv 13 u.2,Bv 14 w.1,Bv 15 w.2.1,Iv 16 w.2.2] [Lb 2012 u.1])) (λD=>(2,(bE [Cv 2 a2,Cv 3 G,Bv 4 B,Cv 11 C,Ov 12,Iv 13 u.2,Bv 14 D.1,Bv 15 D.2] [Lb 2012 u.1]))) (λw=>bB 8 λQ _=>bM 1 Q (bp 3 42 (bH 9 11 [46] 57 (bp 9 46 (bn 11) (bB 3 λb _=>bB 2 λc _=>jx N 1 2012 λd _=>rB 0 2012 0 1 O (λm=>.bool m) λm _=>bn 1)) λe=>bH 6 11 [59] 70 (bp 6 59 (bB 3 λS _=>bB 2 λW _=>jx N 1 2012 λX _=>rB 0 2012 0 1 O (λz=>.bool z) λz _=>bn 1) (bn 11)) λY=>aZ) aZ)) (λD=>bB 7 λZ _=>bH 2 18 [14,15,77] 95 (bp 2 77 (bn 18) (bB 2 λf _=>bH 2 12 [14,15,82] 94 (bp 2 82 (bH 2 2 [15,84] 86 (bp 2 84 (bn 2) (bn 2)) λg=>bH 1 6 [14,87] 93 (bp 1 87 (bn 6) (bH 3 2 [14,90] 92 (ct 3 90 (bn 2) (bn 2)) λh=>bn 1)) λi=>bn 1) (bn 12)) λj=>bn 1)) λL=>jx N 0 2012 λk _=>r_ 0 2012 (.bool L) λl _=>aZ))) aZ) (λI=>aZ)))))
namespace jA
def bl(D:Sl X')(B:Sl X')(i4:Int):aX (Fw ((Sl X')×Int) (Sl X') Empty):=bh (_s (i4<(len D))) (H (idx D i4) λu=>H (Sl.iE B i4) λw=>H (Sl.put B w ((!u):X')) λz=>M (.n (z,w? N (i4+1)))) (M (.x B))
def W1(D B:Sl X')(i4:Int):aX (Sl X'):=H (bL (λq:(Sl X')×Int=>bl D q.1 q.2) (B,i4)) (Fw.elim (λe=>M e) (λe=>c! e))
end jA
def jA(B:Sl X'):aX (Sl X'):=H (jQ (len B) (O:X')) λu=>jA.W1 B u 0
open jA in
instance abk(B:Sl X'):Fc Sy cL (jA B):=Fc.N 64 [enc B] (bM 8 B (A1 0 7 λC _=>dO 12 (λu=>(bE [Cv 0 B,Ov 3,Iv 4 u.2] [Lb 2003 u.1])) (λw=>(0,(bE [Ov 3] [Lb 2003 w]))) (λu=>bM 7 B (bp 3 11 (bB 10 λz _=>jx N 2 2003 λD _=>r_ 0 2003 (.bool (!z)) λG _=>aZ) aZ)) (λw=>aZ)))
namespace gF
def bK(i:Zb)(G:Int)(d T:Sl X')(g:Z4)(B:Sl X')(D:Int):aX (Fw ((Sl X')×Int) (Sl X') Empty):=bh (_s (D<(len d))) (H (idx d D) λu=>H (Sl.iE B D) λw=>H (Sl.put B w ((!u):X')) λz=>M (.n (z,w? N (D+1)))) (M (.x B))
def W2(d:Zb)(B:Int)(g D T:Sl X')(i:Int)(G:Z4):aX (Sl X'):=H (bL (λq:(Sl X')×Int=>bK d B g D G q.1 q.2) (T,i)) (Fw.elim (λe=>bh (B==18) (H (ga G d D g O) λI=>M I) (bh (B==19) (H (ga G d D g U) λL=>M L) (bh (B==20) (H (ga G d D e U) λu=>H (jA u) λw=>M w) (H (ga G d D e O) λz=>H (jA z) λC=>M C)))) (λe=>c! e))
def bl(g:Zb)(G:Int)(d:Sl X')(T:Z4)(B:Sl X')(D:Int):aX (Fw ((Sl X')×Int) (Sl X') Empty):=bh (_s (D<(len d))) (H (Sl.iE B D) λu=>H (Sl.put B u (U:X')) λw=>M (.n (w,w? N (D+1)))) (M (.x B))
def W1(g:Zb)(B:Int)(d D:Sl X')(T:Int)(G:Z4):aX (Sl X'):=H (bL (λq:(Sl X')×Int=>bl g B d G q.1 q.2) (D,T)) (Fw.elim (λe=>H (jQ (len d) (O:X')) λu=>gF.W2 g B d e u 0 G) (λe=>c! e))
end gF
def gF(G:Z4)(d:Zb)(B:Int)(D:Sl X'):aX (Sl X'):=H (jQ (len D) (O:X')) λu=>gF.W1 d B D u 0 G
open gF in
instance ZH(G:Z4)(d:Zb)(B:Int)(D:Sl X'):Fc Sy cL (gF G d B D):=Fc.N 63 [enc G,enc d,.int N B,enc D] (bR 2 4 G (bM 6 D (A1 0 15 λT _=>dO 12 (λw=>(bE [Cv 1 d,Iv 2 B,Cv 3 D,Pv 4,Ov 9,Iv 10 w.2] [Xb 4 G,Lb 2009 w.1])) (λu=>(0,(bE [Cv 1 d,Iv 2 B,Cv 3 D,Pv 4,Ov 9] [Xb 4 G,Lb 2009 u]))) (λw=>bM 7 D (bp 3 19 (jx N 8 2009 λg _=>r_ 0 2009 (.bool U) λm _=>aZ) aZ)) (λu=>bM 5 D (A1 0 27 λX _=>dO 13 (λz=>(bE [Cv 1 d,Iv 2 B,Cv 3 D,Pv 4,Ov 9,Ov 11,Iv 12 z.2] [Xb 4 G,Lb 2009 u,Lb 2011 z.1])) (λC=>(2,(bE [Cv 1 d,Iv 2 B,Cv 3 D,Pv 4,Ov 9,Ov 11] [Xb 4 G,Lb 2009 u,Lb 2011 C]))) (λz=>bM 8 D (bp 3 31 (bB 10 λI _=>jx N 2 2011 λj _=>r_ 0 2011 (.bool (!I)) λZ _=>aZ) aZ)) (λC=>bp 15 43 (bu 8 λa _=>aZ) (bp 7 50 (bu 8 λb _=>aZ) (bp 7 57 (bu 9 λL _=>bu 0 λi _=>aZ) (bu 12 λQ _=>bu 0 λS _=>aZ)))))))))
namespace kQ
def bl(B:U')(D:Sl Var)(a:Int):aX (Fw Int Unit Int):=bh (_s (a<(len D))) (H (idx D a) λu=>bh (C? u.name==C? B) (M (.r a)) (M (.n (w? N (a+1))))) (M (.x ()))
def W1(B:U')(D:Sl Var)(a:Int):Ps:=H (bL (λq:Int=>bl B D q) a) (Fw.elim (λe=>M (-1)) (λe=>M e))
end kQ
def kQ(D:Z4)(p1:Int)(B:U'):Ps:=H (idx D.b? p1) λu=>kQ.W1 B u.h? 0
open kQ in
instance YF(D:Z4)(p1:Int)(B:U'):Fc Sy cL (kQ D p1 B):=Fc.M 157 [enc D,.int N p1,.str B] (bR 2 3 D (bB 8 λw _=>dM 13 (λz=>(bE [(2,.v (.str B)),Cv 7 w.h?,Iv 8 z] [])) (λu=>(0,(bE [] []))) (λu=>(bE [Iv 6 u] [])) (λz=>bM 6 w.h? (bp 3 18 (bB 9 λC _=>bp 6 27 aZ aZ) aZ)) (λu=>aZ) (λu=>aZ)))
namespace ig
def bK(p1 G T:Int)(D:Sl Assign)(d:Z4)(B:Int):aX (Fw Int Unit Int):=bh (_s (B<(len D))) (H (idx D B) λu=>bh (u.var==G) (H (idx D B) λw=>M (.r w.value)) (M (.n (w? N (B+1))))) (M (.x ()))
def W2(p1 T d:Int)(B:Sl Assign)(D:Int)(G:Z4):aX (Fw Int Unit Int):=H (bL (λq:Int=>bK p1 T d B G q) D) (Fw.elim (λe=>M (.n (w? N (d-1)))) (λe=>M (.r e)))
def bl(p1 G:Int)(B:Z4)(D:Int):aX (Fw Int Unit Int):=bh (_s (D>=0)) (H (idx B.b? p1) λu=>H (idx u.c? D) λw=>W2 p1 G D w.assign 0 B) (M (.x ()))
def W1(p1 D G:Int)(B:Z4):Ps:=H (bL (λq:Int=>bl p1 D B q) G) (Fw.elim (λe=>H (idx B.b? p1) λu=>H (idx u.h? D) λw=>M w.init_) (λe=>M e))
end ig
def ig(B:Z4)(p1 D k3:Int):Ps:=ig.W1 p1 D (w? N (k3-1)) B
open ig in
instance ZG(B:Z4)(p1 D k3:Int):Fc Sy cL (ig B p1 D k3):=Fc.M 156 [enc B,.int N p1,.int N D,.int N k3] (bR 2 4 B (dM 13 (λu=>(bE [Iv 1 p1,Iv 2 D,Pv 4,Iv 9 u] [Xb 4 B])) (λw=>(0,(bE [Iv 1 p1,Iv 2 D,Pv 4] [Xb 4 B]))) (λw=>(bE [Iv 8 w] [])) (λu=>bp 8 15 (bB 10 λI _=>bB 3 λC _=>dM 12 (λG=>(bE [Iv 1 p1,Iv 2 D,Pv 4,Iv 9 u,Cv 10 C.assign,Iv 11 G] [Xb 4 B])) (λz=>(2,(bE [Iv 1 p1,Iv 2 D,Pv 4,Iv 9 u] [Xb 4 B]))) (λz=>(bE [Iv 8 z] [])) (λG=>bM 6 C.assign (bp 3 31 (bB 9 λd _=>bp 6 40 (bB 5 λL _=>aZ) aZ) aZ)) (λz=>aZ) (λz=>aZ)) aZ) (λw=>bB 7 λg _=>bB 3 λQ _=>aZ) (λw=>aZ)))
namespace iV
def bl(T:Zg)(p2 g:Int)(G:Z4)(B:Zg)(D:Int):aX (Fw ((Zg)×Int) Zg Empty):=H (idx T p2) λz=>bh (_s (D<z)) (H (idx G.b? p2) λC=>H (idx C.c? D) λu=>H (bh (u.kind==2) (M (!(u.k?==g))) (M U)) λI=>bh I (M (.n (B,w? N (D+1)))) (H (eo G 3 u.d?) λw=>(bh (w.index==0) (M U) (H (idx T w.proc) λd=>M (_s (w.index>d))):aX X').bind λL=>bh L (H (eH B (u.d?:Int)) λi=>M (.n (i,w? N (D+1)))) (M (.n (B,w? N (D+1)))))) (M (.x B))
def W1(d:Zg)(p2 T:Int)(B:Zg)(D:Int)(G:Z4):aX Zg:=H (bL (λq:(Zg)×Int=>bl d p2 T G q.1 q.2) (B,D)) (Fw.elim (λe=>M e) (λe=>c! e))
end iV
def iV(B:Z4)(D:Zg)(p2 G:Int):aX Zg:=iV.W1 D p2 G (Sl.nil:Zg) 0 B
open iV in
instance T3(B:Z4)(D:Zg)(p2 G:Int):Fc Sy cL (iV B D p2 G):=Fc.N 158 [enc B,enc D,.int N p2,.int N G] (bR 2 4 B (dO 17 (λu=>(bE [Cv 1 D,Iv 2 p2,Iv 3 G,Pv 4,Ov 9,Iv 10 u.2] [Xb 4 B,Lb 2009 u.1])) (λw=>(0,(bE [Ov 9] [Lb 2009 w]))) (λu=>bB 8 λC _=>bp 4 18 (bB 10 λI _=>bB 3 λz _=>o7 2 11 0 z (bH 9 5 [33] 38 (ct 9 33 (bn 5) (bn 5)) λd=>bp 2 38 aZ (bu 8 λL _=>bH 10 9 [12,46] 55 (bp 10 46 (bn 9) (bB 5 λg _=>bn 3)) λQ=>bp 2 55 (om 6 2009 59 60 λS _=>aZ) aZ))) aZ) (λw=>aZ)))
def j_(B:Z4)(D:Zg)(p2:T')(r:(Z4×(Zg)×T')->Ps):Ps:=bh (p2.kind==1) (M p2.n) (bh (p2.kind==2) (H (kQ B p2.proc p2.name) λS=>H (idx D p2.proc) λT=>H (ig B p2.proc S T) λg=>M g) (bh (p2.kind==3) (H (idx D p2.proc) λm=>M m) (bh (p2.kind==4) (H (iV B D p2.proc p2.k?) λX=>M (len X)) (bh (p2.kind==5) (H (idx p2.l 0) λj=>H (r (B,D,j)) λZ=>M (w? N (0-Z))) (bh (p2.kind==6) (H (idx p2.l 0) λa=>H (r (B,D,a)) λb=>H (idx p2.l 1) λu=>H (r (B,D,u)) λw=>M (w? N (b+w))) (bh (p2.kind==7) (H (idx p2.l 0) λz=>H (r (B,D,z)) λC=>H (idx p2.l 1) λG=>H (r (B,D,G)) λI=>M (w? N (C-I))) (H (idx p2.l 0) λd=>H (r (B,D,d)) λL=>H (idx p2.l 1) λi=>H (r (B,D,i)) λQ=>M (w? N (L*Q)))))))))
theorem Ea(r:(Z4×(Zg)×T')->Ps)(a:eZ Sy cL 113 (λz:Z4×(Zg)×T'=>[enc z.1,enc z.2.1,enc z.2.2]) (λr:Int=>[.int N r]) r U)(B:Z4)(D:Zg)(p2:T'):Le (H (j_ B D p2 r) λr=>M [.int N r]) (iB cL 113 [enc B,enc D,enc p2]):=(Fc.M 113 [enc B,enc D,enc p2] (bR 2 3 B (bR 0 5 p2 (bp 17 9 aZ (bp 7 13 (ck 11 λX _=>bB 3 λm _=>ck 1 λZ _=>aZ) (bp 7 30 (bB 6 λb _=>aZ) (bp 7 37 (bu 9 λg _=>bM 0 g aZ) (bp 7 47 (dK 7 52 (Pred.eT p2.l) (bB 0 λL _=>ck (F:=Fc.of (B,D,L) a) 1 λc _=>aZ)) (bp 7 57 (dK 7 62 (Pred.eT p2.l) (bB 0 λj _=>ck (F:=Fc.of (B,D,j) a) 1 λd _=>dK 4 69 (Pred.eT p2.l) (bB 0 λu _=>ck (F:=Fc.of (B,D,u) a) 1 λQ _=>aZ))) (bp 7 74 (dK 7 79 (Pred.eT p2.l) (bB 0 λw _=>ck (F:=Fc.of (B,D,w) a) 1 λS _=>dK 4 86 (Pred.eT p2.l) (bB 0 λC _=>ck (F:=Fc.of (B,D,C) a) 1 λT _=>aZ))) (dK 10 94 (Pred.eT p2.l) (bB 0 λG _=>ck (F:=Fc.of (B,D,G) a) 1 λi _=>dK 4 101 (Pred.eT p2.l) (bB 0 λI _=>ck (F:=Fc.of (B,D,I) a) 1 λo _=>aZ)))))))))))):Fc Sy cL (j_ B D p2 r)).F.h ()
def kP(B:Z4)(D:Zg)(p2:T'):Ps:=cI (λr(z:Z4×(Zg)×T')=>j_ z.1 z.2.1 z.2.2 r) 100000 (B,D,p2)
instance YT(B:Z4)(D:Zg)(p2:T'):Fc Sy cL (kP B D p2):=Fc.of (B,D,p2) (eZ.fix (A:=λz:Z4×(Zg)×T'=>[enc z.1,enc z.2.1,enc z.2.2]) (E:=λr:Int=>[.int N r]) (sc:=U) (b:=(λr(z:Z4×(Zg)×T')=>j_ z.1 z.2.1 z.2.2 r)) p? (λ_ _=>rfl) (λr a z=>Ea r a z.1 z.2.1 z.2.2) 100000)
def eA(B:Z4)(D:Zg)(p2:T')(r:(Z4×(Zg)×T')->aX X'):aX X':=bh (p2.kind==9) (H (idx p2.l 0) λa=>H (kP B D a) λb=>H (idx p2.l 1) λc=>H (kP B D c) λd=>M (b==d)) (bh (p2.kind==10) (H (idx p2.l 0) λe=>H (kP B D e) λf=>H (idx p2.l 1) λg=>H (kP B D g) λh=>M (!(f==h))) (bh (p2.kind==11) (H (idx p2.l 0) λi=>H (kP B D i) λu=>H (idx p2.l 1) λw=>H (kP B D w) λz=>M (_s (u<z))) (bh (p2.kind==12) (H (idx p2.l 0) λC=>H (kP B D C) λG=>H (idx p2.l 1) λI=>H (kP B D I) λm=>M (_s (G<=m))) (bh (p2.kind==13) (M U) (bh (p2.kind==15) (H (idx p2.l 0) λL=>H (r (B,D,L)) λq=>M (!q)) (bh (p2.kind==16) (H (idx p2.l 0) λQ=>H (r (B,D,Q)) λS=>(bh S (H (idx p2.l 1) λT=>H (r (B,D,T)) λo=>M o) (M O):aX X').bind λy=>M y) (bh (p2.kind==17) (H (idx p2.l 0) λX=>H (r (B,D,X)) λt=>(bh t (M U) (H (idx p2.l 1) λZ=>H (r (B,D,Z)) λj=>M j):aX X').bind λk=>M k) (M O))))))))
theorem Eb(r:(Z4×(Zg)×T')->aX X')(a:eZ Sy cL 65 (λz:Z4×(Zg)×T'=>[enc z.1,enc z.2.1,enc z.2.2]) (λr:X'=>[.bool r]) r U)(B:Z4)(D:Zg)(p2:T'):Le (H (eA B D p2 r) λr=>M [.bool r]) (iB cL 65 [enc B,enc D,enc p2]):=(Fc.M 65 [enc B,enc D,enc p2] (bR 2 3 B (bR 0 5 p2 (bp 17 9 (dK 7 14 (Pred.eT p2.l) (bB 0 λb _=>ck 1 λc _=>dK 4 21 (Pred.eT p2.l) (bB 0 λd _=>ck 1 λe _=>aZ))) (bp 7 26 (dK 7 31 (Pred.eT p2.l) (bB 0 λf _=>ck 1 λg _=>dK 4 38 (Pred.eT p2.l) (bB 0 λh _=>ck 1 λi _=>aZ))) (bp 7 43 (dK 7 48 (Pred.eT p2.l) (bB 0 λj _=>ck 1 λt _=>dK 4 55 (Pred.eT p2.l) (bB 0 λQ _=>ck 1 λS _=>aZ))) (bp 7 60 (dK 7 65 (Pred.eT p2.l) (bB 0 λT _=>ck 1 λq _=>dK 4 72 (Pred.eT p2.l) (bB 0 λA _=>ck 1 λX _=>aZ))) (bp 7 77 aZ (bp 7 79 (dK 7 84 (Pred.eT p2.l) (bB 0 λC _=>ck (F:=Fc.of (B,D,C) a) 1 λy _=>aZ)) (bp 7 89 (dK 7 94 (Pred.eT p2.l) (bB 0 λG _=>ck (F:=Fc.of (B,D,G) a) 1 λZ _=>BW 1 8 [105,97] (λu=>(bE [Iv 8 p2.kind,Bv 9 O,Bv 26 O,Bv 43 O,Bv 60 O,Bv 77 O,Bv 79 O,Bv 89 U,Bv 106 u] [Xb 3 B,Xb 5 p2])) (bp 1 98 (dK 4 102 (Pred.eT p2.l) (bB 0 λI _=>ck (F:=Fc.of (B,D,I) a) 1 λk _=>bn 1)) (bn 8)) λu=>aZ)) (bp 7 107 (dK 7 112 (Pred.eT p2.l) (bB 0 λo _=>ck (F:=Fc.of (B,D,o) a) 1 λl _=>BW 1 8 [123,115] (λw=>(bE [Bv 9 O,Bv 26 O,Bv 43 O,Bv 60 O,Bv 77 O,Bv 79 O,Bv 89 O,Bv 107 U,Bv 124 w] [Xb 3 B,Xb 5 p2])) (bp 1 116 (bn 8) (dK 4 120 (Pred.eT p2.l) (bB 0 λL _=>ck (F:=Fc.of (B,D,L) a) 1 λm _=>bn 1))) λw=>aZ)) aZ)))))))))):Fc Sy cL (eA B D p2 r)).F.h ()
def sJ(B:Z4)(D:Zg)(p2:T'):aX X':=cI (λr(z:Z4×(Zg)×T')=>eA z.1 z.2.1 z.2.2 r) 100000 (B,D,p2)
instance Yf(B:Z4)(D:Zg)(p2:T'):Fc Sy cL (sJ B D p2):=Fc.of (B,D,p2) (eZ.fix (A:=λz:Z4×(Zg)×T'=>[enc z.1,enc z.2.1,enc z.2.2]) (E:=λr:X'=>[.bool r]) (sc:=U) (b:=(λr(z:Z4×(Zg)×T')=>eA z.1 z.2.1 z.2.2 r)) p? (λ_ _=>rfl) (λr a z=>Eb r a z.1 z.2.1 z.2.2) 100000)
namespace cR
def dQ(Y:Zb)(g W:Sl X')(T:T')(D:Sl X')(B:Int)(r:(Z4×(Zb)×T')->aX (Sl X')):aX (Fw ((Sl X')×Int) (Sl X') Empty):=bh (_s (B<(len Y))) ((idx g B).bind λu=>(bh u ((idx W B).bind λw=>M w) (M O):aX X').bind λz=>(bh z (M U) ((bh (T.kind==17) ((idx g B).bind λC=>(bh C (M U) ((idx W B).bind λG=>M G):aX X').bind λI=>M I) (M O):aX X').bind λd=>M d):aX X').bind λL=>(Sl.iE D B).bind λi=>(Sl.put D i (L:X')).bind λQ=>M (.n (Q,w? N (B+1)))) (M (.x D))
def W3(d:Zb)(B T g:Sl X')(D:Int)(G:T')(r:(Z4×(Zb)×T')->aX (Sl X')):aX (Sl X'):=H (bL (λq:(Sl X')×Int=>dQ d T g G q.1 q.2 r) (B,D)) (Fw.elim (λe=>M e) (λe=>c! e))
def yZ(T:Zb)(G:Z4)(d:T')(B:Sl X')(D:Int)(r:(Z4×(Zb)×T')->aX (Sl X')):aX (Fw ((Sl X')×Int) (Sl X') Empty):=bh (_s (D<(len T))) (H (idx T D) λu=>H (sJ G u d) λw=>H (Sl.iE B D) λz=>H (Sl.put B z (w:X')) λC=>M (.n (C,w? N (D+1)))) (M (.x B))
def W4(T:Zb)(B:Sl X')(D:Int)(G:Z4)(d:T')(r:(Z4×(Zb)×T')->aX (Sl X')):aX (Sl X'):=H (bL (λq:(Sl X')×Int=>yZ T G d q.1 q.2 r) (B,D)) (Fw.elim (λe=>M e) (λe=>c! e))
def J2(d:Zb)(D:Sl X')(T:X')(G:Z4)(B:T')(r:(Z4×(Zb)×T')->aX (Sl X')):aX (Sl X'):=bh T (H (idx B.l 0) λz=>H (r (G,d,z)) λC=>H (idx B.l 1) λu=>H (r (G,d,u)) λw=>cR.W3 d D C w 0 B r) (cR.W4 d D 0 G B r)
def J1(T:Zb)(G:Sl X')(d:Int)(g:X')(B:Z4)(D:T')(r:(Z4×(Zb)×T')->aX (Sl X')):aX (Sl X'):=bh g (H (idx D.l 0) λu=>H (r (B,T,u)) λw=>H (gF B T D.kind w) λz=>M z) (bh (d==15) (H (idx D.l 0) λC=>H (r (B,T,C)) λI=>H (jA I) λL=>M L) (bh (d==16) (cR.J2 T G U B D r) (cR.J2 T G (d==17) B D r)))
theorem GB(r:(Z4×(Zb)×T')->aX (Sl X'))(a:eZ Sy cL 29 (λz:Z4×(Zb)×T'=>[enc z.1,enc z.2.1,enc z.2.2]) (λr:Sl X'=>[enc r]) r O)(G:Zb)(m:Sl X')(T:X')(D:Z4)(B:T'):Le ((J2 G m T D B r).bind (λr=>M [enc r])) (bZ Sy cL (oR (tr Tx 29)) (o9 (tb Tx 29) [1,1,0,1,0,1,0,0,1,1,1,1,0,0] [] (bE [Cv 1 G,Pv 3,Pv 5,Ov 7,Bv 44 T] [Xb 3 D,Xb 5 B,Lb 2007 m]))):=bp 0 44 (dK 7 50 (Pred.eT B.l) (bB 0 λo _=>bu (F:=Fc.of (D,G,o) a) 1 λW _=>dK 4 57 (Pred.eT B.l) (bB 0 λC _=>bu (F:=Fc.of (D,G,C) a) 1 λI _=>dO 13 (λu=>(bE [Cv 1 G,Pv 5,Ov 7,Cv 8 W,Cv 9 I,Iv 10 u.2] [Xb 5 B,Lb 2007 u.1])) (λL=>(1,(bE [Ov 7] [Lb 2007 L]))) (λu=>bM 7 G (bp 3 64 (bB 10 λX _=>bH 2 5 [73] 78 (bp 2 73 (bB 2 λY _=>bn 2) (bn 5)) λZ=>bH 1 16 [79] 95 (bp 1 79 (bn 16) (bH 4 11 [83] 94 (bp 4 83 (bB 2 λb _=>bH 2 5 [88] 93 (bp 2 88 (bn 5) (bB 2 λc _=>bn 2)) λd=>bn 1) (bn 11)) λe=>bn 1)) λq=>jx N 0 2007 λf _=>r_ 0 2007 (.bool q) λg _=>aZ) aZ)) (λL=>aZ)))) (dO 13 (λw=>(bE [Cv 1 G,Pv 3,Pv 5,Ov 7,Iv 11 w.2] [Xb 3 D,Xb 5 B,Lb 2007 w.1])) (λQ=>(3,(bE [Ov 7] [Lb 2007 Q]))) (λw=>bM 7 G (bp 3 101 (bB 11 λh _=>ck 2 λS _=>jx N 0 2007 λi _=>r_ 0 2007 (.bool S) λj _=>aZ) aZ)) (λQ=>aZ))
theorem ja(r:(Z4×(Zb)×T')->aX (Sl X'))(a:eZ Sy cL 29 (λz:Z4×(Zb)×T'=>[enc z.1,enc z.2.1,enc z.2.2]) (λr:Sl X'=>[enc r]) r O)(T:Zb)(B:Sl X')(d:Int)(g:X')(D:Z4)(G:T'):Le (H (J1 T B d g D G r) (λr=>M [enc r])) (bZ Sy cL (oR (tr Tx 29)) (o9 (tb Tx 29) [1,1,0,1,0,1,0,0] [] (bE [Cv 1 T,Pv 3,Pv 5,Ov 7,Iv 16 d,Bv 17 g] [Xb 3 D,Xb 5 G,Lb 2007 B]))):=bp 0 17 (dK 11 29 (Pred.eT G.l) (bB 0 λu _=>bu (F:=Fc.of (D,T,u) a) 1 λC _=>bu 0 λI _=>aZ)) (bp 7 34 (dK 7 39 (Pred.eT G.l) (bB 0 λw _=>bu (F:=Fc.of (D,T,w) a) 1 λL _=>bu 0 λi _=>aZ)) (bp 8 44 (kn 5 (GB r a T B U D G)) (kn 8 (GB r a T B (d==17) D G))))
end cR
def fh(D:Z4)(B:Zb)(p2:T')(r:(Z4×(Zb)×T')->aX (Sl X')):aX (Sl X'):=H (jQ (len B) (O:X')) λu=>bh (p2.kind==18) (cR.J1 B u p2.kind U D p2 r) (bh (p2.kind==19) (cR.J1 B u p2.kind U D p2 r) (bh (p2.kind==20) (cR.J1 B u p2.kind U D p2 r) (cR.J1 B u p2.kind (p2.kind==21) D p2 r)))
open cR in
theorem De(r:(Z4×(Zb)×T')->aX (Sl X'))(a:eZ Sy cL 29 (λz:Z4×(Zb)×T'=>[enc z.1,enc z.2.1,enc z.2.2]) (λr:Sl X'=>[enc r]) r O)(B:Z4)(D:Zb)(p2:T'):Le (H (fh B D p2 r) λr=>M [enc r]) (iB cL 29 [enc B,enc D,enc p2]):=(Fc.N 29 [enc B,enc D,enc p2] (bR 2 3 B (bR 0 5 p2 (bM 6 D (A1 0 14 λu _=>bp 18 17 (kn 5 (ja r a D u p2.kind U B p2)) (bp 7 17 (kn 5 (ja r a D u p2.kind U B p2)) (bp 7 17 (kn 5 (ja r a D u p2.kind U B p2)) (kn 8 (ja r a D u p2.kind (p2.kind==21) B p2)))))))):Fc Sy cL (fh B D p2 r)).F.h ()
def cR(B:Z4)(D:Zb)(p2:T'):aX (Sl X'):=cI (λr(z:Z4×(Zb)×T')=>fh z.1 z.2.1 z.2.2 r) 100000 (B,D,p2)
instance W_(B:Z4)(D:Zb)(p2:T'):Fc Sy cL (cR B D p2):=Fc.of (B,D,p2) (eZ.fix (A:=λz:Z4×(Zb)×T'=>[enc z.1,enc z.2.1,enc z.2.2]) (E:=λr:Sl X'=>[enc r]) (sc:=O) (b:=(λr(z:Z4×(Zb)×T')=>fh z.1 z.2.1 z.2.2 r)) p? (λh=>nomatch h) (λr a z=>De r a z.1 z.2.1 z.2.2) 100000)
def ny(B:Z4)(p1:T'):aX ((Sl X')×(Zb)×Int):=H (jQ (len B.b?) (0:Int)) λz=>H (jU B z p1) λw=>bh (w==0) (H (fH B) λu=>bh u.2 (H (cR B u.1 p1) λC=>M (C,u.1,0)) (M (Sl.nil,Sl.nil,16))) (M (Sl.nil,Sl.nil,w))
instance X0(B:Z4)(p1:T'):Fc Sy cL (ny B p1):=Fc.N 10 [enc B,enc p1] (bR 2 2 B (bR 0 3 p1 (bM 11 B.b? (adR 0 λu _=>ck 1 λw _=>ct 9 18 (bu 6 λz _=>ct 14 26 (bu 8 λC _=>aZ) aZ) aZ))))
namespace gG
def bl(a0 D:Sl X')(B:Int):aX (Fw Int Unit Unit):=bh (_s (B<(len a0))) (H (idx a0 B) λu=>H (idx D B) λw=>bh (u==w) (M (.n (w? N (B+1)))) (M (.r ()))) (M (.x ()))
def W1(a0 B:Sl X')(D:Int):aX X':=H (bL (λq:Int=>bl a0 B q) D) (Fw.elim (λe=>M U) (λe=>M O))
end gG
def gG(a0 B:Sl X'):aX X':=bh ((len a0)==(len B)) (gG.W1 a0 B 0) (M O)
open gG in
instance Tm(a0 B:Sl X'):Fc Sy cL (gG a0 B):=Fc.M 11 [enc a0,enc B] (bM 9 a0 (bM 1 B (ct 3 10 (dM 11 (λw=>(bE [Cv 0 a0,Cv 1 B,Iv 5 w] [])) (λu=>(0,(bE [] []))) (λu=>(bE [Bv 4 O] [])) (λw=>bM 6 a0 (bp 3 14 (bB 9 λz _=>bB 3 λC _=>ct 4 25 aZ aZ) aZ)) (λu=>aZ) (λu=>aZ)) aZ)))
namespace dI
def J1(T:Zg)(x9:X')(d:Int)(D:Sl X')(G:Zb)(B:Int):aX X':=bh (B==0) ((bh (d==0) (H (oy G T) λu=>H (idx D u) λw=>M (x9==w)) (M O):aX X').bind λz=>M z) (H (bh (d==B) (M (!x9)) (M O)) λC=>M C)
end dI
def dI(B:Z4)(D:Zg)(p2:T'):aX X':=(zp).bind λT=>bh T ((kZ B).bind λg=>(bh g (M U) ((xo p2).bind λW=>M W):aX X').bind λX=>(bh X (M U) (M (_s ((len D)>20))):aX X').bind λY=>bh Y (M U) ((ji B p2).bind λC=>(fS B D p2).bind λw=>(pN B p2).bind λG=>(ny B p2).bind λu=>(gG C.1 u.1).bind λI=>(bh I (M (!(C.2==u.2.2))) (M U):aX X').bind λd=>(bh d (M U) (M (!(G.2==u.2.2))):aX X').bind λL=>(bh L (M U) ((bh (u.2.2==0) ((idx u.1 0).bind λi=>M i) (M O):aX X').bind λQ=>M (!(G.1==Q))):aX X').bind λS=>bh S (M O) ((jU B D p2).bind λz=>bh (z==0) (dI.J1 D w.1 w.2 u.1 u.2.1 u.2.2) (dI.J1 D w.1 w.2 u.1 u.2.1 z)))) (M O)
open dI in
instance zK(D:Z4)(G:Zg)(p2:T'):Fc Sy cL (dI D G p2):=Fc.M 3 [enc D,enc G,enc p2] (bR 2 3 D (bR 0 5 p2 (bu 6 λT _=>ct 3 18 (bu 7 λg _=>bH 1 3 [21] 24 (bp 1 21 (bn 3) (bu 1 λW _=>bn 1)) λX=>bH 1 4 [25] 29 (bp 1 25 (bn 4) (bM 1 G (bn 2))) λY=>bp 2 29 aZ (bu 7 λZ _=>bu 12 λa _=>bu 11 λb _=>bu 11 λc _=>bu 14 λC _=>bH 2 4 [8,60] 64 (ct 2 60 (bn 4) (bn 4)) λI=>bH 1 4 [12,65] 69 (bp 1 65 (bn 4) (bn 4)) λd=>bH 1 10 [11,70] 80 (bp 1 70 (bn 10) (bH 4 4 [74] 78 (bp 4 74 (bB 1 λL _=>bn 2) (bn 4)) λi=>bn 2)) λQ=>bp 2 80 aZ (bu 8 λS _=>bp 10 86 (o_ 7 (ct 7 89 (bH 8 9 [1,9,13,14,99] 108 (bp 8 99 (bu 4 λu _=>bB 0 λw _=>bn 3) (bn 9)) λz=>aZ) (bH 7 3 [9,93] 96 (bp 7 93 (bn 3) (bn 3)) λB=>aZ))) (o_ 4 (ct 7 89 (bH 8 9 [1,9,13,14,99] 108 (bp 8 99 (bu 4 λu _=>bB 0 λw _=>bn 3) (bn 9)) λz=>aZ) (bH 7 3 [9,93] 96 (bp 7 93 (bn 3) (bn 3)) λB=>aZ)))))) aZ)))
end
end Go.VE
