/- Functions. -/
import Derived.Test.YtbglidfgdmhlnaaGreatDoorK1
import Derived.Test.YtbglidfgdmhlnaaGreatDoorT1
set_option linter.all false
noncomputable section
open List(all_cons all_eq_true all_nil cons_append map_append map_cons mem_map mem_of_getElem? replicate)
open Go.IntKind(signed wrap)
open Nat(beq ble zero_add)
open Empty(elim)
open ByteArray(toList)
namespace Go.VE
theorem Zae{p:Prop}(h:p:=by kernel_rfl):p:=h
structure Var where
 name:ByteArray
 init_:Int
 deriving Inhabited
instance:bD Var where
 cells x:=[.str x.name,.int .i64 x.init_]
 agg:=true
 size:=2
 len _:=rfl
 good x:=by simp only[V.cG,V.good,k_,Bool.and_self]
 one x:=by simp only[all_cons,all_nil,oZ,nC,oU,oB,Bool.and_self]
 plain h:=by cases h
structure Assign where
 var:Int
 value:Int
 deriving Inhabited
instance:bD Assign where
 cells x:=[.int .i64 x.var,.int .i64 x.value]
 agg:=true
 size:=2
 len _:=rfl
 good x:=by simp only[V.cG,V.good,k_,Bool.and_self]
 one x:=by simp only[all_cons,all_nil,oZ,nC,oU,oB,Bool.and_self]
 plain h:=by cases h
structure Event where
 kind:Int
 peer:Int
 message:Int
 time:Int
 assign:Sl Assign
 deriving Inhabited
abbrev WF:=Event
instance:bD WF where
 cells x:=[.int .i64 x.kind,.int .i64 x.peer,.int .i64 x.message,.int .i64 x.time,enc x.assign]
 agg:=true
 size:=5
 len _:=rfl
 good x:=by simp only[V.cG,V.good,k_,Bool.and_self]
 one x:=by simp only[all_cons,all_nil,oZ,nC,oU,oB,Bool.and_self]
 plain h:=by cases h
structure bS where
 name:ByteArray
 vars:Sl Var
 events:Sl Event
 deriving Inhabited
instance:bD bS where
 cells x:=[.str x.name,enc x.vars,enc x.events]
 agg:=true
 size:=3
 len _:=rfl
 good x:=by simp only[V.cG,V.good,k_,Bool.and_self]
 one x:=by simp only[all_cons,all_nil,oZ,nC,oU,oB,Bool.and_self]
 plain h:=by cases h
structure Trace where
 procs:Sl bS
 deriving Inhabited
abbrev Z4:=Trace
instance:bD Z4 where
 cells x:=[enc x.procs]
 agg:=true
 size:=1
 len _:=rfl
 good x:=by simp only[V.cG,V.good,k_,Bool.and_self]
 one x:=by simp only[all_cons,all_nil,oZ,nC,oU,oB,Bool.and_self]
 plain h:=by cases h
structure Pred where
 kind:Int
 n:Int
 proc:Int
 peer:Int
 name:ByteArray
 l:Sl Pred
abbrev T':=Pred
mutual
def Pred.WW:T'->So
 |⟨f0,f1,f2,f3,B,f5⟩=>[.int .i64 f0,.int .i64 f1,.int .i64 f2,.int .i64 f3,.str B,Pred.Js f5]
def Pred.Js:Sl T'->V
 |.nil=>.bO|.emp=>.dY|.row l=>.fsl 6 (Pred.Gg l)|.part l=>.fsl 6 (Pred.Gg l)
def Pred.Gg:aX T'->S'
 |[]=>[]|x::r=>Pred.WW x::Pred.Gg r
end
instance:Inhabited T':=⟨⟨default,default,default,default,default,Sl.nil⟩⟩
mutual
theorem Pred.Yj:∀x:T',V.cG x.WW=true
 |⟨f0,f1,f2,f3,B,f5⟩=>by simp only[Pred.WW,V.cG,V.good,Pred.K5,Bool.and_self]
theorem Pred.K5:∀x:Sl T',V.good (Pred.Js x)=true
 |.nil=>rfl|.emp=>rfl|.row l=>by simp only[Pred.Js,V.good,Pred.EP]|.part l=>by simp only[Pred.Js,V.good,Pred.EP]
theorem Pred.EP:∀x:aX T',V.pE (Pred.Gg x)=true
 |[]=>rfl|x::r=>by simp only[Pred.Gg,V.pE,Pred.Yj,Pred.EP,Bool.and_self]
end
theorem Pred.XC(s:Sl T'):V.one (Pred.Js s)=true:=by cases s<;>simp[Pred.Js,V.one]
instance:bD T' where
 cells x:=[.int .i64 x.kind,.int .i64 x.n,.int .i64 x.proc,.int .i64 x.peer,.str x.name,Pred.Js x.l]
 agg:=true
 size:=6
 len _:=rfl
 good x:=by simp only[V.cG,V.good,Pred.K5,Bool.and_self]
 one x:=by simp only[all_cons,all_nil,oZ,nC,oU,Pred.XC,Bool.and_self]
 plain h:=by cases h
theorem Pred.R5(x:T'):Pred.WW x=cells x:=by cases x;rfl
theorem Pred.EU:∀l:aX T',Pred.Gg l=rows l
 |[]=>rfl|x::r=>by rw[Pred.Gg,Pred.EU r,Pred.R5];rfl
theorem Pred.fe(s:Sl T'):Pred.Js s=enc s:=by cases s with|nil=>rfl|emp=>rfl|row l=>show V.fsl 6 (Pred.Gg l)=V.fsl 6 (rows l);rw[Pred.EU]|part l=>show V.fsl 6 (Pred.Gg l)=V.fsl 6 (rows l);rw[Pred.EU]
structure bC where
 from_:bf
 to_:bf
 deriving Inhabited
instance:bD bC where
 cells x:=[.int .i64 x.from_.proc,.int .i64 x.from_.index,.int .i64 x.to_.proc,.int .i64 x.to_.index]
 agg:=true
 size:=4
 len _:=rfl
 good x:=by simp only[V.cG,V.good,k_,Bool.and_self]
 one x:=by simp only[all_cons,all_nil,oZ,nC,oU,oB,Bool.and_self]
 plain h:=by cases h
structure bV where
 low:Int
 high:Int
 deriving Inhabited
instance:bD bV where
 cells x:=[.int .i64 x.low,.int .i64 x.high]
 agg:=true
 size:=2
 len _:=rfl
 good x:=by simp only[V.cG,V.good,k_,Bool.and_self]
 one x:=by simp only[all_cons,all_nil,oZ,nC,oU,oB,Bool.and_self]
 plain h:=by cases h
structure cu where
 lengths:Sl Int
 need:Sl (Sl bf)
 deriving Inhabited
instance:bD cu where
 cells x:=[enc x.lengths,enc x.need]
 agg:=true
 size:=2
 len _:=rfl
 good x:=by simp only[V.cG,V.good,k_,Bool.and_self]
 one x:=by simp only[all_cons,all_nil,oZ,nC,oU,oB,Bool.and_self]
 plain h:=by cases h
structure cr where
 t:Trace
 counts:Sl Int
 values:Sl (Sl Int)
 deriving Inhabited
instance:bD cr where
 cells x:=[enc x.t.procs,enc x.counts,enc x.values]
 agg:=true
 size:=3
 len _:=rfl
 good x:=by simp only[V.cG,V.good,k_,Bool.and_self]
 one x:=by simp only[all_cons,all_nil,oZ,nC,oU,oB,Bool.and_self]
 plain h:=by cases h
structure bY where
 t:Trace
 l:Sl (Sl Int)
 index:FX ByteArray Int
 truth:Sl Bool
 deriving Inhabited
instance:bD bY where
 cells x:=[enc x.t.procs,enc x.l,enc x.index,enc x.truth]
 agg:=true
 size:=4
 len _:=rfl
 good x:=by simp only[V.cG,V.good,k_,Bool.and_self]
 one x:=by simp only[all_cons,all_nil,oZ,nC,oU,oB,NW,Bool.and_self]
 plain h:=by cases h
def jR(p:Int):Int->aX WF->aX (bf×WF)
 |_,[]=>[]|j,e::r=>(⟨p,j+1⟩,e)::jR p (j+1) r
def gO:Int->aX bS->aX (bf×WF)
 |_,[]=>[]|i,p::r=>jR i 0 p.events.l++gO (i+1) r
def qV(n:Nat):X':=decide (n<9223372036854775807)
def kB(t:Z4):aY (aX (bf×WF)):=if qV t.procs.l.length&&t.procs.l.all λp=>qV p.events.l.length then some (gO 0 t.procs.l)else none
def wK:cg 22 Int:=⟨Go.Proofs.YtbglidfgdmhlnaaGreatDoor.Gv,rfl⟩
end Go.VE
namespace Go.VE
def V4:Nat->Nat->Nat->ST
 |0,_,_=>[]|f+1,i,m=>bif m % 2==1 then i::V4 f (i+1) (m / 2)else V4 f (i+1) (m / 2)
def gK(g m:Nat)(l:ST:=[]):Gh:=.keep (V4 128 0 g) (V4 128 0 m++l)
def g2(n g m:Nat)(l:ST:=[]):Nat×Pi×Pi:=(n,[gK g m l],[gK g m l])
def g1(n g m:Nat)(l:ST:=[]):Nat×Pi×Pi:=(n,[gK g m l],[])
def G2(n:Nat)(x:Pi):Nat×Pi×Pi:=(n,x,x)
def G1(n:Nat)(x:Pi):Nat×Pi×Pi:=(n,x,[])
def cS(i n:Nat):Gh:=.canon (.s i) (2000+i) n
def cC(i j n:Nat):Gh:=.canon (.c i j) (4000+20*i+j) n
def e0(n m:Nat):Nat×GD:=(n,⟨m,[],[]⟩)
def e1(n m:Nat)(l:aX (Nat×Pi×Pi)):Nat×GD:=(n,⟨m,[],l⟩)
def O5:aX (Nat×GD):=[ e1 57 0x22226260002000201 [g2 6 387 0,g1 12 0 0,g1 22 16 0,g1 27 16 0],e0 31 0x226221,e0 32 0x2222212,e0 137 0x26c4444026402201,e0 138 0x26442201,e1 107 0x222064c002644c00222600620000644402644022201 [g1 8 4 0,g2 14 9 0,g1 20 0 0,g1 28 4 0,g1 33 4 0],e0 108 0x26442201,e1 80 0x2222222022226020222062260202260206000022226020622000022202220620226020600002220202602012 [g1 10 16 0,g2 16 102 36,g1 22 32 32,g1 30 16 0,g1 39 16 0,g2 45 160 32,g1 51 32 32,g1 60 16 0,g2 66 416 32,g1 72 160 32,g1 80 16 0,g1 88 16 0,g1 97 16 0,g1 101 16 0],e1 81 0x2222220620226020600006444026c444c04040222020260206220000222006cc44c4444c04040440264402220064402644026c04026c44040264402644022200644022202202026022602012 [g1 13 64 0,g1 20 64 0,g1 22 142 136,g1 28 64 0,g1 36 64 0,g2 42 394 136,g1 48 0 0,g1 59 64 0,g2 64 1930 648,g1 70 394 136,g1 78 64 0,g1 84 64 0],e0 109 0x2262222262022022,e1 96 0x20222222262226c0442602020260226020622260200062200002 [g2 6 206 72,g1 12 64 64,g2 18 462 72,g1 24 206 72,g1 34 64 64,g1 40 64 64],e1 82 0x2222226cc40444cc4040444022202602262020622262020000220060e20200022020600122 [g2 30 236 44,g1 36 64 0],e1 83 0x22206222602026006220002222203622000622262002062202202026260022602062226020260062200002222012 [G2 6 [cS 3 1,gK 10 2 [2003]],G2 14 [cS 3 1,gK 58 2 [2003]],G1 20 [cS 3 1,gK 26 2 [2003]],G2 24 [cS 3 1,gK 58 2 [2003]],G1 30 [cS 3 1,gK 58 2 [2003]],G1 43 [cS 3 1,gK 58 2 [2003]],G1 46 [cS 3 1,gK 42 2 [2003]],G1 53 [cS 3 1,gK 10 2 [2003]],G2 59 [cS 3 1,gK 266 2 [2003]],g1 65 0 0,g1 73 4 0,g1 78 4 0],e1 110 0x22262622222202062026262202022200122 [G1 10 [cS 5 2,gK 44 12 [2005]]],e1 58 0x202222220222620260600206200622260200062200002020222222222220260020620062226020006220002222222226222202e0006222602000622000222222222026006220000206444022220102 [g1 8 12 4,g2 14 22 6,g1 20 6 6,g1 30 12 4,g2 37 70 6,g1 43 6 6,g2 49 198 6,g1 55 70 6,g1 65 12 4,g2 73 518 6,g1 79 6 6,g2 85 1542 6,g1 91 518 6,g1 103 12 4,g1 113 12 4,g2 119 8198 6,g1 125 4 4,g2 131 24582 6,g1 137 8198 6,g1 147 12 4,g1 153 12 4],e0 33 0x2222302022212,e0 34 0x222212,e0 85 0x2236226200026201,e1 68 0x22206c444c0404c0022260062000062202012 [g1 8 16 0,g2 14 38 4,g1 20 0 0,g1 28 16 0,g1 33 16 0],e1 69 0x2222220626220202062202202026022602062600006200012 [g2 6 38 4,g1 12 0 0,g2 18 102 4,g1 24 38 4,g1 39 16 0,g1 46 16 0],e0 47 0x26c44260012,e1 59 0x2222226260026cc000262226020260062000012 [G2 8 [cS 5 1,gK 102 4 [2005]],G1 14 [cS 5 1,gK 32 0 [2005]]],e1 111 0x2222226260026200001 [g2 8 25 0,g1 14 8 0],e1 86 0x222262622260262600260062000262222620201 [g1 8 16 0,g2 14 35 0,g1 20 0 0,g1 28 16 0,g1 33 16 0],e1 87 0x2220626002600620000620201 [g1 8 16 0,g2 14 35 0,g1 20 0 0,g1 28 16 0,g1 33 16 0],e1 60 0x26622226222266000226c04c00262002226c04c002620001 [g2 6 35 0,g1 12 35 0],(35,⟨0x222222222226260026200026260006200000022026022200222220112,[(7,[.closeS (.s 13)])],[G2 8 [.closeS (.s 4),cS 5 1,gK 50 2 [2005]],G1 14 [cS 5 1,gK 32 0 [2005]],G1 24 [cS 2 1,gK 12 0 [2002]],G2 32 [.closeS (.s 4),cS 5 1,gK 242 2 [2005]],G1 38 [cS 5 1,gK 98 2 [2005]],G2 46 [.closeS (.s 4),cS 5 1,gK 1010 2 [2005]],G1 52 [.closeS (.s 4),cS 5 1,gK 242 2 [2005]],G1 61 [cS 2 1,gK 12 0 [2002]]]⟩),e1 15 0x2644422222202222222202222622202202000022022022002022064442222026220220200002000222012 [g1 8 4 0,g2 16 458762 2,g1 22 10 2,g1 34 4 0,g1 43 4 0,g1 51 4 0,g2 63 246290604621888 0,g1 69 64 0,g1 81 4 0,g1 86 4 0,g1 92 4 0],e0 37 0x22e222212,e0 36 0x226221,e1 61 0x22226260002000201 [G2 6 [.drop [2,3,4,5,6,9,10,11,12,13,14,15,16,17,18]],G1 12 [.drop [0,1,2,3,4,5,6,7,8,9,10,11,12,13,14,15,16,17,18]],G1 22 [.drop [0,1,2,3,5,6,7,8,9,10,11,12,13,14,15,16,17,18]],G1 27 [.drop [0,1,2,3,5,6,7,8,9,10,11,12,13,14,15,16,17,18]]],(16,⟨0x264cc442644402640222203222001222,[(27,[.canon (.s 4) 9001 0,.closeB 5])],[]⟩),e1 38 0x222222666202602006c002622000012 [g2 8 102 4,g1 14 32 0],e0 17 0x222212,(5,⟨0x26c444444026c022200122,[(9,[.canon (.s 5) 9002 0])],[]⟩),e0 165 0x26c4426201,e0 213 0x26c4444026402201,e0 214 0x26442201,e1 188 0x22064c402644c00222600200020064440264402201 [g1 8 4 0,g2 14 786433 0,g1 20 0 0,g1 30 4 0,g1 35 4 0],e0 190 0x26222212,e1 215 0x22226260002000201 [g2 6 387 0,g1 12 0 0,g1 22 16 0,g1 27 16 0],e0 189 0x226221,e0 191 0x26222212,e1 179 0x22226260002000201 [g2 6 387 0,g1 12 0 0,g1 22 16 0,g1 27 16 0],e0 172 0x226221,e1 166 0x222222022222026c0c4402222022020000020022220026c0c44422220202602012 [g1 11 16 0,g1 17 16 0,g2 23 30064771104 32,g1 29 32 32,g1 40 16 0,g1 46 16 0,g1 55 16 0,g1 59 16 0],e0 167 0x2212,e1 193 0x2644426c4402622222022202644422202020122 [g1 18 524330 40],e0 195 0x26222212,e1 216 0x22226260002000201 [g2 6 387 0,g1 12 0 0,g1 22 16 0,g1 27 16 0],e0 194 0x226221,e1 168 0x2202626220026444022622202022020000020022220026c44022220022e02222226220202200202620201222 [g1 12 440 184,g1 19 64 0,g1 25 64 0,g1 31 64 0,g2 37 31525197391593632 160,g1 43 0 0,g1 54 64 0,g1 60 64 0,g1 65 64 0],e0 217 0x26c44426c440222012,e0 196 0x2662262221222,e1 169 0x2202326222002202001ef200220022022226200223262220022022226200202022020202020200002 [(8,[gK 4158 1086],[gK 0 1086]),g1 27 0 1086,g1 39 0 1086,g1 47 0 1086,g1 53 28 1052],e1 197 0x222622262222264444c4400222020262222262622020262020222620220122 [G1 12 [cS 7 2,gK 418 32 [2007]]],e1 170 0x20222622230026000226002020000e200262220202622002202202020200022 [(6,[gK 8252 60],[gK 0 60]),G2 14 [cS 8 2,gK 8700 65660 [2008]],g1 20 8252 60,G2 29 [cS 8 2,gK 481036345852 65660 [2008]],G1 35 [cS 8 2,gK 8700 65660 [2008]],g1 46 0 60,g1 58 48 48],e1 135 0x20022222020262222222022202002202222202e2002020202222222202600200022002022220002 [g1 8 12 12,g2 14 12582926 14,g1 20 14 14,g1 32 12 12,(39,[gK 68719476750 14],[gK 0 14]),g1 51 0 14,g1 61 12 12,g1 71 12 12,g1 75 12 12],e0 104 0x2222302022212,e0 171 0x264426402201,e0 140 0x26c4444c4404440222006c4404440264402644026c444044026440222012,e0 141 0x22e222212,(139,⟨0x226622064402640222220122,[(20,[.closeB 5])],[]⟩),(112,⟨0x26222200012,[(5,[.canon (.s 3) 9004 0,.canon (.s 4) 9003 0])],[]⟩),e0 143 0x26c444422012,e0 173 0x2622212,e0 144 0x262226222122,e0 142 0x2644426c404026c40426200222644426440262022026001cf444042644026200202012,e0 151 0x2262212,(117,⟨0x264c4442600122,[(10,[.closeB 3])],[]⟩),e0 113 0x2622122,e0 147 0x221,e0 148 0x221,e0 146 0x2622222212,(145,⟨0x22622012,[(5,[.closeB 1])],[]⟩),e0 114 0x22212,e1 66 0x222222626002620002220012201 [g1 8 1 0,g2 14 25 0,g1 20 8 0],e1 67 0x222222626002620002220012201 [g1 8 1 0,g2 14 25 0,g1 20 8 0],e0 176 0x2622200,e1 198 0x22222226c04422202020000226222012 [g2 8 229508 0,g1 14 128 0],e0 227 0x2622212,e0 225 0x26222122,e0 218 0x220020262262220026c4400220002220112,e1 27 0x26200201 [G1 8 [.canon (.s 2) 4004 1],G1 12 [.canon (.s 2) 4004 1]],(178,⟨0x222e202202236222002020000222202000002226200222622222020000200,[(21,[.closeS (.s 25)]),(57,[.closeS (.s 54)])],[G2 6 [cS 3 1,gK 14347 0 [2003]],G1 12 [cS 3 1,gK 11 0 [2003]],g1 23 0 0,G2 28 [cS 3 1,gK 3758096393 0 [2003]],g1 34 0 0,G2 43 [cS 3 1,gK 965830770761 0 [2003]],G1 49 [cS 3 1,gK 3758096457 0 [2003]],g1 59 0 0]⟩),e0 152 0x2212,e1 219 0x22262260202220122 [(8,[cC 5 0 1,gK 552 40 [4100]],[cC 5 0 1,gK 0 40 [4100]])],e0 199 0x2222202622622220022022202e2001112,e0 174 0x26223222002e2220222e2220222222226222220222222020022,e0 175 0x26444222012,e0 200 0x262201,e0 177 0x22222622220622020260006402201,e1 149 0x22222022001ef622226202062020620202662222620202226622226202020262222202022002064422222202622202222002002202026222002222202062222201022 [g1 22 1944 664,g1 49 2064 2064],e0 150 0x2262212,(115,⟨0x226222222302026222220122,[(21,[.closeB 2])],[]⟩),e0 88 0x22622022200226000264402220122,e0 116 0x2222002220002220112,e0 89 0x6c44222222022212,e0 119 0x26442201,e0 118 0x2222212,e0 90 0x2644422012,e1 136 0x200226c0442602020202202022000222 [g1 8 192 192,(14,[gK 33008 240],[gK 0 240]),g1 24 0 240,g1 28 192 192],e0 106 0x2220622102,(123,⟨0x2222306222030622222022262222302622022002020000200202000020002,[(53,[.closeS (.s 49)]),(59,[.closeS (.c 3 0),.closeS (.c 3 1)])],[G2 8 [cC 3 0 1,cC 3 1 1,gK 14350 14 [4060,4061]],G1 14 [cC 3 0 1,cC 3 1 1,gK 12 12 [4060,4061]],G2 25 [cS 6 2,cC 3 0 1,cC 3 1 1,gK 1849454 46 [2006,4060,4061]],G1 31 [cS 6 2,cC 3 0 1,cC 3 1 1,gK 14446 46 [2006,4060,4061]],G1 44 [cS 6 2,cC 3 0 1,cC 3 1 1,gK 1849966 558 [2006,4060,4061]]]⟩),e0 155 0x26262222020262620260220626020260012,e0 212 0x26201,e0 184 0x62206000200222202201,e1 158 0x62222222220262222620062002220000001 [g2 6 3587 0,g1 12 3 0,g1 23 16 0,g1 34 16 0,g1 43 16 0,g1 47 16 0],e0 157 0x26221,e1 10 0x2206262026002000200620201 [g1 8 16 0,g2 14 12291 0,g1 20 0 0,g1 30 16 0,g1 35 16 0],e0 160 0x26221,(124,⟨0x222302222262223622020220e0002000202200002012,[(32,[.closeS (.s 34)])],[G2 8 [cS 5 1,gK 7204 4 [2005]],G1 14 [cS 5 1,gK 32 0 [2005]],G2 22 [cS 5 1,gK 400548 4 [2005]],G1 28 [cS 5 1,gK 7204 4 [2005]]]⟩),(93,⟨0x2226202620200202620222000222222202000220112,[(16,[.closeS (.s 16)])],[G1 8 [cS 2 1,gK 12 0 [2002]],G2 20 [.closeS (.s 5),cS 6 1,gK 240 16 [2006]],G1 26 [cS 6 1,gK 64 0 [2006]],G1 37 [cS 2 1,gK 12 0 [2002]],G1 43 [cS 2 1,gK 12 0 [2002]]]⟩),e0 63 0x222222220222112,e0 40 0x222022112,e0 105 0x26222221,e1 95 0x22226260002000201 [g2 6 387 0,g1 12 0 0,g1 22 16 0,g1 27 16 0],e0 64 0x226221,e0 77 0x264c4422012,e1 78 0x2206c444c440422022200000212 [g2 6 900 4,g1 12 0 0,g1 22 16 0,g1 27 16 0],e0 102 0x26c444422012,e1 79 0x2200222202262222626200203202026220220220200000622260202220000001002 [g2 6 57398 52,g1 12 48 48,g2 20 939581622 52,g1 26 57398 52,g1 44 112 48,g1 50 112 48],e0 103 0x22223300200262212,e1 76 0x2202620220000222026202200002220262022000000260012 [g1 8 64 0,g2 14 917518 8,g1 20 14 8,g1 30 64 0,g2 37 1879048202 8,g1 43 10 8,g1 53 64 0,g2 60 3848290697224 8,g1 66 0 0,g1 76 64 0,g1 81 64 0],e1 120 0x222226262222022200000202022026202112 [G2 18 [cS 7 2,gK 917632 0 [2007]],G1 24 [cS 7 2,gK 128 0 [2007]]],e1 121 0x226022222022 [(6,[gK 280 24],[gK 0 24]),g1 16 0 24,g1 20 16 16],e1 91 0x22222626226220222200000202022023202600112 [G2 18 [cS 8 1,gK 7340292 4 [2008]],G1 24 [cS 8 1,gK 256 0 [2008]]],e0 180 0x26222212,e0 153 0x226226222226022620220122,e0 201 0x2220622102,e1 181 0x22222622226c4c4404022222020262006c04022202020000626202260200202202e600200112 [G2 18 [cS 11 1,gK 481036339226 16 [2011]],G1 24 [cS 11 1,gK 2048 0 [2011]]],e0 154 0x22232202001ef22202220122,e0 122 0x266222226222002662222262220022266222226222002022622222202622202262222202622202222020122,e1 92 0x26c44444262220026c44444262220022226222222022222020266222226222002026622222622200202662222262220020266222226222002020122 [g1 36 147573952589676413004 12],e1 62 0x22222226260e22022002202220260022000000200220222022000020200220220200220260011122 [G1 10 [cS 5 1,gK 112 0 [2005]],G1 20 [cS 5 1,gK 112 0 [2005]],G1 28 [cS 5 1,gK 112 0 [2005]],G1 38 [cS 5 1,gK 112 0 [2005]],G2 46 [cS 11 1,gK 962072676876 12 [2011]],G1 52 [cS 11 1,gK 2560 0 [2011]],G1 65 [cS 5 1,gK 112 0 [2005]],G1 71 [cS 5 1,gK 112 0 [2005]]],e0 39 0x222222320026221122,e1 54 0x22222262222220000222201 [G2 8 [cS 3 1,gK 3592 0 [2003]],G1 14 [cS 3 1,gK 8 0 [2003]]],e1 41 0x22227222222022200000222001ef200212 [g2 8 458880 36864,g1 14 128 36864],e0 18 0x2e22220220222022020220222026201122,e1 43 0x22222622222220262222203660202022260222020002260222001 [G2 8 [cS 7 1,gK 1572999 0 [2007]],G1 14 [cS 7 1,gK 128 0 [2007]]],e1 44 0x22222236662620260000020002022000022222201 [G2 8 [cS 5 1,gK 114721 0 [2005]],G1 14 [cS 5 1,gK 32 0 [2005]],G2 22 [cS 5 1,gK 6406305 0 [2005]],G1 28 [cS 5 1,gK 114721 0 [2005]]],e0 45 0x2221,e1 20 0x2222222362626202600003626200022260022260022000060036260222000260222020222222022222201 [G2 8 [cS 3 1,gK 25 0 [2003]],G1 14 [cS 3 1,gK 8 0 [2003]],G2 28 [cS 3 1,gK 30786325577753 0 [2003]],G1 34 [cS 3 1,gK 25 0 [2003]]],e0 65 0x2644cc44444444402201,e0 42 0x2262212,e0 19 0x22262200222600002260211,e0 6 0x2220622020220222026221122,e0 46 0x2221,e1 21 0x222222362626202600003626200022260022260022000060036262222000260222020002222022222201 [G2 8 [cS 3 1,gK 393225 0 [2003]],G1 14 [cS 3 1,gK 8 0 [2003]],G2 30 [cS 3 1,gK 7696581787673 0 [2003]],G1 36 [cS 3 1,gK 393225 0 [2003]]],e0 7 0x2220e22222220020220222026221122,e1 130 0x22222226620260202622000020012 [g2 16 102 4,g1 22 32 0],e0 164 0x6442640264022006c4044026402200640264026402201,e1 131 0x2220222602062200006c4404c440444026440222002200644022202200622022012 [g1 8 4 0,g1 19 4 0,g1 26 4 0,g1 28 2 2,g1 34 4 0,g2 40 10 2,g1 46 0 0,g1 54 4 0,g1 59 4 0],e0 99 0x264426440222012,e0 161 0x26c444422012,e1 162 0x22222602260226020622260200012 [g2 6 142 8,g1 12 0 0,g1 20 64 0,g1 25 64 0],e1 126 0x22202626020062200006c4404cc40404c4c40044c400222006c4404c44044c400222006c4001cf404004c44044c4002220122 [g1 8 16 0,g1 16 16 0,g1 24 16 0,g2 30 44 12,g1 36 0 0,g1 44 16 0,g1 49 16 0],e0 129 0x22212,e1 127 0x22206444c0402622260200220062200012 [g2 6 10 2,g1 12 0 0,g1 23 26 2,g1 28 4 0,g1 33 4 0],e1 185 0x222222222222622600262260026022600620002226022602062226020002022260226020112 [g2 10 1806 8,g1 16 768 0,g2 24 7950 8,g1 30 1806 8],e1 186 0x222222226c0442220202602260206222602000012 [g2 8 398 8,g1 14 128 0],e1 187 0x26220062222622222620062006402201 [g1 24 3 0],e1 163 0x222644222002666226206602600266600600660060022622622222226226222202222222202e2220222022226222222022202ee2220220022022222022010000644222222200262220022202222002622200222000000011122 [g1 12 8076 12,g1 18 8076 12,g1 60 24576 0],e1 128 0x222026260200622000222332002622220122 [g1 10 16 0,g2 16 268 12,g1 22 0 0,g1 30 16 0,g1 35 16 0],e0 97 0x2622022002600064402220122,e0 98 0x2220022000220112,e0 72 0x622322022222202602122,e1 100 0x222022602062200006440222012 [g1 8 4 0,g2 14 10 2,g1 20 0 0,g1 28 4 0,g1 33 4 0],e0 73 0x264422012,e1 133 0x22222602260062000222622212 [g2 8 388 0,g1 14 0 0,g1 22 64 0,g1 27 64 0],e1 132 0x22262226222222222222622602260062000222602260202022212 [g2 6 534 16,g1 12 22 16,g2 20 3606 16,g1 26 534 16,g1 34 256 0,g1 40 256 0],e1 134 0x222222622226c4c4404022202062006c0402220202602260206260000012 [G2 8 [cS 9 1,gK 1566 16 [2009]],G1 14 [cS 9 1,gK 512 0 [2009]]],e0 101 0x26e222222e22200026e222222e2220002226e222222e2220002022e2222222022001ef22202220226222202001ef26222e20202200202222020122,e0 74 0x26001cf4444442e2220002226001cf4444442e2220002022e2222222002026e222222e2220002026e222222e2220002026e222222e2220002026e222222e2220002020122,e1 50 0x2222222262e026000262000000022222022000020200220260011122 [G2 36 [cS 10 1,gK 3340 12 [2010]],G1 42 [cS 10 1,gK 1280 0 [2010]]],e1 51 0x222222622600226006200001 [G2 8 [cS 5 1,gK 99 0 [2005]],G1 14 [cS 5 1,gK 32 0 [2005]]],e0 23 0x26222022022220026221122,e1 70 0x2222226262600260026200001 [G2 8 [cS 5 1,gK 99 0 [2005]],G1 14 [cS 5 1,gK 32 0 [2005]]],e1 75 0x22222602600620001 [g2 6 35 0,g1 12 0 0,g1 20 16 0,g1 25 16 0],e0 52 0x226221,e1 48 0x22222202662600260006000620001 [g2 6 9 0,g1 12 0 0,g2 18 25 0,g1 24 9 0,g1 32 4 0,g1 38 4 0],e1 71 0x2220626002600620000620201 [g1 8 16 0,g2 14 35 0,g1 20 0 0,g1 28 16 0,g1 33 16 0],e1 49 0x22222220262600222600222626000620000011 [g2 10 451 0,g1 16 192 0,g1 31 323 0],e0 22 0x220022222026220022000260220220222026201122,e0 8 0x2220e2222201122,e1 25 0x2222226262600260026200001 [G2 8 [cS 5 1,gK 99 0 [2005]],G1 14 [cS 5 1,gK 32 0 [2005]]],e1 24 0x22222202662600260006000620001 [g2 6 9 0,g1 12 0 0,g2 18 25 0,g1 24 9 0,g1 32 4 0,g1 38 4 0],e1 9 0x222222626002620002220002200022020220222026221122 [g2 34 832 0,g1 40 256 0],e0 3 0x26c4426c4426c4426222220262222202600222026002220260002600020122]
namespace trace_events_c1
def Ep:R0:=[o1 20 (.s 18) [],o2 21 (ix 5) [.s 16,.s 18] [],o2 22 (lD 5) [.s 21] [21],o2 6 (.a (.alloc 5 [.int .i64 0,.int .i64 0,.int .i64 0,.int .i64 0,.bO])) [] [],o1 5 (.s 20) [20],oz (.l (.store 5)) [.s 6,.s 22] [22]]
def BN:R0:=[o1 23 (.s 0) [],o1 24 (.s 3) [],o1 25 (.s 5) [5],o2 26 (bI .add) [.s 25,.k (.int .i64 1)] [25],o2 27 (.p (.build [.int .i64 0,.int .i64 0] [(0,1),(1,1)])) [.s 24,.s 26] [24,26],o2 28 (lD 5) [.s 6] [6],o2 29 .c [.s 23,.s 27,.s 28] [23,27,28],o2 30 (.p .not) [.s 29] [29]]
def zJ:R0:=[o2 31 (bI .add) [.s 18,.k (.int .i64 1)] [],o1 18 (.s 31) [31]]
def I5:RC:=.hg (.seq (.ops [o2 19 (bI .lss) [.s 18,.s 17] []]) (.seq (.cond (.s 19) .skip (.exit 2)) (.seq (.block 3 (.seq (.ops Ep) (.seq (.ops BN) (.cond (.s 30) .ret .skip)))) (.ops zJ)))) (.keep [0,3,8,9,10,16,17,18] [])
def N1:R0:=[o1 12 (.s 10) [],o2 13 (ix 3) [.s 8,.s 10] [],o2 14 (lD 3) [.s 13] [13],o2 4 (.a (.alloc 3 [.str ByteArray.empty,.bO,.bO])) [] [],o1 3 (.s 12) [12],oz (.l (.store 3)) [.s 4,.s 14] [14]]
def Mq:R0:=[o2 15 (fa 2) [.s 4] [],o2 16 (ld 1) [.s 15] [15],o2 17 ln [.s 16] [],o1 18 (.k (.int .i64 0)) []]
def IX:R0:=[o2 32 (bI .add) [.s 10,.k (.int .i64 1)] [],o1 10 (.s 32) [32]]
def U2:RC:=.block 2 (.gh (.keep [0,3,8,9,10,16,17,18] []) (.loop I5))
def SS:RC:=.hg (.seq (.ops [o2 11 (bI .lss) [.s 10,.s 9] []]) (.seq (.cond (.s 11) .skip (.exit 0)) (.seq (.block 1 (.seq (.ops N1) (.seq (.ops Mq) U2))) (.ops IX)))) (.keep [0,8,9,10] [])
def Qa:R0:=[o2 7 (fa 0) [.s 1] [1],o2 8 (ld 1) [.s 7] [7],o2 9 ln [.s 8] [],o1 10 (.k (.int .i64 0)) []]
def U1:RC:=.block 0 (.gh (.keep [0,8,9,10] []) (.loop SS))
def text:RF:=⟨33,[],.seq (.ops Qa) U1⟩
section
variable{S:Sys}
abbrev I1(ps:Sl bS)(i:Int)(B:aX (aX V))(more:Bool)(y:Nat):St:=⟨[(0,.yl y),Cv 8 ps,Iv 9 (len ps),Iv 10 i],[],[],B,more,y⟩
abbrev I2(ps:Sl bS)(i:Int)(es:Sl Event)(j:Int)(B:aX (aX V))(more:Bool)(y:Nat):St:=⟨[(0,.yl y),Iv 3 i,Cv 8 ps,Iv 9 (len ps),Iv 10 i,Cv 16 es,Iv 17 (len es),Iv 18 j],[],[],B,more,y⟩
abbrev S2(ps:Sl bS)(i:Int)(es:Sl Event)(j:Int)(b:Bool)(B:aX (aX V))(more:Bool)(y:Nat):St:=⟨[(0,.yl y),Iv 3 i,Cv 8 ps,Iv 9 (len ps),Iv 10 i,Cv 16 es,Iv 17 (len es),Iv 18 j,Bv 19 b],[],[],B,more,y⟩
theorem Z9(ps:Sl bS)(i:Int)(es:Sl WF)(j:Int)(B:S')(more:X')(y:Nat)(D:decide (j<len es)=false):
 rn S.bare qj some (.rc I5) [] (I2 ps i es j B more y)=some (.exit 2,S2 ps i es j false B more y):=by
 refine Le.get ?_;refine Kf (n:=7) (fo':=.rc (.cond (.s 19) .skip (.exit 2))) (fs':=[.seq (.seq (.block 3 (.seq (.ops Ep) (.seq (.ops BN) (.cond (.s 30) .ret .skip)))) (.ops zJ)),.gst (.keep [0,3,8,9,10,16,17,18] [])]) (λb=>S2 ps i es j b B more y) D Zae ?_
 exact Le.of_eq Zae
theorem acw(ps:Sl bS)(i:Int)(es:Sl WF)(j:Int)(e:WF)(B:S')(more:X')(y:Nat)(D:decide (j<len es)=true)(G:idx es j=some e)(J:(!(more|| !B.isEmpty))=false):
 rn S.bare qj some (.rc I5) [] (I2 ps i es j ([enc (⟨i,wrap .i64 (j+1)⟩:bf),enc e]::B) more y)=some (.norm,I2 ps i es (wrap .i64 (j+1)) B more y):=by
 refine Le.get ?_;refine Kt (n:=7) (fo':=.rc (.cond (.s 19) .skip (.exit 2))) (fs':=[.seq (.seq (.block 3 (.seq (.ops Ep) (.seq (.ops BN) (.cond (.s 30) .ret .skip)))) (.ops zJ)),.gst (.keep [0,3,8,9,10,16,17,18] [])]) (λb=>S2 ps i es j b ([enc (⟨i,wrap .i64 (j+1)⟩:bf),enc e]::B) more y) D Zae ?_
 refine U3 G ?_;refine U0 8 false [] (Ep.drop 1) [.seq (.seq (.ops BN) (.cond (.s 30) .ret .skip)),.blk 3,.seq (.ops zJ),.gst (.keep [0,3,8,9,10,16,17,18] [])] ⟨[(0,.yl y),Iv 3 i,Cv 8 ps,Iv 9 (len ps),Iv 10 i,Cv 16 es,Iv 17 (len es),Iv 18 j,Bv 19 true,Iv 20 j],[],[],([enc (⟨i,wrap .i64 (j+1)⟩:bf),enc e]::B),more,y⟩ .i64 rfl Zae λx a=>?_
 obtain rfl:x=e:=Zac
 refine Aal 1 false [] (Ep.drop 3) [.seq (.seq (.ops BN) (.cond (.s 30) .ret .skip)),.blk 3,.seq (.ops zJ),.gst (.keep [0,3,8,9,10,16,17,18] [])] ⟨[(0,.yl y),Iv 3 i,Cv 8 ps,Iv 9 (len ps),Iv 10 i,Cv 16 es,Iv 17 (len es),Iv 18 j,Bv 19 true,Iv 20 j,Cv 22 x],[],[],([enc (⟨i,wrap .i64 (j+1)⟩:bf),enc x]::B),more,y⟩ [iv 0,iv 0,iv 0,iv 0,.v .bO] rfl (by simp only[bE,AF,tv,u7,ta,u6,vU,uM,wA,tu,uV,AL,vL,wj,vQ,wD,yJ,yG,uY,vW,SV.c8];rfl) Zae ?_
 refine Ast 1 false [] (Ep.drop 5) [.seq (.seq (.ops BN) (.cond (.s 30) .ret .skip)),.blk 3,.seq (.ops zJ),.gst (.keep [0,3,8,9,10,16,17,18] [])] ⟨[(0,.yl y),Iv 3 i,Cv 8 ps,Iv 9 (len ps),Iv 10 i,Cv 16 es,Iv 17 (len es),Iv 18 j,Bv 19 true,Cv 22 x,Pv 6,Iv 5 j],[Xb 6 (⟨0,0,0,0,.nil⟩:WF)],[],([enc (⟨i,wrap .i64 (j+1)⟩:bf),enc x]::B),more,y⟩ 6 0 x [iv 0,iv 0,iv 0,iv 0,.v .bO] ((cells x).map .v) rfl Zae ?_
 refine Kyl (n:=10) (q:=BN.drop 6) (fs':=[.seq (.cond (.s 30) .ret .skip),.blk 3,.seq (.ops zJ),.gst (.keep [0,3,8,9,10,16,17,18] [])]) (st:=⟨[(0,.yl y),Iv 3 i,Cv 8 ps,Iv 9 (len ps),Iv 10 i,Cv 16 es,Iv 17 (len es),Iv 18 j,Bv 19 true,(23,.yl y),Cv 27 (⟨i,wrap .i64 (j+1)⟩:bf),Cv 28 x],[Xb 6 x],[],([enc (⟨i,wrap .i64 (j+1)⟩:bf),enc x]::B),more,y⟩) (vs:=[cv (⟨i,wrap .i64 (j+1)⟩:bf),cv x]) Zae rfl Zae Zae rfl rfl ?_
 refine Kf (n:=3) (fo':=.rc (.cond (.s 30) .ret .skip)) (fs':=[.blk 3,.seq (.ops zJ),.gst (.keep [0,3,8,9,10,16,17,18] [])]) (λb=>⟨[(0,.yl y),Iv 3 i,Cv 8 ps,Iv 9 (len ps),Iv 10 i,Cv 16 es,Iv 17 (len es),Iv 18 j,Bv 19 true,Bv 30 b],[Xb 6 x],[],B,more,y⟩) J Zae ?_
 exact Le.of_eq Zae
theorem X9(ps:Sl bS)(i:Int)(es:Sl WF)(j:Int)(e:WF)(B:S')(more:X')(y:Nat)(D:decide (j<len es)=true)(G:idx es j=some e)(J:(!(more|| !B.isEmpty))=true):
 rn S.bare qj some (.rc I5) [] (I2 ps i es j ([enc (⟨i,wrap .i64 (j+1)⟩:bf),enc e]::B) more y)=some (.ret,⟨[(0,.yl y),Iv 3 i,Cv 8 ps,Iv 9 (len ps),Iv 10 i,Cv 16 es,Iv 17 (len es),Iv 18 j,Bv 19 true,Bv 30 true],[Xb 6 e],[],B,more,y⟩):=by
 refine Le.get ?_;refine Kt (n:=7) (fo':=.rc (.cond (.s 19) .skip (.exit 2))) (fs':=[.seq (.seq (.block 3 (.seq (.ops Ep) (.seq (.ops BN) (.cond (.s 30) .ret .skip)))) (.ops zJ)),.gst (.keep [0,3,8,9,10,16,17,18] [])]) (λb=>S2 ps i es j b ([enc (⟨i,wrap .i64 (j+1)⟩:bf),enc e]::B) more y) D Zae ?_
 refine U3 G ?_;refine U0 8 false [] (Ep.drop 1) [.seq (.seq (.ops BN) (.cond (.s 30) .ret .skip)),.blk 3,.seq (.ops zJ),.gst (.keep [0,3,8,9,10,16,17,18] [])] ⟨[(0,.yl y),Iv 3 i,Cv 8 ps,Iv 9 (len ps),Iv 10 i,Cv 16 es,Iv 17 (len es),Iv 18 j,Bv 19 true,Iv 20 j],[],[],([enc (⟨i,wrap .i64 (j+1)⟩:bf),enc e]::B),more,y⟩ .i64 rfl Zae λx a=>?_
 obtain rfl:x=e:=Zac
 refine Aal 1 false [] (Ep.drop 3) [.seq (.seq (.ops BN) (.cond (.s 30) .ret .skip)),.blk 3,.seq (.ops zJ),.gst (.keep [0,3,8,9,10,16,17,18] [])] ⟨[(0,.yl y),Iv 3 i,Cv 8 ps,Iv 9 (len ps),Iv 10 i,Cv 16 es,Iv 17 (len es),Iv 18 j,Bv 19 true,Iv 20 j,Cv 22 x],[],[],([enc (⟨i,wrap .i64 (j+1)⟩:bf),enc x]::B),more,y⟩ [iv 0,iv 0,iv 0,iv 0,.v .bO] rfl (by simp only[bE,AF,tv,u7,ta,u6,vU,uM,wA,tu,uV,AL,vL,wj,vQ,wD,yJ,yG,uY,vW,SV.c8];rfl) Zae ?_
 refine Ast 1 false [] (Ep.drop 5) [.seq (.seq (.ops BN) (.cond (.s 30) .ret .skip)),.blk 3,.seq (.ops zJ),.gst (.keep [0,3,8,9,10,16,17,18] [])] ⟨[(0,.yl y),Iv 3 i,Cv 8 ps,Iv 9 (len ps),Iv 10 i,Cv 16 es,Iv 17 (len es),Iv 18 j,Bv 19 true,Cv 22 x,Pv 6,Iv 5 j],[Xb 6 (⟨0,0,0,0,.nil⟩:WF)],[],([enc (⟨i,wrap .i64 (j+1)⟩:bf),enc x]::B),more,y⟩ 6 0 x [iv 0,iv 0,iv 0,iv 0,.v .bO] ((cells x).map .v) rfl Zae ?_
 refine Kyl (n:=10) (q:=BN.drop 6) (fs':=[.seq (.cond (.s 30) .ret .skip),.blk 3,.seq (.ops zJ),.gst (.keep [0,3,8,9,10,16,17,18] [])]) (st:=⟨[(0,.yl y),Iv 3 i,Cv 8 ps,Iv 9 (len ps),Iv 10 i,Cv 16 es,Iv 17 (len es),Iv 18 j,Bv 19 true,(23,.yl y),Cv 27 (⟨i,wrap .i64 (j+1)⟩:bf),Cv 28 x],[Xb 6 x],[],([enc (⟨i,wrap .i64 (j+1)⟩:bf),enc x]::B),more,y⟩) (vs:=[cv (⟨i,wrap .i64 (j+1)⟩:bf),cv x]) Zae rfl Zae Zae rfl rfl ?_
 refine Kt (n:=3) (fo':=.rc (.cond (.s 30) .ret .skip)) (fs':=[.blk 3,.seq (.ops zJ),.gst (.keep [0,3,8,9,10,16,17,18] [])]) (λb=>⟨[(0,.yl y),Iv 3 i,Cv 8 ps,Iv 9 (len ps),Iv 10 i,Cv 16 es,Iv 17 (len es),Iv 18 j,Bv 19 true,Bv 30 b],[Xb 6 x],[],B,more,y⟩) J Zae ?_
 exact Le.of_eq Zae
abbrev S1(ps:Sl bS)(i:Int)(b:Bool)(B:aX (aX V))(more:Bool)(y:Nat):St:=⟨[(0,.yl y),Cv 8 ps,Iv 9 (len ps),Iv 10 i,Bv 11 b],[],[],B,more,y⟩
theorem aaW(ps:Sl bS)(i:Int)(B:S')(more:X')(y:Nat)(D:decide (i<len ps)=false):
 rn S.bare qj some (.rc SS) [] (I1 ps i B more y)=some (.exit 0,S1 ps i false B more y):=by
 refine Le.get ?_;refine Kf (n:=7) (fo':=.rc (.cond (.s 11) .skip (.exit 0))) (fs':=[.seq (.seq (.block 1 (.seq (.ops N1) (.seq (.ops Mq) U2))) (.ops IX)),.gst (.keep [0,8,9,10] [])]) (λb=>S1 ps i b B more y) D Zae ?_
 exact Le.of_eq Zae
def Wg:QQ:=[.blk 2,.blk 1,.seq (.ops IX),.gst (.keep [0,8,9,10] [])]
theorem W0(ps:Sl bS)(i:Int)(p:bS)(B:S')(more:X')(y:Nat)(r:Out×St)(D:decide (i<len ps)=true)(G:idx ps i=some p)
 (h:rn S.bare qj some (.rc (.loop I5)) Wg (I2 ps i p.events 0 B more y)=some r):rn S.bare qj some (.rc SS) [] (I1 ps i B more y)=some r:=by
 refine Le.get ?_;refine Kt (n:=7) (fo':=.rc (.cond (.s 11) .skip (.exit 0))) (fs':=[.seq (.seq (.block 1 (.seq (.ops N1) (.seq (.ops Mq) U2))) (.ops IX)),.gst (.keep [0,8,9,10] [])]) (λb=>S1 ps i b B more y) D Zae ?_
 refine U3 G ?_;refine U0 8 false [] (N1.drop 1) [.seq (.seq (.ops Mq) U2),.blk 1,.seq (.ops IX),.gst (.keep [0,8,9,10] [])] ⟨[(0,.yl y),Cv 8 ps,Iv 9 (len ps),Iv 10 i,Bv 11 true,Iv 12 i],[],[],B,more,y⟩ .i64 rfl Zae λx a=>?_
 obtain rfl:x=p:=Zac
 refine Aal 1 false [] (N1.drop 3) [.seq (.seq (.ops Mq) U2),.blk 1,.seq (.ops IX),.gst (.keep [0,8,9,10] [])] ⟨[(0,.yl y),Cv 8 ps,Iv 9 (len ps),Iv 10 i,Bv 11 true,Iv 12 i,Cv 14 x],[],[],B,more,y⟩ [.v (.str ByteArray.empty),.v .bO,.v .bO] rfl (by simp only[bE,AF,tv,u7,ta,u6,vU,uM,wA,tu,uV,AL,vL,wj,vQ,wD,yJ,yG,uY,vW,SV.c8];rfl) Zae ?_
 refine Ast 1 false [] (N1.drop 5) [.seq (.seq (.ops Mq) U2),.blk 1,.seq (.ops IX),.gst (.keep [0,8,9,10] [])] ⟨[(0,.yl y),Cv 8 ps,Iv 9 (len ps),Iv 10 i,Bv 11 true,Cv 14 x,Pv 4,Iv 3 i],[Xb 4 (⟨ByteArray.empty,.nil,.nil⟩:bS)],[],B,more,y⟩ 4 0 x [.v (.str ByteArray.empty),.v .bO,.v .bO] ((cells x).map .v) rfl Zae ?_
 refine aau 6 false [] (Mq.drop 2) [.seq U2,.blk 1,.seq (.ops IX),.gst (.keep [0,8,9,10] [])] ⟨[(0,.yl y),Cv 8 ps,Iv 9 (len ps),Iv 10 i,Bv 11 true,Pv 4,Iv 3 i,Cv 16 x.events],[Xb 4 x],[],B,more,y⟩ x.events rfl Zae ?_
 refine CU (n:=5) (fo':=.rc (.loop I5)) (fs':=Wg) (st':=I2 ps i x.events 0 B more y) Zae (Le.of_eq h)
theorem YW(ps:Sl bS)(i:Int)(es:Sl WF)(j:Int)(B:S')(more:X')(y:Nat):
 rn S.bare qj some (.ex 2) Wg (S2 ps i es j false B more y)=some (.norm,I1 ps (wrap .i64 (i+1)) B more y):=by kernel_rfl
theorem wrap_small(n:Nat)(h:n<9223372036854775807):wrap .i64 ((n:Int)+1)=((n+1:Nat):Int):=by simp[wrap,IntKind.bits,signed];omega
abbrev eI(x:bf×Event):aX V:=[enc x.1,enc x.2]
theorem xA.step{x:So}{D rest:S'}{more:X'}(h:xA D (x::rest) more):∃B,D=x::B/\((!(more|| !B.isEmpty))=false/\xA B rest more\/(!(more|| !B.isEmpty))=true/\B=[]):=by rcases h with⟨rfl,rfl⟩|⟨rfl,u,r,a⟩;exact⟨rest,rfl,.inl ⟨rfl,.inl ⟨rfl,rfl⟩⟩⟩;cases D with|nil=>grind|cons w D=>simp only[cons_append,List.cons.injEq]at a;obtain⟨rfl,rfl⟩:=a;refine⟨D,rfl,?_⟩;cases D with|nil=>grind|cons z C=>exact .inl ⟨rfl,.inr ⟨rfl,Zab,r,rfl⟩⟩
theorem v8{α:Type}{s:Sl α}{j:Nat}{x:α}{r:aX α}(h:s.l.drop j=x::r):idx s (j:Int)=some x/\decide ((j:Int)<len s)=true/\s.l.drop (j+1)=r:=by
 have a:j<s.l.length:=by apply Classical.byContradiction;intro w;rw[List.drop_eq_nil_of_le Zaa]at h;cases h
 have u:=List.drop_eq_getElem_cons a;rw[u]at h;simp only[List.cons.injEq]at h;refine⟨?_,Zac,h.2⟩;unfold idx;simp_all
variable{Q:Out×St->aY (Out×St)}{fs:QQ}
theorem inner(ps:Sl bS)(i:Int)(es:Sl WF)(J:es.l.length<9223372036854775807)(more:X')(y:Nat)(R:S'):∀(a:aX WF)(j:Nat),es.l.drop j=a->∀D,xA D ((jR i j a).map eI++R) more->
 (∃(B:S')(U:Int),xA B R more/\rn S.bare qj Q (.rc (.loop I5)) fs (I2 ps i es j D more y)=rn S.bare qj Q (.ex 2) fs (S2 ps i es U false B more y))\/
 (∃st':St,st'.want=[]/\rn S.bare qj Q (.rc (.loop I5)) fs (I2 ps i es j D more y)=Q (.ret,st'))
 |[],j,hd,D,G=>by have b:decide ((j:Int)<len es)=false:=(by simp_all);exact .inl ⟨D,j,by simpa[jR]using G,Ij (Z9 ps i es j D more y b)⟩|e::a,j,hd,D,G=>by have⟨b,z,C⟩:=v8 hd;have T:j<es.l.length:=Zac;simp only[jR,map_cons,cons_append]at G;obtain⟨B,rfl,u⟩:=xA.step G;have I:=wrap_small j Zaa;have w:((j:Int)+1)=wrap .i64 ((j:Int)+1):=Zac;rcases u with⟨u,L⟩|⟨u,rfl⟩;have k:=acw (S:=S) ps i es j e B more y z b u;rw[<-w]at k;have k2:=Jg (Q:=Q) (fs:=fs) k;have O:=inner ps i es J more y R a (j+1) C B Zac;rw[show((j+1:Nat):Int)=(j:Int)+1 from rfl]at O;grind;have k:=X9 (S:=S) ps i es j e [] more y z b u;rw[<-w]at k;exact .inr ⟨_,by rfl,IE k⟩
theorem outer(ps:Sl bS)(J:ps.l.length<9223372036854775807)(D:∀p∈ps.l,p.events.l.length<9223372036854775807)(more:X')(y:Nat):∀(a:aX bS)(i:Nat),ps.l.drop i=a->∀B,xA B ((gO i a).map eI) more->
 rn S.bare qj Qi (.rc (.loop SS)) [.blk 0] (I1 ps i B more y)=some ()
 |[],i,hd,B,G=>by
  have b:decide ((i:Int)<len ps)=false:=by simp_all
  rw[Ij (aaW ps i B more y b)];have:B=[]:=by
   rcases G with⟨_,rfl⟩|⟨_,L,r,c⟩;rfl;have:B=[]:=by cases B with
    |nil=>rfl|cons=>simp[gO]at c
   grind
  subst this;rfl
 |p::a,i,hd,B,G=>by have⟨b,z,C⟩:=v8 hd;have d:i<ps.l.length:=Zac;have I:p∈ps.l:=List.mem_of_mem_drop (i:=i) Zac;simp only[gO,map_append]at G;have u:=wrap_small i Zaa;rcases inner (S:=S) (Q:=some) (fs:=Wg) ps i p.events (D p I) more y _ p.events.l 0 rfl B G with⟨w,O,g1,g2⟩|⟨st',g1,g2⟩;rw[YW,u]at g2;rw[Jg (W0 ps i p B more y _ z b g2)];exact outer ps J D more y a (i+1) C w g1;rw[IE (W0 ps i p B more y _ z b g2)];simp[Qi,g1]
theorem all(t:Z4)(B:aX (bf×WF))(h:kB t=some B)(D:S')(more:X')(G:xA D (B.map eI) more)(y:Nat):
 rn S.bare qj Qi (.rc text.body) [] ⟨xP 0 (([]:So).map .v++.yl y::[V.fptr (cells t)].map .v),[],[],D,more,y⟩=some ():=by
 unfold kB at h;split at h
 .rename_i hk;cases h;simp only[ζh,all_eq_true,qV,decide_eq_true_eq]at hk;refine Le.get ?_;refine aau 4 false [] (Qa.drop 2) [.seq U1] ⟨[(0,.yl y),Cv 8 t.procs],[],[],D,more,y⟩ t.procs rfl Zae ?_
  refine CU (n:=5) (fo':=.rc (.loop SS)) (fs':=[.blk 0]) (st':=I1 t.procs 0 D more y) Zae (Le.of_eq ?_)
  exact outer t.procs hk.1 hk.2 more y t.procs.l 0 rfl D G
 simp_all
end
theorem yH{α:Type}[bD α]{a b:Sl α}(h:cm a=cm b):rows a.l=rows b.l:=by cases a<;>cases b<;>first|rfl|(simp only[cm,Sl.k,qG,V.fsl.injEq,true_and,reduceCtorEq]at h;done)|(simp only[cm,Sl.k,qG,V.fsl.injEq,true_and,reduceCtorEq]at h;omega)
theorem zh(p:Int):∀(es B:aX WF)(j:Int),rows es=rows B->(jR p j es).map eI=(jR p j B).map eI
 |[],[],_,_=>rfl|[],_::_,_,h=>by simp[rows]at h|_::_,[],_,h=>by simp[rows]at h|e::es,D::B,j,h=>by simp only[rows,map_cons,List.cons.injEq]at h;have a:enc e=enc D:=(by show V.agg (cells e)=V.agg (cells D);rw[h.1]);simp only[jR,map_cons,eI,a,zh p es B (j+1) h.2]
theorem F_:∀(ps B:aX bS)(i:Int),rows ps=rows B->(gO i ps).map eI=(gO i B).map eI
 |[],[],_,_=>rfl|[],_::_,_,h=>by simp[rows]at h|_::_,[],_,h=>by simp[rows]at h|p::ps,p'::B,i,h=>by simp only[rows,map_cons,List.cons.injEq]at h;have a:cm p.events=cm p'.events:=(by have:=h.1;change[V.str p.name,cm p.vars,cm p.events]=[V.str p'.name,cm p'.vars,cm p'.events]at this;grind);simp only[gO,map_append,zh i _ _ 0 (yH a),F_ ps B (i+1) h.2]
def yb(f:Y')(g:Y')(a b:So)(xs:S'):Prop:=∃(t:Z4)(u:aX (bf×WF)),g=f/\a=[]/\b=[.fptr (cells t)]/\kB t=some u/\xs=u.map eI
theorem yb.uniq{f g:Y'}{a b:So}{xs ys:S'}(h:yb f g a b xs)(k:yb f g a b ys):xs=ys:=by
 obtain⟨t,C,rfl,rfl,rfl,c,rfl⟩:=h;obtain⟨w,z,_,_,B,u,rfl⟩:=k;simp only[List.cons.injEq,V.fptr.injEq,and_true]at B;have D:cm t.procs=cm w.procs:=by change[cm t.procs]=[cm w.procs]at B;grind
 unfold kB at c u;split at c<;>split at u<;>simp only[ζa,reduceCtorEq]at c u;subst c u;exact F_ _ _ 0 (yH D)
end trace_events_c1
end Go.VE
namespace Go.VE
open Go.Proofs.YtbglidfgdmhlnaaGreatDoor
noncomputable section
def Kg(f:Y'):aY IW:=bif beq f 159 then some (vD E)else bif beq f 156 then some (vk E)else none
def Sb:Sys:=⟨E,λn=>n,λ_ _ _=>none,Ax E,Kg⟩
theorem Lr:∀f q,Kg f=some q->pV E f q:=by intro f q h;unfold Kg at h;cases a:beq f 159 with|true=>rw[a]at h;cases h;have:=Nat.eq_of_beq_eq_true a;subst this;exact TE yD Zae Zae (Fs Zae)|false=>rw[a]at h;cases a:beq f 156 with|true=>rw[a]at h;cases h;have:=Nat.eq_of_beq_eq_true a;subst this;exact TJ Zae Zae Zae Zae|false=>rw[a]at h;cases h
def Tx:sQ:=Vx E some (lk O5)
abbrev cB:cn:=dm Sb Tx
theorem aaZ:s_ Sb Tx where
 fn f rf h:=let⟨u,a,w⟩:=EW h;⟨u,some,a,yD,w⟩
 zu f z y h:=IA h
 prm:=Lr
theorem Rw:∀f a b xs,Sb.items f a b=some xs->eW Sb f a b xs:=λf a b xs h=>by cases h
end
end Go.VE
namespace Go.VE
noncomputable section
namespace IB
def eu(s0:Zg):aY Zg:=(Sl.isNil s0).bind λu=>bg u (some Sl.nil) ((pO (Sl.row []:Zg) s0).bind λw=>some w)
theorem iw:C6 Sb cB 27 (λs0:Zg=>[enc s0]) (λz=>eu z):=C6.mk' (tF (Tx 27)) (λs0=>ED 9 λu _=>bp 2 4 aZ (AS 7 5 7 λw _=>aZ))
namespace cA
def fC(k6:Int)(U:Sl WF)(W Y:Int)(G:Sl Assign)(J:Int)(a:S')(B:Zg)(D:Int)(more:X'):aY (Fw ((Zg)×Int) Zg Empty):=bg (decide (D<J)) ((idx G D).bind λu=>(Sl.jP B u.var).bind λw=>(Sl.put B w (u.value:Int)).bind λz=>some (.n (z,wrap .i64 (D+1)))) (some (.x B))
def W3(B:Zg)(k6:Int)(J:Sl WF)(D G:Int)(U:Sl Assign)(W Y:Int)(a:S')(more:X'):aY (Fw ((Zg)×Int×Int×(S')) S' S'):=(bG (λq:(Zg)×Int=>fC k6 J D G U W a q.1 q.2 more) (B,Y)).bind (Fw.elim (λe=>((eu e).bind Sl.whole).bind λw=>(yl a more [.int .i64 (wrap .i64 (k6+1)),enc w]).bind λu=>bg u.1 (some (.n (e,D,wrap .i64 (G+1),u.2))) (some (.r u.2))) (λe=>elim e))
def bF(D:Sl WF)(G:Zg)(J B:Int)(U:S')(more:X'):aY (Fw ((Zg)×Int×Int×(S')) S' S'):=bg (decide (B<J)) ((idx D B).bind λu=>W3 G B D J B u.assign (len u.assign) 0 U more) (some (.x U))
def W2(B:Zg)(D:Sl WF)(G J:Int)(U:S')(more:X'):aY S':=(bG (λq:(Zg)×Int×Int×(S')=>bF D q.1 q.2.1 q.2.2.1 q.2.2.2 more) (B,G,J,U)).bind (Fw.elim (λe=>some e) (λe=>some e))
def bh(U:bS)(G:Sl Var)(J:Int)(W:S')(B:Zg)(D:Int)(more:X'):aY (Fw ((Zg)×Int) Zg Empty):=bg (decide (D<J)) ((idx G D).bind λu=>(fF B (u.init_:Int)).bind λw=>some (.n (w,wrap .i64 (D+1)))) (some (.x B))
def W1(B:bS)(D:Zg)(G:Sl Var)(J U:Int)(W:S')(more:X'):aY S':=(bG (λq:(Zg)×Int=>bh B G J W q.1 q.2 more) (D,U)).bind (Fw.elim (λe=>((eu e).bind Sl.whole).bind λw=>(yl W more [.int .i64 0,enc w]).bind λu=>bg u.1 (cA.W2 e B.events (len B.events) 0 u.2 more) (some u.2)) (λe=>elim e))
end cA
def cA(D:S')(B:bS)(more:X'):aY S':=cA.W1 B (Sl.nil:Zg) B.vars (len B.vars) 0 D more
open cA in
theorem AK(more:X')(y:Nat)(J:S')(B:bS):Le ((cA J B more).bind λr=>some r) (b7 Sb cB Qw (.rc (tb Tx 178),[],⟨xP 0 (.yl y::[V.fptr (cells B)].map .v),[],[],J,more,y⟩)):=bP 10 B.vars (eo 6 (λC=>⟨[(0,.yl y),Kv 1 B,Ov 3,Cv 11 B.vars,Iv 12 (len B.vars),Iv 13 C.2],[Lb 2003 C.1],[],J,more,y⟩) (λD=>(0,⟨[(0,.yl y),Kv 1 B,Ov 3],[Lb 2003 D],[],J,more,y⟩)) (λC=>bp 8 14 (bB 7 λT _=>ny 10 2003 20 21 λU _=>aZ) aZ) (λD=>Wi 7 25 iw D λL _=>Byl 1 [.int .i64 0,enc L] λS _=>cz 3 27 (bP 7 B.events (dx 6 (λu=>⟨[(0,.yl y),Ov 3,Cv 29 B.events,Iv 30 u.2.1,Iv 31 u.2.2.1],[Lb 2003 u.1],[],u.2.2.2,more,y⟩) (λw=>(2,⟨[],[],[],w,more,y⟩)) (λw=>⟨[],[],[],w,more,y⟩) (λu=>bp 8 32 (bB 8 λz _=>pz 3 7 0 z (bP 7 z.assign (eo 6 (λG=>⟨[(0,.yl y),Ov 3,Iv 6 u.2.2.1,Cv 29 B.events,Iv 30 u.2.1,Iv 31 u.2.2.1,Cv 37 z.assign,Iv 38 (len z.assign),Iv 39 G.2],[Lb 2003 G.1],[],u.2.2.2,more,y⟩) (λI=>(4,⟨[(0,.yl y),Ov 3,Iv 6 u.2.2.1,Cv 29 B.events,Iv 30 u.2.1,Iv 31 u.2.2.1],[Lb 2003 I],[],u.2.2.2,more,y⟩)) (λG=>bp 8 40 (bB 7 λO _=>jt .i64 11 2003 λW _=>Fu 0 2003 (.int .i64 O.value) λX _=>aZ) aZ) (λI=>Wi 8 54 iw I λQ _=>Byl 1 [.int .i64 (wrap .i64 (u.2.2.1+1)),enc Q] λY _=>cz 3 56 aZ aZ)))) aZ) (λw=>aZ) (λw=>aZ))) aZ))
end IB
end
end Go.VE
namespace Go.VE
open IB
def yh:aX Assign->Zg->aY Zg
 |[],s=>some s|a::r,s=>(Sl.jP s a.var).bind λj=>(Sl.put s j a.value).bind (yh r)
def ya:aX Var->Zg->aY Zg
 |[],s=>some s|v::r,s=>(fF s v.init_).bind (ya r)
def Pt(s:Zg):aY Zg:=(eu s).bind Sl.whole
def yd:Int->aX WF->Zg->aY (aX (Int×Zg))
 |_,[],_=>some []|k,e::r,s=>(yh e.assign.l s).bind λn=>(Pt n).bind λc=>(yd (k+1) r n).map ((k+1,c)::·)
def kA(p:bS):aY (aX (Int×Zg)):=if qV p.vars.l.length&&(qV p.events.l.length&&p.events.l.all λe=>qV e.assign.l.length)then(ya p.vars.l .nil).bind λs=>(Pt s).bind λc=>(yd 0 p.events.l s).map ((0,c)::·)else none
namespace IST
abbrev eI(x:Int×Sl Int):aX V:=[enc x.1,enc x.2]
theorem EF{n:Nat}(h:qV n=true):n<9223372036854775807:=by simpa[qV]using h
theorem wrap_small(n:Nat)(h:n<9223372036854775807):wrap .i64 ((n:Int)+1)=((n+1:Nat):Int):=by simp[wrap,IntKind.bits,signed];omega
theorem v8{α:Type}{s:Sl α}{j:Nat}{x:α}{r:aX α}(h:s.l.drop j=x::r):idx s (j:Int)=some x/\decide ((j:Int)<len s)=true/\s.l.drop (j+1)=r:=by
 have a:j<s.l.length:=by apply Classical.byContradiction;intro w;rw[List.drop_eq_nil_of_le Zaa]at h;cases h
 have u:=List.drop_eq_getElem_cons a;rw[u]at h;simp only[List.cons.injEq]at h;refine⟨?_,by simp[len,a],h.2⟩;unfold idx;rw[if_pos Zaa];simp[ζd a,h.1]
theorem MF{α:Type}{s:Sl α}{j:Nat}(h:s.l.drop j=[]):decide ((j:Int)<len s)=false:=by
 have:s.l.length<=j:=by simpa using h
 simp[len];omega
theorem ini(p:bS)(v:Sl Var)(J:v.l.length<9223372036854775807)(D:S')(more:X'):∀(a:aX Var)(j:Nat),v.l.drop j=a->∀s B,ya a s=some B->
 bG (λq:Zg×Int=>cA.bh p v (len v) D q.1 q.2 more) (s,(j:Int))=some (.x B)
 |[],j,hd,s,B,h=>by cases h;rw[eU];simp only[cA.bh,MF hd,bg,ζb,Bool.false_eq_true,if_false]|x::a,j,hd,s,B,h=>by have⟨b,G,U⟩:=v8 hd;have w:j<v.l.length:=(by simpa[len]using G);simp only[ya,ζg]at h;have⟨n,u,h⟩:=h;rw[eU];simp only[cA.bh,b,G,u,bg,ζb,if_true,wrap_small j Zaa];exact ini p v J D more a (j+1) U n B h
theorem set(k:Int)(es:Sl WF)(a b:Int)(v:Sl Assign)(J:v.l.length<9223372036854775807)(D:S')(more:X'):∀(c:aX Assign)(j:Nat),v.l.drop j=c->∀s B,yh c s=some B->
 bG (λq:Zg×Int=>cA.fC k es a b v (len v) D q.1 q.2 more) (s,(j:Int))=some (.x B)
 |[],j,hd,s,B,h=>by cases h;rw[eU];simp only[cA.fC,MF hd,bg,ζb,Bool.false_eq_true,if_false]|x::c,j,hd,s,B,h=>by have⟨d,G,U⟩:=v8 hd;have w:j<v.l.length:=(by simpa[len]using G);simp only[yh,ζg]at h;have⟨i,e,n,u,h⟩:=h;rw[eU];simp only[cA.fC,d,G,e,u,bg,ζb,if_true,wrap_small j Zaa];exact set k es a b v J D more c (j+1) U n B h
theorem xA.step{x:So}{D rest:S'}{more:X'}(h:xA D (x::rest) more):∃B,yl D more x=some ((more|| !B.isEmpty),B)/\((more|| !B.isEmpty)=true/\xA B rest more\/(more|| !B.isEmpty)=false/\B=[]):=by rcases h with⟨rfl,rfl⟩|⟨rfl,u,r,a⟩;exact⟨rest,by simp[yl],.inl ⟨rfl,.inl ⟨rfl,rfl⟩⟩⟩;cases D with|nil=>exact absurd rfl u|cons w D=>simp only[cons_append,List.cons.injEq]at a;obtain⟨rfl,rfl⟩:=a;refine⟨D,by simp[yl],?_⟩;cases D with|nil=>exact .inr ⟨rfl,rfl⟩|cons z C=>exact .inl ⟨rfl,.inr ⟨rfl,Zab,r,rfl⟩⟩
theorem gm(es:Sl WF)(W:es.l.length<9223372036854775807)(G:∀e∈es.l,e.assign.l.length<9223372036854775807)(more:X'):∀(a:aX WF)(j:Nat),es.l.drop j=a->∀s B,yd (j:Int) a s=some B->∀D,xA D (B.map eI) more->
 ∃J:S',J=[]/\(bG (λq:Zg×Int×Int×S'=>cA.bF es q.1 q.2.1 q.2.2.1 q.2.2.2 more) (s,len es,(j:Int),D)=some (.x J)\/bG (λq:Zg×Int×Int×S'=>cA.bF es q.1 q.2.1 q.2.2.1 q.2.2.2 more) (s,len es,(j:Int),D)=some (.r J))
 |[],j,hd,s,B,h,D,U=>by cases h;have:D=[]:=(by rcases U with⟨_,rfl⟩|⟨_,L,r,d⟩;rfl;cases D with|nil=>rfl|cons=>simp at d);subst this;refine⟨[],rfl,.inl ?_⟩;rw[eU];simp only[cA.bF,MF hd,bg,ζb,Bool.false_eq_true,if_false]
 |e::a,j,hd,s,B,h,D,U=>by have⟨f,I,O⟩:=v8 hd;have Z:j<es.l.length:=(by simpa[len]using I);have Q:e∈es.l:=List.mem_of_mem_drop (i:=j) (by rw[hd];exact List.mem_cons_self ..);simp only[yd,ζg,ζf]at h;obtain⟨n,L,c,b,r,d,rfl⟩:=h;have b:(eu n).bind Sl.whole=some c:=b;have⟨w,z,S⟩:=xA.step U;have C:=wrap_small j Zaa;have z:yl D more [.int .i64 ((j+1:Nat):Int),enc c]=some ((more|| !w.isEmpty),w):=z;rw[eU];have u:=set j es (len es) j e.assign (G e Q) D more e.assign.l 0 rfl s n L;rw[show((0:Nat):Int)=0 from rfl]at u;rcases S with⟨g1,g2⟩|⟨g1,rfl⟩;have⟨T,X,Y⟩:=gm es W G more a (j+1) O n r d w g2;refine⟨T,X,?_⟩;rw[g1]at z;simp only[cA.bF,cA.W3,f,I,u,b,z,bg,ζb,if_true,Fw.elim,C];exact Y;refine⟨[],rfl,.inr ?_⟩;rw[g1]at z;simp only[cA.bF,cA.W3,f,I,u,b,C,z,bg,ζb,if_true,if_false,Bool.false_eq_true,Fw.elim]
theorem all(p:bS)(B:aX (Int×Zg))(h:kA p=some B)(D:S')(more:X')(G:xA D (B.map eI) more):cA D p more=some []:=by unfold kA at h;split at h;rename_i b;simp only[ζh,all_eq_true]at b;have⟨k1,k2,k3⟩:=b;simp only[ζg,ζf]at h;obtain⟨s,C,c,a,r,f,rfl⟩:=h;have a:(eu s).bind Sl.whole=some c:=a;have⟨u,w,I⟩:=xA.step G;have d:=ini p p.vars (EF k1) D more p.vars.l 0 rfl .nil s C;rw[show((0:Nat):Int)=0 from rfl]at d;have w:yl D more [.int .i64 0,enc c]=some ((more|| !u.isEmpty),u):=w;unfold cA cA.W1;simp only[d,ζb,Fw.elim,a,w];rcases I with⟨g1,g2⟩|⟨g1,rfl⟩;obtain⟨L,rfl,z⟩:=gm p.events (EF k2) (λe J=>EF (k3 e J)) more p.events.l 0 rfl s r f u g2;rw[show((0:Nat):Int)=0 from rfl]at z;rw[g1];simp only[bg,if_true,cA.W2];rcases z with q|q<;>(rw[q];rfl);rw[g1];rfl;cases h
theorem yH{α:Type}[bD α]{a b:Sl α}(h:cm a=cm b):rows a.l=rows b.l:=by cases a<;>cases b<;>first|rfl|(simp only[cm,Sl.k,qG,V.fsl.injEq,true_and,reduceCtorEq]at h;done)|(simp only[cm,Sl.k,qG,V.fsl.injEq,true_and,reduceCtorEq]at h;exact h)
theorem Lt:∀(a b:aX Var),rows a=rows b->∀s,ya a s=ya b s
 |[],[],_,_=>rfl|[],_::_,h,_=>by simp[rows]at h|_::_,[],h,_=>by simp[rows]at h|x::a,y::b,h,s=>by simp only[rows,map_cons,List.cons.injEq]at h;have c:x.init_=y.init_:=(by have:=h.1;change[V.str x.name,V.int .i64 x.init_]=[V.str y.name,V.int .i64 y.init_]at this;simpa using(List.cons.inj (List.cons.inj this).2).1);simp only[ya,c,funext (Lt a b h.2)]
theorem LO:∀(a b:aX Assign),rows a=rows b->∀s,yh a s=yh b s
 |[],[],_,_=>rfl|[],_::_,h,_=>by simp[rows]at h|_::_,[],h,_=>by simp[rows]at h|x::a,y::b,h,s=>by simp only[rows,map_cons,List.cons.injEq]at h;have c:=h.1;change[V.int .i64 x.var,V.int .i64 x.value]=[V.int .i64 y.var,V.int .i64 y.value]at c;simp only[List.cons.injEq,V.int.injEq,true_and,and_true]at c;simp only[yh,c.1,c.2,funext (LO a b h.2)]
theorem Mg{x y:WF}(h:cells x=cells y):rows x.assign.l=rows y.assign.l:=by change[V.int .i64 x.kind,V.int .i64 x.peer,V.int .i64 x.message,V.int .i64 x.time,cm x.assign]=[V.int .i64 y.kind,V.int .i64 y.peer,V.int .i64 y.message,V.int .i64 y.time,cm y.assign]at h;simp only[List.cons.injEq]at h;exact yH h.2.2.2.2.1
theorem zh:∀(a b:aX WF),rows a=rows b->∀k s,yd k a s=yd k b s
 |[],[],_,_,_=>rfl|[],_::_,h,_,_=>by simp[rows]at h|_::_,[],h,_,_=>by simp[rows]at h|x::a,y::b,h,k,s=>by simp only[rows,map_cons,List.cons.injEq]at h;simp only[yd,LO _ _ (Mg h.1),zh a b h.2]
theorem E5{α:Type}[bD α]{a b:aX α}(h:rows a=rows b):a.length=b.length:=by have:=congrArg List.length h;simpa[rows]using this
theorem Mw:∀(a b:aX WF),rows a=rows b->(a.all λe=>qV e.assign.l.length)=b.all λe=>qV e.assign.l.length
 |[],[],_=>rfl|[],_::_,h=>by simp[rows]at h|_::_,[],h=>by simp[rows]at h|x::a,y::b,h=>by simp only[rows,map_cons,List.cons.injEq]at h;simp only[all_cons,E5 (Mg h.1),Mw a b h.2]
def yb(f:Y')(g:Y')(a b:So)(xs:S'):Prop:=∃(p:bS)(u:aX (Int×Zg)),g=f/\a=[]/\b=[.fptr (cells p)]/\kA p=some u/\xs=u.map eI
theorem yb.uniq{f g:Y'}{a b:So}{xs ys:S'}(h:yb f g a b xs)(k:yb f g a b ys):xs=ys:=by obtain⟨p,C,rfl,rfl,rfl,c,rfl⟩:=h;obtain⟨w,z,_,_,u,B,rfl⟩:=k;simp only[List.cons.injEq,V.fptr.injEq,and_true]at u;change[V.str p.name,cm p.vars,cm p.events]=[V.str w.name,cm w.vars,cm w.events]at u;simp only[List.cons.injEq]at u;have r1:=yH u.2.1;have r2:=yH u.2.2.1;unfold kA at c B;rw[E5 r1,E5 r2,Mw _ _ r2,Lt _ _ r1,funext (λs=>zh _ _ r2 0 s)]at c;have e:=c.symm.trans B;cases e;rfl
end IST
end Go.VE
namespace Go.VE
open Go.Proofs.YtbglidfgdmhlnaaGreatDoor
noncomputable section
def Kp(f:Y')(a b:So)(xs:S'):Prop:=trace_events_c1.yb 192 f a b xs\/IST.yb 178 f a b xs
def Sy:Sys:=⟨E,λn=>n,Av Kp,Ax E,Kg⟩
abbrev cL:cn:=dm Sy Tx
theorem X7:Sy.prm 159=some (vD Sy.E):=by kernel_rfl
theorem Xi:Sy.prm 156=some (vk Sy.E):=by kernel_rfl
theorem aah:∃fi,E.ft 192=some fi/\zL E some fi trace_events_c1.text:=aac Zae
theorem Ke:s_ Sy Tx where
 fn f rf h:=let⟨u,a,w⟩:=EW h;⟨u,some,a,yD,w⟩
 zu f z y h:=IA h
 prm:=Lr
theorem KB(p:bS)(B:aX (Int×Zg))(a:kA p=some B):eW Sy 178 [] [.fptr (cells p)] (B.map IST.eI):=by
 have w:Tx 178=some (tF (Tx 178)):=CI Zae;have⟨G,z,C⟩:=EW w;have e1:ble (([]:So).length+1+[V.fptr (cells p)].length) (tF (Tx 178)).na=true:=by kernel_rfl
 have e2:(tF (Tx 178)).rs=[]:=by kernel_rfl
 have e3:Sy.E=Sb.E:=rfl;exact UK e3 Lr (wP aaZ Rw) Rw z yD C (Nat.le_of_ble_eq_true e1) e2 λu more D y=>IB.AK more y u p [] (by rw[IST.all p B a u more D];rfl)
theorem DV:∀f a b xs,Sy.items f a b=some xs->eW Sy f a b xs:=by intro f a b xs h;have h:Kp f a b xs:=QF h;rcases h with h|h;obtain⟨t,u,rfl,rfl,rfl,c,rfl⟩:=h;have⟨D,w,z⟩:=aah;exact Ub Sy w yD z (Nat.le_of_ble_eq_true rfl) rfl λB more C y=>trace_events_c1.all t u c B more C y;obtain⟨p,u,rfl,rfl,rfl,c,rfl⟩:=h;exact KB p u c
theorem BF(t:Z4)(B:aX (bf×WF))(h:kB t=some B):Sy.items 192 [] [.fptr (cells t)]=some (B.map λx:bf×WF=>[enc x.1,enc x.2]):=FF (.inl ⟨t,B,rfl,rfl,rfl,h,rfl⟩) (λu a=>by rcases a with a|a<;>first|exact a.uniq ⟨t,B,rfl,rfl,rfl,h,rfl⟩|(have⟨_,_,a,_⟩:=a;exact absurd a (by decide)))
theorem IV(p:bS)(B:aX (Int×Zg))(h:kA p=some B):Sy.items 178 [] [.fptr (cells p)]=some (B.map λx:Int×Zg=>[enc x.1,enc x.2]):=FF (.inr ⟨p,B,rfl,rfl,rfl,h,rfl⟩) (λu a=>by rcases a with a|a<;>first|exact a.uniq ⟨p,B,rfl,rfl,rfl,h,rfl⟩|(have⟨_,_,a,_⟩:=a;exact absurd a (by decide)))
theorem SZ:Sy.zu 4 []=some (.bool true):=BW (Nn rfl ⟨1,[],by kernel_rfl⟩)
end
end Go.VE
namespace Go.VE
noncomputable section
def xm(D:Z4)(B:bf):aY WF:=(idx D.procs B.proc).bind λu=>(idx u.events (wrap .i64 (B.index-1))).bind λw=>some w
instance abw(B:Z4)(D:bf):Fc Sy cL (xm B D):=Fc.N 109 [enc B,enc D] (bT 2 2 B (bB 10 λw _=>bB 5 λu _=>pz 1 4 0 u aZ))
namespace d_
def bF(B G p7:Int)(D:Z4)(J:bf)(a:Int):aY (Fw Int Unit bf):=(idx D.procs p7).bind λw=>bg (decide (a<(len w.events))) ((idx D.procs p7).bind λz=>(idx z.events a).bind λu=>(bg (u.kind==B) (some (u.message==G)) (some false):aY X').bind λC=>bg C (some (.r (⟨p7,wrap .i64 (a+1)⟩:bf))) (some (.n (wrap .i64 (a+1))))) (some (.x ()))
def W2(B J p7 a:Int)(D:Z4)(G:bf):aY (Fw Int Unit bf):=(bG (λq:Int=>bF B J p7 D G q) a).bind (Fw.elim (λe=>some (.n (wrap .i64 (p7+1)))) (λe=>some (.r e)))
def bh(B J:Int)(D:Z4)(G:bf)(p7:Int):aY (Fw Int Unit bf):=bg (decide (p7<(len D.procs))) (W2 B J p7 0 D G) (some (.x ()))
def W1(B J p7:Int)(D:Z4)(G:bf):aY bf:=(bG (λq:Int=>bh B J D G q) p7).bind (Fw.elim (λe=>some ⟨0,0⟩) (λe=>some e))
end d_
def d_(D:Z4)(B G:Int):aY bf:=d_.W1 B G 0 D (⟨0,0⟩:bf)
open d_ in
instance Zv(D:Z4)(B G:Int):Fc Sy cL (d_ D B G):=Fc.M 96 [enc D,.int .i64 B,.int .i64 G] (bT 2 3 D (dx 11 (λu=>(bE [Iv 1 B,Iv 2 G,Pv 3,Pv 6,Iv 7 u] [Xb 3 D,Xb 6 (⟨0,0⟩:bf)])) (λw=>(0,(bE [Pv 6] [Xb 6 (⟨0,0⟩:bf)]))) (λw=>(bE [Pv 6] [Xb 6 w])) (λu=>bP 7 D.procs (bp 3 14 (dx 12 (λC=>(bE [Iv 1 B,Iv 2 G,Pv 3,Pv 6,Iv 7 u,Iv 8 C] [Xb 3 D,Xb 6 (⟨0,0⟩:bf)])) (λz=>(2,(bE [Iv 1 B,Iv 2 G,Pv 3,Pv 6,Iv 7 u] [Xb 3 D,Xb 6 (⟨0,0⟩:bf)]))) (λz=>(bE [Pv 6] [Xb 6 z])) (λC=>bB 8 λI _=>bP 2 I.events (bp 3 25 (bB 10 λL _=>bB 3 λJ _=>pz 2 9 0 J (bJ 9 5 [9,41] 46 (bp 9 41 (bq 5) (bq 5)) λO=>bp 2 46 aZ aZ)) aZ)) (λz=>aZ) (λz=>aZ)) aZ)) (λw=>aZ) (λw=>aZ)))
namespace ez
def J1(B:Sl bf)(D:Z4)(G:bf):aY (Sl bf):=(xm D G).bind λu=>bg (u.kind==3) ((d_ D 2 u.message).bind λw=>(fF B (w:bf)).bind λz=>some z) (some B)
end ez
def ez(D:Z4)(B:bf):aY (Sl bf):=bg (decide (B.index>1)) (ez.J1 (Sl.row [⟨B.proc,wrap .i64 (B.index-1)⟩]:Sl bf) D B) (ez.J1 (Sl.nil:Sl bf) D B)
open ez in
theorem BU(D:Z4)(B:bf):Le ((ez D B).bind λr=>some (cI r)) (b7 Sy cL (Cm (tr Tx 110)) (.rc (tb Tx 110),[],start ([enc D,enc B].map .v) [])):=bT 2 2 D (bp 17 9 (Wm 10 17 18 .bO (⟨B.proc,wrap .i64 (B.index-1)⟩:bf) (qD 5 (bt 4 λu _=>pz 1 6 0 u (bp 10 24 (bt 6 λw _=>ny 1 2005 30 31 λz _=>aZ) aZ)))) (qD 5 (bt 4 λu _=>pz 1 6 0 u (bp 10 24 (bt 6 λw _=>ny 1 2005 30 31 λz _=>aZ) aZ))))
def qU(a:bf->aY (Sl bf)):aX (aX X')×aX bf->aY (Fw (aX (aX X')×aX bf) (aX (aX X')) Empty)
 |(out,[])=>some (.x out)|(out,y::rest)=>if 0<=y.proc/\0<=y.index then(out[y.proc.toNat]?).bind λrow=>(row[y.index.toNat]?).bind λb=>bg b (some (.n (out,rest))) ((a y).bind λmore=>if rest.length+more.l.length<=2147483648 then some (.n (out.set y.proc.toNat (row.set y.index.toNat true),rest++more.l))else none)else none
def iM(t:Z4):aX (aX X'):=t.procs.l.map λP=>replicate (P.events.l.length+1) false
def CK(t:Z4):X':=decide (t.procs.l.length<=2147483648)&&t.procs.l.all λP=>decide (P.events.l.length+1<=2147483648)
def nested(out:aX (aX X')):Sl (Sl X'):=if out=[]then .nil else .row (out.map .row)
def pX(t:Z4)(x:bf):aY (Sl (Sl X')):=if CK t then(ez t x).bind λs=>(bG (qU (ez t)) (iM t,s.l)).bind (Fw.elim (λout=>some (nested out)) (λe=>elim e))else none
end
namespace pastX
abbrev zw:Nat->FuncId:=λn=>n
def r1:R0:=[o2 2 (.a .box) [0] [],o2 3 (.a .box) [1] [],o1 4 (.k (.bO)) []]
def r2:R0:=[o1 5 (.k (.bO)) []]
def r3:R0:=[o1 6 (.k (.int .i64 0)) []]
def r4:R0:=[o1 11 6 [],o2 12 (fa 0) [2] [],o2 13 (ld 1) [12] [],o2 14 ln [13] [],o2 15 (bI .lss) [11,14] []]
def r5:R0:=[o1 18 5 [],o2 19 (fa 0) [2] [],o2 20 (ld 1) [19] [],o1 21 6 [],o2 22 (ix 3) [20,21] [],o2 23 (fa 2) [22] [],o2 24 (ld 1) [23] [],o2 25 ln [24] [],o2 26 (bI .add) [25,.k (.int .i64 1)] [],o2 27 (.a (.makeSl 1 [.bool false])) [26,26] [],o2 28 (.a (.buildSl 1 1 [.bO] [0])) [27] [],o2 29 (.l (.append 1)) [18,28] [],o1 5 29 []]
def r6:R0:=[o1 16 6 [],o2 17 (bI .add) [16,.k (.int .i64 1)] [],o1 6 17 []]
def L1:RC:=.seq (.seq (.ops r4) (.cond (.s 15) (.skip) (.exit 0))) (.seq (.block 1 (.ops r5)) (.ops r6))
def r7:R0:=[o2 30 (lD 1) [2] [],o2 31 (lD 2) [3] [],o2 32 .c [.f 110,30,31] [],o1 7 32 []]
def r8:R0:=[o1 33 7 [],o2 34 ln [33] [],o2 35 (bI .gtr) [34,.k (.int .i64 0)] []]
def r9:R0:=[o1 36 7 [],o2 37 (ix 2) [36,.k (.int .i64 0)] [],o2 38 (lD 2) [37] [],o2 8 (.a (.alloc 2 [.int .i64 0,.int .i64 0])) [] [],oz (su 2) [8,38] []]
def Ca:R0:=[o1 39 7 [],o2 40 (.p (.slice 2 true false)) [39,.k (.int .i64 1)] [],o1 7 40 []]
def Dj:R0:=[o1 41 5 [],o2 42 (fa 0) [8] [],o2 43 (ld 1) [42] [],o2 44 (ix 1) [41,43] [],o2 45 (ld 1) [44] [],o2 46 (fa 1) [8] [],o2 47 (ld 1) [46] [],on 48 (ix 1) [45,47] [],on 49 (ld 1) [48] []]
def Cg:R0:=[o1 50 5 [],o2 51 (fa 0) [8] [],o2 52 (ld 1) [51] [],o2 53 (ix 1) [50,52] [],o2 54 (ld 1) [53] [],o2 55 (fa 1) [8] [],o2 56 (ld 1) [55] [],on 57 (ix 1) [54,56] [],oy (su 1) [57,.k (.bool true)] []]
def Ci:R0:=[o2 58 (lD 1) [2] [],o2 59 (lD 2) [8] [],o2 60 .c [.f 110,58,59] [],o1 9 60 []]
def Db:R0:=[o1 10 (.k (.int .i64 0)) []]
def Co:R0:=[o1 61 10 [],o1 62 9 [],o2 63 ln [62] [],o2 64 (bI .lss) [61,63] []]
def r16:R0:=[o1 67 7 [],o1 68 9 [],o1 69 10 [],o2 70 (ix 2) [68,69] [],o2 71 (lD 2) [70] [],o2 72 (.a (.buildSl 2 1 [.int .i64 0,.int .i64 0] [0])) [71] [],o2 73 (.l (.append 2)) [67,72] [],o1 7 73 []]
def Kj:R0:=[o1 65 10 [],o2 66 (bI .add) [65,.k (.int .i64 1)] [],o1 10 66 []]
def L3:RC:=.seq (.seq (.ops Co) (.cond (.s 64) (.skip) (.exit 4))) (.seq (.block 5 (.ops r16)) (.ops Kj))
def L2:RC:=.seq (.seq (.ops r8) (.cond (.s 35) (.skip) (.exit 2))) (.block 3 (.seq (.ops r9) (.seq (.ops Ca) (.seq (.seq (.sq Dj) (.cond (.s 49) (.exit 3) (.skip))) (.seq (.sq Cg) (.seq (.ops Ci) (.seq (.ops Db) (.block 4 (.loop L3)))))))))
def r18:R0:=[o1 74 5 [],o1 4 74 []]
def code:RC:=.seq (.ops r1) (.seq (.ops r2) (.seq (.seq (.ops r3) (.block 0 (.loop L1))) (.seq (.ops r7) (.seq (.block 2 (.loop L2)) (.seq (.ops r18) (.ret))))))
abbrev yU:=Go.Proofs.YtbglidfgdmhlnaaGreatDoor.E
def lW(out:aX (aX X')):S':=out.map λr=>r.map V.bool
theorem shape:∃fi,yU.ft (zw 84)=some fi/\bR ⟨yU,some,fi.ntmps⟩ false fi.body=some code/\2<=fi.ntmps/\fi.results=[.tmp 4]:=by
 have h:((yU.ft (zw 84)).map λfi=>(bR ⟨yU,some,fi.ntmps⟩ false fi.body,ble 2 fi.ntmps,fi.results))=some (some code,true,[.tmp 4]):=by kernel_rfl
 have⟨fi,a,u⟩:=ζf.1 h;simp only[ζc]at u;exact⟨fi,a,u.1,Nat.le_of_ble_eq_true u.2.1,u.2.2⟩
section
variable{E:Env}{N:Nat->Y'}{t:Z4}{x:bf}{k:Nat}{F:WP}{H H1:bn}{call:dO}{b:aY Nat}
theorem DB{o:RO}{l:R0}{v:V}{r:WP×bn}(a:o.gd=none)(c:iK E N call b o.now o.k (o.az.map (eG N F)) H=some (v,H1))(h:cE E N call b l (iP F o.dst v) H1=some r):cE E N call b (o::l) F H=some r:=by simp[cE,a,c];omega
theorem vp{o:RO}{l:R0}{v:V}{r:WP×bn}(a:o.gd=none)(c:iK E N call b o.now o.k (o.az.map (eG N F)) H=some (v,H))(h:cE E N call b l (iP F o.dst v) H=some r):cE E N call b (o::l) F H=some r:=DB a c h
theorem uH:cE E N call b [] F H=some (F,H):=rfl
theorem U9{α:Type}[bD α](s:Sl α):o5 (cm s)=some (.int .i64 s.l.length):=IP (N:=λn=>n) s
theorem cT(t:Z4):cells t=[cm t.procs]:=rfl
theorem cP(P:bS):cells P=[.str P.name,cm P.vars,cm P.events]:=rfl
theorem cY(y:bf):cells y=[.int .i64 y.proc,.int .i64 y.index]:=rfl
theorem adm{s:Sl bS}{p:bS}{i:Nat}(h:s.l[i]?=some p):nQ 3 (cm s) (i:Int)=some (.fptr (cells p)):=by have:=HF (N:=λn=>n) s .i64 i 3 rfl;simp[bM]at this;rw[this,show idx s i=some p from by unfold idx;grind];rfl
attribute [local simp] U9 cT cP cY Ob.rows mk cE iK eG bM iP nu nZ nq rN kT fV V.cells V.one Mk.val cut eN eE
theorem x4(a:get F 2=.hptr 0 0 0)(f6:get F 6=.int .i64 k)(b:H[0]?=some (.row 1 [cells t])):
 ∃F',cE E N call none r4 F H=some (F',H)/\get F' 15=.bool (decide (k<t.procs.l.length))/\(∀s,s<11->get F' s=get F s):=by
 refine⟨_,by simp[r4,a,f6,b];rfl,Zab,?_⟩
 simp;grind
theorem Az{n:Nat}(h:n<=2147483648):wrap .i64 ((n:Int)+1)=((n+1:Nat):Int):=by simp[wrap,IntKind.bits];omega
theorem x5{P:bS}{o:Nat}{ids:ST}{rows:S'}(a:get F 2=.hptr 0 0 0)(f6:get F 6=.int .i64 k)(b:H[0]?=some (.row 1 [cells t]))(B:t.procs.l[k]?=some P)(G:P.events.l.length+1<=2147483648)
 (D:oJ H (get F 5) o ids rows)(c:rows.length+1<=2147483648):
 ∃F' H',cE E N call none r5 F H=some (F',H')/\oJ H' (get F' 5) (H.length+2) (ids++[H.length]) (rows++[replicate (P.events.l.length+1) (.bool false)])/\H.length<=H'.length/\(∀id,id<H.length->id≠o\/rows=[]->H'[id]?=H[id]?)/\(∀s,s<11->s≠5->get F' s=get F s):=by
 have⟨H',p1,p2,p3,p4⟩:=D.push (replicate (P.events.l.length+1) (.bool false)) c;have z:=Az (n:=P.events.l.length) Zaa
 have u:(P.events.l.length:Int)+1<=2147483648:=Zaa
 have w:(0:Int)<=(P.events.l.length:Int)+1:=Zaa
 simp[lq]at p1;refine⟨_,H',by simp[r5,a,f6,b,adm B,z,w,u,p1];rfl,by simpa using p2,p3,p4,λs C I=>?_⟩
 simp
 repeat (rw[if_neg Zaa])
theorem x6(f6:get F 6=.int .i64 k)(a:k<=2147483648):∃F',cE E N call none r6 F H=some (F',H)/\get F' 6=.int .i64 ((k+1:Nat):Int)/\(∀s,s<11->s≠6->get F' s=get F s):=by refine⟨_,by simp[r6,f6];rfl,by simp[Az a],?_⟩;simp;grind
end
structure P1(t:Trace)(x:bf)(k:Nat)(F:Frame)(H:bn):Prop where
 f2:get F 2=.hptr 0 0 0
 f3:get F 3=.hptr 1 0 0
 f6:get F 6=.int .i64 k
 h0:H[0]?=some (.row 1 [cells t])
 h1:H[1]?=some (.row 2 [cells x])
 ns:∃o ids,oJ H (get F 5) o ids (lW ((iM t).take k))/\(k≠0->2<=o)/\∀id∈ids,2<=id
theorem zd(out:aX (aX X')):(lW out).length=out.length:=by simp[lW]
theorem O2{E:Env}{N:Nat->Y'}{t:Z4}{x:bf}(J:CK t=true):∀(m k:Nat)(F:WP)(H:bn),k+m=t.procs.l.length->P1 t x k F H->∃F' H',od E N L1 F H (.exit 0) F' H'/\P1 t x t.procs.l.length F' H':=by
 have B:t.procs.l.length<=2147483648/\∀P∈t.procs.l,P.events.l.length+1<=2147483648:=by simpa[CK]using J
 intro m;induction m with|zero=>intro k F H a p;have C:k=t.procs.l.length:=Zaa;obtain⟨F1,e1,e2,e3⟩:=x4 (E:=E) (call:=⟨0,λ_ _ _=>none⟩) p.f2 p.f6 p.h0;refine⟨F1,H,od.stop (Ex.vO (Ex.seq (Ex.dw λc=>?_) (Ex.rU ?_ Ex.exit)) Zab) Zab,?_⟩;have:cE E N c none r4 F H=cE E N ⟨0,λ_ _ _=>none⟩ none r4 F H:=rfl;exact e1;show get F1 15=_;rw[e2];simp[C];subst C;exact⟨by rw[e3 2 Zaa];exact p.f2,by rw[e3 3 Zaa];exact p.f3,by rw[e3 6 Zaa];exact p.f6,p.h0,p.h1,by rw[e3 5 Zaa];exact p.ns⟩|succ m Z=>
  intro k F H a p;have w:k<t.procs.l.length:=Zaa;obtain⟨o,ids,U,b,d⟩:=p.ns;obtain⟨F1,e1,e2,e3⟩:=x4 (E:=E) (N:=N) (call:=⟨0,λ_ _ _=>none⟩) p.f2 p.f6 p.h0;have W:=ζd w;have D:((iM t).take k).length=k:=by simp[iM];omega
  have I:oJ H (get F1 5) o ids (lW ((iM t).take k)):=by rw[e3 5 Zaa];exact U
  obtain⟨g,H2,g1,g2,g3,g4,g5⟩:=x5 (E:=E) (N:=N) (call:=⟨0,λ_ _ _=>none⟩) (by rw[e3 2 Zaa];exact p.f2) (by rw[e3 6 Zaa];exact p.f6) p.h0 W (B.2 _ (List.getElem_mem w)) I (by rw[zd,D];omega);obtain⟨X,e,f,L⟩:=x6 (E:=E) (N:=N) (call:=⟨0,λ_ _ _=>none⟩) (H:=H2) (by rw[g5 6 Zaa Zaa,e3 6 Zaa];exact p.f6) Zaa;have Y:=U.lt;have O:=(ζe.1 p.h0).1;have Q:=(ζe.1 p.h1).1;have u:∀i,i<2->i<H.length->H2[i]?=H[i]?:=λi j Y=>g4 i Y (by
   by_cases G:k=0
   .subst G;right;simp[lW]
   left;have:=b G;omega)
  have S:P1 t x (k+1) X H2:=by
   refine⟨by rw[L 2 Zaa Zaa,g5 2 Zaa Zaa,e3 2 Zaa];exact p.f2,by rw[L 3 Zaa Zaa,g5 3 Zaa Zaa,e3 3 Zaa];exact p.f3,f,
    by rw[u 0 Zaa O];exact p.h0,by rw[u 1 Zaa Q];exact p.h1,H.length+2,ids++[H.length],?_,λ_=>Zaa,λid T=>?_⟩
   rw[L 5 Zaa Zaa];have z:lW ((iM t).take (k+1))=lW ((iM t).take k)++[replicate (t.procs.l[k].events.l.length+1) (.bool false)]:=by rw[List.take_add_one];have:(iM t)[k]?=some (replicate (t.procs.l[k].events.l.length+1) false):=(by simp[iM,W]);rw[this];simp[lW]
   rw[z];exact g2;rcases List.mem_append.1 T with h|h;exact d id h;simp at h;omega
  obtain⟨F',H',r1,r2⟩:=Z (k+1) X H2 Zaa S;refine⟨F',H',od.step (Ex.seq (Ex.seq (Ex.dw λc=>e1) (Ex.pq ?_ Ex.skip)) (Ex.seq (Ex.block (Ex.dw λc=>g1)) (Ex.dw λc=>e))) r1,r2⟩;show get F1 15=_;rw[e2];simp[w]
section
attribute [local simp] U9 cT cP cY Ob.rows mk cE iK eG bM iP nu nZ nq rN kT fV V.cells V.one Mk.val cut eN eE
variable{E:Env}{N:Nat->Y'}{t:Z4}{x y:bf}{F:WP}{H:bn}{call:dO}
theorem x8{l:S'}{id:Nat}(h:mc H (get F 7) l id):∃F',cE E N call none r8 F H=some (F',H)/\get F' 35=.bool (decide (0<l.length))/\(∀s,s<11->get F' s=get F s):=by refine⟨_,by simp[r8,h.len];rfl,Zab,?_⟩;simp;grind
theorem x9{l:S'}{id:Nat}(h:mc H (get F 7) (cells y::l) id):∃F',cE E N call none r9 F H=some (F',H++[.row 2 [cells y]])/\get F' 8=.hptr H.length 0 0/\(∀s,s<11->s≠8->get F' s=get F s):=by have⟨p,p1,p2⟩:=h.get (i:=0) rfl;simp at p1 p2;refine⟨_,by simp[r9,p1,p2,gb];rfl,Zab,?_⟩;simp;grind
theorem x10{c:So}{l:S'}{id:Nat}(h:mc H (get F 7) (c::l) id):∃F',cE E N call none Ca F H=some (F',H)/\mc H (get F' 7) l id/\(∃off m B,get F 7=.hsl id 2 off m/\get F' 7=.hsl id 2 B l.length)/\(∀s,s<11->s≠7->get F' s=get F s):=by have⟨w',p1,p2,off,m,B,p3,p4⟩:=h.tail;refine⟨_,by simp[Ca,oC,p1];rfl,by simpa using p2,⟨off,m,B,p3,by simpa using p4⟩,?_⟩;simp;grind
theorem EM(H:bn):H.take H.length=H:=List.take_length ..
theorem rdY{c:Nat}(a:H[c]?=some (.row 2 [cells y])):eE H (.load 1 false) [.hptr c 0 0]=some (.int .i64 y.proc)/\eE H (.load 1 false) [.hptr c 0 1]=some (.int .i64 y.index)/\eE H (.load 2 true) [.hptr c 0 0]=some (enc y):=by refine⟨?_,?_,?_⟩<;>simp[eE,eN,a,cut]<;>rfl
theorem x11{c o:Nat}{ids:ST}{rows:S'}{p j:Nat}{r:So}{u:V}(B:get F 8=.hptr c 0 0)(a:H[c]?=some (.row 2 [cells y]))(D:oJ H (get F 5) o ids rows)(hp:y.proc=p)(G:y.index=j)(b:rows[p]?=some r)(d:r[j]?=some u):
 ∃F',cE E N call (some H.length) Dj F H=some (F',H)/\get F' 49=u/\(∀s,s<11->get F' s=get F s):=by
 have⟨id,O,w,z,C,I⟩:=D.cell b d;have⟨J,L,_⟩:=rdY a;refine⟨_,by simp[-eE,Dj,B,hp,G,J,L,w,z,C,I];rfl,Zab,?_⟩
 simp;grind
theorem x12{c o:Nat}{ids:ST}{rows:S'}{p j:Nat}{r:So}{u:V}(D:get F 8=.hptr c 0 0)(d:H[c]?=some (.row 2 [cells y]))(B:oJ H (get F 5) o ids rows)(hp:y.proc=p)(G:y.index=j)(a:rows[p]?=some r)(b:r[j]?=some u):
 ∃F' H',cE E N call (some H.length) Cg F H=some (F',H')/\oJ H' (get F' 5) o ids (rows.set p (r.set j (.bool true)))/\H'.length=H.length/\(∀i,i∉ids->H'[i]?=H[i]?)/\(∀s,s<11->get F' s=get F s):=by
 have⟨id,w,z,C,I,U⟩:=B.cell a b;have⟨J,L,_⟩:=rdY d;have⟨H',O,Q,S,T⟩:=B.set a (ζe.1 b).1 w (u:=.bool true) rfl rfl;refine⟨_,H',by simp[-eE,Cg,D,hp,G,J,L,z,C,I,O];rfl,by simpa using Q,S,λi f=>T i λe=>f (e▸mem_of_getElem? w),?_⟩
 simp;grind
def JW(E:Env)(N:Nat->Y')(t:Z4)(a:bf->aY (Sl bf)):Prop:=∀(y:bf)(s:Sl bf)(H:bn),a y=some s->∃w X id,(∃n,∀k,n<=k->gx E (run E k) (N 110) [enc t,enc y] H=some (w,H++X))/\mc (H++X) w (s.l.map cells) id/\(∀off m,w=.hsl id 2 off m->id=H.length)
theorem x13{a d:Nat}(hd:E.keep (N 110)=true){b:bf->aY (Sl bf)}(B:JW E N t b){s:Sl bf}(D:b y=some s)(f:get F 2=.hptr 0 0 0)(g:H[0]?=some (.row 1 [cells t])){c:Nat}(h:H[c]?=some (.row 2 [cells y])):
 ∃w X id,mc (H++X) w (s.l.map cells) id/\(∀off m,w=.hsl id 2 off m->id=H.length)/\
  (get F 8=.hptr c 0 0->∃F',(∃n,∀k,n<=k->cE E N (run E k) none Ci F H=some (F',H++X))/\get F' 9=w/\(∀s,s<11->s≠9->get F' s=get F s))/\
  (get F 3=.hptr c 0 0->∃F',(∃n,∀k,n<=k->cE E N (run E k) none r7 F H=some (F',H++X))/\get F' 7=w/\(∀s,s<11->s≠7->get F' s=get F s)):=by
 have⟨w,X,id,⟨n,e1⟩,e2,e3⟩:=B y s H D;rw[show enc t=.agg (cells t)from rfl,show enc y=.agg (cells y)from rfl,cT,cY]at e1;refine⟨w,X,id,e2,e3,λu=>⟨_,⟨n,λk e=>by simp[Ci,f,u,g,h,hd,e1 k e];rfl⟩,Zab,?_⟩,λi=>⟨_,⟨n,λk e=>by simp[r7,f,i,g,h,hd,e1 k e];rfl⟩,Zab,?_⟩⟩<;>
  (simp;grind)
end
section
attribute [local simp] U9 cT cP cY Ob.rows mk cE iK eG bM iP nu nZ nq rN kT fV V.cells V.one Mk.val cut eN eE
variable{E:Env}{N:Nat->Y'}{F:WP}{H:bn}{call:dO}{i:Nat}
theorem WU{l:S'}{id:Nat}(a:get F 10=.int .i64 i)(h:mc H (get F 9) l id):∃F',cE E N call none Co F H=some (F',H)/\get F' 64=.bool (decide (i<l.length))/\(∀s,s<11->get F' s=get F s):=by refine⟨_,by simp[Co,a,h.len];rfl,Zab,?_⟩;simp;grind
theorem x16{l D:S'}{id B:Nat}{c:So}(a:get F 10=.int .i64 i)(h:mc H (get F 7) l id)(G:mc H (get F 9) D B)(b:D[i]?=some c)(J:l.length+1<=2147483648):
 ∃F' H',cE E N call none r16 F H=some (F',H')/\mc H' (get F' 7) (l++[c]) (H.length+1)/\H'.length=H.length+2/\(∀i,i<H.length->(∀off m,get F 7=.hsl id 2 off m->i≠id)->H'[i]?=H[i]?)/\(∀s,s<11->s≠7->get F' s=get F s):=by
 have u:=G.c c (mem_of_getElem? b);have⟨p,p1,p2⟩:=G.get b;have⟨H',w,z,C,I⟩:=h.push u J;refine⟨_,H',by simp+contextual [-eE,-V.one,r16,a,p1,p2,w,u.1,all_eq_true.1 u.2];rfl,by simpa using z,C,I,?_⟩
 simp;grind
theorem x17(a:get F 10=.int .i64 i)(b:i<=2147483648):∃F',cE E N call none Kj F H=some (F',H)/\get F' 10=.int .i64 ((i+1:Nat):Int)/\(∀s,s<11->s≠10->get F' s=get F s):=by refine⟨_,by simp[Kj,a];rfl,by simp[Az b],?_⟩;simp;grind
structure P3(l l9:List (List V))(B i:Nat)(F:Frame)(H:bn):Prop where
 f10:get F 10=.int .i64 i
 t9:∃id9,mc H (get F 9) l9 id9/\∃id,mc H (get F 7) l id/\(∀off m,get F 7=.hsl id 2 off m->B<=id/\∀off' m',get F 9=.hsl id9 2 off' m'->id≠id9)
 len:B<=H.length
theorem acu(D:S')(B:Nat)(Y:D.length<=2147483648):∀(m i:Nat)(l:S')(F:WP)(H:bn),i+m=D.length->l.length+m<=2147483648->P3 l D B i F H->
 ∃F' H',od E N L3 F H (.exit 4) F' H'/\(∃id,mc H' (get F' 7) (l++D.drop i) id/\∀off m,get F' 7=.hsl id 2 off m->B<=id)/\(∀s,s<7->get F' s=get F s)/\(∀j,j<B->H'[j]?=H[j]?)/\H.length<=H'.length:=by
 intro m
 induction m with
 |zero=>
  intro i l F H a Z p;obtain⟨u,t9,id,t7,C⟩:=p.t9;obtain⟨F1,e1,e2,e3⟩:=WU (E:=E) (call:=⟨0,λ_ _ _=>none⟩) p.f10 t9
  refine⟨F1,H,od.stop (Ex.vO (Ex.seq (Ex.dw λc=>e1) (Ex.rU ?_ Ex.exit)) Zab) Zab,⟨id,?_,λoff m h=>?_⟩,λs T=>e3 s Zaa,λ_ _=>rfl,Nat.le_refl _⟩
  .show get F1 64=_
   grind
  .grind
  grind
 |succ m ih=>
  intro i l F H a Z p;have z:i<D.length:=Zaa
  obtain⟨u,t9,id,t7,C⟩:=p.t9;obtain⟨F1,e1,e2,e3⟩:=WU (E:=E) (call:=⟨0,λ_ _ _=>none⟩) p.f10 t9
  have b:=ζd z;have G:mc H (get F1 7) l id:=Zac
  have I:mc H (get F1 9) D u:=Zac
  obtain⟨f,H2,g1,g2,g3,g4,g5⟩:=x16 (E:=E) (call:=⟨0,λ_ _ _=>none⟩) (by rw[e3 10 Zaa];exact p.f10) G I b Zaa
  obtain⟨U,d,e,J⟩:=x17 (E:=E) (call:=⟨0,λ_ _ _=>none⟩) (by rw[g5 10 Zaa Zaa,e3 10 Zaa];exact p.f10) Zaa
  have keep:∀j,j<H.length->(∀off m,get F 7=.hsl id 2 off m->j≠id)->H2[j]?=H[j]?:=λj L h=>g4 j L Zac
  have O:P3 (l++[D[i]]) D B (i+1) U H2:=by refine⟨e,⟨u,?_,H.length+1,Zac,λoff m h=>⟨by have:=p.len;omega,λw m' W=>?_⟩⟩,by have:=p.len;omega⟩;rw[J 9 Zaa Zaa,g5 9 Zaa Zaa,e3 9 Zaa];exact t9.heap λoff n X=>keep u (t9.lt X) λw m' Q=>Ne.symm ((C w m' Q).2 off n X);rw[J 9 Zaa Zaa,g5 9 Zaa Zaa,e3 9 Zaa]at W;have:=t9.lt W;omega
  obtain⟨F',H',r1,⟨S,r2,r3⟩,r4,r5,r6⟩:=ih (i+1) (l++[D[i]]) U H2 Zaa (by simp;omega) O
  refine⟨F',H',od.step (Ex.seq (Ex.seq (Ex.dw λc=>e1) (Ex.pq ?_ Ex.skip)) (Ex.seq (Ex.block (Ex.dw λc=>g1)) (Ex.dw λc=>d))) r1,⟨S,?_,r3⟩,λs T=>?_,λj L=>?_,Zaa⟩
  .show get F1 64=_
   grind
  .rw[List.append_assoc]at r2;rw[List.drop_eq_getElem_cons z];exact r2
  .rw[r4 s T,J s Zaa Zaa,g5 s Zaa Zaa,e3 s Zaa]
  have:=p.len;rw[r5 j L,keep j Zaa λoff m h=>by have:=(C off m h).1;omega]
end
structure P2(t:Trace)(out:List (List Bool))(l:List bf)(F:Frame)(H:bn):Prop where
 f2:get F 2=.hptr 0 0 0
 h0:H[0]?=some (.row 1 [cells t])
 ns:∃B o ids id,oJ H (get F 5) o ids (lW out)/\(out≠[]->1<=o/\o<B)/\(∀id∈ids,1<=id/\id<B)/\1<=B/\B<=H.length/\mc H (get F 7) (l.map cells) id/\∀off m,get F 7=.hsl id 2 off m->B<=id
theorem VQ(out:aX (aX X'))(p j:Nat)(row:aX X'):lW (out.set p (row.set j true))=(lW out).set p ((row.map V.bool).set j (.bool true)):=by simp[lW]
theorem Ll{out:aX (aX X')}:lW out=[]↔out=[]:=by simp[lW]
theorem VJ{a:bf->aY (Sl bf)}{out:aX (aX X')}{y:bf}{rest:aX bf}{w:Fw (aX (aX X')×aX bf) (aX (aX X')) Empty}(h:qU a (out,y::rest)=some w):
 ∃(p j:Nat)(row:aX X')(b:X'),y.proc=p/\y.index=j/\out[p]?=some row/\row[j]?=some b/\((b=true/\w=.n (out,rest))\/(b=false/\∃more,a y=some more/\rest.length+more.l.length<=2147483648/\w=.n (out.set p (row.set j true),rest++more.l))):=by
 simp only[qU]at h;split at h
 .have⟨row,h1,h⟩:=ζg.1 h;have⟨b,u,h⟩:=ζg.1 h;refine⟨y.proc.toNat,y.index.toNat,row,b,Zaa,Zaa,h1,u,?_⟩
  cases b with
  |true=>simp[bg]at h;grind|false=>
   have⟨more,z,h⟩:=ζg.1 h
   grind
 simp_all
theorem PL{E:Env}{N:Nat->Y'}{t:Z4}{f:bf->aY (Sl bf)}(hd:E.keep (N 110)=true)(hD:JW E N t f):∀(k:Nat)(out:aX (aX X'))(l:aX bf)(D:aX (aX X'))(F:WP)(H:bn),
 lz (qU f) k (out,l)=some (.x D)->P2 t out l F H->∃F' H',od E N L2 F H (.exit 2) F' H'/\P2 t D [] F' H':=by
 intro k
 induction k with
 |zero=>intro out l D F H h;simp[lz]at h|succ k ih=>
  intro out l D F H h p;have⟨B,o,ids,id,n1,n2,Y,n4,n5,t7,t8⟩:=p.ns;have⟨F1,e1,e2,e3⟩:=x8 (E:=E) (N:=N) (call:=⟨0,λ_ _ _=>none⟩) t7
  rw[List.length_map]at e2
  cases l with
  |nil=>
   simp only[lz,qU]at h;cases h;refine⟨F1,H,od.stop (Ex.vO (Ex.seq (Ex.dw λc=>e1) (Ex.rU ?_ Ex.exit)) Zab) Zab,?_⟩
   .show get F1 35=_;rw[e2];simp
   exact⟨by rw[e3 2 Zaa];exact p.f2,p.h0,B,o,ids,id,by rw[e3 5 Zaa];exact n1,n2,Y,n4,n5,by rw[e3 7 Zaa];exact t7,by rw[e3 7 Zaa];exact t8⟩
  |cons y rest=>
   simp only[lz]at h
   cases J:qU f (out,y::rest)with
   |none=>rw[J]at h;cases h|some w=>
   rw[J]at h;have⟨q,j,row,b,hq,hj,u,hb,L⟩:=VJ J;have O:mc H (get F1 7) (cells y::rest.map cells) id:=by rw[e3 7 Zaa];exact t7
   have⟨F2,g1,g2,g3⟩:=x9 (E:=E) (N:=N) (call:=⟨0,λ_ _ _=>none⟩) O
   have aa:mc (H++[.row 2 [cells y]]) (get F2 7) (cells y::rest.map cells) id:=by rw[g3 7 Zaa Zaa];exact O.more _
   have⟨r,i1,i2,⟨G,m1,ab,i3,i4⟩,K⟩:=x10 (E:=E) (N:=N) (call:=⟨0,λ_ _ _=>none⟩) aa
   have Q:(H++[Ob.row 2 [cells y]])[H.length]?=some (.row 2 [cells y]):=Zab
   have M:get r 8=.hptr H.length 0 0:=by rw[K 8 Zaa Zaa];exact g2
   have f5:get r 5=get F 5:=by rw[K 5 Zaa Zaa,g3 5 Zaa Zaa,e3 5 Zaa]
   have P:get r 2=.hptr 0 0 0:=by rw[K 2 Zaa Zaa,g3 2 Zaa Zaa,e3 2 Zaa];exact p.f2
   have S:oJ (H++[.row 2 [cells y]]) (get r 5) o ids (lW out):=by rw[f5];exact n1.more _
   have hr:(lW out)[q]?=some (row.map V.bool):=by simp[lW,u]
   have hu:(row.map V.bool)[j]?=some (.bool b):=by simp[hb]
   have T:B<=id:=by have:get F 7=.hsl id 2 G m1:=(by rw[<-i3,g3 7 Zaa Zaa,e3 7 Zaa]);exact t8 _ _ this
   have⟨R,j1,j2,z⟩:=x11 (E:=E) (N:=N) (call:=⟨0,λ_ _ _=>none⟩) M Q S hq hj hr hu
   have ad:eG N F1 (.s 35)=.bool true:=by show get F1 35=_;rw[e2];simp
   rcases L with⟨rfl,rfl⟩|⟨rfl,more,v,aq,rfl⟩
   .simp only at h;have U:P2 t out rest R (H++[.row 2 [cells y]]):=by
     refine⟨by rw[z 2 Zaa];exact P,by rw[List.getElem?_append_left (ζe.1 p.h0).1];exact p.h0,B,o,ids,id,by rw[z 5 Zaa];exact S,n2,Y,n4,by simp;omega,by rw[z 7 Zaa];exact i2,λoff m _=>T⟩
    have⟨F',H',r1,r2⟩:=ih out rest D R _ h U;exact⟨F',H',od.step (Ex.seq (Ex.seq (Ex.dw λc=>e1) (Ex.pq ad Ex.skip)) (Ex.wZ (Ex.seq (Ex.dw λc=>g1) (Ex.seq (Ex.dw λc=>i1) (Ex.vO (Ex.seq (Ex.sq rfl λc=>j1) (Ex.pq j2 Ex.exit)) Zab))))) r1,r2⟩
   simp only at h;have n6:oJ (H++[.row 2 [cells y]]) (get R 5) o ids (lW out):=by rw[z 5 Zaa];exact S
   have⟨F5,C,k1,k2,k3,k4,k5⟩:=x12 (E:=E) (N:=N) (call:=⟨0,λ_ _ _=>none⟩) (by rw[z 8 Zaa];exact M) Q n6 hq hj hr hu
   have I:∀i,B<=i->i∉ids:=λi hi v=>by have:=(Y i v).2;omega
   have ah:C[H.length]?=some (.row 2 [cells y]):=by rw[k4 _ (I _ n5)];exact Q
   have W:C[0]?=some (.row 1 [cells t]):=by rw[k4 0 (λv=>by have:=(Y 0 v).1;omega),List.getElem?_append_left (ζe.1 p.h0).1];exact p.h0
   have⟨w9,X,ai,aj,m2,m3,_⟩:=x13 (a:=0) (d:=0) (F:=F5) hd hD v (by rw[k5 2 Zaa,z 2 Zaa];exact P) W ah
   have⟨Z,⟨nn,ak⟩,ae,o3⟩:=m3 (by rw[k5 8 Zaa,z 8 Zaa];exact M)
   have au:C.length=H.length+1:=by rw[k3];simp
   have i7:get Z 7=.hsl id 2 ab (rest.map cells).length:=by rw[o3 7 Zaa Zaa,k5 7 Zaa,z 7 Zaa];exact i4
   have ar:id<H.length:=by have:=O.lt (off:=G) (m:=m1) (by rw[<-i3,g3 7 Zaa Zaa]);exact this
   have t6:mc (C++X) (get Z 7) (rest.map cells) id:=by have:get Z 7=get r 7:=(by rw[o3 7 Zaa Zaa,k5 7 Zaa,z 7 Zaa]);rw[this];refine(i2.heap (H':=C) λoff n _=>k4 id (I id T)).more X
   have al:∃g,(∀c,cE E N c none Db Z (C++X)=some (g,C++X))/\get g 10=.int .i64 ((0:Nat):Int)/\∀s,s<10->get g s=get Z s:=⟨set Z 10 (.int .i64 0),λc=>by simp[Db,cE,iK,eG,bM,iP],Zab,λs hs=>by rw[nu,if_neg Zaa]⟩
   have⟨g,u1,u2,x⟩:=al;have am:P3 (rest.map cells) (more.l.map cells) B 0 g (C++X):=by refine⟨u2,⟨ai,by rw[x 9 Zaa,ae];exact aj,id,by rw[x 7 Zaa];exact t6,λoff m hh=>⟨T,λaf m' h'=>?_⟩⟩,by simp;omega⟩;rw[x 9 Zaa,ae]at h';have:=m2 af m' h';omega
   have⟨A,H8,v1,⟨an,v2,v3⟩,v4,v5,v6⟩:=acu (E:=E) (N:=N) (more.l.map cells) B (by simp;omega) (more.l.map cells).length 0 (rest.map cells) g (C++X) Zaa (by simp;omega) am
   have ao:oJ H8 (get A 5) o ids (lW (out.set q (row.set j true))):=by have h5:get A 5=get F5 5:=(by rw[v4 5 Zaa,x 5 Zaa,o3 5 Zaa Zaa]);rw[h5,VQ];refine(k2.more X).heap (λap=>v5 o ?_) λi hi=>v5 i (Y i hi).2;have:out≠[]:=(by intro e;subst e;simp at u);exact(n2 this).2
   have U:P2 t (out.set q (row.set j true)) (rest++more.l) A H8:=by refine⟨by rw[v4 2 Zaa,x 2 Zaa,o3 2 Zaa Zaa,k5 2 Zaa,z 2 Zaa];exact P,?_,B,o,ids,an,ao,λap=>n2 (by intro e;subst e;simp at u),Y,n4,by simp at v6;omega,?_,v3⟩;rw[v5 0 Zaa,List.getElem?_append_left (ζe.1 W).1];exact W;rw[List.drop_zero]at v2;rw[map_append];exact v2
   have⟨F',H',w1,w2⟩:=ih _ _ D A H8 h U;exact⟨F',H',od.step (Ex.seq (Ex.seq (Ex.dw λc=>e1) (Ex.pq ad Ex.skip)) (Ex.block (Ex.seq (Ex.dw λc=>g1) (Ex.seq (Ex.dw λc=>i1) (Ex.seq (Ex.seq (Ex.sq rfl λc=>j1) (Ex.rU j2 Ex.skip)) (Ex.seq (Ex.sq rfl λc=>k1)
    (Ex.seq (Ex.ops ⟨nn,ak⟩) (Ex.seq (Ex.dw u1) (Ex.wZ (Ex.loop v1)))))))))) w1,w2⟩
theorem Wd{H:bn}{Z:Nat->Prop}{id:Nat}{r:aX X'}(D:Z id)(h:H[id]?=some (.row 1 (lq (r.map V.bool)))):FR H Z (enc (Sl.row r)) (.hsl id 1 0 r.length):=by
 have e:bu H id=some (1,lq (r.map V.bool)):=by simp[bu,h,Ob.rows]
 have C:enc (Sl.row r)=.fsl 1 (rows r):=rfl;have G:(rows r).length=r.length:=by simp[rows]
 have f:lq (r.map V.bool)=rows r:=by simp[lq,rows,Function.comp_def]
 rw[f]at e;rw[C,<-G];refine .fsl 1 (rows r) id 0 (rows r) D e Zaa (λi a b d w=>?_) (λi j a b u v d w z B=>?_);grind;rw[zero_add,d]at w;cases w;rw[z]at B;cases B;refine .same u ?_;obtain⟨c,I,rfl⟩:∃c∈r,a=[V.bool c]:=by have:=mem_of_getElem? d;simp only[rows,mem_map]at this;obtain⟨c,f,rfl⟩:=this;simp_all
 have:=mem_of_getElem? z;simp at this;subst this;rfl
theorem UI{H:bn}{w:V}{o:Nat}{ids:ST}{out:aX (aX X')}(n:oJ H w o ids (lW out)):∃Z,FR H Z (enc (nested out)) w/\(∀id,Z id->(bu H id).isSome=true)/\Deep H Z:=by
 have g:=n.v;by_cases O:out=[];subst O;rw[if_pos (show lW []=[]from rfl)]at g;subst g;exact⟨λ_=>False,.same _ rfl,λ_ h=>h.elim,⟨λ_ _ _ h=>h.elim⟩⟩;have G:lW out≠[]:=λh=>O (Ll.1 h);rw[if_neg G,zd]at g;subst g;have Q:=n.ob G;have I:=n.len;rw[zd]at I;have B:∀(i id:Nat)(r:aX X'),ids[i]?=some id->out[i]?=some r->H[id]?=some (.row 1 (lq (r.map V.bool))):=λi id r e D=>n.r i id _ e (by simp[lW,D]);have C:∀(i:Nat)(c:So),(refs ids (lW out))[i]?=some c->∃id r,ids[i]?=some id/\out[i]?=some r/\c=[.hsl id 1 0 r.length]:=λi c h=>by have f:=(ζe.1 h).1;rw[wq n.len,zd]at f;have e:=ζd (show i<ids.length from Zaa);have D:=ζd f;have S:=EG (rows:=lW out) (r:=out[i].map V.bool) e (by simp[lW,D]);grind
 have J:bu H o=some (1,refs ids (lW out)):=by simp[bu,Q,Ob.rows]
 have L:∀id∈ids,∃(r:aX X'),H[id]?=some (.row 1 (lq (r.map V.bool))):=λid z=>by have⟨i,f⟩:=List.getElem?_of_mem z;have T:=(ζe.1 f).1;exact⟨_,B i id _ f (ζd (show i<out.length from Zaa))⟩
 refine⟨λid=>id=o\/id∈ids,?_,λid h=>?_,⟨λid es ys h d c hc u hu=>?_⟩⟩;have Y:enc (nested out)=.fsl 1 (rows (out.map Sl.row)):=by rw[nested,if_neg O];rfl
 have T:(rows (out.map Sl.row)).length=out.length:=by simp[rows]
 rw[Y,<-T];refine .fsl 1 _ o 0 (refs ids (lW out)) (.inl rfl) J (by rw[T,wq n.len,zd];omega) (λi a b e D=>?_) (λi j a b u v e D S X=>?_);rw[zero_add]at D;obtain⟨id,r,_,d,rfl⟩:=C i b D;simp[rows,d]at e;subst e;rfl;rw[zero_add]at D;obtain⟨id,r,z,d,rfl⟩:=C i b D;have k:a=[enc (Sl.row r)]:=by simp[rows,d]at e;exact e.symm
 subst k;cases j with|zero=>simp at S X;subst S X;exact Wd (.inr (mem_of_getElem? z)) (B i id r z d)|succ j=>simp_all
 rcases h with rfl|h;simp_all;have⟨r,d⟩:=L id h;simp[bu,d,Ob.rows];rcases h with rfl|h;rw[J]at d;cases d;have⟨i,f⟩:=List.getElem?_of_mem hc;obtain⟨id,r,z,U,rfl⟩:=C i c f;simp at hu;subst hu;exact⟨_,Wd (.inr (mem_of_getElem? z)) (B i id r z U)⟩;have⟨r,W⟩:=L id h;have:bu H id=some (1,lq (r.map V.bool)):=by simp[bu,W,Ob.rows]
 rw[this]at d;cases d;simp only[lq,mem_map]at hc;obtain⟨_,⟨c',_,rfl⟩,rfl⟩:=hc;simp at hu;subst hu;exact⟨_,.same _ rfl⟩
theorem XA{t:Z4}{x:bf}{out:aX (aX X')}{s:Sl bf}{b:bf->aY (Sl bf)}(hd:yU.keep (zw 110)=true)(W:JW yU zw t b)(U:CK t=true)(g:b x=some s)(j:bG (qU b) (iM t,s.l)=some (.x out)):
 Cp yU (zw 84) [enc t,enc x] (enc (nested out)):=by
 have⟨fi,g1,g2,g3,g4⟩:=shape;have⟨k,l⟩:=qK.1 j;have p:∃F1,(∀c,cE yU zw c none r1 [enc t,enc x] []=some (F1,[.row 1 [cells t],.row 2 [cells x]]))/\get F1 2=.hptr 0 0 0/\get F1 3=.hptr 1 0 0:=by refine⟨_,λc=>DB (v:=.hptr 0 0 0) (H1:=[.row 1 [cells t]]) rfl ?_<|DB (v:=.hptr 1 0 0) (H1:=[.row 1 [cells t],.row 2 [cells x]]) rfl ?_<|vp (v:=.bO) rfl ?_ uH,?_,?_⟩;show(kT .box [enc t]).map _=_;simp only[kT,mX,tC,if_true,Option.map_some,h_];rfl;simp only[iK,map_cons,List.map_nil,eG,iP,nu,Nat.reduceEqDiff,if_false];show(kT .box [enc x]).map _=_;simp only[kT,mX,tC,if_true,Option.map_some,h_];rfl;simp[iK,eG,bM];simp[iP];simp[iP]
 have⟨F1,q,r,y⟩:=p;have A:∃I,(∀c,cE yU zw c none r2 F1 [.row 1 [cells t],.row 2 [cells x]]=some (set F1 5 .bO,[.row 1 [cells t],.row 2 [cells x]]))/\(∀c,cE yU zw c none r3 (set F1 5 .bO) [.row 1 [cells t],.row 2 [cells x]]=some (I,[.row 1 [cells t],.row 2 [cells x]]))/\P1 t x 0 I [.row 1 [cells t],.row 2 [cells x]]:=by refine⟨set (set F1 5 .bO) 6 (.int .i64 0),λc=>by simp[r2,cE,iK,eG,bM,iP],λc=>by simp[r3,cE,iK,eG,bM,iP],by simp[r],by simp[y],Zab,rfl,rfl,0,[],?_,λh=>absurd rfl h,λid h=>by simp at h⟩;have:get (set (set F1 5 .bO) 6 (.int .i64 0)) 5=.bO:=Zab;rw[this,List.take_zero];exact oJ.nil _ 0
 have⟨I,H,K,M⟩:=A;have⟨P,Q,e1,e2⟩:=O2 (E:=yU) (N:=zw) U t.procs.l.length 0 I _ Zaa M
 have⟨o,ids,J,R,V⟩:=e2.ns;have S:(iM t).length=t.procs.l.length:=by simp[iM]
 rw[List.take_of_length_le Zaa]at J
 have⟨w,X,id,m1,m2,_,m4⟩:=x13 (a:=0) (d:=0) (F:=P) (E:=yU) (N:=zw) hd W g e2.f2 e2.h0 (c:=1) e2.h1;have⟨T,o1,o2,o3⟩:=m4 e2.f3;have O:P2 t (iM t) s.l T (Q++X):=by refine⟨by rw[o3 2 Zaa Zaa];exact e2.f2,by rw[List.getElem?_append_left (ζe.1 e2.h0).1];exact e2.h0,Q.length,o,ids,id,by rw[o3 5 Zaa Zaa];exact J.more X,λu=>?_,λi f=>⟨by have:=V i f;omega,J.lt.2 i f⟩,?_,Zab,by rw[o2];exact m1,λoff m h=>?_⟩;have z:lW (iM t)≠[]:=λh=>u (Ll.1 h);have:t.procs.l.length≠0:=(by intro h;apply u;exact List.eq_nil_of_length_eq_zero Zaa);have:=R this;exact⟨Zaa,J.lt.1 z⟩;have:=(ζe.1 e2.h0).1;omega;rw[o2]at h;have:=m2 off m h;omega
 have⟨C,L,p1,p2⟩:=PL hd W k _ _ out T _ l O;have⟨B,o',Y,aa,q1,_⟩:=p2.ns;have l1:∃D,(∀c,cE yU zw c none r18 C L=some (D,L))/\get D 4=get C 5:=by refine⟨_,λc=>vp (v:=get C 5) rfl ?_<|vp (v:=get C 5) rfl ?_ uH,?_⟩;simp[iK,eG,bM];simp[iK,eG,bM,iP];simp[iP]
 have⟨D,y1,y2⟩:=l1;have e:Ex yU zw code [enc t,enc x] [] .ret D L:=Ex.seq (Ex.dw q) (Ex.seq (Ex.dw H) (Ex.seq (Ex.seq (Ex.dw K) (Ex.wZ (Ex.loop e1))) (Ex.seq (Ex.ops o1) (Ex.seq (Ex.wZ (Ex.loop p1)) (Ex.seq (Ex.dw y1) Ex.ret)))))
 have⟨n,G⟩:=e.run (nm:=some) yD g1 g2 (show[enc t,enc x].length<=fi.ntmps from g3) (vs:=[get D 4]) (by rw[g4];rfl)
 have⟨Z,z1,z2,z3⟩:=UI q1;exact⟨n,get C 5,L,Z,by rw[G,y2];rfl,z1,z2,z3⟩
theorem ZZ(l:aX bf):∀c∈l.map (cells (α:=bf)),c.length=2/\c.all V.one=true/\c.all V.scalar=true:=λc a=>by obtain⟨e,_,rfl⟩:=mem_map.1 a;exact⟨rfl,rfl,rfl⟩
theorem abx(t:Z4):JW yU zw t (ez t):=by
 intro y s H B;have d:=BU t y;have I:=d (cI s) (by rw[B];rfl);have b:V.cG [enc t,enc y]=true:=by simp only[V.cG,k_,Bool.and_self]
 have w:s.k=.row\/s.k=.nil/\rows s.l=[]:=by have D:∀o z,(∃l,o=.row l)\/o=.nil->ez.J1 o t y=some z->(∃l,z=.row l)\/z=.nil:=λo z J u=>(by unfold ez.J1 at u;have⟨e,_,u⟩:=ζg.1 u;cases G:e.kind==3 with|true=>rw[G]at u;have⟨f,_,u⟩:=ζg.1 u;have⟨q,C,u⟩:=ζg.1 u;cases u;unfold fF at C;split at C;cases C;exact .inl ⟨_,rfl⟩;cases C|false=>rw[G]at u;cases u;exact J);have:(∃l,s=.row l)\/s=.nil:=(by unfold ez at B;cases a:decide (y.index>1)with|true=>rw[a]at B;exact D _ s (.inl ⟨_,rfl⟩) B|false=>rw[a]at B;exact D _ s (.inr rfl) B);rcases this with⟨l,rfl⟩|rfl;exact .inl rfl;exact .inr ⟨rfl,rfl⟩
 have⟨n,z,H',r1,r2⟩:=Z_ Ke DV (T:=Tx) (f:=zw 110) (rf:=tF (Tx 110)) Zae b (Nat.le_of_ble_eq_true Zae) (k:=s.k) (es:=2) (xs:=rows s.l) (λc a=>(ZZ s.l c a).2.2) w I;refine Lo (l:=s.l.map cells) (y:=z) (H1:=H') Zae b (ZZ s.l) ⟨n,λk g=>(qF _ g).go _ _ _ _ r1⟩ ?_ H;rcases r2 with⟨L,rfl⟩|⟨id,rfl,O⟩;left;cases s<;>simp[Sl.k]at L;exact⟨rfl,rfl⟩;right;exact⟨id,by simp[rows],O⟩
end pastX
theorem Vm(t:Z4)(x:bf)(r:Sl (Sl X'))(h:pX t x=some r):Sy.zu 84 [enc t,enc x]=some (enc r):=by
 unfold pX at h;split at h;rename_i u;have⟨s,z,h⟩:=ζg.1 h;have⟨w,B,h⟩:=ζg.1 h;cases w with|n a=>exact elim a|r e=>exact elim e|x out=>cases h;exact BW (pastX.XA Zae (pastX.abx t) u z B)
 cases h
noncomputable section
def zg:aY X':=some true
instance X1:Fc Sy cL zg:=⟨4,[],λr:X'=>[.bool r],true,eV.zu Zae Zae SZ⟩
namespace gU
def bh(s0:Sl WF)(D:Int)(B:Int)(p1:WF->aY X'):aY (Fw Int Unit Int):=bg (decide (B<D)) ((idx s0 B).bind λu=>(p1 u).bind λw=>bg w (some (.r B)) (some (.n (wrap .i64 (B+1))))) (some (.x ()))
def W1(s0:Sl WF)(B D:Int)(p1:WF->aY X'):Ps:=(bG (λq:Int=>bh s0 B q p1) D).bind (Fw.elim (λe=>some (-1)) (λe=>some e))
end gU
def gU(s0:Sl WF)(p1:WF->aY X'):Ps:=gU.W1 s0 (len s0) 0 p1
open gU in
abbrev zb(g1:FuncId)(e1:aX V)(p1:Event->aY Bool)(a:mI Sy cL g1 [] e1 (λz:Event=>[enc z]) (λr:Bool=>[.bool r]) p1 true)(s0:Sl Event):Fc Sy cL (gU s0 p1):=Fc.M 57 [enc s0,.clo g1 [] e1] (bP 9 s0 (dx 5 (λw=>(bE [Cv 0 s0,(1,.v (.clo g1 [] e1)),Iv 7 (len s0),Iv 8 w] [])) (λu=>(0,(bE [] []))) (λu=>(bE [Iv 4 u] [])) (λw=>bp 7 9 (bB 16 λB _=>zA 1 a.f B λC _=>bp 2 16 aZ aZ) aZ) (λu=>aZ) (λu=>aZ)))
def gX(s0:Sl WF)(p1:WF->aY X'):aY X':=(gU s0 p1).bind λu=>some (decide (u>=0))
abbrev mQ(g1:FuncId)(e1:aX V)(p1:Event->aY Bool)(a:mI Sy cL g1 [] e1 (λz:Event=>[enc z]) (λr:Bool=>[.bool r]) p1 true)(s0:Sl Event):Fc Sy cL (gX s0 p1):=Fc.M 31 [enc s0,.clo g1 [] e1] (bt (F:=zb g1 e1 p1 a s0) 9 λu _=>aZ)
def rV(B:WF):aY X':=some (decide ((len B.assign)>12))
instance Tr(B:WF):Fc Sy cL (rV B):=Fc.M 32 [enc B] (bT 2 1 B (bP 7 B.assign aZ))
def q9(B:Int):aY X':=(bg (decide (B>=65)) (some (decide (B<=90))) (some false):aY X').bind λu=>(bg u (some true) ((bg (decide (B>=97)) (some (decide (B<=122))) (some false):aY X').bind λw=>some w):aY X').bind λz=>some z
instance WR(B:Int):Fc Sy cL (q9 B):=Fc.M 137 [.int .u8 B] (bJ 10 3 [5] 8 (bp 10 5 (bq 3) (bq 3)) λu=>bJ 1 7 [0,9] 16 (bp 1 9 (bq 7) (bJ 3 3 [0,12] 15 (bp 3 12 (bq 3) (bq 3)) λw=>bq 1)) λz=>aZ)
def vh(B:Int):aY X':=(bg (decide (B>=48)) (some (decide (B<=57))) (some false):aY X').bind λu=>some u
instance Xg(B:Int):Fc Sy cL (vh B):=Fc.M 138 [.int .u8 B] (bJ 10 3 [0,5] 8 (bp 10 5 (bq 3) (bq 3)) λu=>aZ)
namespace jb
def bh(s0:U')(i3:Int):aY (Fw Int Unit Unit):=bg (decide (i3<((ByteArray.size s0:Nat):Int))) ((mY s0 i3).bind λz=>(q9 z).bind λB=>(bg B (some false) ((mY s0 i3).bind λC=>(vh C).bind λD=>some (!D)):aY X').bind λG=>(bg G ((mY s0 i3).bind λu=>some (!(u==95))) (some false):aY X').bind λw=>bg w (some (.r ())) (some (.n (wrap .i64 (i3+1))))) (some (.x ()))
def W1(s0:U')(i3:Int):aY X':=(bG (λq:Int=>bh s0 q) i3).bind (Fw.elim (λe=>some true) (λe=>some false))
end jb
def jb(s0:U'):aY X':=(bg (decide (((ByteArray.size s0:Nat):Int)<1)) (some true) (some (decide (((ByteArray.size s0:Nat):Int)>16))):aY X').bind λu=>(bg u (some true) ((mY s0 0).bind λw=>(q9 w).bind λz=>some (!z)):aY X').bind λB=>bg B (some false) (jb.W1 s0 1)
open jb in
instance Zi(s0:U'):Fc Sy cL (jb s0):=Fc.M 107 [.str s0] (bJ 12 4 [7] 11 (bp 12 7 (bq 4) (bq 4)) λC=>bJ 1 5 [12] 17 (bp 1 12 (bq 5) (C7 1 .i64 λD _=>bt 0 λG _=>bq 2)) λI=>bp 2 17 aZ (dx 11 (λw=>(bE [(0,.v (.str s0)),Iv 3 w] [])) (λu=>(0,(bE [] []))) (λu=>(bE [Bv 2 false] [])) (λw=>bp 10 21 (C7 9 .i64 λJ _=>bt 0 λL _=>bJ 2 6 [29] 35 (cz 2 29 (bq 6) (C7 2 .i64 λO _=>bt 0 λQ _=>bq 2)) λS=>bJ 1 5 [36] 41 (bp 1 36 (C7 2 .i64 λz _=>bq 2) (bq 5)) λB=>bp 2 41 aZ aZ) aZ) (λu=>aZ) (λu=>aZ)))
def sF(B:Int):aY X':=(bg (decide (B>=(-1073741824))) (some (decide (B<=1073741824))) (some false):aY X').bind λu=>some u
instance Yn(B:Int):Fc Sy cL (sF B):=Fc.M 108 [.int .i64 B] (bJ 10 3 [0,5] 8 (bp 10 5 (bq 3) (bq 3)) λu=>aZ)
namespace eP
def fC(G:Int)(B:bS)(D:Int):aY (Fw Int Unit Unit):=bg (decide (D<G)) ((idx B.vars D).bind λu=>(idx B.vars G).bind λw=>bg (toList u.name==toList w.name) (some (.r ())) (some (.n (wrap .i64 (D+1))))) (some (.x ()))
def W3(D G:Int)(B:bS):aY (Fw Int Unit Int):=(bG (λq:Int=>fC D B q) G).bind (Fw.elim (λe=>(idx B.vars D).bind λu=>(sF u.init_).bind λw=>bg w (some (.n (wrap .i64 (D+1)))) (some (.r 2))) (λe=>some (.r 13)))
def bF(B:bS)(D:Int):aY (Fw Int Unit Int):=bg (decide (D<(len B.vars))) ((idx B.vars D).bind λu=>(jb u.name).bind λw=>bg w (W3 D 0 B) (some (.r 13))) (some (.x ()))
def W2(D:Int)(B:bS):Ps:=(bG (λq:Int=>bF B q) D).bind (Fw.elim (λe=>bg (decide ((len B.events)>64)) (some 5) (some 0)) (λe=>some e))
def bh(p1:Int)(B:Z4)(D:bS)(G:Int):aY (Fw Int Unit Unit):=bg (decide (G<p1)) ((idx B.procs G).bind λu=>bg (toList u.name==toList D.name) (some (.r ())) (some (.n (wrap .i64 (G+1))))) (some (.x ()))
def W1(p1 G:Int)(D:Z4)(B:bS):Ps:=(bG (λq:Int=>bh p1 D B q) G).bind (Fw.elim (λe=>bg (decide ((len B.vars)>8)) (some 5) (eP.W2 0 B)) (λe=>some 13))
end eP
def eP(B:Z4)(p1:Int):Ps:=(idx B.procs p1).bind λu=>(jb u.name).bind λw=>bg w (eP.W1 p1 0 B u) (some 13)
open eP in
instance Zw(J:Z4)(p1:Int):Fc Sy cL (eP J p1):=Fc.M 80 [enc J,.int .i64 p1] (bT 2 2 J (bB 8 λu _=>pz 2 5 0 u (bt 7 λI _=>cz 3 17 (dx 11 (λD=>(bE [Iv 1 p1,Pv 2,Pv 5,Iv 6 D] [Xb 2 J,Xb 5 u])) (λB=>(0,(bE [Pv 5] [Xb 5 u]))) (λB=>(bE [Iv 4 13] [])) (λD=>bp 9 20 (bB 10 λL _=>bp 7 31 aZ aZ) aZ) (λB=>bP 7 u.vars (bp 3 35 aZ (dx 11 (λw=>(bE [Pv 5,Iv 7 w] [Xb 5 u])) (λz=>(2,(bE [Pv 5] [Xb 5 u]))) (λz=>(bE [Iv 4 z] [])) (λw=>bP 7 u.vars (bp 3 40 (bB 11 λO _=>bt 2 λQ _=>cz 3 50 (dx 11 (λG=>(bE [Pv 5,Iv 7 w,Iv 8 G] [Xb 5 u])) (λC=>(4,(bE [Pv 5,Iv 7 w] [Xb 5 u]))) (λC=>(bE [Iv 4 13] [])) (λG=>bp 9 53 (bB 10 λS _=>bB 5 λT _=>bp 5 68 aZ aZ) aZ) (λC=>bB 7 λU _=>bt 2 λW _=>cz 3 76 aZ aZ) (λC=>aZ)) aZ) aZ)) (λz=>bP 7 u.events (bp 3 80 aZ aZ)) (λz=>aZ)))) (λB=>aZ)) aZ)))
namespace eS
def fC(p1 k8:Int)(J:Z4)(D:WF)(G:Assign)(B:Int):aY (Fw Int Unit Unit):=bg (decide (B<k8)) ((idx D.assign B).bind λu=>bg (u.var==G.var) (some (.r ())) (some (.n (wrap .i64 (B+1))))) (some (.x ()))
def W3(p1 k8 B:Int)(D:Z4)(G:WF)(J:Assign):aY (Fw Int Unit Int):=(bG (λq:Int=>fC p1 k8 D G J q) B).bind (Fw.elim (λe=>some (.n (wrap .i64 (k8+1)))) (λe=>some (.r 8)))
def bF(p1:Int)(D:Z4)(B:WF)(k8:Int):aY (Fw Int Unit Int):=bg (decide (k8<(len B.assign))) ((idx B.assign k8).bind λu=>(bg (decide (u.var<0)) (some true) ((idx D.procs p1).bind λw=>some (decide (u.var>=(len w.vars)))):aY X').bind λz=>(bg z (some true) ((sF u.value).bind λC=>some (!C)):aY X').bind λG=>bg G (some (.r 2)) (W3 p1 k8 0 D B u)) (some (.x ()))
def W2(p1 k8:Int)(B:Z4)(D:WF):Ps:=(bG (λq:Int=>bF p1 B D q) k8).bind (Fw.elim (λe=>some 0) (λe=>some e))
def J1(p1 i2:Int)(D:Z4)(B:WF):Ps:=(bg (decide (B.time<0)) (some true) (some (decide (B.time>1099511627776))):aY X').bind λu=>(bg u (some true) ((bg (decide (i2>0)) ((idx D.procs p1).bind λw=>(idx w.events (wrap .i64 (i2-1))).bind λz=>some (decide (B.time<z.time))) (some false):aY X').bind λC=>some C):aY X').bind λG=>bg G (some 11) (bg (decide ((len B.assign)>8)) (some 5) (eS.W2 p1 0 D B))
theorem nh(p1 i2:Int)(D:Z4)(B:WF):Le ((J1 p1 i2 D B).bind (λr=>some [.int .i64 r])) (b7 Sy cL (p8 (tr Tx 81)) (rM (tb Tx 81) [1,1,1,0] [] (bE [Iv 1 p1,Iv 2 i2,Pv 3,Pv 7] [Xb 3 D,Xb 7 B]))):=bJ 7 4 [71] 75 (bp 7 71 (bq 4) (bq 4)) λL=>bJ 1 19 [2,76] 95 (bp 1 76 (bq 19) (bJ 3 15 [2,79] 94 (bp 3 79 (bB 5 λO _=>bB 4 λQ _=>bq 4) (bq 15)) λS=>bq 1)) λT=>bp 2 95 aZ (bP 8 B.assign (bp 3 99 aZ (dx 11 (λu=>(bE [Iv 1 p1,Pv 3,Pv 7,Iv 8 u] [Xb 3 D,Xb 7 B])) (λw=>(0,(bE [] []))) (λw=>(bE [Iv 6 w] [])) (λu=>bP 7 B.assign (bp 3 104 (bB 10 λz _=>bJ 12 11 [115] 126 (bp 12 115 (bq 11) (bB 5 λI _=>bP 2 I.vars (bq 2))) λU=>wM 1 5 [130] (λC=>(bE [Iv 1 p1,Pv 3,Pv 7,Iv 8 u,Bv 104 true,Pv 9,Bv 132 C] [Xb 3 D,Xb 7 B,Xb 9 z])) (bp 1 127 (bq 5) (b9 2 λW _=>bq 2)) λC=>bp 2 132 aZ (dx 10 (λJ=>(bE [Iv 1 p1,Pv 3,Pv 7,Iv 8 u,Pv 9,Iv 10 J] [Xb 3 D,Xb 7 B,Xb 9 z])) (λG=>(2,(bE [Iv 1 p1,Pv 3,Pv 7,Iv 8 u] [Xb 3 D,Xb 7 B]))) (λG=>(bE [Iv 6 8] [])) (λJ=>bp 9 135 (bB 10 λX _=>bp 7 146 aZ aZ) aZ) (λG=>aZ) (λG=>aZ))) aZ)) (λw=>aZ) (λw=>aZ))))
end eS
def eS(B:Z4)(p1 i2:Int):Ps:=(idx B.procs p1).bind λw=>(idx w.events i2).bind λu=>bg (u.kind==1) ((bg (u.peer==0) (some (!(u.message==0))) (some true):aY X').bind λz=>bg z (some 3) (eS.J1 p1 i2 B u)) ((bg (u.kind==2) (some false) (some (!(u.kind==3))):aY X').bind λC=>(bg C (some true) (some (decide (u.peer<0))):aY X').bind λD=>(bg D (some true) (some (decide (u.peer>=(len B.procs)))):aY X').bind λG=>(bg G (some true) (some (u.peer==p1)):aY X').bind λI=>(bg I (some true) (some (decide (u.message<0))):aY X').bind λJ=>(bg J (some true) (some (decide (u.message>199))):aY X').bind λL=>bg L (some 3) (eS.J1 p1 i2 B u))
open eS in
instance Zm(B:Z4)(p1 i2:Int):Fc Sy cL (eS B p1 i2):=Fc.M 81 [enc B,.int .i64 p1,.int .i64 i2] (bT 2 3 B (bB 8 λw _=>bB 3 λu _=>pz 2 7 0 u (bp 10 22 (bJ 7 4 [26] 30 (cz 7 26 (bq 4) (bq 4)) λz=>bp 2 30 aZ (nL 4 (nh p1 i2 B u))) (bJ 7 4 [34] 38 (cz 7 34 (bq 4) (bq 4)) λC=>bJ 1 4 [39] 43 (bp 1 39 (bq 4) (bq 4)) λD=>bJ 1 7 [44] 51 (bp 1 44 (bq 7) (bP 4 B.procs (bq 2))) λG=>bJ 1 5 [52] 57 (bp 1 52 (bq 5) (bq 5)) λI=>bJ 1 4 [58] 62 (bp 1 58 (bq 4) (bq 4)) λJ=>bJ 1 4 [63] 67 (bp 1 63 (bq 4) (bq 4)) λL=>bp 2 67 aZ (nL 4 (nh p1 i2 B u))))))
namespace jM
def bh(G:Z4)(J:bf)(D:WF)(B:X')(U:Int):aY (Fw (X'×Int) Bool Empty):=(idx G.procs D.peer).bind λw=>bg (decide (U<(len w.events))) ((idx G.procs D.peer).bind λz=>(idx z.events U).bind λu=>(bg B (some true) ((bg (u.kind==2) (some (u.message==D.message)) (some false):aY X').bind λC=>(bg C (some (u.peer==J.proc)) (some false):aY X').bind λI=>some I):aY X').bind λL=>some (.n (L,wrap .i64 (U+1)))) (some (.x B))
def W1(B:X')(U:Int)(D:Z4)(G:bf)(J:WF):Ps:=(bG (λq:X'×Int=>bh D G J q.1 q.2) (B,U)).bind (Fw.elim (λe=>bg e (some 0) (some 7)) (λe=>elim e))
end jM
def jM(B:Z4)(D:bf):Ps:=(xm B D).bind λu=>bg (u.kind==1) (some 0) ((d_ B u.kind u.message).bind λw=>bg (Oc w D) (bg (u.kind==3) (jM.W1 false 0 B D u) (some 0)) (some 8))
open jM in
instance WK(B:Z4)(D:bf):Fc Sy cL (jM B D):=Fc.M 82 [enc B,enc D] (bT 2 2 B (bt 8 λw _=>pz 1 5 0 w (bp 10 14 aZ (b9 11 λI _=>cz 4 22 (bp 11 25 (eo 14 (λu=>(bE [Pv 2,Pv 3,Pv 5,Bv 6 u.1,Iv 7 u.2] [Xb 2 B,Xb 3 D,Xb 5 w])) (λz=>(0,(bE [Bv 6 z] []))) (λu=>bB 9 λC _=>bP 2 C.events (bp 3 35 (bB 11 λJ _=>bB 3 λG _=>pz 2 8 0 G (bJ 5 18 [8,49] 67 (bp 5 49 (bq 18) (bJ 4 6 [53] 59 (bp 4 53 (bq 6) (bq 6)) λL=>bJ 1 6 [8,60] 66 (bp 1 60 (bq 6) (bq 6)) λO=>bq 1)) λQ=>aZ)) aZ)) (λz=>cz 8 69 aZ aZ)) aZ) aZ))))
namespace fc
def J4(B:Zg)(p5:Int)(D:Z4):aY (Fw ((Zg)×X') ((Zg)×X') Empty):=(Sl.jP B p5).bind λu=>(Sl.get B u).bind λw=>(Sl.jP B p5).bind λz=>(Sl.put B z (wrap .i64 (w+1):Int)).bind λC=>some (.n (C,true))
def fC(p5:Int)(G:Z4)(B:Zg)(D:X'):aY (Fw ((Zg)×X') ((Zg)×X') Empty):=(Sl.jP B p5).bind λI=>(Sl.get B I).bind λJ=>(idx G.procs p5).bind λL=>bg (decide (J<(len L.events))) ((idx G.procs p5).bind λO=>(Sl.jP B p5).bind λQ=>(Sl.get B Q).bind λS=>(idx O.events S).bind λu=>bg (u.kind==3) ((d_ G 2 u.message).bind λw=>(Sl.jP B w.proc).bind λz=>(Sl.get B z).bind λC=>bg (decide (C<w.index)) (some (.x (B,D))) (J4 B p5 G)) (J4 B p5 G)) (some (.x (B,D)))
def W3(D:Zg)(B:X')(p5:Int)(G:Z4):aY (Fw ((Zg)×X'×Int) ((Zg)×X') Empty):=(bG (λq:(Zg)×X'=>fC p5 G q.1 q.2) (D,B)).bind (Fw.elim (λe=>some (.n (e.1,e.2,wrap .i64 (p5+1)))) (λe=>elim e))
def bF(G:Z4)(D:Zg)(B:X')(p5:Int):aY (Fw ((Zg)×X'×Int) ((Zg)×X') Empty):=bg (decide (p5<(len G.procs))) (W3 D B p5 G) (some (.x (D,B)))
def W2(D:Zg)(B:X')(p5:Int)(G:Z4):aY (Fw Zg Zg Empty):=(bG (λq:(Zg)×X'×Int=>bF G q.1 q.2.1 q.2.2) (D,B,p5)).bind (Fw.elim (λe=>bg e.2 (some (.n e.1)) (some (.x e.1))) (λe=>elim e))
def AQ(B:Zg)(D:Z4)(G:Int):aY (Fw Int Unit Unit):=bg (decide (G<(len D.procs))) ((Sl.jP B G).bind λu=>(Sl.get B u).bind λw=>(idx D.procs G).bind λz=>bg (decide (w<(len z.events))) (some (.r ())) (some (.n (wrap .i64 (G+1))))) (some (.x ()))
def W5(B:Zg)(G:Int)(D:Z4):aY X':=(bG (λq:Int=>AQ B D q) G).bind (Fw.elim (λe=>some true) (λe=>some false))
def bh(D:Z4)(B:Zg):aY (Fw Zg Zg Empty):=W2 B false 0 D
def W1(B:Zg)(D:Z4):aY X':=(bG (λq:Zg=>bh D q) B).bind (Fw.elim (λe=>fc.W5 e 0 D) (λe=>elim e))
end fc
def fc(B:Z4):aY X':=(nR (len B.procs) (0:Int)).bind λu=>fc.W1 u B
open fc in
instance VS(B:Z4):Fc Sy cL (fc B):=Fc.M 83 [enc B] (bT 2 1 B (bP 7 B.procs (RX 0 12 λb _=>eo 7 (λO=>(bE [Pv 1,Ov 3] [Xb 1 B,Lb 2003 O])) (λD=>(0,(bE [Pv 1,Ov 3] [Xb 1 B,Lb 2003 D]))) (λO=>eo 17 (λw=>(bE [Pv 1,Ov 3,Bv 4 w.2.1,Iv 5 w.2.2] [Xb 1 B,Lb 2003 w.1])) (λG=>(2,(bE [Pv 1,Ov 3,Bv 4 G.2] [Xb 1 B,Lb 2003 G.1]))) (λw=>bP 8 B.procs (bp 3 17 (eo 8 (λI=>(bE [Pv 1,Ov 3,Bv 4 I.2,Iv 5 w.2.2] [Xb 1 B,Lb 2003 I.1])) (λJ=>(4,(bE [Pv 1,Ov 3,Bv 4 J.2,Iv 5 w.2.2] [Xb 1 B,Lb 2003 J.1]))) (λI=>jt .i64 7 2003 λc _=>pT 0 2003 0 1 false (λQ=>.int .i64 Q) λQ _=>bB 3 λZ _=>bP 2 Z.events (bp 3 31 (bB 9 λd _=>jt .i64 4 2003 λe _=>pT 0 2003 0 1 false (λS=>.int .i64 S) λS _=>bB 0 λa _=>pz 2 6 0 a (bp 10 46 (bt 6 λf _=>jt .i64 9 2003 λg _=>pT 0 2003 0 1 false (λz=>.int .i64 z) λz _=>bp 5 58 aZ (qD 5 (jt .i64 4 2003 λT _=>pT 0 2003 0 1 false (λu=>.int .i64 u) λu _=>jt .i64 1 2003 λU _=>Fu 0 2003 (.int .i64 (wrap .i64 (u+1))) λW _=>aZ))) (qD 5 (jt .i64 4 2003 λT _=>pT 0 2003 0 1 false (λu=>.int .i64 u) λu _=>jt .i64 1 2003 λU _=>Fu 0 2003 (.int .i64 (wrap .i64 (u+1))) λW _=>aZ)))) aZ)) (λJ=>aZ)) aZ)) (λG=>cz 8 66 aZ aZ)) (λD=>dx 11 (λX=>(bE [Pv 1,Ov 3,Iv 8 X] [Xb 1 B,Lb 2003 D])) (λL=>(6,(bE [] []))) (λL=>(bE [Bv 2 false] [])) (λX=>bP 8 B.procs (bp 3 71 (jt .i64 9 2003 λh _=>pT 0 2003 0 1 false (λC=>.int .i64 C) λC _=>bB 3 λY _=>bP 2 Y.events (bp 3 85 aZ aZ)) aZ)) (λL=>aZ) (λL=>aZ)))))
instance Zx(t:Z4)(x:bf):Fc Sy cL (pX t x):=Fc.of (A:=λz:Z4×bf=>[enc z.1,enc z.2]) (E:=λr:Sl (Sl X')=>[enc r]) (p:=λz=>pX z.1 z.2) (n:=84) (z:=(t,x)) (eV.aaj Zae Zae (λz r a=>Vm z.1 z.2 r a))
namespace dn
def fC(p6:Int)(B:Z4)(G:bf)(D:Int):aY (Fw Int Unit (Int×bf)):=(idx B.procs p6).bind λw=>bg (decide (D<(len w.events))) ((eS B p6 D).bind λu=>bg (u==0) (some (.n (wrap .i64 (D+1)))) (some (.r (u,(⟨p6,wrap .i64 (D+1)⟩:bf))))) (some (.x ()))
def W3(p6 G:Int)(B:Z4)(D:bf):aY (Fw Int Unit (Int×bf)):=(bG (λq:Int=>fC p6 B D q) G).bind (Fw.elim (λe=>some (.n (wrap .i64 (p6+1)))) (λe=>some (.r (e.1,e.2))))
def AQ(G:Int)(D:Z4)(J:bf)(B:Int):aY (Fw Int Unit (Int×bf)):=(idx D.procs G).bind λw=>bg (decide (B<(len w.events))) ((jM D (⟨G,wrap .i64 (B+1)⟩:bf)).bind λu=>bg (u==0) (some (.n (wrap .i64 (B+1)))) (some (.r (u,(⟨G,wrap .i64 (B+1)⟩:bf))))) (some (.x ()))
def W5(J B:Int)(D:Z4)(G:bf):aY (Fw Int Unit (Int×bf)):=(bG (λq:Int=>AQ J D G q) B).bind (Fw.elim (λe=>some (.n (wrap .i64 (J+1)))) (λe=>some (.r (e.1,e.2))))
def NO(D:Int)(G:Z4)(J:bf)(B:Int):aY (Fw Int Unit bf):=(idx G.procs D).bind λw=>bg (decide (B<(len w.events))) ((pX G (⟨D,wrap .i64 (B+1)⟩:bf)).bind λz=>(idx z D).bind λC=>(idx C (wrap .i64 (B+1))).bind λu=>bg u (some (.r (⟨D,wrap .i64 (B+1)⟩:bf))) (some (.n (wrap .i64 (B+1))))) (some (.x ()))
def W7(B D:Int)(G:Z4)(J:bf):aY (Fw Int Unit bf):=(bG (λq:Int=>NO B G J q) D).bind (Fw.elim (λe=>some (.n (wrap .i64 (B+1)))) (λe=>some (.r e)))
def OF(B:Z4)(G:bf)(D:Int):aY (Fw Int Unit bf):=bg (decide (D<(len B.procs))) (W7 D 0 B G) (some (.x ()))
def W6(B:Int)(D:Z4)(G:bf):aY (bf×Int):=(bG (λq:Int=>OF D G q) B).bind (Fw.elim (λe=>some (⟨0,0⟩,0)) (λe=>some (e,10)))
def NS(B:Z4)(D:bf)(G:Int):aY (Fw Int Unit (Int×bf)):=bg (decide (G<(len B.procs))) (W5 G 0 B D) (some (.x ()))
def W4(G:Int)(B:Z4)(D:bf):aY (bf×Int):=(bG (λq:Int=>NS B D q) G).bind (Fw.elim (λe=>(fc B).bind λu=>bg u (some (⟨0,0⟩,0)) (dn.W6 0 B D)) (λe=>some (e.2,e.1)))
def bF(B:Z4)(D:bf)(p6:Int):aY (Fw Int Unit (Int×bf)):=bg (decide (p6<(len B.procs))) (W3 p6 0 B D) (some (.x ()))
def W2(p6:Int)(B:Z4)(D:bf):aY (bf×Int):=(bG (λq:Int=>bF B D q) p6).bind (Fw.elim (λe=>dn.W4 0 B D) (λe=>some (e.2,e.1)))
def bh(B:Z4)(D:bf)(p4:Int):aY (Fw Int Unit (Int×bf)):=bg (decide (p4<(len B.procs))) ((eP B p4).bind λu=>bg (u==0) (some (.n (wrap .i64 (p4+1)))) (some (.r (u,(⟨p4,0⟩:bf))))) (some (.x ()))
def W1(p4:Int)(B:Z4)(D:bf):aY (bf×Int):=(bG (λq:Int=>bh B D q) p4).bind (Fw.elim (λe=>dn.W2 0 B D) (λe=>some (e.2,e.1)))
end dn
def dn(B:Z4):aY (bf×Int):=(bg (decide ((len B.procs)<1)) (some true) (some (decide ((len B.procs)>8))):aY X').bind λu=>bg u (some (⟨0,0⟩,1)) (dn.W1 0 B (⟨0,0⟩:bf))
open dn in
instance XV(B:Z4):Fc Sy cL (dn B):=Fc.M 58 [enc B] (bT 2 1 B (bP 9 B.procs (bJ 2 5 [20] 25 (bp 2 20 (bq 5) (bP 2 B.procs (bq 2))) λa=>bp 2 25 aZ (dx 11 (λQ=>(bE [Pv 1,Pv 2,Iv 4 Q] [Xb 1 B,Xb 2 (⟨0,0⟩:bf)])) (λu=>(0,(bE [Pv 1,Pv 2] [Xb 1 B,Xb 2 (⟨0,0⟩:bf)]))) (λu=>(bE [Pv 2,Iv 3 u.1] [Xb 2 u.2])) (λQ=>bP 7 B.procs (bp 3 31 (bt 9 λb _=>cz 9 38 aZ aZ) aZ)) (λu=>dx 10 (λG=>(bE [Pv 1,Pv 2,Iv 6 G] [Xb 1 B,Xb 2 (⟨0,0⟩:bf)])) (λw=>(2,(bE [Pv 1,Pv 2] [Xb 1 B,Xb 2 (⟨0,0⟩:bf)]))) (λw=>(bE [Pv 2,Iv 3 w.1] [Xb 2 w.2])) (λG=>bP 7 B.procs (bp 3 46 (dx 12 (λS=>(bE [Pv 1,Pv 2,Iv 6 G,Iv 7 S] [Xb 1 B,Xb 2 (⟨0,0⟩:bf)])) (λz=>(4,(bE [Pv 1,Pv 2,Iv 6 G] [Xb 1 B,Xb 2 (⟨0,0⟩:bf)]))) (λz=>(bE [Pv 2,Iv 3 z.1] [Xb 2 z.2])) (λS=>bB 8 λW _=>bP 2 W.events (bp 3 57 (bt 10 λc _=>cz 9 65 aZ aZ) aZ)) (λz=>aZ) (λz=>aZ)) aZ)) (λw=>dx 10 (λI=>(bE [Pv 1,Pv 2,Iv 9 I] [Xb 1 B,Xb 2 (⟨0,0⟩:bf)])) (λC=>(6,(bE [Pv 1,Pv 2] [Xb 1 B,Xb 2 (⟨0,0⟩:bf)]))) (λC=>(bE [Pv 2,Iv 3 C.1] [Xb 2 C.2])) (λI=>bP 7 B.procs (bp 3 75 (dx 12 (λT=>(bE [Pv 1,Pv 2,Iv 9 I,Iv 10 T] [Xb 1 B,Xb 2 (⟨0,0⟩:bf)])) (λD=>(8,(bE [Pv 1,Pv 2,Iv 9 I] [Xb 1 B,Xb 2 (⟨0,0⟩:bf)]))) (λD=>(bE [Pv 2,Iv 3 D.1] [Xb 2 D.2])) (λT=>bB 8 λX _=>bP 2 X.events (bp 3 86 (bt 19 λd _=>cz 9 97 aZ aZ) aZ)) (λD=>aZ) (λD=>aZ)) aZ)) (λC=>bt 6 λZ _=>bp 2 101 aZ (dx 11 (λJ=>(bE [Pv 1,Pv 2,Iv 13 J] [Xb 1 B,Xb 2 (⟨0,0⟩:bf)])) (λL=>(10,(bE [Pv 2] [Xb 2 (⟨0,0⟩:bf)]))) (λL=>(bE [Pv 2,Iv 3 10] [Xb 2 L])) (λJ=>bP 7 B.procs (bp 3 107 (dx 12 (λU=>(bE [Pv 1,Pv 2,Iv 13 J,Iv 14 U] [Xb 1 B,Xb 2 (⟨0,0⟩:bf)])) (λO=>(12,(bE [Pv 1,Pv 2,Iv 13 J] [Xb 1 B,Xb 2 (⟨0,0⟩:bf)]))) (λO=>(bE [Pv 2,Iv 3 10] [Xb 2 O])) (λU=>bB 8 λY _=>bP 2 Y.events (bp 3 118 (bt 19 λe _=>bB 1 λf _=>bB 3 λg _=>bp 3 134 aZ aZ) aZ)) (λO=>aZ) (λO=>aZ)) aZ)) (λL=>aZ) (λL=>aZ))) (λC=>aZ)) (λw=>aZ)) (λu=>aZ)))))
def sS(B:Z4):aY X':=(dn B).bind λu=>some (u.2==0)
instance XB(B:Z4):Fc Sy cL (sS B):=Fc.M 33 [enc B] (bT 2 1 B (bt 6 λu _=>aZ))
def sj(B:WF):aY X':=some (B.kind==3)
instance Tq(B:WF):Fc Sy cL (sj B):=Fc.M 34 [enc B] (bT 2 1 B aZ)
def tS(D:Zg)(p1:Int):aY Zg:=(pO (Sl.row []:Zg) D).bind λu=>(Sl.jP u p1).bind λw=>(Sl.get u w).bind λz=>(Sl.jP u p1).bind λB=>(Sl.put u B (wrap .i64 (z+1):Int)).bind λC=>some C
instance Zj(B:Zg)(p1:Int):Fc Sy cL (tS B p1):=Fc.N 85 [enc B,.int .i64 p1] (AS 9 6 8 λw _=>jt .i64 9 8 λz _=>pT 0 8 0 1 false (λu=>.int .i64 u) λu _=>jt .i64 1 8 λC _=>Fu 0 8 (.int .i64 (wrap .i64 (u+1))) λD _=>aZ)
namespace o6
def bh(B:Zg)(D:Z4)(p5:Int):aY (Fw Int Unit Unit):=bg (decide (p5<(len B))) ((idx B p5).bind λu=>(bg (decide (u<0)) (some true) ((idx B p5).bind λw=>(idx D.procs p5).bind λz=>some (decide (w>(len z.events)))):aY X').bind λC=>bg C (some (.r ())) (some (.n (wrap .i64 (p5+1))))) (some (.x ()))
def W1(B:Zg)(p5:Int)(D:Z4):aY X':=(bG (λq:Int=>bh B D q) p5).bind (Fw.elim (λe=>some true) (λe=>some false))
end o6
def o6(D:Z4)(B:Zg):aY X':=bg ((len B)==(len D.procs)) (o6.W1 B 0 D) (some false)
open o6 in
instance aaF(D:Z4)(B:Zg):Fc Sy cL (o6 D B):=Fc.M 68 [enc D,enc B] (bT 2 2 D (bP 7 B (bP 2 D.procs (cz 3 11 (dx 11 (λw=>(bE [Cv 1 B,Pv 2,Iv 5 w] [Xb 2 D])) (λu=>(0,(bE [] []))) (λu=>(bE [Bv 4 false] [])) (λw=>bP 6 B (bp 3 15 (bB 9 λC _=>bJ 3 13 [23] 36 (bp 3 23 (bq 13) (bB 2 λG _=>bB 4 λz _=>bP 2 z.events (bq 2))) λI=>bp 2 36 aZ aZ) aZ)) (λu=>aZ) (λu=>aZ)) aZ))))
namespace ey
def bF(B:Zg)(p5:Int)(D:Z4)(G:Int):aY (Fw Int Unit Unit):=(idx B p5).bind λz=>bg (decide (G<z)) ((idx D.procs p5).bind λC=>(idx C.events G).bind λu=>bg (u.kind==3) ((d_ D 2 u.message).bind λw=>(idx B w.proc).bind λI=>bg (decide (w.index>I)) (some (.r ())) (some (.n (wrap .i64 (G+1))))) (some (.n (wrap .i64 (G+1))))) (some (.x ()))
def W2(B:Zg)(p5 G:Int)(D:Z4):aY (Fw Int Unit Unit):=(bG (λq:Int=>bF B p5 D q) G).bind (Fw.elim (λe=>some (.n (wrap .i64 (p5+1)))) (λe=>some (.r ())))
def bh(B:Zg)(D:Z4)(p5:Int):aY (Fw Int Unit Unit):=bg (decide (p5<(len B))) (W2 B p5 0 D) (some (.x ()))
def W1(B:Zg)(p5:Int)(D:Z4):aY X':=(bG (λq:Int=>bh B D q) p5).bind (Fw.elim (λe=>some true) (λe=>some false))
end ey
def ey(D:Z4)(B:Zg):aY X':=ey.W1 B 0 D
open ey in
instance QL(D:Z4)(B:Zg):Fc Sy cL (ey D B):=Fc.M 69 [enc D,enc B] (bT 2 2 D (dx 11 (λu=>(bE [Cv 1 B,Pv 2,Iv 5 u] [Xb 2 D])) (λw=>(0,(bE [] []))) (λw=>(bE [Bv 4 false] [])) (λu=>bP 6 B (bp 3 12 (dx 12 (λC=>(bE [Cv 1 B,Pv 2,Iv 5 u,Iv 6 C] [Xb 2 D])) (λz=>(2,(bE [Cv 1 B,Pv 2,Iv 5 u] [Xb 2 D]))) (λz=>(bE [Bv 4 false] [])) (λC=>bB 7 λI _=>bp 4 20 (bB 10 λJ _=>bB 3 λG _=>pz 2 7 0 G (bp 9 34 (bt 6 λL _=>bB 11 λO _=>bp 4 46 aZ aZ) aZ)) aZ) (λz=>aZ) (λz=>aZ)) aZ)) (λw=>aZ) (λw=>aZ)))
def xH(B:Z4)(D:Zg):aY X':=(o6 B D).bind λu=>(bg u ((ey B D).bind λw=>some w) (some false):aY X').bind λz=>some z
instance abu(B:Z4)(D:Zg):Fc Sy cL (xH B D):=Fc.M 47 [enc B,enc D] (bT 2 2 B (bt 7 λu _=>bJ 1 4 [1,2,8] 12 (bp 1 8 (bt 2 λw _=>bq 1) (bq 4)) λz=>aZ))
namespace kE
def bh(G:Zg)(D:Z4)(B:Zb)(p6:Int):aY (Fw ((Zb)×Int) Zb Empty):=bg (decide (p6<(len G))) ((idx G p6).bind λu=>(idx D.procs p6).bind λw=>(bg (decide (u<(len w.events))) ((tS G p6).bind λz=>(xH D z).bind λC=>some C) (some false):aY X').bind λI=>bg I ((tS G p6).bind λJ=>(fF B (J:Zg)).bind λL=>some (.n (L,wrap .i64 (p6+1)))) (some (.n (B,wrap .i64 (p6+1))))) (some (.x B))
def W1(G:Zg)(B:Zb)(p6:Int)(D:Z4):aY Zb:=(bG (λq:(Zb)×Int=>bh G D q.1 q.2) (B,p6)).bind (Fw.elim (λe=>some e) (λe=>elim e))
end kE
def kE(B:Z4)(D:Zg):aY Zb:=kE.W1 D (Sl.nil:Zb) 0 B
open kE in
instance Zu(B:Z4)(D:Zg):Fc Sy cL (kE B D):=Fc.N 59 [enc B,enc D] (bT 2 2 B (eo 17 (λu=>(bE [Cv 1 D,Pv 2,Ov 5,Iv 6 u.2] [Xb 2 B,Lb 2005 u.1])) (λw=>(0,(bE [Ov 5] [Lb 2005 w]))) (λu=>bP 7 D (bp 3 10 (bB 9 λI _=>bB 4 λC _=>bP 2 C.events (wM 2 6 [30,29] (λz=>(bE [Cv 1 D,Pv 2,Ov 5,Iv 6 u.2,Bv 10 true,Bv 31 z] [Xb 2 B,Lb 2005 u.1])) (bp 2 25 (bt 3 λJ _=>b9 0 λL _=>bq 1) (bq 6)) λz=>bp 2 31 (bt 5 λG _=>zH 0 36 ([G]:aX Zg) (ny 0 2005 36 37 λO _=>aZ)) aZ)) aZ)) (λw=>aZ)))
namespace iG
def bh(B:Zg)(D i4:Int):aY (Fw (Int×Int) Int Empty):=bg (decide (i4<(len B))) ((idx B i4).bind λu=>some (.n (wrap .i64 (D+u),wrap .i64 (i4+1)))) (some (.x D))
def W1(B:Zg)(D i4:Int):Ps:=(bG (λq:Int×Int=>bh B q.1 q.2) (D,i4)).bind (Fw.elim (λe=>some e) (λe=>elim e))
end iG
def iG(B:Zg):Ps:=iG.W1 B 0 0
open iG in
instance ZC(B:Zg):Fc Sy cL (iG B):=Fc.M 111 [enc B] (eo 18 (λu=>(bE [Cv 0 B,Iv 3 u.1,Iv 4 u.2] [])) (λw=>(0,(bE [Iv 3 w] []))) (λu=>bP 6 B (bp 3 8 (bB 9 λz _=>aZ) aZ)) (λw=>aZ))
namespace iT
def bh(a0 D:Zg)(B:Int):aY (Fw Int Unit X'):=bg (decide (B<(len a0))) ((idx a0 B).bind λu=>(idx D B).bind λw=>bg (u==w) (some (.n (wrap .i64 (B+1)))) ((idx a0 B).bind λz=>(idx D B).bind λC=>some (.r (decide (z<C))))) (some (.x ()))
def W1(a0 B:Zg)(D:Int):aY X':=(bG (λq:Int=>bh a0 B q) D).bind (Fw.elim (λe=>some false) (λe=>some e))
end iT
def iT(a0 B:Zg):aY X':=(iG a0).bind λu=>(iG B).bind λw=>bg (u==w) (iT.W1 a0 B 0) ((iG a0).bind λz=>(iG B).bind λC=>some (decide (z<C)))
open iT in
instance Ww(a0 B:Zg):Fc Sy cL (iT a0 B):=Fc.M 86 [enc a0,enc B] (bt 9 λz _=>bt 1 λC _=>cz 3 10 (dx 11 (λw=>(bE [Cv 0 a0,Cv 1 B,Iv 5 w] [])) (λu=>(0,(bE [] []))) (λu=>(bE [Bv 4 u] [])) (λw=>bP 6 a0 (bp 3 19 (bB 9 λD _=>bB 3 λG _=>cz 4 30 aZ (bB 5 λI _=>bB 3 λJ _=>aZ)) aZ)) (λu=>aZ) (λu=>aZ)) (bt 4 λL _=>bt 1 λO _=>aZ))
namespace eY
def bh(a0 D:Zg)(B:Int):aY (Fw Int Unit Unit):=bg (decide (B<(len a0))) ((idx a0 B).bind λu=>(idx D B).bind λw=>bg (u==w) (some (.n (wrap .i64 (B+1)))) (some (.r ()))) (some (.x ()))
def W1(a0 B:Zg)(D:Int):aY X':=(bG (λq:Int=>bh a0 B q) D).bind (Fw.elim (λe=>some true) (λe=>some false))
end eY
def eY(a0 B:Zg):aY X':=bg ((len a0)==(len B)) (eY.W1 a0 B 0) (some false)
open eY in
instance Ta(a0 B:Zg):Fc Sy cL (eY a0 B):=Fc.M 87 [enc a0,enc B] (bP 9 a0 (bP 1 B (cz 3 10 (dx 11 (λw=>(bE [Cv 0 a0,Cv 1 B,Iv 5 w] [])) (λu=>(0,(bE [] []))) (λu=>(bE [Bv 4 false] [])) (λw=>bP 6 a0 (bp 3 14 (bB 9 λz _=>bB 3 λC _=>cz 4 25 aZ aZ) aZ)) (λu=>aZ) (λu=>aZ)) aZ)))
namespace iS
def bh(D:Zb)(G:Zg)(B:Int):aY (Fw Int Int Empty):=(bg (decide (B<(len D))) ((idx D B).bind λu=>(iT u G).bind λw=>some w) (some false):aY X').bind λz=>bg z (some (.n (wrap .i64 (B+1)))) (some (.x B))
def W1(B:Zb)(G:Zg)(D:Int):aY Zb:=(bG (λq:Int=>bh B G q) D).bind (Fw.elim (λe=>(bg (decide (e<(len B))) ((idx B e).bind λz=>(eY z G).bind λC=>some C) (some false):aY X').bind λI=>bg I (some B) ((gB B none (some e)).bind λJ=>(pO (Sl.row []:Zb) J).bind λL=>(fF L (G:Zg)).bind λO=>(gB B (some e) none).bind λu=>(pO O u).bind λw=>some w)) (λe=>elim e))
end iS
def iS(B:Zb)(D:Zg):aY Zb:=iS.W1 B D 0
open iS in
instance WG(B:Zb)(D:Zg):Fc Sy cL (iS B D):=Fc.N 60 [enc B,enc D] (eo 13 (λw=>(bE [Cv 0 B,Cv 1 D,Iv 5 w] [])) (λu=>(0,(bE [Cv 0 B,Cv 1 D,Iv 5 u] []))) (λw=>bP 6 B (bJ 2 7 [11] 18 (bp 2 11 (bB 2 λG _=>bt 2 λI _=>bq 1) (bq 7)) λJ=>bp 2 18 aZ aZ)) (λu=>bP 7 B (bJ 2 7 [25] 32 (bp 2 25 (bB 2 λL _=>bt 2 λO _=>bq 1) (bq 7)) λQ=>bp 2 32 aZ (zH 5 34 ([]:aX Zg) (B6 2 false true [.int .i64 u] λS _=>AS 0 34 38 λT _=>zH 7 41 ([D]:aX Zg) (ny 0 38 41 42 λU _=>B6 8 true false [.int .i64 u] λz _=>AS 0 42 47 λC _=>aZ))))))
namespace eR
def fC(D G:Zb)(W:Int)(J:Zb)(U:Z4)(B:Zb)(k9:Int):aY (Fw ((Zb)×Int) Zb Empty):=bg (decide (k9<(len J))) ((idx J k9).bind λu=>(iS B u).bind λw=>some (.n (w,wrap .i64 (k9+1)))) (some (.x B))
def W3(B G D:Zb)(U:Int)(W:Zb)(k9:Int)(J:Z4):aY (Fw ((Zb)×Int) Zb Empty):=(bG (λq:(Zb)×Int=>fC B G U W J q.1 q.2) (D,k9)).bind (Fw.elim (λe=>some (.n (e,wrap .i64 (U+1)))) (λe=>elim e))
def bF(B G:Zb)(J:Z4)(D:Zb)(U:Int):aY (Fw ((Zb)×Int) Zb Empty):=bg (decide (U<(len B))) ((idx B U).bind λu=>(kE J u).bind λw=>W3 B G D U w 0 J) (some (.x D))
def W2(B D G:Zb)(U:Int)(J:Z4):aY (Fw ((Zb)×(Zb)) Zb Unit):=(bG (λq:(Zb)×Int=>bF B D J q.1 q.2) (G,U)).bind (Fw.elim (λe=>some (.n (e,D))) (λe=>elim e))
def bh(G:Z4)(B D:Zb):aY (Fw ((Zb)×(Zb)) Zb Unit):=bg (decide ((len B)>0)) ((pO D B).bind λu=>bg (decide ((len u)>5000)) (some (.r ())) (W2 B u (Sl.nil:Zb) 0 G)) (some (.x D))
def W1(B D:Zb)(G:Z4):aY ((Zb)×X'):=(bG (λq:(Zb)×(Zb)=>bh G q.1 q.2) (B,D)).bind (Fw.elim (λe=>some (e,true)) (λe=>some ((Sl.nil:Zb),false)))
end eR
def eR(B:Z4):aY ((Zb)×X'):=(nR (len B.procs) (0:Int)).bind λu=>eR.W1 (Sl.row [u]:Zb) (Sl.nil:Zb) B
open eR in
instance ZM(B:Z4):Fc Sy cL (eR B):=Fc.N 35 [enc B] (bT 2 1 B (bP 8 B.procs (RX 0 13 λL _=>zH 1 14 ([L]:aX Zg) (dx 13 (λu=>(bE [Pv 1,Cv 4 u.1,Ov 5] [Xb 1 B,Lb 2005 u.2])) (λC=>(0,(bE [Ov 5] [Lb 2005 C]))) (λC=>(bE [Ov 2,Bv 3 false] [Lb 2002 (Sl.nil:Zb)])) (λu=>bP 7 u.1 (bp 3 17 (AS 8 2005 20 λw _=>GL 7 20 w (bp 3 23 aZ (eo 18 (λz=>(bE [Pv 1,Cv 4 u.1,Ov 5,Cv 6 z.1,Iv 7 z.2] [Xb 1 B,Lb 2005 w])) (λG=>(2,(bE [Pv 1,Ov 5,Cv 6 G] [Xb 1 B,Lb 2005 w]))) (λz=>bP 8 u.1 (bp 3 27 (bB 10 λO _=>bt 1 λI _=>eo 12 (λD=>(bE [Pv 1,Cv 4 u.1,Ov 5,Cv 6 D.1,Iv 7 z.2,Cv 8 I,Iv 9 D.2] [Xb 1 B,Lb 2005 w])) (λJ=>(4,(bE [Pv 1,Cv 4 u.1,Ov 5,Cv 6 J,Iv 7 z.2] [Xb 1 B,Lb 2005 w]))) (λD=>bP 8 I (bp 3 39 (bB 9 λQ _=>bt 1 λS _=>aZ) aZ)) (λJ=>aZ)) aZ)) (λG=>aZ)))) aZ)) (λC=>aZ) (λC=>aZ)))))
namespace fQ
def bF(G:Sl bS)(J:Int)(B D:Int):aY (Fw (Int×Int) Int Unit):=bg (decide (D<J)) ((idx G D).bind λu=>(gX u.events (λz=>sj z)).bind λw=>bg w (some (.r ())) (some (.n (wrap .i64 (B*(wrap .i64 ((len u.events)+1))),wrap .i64 (D+1))))) (some (.x B))
def W2(B:Int)(D:Sl bS)(G J:Int):aY X':=(bG (λq:Int×Int=>bF D G q.1 q.2) (B,J)).bind (Fw.elim (λe=>some (decide (e>5000))) (λe=>some false))
def bh(D:Sl bS)(G:Int)(U:Z4)(J B:Int):aY (Fw (Int×Int) Int Unit):=bg (decide (B<G)) ((idx D B).bind λu=>(bg (decide ((len u.vars)>12)) (some true) ((gX u.events (λz=>rV z)).bind λw=>some w):aY X').bind λC=>bg C (some (.r ())) (some (.n (wrap .i64 (J+(len u.events)),wrap .i64 (B+1))))) (some (.x J))
def W1(U:Int)(D:Sl bS)(G J:Int)(B:Z4):aY X':=(bG (λq:Int×Int=>bh D G B q.1 q.2) (U,J)).bind (Fw.elim (λe=>bg (decide (e>60)) (some false) ((sS B).bind λw=>bg w (bg (decide (e>24)) (fQ.W2 1 B.procs (len B.procs) 0) ((eR B).bind λu=>(bg u.2 (some (decide ((len u.1)<=250))) (some true):aY X').bind λz=>some z)) (some true))) (λe=>some false))
end fQ
def fQ(B:Z4):aY X':=bg (decide ((len B.procs)>10)) (some false) (fQ.W1 0 B.procs (len B.procs) 0 B)
open fQ in
instance Xy(B:Z4):Fc Sy cL (fQ B):=Fc.M 15 [enc B] (bT 2 1 B (bP 8 B.procs (bp 3 14 aZ (bP 13 B.procs (dx 5 (λD=>(bE [Pv 1,Iv 3 D.1,Cv 16 B.procs,Iv 17 (len B.procs),Iv 18 D.2] [Xb 1 B])) (λu=>(0,(bE [Pv 1,Iv 3 u] [Xb 1 B]))) (λu=>(bE [Bv 2 false] [])) (λD=>bp 7 19 (bB 7 λw _=>pz 2 5 0 w (bP 7 w.events (bP 8 w.vars (bJ 2 4 [5,31] 35 (bp 2 31 (bq 4) (bt (F:=mQ 32 [] (λz=>rV z) mI.sY w.events) 2 λL _=>bq 1)) λO=>bp 2 35 aZ aZ)))) aZ) (λu=>bp 9 38 aZ (bt 7 λQ _=>cz 3 41 (bp 10 43 (bP 11 B.procs (dx 5 (λG=>(bE [Iv 6 G.1,Cv 45 B.procs,Iv 46 (len B.procs),Iv 47 G.2] [])) (λC=>(2,(bE [Iv 6 C] []))) (λC=>(bE [Bv 2 false] [])) (λG=>bp 7 48 (bB 7 λI _=>pz 2 8 0 I (bP 7 I.events (bt (F:=mQ 34 [] (λz=>sj z) mI.sY I.events) 9 λS _=>bp 2 59 aZ aZ))) aZ) (λC=>aZ) (λC=>aZ))) (bt 6 λJ _=>bJ 12 4 [9,70] 74 (cz 12 70 (bP 1 J.1 (bq 2)) (bq 4)) λT=>aZ)) aZ)) (λu=>aZ))))))
def lC(D:T')(G B:Int)(r:(T'×Int×Int)->aY (X'×Int)):aY (X'×Int):=(r (D,B,wrap .i64 (G+1))).bind λu=>some ((!u.1),u.2)
abbrev Fe(r:(Pred×Int×Int)->aY (Bool×Int))(a:yZ Sy cL 16 (λz:Pred×Int×Int=>[cv z.1,.ptr 9002 0,iv z.2.2]) (λz:Pred×Int×Int=>[(9002,bx (z.2.1:Int))]) (λr:Bool×Int=>[.bool r.1]) (λ(z:Pred×Int×Int)(r:Bool×Int)=>[(9002,bx (r.2:Int))]) r)(D:Pred)(G B:Int):pG Sy cL (lC D G B r):=pG.mk' 37 [cv D,.ptr 9001 0,.v (.fptr (cells G))] [(9001,.box [.ptr 9002 0]),(9002,bx (B:Int))] (λr:Bool×Int=>[.bool r.1]) (λr:Bool×Int=>[(9001,.box [.ptr 9002 0]),(9002,bx (r.2:Int))]) (bT 2 3 D (vg 9 (pG.of (D,B,wrap .i64 (G+1)) a) λu _=>aZ))
section
variable{σ:Type}{gf:Y'}{ex:SW}{os:σ->dM}{p:T'->σ->aY (X'×σ)}(h:zK Sy cL (.clo gf [] ex) gf ex os p)(s0:Sl T')(x:σ)
abbrev xu:pG Sy cL (UG s0 p x):=pG.mk' 61 [cv s0,(.clo gf [] ex)] (os x) (λr=>[.int .i64 r.1]) (λr=>os r.2) (bP 9 s0 (dx 5 (λq=>⟨[Cv 0 s0,(1,(.clo gf [] ex)),Iv 7 (len s0),Iv 8 q.1],os q.2,(os x).map (·.1),[],true,0⟩) (λe=>(0,⟨[],os e,(os x).map (·.1),[],true,0⟩)) (λe=>⟨[Iv 4 e.1],os e.2,(os x).map (·.1),[],true,0⟩) (λq=>bp 7 9 (bB 16 λy _=>RJ 1 h y q.2 λr _=>bp 2 16 aZ aZ) aZ) (λe=>Kd 9 h [.int .i64 (-1)] rfl) (λe=>Le.of_eq (K1 h (ys:=[.int .i64 e.1]) Zae rfl)))) (hp:=λr=>h.wi x r.2)
abbrev rm:pG Sy cL (Br s0 p x):=pG.mk' 36 [cv s0,(.clo gf [] ex)] (os x) (λr=>[.bool r.1]) (λr=>os r.2) (Oj 9 (xu h s0 x) (h.hd x (enc s0)) (λr=>h.put x r.2) λy _=>Kd 5 h [.bool (decide (y.1>=0))] rfl) (hp:=λr=>h.wi x r.2)
end
section
variable{σ:Type}{gf:Y'}{ex:So}{os:σ->dM}{p:T'->σ->aY (X'×σ)}(h:zK Sy cL (.v (.clo gf [] ex)) gf (ex.map .v) os p)(s0:Sl T')(x:σ)
abbrev xy:pG Sy cL (UG s0 p x):=pG.mk' 61 [cv s0,(.v (.clo gf [] ex))] (os x) (λr=>[.int .i64 r.1]) (λr=>os r.2) (bP 9 s0 (dx 5 (λq=>⟨[Cv 0 s0,(1,(.v (.clo gf [] ex))),Iv 7 (len s0),Iv 8 q.1],os q.2,(os x).map (·.1),[],true,0⟩) (λe=>(0,⟨[],os e,(os x).map (·.1),[],true,0⟩)) (λe=>⟨[Iv 4 e.1],os e.2,(os x).map (·.1),[],true,0⟩) (λq=>bp 7 9 (bB 16 λy _=>RJ 1 h y q.2 λr _=>bp 2 16 aZ aZ) aZ) (λe=>Kd 9 h [.int .i64 (-1)] rfl) (λe=>Le.of_eq (K1 h (ys:=[.int .i64 e.1]) Zae rfl)))) (hp:=λr=>h.wi x r.2)
abbrev nv:pG Sy cL (Br s0 p x):=pG.mk' 36 [cv s0,(.v (.clo gf [] ex))] (os x) (λr=>[.bool r.1]) (λr=>os r.2) (Oj 9 (xy h s0 x) (h.hd x (enc s0)) (λr=>h.put x r.2) λy _=>Kd 5 h [.bool (decide (y.1>=0))] rfl) (hp:=λr=>h.wi x r.2)
end
def kQ(G:T')(B D:Int)(r:(T'×Int×Int)->aY (X'×Int)):aY (X'×Int):=(bg (decide ((wrap .i64 (B-1))>=0)) (some (decide (D<=60))) (some false):aY X').bind λz=>(bg z (some (decide (((ByteArray.size G.name:Nat):Int)<=100))) (some false):aY X').bind λC=>(bg C ((Br G.l (λx s=>lC x D s r) (wrap .i64 (B-1))).bind λu=>some ((!u.1),u.2)) (some (false,wrap .i64 (B-1))):aY (X'×Int)).bind λw=>some (w.1,w.2)
theorem EX(r:(T'×Int×Int)->aY (X'×Int))(a:yZ Sy cL 16 (λz:T'×Int×Int=>[cv z.1,.ptr 9002 0,iv z.2.2]) (λz:T'×Int×Int=>[(9002,bx (z.2.1:Int))]) (λr:X'×Int=>[.bool r.1]) (λ(z:T'×Int×Int)(r:X'×Int)=>[(9002,bx (r.2:Int))]) r)(G:T')(D B:Int):∀J,kQ G D B r=some J->∃m',cL 16 [cv G,.ptr 9002 0,iv B] [(9002,bx (D:Int))]=some (((λr:X'×Int=>[.bool r.1]) J).map .v,m')/\∀U,mD m' ([(9002,bx (D:Int))].map (·.1)) U=some (qW U ((λr:X'×Int=>[(9002,bx (r.2:Int))]) J)):=(pG.mk' 16 [cv G,.ptr 9002 0,iv B] [(9002,bx (D:Int))] (λr:X'×Int=>[.bool r.1]) (λr:X'×Int=>[(9002,bx (r.2:Int))]) (bT 2 3 G (bJ 22 3 [16] 19 (bp 22 16 (bq 3) (bq 3)) λw=>bJ 1 5 [20] 25 (bp 1 20 (bq 5) (bq 5)) λC=>wM 1 6 [] (λu=>⟨[Bv 32 u.1],[(9002,.box [iv u.2]),Xb 3 G,(9001,.box [.ptr 9002 0])],[9002],[],true,0⟩) (bp 1 26 (dN 2 28 (Pred.fe G.l) (vg 3 (rm (zK.ofK (σ:=Int) (g:=37) (e:=[.ptr 9001 0,cp B]) (os:=λs=>[(9001,.box [.ptr 9002 0]),(9002,bx (s:Int))]) (p:=(λx s=>lC x B s r)) (λx s=>Fe r a x B s)) G.l (wrap .i64 (D-1))) λI _=>bq 2)) (bq 8)) λu=>aZ)):pG Sy cL (kQ G D B r)).h
def Ao(G:T')(D B:Int):aY (X'×Int):=dI (λr(z:T'×Int×Int)=>kQ z.1 z.2.1 z.2.2 r) 100000 (G,D,B)
abbrev JP(G:Pred)(D B:Int):pG Sy cL (Ao G D B):=pG.of (G,D,B) (yZ.fix (A:=λz:Pred×Int×Int=>[cv z.1,.ptr 9002 0,iv z.2.2]) (O:=λz:Pred×Int×Int=>[(9002,bx (z.2.1:Int))]) (E:=λr:Bool×Int=>[.bool r.1]) (M:=λ(z:Pred×Int×Int)(r:Bool×Int)=>[(9002,bx (r.2:Int))]) (b:=(λr(z:Pred×Int×Int)=>kQ z.1 z.2.1 z.2.2 r)) Zae Zae Zae (λr a z=>EX r a z.1 z.2.1 z.2.2) 100000)
namespace kC
def bh(B:Int)(D:T')(G J:Int)(r:(T'×Int)->Ps):aY (Fw (Int×Int) Int Empty):=(bg (decide (J<(len D.l))) (some (decide (G<=B))) (some false):aY X').bind λu=>bg u ((idx D.l J).bind λw=>(r (w,wrap .i64 (B-G))).bind λz=>some (.n (wrap .i64 (G+z),wrap .i64 (J+1)))) (some (.x G))
def W1(B G J:Int)(D:T')(r:(T'×Int)->Ps):Ps:=(bG (λq:Int×Int=>bh B D q.1 q.2 r) (G,J)).bind (Fw.elim (λe=>some e) (λe=>elim e))
end kC
def iX(D:T')(B:Int)(r:(T'×Int)->Ps):Ps:=kC.W1 B 1 0 D r
open kC in
theorem D0(r:(T'×Int)->Ps)(a:eV Sy cL 38 (λz:T'×Int=>[enc z.1,.int .i64 z.2]) (λr:Int=>[.int .i64 r]) r true)(D:T')(B:Int):Le ((iX D B r).bind λr=>some [.int .i64 r]) (gZ cL 38 [enc D,.int .i64 B]):=(Fc.M 38 [enc D,.int .i64 B] (bT 2 2 D (eo 16 (λu=>(bE [Iv 1 B,Pv 2,Iv 5 u.1,Iv 6 u.2] [Xb 2 D])) (λw=>(0,(bE [Iv 5 w] []))) (λu=>dN 7 9 (Pred.fe D.l) (bP 0 D.l (bJ 2 4 [12] 16 (bp 2 12 (bq 4) (bq 4)) λG=>bp 2 16 (dN 9 21 (Pred.fe D.l) (bB 1 λC _=>bt (F:=Fc.of (C,wrap .i64 (B-u.1)) a) 4 λI _=>aZ)) aZ))) (λw=>aZ))):Fc Sy cL (iX D B r)).F.h ()
def kC(D:T')(B:Int):Ps:=dI (λr(z:T'×Int)=>iX z.1 z.2 r) 100000 (D,B)
instance YQ(D:T')(B:Int):Fc Sy cL (kC D B):=Fc.of (D,B) (eV.fix (A:=λz:T'×Int=>[enc z.1,.int .i64 z.2]) (E:=λr:Int=>[.int .i64 r]) (sc:=true) (b:=(λr(z:T'×Int)=>iX z.1 z.2 r)) Zae (λ_ _=>rfl) (λr a z=>D0 r a z.1 z.2) 100000)
def pW(B:T'):Ps:=(kC B 200).bind λu=>some (if 201<u then 201 else u)
instance ZL(B:T'):Fc Sy cL (pW B):=Fc.M 17 [enc B] (bT 2 1 B (bt 6 λu _=>aZ))
def yg(J:Z4)(p1:T'):aY X':=(fQ J).bind λw=>(bg w ((Ao p1 300 0).bind λu=>some (u.1,u.2)) (some (false,300)):aY (X'×Int)).bind λz=>(bg z.1 ((pW p1).bind λB=>(bg (decide (B<=100)) (some true) ((pW p1).bind λC=>some (decide (C>200))):aY X').bind λD=>some D) (some false):aY X').bind λG=>some G
instance abl(B:Z4)(p1:T'):Fc Sy cL (yg B p1):=Fc.M 5 [enc B,enc p1] (bT 2 2 B (bT 0 3 p1 (bt 12 λw _=>wM 1 3 [] (λu=>(bE [Pv 3,Bv 11 u.1] [Xb 2 B,Xb 3 p1,(9002,.box [iv u.2])])) (bp 1 8 (vg 2 (JP p1 300 0) λz _=>bq 1) (bq 4)) λu=>bJ 1 9 [3,12] 21 (bp 1 12 (bt 1 λC _=>bJ 2 4 [3,16] 20 (bp 2 16 (bq 4) (bt 1 λD _=>bq 2)) λG=>bq 1) (bq 9)) λI=>aZ)))
def pY(G D B:Int):aY X':=(bg (decide (G>=D)) (some (decide (G<=B))) (some false):aY X').bind λu=>some u
instance abV(G D B:Int):Fc Sy cL (pY G D B):=Fc.M 165 [.int .i64 G,.int .i64 D,.int .i64 B] (bJ 11 4 [0,2,10] 14 (bp 11 10 (bq 4) (bq 4)) λu=>aZ)
def sX(B:Int):aY X':=(bg (decide (B>=97)) (some (decide (B<=122))) (some false):aY X').bind λu=>(bg u (some true) ((bg (decide (B>=65)) (some (decide (B<=90))) (some false):aY X').bind λw=>some w):aY X').bind λz=>some z
instance Y5(B:Int):Fc Sy cL (sX B):=Fc.M 213 [.int .u8 B] (bJ 10 3 [5] 8 (bp 10 5 (bq 3) (bq 3)) λu=>bJ 1 7 [0,9] 16 (bp 1 9 (bq 7) (bJ 3 3 [0,12] 15 (bp 3 12 (bq 3) (bq 3)) λw=>bq 1)) λz=>aZ)
def wR(B:Int):aY X':=(bg (decide (B>=48)) (some (decide (B<=57))) (some false):aY X').bind λu=>some u
instance Zh(B:Int):Fc Sy cL (wR B):=Fc.M 214 [.int .u8 B] (bJ 10 3 [0,5] 8 (bp 10 5 (bq 3) (bq 3)) λu=>aZ)
namespace iz
def bh(s0:U')(D:Int)(B:Int):aY (Fw Int Unit Unit):=bg (decide (B<D)) ((mY s0 B).bind λz=>(sX z).bind λC=>(bg C (some false) ((mY s0 B).bind λG=>(wR G).bind λI=>some (!I)):aY X').bind λJ=>(bg J ((mY s0 B).bind λu=>some (!(u==95))) (some false):aY X').bind λw=>bg w (some (.r ())) (some (.n (wrap .i64 (B+1))))) (some (.x ()))
def W1(s0:U')(B D:Int):aY X':=(bG (λq:Int=>bh s0 B q) D).bind (Fw.elim (λe=>some true) (λe=>some false))
end iz
def iz(s0:U'):aY X':=(bg (toList s0==toList ByteArray.empty) (some true) (some (decide (((ByteArray.size s0:Nat):Int)>16))):aY X').bind λu=>(bg u (some true) ((mY s0 0).bind λw=>(sX w).bind λz=>some (!z)):aY X').bind λB=>bg B (some false) (iz.W1 s0 ((ByteArray.size s0:Nat):Int) 0)
open iz in
instance XY(s0:U'):Fc Sy cL (iz s0):=Fc.M 188 [.str s0] (bJ 11 4 [6] 10 (bp 11 6 (bq 4) (bq 4)) λC=>bJ 1 5 [11] 16 (bp 1 11 (bq 5) (C7 1 .i64 λD _=>bt 0 λG _=>bq 2)) λI=>bp 2 16 aZ (dx 13 (λw=>(bE [(0,.v (.str s0)),Iv 18 ((ByteArray.size s0:Nat):Int),Iv 19 w] [])) (λu=>(0,(bE [] []))) (λu=>(bE [Bv 2 false] [])) (λw=>bp 7 20 (C7 15 .i64 λJ _=>bt 0 λL _=>bJ 2 6 [27] 33 (cz 2 27 (bq 6) (C7 2 .i64 λO _=>bt 0 λQ _=>bq 2)) λS=>bJ 1 5 [3,34] 39 (bp 1 34 (C7 2 .i64 λz _=>bq 2) (bq 5)) λB=>bp 2 39 aZ aZ) aZ) (λu=>aZ) (λu=>aZ)))
def lu(B D:bS):aY X':=some (toList B.name==toList D.name)
instance MM(B D:bS):Fc Sy cL (lu B D):=Fc.M 190 [enc B,.fptr (cells D)] (bT 2 2 B aZ)
namespace iC
def bh(s0:Sl bS)(D:Int)(B:Int)(p1:bS->aY X'):aY (Fw Int Unit Int):=bg (decide (B<D)) ((idx s0 B).bind λu=>(p1 u).bind λw=>bg w (some (.r B)) (some (.n (wrap .i64 (B+1))))) (some (.x ()))
def W1(s0:Sl bS)(B D:Int)(p1:bS->aY X'):Ps:=(bG (λq:Int=>bh s0 B q p1) D).bind (Fw.elim (λe=>some (-1)) (λe=>some e))
end iC
def iC(s0:Sl bS)(p1:bS->aY X'):Ps:=iC.W1 s0 (len s0) 0 p1
open iC in
abbrev zn(g1:FuncId)(e1:aX V)(p1:bS->aY Bool)(a:mI Sy cL g1 [] e1 (λz:bS=>[enc z]) (λr:Bool=>[.bool r]) p1 true)(s0:Sl bS):Fc Sy cL (iC s0 p1):=Fc.M 215 [enc s0,.clo g1 [] e1] (bP 9 s0 (dx 5 (λw=>(bE [Cv 0 s0,(1,.v (.clo g1 [] e1)),Iv 7 (len s0),Iv 8 w] [])) (λu=>(0,(bE [] []))) (λu=>(bE [Iv 4 u] [])) (λw=>bp 7 9 (bB 16 λB _=>zA 1 a.f B λC _=>bp 2 16 aZ aZ) aZ) (λu=>aZ) (λu=>aZ)))
def jG(s0:Sl bS)(p1:bS->aY X'):aY X':=(iC s0 p1).bind λu=>some (decide (u>=0))
abbrev xV(g1:FuncId)(e1:aX V)(p1:bS->aY Bool)(a:mI Sy cL g1 [] e1 (λz:bS=>[enc z]) (λr:Bool=>[.bool r]) p1 true)(s0:Sl bS):Fc Sy cL (jG s0 p1):=Fc.M 189 [enc s0,.clo g1 [] e1] (bt (F:=zn g1 e1 p1 a s0) 9 λu _=>aZ)
def lE(B D:Var):aY X':=some (toList B.name==toList D.name)
instance MO(B D:Var):Fc Sy cL (lE B D):=Fc.M 191 [enc B,.fptr (cells D)] (aZ)
namespace fU
def bh(s0:Sl Var)(D:Int)(B:Int)(p1:Var->aY X'):aY (Fw Int Unit Int):=bg (decide (B<D)) ((idx s0 B).bind λu=>(p1 u).bind λw=>bg w (some (.r B)) (some (.n (wrap .i64 (B+1))))) (some (.x ()))
def W1(s0:Sl Var)(B D:Int)(p1:Var->aY X'):Ps:=(bG (λq:Int=>bh s0 B q p1) D).bind (Fw.elim (λe=>some (-1)) (λe=>some e))
end fU
def fU(s0:Sl Var)(p1:Var->aY X'):Ps:=fU.W1 s0 (len s0) 0 p1
open fU in
abbrev pQ(g1:FuncId)(e1:aX V)(p1:Var->aY Bool)(a:mI Sy cL g1 [] e1 (λz:Var=>[enc z]) (λr:Bool=>[.bool r]) p1 true)(s0:Sl Var):Fc Sy cL (fU s0 p1):=Fc.M 179 [enc s0,.clo g1 [] e1] (bP 9 s0 (dx 5 (λw=>(bE [Cv 0 s0,(1,.v (.clo g1 [] e1)),Iv 7 (len s0),Iv 8 w] [])) (λu=>(0,(bE [] []))) (λu=>(bE [Iv 4 u] [])) (λw=>bp 7 9 (bB 16 λB _=>zA 1 a.f B λC _=>bp 2 16 aZ aZ) aZ) (λu=>aZ) (λu=>aZ)))
def iL(s0:Sl Var)(p1:Var->aY X'):aY X':=(fU s0 p1).bind λu=>some (decide (u>=0))
abbrev rQ(g1:FuncId)(e1:aX V)(p1:Var->aY Bool)(a:mI Sy cL g1 [] e1 (λz:Var=>[enc z]) (λr:Bool=>[.bool r]) p1 true)(s0:Sl Var):Fc Sy cL (iL s0 p1):=Fc.M 172 [enc s0,.clo g1 [] e1] (bt (F:=pQ g1 e1 p1 a s0) 9 λu _=>aZ)
namespace fD
def bh(D:Sl Var)(G:Int)(J:bS)(B:Int):aY (Fw Int Unit Int):=bg (decide (B<G)) ((idx D B).bind λu=>(iz u.name).bind λI=>(bg I ((gB J.vars none (some B)).bind λL=>(iL L (λz=>lE z u)).bind λO=>some O) (some true):aY X').bind λw=>bg w (some (.r 13)) ((pY u.init_ (-1073741824) 1073741824).bind λC=>bg C (some (.n (wrap .i64 (B+1)))) (some (.r 2)))) (some (.x ()))
def W1(D:Sl Var)(G J:Int)(B:bS):Ps:=(bG (λq:Int=>bh D G B q) J).bind (Fw.elim (λe=>bg (decide ((len B.events)>64)) (some 5) (some 0)) (λe=>some e))
end fD
def fD(G:Z4)(p1:Int):Ps:=(idx G.procs p1).bind λu=>(iz u.name).bind λw=>(bg w ((gB G.procs none (some p1)).bind λB=>(jG B (λz=>lu z u)).bind λC=>some C) (some true):aY X').bind λD=>bg D (some 13) (bg (decide ((len u.vars)>8)) (some 5) (fD.W1 u.vars (len u.vars) 0 u))
open fD in
instance Qv(D:Z4)(p1:Int):Fc Sy cL (fD D p1):=Fc.M 166 [enc D,.int .i64 p1] (bT 2 2 D (bB 8 λu _=>pz 2 5 0 u (bt 8 λO _=>bJ 2 7 [1,2,18] 25 (cz 2 18 (B6 3 false true [.int .i64 p1] λG _=>b9 (F:=xV 190 [.fptr (cells u)] (λz=>lu z u) mI.sY G) 1 λQ _=>bq 1) (bq 7)) λS=>bp 3 13 aZ (bP 5 u.vars (bp 4 26 aZ (bP 9 u.vars (dx 5 (λB=>(bE [Pv 5,Cv 32 u.vars,Iv 33 (len u.vars),Iv 34 B] [Xb 5 u])) (λw=>(1,(bE [Pv 5] [Xb 5 u]))) (λw=>(bE [Iv 4 w] [])) (λB=>bp 7 35 (bB 8 λC _=>bt 11 λT _=>bJ 2 7 [6,44] 51 (cz 2 44 (B6 3 false true [.int .i64 B] λI _=>b9 (F:=rQ 191 [.fptr (cells C)] (λz=>lE z C) mI.sY I) 1 λU _=>bq 1) (bq 7)) λJ=>bp 3 39 aZ (bt 5 λL _=>cz 4 52 aZ aZ)) aZ) (λw=>bP 7 u.events (bp 3 61 aZ aZ)) (λw=>aZ))))))))
def kM(B:Z4):aY Z4:=some B
instance YU(B:Z4):Fc Sy cL (kM B):=Fc.NE (λr:Z4=>[(.clo 192 [] [.fptr (cells r)])]) 167 [enc B] (bT 2 1 B aZ)
namespace jF
def J1(p1:Int)(D:X')(G:Z4)(B:WF):aY X':=bg D ((pY B.peer 0 (wrap .i64 ((len G.procs)-1))).bind λu=>(bg u (some (!(B.peer==p1))) (some false):aY X').bind λw=>(bg w ((pY B.message 0 199).bind λz=>some z) (some false):aY X').bind λC=>some C) (some false)
end jF
def jF(B:Z4)(p1:Int)(e2:WF):aY X':=bg (e2.kind==1) ((bg (e2.peer==0) (some (e2.message==0)) (some false):aY X').bind λu=>some u) (bg (e2.kind==2) (jF.J1 p1 true B e2) (jF.J1 p1 (e2.kind==3) B e2))
open jF in
instance Y6(B:Z4)(p1:Int)(e2:WF):Fc Sy cL (jF B p1 e2):=Fc.M 193 [enc B,.int .i64 p1,enc e2] (bT 2 3 B (bT 0 5 e2 (bp 17 9 (bJ 7 4 [5,14] 18 (bp 7 14 (bq 4) (bq 4)) λD=>aZ) (bp 8 19 (qD 4 (bp 0 19 (bP 7 B.procs (bt 1 λu _=>bJ 1 5 [1,29] 34 (bp 1 29 (bq 5) (bq 5)) λw=>bJ 1 4 [5,35] 39 (bp 1 35 (bt 2 λz _=>bq 1) (bq 4)) λC=>aZ)) aZ)) (qD 7 (bp 0 19 (bP 7 B.procs (bt 1 λu _=>bJ 1 5 [1,29] 34 (bp 1 29 (bq 5) (bq 5)) λw=>bJ 1 4 [5,35] 39 (bp 1 35 (bt 2 λz _=>bq 1) (bq 4)) λC=>aZ)) aZ))))))
def mw(B D:Assign):aY X':=some (B.var==D.var)
instance Ox(B D:Assign):Fc Sy cL (mw B D):=Fc.M 195 [enc B,.fptr (cells D)] (aZ)
namespace gD
def bh(s0:Sl Assign)(D:Int)(B:Int)(p1:Assign->aY X'):aY (Fw Int Unit Int):=bg (decide (B<D)) ((idx s0 B).bind λu=>(p1 u).bind λw=>bg w (some (.r B)) (some (.n (wrap .i64 (B+1))))) (some (.x ()))
def W1(s0:Sl Assign)(B D:Int)(p1:Assign->aY X'):Ps:=(bG (λq:Int=>bh s0 B q p1) D).bind (Fw.elim (λe=>some (-1)) (λe=>some e))
end gD
def gD(s0:Sl Assign)(p1:Assign->aY X'):Ps:=gD.W1 s0 (len s0) 0 p1
open gD in
abbrev yo(g1:FuncId)(e1:aX V)(p1:Assign->aY Bool)(a:mI Sy cL g1 [] e1 (λz:Assign=>[enc z]) (λr:Bool=>[.bool r]) p1 true)(s0:Sl Assign):Fc Sy cL (gD s0 p1):=Fc.M 216 [enc s0,.clo g1 [] e1] (bP 9 s0 (dx 5 (λw=>(bE [Cv 0 s0,(1,.v (.clo g1 [] e1)),Iv 7 (len s0),Iv 8 w] [])) (λu=>(0,(bE [] []))) (λu=>(bE [Iv 4 u] [])) (λw=>bp 7 9 (bB 16 λB _=>zA 1 a.f B λC _=>bp 2 16 aZ aZ) aZ) (λu=>aZ) (λu=>aZ)))
def iQ(s0:Sl Assign)(p1:Assign->aY X'):aY X':=(gD s0 p1).bind λu=>some (decide (u>=0))
abbrev vT(g1:FuncId)(e1:aX V)(p1:Assign->aY Bool)(a:mI Sy cL g1 [] e1 (λz:Assign=>[enc z]) (λr:Bool=>[.bool r]) p1 true)(s0:Sl Assign):Fc Sy cL (iQ s0 p1):=Fc.M 194 [enc s0,.clo g1 [] e1] (bt (F:=yo g1 e1 p1 a s0) 9 λu _=>aZ)
namespace dU
def bF(D:Sl Assign)(G:Int)(J:WF)(U:bS)(B:Int):aY (Fw Int Unit Int):=bg (decide (B<G)) ((idx D B).bind λu=>(pY u.var 0 (wrap .i64 ((len U.vars)-1))).bind λI=>(bg I ((pY u.value (-1073741824) 1073741824).bind λL=>some (!L)) (some true):aY X').bind λO=>bg O (some (.r 2)) ((gB J.assign none (some B)).bind λw=>(iQ w (λz=>mw z u)).bind λC=>bg C (some (.r 8)) (some (.n (wrap .i64 (B+1)))))) (some (.x ()))
def W2(B:Sl Assign)(D G:Int)(J:WF)(U:bS):Ps:=(bG (λq:Int=>bF B D J U q) G).bind (Fw.elim (λe=>some 0) (λe=>some e))
def J1(D:Int)(J:Z4)(G:bf)(B:WF)(U:bS):Ps:=(jF J G.proc B).bind λu=>bg u ((pY B.time 0 1099511627776).bind λw=>(bg w (some (decide (B.time<D))) (some true):aY X').bind λz=>bg z (some 11) (bg (decide ((len B.assign)>8)) (some 5) (dU.W2 B.assign (len B.assign) 0 B U))) (some 3)
theorem nh(D:Int)(U:Z4)(J:bf)(B:WF)(G:bS):Le ((J1 D U J B G).bind (λr=>some [.int .i64 r])) (b7 Sy cL (p8 (tr Tx 168)) (rM (tb Tx 168) [1,1,1,1,0] [] (bE [Pv 3,Pv 4,Pv 5,Pv 7,Iv 8 D] [Xb 3 U,Xb 4 J,Xb 5 B,Xb 7 G]))):=bt 8 λO _=>cz 4 28 (bt 5 λQ _=>bJ 2 5 [8,40] 45 (cz 2 40 (bq 5) (bq 5)) λS=>bp 3 35 aZ (bP 5 B.assign (bp 4 46 aZ (bP 9 B.assign (dx 5 (λw=>(bE [Pv 5,Pv 7,Cv 52 B.assign,Iv 53 (len B.assign),Iv 54 w] [Xb 5 B,Xb 7 G])) (λu=>(1,(bE [] []))) (λu=>(bE [Iv 6 u] [])) (λw=>bp 7 55 (bB 8 λC _=>bP 13 G.vars (bt 1 λT _=>bJ 2 5 [68] 73 (cz 2 68 (bt 2 λW _=>bq 2) (bq 5)) λX=>bp 3 59 aZ (B6 6 false true [.int .i64 w] λI _=>b9 (F:=vT 195 [.fptr (cells C)] (λz=>mw z C) mI.sY I) 1 λL _=>bp 3 74 aZ aZ))) aZ) (λu=>aZ) (λu=>aZ)))))) aZ
end dU
def dU(D:Z4)(B:bf)(e2:WF):Ps:=(idx D.procs B.proc).bind λu=>bg (decide (B.index>1)) ((idx u.events (wrap .i64 (B.index-2))).bind λw=>dU.J1 w.time D B e2 u) (dU.J1 0 D B e2 u)
open dU in
instance Sq(D:Z4)(B:bf)(e2:WF):Fc Sy cL (dU D B e2):=Fc.M 168 [enc D,enc B,enc e2] (bT 2 3 D (bT 1 5 e2 (bB 9 λu _=>pz 2 7 0 u (bp 15 19 (bB 7 λw _=>nL 6 (nh w.time D B e2 u)) (nL 4 (nh 0 D B e2 u))))))
def tA(e0:WF)(B D:Int):aY X':=(bg (e0.kind==2) (some (e0.message==B)) (some false):aY X').bind λu=>(bg u (some (e0.peer==D)) (some false):aY X').bind λw=>some w
instance VL(e0:WF)(B D:Int):Fc Sy cL (tA e0 B D):=Fc.M 217 [enc e0,.fptr (cells B),.fptr (cells D)] (bT 2 3 e0 (bJ 9 5 [1,8] 13 (bp 9 8 (bq 5) (bq 5)) λu=>bJ 1 5 [2,3,14] 19 (bp 1 14 (bq 5) (bq 5)) λw=>aZ))
def wH(D:Z4)(p1 G B:Int):aY X':=(idx D.procs p1).bind λu=>(gX u.events (λz=>tA z G B)).bind λw=>some w
instance ZD(G:Z4)(p1 D B:Int):Fc Sy cL (wH G p1 D B):=Fc.M 196 [enc G,.int .i64 p1,.int .i64 D,.int .i64 B] (bT 2 4 G (bB 10 λu _=>b9 (F:=mQ 217 [.fptr (cells D),.fptr (cells B)] (λz=>tA z D B) mI.sY u.events) 3 λw _=>aZ))
namespace fE
def lF(D G:Z4)(J:aY (cg 200 bC))(U:bf)(W:Int)(x:bf×WF)(B:cg 200 bC):aY (Fw (cg 200 bC) Empty (bf×Int×(cg 200 bC))):=bg (x.2.kind==2) ((cg.at B x.2.message).bind λu=>bg (decide (u.from_.index>0)) (some (.r (x.1,8,B))) ((cg.at B x.2.message).bind λw=>some (.n (cg.set B x.2.message (⟨x.1,w.to_⟩:bC))))) (bg (x.2.kind==3) ((cg.at B x.2.message).bind λz=>bg (decide (z.to_.index>0)) (some (.r (x.1,8,B))) ((wH G x.2.peer x.2.message x.1.proc).bind λC=>bg C ((cg.at B x.2.message).bind λI=>some (.n (cg.set B x.2.message (⟨I.from_,x.1⟩:bC)))) (some (.r (x.1,7,B))))) (some (.n B)))
def E1(B G:Z4)(J:aY (cg 200 bC))(U:bf)(W:Int)(D:cg 200 bC):aY ((aY (cg 200 bC))×bf×Int):=(kB B).bind λu=>(mm (λ(x:bf×WF)(q:cg 200 bC)=>lF B G J U W x q) u D).bind (Fw.tj (λq=>some (some q,⟨0,0⟩,0)) (λe=>elim e) (λe=>some ((none:aY (cg 200 bC)),e.1,e.2.1)))
end fE
def fE(B:Z4):aY ((aY (cg 200 bC))×bf×Int):=(kM B).bind λu=>fE.E1 u B (none:aY (cg 200 bC)) (⟨0,0⟩:bf) 0 (cg.S0 200 (⟨⟨0,0⟩,⟨0,0⟩⟩:bC))
open fE in
instance OK(D:Z4):Fc Sy cL (fE D):=Fc.N 169 [enc D] (bT 2 1 D (bT 8 10 (cg.S0 200 (⟨⟨0,0⟩,⟨0,0⟩⟩:bC)) (Bal 0 5 (bE [Pv 1,Pv 2,Pv 3,Pv 4,Pv 10] [Xb 1 D,(2,.box [cv (none:aY (cg 200 bC))]),Xb 3 (⟨0,0⟩:bf),(4,.box [iv 0]),Xb 10 (cg.S0 200 (⟨⟨0,0⟩,⟨0,0⟩⟩:bC))]) [cv (none:aY (cg 200 bC))] (by simp only[bE,AF,tv,u7,ta,u6,vU,uM,wA,tu,uV,AL,vL,wj,vQ,wD,yJ,yG,uY,vW];rfl) (bt 7 λB _=>HG λO C=>DW 4 [Pv 1,Pv 2,Pv 3,Pv 4,Pv 5,(12,.v (.clo 192 [] [.fptr (cells B)]))] (λw=>[Xb 1 D,(2,.box [cv (none:aY (cg 200 bC))]),Xb 3 (⟨0,0⟩:bf),(4,.box [iv 0]),(5,.box [.ptr 10 0]),Xb 10 w]) (λz=>elim z) (λz=>[Xb 1 D,(2,.box [cv (none:aY (cg 200 bC))]),Xb 3 z.1,(4,.box [iv z.2.1]),(5,.box [.ptr 10 0]),Xb 10 z.2.2]) (BF B O C) (λu w=>Bal 2 6 ⟨[Pv 1,Pv 2,Pv 3,Pv 4,Pv 5,(12,.v (.clo 192 [] [.fptr (cells B)])),Cv 13 u.1,Cv 14 u.2],[Xb 1 D,(2,.box [cv (none:aY (cg 200 bC))]),Xb 3 (⟨0,0⟩:bf),(4,.box [iv 0]),(5,.box [.ptr 10 0]),Xb 10 w],[1,2,3,4,5],[],true,0⟩ [iv 0,iv 0] (by simp only[bE,AF,tv,u7,ta,u6,vU,uM,wA,tu,uV,AL,vL,wj,vQ,wD,yJ,yG,uY,vW];rfl) (Bal 4 7 ⟨[Pv 1,Pv 2,Pv 3,Pv 4,Pv 5,(12,.v (.clo 192 [] [.fptr (cells B)])),Cv 14 u.2,Pv 6],[Xb 1 D,(2,.box [cv (none:aY (cg 200 bC))]),Xb 3 (⟨0,0⟩:bf),(4,.box [iv 0]),(5,.box [.ptr 10 0]),Xb 10 w,Xb 6 u.1],[1,2,3,4,5],[],true,0⟩ [iv 0,iv 0,iv 0,iv 0,.v .bO] (by simp only[bE,AF,tv,u7,ta,u6,vU,uM,wA,tu,uV,AL,vL,wj,vQ,wD,yJ,yG,uY,vW];rfl) (pz 0 7 0 u.2 (Ay 1 (bp 22 19 (J5 7 .i64 10 λG Q=>V6 2 1 false 10 w u.2.message 1 G Q (.int .i64 G.from_.index) (by rfl) (bp 3 28 aZ (J5 8 .i64 10 λI S=>WH 1 10 w u.2.message 0 I S (⟨u.1,I.to_⟩:bC) u.1 rfl aZ))) (bp 7 36 (J5 7 .i64 10 λJ T=>V6 2 1 false 10 w u.2.message 3 J T (.int .i64 J.to_.index) (by rfl) (bp 3 45 aZ (bt 12 λW _=>cz 3 54 (J5 8 .i64 10 λL U=>WH 1 10 w u.2.message 2 L U (⟨L.from_,u.1⟩:bC) u.1 rfl aZ) aZ))) aZ)))))) (λw=>abR 13 (bE [Pv 2,Pv 3,Pv 4] [(2,.box [.ptr 10 0]),Xb 3 (⟨0,0⟩:bf),(4,.box [iv 0]),Xb 10 w]) [.ptr 10 0,cv (⟨0,0⟩:bf),iv 0] (Ye (d:=10) (x:=w) (vs:=[enc (⟨0,0⟩:bf),.int .i64 0]) Zae) Zae) (λx=>elim x) (λz=>aZ)))))
namespace kF
def J1(D:cg 200 bC)(B:Sl bf)(J:Sl WF)(G:bf):aY (Sl bf):=(idx J (wrap .i64 (G.index-1))).bind λu=>(bg (u.kind==2) ((cg.at D u.message).bind λw=>some (decide (w.to_.index>0))) (some false):aY X').bind λz=>bg z ((cg.at D u.message).bind λC=>(fF B (C.to_:bf)).bind λI=>some I) (some B)
theorem nh(B:cg 200 bC)(D:Sl bf)(J:Sl WF)(G:bf):Le ((J1 B D J G).bind (λr=>some [enc r])) (b7 Sy cL (p8 (tr Tx 197)) (rM (tb Tx 197) [1,1,1,1,0,0] [] (bE [Kv 1 B,Pv 5,Ov 7,Cv 8 J] [Xb 5 G,Lb 2007 D]))):=bB 7 λu _=>pz 2 9 0 u (bJ 8 10 [40] 50 (bp 8 40 (PV 4 .i64 λw z=>VO 0 2 B u.message 0 w z (VO 0 1 B u.message 2 w z (PE 0 1 false B u.message 3 w z (.int .i64 w.to_.index) (by rfl) (bq 2)))) (bq 10)) λL=>bp 2 50 (PV 7 .i64 λC I=>VO 0 2 B u.message 0 C I (PE 0 2 true B u.message 2 C I (enc C.to_) (by rfl) (ny 1 2007 59 60 λO _=>aZ))) aZ)
end kF
def kF(D:Z4)(B:cg 200 bC)(x2:bf):aY (Sl bf):=(idx D.procs x2.proc).bind λu=>bg (decide (x2.index<(len u.events))) (kF.J1 B (Sl.row [⟨x2.proc,wrap .i64 (x2.index+1)⟩]:Sl bf) u.events x2) (kF.J1 B (Sl.nil:Sl bf) u.events x2)
open kF in
instance Zy(D:Z4)(B:cg 200 bC)(x2:bf):Fc Sy cL (kF D B x2):=Fc.N 197 [enc D,.fptr (cells B),enc x2] (bT 2 3 D (bB 15 λu _=>bP 11 u.events (bp 3 21 (Wm 10 29 30 .bO (⟨x2.proc,wrap .i64 (x2.index+1)⟩:bf) (nL 5 (nh B (Sl.row [⟨x2.proc,wrap .i64 (x2.index+1)⟩]:Sl bf) u.events x2))) (nL 5 (nh B (Sl.nil:Sl bf) u.events x2)))))
namespace jD
def fC(U:Z4)(W:Sl bf)(Y:Int)(a:Z4)(b:cg 200 bC)(c:bf)(d:X')(J:bf)(B:Sl bf)(G:Int)(D:Mo bf X'):aY (Fw ((Sl bf)×Int×(Mo bf X')) ((Sl bf)×(Mo bf X')) Unit):=bg (decide (G<Y)) ((idx W G).bind λu=>bg (Oc u J) (some (.r ())) (bg (pM D u false) (some (.n (B,wrap .i64 (G+1),D))) ((fF B (u:bf)).bind λw=>some (.n (w,wrap .i64 (G+1),nP D u true))))) (some (.x (B,D)))
def W3(D:Sl bf)(B:Z4)(U:Sl bf)(W Y:Int)(a:Z4)(b:cg 200 bC)(c:bf)(d:X')(G:bf)(J:Mo bf X'):aY (Fw ((Sl bf)×(Mo bf X')) Unit Unit):=(bG (λq:(Sl bf)×Int×(Mo bf X')=>fC B U W a b c d G q.1 q.2.1 q.2.2) (D,Y,J)).bind (Fw.elim (λe=>some (.n (e.1,e.2))) (λe=>some (.r ())))
def bF(D G:Z4)(J:cg 200 bC)(Y:bf)(a:X')(U:bf)(B:Sl bf)(W:Mo bf X'):aY (Fw ((Sl bf)×(Mo bf X')) Unit Unit):=bg (decide ((len B)>0)) ((Sl.jP B (wrap .i64 ((len B)-1))).bind λw=>(Sl.get B w).bind λz=>(ri B none (some (wrap .i64 ((len B)-1)))).bind λC=>(kF G J z).bind λu=>W3 C D u (len u) 0 G J Y a U W) (some (.x ()))
def W2(G:Sl bf)(B U:Z4)(W:cg 200 bC)(Y:bf)(a:X')(D:bf)(J:Mo bf X'):aY (Fw Unit Empty bf):=(bG (λq:(Sl bf)×(Mo bf X')=>bF B U W Y a D q.1 q.2) (G,J)).bind (Fw.elim (λe=>some (.n ())) (λe=>some (.r D)))
def lF(B D:Z4)(G:cg 200 bC)(J:bf)(U:X')(x:bf×WF):aY (Fw Unit Empty bf):=W2 (Sl.row [x.1]:Sl bf) B D G J U x.1 []
def E1(B D:Z4)(G:cg 200 bC)(J:bf)(U:X'):aY (bf×X'):=(kB B).bind λu=>(mm (λ(x:bf×WF)(q:Unit)=>lF B D G J U x) u ()).bind (Fw.tj (λq=>some (⟨0,0⟩,false)) (λe=>elim e) (λe=>some (e,true)))
end jD
def jD(B:Z4)(D:cg 200 bC):aY (bf×X'):=(kM B).bind λu=>jD.E1 u B D (⟨0,0⟩:bf) false
open jD in
instance Ys(B:Z4)(G:cg 200 bC):Fc Sy cL (jD B G):=Fc.M 170 [enc B,.fptr (cells G)] (bT 2 2 B (bt 9 λw _=>HG λU Q=>DW 4 [Pv 2,Pv 3,Pv 4,Pv 5,(13,.v (.clo 192 [] [.fptr (cells w)]))] (λS=>[Xb 2 B,(3,.box [cp G]),Xb 4 (⟨0,0⟩:bf),(5,.box [bv false])]) (λI=>elim I) (λI=>[Xb 2 B,(3,.box [cp G]),Xb 4 I,(5,.box [bv true])]) (BF w U Q) (λC S=>Ay 4 (dx 18 (λu=>⟨[Pv 2,Pv 3,Pv 4,Pv 5,Pv 6,(7,.mp 16),Ov 8,(13,.v (.clo 192 [] [.fptr (cells w)]))],[Xb 2 B,(3,.box [cp G]),Xb 4 (⟨0,0⟩:bf),(5,.box [bv false]),Xb 6 C.1,(16,vR u.2),Lb 2008 u.1],[2,3,4,5],[],true,0⟩) (λJ=>(2,⟨[Pv 2,Pv 3,Pv 4,Pv 5,(13,.v (.clo 192 [] [.fptr (cells w)]))],[Xb 2 B,(3,.box [cp G]),Xb 4 (⟨0,0⟩:bf),(5,.box [bv false])],[2,3,4,5],[],true,0⟩)) (λJ=>⟨[],[Xb 2 B,(3,.box [cp G]),Xb 4 C.1,(5,.box [bv true])],[2,3,4,5],[],true,0⟩) (λu=>GL 6 2008 u.1 (bp 3 21 (GL 8 2008 u.1 (jt .i64 1 2008 λW _=>pT 0 2008 0 2 true (λL=>.agg [.int .i64 L.proc,.int .i64 L.index]) λL _=>GL 8 2008 u.1 (abY 1 false true 2008 32 [.int .i64 (wrap .i64 ((len u.1)-1))] λX _=>bt 8 λO _=>bP 0 O (dx 6 (λz=>⟨[Pv 2,Pv 3,Pv 4,Pv 5,Pv 6,(7,.mp 16),Ov 8,(13,.v (.clo 192 [] [.fptr (cells w)])),Cv 36 O,Iv 37 (len O),Iv 38 z.2.1],[Xb 2 B,(3,.box [cp G]),Xb 4 (⟨0,0⟩:bf),(5,.box [bv false]),Xb 6 C.1,(16,vR z.2.2),Lb 2008 z.1],[2,3,4,5],[],true,0⟩) (λD=>(4,⟨[Pv 2,Pv 3,Pv 4,Pv 5,Pv 6,(7,.mp 16),Ov 8,(13,.v (.clo 192 [] [.fptr (cells w)]))],[Xb 2 B,(3,.box [cp G]),Xb 4 (⟨0,0⟩:bf),(5,.box [bv false]),Xb 6 C.1,(16,vR D.2),Lb 2008 D.1],[2,3,4,5],[],true,0⟩)) (λD=>⟨[],[Xb 2 B,(3,.box [cp G]),Xb 4 C.1,(5,.box [bv true])],[2,3,4,5],[],true,0⟩) (λz=>bp 8 39 (bB 7 λT _=>bp 13 44 aZ (ach 7 16 z.2.2 T false (cz 3 49 aZ (aas 5 16 z.2.2 T true (ny 6 2008 54 55 λY _=>aZ))))) aZ) (λD=>aZ) (λD=>aZ))))) aZ)) (λJ=>aZ) (λJ=>aZ))) (λS=>aZ) (λx=>elim x) (λI=>aZ)))
namespace je
def Oa(B D:Z4)(G:bf)(J:Int)(x:bf×WF):aY (Fw Unit Empty (bf×Int)):=(dU D x.1 x.2).bind λu=>bg (u==0) (some (.n ())) (some (.r (x.1,u)))
def E2(B D:Z4)(G:bf)(J:Int):aY (bf×Int):=(kB B).bind λz=>(mm (λ(x:bf×WF)(q:Unit)=>Oa B D G J x) z ()).bind (Fw.tj (λq=>(fE D).bind λu=>bg (u.2.2==0) ((u.1).bind λC=>(jD D C).bind λw=>bg w.2 (some (w.1,10)) (some (⟨0,0⟩,0))) (some (u.2.1,u.2.2))) (λe=>elim e) (λe=>some (e.1,e.2)))
def bh(D:Int)(G:Z4)(J:bf)(U:Int)(B:Int):aY (Fw Int Unit (bf×Int)):=bg (decide (B<D)) ((fD G B).bind λu=>bg (u==0) (some (.n (wrap .i64 (B+1)))) (some (.r ((⟨B,0⟩:bf),u)))) (some (.x ()))
def W1(J U:Int)(B:Z4)(D:bf)(G:Int):aY (bf×Int):=(bG (λq:Int=>bh J B D G q) U).bind (Fw.elim (λe=>(kM B).bind λu=>je.E2 u B D G) (λe=>some (e.1,e.2)))
end je
def je(B:Z4):aY (bf×Int):=(pY (len B.procs) 1 8).bind λu=>bg u (je.W1 (len B.procs) 0 B (⟨0,0⟩:bf) 0) (some (⟨0,0⟩,1))
open je in
instance Zn(B:Z4):Fc Sy cL (je B):=Fc.M 135 [enc B] (bT 2 1 B (bP 9 B.procs (bt 0 λO _=>cz 3 18 (bP 8 B.procs (dx 5 (λC=>(bE [Pv 1,Pv 2,Pv 3,Iv 22 (len B.procs),Iv 23 C] [Xb 1 B,Xb 2 (⟨0,0⟩:bf),(3,.box [iv 0])])) (λu=>(0,(bE [Pv 1,Pv 2,Pv 3] [Xb 1 B,Xb 2 (⟨0,0⟩:bf),(3,.box [iv 0])]))) (λu=>(bE [Pv 2,Pv 3] [Xb 2 u.1,(3,.box [iv u.2])])) (λC=>bp 7 24 (bt 15 λQ _=>cz 9 30 aZ aZ) aZ) (λu=>bt 6 λz _=>HG λJ D=>DW 4 [Pv 1,Pv 2,Pv 3,(36,.v (.clo 192 [] [.fptr (cells z)]))] (λG=>[Xb 1 B,Xb 2 (⟨0,0⟩:bf),(3,.box [iv 0])]) (λw=>elim w) (λw=>[Xb 1 B,Xb 2 w.1,(3,.box [iv w.2])]) (BF z J D) (λL G=>pz 8 7 0 L.2 (Ay 1 (bt 7 λS _=>cz 9 44 aZ aZ))) (λG=>bt 5 λI _=>cz 17 54 (KP 8 (λT=>(bE [Pv 2,Pv 3,(36,.v (.clo 192 [] [.fptr (cells z)])),Pv 10,Iv 11 I.2.2,Bv 54 false,Cv 58 B,Cv 59 T] [Xb 1 B,Xb 2 (⟨0,0⟩:bf),(3,.box [iv 0]),Xb 10 I.2.1])) λU _=>bt 0 λW _=>bp 13 63 aZ aZ) aZ) (λx=>elim x) (λw=>aZ)) (λu=>aZ))) aZ)))
def cZ(B:Z4):aY X':=(je B).bind λu=>some (u.2==0)
instance ZA(B:Z4):Fc Sy cL (cZ B):=Fc.M 104 [enc B] (bT 2 1 B (bt 6 λu _=>aZ))
def wE(B:Int):aY X':=(bg (B==2) (some true) (some (B==3)):aY X').bind λu=>(bg u (some true) (some (B==4)):aY X').bind λw=>some w
instance UU(B:Int):Fc Sy cL (wE B):=Fc.M 171 [.int .i64 B] (bJ 10 3 [5] 8 (bp 10 5 (bq 3) (bq 3)) λu=>bJ 1 3 [0,9] 12 (bp 1 9 (bq 3) (bq 3)) λw=>aZ)
def me(B:T'):aY X':=(bg (decide (B.kind<1)) (some true) (some (decide (B.kind>=22))):aY X').bind λz=>(bg z (some true) ((cg.at wK B.kind).bind λC=>some (!((len B.l)==C))):aY X').bind λD=>(bg D (some true) (some (decide (B.n<0))):aY X').bind λG=>(bg G (some true) (some (decide (B.n>1125899906842624))):aY X').bind λI=>(bg I (some true) ((bg (B.n==0) (some false) (some (!(B.kind==1))):aY X').bind λJ=>some J):aY X').bind λL=>bg L (some false) ((wE B.kind).bind λO=>(bg O (some true) ((bg (B.proc==0) (some (B.peer==0)) (some false):aY X').bind λQ=>(bg Q (some (toList B.name==toList ByteArray.empty)) (some false):aY X').bind λu=>some u):aY X').bind λw=>some w)
instance WJ(B:T'):Fc Sy cL (me B):=Fc.M 140 [enc B] (bT 2 1 B (bJ 10 4 [6] 10 (bp 10 6 (bq 4) (bq 4)) λD=>bJ 1 9 [11] 20 (bp 1 11 (bq 9) (dN 2 13 (Pred.fe B.l) (bP 0 B.l (PV 2 .i64 λu w=>PE 0 1 false wK B.kind 0 u w (.int .i64 u) (by rfl) (bq 2))))) λG=>bJ 1 4 [21] 25 (bp 1 21 (bq 4) (bq 4)) λI=>bJ 1 4 [26] 30 (bp 1 26 (bq 4) (bq 4)) λJ=>bJ 1 9 [31] 40 (bp 1 31 (bq 9) (bJ 4 4 [35] 39 (cz 4 35 (bq 4) (bq 4)) λL=>bq 1)) λO=>bp 2 40 aZ (bt 7 λQ _=>bJ 1 14 [1,44] 58 (bp 1 44 (bq 14) (bJ 4 4 [48] 52 (bp 4 48 (bq 4) (bq 4)) λS=>bJ 1 4 [1,53] 57 (bp 1 53 (bq 4) (bq 4)) λz=>bq 1)) λC=>aZ)))
def jv(D:T')(G B:Int)(r:(T'×Int×Int)->aY (X'×Int)):aY (X'×Int):=(r (D,wrap .i64 (G+1),B)).bind λu=>some ((!u.1),u.2)
abbrev zo(r:(Pred×Int×Int)->aY (Bool×Int))(a:yZ Sy cL 139 (λz:Pred×Int×Int=>[cv z.1,iv z.2.1,.ptr 9004 0,.ptr 9003 0]) (λz:Pred×Int×Int=>[(9004,bx (z.2.2:Int)),(9003,.box [.clo 139 [] [.ptr 9004 0,.ptr 9003 0]])]) (λr:Bool×Int=>[.bool r.1]) (λ(z:Pred×Int×Int)(r:Bool×Int)=>[(9004,bx (r.2:Int)),(9003,.box [.clo 139 [] [.ptr 9004 0,.ptr 9003 0]])]) r)(D:Pred)(G B:Int):pG Sy cL (jv D G B r):=pG.mk' 141 [cv D,.ptr 9003 0,.v (.fptr (cells G))] [(9003,.box [.clo 139 [] [.ptr 9004 0,.ptr 9003 0]]),(9004,bx (B:Int))] (λr:Bool×Int=>[.bool r.1]) (λr:Bool×Int=>[(9003,.box [.clo 139 [] [.ptr 9004 0,.ptr 9003 0]]),(9004,bx (r.2:Int))]) (bT 2 3 D (vg 9 (pG.of (D,wrap .i64 (G+1),B) a) λu _=>aZ))
def fA(G:T')(B D:Int)(r:(T'×Int×Int)->aY (X'×Int)):aY (X'×Int):=(bg (decide ((wrap .i64 (D-1))<0)) (some true) (some (decide (B>20))):aY X').bind λw=>(bg w (some true) ((me G).bind λz=>some (!z)):aY X').bind λC=>bg C (some (false,wrap .i64 (D-1))) ((Br G.l (λx s=>jv x B s r) (wrap .i64 (D-1))).bind λu=>some ((!u.1),u.2))
theorem zq(r:(T'×Int×Int)->aY (X'×Int))(a:yZ Sy cL 139 (λz:T'×Int×Int=>[cv z.1,iv z.2.1,.ptr 9004 0,.ptr 9003 0]) (λz:T'×Int×Int=>[(9004,bx (z.2.2:Int)),(9003,.box [.clo 139 [] [.ptr 9004 0,.ptr 9003 0]])]) (λr:X'×Int=>[.bool r.1]) (λ(z:T'×Int×Int)(r:X'×Int)=>[(9004,bx (r.2:Int)),(9003,.box [.clo 139 [] [.ptr 9004 0,.ptr 9003 0]])]) r)(D:T')(B G:Int):∀J,fA D B G r=some J->∃m',cL 139 [cv D,iv B,.ptr 9004 0,.ptr 9003 0] [(9004,bx (G:Int)),(9003,.box [.clo 139 [] [.ptr 9004 0,.ptr 9003 0]])]=some (((λr:X'×Int=>[.bool r.1]) J).map .v,m')/\∀U,mD m' ([(9004,bx (G:Int)),(9003,.box [.clo 139 [] [.ptr 9004 0,.ptr 9003 0]])].map (·.1)) U=some (qW U ((λr:X'×Int=>[(9004,bx (r.2:Int)),(9003,.box [.clo 139 [] [.ptr 9004 0,.ptr 9003 0]])]) J)):=(pG.mk' 139 [cv D,iv B,.ptr 9004 0,.ptr 9003 0] [(9004,bx (G:Int)),(9003,.box [.clo 139 [] [.ptr 9004 0,.ptr 9003 0]])] (λr:X'×Int=>[.bool r.1]) (λr:X'×Int=>[(9004,bx (r.2:Int)),(9003,.box [.clo 139 [] [.ptr 9004 0,.ptr 9003 0]])]) (bT 2 4 D (bJ 17 3 [11] 14 (bp 17 11 (bq 3) (bq 3)) λu=>bJ 1 4 [15] 19 (bp 1 15 (bq 4) (bt 1 λw _=>bq 2)) λC=>bp 2 19 aZ (dN 7 21 (Pred.fe D.l) (vg 2 (rm (zK.ofK (σ:=Int) (g:=141) (e:=[.ptr 9003 0,cp B]) (os:=λs=>[(9003,.box [.clo 139 [] [.ptr 9004 0,.ptr 9003 0]]),(9004,bx (s:Int))]) (p:=(λx s=>jv x B s r)) (λx s=>zo r a x B s)) D.l (wrap .i64 (G-1))) λI _=>aZ)))):pG Sy cL (fA D B G r)).h
def sW(D:T')(B G:Int):aY (X'×Int):=dI (λr(z:T'×Int×Int)=>fA z.1 z.2.1 z.2.2 r) 100000 (D,B,G)
abbrev AX(D:Pred)(B G:Int):pG Sy cL (sW D B G):=pG.of (D,B,G) (yZ.fix (A:=λz:Pred×Int×Int=>[cv z.1,iv z.2.1,.ptr 9004 0,.ptr 9003 0]) (O:=λz:Pred×Int×Int=>[(9004,bx (z.2.2:Int)),(9003,.box [.clo 139 [] [.ptr 9004 0,.ptr 9003 0]])]) (E:=λr:Bool×Int=>[.bool r.1]) (M:=λ(z:Pred×Int×Int)(r:Bool×Int)=>[(9004,bx (r.2:Int)),(9003,.box [.clo 139 [] [.ptr 9004 0,.ptr 9003 0]])]) (b:=(λr(z:Pred×Int×Int)=>fA z.1 z.2.1 z.2.2 r)) Zae Zae Zae (λr a z=>zq r a z.1 z.2.1 z.2.2) 100000)
def nj(B:T'):aY X':=(sW B 1 200).bind λu=>some u.1
instance Tp(B:T'):Fc Sy cL (nj B):=Fc.M 112 [enc B] (bT 2 1 B (vg 26 (AX B 1 200) λu _=>aZ))
def lR(B:Z4)(p1:Int):aY X':=(bg (decide (p1>=0)) (some (decide (p1<(len B.procs)))) (some false):aY X').bind λu=>some u
instance Tl(B:Z4)(p1:Int):Fc Sy cL (lR B p1):=Fc.M 143 [enc B,.int .i64 p1] (bT 2 2 B (bJ 8 6 [1,2,7] 13 (bp 8 7 (bP 3 B.procs (bq 2)) (bq 6)) λu=>aZ))
def qb(B:Var)(D:U'):aY X':=some (toList B.name==toList D)
instance QN(B:Var)(D:U'):Fc Sy cL (qb B D):=Fc.M 173 [enc B,.fptr (cells D)] (aZ)
def s8(D:Z4)(p1:Int)(B:U'):aY X':=(idx D.procs p1).bind λu=>(iL u.vars (λz=>qb z B)).bind λw=>some w
instance VN(D:Z4)(p1:Int)(B:U'):Fc Sy cL (s8 D p1 B):=Fc.M 144 [enc D,.int .i64 p1,.str B] (bT 2 3 D (bB 9 λu _=>b9 (F:=rQ 173 [.fptr (cells B)] (λz=>qb z B) mI.sY u.vars) 3 λw _=>aZ))
def lP(B:T')(D:Z4):aY X':=bg (B.kind==2) ((lR D B.proc).bind λC=>(bg C (some (B.peer==0)) (some false):aY X').bind λG=>(bg G ((s8 D B.proc B.name).bind λI=>some I) (some false):aY X').bind λJ=>some J) (bg (B.kind==3) ((lR D B.proc).bind λL=>(bg L (some (B.peer==0)) (some false):aY X').bind λO=>(bg O (some (toList B.name==toList ByteArray.empty)) (some false):aY X').bind λQ=>some Q) (bg (B.kind==4) ((lR D B.proc).bind λS=>(bg S ((lR D B.peer).bind λT=>some T) (some false):aY X').bind λu=>(bg u (some (!(B.proc==B.peer))) (some false):aY X').bind λw=>(bg w (some (toList B.name==toList ByteArray.empty)) (some false):aY X').bind λz=>some z) (some true)))
instance MY(B:T')(D:Z4):Fc Sy cL (lP B D):=Fc.M 142 [enc B,.fptr (cells D)] (bT 2 2 B (bp 17 6 (bt 6 λC _=>bJ 1 4 [12] 16 (bp 1 12 (bq 4) (bq 4)) λG=>bJ 1 7 [1,2,17] 24 (bp 1 17 (bt 5 λI _=>bq 1) (bq 7)) λJ=>aZ) (bp 7 25 (bt 6 λL _=>bJ 1 4 [31] 35 (bp 1 31 (bq 4) (bq 4)) λO=>bJ 1 4 [2,36] 40 (bp 1 36 (bq 4) (bq 4)) λQ=>aZ) (bp 7 41 (bt 6 λS _=>bJ 1 5 [1,47] 52 (bp 1 47 (bt 3 λT _=>bq 1) (bq 5)) λu=>bJ 1 6 [53] 59 (bp 1 53 (bq 6) (bq 6)) λw=>bJ 1 4 [2,60] 64 (bp 1 60 (bq 4) (bq 4)) λz=>aZ) aZ))))
def uC(B:T')(p1:T'->aY X')(r:T'->aY X'):aY X':=(r B).bind λu=>some (!u)
abbrev Cn(g1:FuncId)(e1:aX V)(p1:Pred->aY Bool)(b:mI Sy cL g1 [] e1 (λz:Pred=>[enc z]) (λr:Bool=>[.bool r]) p1 true)(r:Pred->aY Bool)(a:eV Sy cL 117 (λz:Pred=>[enc z,.clo g1 [] e1]) (λr:Bool=>[.bool r]) r true)(B:Pred):Fc Sy cL (uC B p1 r):=Fc.M 151 [enc B,.fptr [.clo g1 [] e1]] (bT 2 2 B (bt (F:=Fc.of B a) 7 λu _=>aZ))
def kq(D:T')(p1:T'->aY X')(r:T'->aY X'):aY X':=(p1 D).bind λw=>(bg w ((Br D.l (λx u=>((λz=>uC z p1 r) x).map λb=>(b,u)) ()).bind λB=>some (!B.1)) (some false):aY X').bind λC=>some C
theorem B9(g1:Y')(e1:So)(p1:T'->aY X')(a:mI Sy cL g1 [] e1 (λz:T'=>[enc z]) (λr:X'=>[.bool r]) p1 true)(r:T'->aY X')(b:eV Sy cL 117 (λz:T'=>[enc z,.clo g1 [] e1]) (λr:X'=>[.bool r]) r true)(B:T'):Le ((kq B p1 r).bind λr=>some [.bool r]) (gZ cL 117 [enc B,.clo g1 [] e1]):=(Fc.M 117 [enc B,.clo g1 [] e1] (bT 2 2 B (zA 8 a.f B λw _=>wM 1 6 [] (λu=>(bE [Bv 14 u] [Xb 2 B])) (bp 1 8 (dN 2 10 (Pred.fe B.l) (vg 2 (nv (zK.ofP (g:=151) (e:=[.fptr [.clo g1 [] e1]]) (p:=(λz=>uC z p1 r)) (mI.sY (F:=λz=>Cn g1 e1 p1 a r b z))) B.l ()) λC _=>bq 2)) (bq 7)) λu=>aZ)):Fc Sy cL (kq B p1 r)).F.h ()
def o4(B:T')(p1:T'->aY X'):aY X':=dI (λr(z:T')=>kq z p1 r) 100000 B
abbrev vj(g1:FuncId)(e1:aX V)(p1:Pred->aY Bool)(a:mI Sy cL g1 [] e1 (λz:Pred=>[enc z]) (λr:Bool=>[.bool r]) p1 true)(B:Pred):Fc Sy cL (o4 B p1):=Fc.of B (eV.fix (A:=λz:Pred=>[enc z,.clo g1 [] e1]) (E:=λr:Bool=>[.bool r]) (sc:=true) (b:=(λr(z:Pred)=>kq z p1 r)) Zae (λ_ _=>rfl) (λr c z=>B9 g1 e1 p1 a r c z) 100000)
def p_(B:Z4)(p1:T'):aY X':=(o4 p1 (λz=>lP z B)).bind λu=>some u
instance QS(B:Z4)(p1:T'):Fc Sy cL (p_ B p1):=Fc.M 113 [enc B,enc p1] (bT 2 2 B (bT 0 3 p1 (b9 (F:=vj 142 [.fptr (cells B)] (λz=>lP z B) mI.sY p1) 7 λu _=>aZ)))
def m_(B:Int):Ps:=bg (decide (B<=8)) (some 1) (some 2)
instance Td(B:Int):Fc Sy cL (m_ B):=Fc.M 147 [.int .i64 B] (bp 12 4 aZ aZ)
def t_(B:Int):Ps:=bg (decide (B<=12)) (some 1) (some 2)
instance Wz(B:Int):Fc Sy cL (t_ B):=Fc.M 148 [.int .i64 B] (bp 12 4 aZ aZ)
def nX(B D:T'):aY X':=(m_ B.kind).bind λu=>(t_ D.kind).bind λw=>some (!(u==w))
instance M3(B D:T'):Fc Sy cL (nX B D):=Fc.M 146 [enc B,.fptr (cells D)] (bT 2 2 B (b9 7 λu _=>b9 2 λw _=>aZ))
def j8(B:T'):aY X':=(Br B.l (λx u=>((λz=>nX z B) x).map λb=>(b,u)) ()).bind λw=>some (!w.1)
instance QH(B:T'):Fc Sy cL (j8 B):=Fc.M 145 [enc B] (bT 2 1 B (dN 7 4 (Pred.fe B.l) (vg 2 (nv (zK.ofP (g:=146) (e:=[.fptr (cells B)]) (p:=(λz=>nX z B)) mI.sY) B.l ()) λu _=>aZ)))
def qE(B:T'):aY X':=(o4 B (λz=>j8 z)).bind λu=>some u
instance Uo(B:T'):Fc Sy cL (qE B):=Fc.M 114 [enc B] (bT 2 1 B (bt (F:=vj 145 [] (λz=>j8 z) mI.sY B) 6 λu _=>aZ))
namespace dB
def bF(D:Zg)(B i4:Int):aY (Fw (Int×Int) Int Empty):=bg (decide (i4<(len D))) ((idx D i4).bind λu=>some (.n ((if u<B then u else B),wrap .i64 (i4+1)))) (some (.x B))
def W2(B:Zg)(D i4:Int):Ps:=(bG (λq:Int×Int=>bF B q.1 q.2) (D,i4)).bind (Fw.elim (λe=>some e) (λe=>elim e))
def J1(B:Zg):Ps:=(idx B 0).bind λu=>dB.W2 B u 1
end dB
def dB(B:Zg):Ps:=bg (decide ((len B)<1)) (none) (dB.J1 B)
open dB in
instance UJ(B:Zg):Fc Sy cL (dB B):=Fc.M 66 [enc B] (bP 9 B (bp 3 7 ((Le.none _)) (qD 4 (bB 3 λz _=>eo 12 (λu=>(bE [Cv 0 B,Iv 3 u.1,Iv 4 u.2] [])) (λw=>(0,(bE [Iv 3 w] []))) (λu=>bP 6 B (bp 3 15 (bB 9 λC _=>aZ) aZ)) (λw=>aZ)))))
namespace dD
def bF(D:Zg)(B i4:Int):aY (Fw (Int×Int) Int Empty):=bg (decide (i4<(len D))) ((idx D i4).bind λu=>some (.n ((if u>B then u else B),wrap .i64 (i4+1)))) (some (.x B))
def W2(B:Zg)(D i4:Int):Ps:=(bG (λq:Int×Int=>bF B q.1 q.2) (D,i4)).bind (Fw.elim (λe=>some e) (λe=>elim e))
def J1(B:Zg):Ps:=(idx B 0).bind λu=>dD.W2 B u 1
end dD
def dD(B:Zg):Ps:=bg (decide ((len B)<1)) (none) (dD.J1 B)
open dD in
instance Un(B:Zg):Fc Sy cL (dD B):=Fc.M 67 [enc B] (bP 9 B (bp 3 7 ((Le.none _)) (qD 4 (bB 3 λz _=>eo 12 (λu=>(bE [Cv 0 B,Iv 3 u.1,Iv 4 u.2] [])) (λw=>(0,(bE [Iv 3 w] []))) (λu=>bP 6 B (bp 3 15 (bB 9 λC _=>aZ) aZ)) (λw=>aZ)))))
def nF(B:Zg):aY bV:=(dB B).bind λu=>(dD B).bind λw=>some ⟨u,w⟩
instance Wq(B:Zg):Fc Sy cL (nF B):=Fc.M 176 [enc B] (bt 8 λu _=>bt 1 λw _=>aZ)
namespace fR
def bh(U:Int)(D:Sl WF)(G:Int)(J B:Int):aY (Fw (Int×Int) Int Empty):=bg (decide (B<G)) ((idx D B).bind λu=>(bg (u.kind==2) (some (u.peer==U)) (some false):aY X').bind λw=>bg w (some (.n (wrap .i64 (J+1),wrap .i64 (B+1)))) (some (.n (J,wrap .i64 (B+1))))) (some (.x J))
def W1(J U:Int)(B:Sl WF)(D G:Int):Ps:=(bG (λq:Int×Int=>bh J B D q.1 q.2) (U,G)).bind (Fw.elim (λe=>some e) (λe=>elim e))
end fR
def fR(B:Z4)(p1 D:Int):Ps:=(idx B.procs p1).bind λu=>fR.W1 D 0 u.events (len u.events) 0
open fR in
instance QK(B:Z4)(p1 D:Int):Fc Sy cL (fR B p1 D):=Fc.M 198 [enc B,.int .i64 p1,.int .i64 D] (bT 2 3 B (bB 14 λu _=>bP 2 u.events (eo 5 (λw=>(bE [Iv 2 D,Iv 7 w.1,Cv 15 u.events,Iv 16 (len u.events),Iv 17 w.2] [])) (λz=>(0,(bE [Iv 7 z] []))) (λw=>bp 7 18 (bB 7 λC _=>pz 2 9 0 C (bJ 8 5 [9,24] 29 (bp 8 24 (bq 5) (bq 5)) λG=>bp 2 29 aZ aZ)) aZ) (λz=>aZ))))
def qg(B:Var)(D:U'):aY X':=some (toList B.name==toList D)
instance QJ(B:Var)(D:U'):Fc Sy cL (qg B D):=Fc.M 227 [enc B,.fptr (cells D)] (aZ)
def vN(D:bS)(B:U'):Ps:=(fU D.vars (λz=>qg z B)).bind λu=>some u
instance Vu(D:bS)(B:U'):Fc Sy cL (vN D B):=Fc.M 225 [enc D,.str B] (bT 2 2 D (b9 (F:=pQ 227 [.fptr (cells B)] (λz=>qg z B) mI.sY D.vars) 9 λu _=>aZ))
def ue(D:Z4)(p1:Int)(B:U'):aY (Int×Int):=(cZ D).bind λw=>bg w ((bg (decide (p1<0)) (some true) (some (decide (p1>=(len D.procs)))):aY X').bind λz=>bg z (some (0,2)) ((idx D.procs p1).bind λC=>(vN C B).bind λu=>bg (decide (u<0)) (some (0,13)) (some (u,0)))) (some (0,1))
instance Wb(D:Z4)(p1:Int)(B:U'):Fc Sy cL (ue D p1 B):=Fc.M 218 [enc D,.int .i64 p1,.str B] (bT 2 3 D (bt 9 λu _=>cz 4 9 (bJ 6 6 [16] 22 (bp 6 16 (bq 6) (bP 3 D.procs (bq 2))) λw=>bp 3 13 aZ (bB 9 λz _=>bt 2 λC _=>bp 10 31 aZ aZ)) aZ))
def eu(s0:Zg):aY Zg:=(Sl.isNil s0).bind λu=>bg u (some Sl.nil) ((pO (Sl.row []:Zg) s0).bind λw=>some w)
theorem iw:C6 Sy cL 27 (λs0:Zg=>[enc s0]) (λz=>eu z):=C6.mk' (tF (Tx 27)) (λs0=>ED 9 λu _=>bp 2 4 aZ (AS 7 5 7 λw _=>aZ))
def pJ(B:bS):aY bS:=some B
instance To(B:bS):Fc Sy cL (pJ B):=Fc.NE (λr:bS=>[(.clo 178 [] [.fptr (cells r)])]) 152 [enc B] (bT 2 1 B aZ)
namespace gQ
def lF(D:bS)(G:Int)(x:Int×(Zg))(B:Zg):aY (Fw Zg Empty Empty):=(idx x.2 G).bind λu=>(fF B (u:Int)).bind λw=>some (.n w)
def E1(B:bS)(G:Int)(D:Zg):aY Zg:=(kA B).bind λu=>(mm (λ(x:Int×(Zg))(q:Zg)=>lF B G x q) u D).bind (Fw.tj (λq=>some q) (λe=>elim e) (λe=>elim e))
end gQ
def gQ(B:bS)(i1:Int):aY Zg:=(pJ B).bind λu=>gQ.E1 u i1 (Sl.nil:Zg)
open gQ in
instance Tm(D:bS)(i1:Int):Fc Sy cL (gQ D i1):=Fc.N 219 [enc D,.int .i64 i1] (bT 2 2 D (bt 13 λz _=>HG λC B=>DW 5 [Pv 3,Pv 5,(9,.v (.clo 178 [] [.fptr (cells z)]))] (λu=>[(3,.box [iv i1]),(5,.box [.own 4100]),Lb 4100 u]) (λw=>elim w) (λw=>elim w) (IV z C B) (λG u=>Ay 3 (bB 7 λI _=>ny 2 4100 17 18 λJ _=>aZ)) (λu=>aZ) (λx=>elim x) (λx=>elim x)))
def tq(G:Z4)(p1:Int)(B:U'):aY (Int×Int×Int):=(ue G p1 B).bind λu=>bg (u.2==0) ((idx G.procs p1).bind λz=>(gQ z u.1).bind λw=>(dB w).bind λC=>(dD w).bind λD=>some (C,D,0)) (some (0,0,u.2))
instance VH(D:Z4)(p1:Int)(B:U'):Fc Sy cL (tq D p1 B):=Fc.M 199 [enc D,.int .i64 p1,.str B] (bT 2 3 D (bt 10 λu _=>cz 14 19 (bB 8 λw _=>bt 2 λz _=>bt 6 λC _=>bt 1 λG _=>aZ) aZ))
def nD(B:Z4)(p1:T'):aY bV:=bg (p1.kind==1) ((nF (Sl.row [p1.n]:Zg)).bind λw=>some w) (bg (p1.kind==3) ((idx B.procs p1.proc).bind λz=>some ⟨0,len z.events⟩) (bg (p1.kind==4) ((fR B p1.proc p1.peer).bind λC=>some ⟨0,C⟩) ((tq B p1.proc p1.name).bind λu=>some ⟨u.1,u.2.1⟩)))
instance Wv(B:Z4)(p1:T'):Fc Sy cL (nD B p1):=Fc.M 174 [enc B,enc p1] (bT 2 2 B (bT 0 3 p1 (bp 17 10 (b9 6 λw _=>aZ) (bp 7 16 (bB 7 λu _=>bP 2 u.events aZ) (bp 7 27 (bt 8 λz _=>aZ) (bt 11 λC _=>aZ))))))
def jZ(B:bV):aY X':=(bg (decide (B.low<(-1125899906842624))) (some true) (some (decide (B.high>1125899906842624))):aY X').bind λu=>some u
instance JX(B:bV):Fc Sy cL (jZ B):=Fc.M 175 [enc B] (bJ 12 4 [1,6] 10 (bp 12 6 (bq 4) (bq 4)) λu=>aZ)
def vu(a0:Int):Ps:=some (if(wrap .i64 (0-a0))>a0 then(wrap .i64 (0-a0))else a0)
instance Xd(a0:Int):Fc Sy cL (vu a0):=Fc.M 200 [.int .i64 a0] (aZ)
def kY(a0 B:Int):Ps:=(bg (a0==0) (some true) (some (B==0)):aY X').bind λu=>bg u (some 0) ((vu a0).bind λw=>(vu B).bind λz=>(BC .i64 1125899906842624 z).bind λC=>bg (decide (w>C)) (bg ((decide (a0<0))==(decide (B<0))) (some 1125899906842625) (some (wrap .i64 (0-1125899906842625)))) (some (wrap .i64 (a0*B))))
instance RI(a0 B:Int):Fc Sy cL (kY a0 B):=Fc.M 177 [.int .i64 a0,.int .i64 B] (bJ 11 3 [8] 11 (bp 11 8 (bq 3) (bq 3)) λu=>bp 2 11 aZ (bt 15 λw _=>bt 1 λz _=>abb 0 λC _=>bp 3 20 (cz 15 25 aZ aZ) aZ))
namespace dL
def J2(D B:bV)(r:(Z4×T')->aY (bV×X')):aY (bV×X'):=(jZ B).bind λu=>some (B,(!u))
def J1(W U:X')(J:T')(G B D:bV)(r:(Z4×T')->aY (bV×X')):aY (bV×X'):=(bg W (some (!U)) (some true):aY X').bind λC=>bg C (some (⟨0,0⟩,false)) (bg (J.kind==5) (dL.J2 G (⟨wrap .i64 (0-B.high),wrap .i64 (0-B.low)⟩:bV) r) (bg (J.kind==6) (dL.J2 G (⟨wrap .i64 (B.low+D.low),wrap .i64 (B.high+D.high)⟩:bV) r) (bg (J.kind==7) (dL.J2 G (⟨wrap .i64 (B.low-D.high),wrap .i64 (B.high-D.low)⟩:bV) r) ((kY B.low D.low).bind λI=>(kY B.low D.high).bind λL=>(kY B.high D.low).bind λu=>(kY B.high D.high).bind λw=>(nF (Sl.row [I,L,u,w]:Zg)).bind λz=>dL.J2 G z r))))
theorem nh(r:(Z4×T')->aY (bV×X'))(a:eV Sy cL 149 (λz:Z4×T'=>[enc z.1,enc z.2]) (λr:bV×X'=>[enc r.1,.bool r.2]) r true)(D B:X')(G:T')(J U W:bV):Le ((J1 D B G J U W r).bind (λr=>some [enc r.1,.bool r.2])) (b7 Sy cL (p8 (tr Tx 149)) (rM (tb Tx 149) [1,1,1,1,1,0] [] (bE [Pv 3,Pv 4,Pv 7,Bv 8 D,Pv 9,Bv 10 B] [Xb 3 G,Xb 4 J,Xb 7 U,Xb 9 W]))):=bJ 6 3 [10,48] 51 (cz 6 48 (bq 3) (bq 3)) λQ=>bp 2 51 aZ (bp 22 77 (qD 14 (b9 4 λu _=>aZ)) (bp 7 86 (qD 18 (b9 4 λu _=>aZ)) (bp 7 99 (qD 18 (b9 4 λu _=>aZ)) (b9 6 λI _=>b9 4 λL _=>b9 4 λw _=>b9 4 λC _=>abd 0 ([I,L,w,C]:Rd) (.buildC 1 4 [.int .i64 0] [0,1,2,3]) [iv I,iv L,iv w,iv C] (b9 0 λO _=>qD 5 (b9 4 λu _=>aZ))))))
end dL
def ig(B:Z4)(p1:T')(r:(Z4×T')->aY (bV×X')):aY (bV×X'):=bg ((len p1.l)==0) ((nD B p1).bind λw=>(jZ w).bind λC=>some (w,(!C))) ((idx p1.l 0).bind λD=>(r (B,D)).bind λu=>bg ((len p1.l)==2) ((idx p1.l 1).bind λG=>(r (B,G)).bind λz=>dL.J1 u.2 z.2 p1 (⟨0,0⟩:bV) u.1 z.1 r) (dL.J1 u.2 true p1 (⟨0,0⟩:bV) u.1 u.1 r))
open dL in
theorem Bg(r:(Z4×T')->aY (bV×X'))(a:eV Sy cL 149 (λz:Z4×T'=>[enc z.1,enc z.2]) (λr:bV×X'=>[enc r.1,.bool r.2]) r true)(B:Z4)(p1:T'):Le ((ig B p1 r).bind λr=>some [enc r.1,.bool r.2]) (gZ cL 149 [enc B,enc p1]):=(Fc.M 149 [enc B,enc p1] (bT 2 2 B (bT 0 3 p1 (dN 9 13 (Pred.fe p1.l) (bP 0 p1.l (bp 3 15 (bt 5 λG _=>b9 8 λI _=>aZ) (dN 8 26 (Pred.fe p1.l) (bB 0 λC _=>b9 (F:=Fc.of (B,C) a) 1 λu _=>dN 21 34 (Pred.fe p1.l) (bP 0 p1.l (bp 3 36 (dN 5 40 (Pred.fe p1.l) (bB 0 λD _=>b9 (F:=Fc.of (B,D) a) 1 λw _=>nL 8 (nh r a u.2 w.2 p1 (⟨0,0⟩:bV) u.1 w.1))) (nL 4 (nh r a u.2 true p1 (⟨0,0⟩:bV) u.1 u.1))))))))))):Fc Sy cL (ig B p1 r)).F.h ()
def dL(B:Z4)(p1:T'):aY (bV×X'):=dI (λr(z:Z4×T')=>ig z.1 z.2 r) 100000 (B,p1)
instance Ti(B:Z4)(p1:T'):Fc Sy cL (dL B p1):=Fc.of (B,p1) (eV.fix (A:=λz:Z4×T'=>[enc z.1,enc z.2]) (E:=λr:bV×X'=>[enc r.1,.bool r.2]) (sc:=true) (b:=(λr(z:Z4×T')=>ig z.1 z.2 r)) Zae (λ_ _=>rfl) (λr a z=>Bg r a z.1 z.2) 100000)
def qd(B:T')(D:Z4)(r:(Z4×T')->aY X'):aY X':=(r (D,B)).bind λu=>some (!u)
abbrev BT(r:(Trace×Pred)->aY Bool)(a:eV Sy cL 115 (λz:Trace×Pred=>[enc z.1,enc z.2]) (λr:Bool=>[.bool r]) r true)(B:Pred)(D:Trace):Fc Sy cL (qd B D r):=Fc.M 150 [enc B,.fptr (cells D)] (bT 2 2 B (bt (F:=Fc.of (D,B) a) 7 λu _=>aZ))
def iN(D:Z4)(p1:T')(r:(Z4×T')->aY X'):aY X':=(m_ p1.kind).bind λw=>bg (w==1) ((dL D p1).bind λB=>some B.2) ((Br p1.l (λx u=>((λz=>qd z D r) x).map λb=>(b,u)) ()).bind λC=>some (!C.1))
theorem BS(r:(Z4×T')->aY X')(a:eV Sy cL 115 (λz:Z4×T'=>[enc z.1,enc z.2]) (λr:X'=>[.bool r]) r true)(B:Z4)(p1:T'):Le ((iN B p1 r).bind λr=>some [.bool r]) (gZ cL 115 [enc B,enc p1]):=(Fc.M 115 [enc B,enc p1] (bT 2 2 B (bT 0 3 p1 (bt 8 λu _=>bp 3 10 (bt 5 λw _=>aZ) (dN 7 19 (Pred.fe p1.l) (vg 2 (nv (zK.ofP (g:=150) (e:=[.fptr (cells B)]) (p:=(λz=>qd z B r)) (mI.sY (F:=λz=>BT r a z B))) p1.l ()) λC _=>aZ))))):Fc Sy cL (iN B p1 r)).F.h ()
def wo(B:Z4)(p1:T'):aY X':=dI (λr(z:Z4×T')=>iN z.1 z.2 r) 100000 (B,p1)
instance Vo(B:Z4)(p1:T'):Fc Sy cL (wo B p1):=Fc.of (B,p1) (eV.fix (A:=λz:Z4×T'=>[enc z.1,enc z.2]) (E:=λr:X'=>[.bool r]) (sc:=true) (b:=(λr(z:Z4×T')=>iN z.1 z.2 r)) Zae (λ_ _=>rfl) (λr a z=>BS r a z.1 z.2) 100000)
def tw(B:Z4)(p1:T'):Ps:=(cZ B).bind λu=>(bg u ((nj p1).bind λw=>some (!w)) (some true):aY X').bind λz=>bg z (some 1) ((p_ B p1).bind λC=>bg C ((qE p1).bind λD=>bg D ((wo B p1).bind λG=>bg G (some 0) (some 9)) (some 14)) (some 13))
instance Uv(B:Z4)(p1:T'):Fc Sy cL (tw B p1):=Fc.M 88 [enc B,enc p1] (bT 2 2 B (bT 0 3 p1 (bt 8 λu _=>bJ 2 4 [9] 13 (cz 2 9 (bt 1 λw _=>bq 2) (bq 4)) λz=>bp 3 5 aZ (bt 5 λC _=>cz 4 14 (bt 4 λD _=>cz 4 19 (bt 5 λG _=>cz 4 23 aZ aZ) aZ) aZ))))
def uc(B:T'):aY (Int×Int):=(nj B).bind λu=>bg u ((qE B).bind λw=>bg w ((m_ B.kind).bind λz=>some (z,0)) (some (0,14))) (some (0,1))
instance WV(B:T'):Fc Sy cL (uc B):=Fc.M 116 [enc B] (bT 2 1 B (bt 9 λu _=>cz 4 4 (bt 4 λw _=>cz 4 8 (bt 8 λz _=>aZ) aZ) aZ))
def we(D:T')(B:Int):Ps:=(uc D).bind λu=>(bg (u.2==0) (some (!(u.1==B))) (some true):aY X').bind λw=>bg w (some 14) (some 0)
instance T_(D:T')(B:Int):Fc Sy cL (we D B):=Fc.M 89 [enc D,.int .i64 B] (bT 2 2 D (bt 7 λu _=>bJ 12 4 [1,5,14] 18 (cz 12 14 (bq 4) (bq 4)) λw=>bp 2 18 aZ aZ))
def tI(B:Int):aY X':=(bg (decide (B>=18)) (some (decide (B<=21))) (some false):aY X').bind λu=>some u
instance QT(B:Int):Fc Sy cL (tI B):=Fc.M 119 [.int .i64 B] (bJ 10 3 [0,5] 8 (bp 10 5 (bq 3) (bq 3)) λu=>aZ)
def nU(B:T'):aY X':=(tI B.kind).bind λu=>some (!u)
instance Nq(B:T'):Fc Sy cL (nU B):=Fc.M 118 [enc B] (bT 2 1 B (bt 7 λu _=>aZ))
def qf(D:T'):aY X':=(nj D).bind λu=>(bg u ((o4 D (λz=>nU z)).bind λw=>some (!w)) (some false):aY X').bind λB=>some B
instance QI(B:T'):Fc Sy cL (qf B):=Fc.M 90 [enc B] (bT 2 1 B (bt 6 λu _=>bJ 1 4 [1,5] 9 (bp 1 5 (bt (F:=vj 118 [] (λz=>nU z) mI.sY B) 1 λw _=>bq 2) (bq 4)) λC=>aZ))
namespace jq
def lF(D:Z4)(B G:Int)(J:bf)(U:X')(x:bf×WF):aY (Fw Unit Empty bf):=(bg (x.2.kind==B) (some (x.2.message==G)) (some false):aY X').bind λu=>bg u (some (.r x.1)) (some (.n ()))
def E1(B:Z4)(D G:Int)(J:bf)(U:X'):aY (bf×X'):=(kB B).bind λu=>(mm (λ(x:bf×WF)(q:Unit)=>lF B D G J U x) u ()).bind (Fw.tj (λq=>some (⟨0,0⟩,false)) (λe=>elim e) (λe=>some (e,true)))
end jq
def jq(D:Z4)(B G:Int):aY (bf×X'):=(cZ D).bind λu=>bg u ((kM D).bind λw=>jq.E1 w B G (⟨0,0⟩:bf) false) (some (⟨0,0⟩,false))
open jq in
instance abc(G:Z4)(B D:Int):Fc Sy cL (jq G B D):=Fc.M 136 [enc G,.int .i64 B,.int .i64 D] (bT 2 3 G (bt 10 λL _=>cz 3 12 (bt 7 λw _=>HG λI z=>DW 4 [Pv 4,Pv 5,Pv 6,Pv 7,(15,.v (.clo 192 [] [.fptr (cells w)]))] (λC=>[(4,.box [iv B]),(5,.box [iv D]),Xb 6 (⟨0,0⟩:bf),(7,.box [bv false])]) (λu=>elim u) (λu=>[(4,.box [iv B]),(5,.box [iv D]),Xb 6 u,(7,.box [bv true])]) (BF w I z) (λJ C=>pz 8 9 0 J.2 (Ay 1 (bJ 9 5 [9,22] 27 (bp 9 22 (bq 5) (bq 5)) λO=>bp 2 27 aZ aZ))) (λC=>aZ) (λx=>elim x) (λu=>aZ)) aZ))
def sy(B:Z4)(m1:Int):aY (bf×X'):=(jq B 2 m1).bind λu=>some (u.1,u.2)
instance Zc(B:Z4)(m1:Int):Fc Sy cL (sy B m1):=Fc.M 106 [enc B,.int .i64 m1] (bT 2 2 B (bt 8 λu _=>aZ))
namespace lY
def J3(B:Sl bf)(W:Sl bS)(Y a:Int)(b:Sl WF)(c G:Int)(J:Z4)(d U:cu)(e:bS)(D:bf):aY (Fw ((Sl bf)×Int×Z4×cu×cu) ((Sl bf)×Z4×cu) Empty):=(fF B (D:bf)).bind λu=>some (.n (u,wrap .i64 (G+1),J,(⟨Sl.nil,Sl.nil⟩:cu),U))
def bF(Y:Sl bS)(a b:Int)(J:Sl WF)(U:Int)(c:bS)(B:Sl bf)(D:Int)(G:Z4)(d W:cu):aY (Fw ((Sl bf)×Int×Z4×cu×cu) ((Sl bf)×Z4×cu) Empty):=bg (decide (D<U)) ((idx J D).bind λu=>bg (u.kind==3) ((sy G u.message).bind λw=>J3 B Y a b J U D G (⟨Sl.nil,Sl.nil⟩:cu) W c w.1) (J3 B Y a b J U D G (⟨Sl.nil,Sl.nil⟩:cu) W c (⟨0,0⟩:bf))) (some (.x (B,G,W)))
def W2(B:Sl bf)(J:Sl bS)(U D:Int)(W:Sl WF)(Y a:Int)(b:Z4)(c d:cu)(G:bS):aY (Fw (Int×Z4×cu×cu) cu Empty):=(bG (λq:(Sl bf)×Int×Z4×cu×cu=>bF J U D W Y G q.1 q.2.1 q.2.2.1 q.2.2.2.1 q.2.2.2.2) (B,a,b,c,d)).bind (Fw.elim (λe=>(fF e.2.2.lengths (len G.events:Int)).bind λu=>(fF e.2.2.need (e.1:Sl bf)).bind λw=>some (.n (wrap .i64 (D+1),e.2.1,(⟨Sl.nil,Sl.nil⟩:cu),(⟨u,w⟩:cu)))) (λe=>elim e))
def bh(D:Sl bS)(G:Int)(B:Int)(U:Z4)(W J:cu):aY (Fw (Int×Z4×cu×cu) cu Empty):=bg (decide (B<G)) ((idx D B).bind λu=>W2 (Sl.nil:Sl bf) D G B u.events (len u.events) 0 U (⟨Sl.nil,Sl.nil⟩:cu) J u) (some (.x J))
def W1(B:Sl bS)(D G:Int)(J:Z4)(U W:cu):aY cu:=(bG (λq:Int×Z4×cu×cu=>bh B D q.1 q.2.1 q.2.2.1 q.2.2.2) (G,J,U,W)).bind (Fw.elim (λe=>some e) (λe=>elim e))
end lY
def lY(B:Z4):aY cu:=lY.W1 B.procs (len B.procs) 0 B (⟨Sl.nil,Sl.nil⟩:cu) (⟨Sl.nil,Sl.nil⟩:cu)
open lY in
instance acZ(D:Z4):Fc Sy cL (lY D):=Fc.N 123 [enc D] (bT 2 1 D (bP 13 D.procs (eo 7 (λu=>(bE [Pv 1,Pv 2,Pv 3,Cv 11 D.procs,Iv 12 (len D.procs),Iv 13 u.1] [Xb 1 u.2.1,Xb 2 (⟨Sl.nil,Sl.nil⟩:cu),(3,.box [.own 4060,.own 4061]),Lb 4060 u.2.2.2.lengths,Lb 4061 u.2.2.2.need])) (λC=>(0,(bE [Pv 2,Pv 3] [Xb 2 (⟨Sl.nil,Sl.nil⟩:cu),(3,.box [.own 4060,.own 4061]),Lb 4060 C.lengths,Lb 4061 C.need]))) (λu=>bp 9 14 (bB 7 λw _=>pz 2 5 0 w (bP 12 w.events (eo 8 (λz=>(bE [Pv 1,Pv 2,Pv 3,Pv 5,Ov 6,Cv 11 D.procs,Iv 12 (len D.procs),Iv 13 u.1,Cv 18 w.events,Iv 19 (len w.events),Iv 20 z.2.1] [Xb 1 z.2.2.1,Xb 2 (⟨Sl.nil,Sl.nil⟩:cu),(3,.box [.own 4060,.own 4061]),Xb 5 w,Lb 2006 z.1,Lb 4060 z.2.2.2.2.lengths,Lb 4061 z.2.2.2.2.need])) (λB=>(2,(bE [Pv 1,Pv 2,Pv 3,Pv 5,Ov 6,Cv 11 D.procs,Iv 12 (len D.procs),Iv 13 u.1] [Xb 1 B.2.1,Xb 2 (⟨Sl.nil,Sl.nil⟩:cu),(3,.box [.own 4060,.own 4061]),Xb 5 w,Lb 2006 B.1,Lb 4060 B.2.2.lengths,Lb 4061 B.2.2.need]))) (λz=>bp 10 21 (bB 7 λG _=>pz 2 8 0 G (bp 15 26 (bt 5 λJ _=>qD 10 (ny 4 2006 36 37 λI _=>aZ)) (qD 7 (ny 4 2006 36 37 λI _=>aZ)))) aZ) (λB=>bP 8 w.events (ny 1 4060 44 45 λL _=>zH 9 50 ([B.1]:aX (Sl bf)) (ny 0 4061 50 51 λO _=>aZ)))))) aZ) (λC=>pz 7 2 0 C aZ))))
def qP(J:cu)(B:Zg)(p2:Int):aY X':=(idx B p2).bind λw=>(idx J.lengths p2).bind λz=>bg (w==z) (some false) ((idx J.need p2).bind λC=>(idx B p2).bind λD=>(idx C D).bind λu=>(idx B u.proc).bind λG=>some (decide (u.index<=G)))
instance Q3(B:cu)(D:Zg)(p2:Int):Fc Sy cL (qP B D p2):=Fc.M 155 [enc B,enc D,.int .i64 p2] (bT 2 3 B (bB 8 λu _=>bB 4 λw _=>bp 4 17 aZ (bB 8 λz _=>bB 3 λC _=>bB 1 λG _=>bB 12 λI _=>aZ)))
def ua(B:Int):aY X':=some (!(B==B))
instance Wl(B:Int):Fc Sy cL (ua B):=Fc.M 212 [.int .i64 B] (aZ)
def rY(B D:Int):Ps:=(ua B).bind λw=>(ua D).bind λu=>bg w (bg u (some 0) (some (-1))) (bg u (some 1) (bg (decide (B<D)) (some (-1)) (bg (decide (B>D)) (some 1) (some 0))))
instance Ts(B D:Int):Fc Sy cL (rY B D):=Fc.M 184 [.int .i64 B,.int .i64 D] (bt 8 λu _=>bt 6 λw _=>bp 9 11 (bp 7 12 aZ aZ) (bp 9 13 aZ (bp 11 16 aZ (bp 11 19 aZ aZ))))
namespace fZ
def bh(J D U:Zg)(G:Int)(B:Int):aY (Fw Int Unit Int):=bg (decide (B<G)) ((idx U B).bind λw=>bg (decide (B>=(len D))) (some (.r 1)) ((idx D B).bind λz=>(rY w z).bind λu=>bg (u==0) (some (.n (wrap .i64 (B+1)))) (some (.r u)))) (some (.x ()))
def W1(B D U:Zg)(G J:Int):Ps:=(bG (λq:Int=>bh B D U G q) J).bind (Fw.elim (λe=>bg (decide ((len B)<(len D))) (some (-1)) (some 0)) (λe=>some e))
end fZ
def fZ(B D:Zg):Ps:=fZ.W1 B D B (len B) 0
open fZ in
instance P5(B D:Zg):Fc Sy cL (fZ B D):=Fc.M 158 [enc B,enc D] (bP 9 B (dx 5 (λw=>(bE [Cv 0 B,Cv 1 D,Cv 9 B,Iv 10 (len B),Iv 11 w] [])) (λu=>(0,(bE [Cv 0 B,Cv 1 D] []))) (λu=>(bE [Iv 4 u] [])) (λw=>bp 7 12 (bB 8 λz _=>bP 10 D (bp 3 19 aZ (bB 7 λC _=>bt 8 λG _=>cz 9 28 aZ aZ))) aZ) (λu=>bP 6 B (bP 1 D (bp 3 35 aZ aZ))) (λu=>aZ)))
def lp(a0 B:Zg):Ps:=(fZ a0 B).bind λu=>some u
instance OQ(a0 B:Zg):Fc Sy cL (lp a0 B):=Fc.M 157 [enc a0,enc B] (bt 9 λu _=>aZ)
namespace eZ
def bh(D G:Zg)(J:Int)(B:Int):aY (Fw Int Unit Unit):=bg (decide (B<J)) ((idx D B).bind λu=>(idx G B).bind λw=>bg (u==w) (some (.n (wrap .i64 (B+1)))) (some (.r ()))) (some (.x ()))
def W1(B D:Zg)(G J:Int):aY X':=(bG (λq:Int=>bh B D G q) J).bind (Fw.elim (λe=>some true) (λe=>some false))
end eZ
def eZ(B D:Zg):aY X':=bg ((len B)==(len D)) (eZ.W1 B D (len B) 0) (some false)
open eZ in
instance Sf(B D:Zg):Fc Sy cL (eZ B D):=Fc.M 10 [enc B,enc D] (bP 9 B (bP 1 D (cz 3 10 (bP 7 B (dx 5 (λw=>(bE [Cv 0 B,Cv 1 D,Iv 12 (len B),Iv 13 w] [])) (λu=>(0,(bE [] []))) (λu=>(bE [Bv 4 false] [])) (λw=>bp 7 14 (bB 15 λz _=>bB 3 λC _=>cz 4 24 aZ aZ) aZ) (λu=>aZ) (λu=>aZ))) aZ)))
def mZ(a0 B:Zg):aY X':=(eZ a0 B).bind λu=>some u
instance PW(a0 B:Zg):Fc Sy cL (mZ a0 B):=Fc.M 160 [enc a0,enc B] (bt 9 λu _=>aZ)
namespace eX
def bF(U:Zg)(W:Zb)(Y a G:Int)(J:cu)(D:Zb)(B:Int):aY (Fw ((Zb)×Int) Zb Empty):=bg (decide (B<G)) ((qP J U B).bind λw=>bg w (((eu U).bind Sl.whole).bind λu=>(Sl.jP u B).bind λz=>(Sl.get u z).bind λC=>(Sl.jP u B).bind λI=>(Sl.put u I (wrap .i64 (C+1):Int)).bind λL=>(fF D (L:Zg)).bind λO=>some (.n (O,wrap .i64 (B+1)))) (some (.n (D,wrap .i64 (B+1))))) (some (.x D))
def W2(B:Zb)(a:Zg)(J:Zb)(D G U W:Int)(Y:cu):aY (Fw ((Zb)×Int×Int) Zb Empty):=(bG (λq:(Zb)×Int=>bF a J D G U Y q.1 q.2) (B,W)).bind (Fw.elim (λe=>some (.n (e,D,wrap .i64 (G+1)))) (λe=>elim e))
def bh(G:Zb)(U:cu)(B:Zb)(J D:Int):aY (Fw ((Zb)×Int×Int) Zb Empty):=bg (decide (D<J)) ((idx G D).bind λu=>W2 B u G J D (len u) 0 U) (some (.x B))
def W1(B D:Zb)(G J:Int)(U:cu):aY Zb:=(bG (λq:(Zb)×Int×Int=>bh D U q.1 q.2.1 q.2.2) (B,G,J)).bind (Fw.elim (λe=>(A7 e lp).bind λw=>(An w mZ).bind λu=>some u) (λe=>elim e))
end eX
def eX(D:cu)(B:Zb):aY Zb:=eX.W1 (Sl.nil:Zb) B (len B) 0 D
open eX in
instance Tg(G:cu)(B:Zb):Fc Sy cL (eX G B):=Fc.N 124 [enc G,enc B] (bT 2 2 G (bP 12 B (eo 6 (λu=>(bE [Pv 2,Ov 5,Cv 10 B,Iv 11 u.2.1,Iv 12 u.2.2] [Xb 2 G,Lb 2005 u.1])) (λI=>(0,(bE [Ov 5] [Lb 2005 I]))) (λu=>bp 8 13 (bB 7 λw _=>bP 7 w (eo 6 (λC=>(bE [Pv 2,Ov 5,Cv 7 w,Cv 10 B,Iv 11 u.2.1,Iv 12 u.2.2,Iv 17 (len w),Iv 18 C.2] [Xb 2 G,Lb 2005 C.1])) (λJ=>(2,(bE [Pv 2,Ov 5,Cv 10 B,Iv 11 u.2.1,Iv 12 u.2.2] [Xb 2 G,Lb 2005 J]))) (λC=>bp 8 19 (bt 16 λQ _=>bp 2 24 (OY 4 26 iw w λS _=>jt .i64 7 26 λT _=>pT 0 26 0 1 false (λD=>.int .i64 D) λD _=>jt .i64 1 26 λU _=>Fu 0 26 (.int .i64 (wrap .i64 (D+1))) λL _=>zH 6 35 ([L]:aX Zg) (ny 0 2005 35 36 λW _=>aZ)) aZ) aZ) (λJ=>aZ))) aZ) (λI=>aby 5 2005 Ke DV Xi (eV.sY (λz=>inferInstanceAs (Fc Sy cL (lp z.1 z.2))) default (λ_=>rfl) (λ_=>rfl) (λ_=>rfl) (λ_=>rfl)) λX _=>acs 5 2005 42 Ke DV X7 (eV.sY (λz=>inferInstanceAs (Fc Sy cL (mZ z.1 z.2))) default (λ_=>rfl) (λ_=>rfl) (λ_=>rfl) (λ_=>rfl)) λO _=>aZ))))
namespace lK
def bh(J:cu)(B:Zb)(G:Sl Zb)(D:Int):aY (Fw ((Zb)×(Sl Zb)×Int) (Sl Zb) Unit):=bg (decide ((len B)>0)) (bg (decide ((wrap .i64 (D+(len B)))>5000)) (some (.r ())) ((fF G (B:Zb)).bind λu=>(eX J B).bind λw=>some (.n (w,u,wrap .i64 (D+(len B)))))) (some (.x G))
def W1(B:Zb)(G:Sl Zb)(D:Int)(J:cu):aY ((Sl Zb)×Int):=(bG (λq:(Zb)×(Sl Zb)×Int=>bh J q.1 q.2.1 q.2.2) (B,G,D)).bind (Fw.elim (λe=>some (e,0)) (λe=>some ((Sl.nil:Sl Zb),16)))
end lK
def lK(B:Z4):aY ((Sl Zb)×Int):=(cZ B).bind λu=>bg u ((lY B).bind λw=>(nR (len B.procs) (0:Int)).bind λz=>lK.W1 (Sl.row [z]:Zb) (Sl.nil:Sl Zb) 0 w) (some ((Sl.nil:Sl Zb),1))
open lK in
instance Zq(B:Z4):Fc Sy cL (lK B):=Fc.N 93 [enc B] (bT 2 1 B (bt 8 λD _=>cz 3 10 (bt 6 λz _=>pz 1 4 0 z (bP 6 B.procs (RX 0 16 λC _=>zH 1 17 ([C]:aX Zg) (dx 18 (λu=>(bE [Pv 4,Cv 5 u.1,Ov 6,Iv 7 u.2.2] [Xb 4 z,Lb 2006 u.2.1])) (λw=>(0,(bE [Ov 6] [Lb 2006 w]))) (λw=>(bE [Ov 2,Iv 3 16] [Lb 2002 (Sl.nil:Sl Zb)])) (λu=>bP 7 u.1 (bp 3 20 (bP 10 u.1 (bp 10 29 aZ (zH 6 32 ([u.1]:aX Zb) (ny 0 2006 32 33 λG _=>bt 7 λI _=>aZ)))) aZ)) (λw=>aZ) (λw=>aZ))))) aZ))
def gN(s:Sl Zb):aY Zb:=if s.l.length<=2147483648/\(s.l.flatMap Sl.l).length<=2147483648 then some (EH s)else none
instance O_(s:Sl Zb):Fc Sy cL (gN s):=Fc.of (A:=λz:Sl Zb=>[enc z]) (E:=λr:Zb=>[enc r]) (p:=gN) (n:=94) (z:=s) (eV.aaj Zae Zae (λz r h=>by
 unfold gN at h;split at h
 next a=>cases h;exact BW (Ym (E:=Sy.E) (N:=λn=>n) (gid:=125) (nm:=some) (λ_ _ h=>(Option.some.inj h).symm) rfl Zae Zae (Fs Zae) (Fs Zae) rfl z a.1 a.2)
 cases h))
def uQ(B:Z4):aY ((Zb)×Int):=(lK B).bind λu=>(gN u.1).bind λw=>some (w,u.2)
instance abn(B:Z4):Fc Sy cL (uQ B):=Fc.N 63 [enc B] (bT 2 1 B (bt 7 λu _=>bt 10 λw _=>aZ))
def oa(B:Z4):aY ((Zb)×Int):=(uQ B).bind λu=>some (u.1,u.2)
instance abo(B:Z4):Fc Sy cL (oa B):=Fc.N 40 [enc B] (bT 2 1 B (bt 7 λu _=>aZ))
def lQ(B:Zg)(D:Z4):aY X':=some (!((len B)==(len D.procs)))
instance Yu(B:Zg)(D:Z4):Fc Sy cL (lQ B D):=Fc.M 105 [enc B,.fptr (cells D)] (bP 8 B (bP 2 D.procs aZ))
namespace iF
def bh(s0:Zb)(D:Int)(B:Int)(p1:(Zg)->aY X'):aY (Fw Int Unit Int):=bg (decide (B<D)) ((idx s0 B).bind λu=>(p1 u).bind λw=>bg w (some (.r B)) (some (.n (wrap .i64 (B+1))))) (some (.x ()))
def W1(s0:Zb)(B D:Int)(p1:(Zg)->aY X'):Ps:=(bG (λq:Int=>bh s0 B q p1) D).bind (Fw.elim (λe=>some (-1)) (λe=>some e))
end iF
def iF(s0:Zb)(p1:(Zg)->aY X'):Ps:=iF.W1 s0 (len s0) 0 p1
open iF in
abbrev zp(g1:FuncId)(e1:aX V)(p1:(Sl Int)->aY Bool)(a:mI Sy cL g1 [] e1 (λz:Sl Int=>[enc z]) (λr:Bool=>[.bool r]) p1 true)(s0:Sl (Sl Int)):Fc Sy cL (iF s0 p1):=Fc.M 95 [enc s0,.clo g1 [] e1] (bP 9 s0 (dx 5 (λw=>(bE [Cv 0 s0,(1,.v (.clo g1 [] e1)),Iv 7 (len s0),Iv 8 w] [])) (λu=>(0,(bE [] []))) (λu=>(bE [Iv 4 u] [])) (λw=>bp 7 9 (bB 16 λB _=>zA 1 a.f B λC _=>bp 2 16 aZ aZ) aZ) (λu=>aZ) (λu=>aZ)))
def jH(s0:Zb)(p1:(Zg)->aY X'):aY X':=(iF s0 p1).bind λu=>some (decide (u>=0))
abbrev qY(g1:FuncId)(e1:aX V)(p1:(Sl Int)->aY Bool)(a:mI Sy cL g1 [] e1 (λz:Sl Int=>[enc z]) (λr:Bool=>[.bool r]) p1 true)(s0:Sl (Sl Int)):Fc Sy cL (jH s0 p1):=Fc.M 64 [enc s0,.clo g1 [] e1] (bt (F:=zp g1 e1 p1 a s0) 9 λu _=>aZ)
def zF(D:Z4)(G:Zb):aY X':=(cZ D).bind λu=>(bg u ((jH G (λz=>lQ z D)).bind λw=>some (!w)) (some false):aY X').bind λB=>some B
instance abr(B:Z4)(D:Zb):Fc Sy cL (zF B D):=Fc.M 77 [enc B,enc D] (bT 2 2 B (bt 6 λu _=>bJ 1 5 [1,2,7] 12 (bp 1 7 (b9 (F:=qY 105 [.fptr (cells B)] (λz=>lQ z B) mI.sY D) 2 λw _=>bq 2) (bq 5)) λC=>aZ))
namespace lI
def bh(G:Zg)(J:Int)(D:Z4)(B:Int):aY (Fw Int Unit Unit):=bg (decide (B<J)) ((idx G B).bind λu=>(bg (decide (u<0)) (some true) ((idx D.procs B).bind λw=>some (decide (u>(len w.events)))):aY X').bind λz=>bg z (some (.r ())) (some (.n (wrap .i64 (B+1))))) (some (.x ()))
def W1(D:Zg)(G J:Int)(B:Z4):aY X':=(bG (λq:Int=>bh D G B q) J).bind (Fw.elim (λe=>some true) (λe=>some false))
end lI
def lI(D:Z4)(B:Zg):aY X':=lI.W1 B (len B) 0 D
open lI in
instance ZG(D:Z4)(B:Zg):Fc Sy cL (lI D B):=Fc.M 78 [enc D,enc B] (bT 2 2 D (bP 7 B (dx 5 (λw=>(bE [Pv 2,Cv 7 B,Iv 8 (len B),Iv 9 w] [Xb 2 D])) (λu=>(0,(bE [] []))) (λu=>(bE [Bv 4 false] [])) (λw=>bp 7 10 (bB 8 λC _=>bJ 10 10 [5,6,16] 26 (bp 10 16 (bq 10) (bB 4 λz _=>bP 2 z.events (bq 2))) λG=>bp 2 26 aZ aZ) aZ) (λu=>aZ) (λu=>aZ))))
def wF(B:Z4)(p1:Int):aY X':=(bg (decide (p1>=0)) (some (decide (p1<(len B.procs)))) (some false):aY X').bind λu=>some u
instance Zz(B:Z4)(p1:Int):Fc Sy cL (wF B p1):=Fc.M 102 [enc B,.int .i64 p1] (bT 2 2 B (bJ 8 6 [1,2,7] 13 (bp 8 7 (bP 3 B.procs (bq 2)) (bq 6)) λu=>aZ))
namespace jd
def bF(Y:Zg)(p7:Int)(a:Zg)(b c:Int)(J:Sl WF)(U:Int)(W:Z4)(G D:bf)(B:Int):aY (Fw Int Unit (bf×bf)):=bg (decide (B<U)) ((idx J B).bind λw=>bg (w.kind==3) ((sy W w.message).bind λu=>(idx Y u.1.proc).bind λz=>bg (decide (u.1.index>z)) (some (.r (u.1,(⟨p7,wrap .i64 (B+1)⟩:bf)))) (some (.n (wrap .i64 (B+1))))) (some (.n (wrap .i64 (B+1))))) (some (.x ()))
def W2(a:Zg)(p7:Int)(J:Zg)(U G:Int)(W:Sl WF)(Y b:Int)(c:Z4)(D B:bf):aY (Fw Int Unit (bf×bf)):=(bG (λq:Int=>bF a p7 J U G W Y c D B q) b).bind (Fw.elim (λe=>some (.n (wrap .i64 (G+1)))) (λe=>some (.r (e.1,e.2))))
def bh(Y J:Zg)(U:Int)(W:Z4)(G B:bf)(D:Int):aY (Fw Int Unit (bf×bf)):=bg (decide (D<U)) ((idx J D).bind λw=>(idx W.procs D).bind λz=>(gB z.events none (some w)).bind λu=>W2 Y D J U D u (len u) 0 W G B) (some (.x ()))
def W1(Y G:Zg)(J U:Int)(W:Z4)(D B:bf):aY (bf×bf×X'):=(bG (λq:Int=>bh Y G J W D B q) U).bind (Fw.elim (λe=>some (⟨0,0⟩,⟨0,0⟩,false)) (λe=>some (e.1,e.2,true)))
end jd
def jd(D:Z4)(B:Zg):aY (bf×bf×X'):=jd.W1 B B (len B) 0 D (⟨0,0⟩:bf) (⟨0,0⟩:bf)
open jd in
instance Zo(D:Z4)(B:Zg):Fc Sy cL (jd D B):=Fc.M 79 [enc D,enc B] (bT 2 2 D (bP 9 B (dx 5 (λu=>(bE [Cv 1 B,Pv 2,Pv 4,Pv 5,Cv 13 B,Iv 14 (len B),Iv 15 u] [Xb 2 D,Xb 4 (⟨0,0⟩:bf),Xb 5 (⟨0,0⟩:bf)])) (λw=>(0,(bE [Pv 4,Pv 5] [Xb 4 (⟨0,0⟩:bf),Xb 5 (⟨0,0⟩:bf)]))) (λw=>(bE [Pv 4,Pv 5,Bv 6 true] [Xb 4 w.1,Xb 5 w.2])) (λu=>bp 7 16 (bB 8 λI _=>bB 10 λL _=>B6 3 false true [.int .i64 I] λC _=>bP 0 C (dx 5 (λG=>(bE [Cv 1 B,Pv 2,Pv 4,Pv 5,Iv 7 u,Cv 13 B,Iv 14 (len B),Iv 15 u,Cv 27 C,Iv 28 (len C),Iv 29 G] [Xb 2 D,Xb 4 (⟨0,0⟩:bf),Xb 5 (⟨0,0⟩:bf)])) (λz=>(2,(bE [Cv 1 B,Pv 2,Pv 4,Pv 5,Cv 13 B,Iv 14 (len B),Iv 15 u] [Xb 2 D,Xb 4 (⟨0,0⟩:bf),Xb 5 (⟨0,0⟩:bf)]))) (λz=>(bE [Pv 4,Pv 5,Bv 6 true] [Xb 4 z.1,Xb 5 z.2])) (λG=>bp 7 30 (bB 8 λJ _=>pz 3 10 0 J (cz 10 36 (bt 8 λO _=>bB 15 λQ _=>bp 4 51 aZ aZ) aZ)) aZ) (λz=>aZ) (λz=>aZ))) aZ) (λw=>aZ) (λw=>aZ))))
def xX(B:Z4)(D:Zg):aY X':=(jd B D).bind λu=>some (!u.2.2)
instance aaN(B:Z4)(D:Zg):Fc Sy cL (xX B D):=Fc.M 103 [enc B,enc D] (bT 2 2 B (bt 7 λu _=>aZ))
namespace dF
def fC(D:Zb)(G:Int)(J:Z4)(B:Int):aY (Fw Int Unit Unit):=bg (decide (B<G)) ((idx D B).bind λu=>(xX J u).bind λw=>bg w (some (.n (wrap .i64 (B+1)))) (some (.r ()))) (some (.x ()))
def W3(B:Zb)(D G:Int)(J:Z4):Ps:=(bG (λq:Int=>fC B D J q) G).bind (Fw.elim (λe=>some 0) (λe=>some 18))
def bF(U:Zb)(D:Zg)(G:Int)(J:Z4)(B:Int):aY (Fw Int Unit Unit):=bg (decide (B<G)) ((idx D B).bind λu=>(wF J u).bind λw=>bg w (some (.n (wrap .i64 (B+1)))) (some (.r ()))) (some (.x ()))
def W2(D:Zb)(G:Zg)(J U:Int)(B:Z4):Ps:=(bG (λq:Int=>bF D G J B q) U).bind (Fw.elim (λe=>dF.W3 D (len D) 0 B) (λe=>some 2))
def bh(W:Zb)(D:Zg)(G:Zb)(J:Int)(U:Z4)(B:Int):aY (Fw Int Unit Unit):=bg (decide (B<J)) ((idx G B).bind λu=>(lI U u).bind λw=>bg w (some (.n (wrap .i64 (B+1)))) (some (.r ()))) (some (.x ()))
def W1(W:Zb)(B:Zg)(G:Zb)(J U:Int)(D:Z4):Ps:=(bG (λq:Int=>bh W B G J D q) U).bind (Fw.elim (λe=>dF.W2 W B (len B) 0 D) (λe=>some 2))
end dF
def dF(G:Z4)(D:Zb)(B:Zg):Ps:=(zF G D).bind λu=>bg u (dF.W1 D B D (len D) 0 G) (some 1)
open dF in
instance abv(G:Z4)(D:Zb)(B:Zg):Fc Sy cL (dF G D B):=Fc.M 76 [enc G,enc D,enc B] (bT 2 3 G (bt 8 λL _=>cz 3 16 (bP 7 D (dx 5 (λC=>(bE [Cv 1 D,Cv 2 B,Pv 3,Cv 17 D,Iv 18 (len D),Iv 19 C] [Xb 3 G])) (λu=>(0,(bE [Cv 1 D,Cv 2 B,Pv 3] [Xb 3 G]))) (λu=>(bE [Iv 6 2] [])) (λC=>bp 7 20 (bB 7 λO _=>bt 8 λQ _=>cz 3 26 aZ aZ) aZ) (λu=>bP 6 B (dx 5 (λI=>(bE [Cv 1 D,Pv 3,Cv 28 B,Iv 29 (len B),Iv 30 I] [Xb 3 G])) (λw=>(2,(bE [Cv 1 D,Pv 3] [Xb 3 G]))) (λw=>(bE [Iv 6 2] [])) (λI=>bp 7 31 (bB 7 λS _=>bt 8 λT _=>cz 3 37 aZ aZ) aZ) (λw=>bP 6 D (dx 5 (λJ=>(bE [Pv 3,Cv 39 D,Iv 40 (len D),Iv 41 J] [Xb 3 G])) (λz=>(4,(bE [] []))) (λz=>(bE [Iv 6 18] [])) (λJ=>bp 7 42 (bB 7 λU _=>bt 8 λW _=>cz 3 48 aZ aZ) aZ) (λz=>aZ) (λz=>aZ))) (λw=>aZ))) (λu=>aZ))) aZ))
namespace kG
def bh(G:Zg)(J:Int)(B:Sl bf)(D:Int):aY (Fw ((Sl bf)×Int) (Sl bf) Empty):=bg (decide (D<J)) ((idx G D).bind λu=>bg (decide (u>0)) ((fF B (⟨D,u⟩:bf)).bind λw=>some (.n (w,wrap .i64 (D+1)))) (some (.n (B,wrap .i64 (D+1))))) (some (.x B))
def W1(B:Sl bf)(D:Zg)(G J:Int):aY ((Sl bf)×Int):=(bG (λq:(Sl bf)×Int=>bh D G q.1 q.2) (B,J)).bind (Fw.elim (λe=>some (e,0)) (λe=>elim e))
end kG
def kG(D:Z4)(B:Zg):aY ((Sl bf)×Int):=(dF D (Sl.row [B]:Zb) (Sl.nil:Zg)).bind λu=>bg (u==0) (kG.W1 (Sl.nil:Sl bf) B (len B) 0) (some (Sl.nil,u))
open kG in
instance X4(D:Z4)(B:Zg):Fc Sy cL (kG D B):=Fc.N 120 [enc D,enc B] (bT 2 2 D (zH 9 12 ([B]:aX Zg) (b9 0 λz _=>cz 9 15 (bP 12 B (eo 6 (λu=>(bE [Ov 7,Cv 17 B,Iv 18 (len B),Iv 19 u.2] [Lb 2007 u.1])) (λw=>(0,(bE [Ov 7] [Lb 2007 w]))) (λu=>bp 8 20 (bB 8 λC _=>bp 11 25 (ny 7 2007 30 31 λG _=>aZ) aZ) aZ) (λw=>aZ))) aZ)))
namespace gH
def lF(B:bS)(D:Int)(x:Int×(Zg))(G:Zg):aY (Fw Zg Empty Zg):=bg (x.1==D) (some (.r x.2)) (some (.n (Sl.nil:Zg)))
def E1(B:bS)(D:Int)(G:Zg):aY Zg:=(kA B).bind λu=>(mm (λ(x:Int×(Zg))(q:Zg)=>lF B D x q) u G).bind (Fw.tj (λq=>some Sl.nil) (λe=>elim e) (λe=>some e))
end gH
def gH(B:bS)(k1:Int):aY Zg:=(pJ B).bind λu=>gH.E1 u k1 (Sl.nil:Zg)
open gH in
instance UL(D:bS)(k1:Int):Fc Sy cL (gH D k1):=Fc.N 121 [enc D,.int .i64 k1] (bT 2 2 D (bt 8 λw _=>HG λC z=>DW 4 [Pv 3,Pv 4,(8,.v (.clo 178 [] [.fptr (cells w)]))] (λB=>[(3,.box [iv k1]),(4,.box [.v .bO])]) (λu=>elim u) (λu=>[(3,.box [iv k1]),(4,.box [cv u])]) (IV w C z) (λG B=>Ay 8 (bp 9 13 (pz 4 4 0 G.2 aZ) aZ)) (λB=>aZ) (λx=>elim x) (λu=>aZ)))
namespace jL
def bh(G:Zg)(J:Int)(U:Z4)(D:Zb)(B:Int):aY (Fw ((Zb)×Int) Zb Empty):=bg (decide (B<J)) ((idx G B).bind λu=>(idx U.procs B).bind λw=>(gH w u).bind λz=>(fF D (z:Zg)).bind λC=>some (.n (C,wrap .i64 (B+1)))) (some (.x D))
def W1(B:Zb)(D:Zg)(G J:Int)(U:Z4):aY ((Zb)×Int):=(bG (λq:(Zb)×Int=>bh D G U q.1 q.2) (B,J)).bind (Fw.elim (λe=>some (e,0)) (λe=>elim e))
end jL
def jL(D:Z4)(B:Zg):aY ((Zb)×Int):=(kG D B).bind λu=>bg (u.2==0) (jL.W1 (Sl.nil:Zb) B (len B) 0 D) (some (Sl.nil,u.2))
open jL in
instance Zp(D:Z4)(B:Zg):Fc Sy cL (jL D B):=Fc.N 91 [enc D,enc B] (bT 2 2 D (bt 9 λC _=>cz 13 18 (bP 12 B (eo 6 (λu=>(bE [Pv 2,Ov 8,Cv 20 B,Iv 21 (len B),Iv 22 u.2] [Xb 2 D,Lb 2008 u.1])) (λw=>(0,(bE [Ov 8] [Lb 2008 w]))) (λu=>bp 8 23 (bB 8 λG _=>bB 10 λI _=>bt 2 λz _=>zH 0 35 ([z]:aX Zg) (ny 0 2008 35 36 λJ _=>aZ)) aZ) (λw=>aZ))) aZ))
def lG(B:Var)(D:T'):aY X':=some (toList B.name==toList D.name)
instance Jf(B:Var)(D:T'):Fc Sy cL (lG B D):=Fc.M 180 [enc B,.fptr (cells D)] (aZ)
def pR(D:cr)(p1:T'):Ps:=(idx D.t.procs p1.proc).bind λu=>(fU u.vars (λz=>lG z p1)).bind λw=>(idx D.values p1.proc).bind λB=>(idx B w).bind λC=>some C
instance Me(B:cr)(p1:T'):Fc Sy cL (pR B p1):=Fc.M 153 [enc B,enc p1] (bT 2 2 B (bT 0 3 p1 (bB 10 λu _=>b9 (F:=pQ 180 [.fptr (cells p1)] (λz=>lG z p1) mI.sY u.vars) 3 λw _=>bB 9 λC _=>bB 2 λD _=>aZ)))
def wh(B:Z4)(m1:Int):aY (bf×X'):=(jq B 3 m1).bind λu=>some (u.1,u.2)
instance Ug(B:Z4)(m1:Int):Fc Sy cL (wh B m1):=Fc.M 201 [enc B,.int .i64 m1] (bT 2 2 B (bt 8 λu _=>aZ))
namespace jI
def bh(W:Zg)(Y:Int)(J:Sl WF)(U:Z4)(B:Zg)(G D:Int):aY (Fw ((Zg)×Int×Int) Zg Empty):=bg (decide (D<G)) ((idx J D).bind λu=>(bg (u.kind==2) (some (!(u.peer==Y))) (some true):aY X').bind λC=>bg C (some (.n (B,G,wrap .i64 (D+1)))) ((wh U u.message).bind λw=>(bg w.2 ((idx W w.1.proc).bind λI=>some (decide (w.1.index>I))) (some true):aY X').bind λL=>bg L ((fF B (u.message:Int)).bind λz=>some (.n (z,G,wrap .i64 (D+1)))) (some (.n (B,G,wrap .i64 (D+1)))))) (some (.x B))
def W1(W:Zg)(Y:Int)(B:Zg)(D:Sl WF)(G J:Int)(U:Z4):aY ((Zg)×Int):=(bG (λq:(Zg)×Int×Int=>bh W Y D U q.1 q.2.1 q.2.2) (B,G,J)).bind (Fw.elim (λe=>some (e,0)) (λe=>elim e))
end jI
def jI(B:Z4)(D:Zg)(p2 G:Int):aY ((Zg)×Int):=(dF B (Sl.row [D]:Zb) (Sl.row [p2,G]:Zg)).bind λu=>bg (u==0) ((idx B.procs p2).bind λz=>(idx D p2).bind λC=>(gB z.events none (some C)).bind λw=>jI.W1 D G (Sl.nil:Zg) w (len w) 0 B) (some (Sl.nil,u))
open jI in
instance X3(B:Z4)(D:Zg)(p2 G:Int):Fc Sy cL (jI B D p2 G):=Fc.N 181 [enc B,enc D,.int .i64 p2,.int .i64 G] (bT 2 4 B (zH 9 18 ([D]:aX Zg) (b9 3 λL _=>cz 9 24 (bB 14 λO _=>bB 4 λC _=>B6 1 false true [.int .i64 C] λw _=>bP 0 w (eo 6 (λu=>(bE [Cv 1 D,Iv 3 G,Pv 4,Ov 11,Cv 36 w,Iv 37 u.2.1,Iv 38 u.2.2] [Xb 4 B,Lb 2011 u.1])) (λz=>(0,(bE [Ov 11] [Lb 2011 z]))) (λu=>bp 8 39 (bB 7 λI _=>pz 2 13 0 I (bJ 9 5 [45] 50 (cz 9 45 (bq 5) (bq 5)) λQ=>bp 2 50 aZ (bt 8 λS _=>bJ 13 9 [14,60] 69 (cz 13 60 (bB 5 λT _=>bq 3) (bq 9)) λU=>bp 2 69 (ny 6 2011 73 74 λJ _=>aZ) aZ))) aZ) (λz=>aZ))) aZ)))
def qC(B:cr)(p1:T'):Ps:=(jI B.t B.counts p1.proc p1.peer).bind λu=>some (len u.1)
instance MN(B:cr)(p1:T'):Fc Sy cL (qC B p1):=Fc.M 154 [enc B,enc p1] (bT 2 2 B (bT 0 3 p1 (bt 13 λu _=>bP 10 u.1 aZ)))
def fh(B:cr)(p1:T')(r:(cr×T')->Ps):Ps:=bg (p1.kind==1) (some p1.n) (bg (p1.kind==2) ((pR B p1).bind λL=>some L) (bg (p1.kind==3) ((idx B.counts p1.proc).bind λO=>some O) (bg (p1.kind==4) ((qC B p1).bind λQ=>some Q) (bg (p1.kind==5) ((idx p1.l 0).bind λS=>(r (B,S)).bind λT=>some (wrap .i64 (0-T))) (bg (p1.kind==6) ((idx p1.l 0).bind λU=>(r (B,U)).bind λW=>(idx p1.l 1).bind λX=>(r (B,X)).bind λY=>some (wrap .i64 (W+Y))) (bg (p1.kind==7) ((idx p1.l 0).bind λu=>(r (B,u)).bind λw=>(idx p1.l 1).bind λz=>(r (B,z)).bind λC=>some (wrap .i64 (w-C))) ((idx p1.l 0).bind λD=>(r (B,D)).bind λG=>(idx p1.l 1).bind λI=>(r (B,I)).bind λJ=>some (wrap .i64 (G*J)))))))))
theorem xY(r:(cr×T')->Ps)(a:eV Sy cL 122 (λz:cr×T'=>[enc z.1,enc z.2]) (λr:Int=>[.int .i64 r]) r true)(B:cr)(p1:T'):Le ((fh B p1 r).bind λr=>some [.int .i64 r]) (gZ cL 122 [enc B,enc p1]):=(Fc.M 122 [enc B,enc p1] (bT 2 2 B (bT 0 3 p1 (bp 17 7 aZ (bp 7 11 (bt 5 λT _=>aZ) (bp 7 16 (bB 7 λU _=>aZ) (bp 7 24 (bt 5 λW _=>aZ) (bp 7 29 (dN 6 33 (Pred.fe p1.l) (bB 0 λG _=>b9 (F:=Fc.of (B,G) a) 1 λX _=>aZ)) (bp 7 38 (dN 6 42 (Pred.fe p1.l) (bB 0 λI _=>b9 (F:=Fc.of (B,I) a) 1 λY _=>dN 3 48 (Pred.fe p1.l) (bB 0 λJ _=>b9 (F:=Fc.of (B,J) a) 1 λZ _=>aZ))) (bp 7 53 (dN 6 57 (Pred.fe p1.l) (bB 0 λu _=>b9 (F:=Fc.of (B,u) a) 1 λL _=>dN 3 63 (Pred.fe p1.l) (bB 0 λw _=>b9 (F:=Fc.of (B,w) a) 1 λO _=>aZ))) (dN 9 70 (Pred.fe p1.l) (bB 0 λC _=>b9 (F:=Fc.of (B,C) a) 1 λQ _=>dN 3 76 (Pred.fe p1.l) (bB 0 λD _=>b9 (F:=Fc.of (B,D) a) 1 λS _=>aZ)))))))))))):Fc Sy cL (fh B p1 r)).F.h ()
def fq(B:cr)(p1:T'):Ps:=dI (λr(z:cr×T')=>fh z.1 z.2 r) 100000 (B,p1)
instance M6(B:cr)(p1:T'):Fc Sy cL (fq B p1):=Fc.of (B,p1) (eV.fix (A:=λz:cr×T'=>[enc z.1,enc z.2]) (E:=λr:Int=>[.int .i64 r]) (sc:=true) (b:=(λr(z:cr×T')=>fh z.1 z.2 r)) Zae (λ_ _=>rfl) (λr a z=>xY r a z.1 z.2) 100000)
namespace gw
def J1(W:Int)(U:X')(D:cr)(B:T')(r:(cr×T')->aY X'):aY X':=bg U (some (B.kind==13)) (bg (W==15) ((idx B.l 0).bind λu=>(r (D,u)).bind λw=>some (!w)) (bg (W==16) ((idx B.l 0).bind λz=>(r (D,z)).bind λC=>(bg C ((idx B.l 1).bind λG=>(r (D,G)).bind λI=>some I) (some false):aY X').bind λJ=>some J) ((idx B.l 0).bind λL=>(r (D,L)).bind λO=>(bg O (some true) ((idx B.l 1).bind λQ=>(r (D,Q)).bind λS=>some S):aY X').bind λT=>some T)))
theorem nh(r:(cr×T')->aY X')(a:eV Sy cL 92 (λz:cr×T'=>[enc z.1,enc z.2]) (λr:X'=>[.bool r]) r true)(U:Int)(G:X')(B:cr)(D:T'):Le ((J1 U G B D r).bind (λr=>some [.bool r])) (b7 Sy cL (p8 (tr Tx 92)) (rM (tb Tx 92) [1,0,1,0,1,1,1,1,1,1,1,1,1,0] [] (bE [Pv 2,Pv 3,Iv 6 U,Bv 67 G] [Xb 2 B,Xb 3 D]))):=bp 0 67 aZ (bp 7 73 (dN 6 77 (Pred.fe D.l) (bB 0 λC _=>b9 (F:=Fc.of (B,C) a) 1 λQ _=>aZ)) (bp 7 82 (dN 6 86 (Pred.fe D.l) (bB 0 λI _=>b9 (F:=Fc.of (B,I) a) 1 λS _=>wM 1 7 [96,89] (λu=>(bE [Bv 67 false,Bv 73 false,Bv 82 true,Bv 97 u] [Xb 2 B,Xb 3 D])) (bp 1 90 (dN 3 93 (Pred.fe D.l) (bB 0 λJ _=>b9 (F:=Fc.of (B,J) a) 1 λT _=>bq 1)) (bq 7)) λu=>aZ)) (dN 9 100 (Pred.fe D.l) (bB 0 λL _=>b9 (F:=Fc.of (B,L) a) 1 λW _=>wM 1 7 [110,103] (λw=>(bE [Bv 67 false,Bv 73 false,Bv 82 false,Bv 111 w] [Xb 2 B,Xb 3 D])) (bp 1 104 (bq 7) (dN 3 107 (Pred.fe D.l) (bB 0 λO _=>b9 (F:=Fc.of (B,O) a) 1 λX _=>bq 1))) λw=>aZ))))
end gw
def fK(B:cr)(p1:T')(r:(cr×T')->aY X'):aY X':=bg (p1.kind==9) ((idx p1.l 0).bind λJ=>(fq B J).bind λL=>(idx p1.l 1).bind λO=>(fq B O).bind λQ=>some (L==Q)) (bg (p1.kind==10) ((idx p1.l 0).bind λS=>(fq B S).bind λT=>(idx p1.l 1).bind λU=>(fq B U).bind λW=>some (!(T==W))) (bg (p1.kind==11) ((idx p1.l 0).bind λX=>(fq B X).bind λu=>(idx p1.l 1).bind λw=>(fq B w).bind λz=>some (decide (u<z))) (bg (p1.kind==12) ((idx p1.l 0).bind λC=>(fq B C).bind λD=>(idx p1.l 1).bind λG=>(fq B G).bind λI=>some (decide (D<=I))) (bg (p1.kind==13) (gw.J1 p1.kind true B p1 r) (gw.J1 p1.kind (p1.kind==14) B p1 r)))))
open gw in
theorem yY(r:(cr×T')->aY X')(a:eV Sy cL 92 (λz:cr×T'=>[enc z.1,enc z.2]) (λr:X'=>[.bool r]) r true)(B:cr)(p1:T'):Le ((fK B p1 r).bind λr=>some [.bool r]) (gZ cL 92 [enc B,enc p1]):=(Fc.M 92 [enc B,enc p1] (bT 2 2 B (bT 0 3 p1 (bp 17 7 (dN 6 11 (Pred.fe p1.l) (bB 0 λL _=>b9 1 λO _=>dN 3 17 (Pred.fe p1.l) (bB 0 λQ _=>b9 1 λS _=>aZ))) (bp 7 22 (dN 6 26 (Pred.fe p1.l) (bB 0 λT _=>b9 1 λU _=>dN 3 32 (Pred.fe p1.l) (bB 0 λW _=>b9 1 λX _=>aZ))) (bp 7 37 (dN 6 41 (Pred.fe p1.l) (bB 0 λY _=>b9 1 λu _=>dN 3 47 (Pred.fe p1.l) (bB 0 λw _=>b9 1 λC _=>aZ))) (bp 7 52 (dN 6 56 (Pred.fe p1.l) (bB 0 λD _=>b9 1 λG _=>dN 3 62 (Pred.fe p1.l) (bB 0 λI _=>b9 1 λJ _=>aZ))) (bp 8 67 (nL 4 (nh r a p1.kind true B p1)) (nL 7 (nh r a p1.kind (p1.kind==14) B p1))))))))):Fc Sy cL (fK B p1 r)).F.h ()
def gw(B:cr)(p1:T'):aY X':=dI (λr(z:cr×T')=>fK z.1 z.2 r) 100000 (B,p1)
instance ND(B:cr)(p1:T'):Fc Sy cL (gw B p1):=Fc.of (B,p1) (eV.fix (A:=λz:cr×T'=>[enc z.1,enc z.2]) (E:=λr:X'=>[.bool r]) (sc:=true) (b:=(λr(z:cr×T')=>fK z.1 z.2 r)) Zae (λ_ _=>rfl) (λr a z=>yY r a z.1 z.2) 100000)
namespace iR
def bh(Y J:Zb)(U:Int)(G:Z4)(W:T')(B:Sl X')(D:Int):aY (Fw ((Sl X')×Int) (Sl X') ((Zb)×(Sl X')×Int)):=bg (decide (D<U)) ((idx J D).bind λw=>(jL G w).bind λu=>bg (u.2==0) ((gw (⟨G,w,u.1⟩:cr) W).bind λz=>(fF B (z:X')).bind λC=>some (.n (C,wrap .i64 (D+1)))) (some (.r ((Sl.nil:Zb),(Sl.nil:Sl X'),u.2)))) (some (.x B))
def W1(Y:Zb)(B:Sl X')(D:Zb)(G J:Int)(U:Z4)(W:T'):aY ((Zb)×(Sl X')×Int):=(bG (λq:(Sl X')×Int=>bh Y D G U W q.1 q.2) (B,J)).bind (Fw.elim (λe=>some (Y,e,0)) (λe=>some (e.1,e.2.1,e.2.2)))
end iR
def iR(B:Z4)(p1:T'):aY ((Zb)×(Sl X')×Int):=(tw B p1).bind λw=>bg (w==0) ((we p1 2).bind λz=>bg (z==0) ((qf p1).bind λC=>bg C (some (Sl.nil,(Sl.nil:Sl X'),15)) ((oa B).bind λu=>bg (u.2==0) (iR.W1 u.1 (Sl.nil:Sl X') u.1 (len u.1) 0 B p1) (some (Sl.nil,(Sl.nil:Sl X'),u.2)))) (some (Sl.nil,(Sl.nil:Sl X'),z))) (some (Sl.nil,(Sl.nil:Sl X'),w))
open iR in
instance Xx(B:Z4)(p1:T'):Fc Sy cL (iR B p1):=Fc.N 62 [enc B,enc p1] (bT 2 2 B (bT 0 3 p1 (bt 10 λG _=>cz 9 20 (bt 7 λI _=>cz 9 25 (bt 7 λJ _=>bp 2 28 aZ (bt 6 λw _=>cz 14 35 (bP 12 w.1 (dx 6 (λz=>(bE [Pv 2,Pv 3,Cv 9 w.1,Ov 11,Cv 37 w.1,Iv 38 (len w.1),Iv 39 z.2] [Xb 2 B,Xb 3 p1,Lb 2011 z.1])) (λu=>(0,(bE [Cv 9 w.1,Ov 11] [Lb 2011 u]))) (λu=>(bE [Cv 4 u.1,Ov 5,Iv 6 u.2.2] [Lb 2005 u.2.1])) (λz=>bp 8 40 (bB 7 λC _=>bt 8 λD _=>cz 14 50 (adn 8 (⟨B,C,D.1⟩:cr) [enc B,enc C,enc D.1] [.bO,.bO,.bO] [(0,1),(1,1),(2,1)] (by simp only[QD,Sd,mX,Sk,NG,SM,S7];rfl) rfl (bt 1 λL _=>ny 1 2011 59 60 λO _=>aZ)) aZ) aZ) (λu=>aZ) (λu=>aZ))) aZ)) aZ) aZ)))
def oA(B:Z4)(p1:T'):aY ((Sl X')×Int):=(iR B p1).bind λu=>some (u.2.1,u.2.2)
instance UW(B:Z4)(p1:T'):Fc Sy cL (oA B p1):=Fc.N 39 [enc B,enc p1] (bT 2 2 B (bT 0 3 p1 (bt 8 λu _=>aZ)))
namespace gu
def bh(J:Zg)(D:Int)(G:Sl U8)(B:Int):aY (Fw ((Sl U8)×Int) (Sl U8) Empty):=bg (decide (B<D)) ((idx J B).bind λu=>(fF G (⟨wrap .u8 u⟩:U8)).bind λw=>some (.n (w,wrap .i64 (B+1)))) (some (.x G))
def W1(G:Sl U8)(J:Zg)(B D:Int):aY U':=(bG (λq:(Sl U8)×Int=>bh J B q.1 q.2) (G,D)).bind (Fw.elim (λe=>some (L8 e)) (λe=>elim e))
end gu
def gu(B:Zg):aY U':=(tJ (len B) (⟨0⟩:U8)).bind λu=>gu.W1 u B (len B) 0
open gu in
instance Z3(B:Zg):Fc Sy cL (gu B):=Fc.M 54 [enc B] (bP 8 B (ads (zero:=[.int .u8 0]) 0 8 λz _=>bP 7 B (eo 6 (λu=>(bE [Ov 3,Cv 9 B,Iv 10 (len B),Iv 11 u.2] [Lb 2003 u.1])) (λw=>(0,(bE [Ov 3] [Lb 2003 w]))) (λu=>bp 8 12 (bB 7 λC _=>ny 9 2003 18 19 λD _=>aZ) aZ) (λw=>acC 5 2003 w aZ))))
namespace kJ
def bh(J:Zb)(U:Int)(D:Int)(G:Mo ByteArray Int)(B:bY):aY (Fw (Int×(Mo ByteArray Int)×bY) ((Mo ByteArray Int)×bY) Empty):=bg (decide (D<U)) ((idx J D).bind λu=>(gu u).bind λw=>some (.n (wrap .i64 (D+1),nP G w D,(⟨B.t,B.l,⟨none⟩,B.truth⟩:bY)))) (some (.x (G,(⟨B.t,B.l,⟨none⟩,B.truth⟩:bY))))
def W1(G:Zb)(J U:Int)(B:Mo ByteArray Int)(D:bY):aY (aY bY):=(bG (λq:Int×(Mo ByteArray Int)×bY=>bh G J q.1 q.2.1 q.2.2) (U,B,D)).bind (Fw.elim (λe=>some (some (⟨e.2.t,e.2.l,⟨some e.1⟩,e.2.truth⟩:bY))) (λe=>elim e))
end kJ
def kJ(G:Z4)(D:Zb)(B:Sl X'):aY (aY bY):=kJ.W1 D (len D) 0 [] (⟨G,D,⟨none⟩,B⟩:bY)
open kJ in
instance ZO(G:Z4)(D:Zb)(B:Sl X'):Fc Sy cL (kJ G D B):=Fc.N 41 [enc G,enc D,enc B] (bT 2 3 G (ab4 9 [cv G,cv D,.mp 12,cv B] [cv G.procs,cv D,.mp 12,cv B] [.bO,.bO,.iA,.bO] [(0,1),(1,1),(2,1),(3,1)] (by simp only[FG,S4,TF,PN,S8,Qr,mX,Sk,NG,SM,S7];rfl) (abQ 0 15 [cv G.procs,cv D,.mp 12,cv B] (by simp only[all_cons,aa2,T7,XG,Vh,oZ,nC,oU,oB,NW];rfl) (bP 7 D (eo 5 (λu=>(bE [(7,.ptr 15 0),Cv 16 D,Iv 17 (len D),Iv 18 u.1] [(12,vR u.2.1),(15,.box [cv u.2.2.t.procs,cv u.2.2.l,.mp 12,cv u.2.2.truth])])) (λw=>(0,(bE [(7,.ptr 15 0)] [(12,vR w.1),(15,.box [cv w.2.t.procs,cv w.2.l,.mp 12,cv w.2.truth])]))) (λu=>bp 7 19 (bB 8 λC _=>b9 11 λz _=>aas 1 12 u.2.1 z u.1 aZ) aZ) (λw=>aZ))))))
def pn(B:Z4)(p1:T'):aY ((aY bY)×Int):=(oA B p1).bind λu=>bg (u.2==0) ((oa B).bind λw=>bg (w.2==0) ((kJ B w.1 u.1).bind λz=>some (z,0)) (some (none,w.2))) (some (none,u.2))
instance abq(B:Z4)(p1:T'):Fc Sy cL (pn B p1):=Fc.N 18 [enc B,enc p1] (bT 2 2 B (bT 0 3 p1 (bt 8 λu _=>cz 14 16 (bt 6 λw _=>cz 14 24 (bt 8 λz _=>aZ) aZ) aZ)))
namespace dG
def bh(G:bY)(i1 J U:Int)(B:Zg)(D:Int):aY (Fw ((Zg)×Int) Zg Empty):=bg (decide (D<U)) ((idx G.l i1).bind λz=>((eu z).bind Sl.whole).bind λu=>(Sl.jP u D).bind λC=>(Sl.get u C).bind λI=>(Sl.jP u D).bind λL=>(Sl.put u L (wrap .i64 (I+J):Int)).bind λO=>(gu O).bind λw=>bg (uF (mj G.index) w) ((fF B (pM (mj G.index) w 0:Int)).bind λQ=>some (.n (Q,wrap .i64 (D+1)))) (some (.n (B,wrap .i64 (D+1))))) (some (.x B))
def W1(G:bY)(i1 B:Int)(D:Zg)(J U:Int):aY Zg:=(bG (λq:(Zg)×Int=>bh G i1 B J q.1 q.2) (D,U)).bind (Fw.elim (λe=>some e) (λe=>elim e))
end dG
def dG(s0:bY)(i1 B:Int):aY Zg:=(idx s0.l i1).bind λu=>dG.W1 s0 i1 B (Sl.nil:Zg) (len u) 0
open dG in
instance QG(s0:bY)(i1 B:Int):Fc Sy cL (dG s0 i1 B):=Fc.N 43 [.fptr (cells s0),.int .i64 i1,.int .i64 B] (bB 18 λz _=>bP 1 z (eo 6 (λu=>(bE [Kv 0 s0,Iv 1 i1,Iv 2 B,Ov 7,Iv 19 (len z),Iv 20 u.2] [Lb 2007 u.1])) (λC=>(0,(bE [Ov 7] [Lb 2007 C]))) (λu=>bp 8 21 (bB 18 λD _=>OY 1 30 iw D λI _=>jt .i64 7 30 λJ _=>pT 0 30 0 1 false (λw=>.int .i64 w) λw _=>jt .i64 2 30 λL _=>Fu 0 30 (.int .i64 (wrap .i64 (w+B))) λO _=>b9 9 λG _=>Y7 0 s0.index G 0 (bp 12 48 (ny 5 2007 51 52 λQ _=>aZ) aZ)) aZ) (λC=>aZ)))
namespace ec
def bF(U:Zg)(W:Zb)(Y b G:Int)(B:Zg)(D:Int)(a:(Zg)->Ps):aY (Fw ((Zg)×Int) Zg Empty):=bg (decide (D<G)) ((Sl.jP B D).bind λw=>(Sl.get B w).bind λz=>(idx U D).bind λC=>(a (Sl.row [z,C]:Zg)).bind λI=>(Sl.jP B D).bind λJ=>(Sl.put B J (I:Int)).bind λu=>some (.n (u,wrap .i64 (D+1)))) (some (.x B))
def W2(B Y:Zg)(G:Zb)(J D U W:Int)(a:(Zg)->Ps):aY (Fw ((Zg)×Int) Zg Empty):=(bG (λq:(Zg)×Int=>bF Y G J D U q.1 q.2 a) (B,W)).bind (Fw.elim (λe=>some (.n (e,wrap .i64 (D+1)))) (λe=>elim e))
def bh(G:Zb)(J:Int)(B:Zg)(D:Int)(U:(Zg)->Ps):aY (Fw ((Zg)×Int) Zg Empty):=bg (decide (D<J)) ((idx G D).bind λu=>W2 B u G J D (len B) 0 U) (some (.x B))
def W1(B:Zg)(D:Zb)(G J:Int)(U:(Zg)->Ps):aY Zg:=(bG (λq:(Zg)×Int=>bh D G q.1 q.2 U) (B,J)).bind (Fw.elim (λe=>some e) (λe=>elim e))
end ec
def ec(B:Zb)(D:(Zg)->Ps):aY Zg:=(idx B 0).bind λw=>((eu w).bind Sl.whole).bind λz=>(gB B (some 1) none).bind λu=>ec.W1 z u (len u) 0 D
open ec in
abbrev BP(G:FuncId)(e0:aX V)(U:(Sl Int)->aY Int)(a:mI Sy cL G [] e0 (λz:Sl Int=>[enc z]) (λr:Int=>[.int .i64 r]) U true)(W:Sl (Sl Int)):Fc Sy cL (ec W U):=Fc.N 44 [.clo G [] e0,enc W] (bB 8 λL _=>OY 1 12 iw L λT _=>B6 7 true false [.int .i64 1] λu _=>bP 0 u (eo 6 (λw=>(bE [(0,.v (.clo G [] e0)),Ov 5,Cv 14 u,Iv 15 (len u),Iv 16 w.2] [Lb 2005 w.1])) (λI=>(0,(bE [Ov 5] [Lb 2005 I]))) (λw=>bp 8 17 (bB 7 λO _=>GL 7 2005 w.1 (eo 6 (λC=>(bE [(0,.v (.clo G [] e0)),Ov 5,Cv 7 O,Cv 14 u,Iv 15 (len u),Iv 16 w.2,Iv 21 (len w.1),Iv 22 C.2] [Lb 2005 C.1])) (λJ=>(2,(bE [(0,.v (.clo G [] e0)),Ov 5,Cv 14 u,Iv 15 (len u),Iv 16 w.2] [Lb 2005 J]))) (λC=>bp 8 23 (jt .i64 17 2005 λX _=>pT 0 2005 0 1 false (λB=>.int .i64 B) λB _=>bB 2 λD _=>abd 1 ([B,D]:aX Int) (.buildC 1 2 [.int .i64 0] [0,1]) [iv B,iv D] (zA 0 a.f (Sl.row [B,D]:Sl Int) λQ _=>jt .i64 0 2005 λY _=>Fu 0 2005 (.int .i64 Q) λS _=>aZ)) aZ) (λJ=>aZ))) aZ) (λI=>aZ)))
def qx(B:Zg):Ps:=(dB B).bind λu=>some u
instance Xn(B:Zg):Fc Sy cL (qx B):=Fc.M 45 [enc B] (bt 8 λu _=>aZ)
namespace dQ
def bF(e:bY)(i4:Int)(a:Zg)(b:Int)(B:Zb)(D:Int):aY (Fw ((Zb)×Int) Zb Empty):=bg (decide (D<b)) ((idx a D).bind λu=>(Sl.jP B u).bind λc=>(Sl.get B c).bind λd=>(Sl.isNil d).bind λw=>bg w (some (.n (B,wrap .i64 (D+1)))) ((Sl.jP B i4).bind λC=>(Sl.get B C).bind λG=>(Sl.isNil G).bind λI=>bg I ((Sl.jP B u).bind λJ=>(Sl.get B J).bind λL=>(Sl.jP B i4).bind λO=>(Sl.put B O (L:Zg)).bind λQ=>some (.n (Q,wrap .i64 (D+1)))) ((Sl.jP B i4).bind λS=>(Sl.get B S).bind λT=>(Sl.jP B u).bind λU=>(Sl.get B U).bind λW=>(ec (Sl.row [T,W]:Zb) (λz=>qx z)).bind λX=>(Sl.jP B i4).bind λY=>(Sl.put B Y (X:Zg)).bind λZ=>some (.n (Z,wrap .i64 (D+1)))))) (some (.x B))
def W2(D:bY)(B:Zb)(i4:Int)(G:Zg)(J U:Int):aY (Fw ((Zb)×Int) Zb Empty):=(bG (λq:(Zb)×Int=>bF D i4 G J q.1 q.2) (B,U)).bind (Fw.elim (λe=>some (.n (e,wrap .i64 (i4-1)))) (λe=>elim e))
def bh(D:bY)(B:Zb)(i4:Int):aY (Fw ((Zb)×Int) Zb Empty):=bg (decide (i4>=0)) ((idx D.truth i4).bind λw=>bg w ((idx D.l i4).bind λz=>(Sl.jP B i4).bind λC=>(Sl.put B C (z:Zg)).bind λG=>some (.n (G,wrap .i64 (i4-1)))) ((dG D i4 1).bind λu=>W2 D B i4 u (len u) 0)) (some (.x B))
def W1(D:bY)(B:Zb)(i4:Int):aY Zb:=(bG (λq:(Zb)×Int=>bh D q.1 q.2) (B,i4)).bind (Fw.elim (λe=>some e) (λe=>elim e))
end dQ
def dQ(s0:bY):aY Zb:=(nR (len s0.l) (Sl.nil:Zg)).bind λu=>dQ.W1 s0 u (wrap .i64 ((len s0.l)-1))
open dQ in
instance NR(s0:bY):Fc Sy cL (dQ s0):=Fc.N 20 [.fptr (cells s0)] (bP 11 s0.l (RX 0 12 λa _=>bP 10 s0.l (eo 7 (λB=>(bE [Kv 0 s0,Ov 3,Iv 4 B.2] [Lb 2003 B.1])) (λJ=>(0,(bE [Ov 3] [Lb 2003 J]))) (λB=>bp 9 20 (bB 13 λb _=>bp 3 29 (bB 10 λc _=>jt .i64 1 2003 λd _=>z6 0 2003 λe _=>aZ) (bt 7 λG _=>bP 0 G (eo 6 (λI=>(bE [Kv 0 s0,Ov 3,Iv 4 B.2,Cv 42 G,Iv 43 (len G),Iv 44 I.2] [Lb 2003 I.1])) (λL=>(2,(bE [Kv 0 s0,Ov 3,Iv 4 B.2] [Lb 2003 L]))) (λI=>bp 8 45 (bB 7 λf _=>jt .i64 9 2003 λg _=>pT 0 2003 0 1 false (λO=>enc O) λO _=>ED 0 λT _=>bp 3 61 aZ (jt .i64 5 2003 λU _=>pT 0 2003 0 1 false (λC=>enc C) λC _=>ED 0 λW _=>bp 3 67 (jt .i64 6 2003 λX _=>pT 0 2003 0 1 false (λD=>enc D) λD _=>jt .i64 0 2003 λY _=>z6 0 2003 λZ _=>aZ) (jt .i64 6 2003 λh _=>pT 0 2003 0 1 false (λu=>enc u) λu _=>jt .i64 2 2003 λi _=>pT 0 2003 0 1 false (λw=>enc w) λw _=>zH 0 58 ([u,w]:aX Zg) (NQ (F:=BP 45 [] (λz=>qx z) mI.sY (Sl.row [u,w]:Zb)) 0 [58] λj _=>⟨jt .i64 0 2003 λQ _=>z6 0 2003 λS _=>aZ,jt .i64 0 2003 λQ _=>z6 0 2003 λS _=>aZ⟩)))) aZ) (λL=>aZ)))) aZ) (λJ=>aZ))))
def kL(G:Zg)(J:aY bY):aY X':=(Sl.isNil G).bind λu=>(bg u (some false) ((J).bind λw=>(J).bind λz=>(gu G).bind λB=>(idx w.truth (pM (mj z.index) B 0)).bind λC=>some (!C)):aY X').bind λD=>some D
instance KK(B:Zg)(D:aY bY):Fc Sy cL (kL B D):=Fc.M 65 [enc B,.fptr (cells D)] (abz 8 λI _=>wM 1 15 [16] (λu=>(bE [Bv 21 u] [])) (cz 1 6 (bq 15) (KP 1 (λw=>(bE [Cv 0 B,Kv 1 D,Bv 6 true,Cv 7 w] [])) λz _=>KP 4 (λw=>(bE [Cv 0 B,Bv 6 true,Cv 10 z.truth,Cv 11 w] [])) λC _=>b9 4 λG _=>ZY 0 C.index G 0 (bB 0 λJ _=>bq 3))) λu=>aZ)
def oM(s0:bY)(B:Zb):aY X':=(jH B (λz=>kL z (some s0:aY bY))).bind λu=>some (!u)
instance OG(s0:bY)(B:Zb):Fc Sy cL (oM s0 B):=Fc.M 42 [.fptr (cells s0),enc B] (b9 (F:=qY 65 [.fptr (cells (some s0:aY bY))] (λz=>kL z (some s0:aY bY)) mI.sY B) 10 λu _=>aZ)
def jl(s0:bY)(D:Zb)(B:Int):aY ((Zg)×Int):=(oM s0 D).bind λu=>bg u ((idx D B).bind λw=>(Sl.isNil w).bind λz=>bg z (some (Sl.nil,7)) ((idx D B).bind λC=>((eu C).bind Sl.whole).bind λG=>some (G,0))) (some (Sl.nil,15))
instance N6(s0:bY)(D:Zb)(B:Int):Fc Sy cL (jl s0 D B):=Fc.N 19 [.fptr (cells s0),enc D,.int .i64 B] (bt 12 λw _=>cz 4 8 (bB 5 λz _=>ED 1 λC _=>bp 3 13 aZ (bB 8 λu _=>OY 1 23 iw u λG _=>aZ)) aZ)
def mR(D:Z4)(p1:T'):aY ((Zg)×Int):=(pn D p1).bind λu=>bg (u.2==0) ((u.1).bind λw=>(dQ w).bind λB=>(jl w B 0).bind λz=>some (z.1,z.2)) (some (Sl.nil,u.2))
instance Zd(B:Z4)(p1:T'):Fc Sy cL (mR B p1):=Fc.N 6 [enc B,enc p1] (bT 2 2 B (bT 0 3 p1 (bt 8 λu _=>cz 14 15 (KP 7 (λw=>(bE [Iv 7 u.2,Bv 15 false,Cv 17 w,Cv 18 w] [Xb 2 B,Xb 3 p1])) λz _=>bt 0 λC _=>bt 0 λD _=>aZ) aZ)))
def rz(B:Zg):Ps:=(dD B).bind λu=>some u
instance Zr(B:Zg):Fc Sy cL (rz B):=Fc.M 46 [enc B] (bt 8 λu _=>aZ)
namespace dK
def bF(e:bY)(i4 f g:Int)(a:Zg)(b:Int)(B:Zb)(D:Int):aY (Fw ((Zb)×Int) Zb Empty):=bg (decide (D<b)) ((idx a D).bind λu=>(Sl.jP B u).bind λc=>(Sl.get B c).bind λd=>(Sl.isNil d).bind λw=>bg w (some (.n (B,wrap .i64 (D+1)))) ((Sl.jP B i4).bind λC=>(Sl.get B C).bind λG=>(Sl.isNil G).bind λI=>bg I ((Sl.jP B u).bind λJ=>(Sl.get B J).bind λL=>(Sl.jP B i4).bind λO=>(Sl.put B O (L:Zg)).bind λQ=>some (.n (Q,wrap .i64 (D+1)))) ((Sl.jP B i4).bind λS=>(Sl.get B S).bind λT=>(Sl.jP B u).bind λU=>(Sl.get B U).bind λW=>(ec (Sl.row [T,W]:Zb) (λz=>rz z)).bind λX=>(Sl.jP B i4).bind λY=>(Sl.put B Y (X:Zg)).bind λZ=>some (.n (Z,wrap .i64 (D+1)))))) (some (.x B))
def W2(G:bY)(B:Zb)(i4 J D:Int)(U:Zg)(W Y:Int):aY (Fw ((Zb)×Int) Zb Empty):=(bG (λq:(Zb)×Int=>bF G i4 J D U W q.1 q.2) (B,Y)).bind (Fw.elim (λe=>some (.n (e,wrap .i64 (D+1)))) (λe=>elim e))
def bh(G:bY)(J:Int)(D:Zb)(B:Int):aY (Fw ((Zb)×Int) Zb Empty):=bg (decide (B<J)) ((idx G.truth B).bind λw=>bg w ((idx G.l B).bind λz=>(Sl.jP D B).bind λC=>(Sl.put D C (z:Zg)).bind λI=>some (.n (I,wrap .i64 (B+1)))) ((dG G B (-1)).bind λu=>W2 G D B J B u (len u) 0)) (some (.x D))
def W1(D:bY)(B:Zb)(G J:Int):aY Zb:=(bG (λq:(Zb)×Int=>bh D G q.1 q.2) (B,J)).bind (Fw.elim (λe=>some e) (λe=>elim e))
end dK
def dK(s0:bY):aY Zb:=(nR (len s0.l) (Sl.nil:Zg)).bind λu=>dK.W1 s0 u (len s0.l) 0
open dK in
instance M5(s0:bY):Fc Sy cL (dK s0):=Fc.N 21 [.fptr (cells s0)] (bP 11 s0.l (RX 0 12 λa _=>bP 10 s0.l (eo 6 (λB=>(bE [Kv 0 s0,Ov 3,Iv 17 (len s0.l),Iv 18 B.2] [Lb 2003 B.1])) (λJ=>(0,(bE [Ov 3] [Lb 2003 J]))) (λB=>bp 8 19 (bB 19 λb _=>bp 3 27 (bB 10 λc _=>jt .i64 1 2003 λd _=>z6 0 2003 λe _=>aZ) (bt 7 λG _=>bP 0 G (eo 6 (λI=>(bE [Kv 0 s0,Ov 3,Iv 4 B.2,Iv 17 (len s0.l),Iv 18 B.2,Cv 40 G,Iv 41 (len G),Iv 42 I.2] [Lb 2003 I.1])) (λL=>(2,(bE [Kv 0 s0,Ov 3,Iv 17 (len s0.l),Iv 18 B.2] [Lb 2003 L]))) (λI=>bp 8 43 (bB 7 λf _=>jt .i64 9 2003 λg _=>pT 0 2003 0 1 false (λO=>enc O) λO _=>ED 0 λT _=>bp 3 59 aZ (jt .i64 5 2003 λU _=>pT 0 2003 0 1 false (λC=>enc C) λC _=>ED 0 λW _=>bp 3 65 (jt .i64 6 2003 λX _=>pT 0 2003 0 1 false (λD=>enc D) λD _=>jt .i64 0 2003 λY _=>z6 0 2003 λZ _=>aZ) (jt .i64 6 2003 λh _=>pT 0 2003 0 1 false (λu=>enc u) λu _=>jt .i64 2 2003 λi _=>pT 0 2003 0 1 false (λw=>enc w) λw _=>zH 0 56 ([u,w]:aX Zg) (NQ (F:=BP 46 [] (λz=>rz z) mI.sY (Sl.row [u,w]:Zb)) 0 [56] λj _=>⟨jt .i64 0 2003 λQ _=>z6 0 2003 λS _=>aZ,jt .i64 0 2003 λQ _=>z6 0 2003 λS _=>aZ⟩)))) aZ) (λL=>aZ)))) aZ) (λJ=>aZ))))
def ko(D:Z4)(p1:T'):aY ((Zg)×Int):=(pn D p1).bind λu=>bg (u.2==0) ((u.1).bind λw=>(dK w).bind λB=>(jl w B (wrap .i64 ((len w.l)-1))).bind λz=>some (z.1,z.2)) (some (Sl.nil,u.2))
instance Tn(B:Z4)(p1:T'):Fc Sy cL (ko B p1):=Fc.N 7 [enc B,enc p1] (bT 2 2 B (bT 0 3 p1 (bt 8 λu _=>cz 14 15 (KP 7 (λw=>(bE [Cv 6 w,Iv 7 u.2,Bv 15 false,Cv 17 w,Cv 18 w] [Xb 2 B,Xb 3 p1])) λz _=>bt 0 λC _=>bP 4 z.l (bt 1 λD _=>aZ)) aZ)))
namespace kz
def bh(B:Int)(D:T')(G J:Int)(r:(T'×Int)->Ps):aY (Fw (Int×Int) Int Empty):=bg (decide (J<(len D.l))) ((idx D.l J).bind λw=>(r (w,wrap .i64 (B-1))).bind λu=>some (.n ((if u>G then u else G),wrap .i64 (J+1)))) (some (.x G))
def W1(B G J:Int)(D:T')(r:(T'×Int)->Ps):Ps:=(bG (λq:Int×Int=>bh B D q.1 q.2 r) (G,J)).bind (Fw.elim (λe=>some (wrap .i64 (e+1))) (λe=>elim e))
end kz
def iW(D:T')(B:Int)(r:(T'×Int)->Ps):Ps:=bg (B==0) (some 1) (kz.W1 B 0 0 D r)
open kz in
theorem D1(r:(T'×Int)->Ps)(a:eV Sy cL 130 (λz:T'×Int=>[enc z.1,.int .i64 z.2]) (λr:Int=>[.int .i64 r]) r true)(D:T')(B:Int):Le ((iW D B r).bind λr=>some [.int .i64 r]) (gZ cL 130 [enc D,.int .i64 B]):=(Fc.M 130 [enc D,.int .i64 B] (bT 2 2 D (bp 15 8 aZ (eo 11 (λu=>(bE [Iv 1 B,Pv 2,Iv 5 u.1,Iv 6 u.2] [Xb 2 D])) (λw=>(0,(bE [Iv 5 w] []))) (λu=>dN 7 11 (Pred.fe D.l) (bP 0 D.l (bp 3 13 (dN 9 18 (Pred.fe D.l) (bB 1 λC _=>bt (F:=Fc.of (C,wrap .i64 (B-1)) a) 3 λG _=>aZ)) aZ))) (λw=>aZ)))):Fc Sy cL (iW D B r)).F.h ()
def kz(D:T')(B:Int):Ps:=dI (λr(z:T'×Int)=>iW z.1 z.2 r) 100000 (D,B)
instance Y_(D:T')(B:Int):Fc Sy cL (kz D B):=Fc.of (D,B) (eV.fix (A:=λz:T'×Int=>[enc z.1,.int .i64 z.2]) (E:=λr:Int=>[.int .i64 r]) (sc:=true) (b:=(λr(z:T'×Int)=>iW z.1 z.2 r)) Zae (λ_ _=>rfl) (λr a z=>D1 r a z.1 z.2) 100000)
def mN(B:Int):Ps:=(bg (decide (B>=1)) (some (decide (B<=4))) (some false):aY X').bind λu=>(bg u (some true) (some (B==13)):aY X').bind λw=>(bg w (some true) (some (B==14)):aY X').bind λz=>bg z (some 0) ((bg (B==5) (some true) (some (B==15)):aY X').bind λC=>(bg C (some true) ((bg (decide (B>=18)) (some (decide (B<=21))) (some false):aY X').bind λD=>some D):aY X').bind λG=>bg G (some 1) ((bg (decide (B>=6)) (some (decide (B<=12))) (some false):aY X').bind λI=>(bg I (some true) (some (B==16)):aY X').bind λJ=>(bg J (some true) (some (B==17)):aY X').bind λL=>bg L (some 2) (some (-1))))
instance X6(B:Int):Fc Sy cL (mN B):=Fc.M 164 [.int .i64 B] (bJ 11 3 [5] 8 (bp 11 5 (bq 3) (bq 3)) λu=>bJ 1 3 [9] 12 (bp 1 9 (bq 3) (bq 3)) λw=>bJ 1 3 [13] 16 (bp 1 13 (bq 3) (bq 3)) λz=>bp 2 16 aZ (bJ 9 3 [19] 22 (bp 9 19 (bq 3) (bq 3)) λC=>bJ 1 7 [23] 30 (bp 1 23 (bq 7) (bJ 3 3 [26] 29 (bp 3 26 (bq 3) (bq 3)) λD=>bq 1)) λG=>bp 2 30 aZ (bJ 9 3 [33] 36 (bp 9 33 (bq 3) (bq 3)) λI=>bJ 1 3 [37] 40 (bp 1 37 (bq 3) (bq 3)) λJ=>bJ 1 3 [0,41] 44 (bp 1 41 (bq 3) (bq 3)) λL=>bp 2 44 aZ aZ)))
namespace gq
def bF(B:T')(i3:Int)(r:T'->aY X'):aY (Fw Int Unit Unit):=bg (decide (i3<(len B.l))) ((idx B.l i3).bind λu=>(r u).bind λw=>bg w (some (.n (wrap .i64 (i3+1)))) (some (.r ()))) (some (.x ()))
def W2(i3:Int)(B:T')(r:T'->aY X'):aY X':=(bG (λq:Int=>bF B q r) i3).bind (Fw.elim (λe=>some true) (λe=>some false))
def J1(B:T')(r:T'->aY X'):aY X':=(bg (decide (B.kind<2)) (some true) (some (decide (B.kind>4))):aY X').bind λu=>(bg u ((bg (B.proc==0) (some (!(B.peer==0))) (some true):aY X').bind λw=>(bg w (some true) (some (!(toList B.name==toList ByteArray.empty))):aY X').bind λz=>some z) (some false):aY X').bind λC=>bg C (some false) (gq.W2 0 B r)
theorem nh(r:T'->aY X')(a:eV Sy cL 131 (λz:T'=>[enc z]) (λr:X'=>[.bool r]) r true)(B:T'):Le ((J1 B r).bind (λr=>some [.bool r])) (b7 Sy cL (p8 (tr Tx 131)) (rM (tb Tx 131) [1,1,1,0] [] (bE [Pv 1] [Xb 1 B]))):=bJ 7 4 [28] 32 (bp 7 28 (bq 4) (bq 4)) λD=>bJ 1 14 [33] 47 (bp 1 33 (bJ 4 4 [37] 41 (cz 4 37 (bq 4) (bq 4)) λG=>bJ 1 4 [42] 46 (bp 1 42 (bq 4) (bq 4)) λI=>bq 1) (bq 14)) λJ=>bp 2 47 aZ (dx 11 (λw=>(bE [Pv 1,Iv 3 w] [Xb 1 B])) (λu=>(0,(bE [] []))) (λu=>(bE [Bv 2 false] [])) (λw=>dN 7 50 (Pred.fe B.l) (bP 0 B.l (bp 3 52 (dN 9 56 (Pred.fe B.l) (bB 1 λC _=>bt (F:=Fc.of C a) 1 λL _=>cz 3 61 aZ aZ)) aZ))) (λu=>aZ) (λu=>aZ))
end gq
def gI(B:T')(r:T'->aY X'):aY X':=(mN B.kind).bind λu=>bg (u==(len B.l)) (bg (B.kind==1) ((bg (decide (B.n<0)) (some true) (some (decide (B.n>1125899906842624))):aY X').bind λw=>bg w (some false) (gq.J1 B r)) (bg (B.n==0) (gq.J1 B r) (some false))) (some false)
open gq in
theorem D3(r:T'->aY X')(a:eV Sy cL 131 (λz:T'=>[enc z]) (λr:X'=>[.bool r]) r true)(B:T'):Le ((gI B r).bind λr=>some [.bool r]) (gZ cL 131 [enc B]):=(Fc.M 131 [enc B] (bT 2 1 B (b9 8 λu _=>dN 2 8 (Pred.fe B.l) (bP 0 B.l (cz 3 10 (bp 11 13 (bJ 7 4 [17] 21 (bp 7 17 (bq 4) (bq 4)) λw=>bp 2 21 aZ (nL 4 (nh r a B))) (cz 8 24 (nL 4 (nh r a B)) aZ)) aZ)))):Fc Sy cL (gI B r)).F.h ()
def gq(B:T'):aY X':=dI (λr(z:T')=>gI z r) 100000 B
instance Xl(B:T'):Fc Sy cL (gq B):=Fc.of B (eV.fix (A:=λz:T'=>[enc z]) (E:=λr:X'=>[.bool r]) (sc:=true) (b:=(λr(z:T')=>gI z r)) Zae (λ_ _=>rfl) (λr a z=>D3 r a z) 100000)
def oW(B:T'):aY X':=(pW B).bind λu=>(bg (decide (u<=200)) ((kz B 21).bind λw=>some (decide (w<=20))) (some false):aY X').bind λz=>(bg z ((gq B).bind λC=>some C) (some false):aY X').bind λD=>some D
instance WD(B:T'):Fc Sy cL (oW B):=Fc.M 99 [enc B] (bT 2 1 B (bt 6 λu _=>bJ 2 4 [6] 10 (bp 2 6 (bt 1 λw _=>bq 2) (bq 4)) λz=>bJ 1 3 [1,11] 14 (bp 1 11 (bt 1 λC _=>bq 1) (bq 3)) λD=>aZ))
def pL(B:Z4)(p1:Int):aY X':=(bg (decide (p1>=0)) (some (decide (p1<(len B.procs)))) (some false):aY X').bind λu=>some u
instance ZH(B:Z4)(p1:Int):Fc Sy cL (pL B p1):=Fc.M 161 [enc B,.int .i64 p1] (bT 2 2 B (bJ 8 6 [1,2,7] 13 (bp 8 7 (bP 3 B.procs (bq 2)) (bq 6)) λu=>aZ))
namespace jX
def bh(p1:Int)(B:U')(D:Z4)(G:Int):aY (Fw Int Unit Int):=(idx D.procs p1).bind λu=>bg (decide (G<(len u.vars))) ((idx D.procs p1).bind λw=>(idx w.vars G).bind λz=>bg (toList z.name==toList B) (some (.r G)) (some (.n (wrap .i64 (G+1))))) (some (.x ()))
def W1(p1:Int)(B:U')(G:Int)(D:Z4):Ps:=(bG (λq:Int=>bh p1 B D q) G).bind (Fw.elim (λe=>some (-1)) (λe=>some e))
end jX
def jX(D:Z4)(p1:Int)(B:U'):Ps:=jX.W1 p1 B 0 D
open jX in
instance aa8(D:Z4)(p1:Int)(B:U'):Fc Sy cL (jX D p1 B):=Fc.M 162 [enc D,.int .i64 p1,.str B] (bT 2 3 D (dx 11 (λw=>(bE [Iv 1 p1,(2,.v (.str B)),Pv 3,Iv 7 w] [Xb 3 D])) (λu=>(0,(bE [] []))) (λu=>(bE [Iv 6 u] [])) (λw=>bB 8 λz _=>bP 2 z.vars (bp 3 16 (bB 10 λC _=>bB 3 λG _=>bp 6 30 aZ aZ) aZ)) (λu=>aZ) (λu=>aZ)))
namespace gL
def bh(D:Z4)(B:T')(G:Int)(r:(Z4×T')->aY X'):aY (Fw Int Unit Unit):=bg (decide (G<(len B.l))) ((idx B.l G).bind λu=>(r (D,u)).bind λw=>bg w (some (.n (wrap .i64 (G+1)))) (some (.r ()))) (some (.x ()))
def W1(G:Int)(B:Z4)(D:T')(r:(Z4×T')->aY X'):aY X':=(bG (λq:Int=>bh B D q r) G).bind (Fw.elim (λe=>some true) (λe=>some false))
end gL
def gy(B:Z4)(p1:T')(r:(Z4×T')->aY X'):aY X':=(bg (p1.kind==2) ((pL B p1.proc).bind λI=>(bg I (some (!(p1.peer==0))) (some true):aY X').bind λJ=>(bg J (some true) ((jX B p1.proc p1.name).bind λL=>some (decide (L<0))):aY X').bind λO=>some O) (some false):aY X').bind λQ=>bg Q (some false) ((bg (p1.kind==3) ((pL B p1.proc).bind λS=>(bg S (some (!(p1.peer==0))) (some true):aY X').bind λT=>(bg T (some true) (some (!(toList p1.name==toList ByteArray.empty))):aY X').bind λU=>some U) (some false):aY X').bind λW=>bg W (some false) ((bg (p1.kind==4) ((pL B p1.proc).bind λu=>(bg u ((pL B p1.peer).bind λw=>some (!w)) (some true):aY X').bind λz=>(bg z (some true) (some (p1.proc==p1.peer)):aY X').bind λC=>(bg C (some true) (some (!(toList p1.name==toList ByteArray.empty))):aY X').bind λD=>some D) (some false):aY X').bind λG=>bg G (some false) (gL.W1 0 B p1 r)))
open gL in
theorem Bj(r:(Z4×T')->aY X')(a:eV Sy cL 126 (λz:Z4×T'=>[enc z.1,enc z.2]) (λr:X'=>[.bool r]) r true)(B:Z4)(p1:T'):Le ((gy B p1 r).bind λr=>some [.bool r]) (gZ cL 126 [enc B,enc p1]):=(Fc.M 126 [enc B,enc p1] (bT 2 2 B (bT 0 3 p1 (bJ 10 20 [9] 29 (bp 10 9 (bt 3 λS _=>bJ 2 4 [15] 19 (cz 2 15 (bq 4) (bq 4)) λT=>bJ 1 8 [20] 28 (bp 1 20 (bq 8) (bt 5 λU _=>bq 2)) λW=>bq 1) (bq 20)) λX=>bp 2 29 aZ (bJ 10 16 [33] 49 (bp 10 33 (bt 3 λY _=>bJ 2 4 [39] 43 (cz 2 39 (bq 4) (bq 4)) λZ=>bJ 1 4 [44] 48 (bp 1 44 (bq 4) (bq 4)) λb=>bq 1) (bq 16)) λc=>bp 2 49 aZ (bJ 10 25 [53] 78 (bp 10 53 (bt 3 λD _=>bJ 2 6 [59] 65 (cz 2 59 (bt 3 λG _=>bq 2) (bq 6)) λI=>bJ 1 6 [66] 72 (bp 1 66 (bq 6) (bq 6)) λJ=>bJ 1 4 [73] 77 (bp 1 73 (bq 4) (bq 4)) λL=>bq 1) (bq 25)) λO=>bp 2 78 aZ (dx 11 (λw=>(bE [Pv 2,Pv 3,Iv 5 w] [Xb 2 B,Xb 3 p1])) (λu=>(0,(bE [] []))) (λu=>(bE [Bv 4 false] [])) (λw=>dN 7 81 (Pred.fe p1.l) (bP 0 p1.l (bp 3 83 (dN 10 88 (Pred.fe p1.l) (bB 1 λC _=>b9 (F:=Fc.of (B,C) a) 1 λQ _=>cz 3 93 aZ aZ)) aZ))) (λu=>aZ) (λu=>aZ))))))):Fc Sy cL (gy B p1 r)).F.h ()
def gL(B:Z4)(p1:T'):aY X':=dI (λr(z:Z4×T')=>gy z.1 z.2 r) 100000 (B,p1)
instance Tf(B:Z4)(p1:T'):Fc Sy cL (gL B p1):=Fc.of (B,p1) (eV.fix (A:=λz:Z4×T'=>[enc z.1,enc z.2]) (E:=λr:X'=>[.bool r]) (sc:=true) (b:=(λr(z:Z4×T')=>gy z.1 z.2 r)) Zae (λ_ _=>rfl) (λr a z=>Bj r a z.1 z.2) 100000)
def rJ(B:T'):Ps:=bg (decide (B.kind<=8)) (some 1) (some 2)
instance ZK(B:T'):Fc Sy cL (rJ B):=Fc.M 129 [enc B] (bT 2 1 B (bp 11 5 aZ aZ))
namespace gP
def J2(i3 B:Int)(D:T')(r:T'->aY X'):aY (Fw Int Unit Unit):=(idx D.l i3).bind λu=>(rJ u).bind λw=>(bg (w==B) ((idx D.l i3).bind λz=>(r z).bind λC=>some (!C)) (some true):aY X').bind λG=>bg G (some (.r ())) (some (.n (wrap .i64 (i3+1))))
def bh(B:T')(i3:Int)(r:T'->aY X'):aY (Fw Int Unit Unit):=bg (decide (i3<(len B.l))) (bg (decide (B.kind>=15)) (J2 i3 2 B r) (J2 i3 1 B r)) (some (.x ()))
def W1(i3:Int)(B:T')(r:T'->aY X'):aY X':=(bG (λq:Int=>bh B q r) i3).bind (Fw.elim (λe=>some true) (λe=>some false))
end gP
def jS(B:T')(r:T'->aY X'):aY X':=gP.W1 0 B r
open gP in
theorem DZ(r:T'->aY X')(a:eV Sy cL 127 (λz:T'=>[enc z]) (λr:X'=>[.bool r]) r true)(B:T'):Le ((jS B r).bind λr=>some [.bool r]) (gZ cL 127 [enc B]):=(Fc.M 127 [enc B] (bT 2 1 B (dx 11 (λC=>(bE [Pv 1,Iv 3 C] [Xb 1 B])) (λu=>(0,(bE [] []))) (λu=>(bE [Bv 2 false] [])) (λC=>dN 7 7 (Pred.fe B.l) (bP 0 B.l (bp 3 9 (bp 18 14 (qD 6 (dN 4 16 (Pred.fe B.l) (bB 1 λD _=>bt 1 λG _=>bJ 3 8 [23] 31 (cz 3 23 (dN 2 25 (Pred.fe B.l) (bB 1 λw _=>bt (F:=Fc.of w a) 1 λI _=>bq 2)) (bq 8)) λJ=>bp 2 31 aZ aZ))) (qD 4 (dN 4 16 (Pred.fe B.l) (bB 1 λD _=>bt 1 λG _=>bJ 3 8 [23] 31 (cz 3 23 (dN 2 25 (Pred.fe B.l) (bB 1 λw _=>bt (F:=Fc.of w a) 1 λI _=>bq 2)) (bq 8)) λJ=>bp 2 31 aZ aZ)))) aZ))) (λu=>aZ) (λu=>aZ))):Fc Sy cL (jS B r)).F.h ()
def gP(B:T'):aY X':=dI (λr(z:T')=>jS z r) 100000 B
instance Yq(B:T'):Fc Sy cL (gP B):=Fc.of B (eV.fix (A:=λz:T'=>[enc z]) (E:=λr:X'=>[.bool r]) (sc:=true) (b:=(λr(z:T')=>jS z r)) Zae (λ_ _=>rfl) (λr a z=>DZ r a z) 100000)
namespace gp
def bF(p1 J U:Int)(G:Sl Assign)(W:Z4)(D B AU:Int):aY (Fw (Int×Int×Int) (Int×Int) Empty):=bg (decide (AU<(len G))) ((idx G AU).bind λz=>bg (z.var==J) ((idx G AU).bind λu=>(idx G AU).bind λw=>some (.n ((if u.value<D then u.value else D),(if w.value>B then w.value else B),wrap .i64 (AU+1)))) (some (.n (D,B,wrap .i64 (AU+1))))) (some (.x (D,B)))
def W2(p1 W D B G:Int)(J:Sl Assign)(AU:Int)(U:Z4):aY (Fw (Int×Int×Int) (Int×Int) Empty):=(bG (λq:Int×Int×Int=>bF p1 W G J U q.1 q.2.1 q.2.2) (D,B,AU)).bind (Fw.elim (λe=>some (.n (e.1,e.2,wrap .i64 (G+1)))) (λe=>elim e))
def bh(p1 U:Int)(G:Z4)(D B J:Int):aY (Fw (Int×Int×Int) (Int×Int) Empty):=(idx G.procs p1).bind λu=>bg (decide (J<(len u.events))) ((idx G.procs p1).bind λw=>(idx w.events J).bind λz=>W2 p1 U D B J z.assign 0 G) (some (.x (D,B)))
def W1(p1 U D B G:Int)(J:Z4):aY (Int×Int):=(bG (λq:Int×Int×Int=>bh p1 U J q.1 q.2.1 q.2.2) (D,B,G)).bind (Fw.elim (λe=>some (e.1,e.2)) (λe=>elim e))
end gp
def gp(B:Z4)(p1 D:Int):aY (Int×Int):=(idx B.procs p1).bind λw=>(idx w.vars D).bind λu=>gp.W1 p1 D u.init_ u.init_ 0 B
open gp in
instance Yh(D:Z4)(p1 G:Int):Fc Sy cL (gp D p1 G):=Fc.M 185 [enc D,.int .i64 p1,.int .i64 G] (bT 2 3 D (bB 9 λJ _=>bB 3 λL _=>eo 19 (λu=>(bE [Iv 1 p1,Iv 2 G,Pv 3,Iv 8 u.1,Iv 9 u.2.1,Iv 10 u.2.2] [Xb 3 D])) (λz=>(0,(bE [Iv 8 z.1,Iv 9 z.2] []))) (λu=>bB 8 λI _=>bP 2 I.events (bp 3 32 (bB 10 λO _=>bB 3 λC _=>eo 12 (λw=>(bE [Iv 1 p1,Iv 2 G,Pv 3,Iv 8 w.1,Iv 9 w.2.1,Iv 10 u.2.2,Cv 11 C.assign,Iv 12 w.2.2] [Xb 3 D])) (λB=>(2,(bE [Iv 1 p1,Iv 2 G,Pv 3,Iv 8 B.1,Iv 9 B.2,Iv 10 u.2.2] [Xb 3 D]))) (λw=>bP 6 C.assign (bp 3 48 (bB 9 λQ _=>bp 6 57 (bB 5 λS _=>bB 6 λT _=>aZ) aZ) aZ)) (λB=>aZ)) aZ)) (λz=>aZ)))
namespace jK
def bh(p1 G:Int)(B:Z4)(D a:Int):aY (Fw (Int×Int) Int Empty):=(idx B.procs p1).bind λw=>bg (decide (a<(len w.events))) ((idx B.procs p1).bind λz=>(idx z.events a).bind λu=>(bg (u.kind==2) (some (u.peer==G)) (some false):aY X').bind λC=>bg C (some (.n (wrap .i64 (D+1),wrap .i64 (a+1)))) (some (.n (D,wrap .i64 (a+1))))) (some (.x D))
def W1(p1 D G a:Int)(B:Z4):Ps:=(bG (λq:Int×Int=>bh p1 D B q.1 q.2) (G,a)).bind (Fw.elim (λe=>some e) (λe=>elim e))
end jK
def jK(B:Z4)(p1 D:Int):Ps:=jK.W1 p1 D 0 0 B
open jK in
instance Zk(B:Z4)(p1 D:Int):Fc Sy cL (jK B p1 D):=Fc.M 186 [enc B,.int .i64 p1,.int .i64 D] (bT 2 3 B (eo 16 (λu=>(bE [Iv 1 p1,Iv 2 D,Pv 3,Iv 7 u.1,Iv 8 u.2] [Xb 3 B])) (λw=>(0,(bE [Iv 7 w] []))) (λu=>bB 8 λz _=>bP 2 z.events (bp 3 18 (bB 10 λG _=>bB 3 λC _=>pz 2 9 0 C (bJ 8 5 [9,33] 38 (bp 8 33 (bq 5) (bq 5)) λI=>bp 2 38 aZ aZ)) aZ)) (λw=>aZ)))
namespace cR
def J1(a0 B:Int):Ps:=some (wrap .i64 (a0*B))
end cR
def cR(a0 B:Int):Ps:=(bg (a0==0) (some false) (some (!(B==0))):aY X').bind λu=>bg u ((BC .i64 1125899906842624 (if(wrap .i64 (0-B))>B then(wrap .i64 (0-B))else B)).bind λw=>bg (decide ((if(wrap .i64 (0-a0))>a0 then(wrap .i64 (0-a0))else a0)>w)) (bg ((decide (a0<0))==(decide (B<0))) (some 1125899906842625) (some (-1125899906842625))) (cR.J1 a0 B)) (cR.J1 a0 B)
open cR in
instance YJ(a0 B:Int):Fc Sy cL (cR a0 B):=Fc.M 187 [.int .i64 a0,.int .i64 B] (bJ 11 3 [9] 12 (cz 11 9 (bq 3) (bq 3)) λu=>bp 2 12 (abb 19 λw _=>bp 3 24 (cz 11 29 aZ aZ) (qD 4 (aZ))) (qD 4 (aZ)))
namespace bU
def J3(D B:Int)(r:(Z4×T')->aY (Int×Int×X')):aY (Int×Int×X'):=(bg (decide (D>=(-1125899906842624))) (some (decide (B<=1125899906842624))) (some false):aY X').bind λu=>some (D,B,u)
def J2(a b c U:Int)(d W:X')(Y:Z4)(B:T')(r:(Z4×T')->aY (Int×Int×X')):aY (Int×Int×X'):=(bg d (some (!W)) (some true):aY X').bind λO=>bg O (some (0,0,false)) (bg (B.kind==1) (bU.J3 B.n B.n r) (bg (B.kind==2) ((jX Y B.proc B.name).bind λQ=>(gp Y B.proc Q).bind λL=>bU.J3 L.1 L.2 r) (bg (B.kind==3) ((idx Y.procs B.proc).bind λS=>bU.J3 0 (len S.events) r) (bg (B.kind==4) ((jK Y B.proc B.peer).bind λT=>bU.J3 0 T r) (bg (B.kind==5) (bU.J3 (wrap .i64 (0-b)) (wrap .i64 (0-a)) r) (bg (B.kind==6) (bU.J3 (wrap .i64 (a+c)) (wrap .i64 (b+U)) r) (bg (B.kind==7) (bU.J3 (wrap .i64 (a-U)) (wrap .i64 (b-c)) r) ((cR a c).bind λu=>(cR a U).bind λw=>(cR b c).bind λz=>(cR b U).bind λC=>(cR a c).bind λD=>(cR a U).bind λG=>(cR b c).bind λI=>(cR b U).bind λJ=>bU.J3 (if(if C<z then C else z)<(if w<u then w else u)then(if C<z then C else z)else(if w<u then w else u)) (if(if J>I then J else I)>(if G>D then G else D)then(if J>I then J else I)else(if G>D then G else D)) r))))))))
def J1(W Y a U:Int)(G B:X')(J:Z4)(D:T')(r:(Z4×T')->aY (Int×Int×X')):aY (Int×Int×X'):=bg (decide ((len D.l)>1)) ((idx D.l 1).bind λw=>(r (J,w)).bind λu=>bU.J2 W Y u.1 u.2.1 G u.2.2 J D r) (bU.J2 W Y a U G B J D r)
theorem zy(r:(Z4×T')->aY (Int×Int×X'))(a:eV Sy cL 163 (λz:Z4×T'=>[enc z.1,enc z.2]) (λr:Int×Int×X'=>[.int .i64 r.1,.int .i64 r.2.1,.bool r.2.2]) r true)(D B:Int):Le ((J3 D B r).bind (λr=>some [.int .i64 r.1,.int .i64 r.2.1,.bool r.2.2])) (b7 Sy cL (p8 (tr Tx 163)) (rM (tb Tx 163) [1,1,1,1,0,1,0,1,1,1,0] [] (bE [Iv 13 D,Iv 14 B] []))):=bJ 7 3 [14,151] 154 (bp 7 151 (bq 3) (bq 3)) λu=>aZ
theorem WI(r:(Z4×T')->aY (Int×Int×X'))(a:eV Sy cL 163 (λz:Z4×T'=>[enc z.1,enc z.2]) (λr:Int×Int×X'=>[.int .i64 r.1,.int .i64 r.2.1,.bool r.2.2]) r true)(b c d U:Int)(Y B:X')(e:Z4)(W:T'):Le ((J2 b c d U Y B e W r).bind (λr=>some [.int .i64 r.1,.int .i64 r.2.1,.bool r.2.2])) (b7 Sy cL (p8 (tr Tx 163)) (rM (tb Tx 163) [1,1,1,1,0,1,0] [] (bE [Pv 2,Pv 3,Iv 7 b,Iv 8 c,Iv 9 d,Iv 10 U,Bv 11 Y,Bv 12 B] [Xb 2 e,Xb 3 W]))):=bJ 6 3 [12,45] 48 (cz 6 45 (bq 3) (bq 3)) λT=>bp 2 48 aZ (bp 17 51 (nL 11 (zy r a W.n W.n)) (bp 8 58 (b9 10 λX _=>b9 0 λO _=>nL 8 (zy r a O.1 O.2)) (bp 8 74 (bB 6 λQ _=>bP 2 Q.events (nL 4 (zy r a 0 (len Q.events)))) (bp 8 85 (bt 7 λS _=>nL 4 (zy r a 0 S)) (bp 8 94 (nL 11 (zy r a (wrap .i64 (0-c)) (wrap .i64 (0-b)))) (bp 8 101 (nL 13 (zy r a (wrap .i64 (b+d)) (wrap .i64 (c+U)))) (bp 8 110 (nL 13 (zy r a (wrap .i64 (b-U)) (wrap .i64 (c-d)))) (bt 5 λu _=>bt 2 λw _=>bt 3 λC _=>bt 2 λD _=>bt 8 λG _=>bt 2 λI _=>bt 3 λJ _=>bt 2 λL _=>nL 6 (zy r a (if(if D<C then D else C)<(if w<u then w else u)then(if D<C then D else C)else(if w<u then w else u)) (if(if L>J then L else J)>(if I>G then I else G)then(if L>J then L else J)else(if I>G then I else G)))))))))))
theorem nh(r:(Z4×T')->aY (Int×Int×X'))(a:eV Sy cL 163 (λz:Z4×T'=>[enc z.1,enc z.2]) (λr:Int×Int×X'=>[.int .i64 r.1,.int .i64 r.2.1,.bool r.2.2]) r true)(W Y b U:Int)(G B:X')(J:Z4)(D:T'):Le ((J1 W Y b U G B J D r).bind (λr=>some [.int .i64 r.1,.int .i64 r.2.1,.bool r.2.2])) (b7 Sy cL (p8 (tr Tx 163)) (rM (tb Tx 163) [1,1,1,1,0] [] (bE [Pv 2,Pv 3,Iv 7 W,Iv 8 Y,Iv 9 b,Iv 10 U,Bv 11 G,Bv 12 B] [Xb 2 J,Xb 3 D]))):=dN 5 30 (Pred.fe D.l) (bP 0 D.l (bp 3 32 (dN 5 36 (Pred.fe D.l) (bB 0 λw _=>b9 (F:=Fc.of (J,w) a) 1 λu _=>nL 10 (WI r a W Y u.1 u.2.1 G u.2.2 J D))) (nL 4 (WI r a W Y b U G B J D))))
end bU
def ij(B:Z4)(p1:T')(r:(Z4×T')->aY (Int×Int×X')):aY (Int×Int×X'):=bg (decide ((len p1.l)>0)) ((idx p1.l 0).bind λw=>(r (B,w)).bind λu=>bU.J1 u.1 u.2.1 0 0 u.2.2 true B p1 r) (bU.J1 0 0 0 0 true true B p1 r)
open bU in
theorem A5(r:(Z4×T')->aY (Int×Int×X'))(a:eV Sy cL 163 (λz:Z4×T'=>[enc z.1,enc z.2]) (λr:Int×Int×X'=>[.int .i64 r.1,.int .i64 r.2.1,.bool r.2.2]) r true)(B:Z4)(p1:T'):Le ((ij B p1 r).bind λr=>some [.int .i64 r.1,.int .i64 r.2.1,.bool r.2.2]) (gZ cL 163 [enc B,enc p1]):=(Fc.M 163 [enc B,enc p1] (bT 2 2 B (bT 0 3 p1 (dN 24 16 (Pred.fe p1.l) (bP 0 p1.l (bp 3 18 (dN 5 22 (Pred.fe p1.l) (bB 0 λw _=>b9 (F:=Fc.of (B,w) a) 1 λu _=>nL 10 (nh r a u.1 u.2.1 0 0 u.2.2 true B p1))) (nL 4 (nh r a 0 0 0 0 true true B p1))))))):Fc Sy cL (ij B p1 r)).F.h ()
def bU(B:Z4)(p1:T'):aY (Int×Int×X'):=dI (λr(z:Z4×T')=>ij z.1 z.2 r) 100000 (B,p1)
instance Te(B:Z4)(p1:T'):Fc Sy cL (bU B p1):=Fc.of (B,p1) (eV.fix (A:=λz:Z4×T'=>[enc z.1,enc z.2]) (E:=λr:Int×Int×X'=>[.int .i64 r.1,.int .i64 r.2.1,.bool r.2.2]) (sc:=true) (b:=(λr(z:Z4×T')=>ij z.1 z.2 r)) Zae (λ_ _=>rfl) (λr a z=>A5 r a z.1 z.2) 100000)
namespace lJ
def bh(D:Z4)(B:T')(a:Int)(r:(Z4×T')->aY X'):aY (Fw Int Unit Unit):=bg (decide (a<(len B.l))) ((idx B.l a).bind λu=>(r (D,u)).bind λw=>bg w (some (.n (wrap .i64 (a+1)))) (some (.r ()))) (some (.x ()))
def W1(a:Int)(B:Z4)(D:T')(r:(Z4×T')->aY X'):aY X':=(bG (λq:Int=>bh B D q r) a).bind (Fw.elim (λe=>some true) (λe=>some false))
end lJ
def kU(B:Z4)(p1:T')(r:(Z4×T')->aY X'):aY X':=(rJ p1).bind λu=>bg (u==1) ((bU B p1).bind λw=>some w.2.2) (lJ.W1 0 B p1 r)
open lJ in
theorem EC(r:(Z4×T')->aY X')(a:eV Sy cL 128 (λz:Z4×T'=>[enc z.1,enc z.2]) (λr:X'=>[.bool r]) r true)(B:Z4)(p1:T'):Le ((kU B p1 r).bind λr=>some [.bool r]) (gZ cL 128 [enc B,enc p1]):=(Fc.M 128 [enc B,enc p1] (bT 2 2 B (bT 0 3 p1 (bt 7 λD _=>bp 3 11 (bt 5 λG _=>aZ) (dx 11 (λw=>(bE [Pv 2,Pv 3,Iv 8 w] [Xb 2 B,Xb 3 p1])) (λu=>(0,(bE [] []))) (λu=>(bE [Bv 4 false] [])) (λw=>dN 7 22 (Pred.fe p1.l) (bP 0 p1.l (bp 3 24 (dN 10 29 (Pred.fe p1.l) (bB 1 λC _=>b9 (F:=Fc.of (B,C) a) 1 λI _=>cz 3 34 aZ aZ)) aZ))) (λu=>aZ) (λu=>aZ))))):Fc Sy cL (kU B p1 r)).F.h ()
def lJ(B:Z4)(p1:T'):aY X':=dI (λr(z:Z4×T')=>kU z.1 z.2 r) 100000 (B,p1)
instance Zs(B:Z4)(p1:T'):Fc Sy cL (lJ B p1):=Fc.of (B,p1) (eV.fix (A:=λz:Z4×T'=>[enc z.1,enc z.2]) (E:=λr:X'=>[.bool r]) (sc:=true) (b:=(λr(z:Z4×T')=>kU z.1 z.2 r)) Zae (λ_ _=>rfl) (λr a z=>EC r a z.1 z.2) 100000)
def vt(B:Z4)(p1:T'):Ps:=(sS B).bind λu=>(bg u ((oW p1).bind λw=>some (!w)) (some true):aY X').bind λz=>bg z (some 1) ((gL B p1).bind λC=>bg C ((gP p1).bind λD=>bg D ((lJ B p1).bind λG=>bg G (some 0) (some 9)) (some 14)) (some 13))
instance Yo(B:Z4)(p1:T'):Fc Sy cL (vt B p1):=Fc.M 97 [enc B,enc p1] (bT 2 2 B (bT 0 3 p1 (bt 7 λu _=>bJ 2 4 [8] 12 (cz 2 8 (bt 1 λw _=>bq 2) (bq 4)) λz=>bp 2 12 aZ (bt 8 λC _=>cz 3 16 (bt 7 λD _=>cz 3 19 (bt 8 λG _=>cz 3 23 aZ aZ) aZ) aZ))))
def wO(B:T'):aY (Int×Int):=(oW B).bind λu=>bg u ((gP B).bind λw=>bg w ((rJ B).bind λz=>some (z,0)) (some (0,14))) (some (0,1))
instance ZB(B:T'):Fc Sy cL (wO B):=Fc.M 98 [enc B] (bT 2 1 B (bt 8 λu _=>cz 3 6 (bt 7 λw _=>cz 3 9 (bt 6 λz _=>aZ) aZ) aZ))
def z7(D:Z4)(p1:T')(B:Int):Ps:=(vt D p1).bind λu=>bg (u==0) ((wO p1).bind λw=>bg (w.1==B) (some 0) (some 14)) (some u)
instance ZE(D:Z4)(p1:T')(B:Int):Fc Sy cL (z7 D p1 B):=Fc.M 72 [enc D,enc p1,.int .i64 B] (bT 2 3 D (bT 0 4 p1 (bt 8 λu _=>cz 9 14 (bt 7 λw _=>cz 14 23 aZ aZ) aZ)))
namespace ga
def bh(B:T')(i3:Int)(r:T'->aY X'):aY (Fw Int Unit Unit):=bg (decide (i3<(len B.l))) ((idx B.l i3).bind λu=>(r u).bind λw=>bg w (some (.r ())) (some (.n (wrap .i64 (i3+1))))) (some (.x ()))
def W1(i3:Int)(B:T')(r:T'->aY X'):aY X':=(bG (λq:Int=>bh B q r) i3).bind (Fw.elim (λe=>some false) (λe=>some true))
end ga
def iq(B:T')(r:T'->aY X'):aY X':=(bg (decide (B.kind>=18)) (some (decide (B.kind<=21))) (some false):aY X').bind λu=>bg u (some true) (ga.W1 0 B r)
open ga in
theorem Bk(r:T'->aY X')(a:eV Sy cL 100 (λz:T'=>[enc z]) (λr:X'=>[.bool r]) r true)(B:T'):Le ((iq B r).bind λr=>some [.bool r]) (gZ cL 100 [enc B]):=(Fc.M 100 [enc B] (bT 2 1 B (bJ 10 4 [7] 11 (bp 10 7 (bq 4) (bq 4)) λD=>bp 2 11 aZ (dx 11 (λw=>(bE [Pv 1,Iv 3 w] [Xb 1 B])) (λu=>(0,(bE [] []))) (λu=>(bE [Bv 2 true] [])) (λw=>dN 7 14 (Pred.fe B.l) (bP 0 B.l (bp 3 16 (dN 9 20 (Pred.fe B.l) (bB 1 λC _=>bt (F:=Fc.of C a) 1 λG _=>bp 2 24 aZ aZ)) aZ))) (λu=>aZ) (λu=>aZ)))):Fc Sy cL (iq B r)).F.h ()
def ga(B:T'):aY X':=dI (λr(z:T')=>iq z r) 100000 B
instance Tj(B:T'):Fc Sy cL (ga B):=Fc.of B (eV.fix (A:=λz:T'=>[enc z]) (E:=λr:X'=>[.bool r]) (sc:=true) (b:=(λr(z:T')=>iq z r)) Zae (λ_ _=>rfl) (λr a z=>Bk r a z) 100000)
def si(B:T'):aY X':=(oW B).bind λu=>(bg u ((ga B).bind λw=>some w) (some false):aY X').bind λz=>some z
instance Tk(B:T'):Fc Sy cL (si B):=Fc.M 73 [enc B] (bT 2 1 B (bt 6 λu _=>bJ 1 3 [1,5] 8 (bp 1 5 (bt 1 λw _=>bq 1) (bq 3)) λz=>aZ))
namespace kH
def bh(B:U')(D:Sl Var)(a:Int):aY (Fw Int Unit Int):=bg (decide (a<(len D))) ((idx D a).bind λu=>bg (toList u.name==toList B) (some (.r a)) (some (.n (wrap .i64 (a+1))))) (some (.x ()))
def W1(B:U')(D:Sl Var)(a:Int):Ps:=(bG (λq:Int=>bh B D q) a).bind (Fw.elim (λe=>some (-1)) (λe=>some e))
end kH
def kH(D:Z4)(p1:Int)(B:U'):Ps:=(idx D.procs p1).bind λu=>kH.W1 B u.vars 0
open kH in
instance Y1(D:Z4)(p1:Int)(B:U'):Fc Sy cL (kH D p1 B):=Fc.M 133 [enc D,.int .i64 p1,.str B] (bT 2 3 D (bB 8 λw _=>dx 13 (λz=>(bE [(2,.v (.str B)),Cv 7 w.vars,Iv 8 z] [])) (λu=>(0,(bE [] []))) (λu=>(bE [Iv 6 u] [])) (λz=>bP 6 w.vars (bp 3 18 (bB 9 λC _=>bp 6 27 aZ aZ) aZ)) (λu=>aZ) (λu=>aZ)))
namespace gT
def bF(p1 G U:Int)(D:Sl Assign)(J:Z4)(B:Int):aY (Fw Int Unit Int):=bg (decide (B<(len D))) ((idx D B).bind λu=>bg (u.var==G) ((idx D B).bind λw=>some (.r w.value)) (some (.n (wrap .i64 (B+1))))) (some (.x ()))
def W2(p1 U J:Int)(B:Sl Assign)(D:Int)(G:Z4):aY (Fw Int Unit Int):=(bG (λq:Int=>bF p1 U J B G q) D).bind (Fw.elim (λe=>some (.n (wrap .i64 (J-1)))) (λe=>some (.r e)))
def bh(p1 G:Int)(B:Z4)(D:Int):aY (Fw Int Unit Int):=bg (decide (D>=0)) ((idx B.procs p1).bind λu=>(idx u.events D).bind λw=>W2 p1 G D w.assign 0 B) (some (.x ()))
def W1(p1 D G:Int)(B:Z4):Ps:=(bG (λq:Int=>bh p1 D B q) G).bind (Fw.elim (λe=>(idx B.procs p1).bind λu=>(idx u.vars D).bind λw=>some w.init_) (λe=>some e))
end gT
def gT(B:Z4)(p1 D k3:Int):Ps:=gT.W1 p1 D (wrap .i64 (k3-1)) B
open gT in
instance XQ(B:Z4)(p1 D k3:Int):Fc Sy cL (gT B p1 D k3):=Fc.M 132 [enc B,.int .i64 p1,.int .i64 D,.int .i64 k3] (bT 2 4 B (dx 13 (λu=>(bE [Iv 1 p1,Iv 2 D,Pv 4,Iv 9 u] [Xb 4 B])) (λw=>(0,(bE [Iv 1 p1,Iv 2 D,Pv 4] [Xb 4 B]))) (λw=>(bE [Iv 8 w] [])) (λu=>bp 8 15 (bB 10 λI _=>bB 3 λC _=>dx 12 (λG=>(bE [Iv 1 p1,Iv 2 D,Pv 4,Iv 9 u,Cv 10 C.assign,Iv 11 G] [Xb 4 B])) (λz=>(2,(bE [Iv 1 p1,Iv 2 D,Pv 4,Iv 9 u] [Xb 4 B]))) (λz=>(bE [Iv 8 z] [])) (λG=>bP 6 C.assign (bp 3 31 (bB 9 λJ _=>bp 6 40 (bB 5 λL _=>aZ) aZ) aZ)) (λz=>aZ) (λz=>aZ)) aZ) (λw=>bB 7 λO _=>bB 3 λQ _=>aZ) (λw=>aZ)))
namespace iH
def bh(U:Zg)(p2 W:Int)(G:Z4)(B:Zg)(D:Int):aY (Fw ((Zg)×Int) Zg Empty):=(idx U p2).bind λz=>bg (decide (D<z)) ((idx G.procs p2).bind λC=>(idx C.events D).bind λu=>(bg (u.kind==2) (some (!(u.peer==W))) (some true):aY X').bind λI=>bg I (some (.n (B,wrap .i64 (D+1)))) ((d_ G 3 u.message).bind λw=>(bg (w.index==0) (some true) ((idx U w.proc).bind λJ=>some (decide (w.index>J))):aY X').bind λL=>bg L ((fF B (u.message:Int)).bind λO=>some (.n (O,wrap .i64 (D+1)))) (some (.n (B,wrap .i64 (D+1)))))) (some (.x B))
def W1(J:Zg)(p2 U:Int)(B:Zg)(D:Int)(G:Z4):aY Zg:=(bG (λq:(Zg)×Int=>bh J p2 U G q.1 q.2) (B,D)).bind (Fw.elim (λe=>some e) (λe=>elim e))
end iH
def iH(B:Z4)(D:Zg)(p2 G:Int):aY Zg:=iH.W1 D p2 G (Sl.nil:Zg) 0 B
open iH in
instance Th(B:Z4)(D:Zg)(p2 G:Int):Fc Sy cL (iH B D p2 G):=Fc.N 134 [enc B,enc D,.int .i64 p2,.int .i64 G] (bT 2 4 B (eo 17 (λu=>(bE [Cv 1 D,Iv 2 p2,Iv 3 G,Pv 4,Ov 9,Iv 10 u.2] [Xb 4 B,Lb 2009 u.1])) (λw=>(0,(bE [Ov 9] [Lb 2009 w]))) (λu=>bB 8 λC _=>bp 4 18 (bB 10 λI _=>bB 3 λz _=>pz 2 11 0 z (bJ 9 5 [33] 38 (cz 9 33 (bq 5) (bq 5)) λJ=>bp 2 38 aZ (bt 8 λL _=>bJ 10 9 [12,46] 55 (bp 10 46 (bq 9) (bB 5 λO _=>bq 3)) λQ=>bp 2 55 (ny 6 2009 59 60 λS _=>aZ) aZ))) aZ) (λw=>aZ)))
def jU(B:Z4)(D:Zg)(p2:T')(r:(Z4×(Zg)×T')->Ps):Ps:=bg (p2.kind==1) (some p2.n) (bg (p2.kind==2) ((kH B p2.proc p2.name).bind λS=>(idx D p2.proc).bind λT=>(gT B p2.proc S T).bind λU=>some U) (bg (p2.kind==3) ((idx D p2.proc).bind λW=>some W) (bg (p2.kind==4) ((iH B D p2.proc p2.peer).bind λX=>some (len X)) (bg (p2.kind==5) ((idx p2.l 0).bind λY=>(r (B,D,Y)).bind λZ=>some (wrap .i64 (0-Z))) (bg (p2.kind==6) ((idx p2.l 0).bind λa=>(r (B,D,a)).bind λb=>(idx p2.l 1).bind λu=>(r (B,D,u)).bind λw=>some (wrap .i64 (b+w))) (bg (p2.kind==7) ((idx p2.l 0).bind λz=>(r (B,D,z)).bind λC=>(idx p2.l 1).bind λG=>(r (B,D,G)).bind λI=>some (wrap .i64 (C-I))) ((idx p2.l 0).bind λJ=>(r (B,D,J)).bind λL=>(idx p2.l 1).bind λO=>(r (B,D,O)).bind λQ=>some (wrap .i64 (L*Q)))))))))
theorem D4(r:(Z4×(Zg)×T')->Ps)(a:eV Sy cL 101 (λz:Z4×(Zg)×T'=>[enc z.1,enc z.2.1,enc z.2.2]) (λr:Int=>[.int .i64 r]) r true)(B:Z4)(D:Zg)(p2:T'):Le ((jU B D p2 r).bind λr=>some [.int .i64 r]) (gZ cL 101 [enc B,enc D,enc p2]):=(Fc.M 101 [enc B,enc D,enc p2] (bT 2 3 B (bT 0 5 p2 (bp 17 9 aZ (bp 7 13 (b9 11 λX _=>bB 3 λY _=>b9 1 λZ _=>aZ) (bp 7 30 (bB 6 λb _=>aZ) (bp 7 37 (bt 9 λJ _=>bP 0 J aZ) (bp 7 47 (dN 7 52 (Pred.fe p2.l) (bB 0 λL _=>b9 (F:=Fc.of (B,D,L) a) 1 λc _=>aZ)) (bp 7 57 (dN 7 62 (Pred.fe p2.l) (bB 0 λO _=>b9 (F:=Fc.of (B,D,O) a) 1 λd _=>dN 4 69 (Pred.fe p2.l) (bB 0 λu _=>b9 (F:=Fc.of (B,D,u) a) 1 λQ _=>aZ))) (bp 7 74 (dN 7 79 (Pred.fe p2.l) (bB 0 λw _=>b9 (F:=Fc.of (B,D,w) a) 1 λS _=>dN 4 86 (Pred.fe p2.l) (bB 0 λC _=>b9 (F:=Fc.of (B,D,C) a) 1 λT _=>aZ))) (dN 10 94 (Pred.fe p2.l) (bB 0 λG _=>b9 (F:=Fc.of (B,D,G) a) 1 λU _=>dN 4 101 (Pred.fe p2.l) (bB 0 λI _=>b9 (F:=Fc.of (B,D,I) a) 1 λW _=>aZ)))))))))))):Fc Sy cL (jU B D p2 r)).F.h ()
def kK(B:Z4)(D:Zg)(p2:T'):Ps:=dI (λr(z:Z4×(Zg)×T')=>jU z.1 z.2.1 z.2.2 r) 100000 (B,D,p2)
instance Zf(B:Z4)(D:Zg)(p2:T'):Fc Sy cL (kK B D p2):=Fc.of (B,D,p2) (eV.fix (A:=λz:Z4×(Zg)×T'=>[enc z.1,enc z.2.1,enc z.2.2]) (E:=λr:Int=>[.int .i64 r]) (sc:=true) (b:=(λr(z:Z4×(Zg)×T')=>jU z.1 z.2.1 z.2.2 r)) Zae (λ_ _=>rfl) (λr a z=>D4 r a z.1 z.2.1 z.2.2) 100000)
def jV(B:Z4)(D:Zg)(p2:T')(r:(Z4×(Zg)×T')->aY X'):aY X':=bg (p2.kind==9) ((idx p2.l 0).bind λa=>(kK B D a).bind λb=>(idx p2.l 1).bind λc=>(kK B D c).bind λd=>some (b==d)) (bg (p2.kind==10) ((idx p2.l 0).bind λe=>(kK B D e).bind λf=>(idx p2.l 1).bind λg=>(kK B D g).bind λh=>some (!(f==h))) (bg (p2.kind==11) ((idx p2.l 0).bind λi=>(kK B D i).bind λu=>(idx p2.l 1).bind λw=>(kK B D w).bind λz=>some (decide (u<z))) (bg (p2.kind==12) ((idx p2.l 0).bind λC=>(kK B D C).bind λG=>(idx p2.l 1).bind λI=>(kK B D I).bind λJ=>some (decide (G<=J))) (bg (p2.kind==13) (some true) (bg (p2.kind==15) ((idx p2.l 0).bind λL=>(r (B,D,L)).bind λO=>some (!O)) (bg (p2.kind==16) ((idx p2.l 0).bind λQ=>(r (B,D,Q)).bind λS=>(bg S ((idx p2.l 1).bind λT=>(r (B,D,T)).bind λU=>some U) (some false):aY X').bind λW=>some W) (bg (p2.kind==17) ((idx p2.l 0).bind λX=>(r (B,D,X)).bind λY=>(bg Y (some true) ((idx p2.l 1).bind λZ=>(r (B,D,Z)).bind λj=>some j):aY X').bind λk=>some k) (some false))))))))
theorem D2(r:(Z4×(Zg)×T')->aY X')(a:eV Sy cL 74 (λz:Z4×(Zg)×T'=>[enc z.1,enc z.2.1,enc z.2.2]) (λr:X'=>[.bool r]) r true)(B:Z4)(D:Zg)(p2:T'):Le ((jV B D p2 r).bind λr=>some [.bool r]) (gZ cL 74 [enc B,enc D,enc p2]):=(Fc.M 74 [enc B,enc D,enc p2] (bT 2 3 B (bT 0 5 p2 (bp 17 9 (dN 7 14 (Pred.fe p2.l) (bB 0 λb _=>b9 1 λc _=>dN 4 21 (Pred.fe p2.l) (bB 0 λd _=>b9 1 λe _=>aZ))) (bp 7 26 (dN 7 31 (Pred.fe p2.l) (bB 0 λf _=>b9 1 λg _=>dN 4 38 (Pred.fe p2.l) (bB 0 λh _=>b9 1 λi _=>aZ))) (bp 7 43 (dN 7 48 (Pred.fe p2.l) (bB 0 λj _=>b9 1 λO _=>dN 4 55 (Pred.fe p2.l) (bB 0 λQ _=>b9 1 λS _=>aZ))) (bp 7 60 (dN 7 65 (Pred.fe p2.l) (bB 0 λT _=>b9 1 λU _=>dN 4 72 (Pred.fe p2.l) (bB 0 λW _=>b9 1 λX _=>aZ))) (bp 7 77 aZ (bp 7 79 (dN 7 84 (Pred.fe p2.l) (bB 0 λC _=>b9 (F:=Fc.of (B,D,C) a) 1 λY _=>aZ)) (bp 7 89 (dN 7 94 (Pred.fe p2.l) (bB 0 λG _=>b9 (F:=Fc.of (B,D,G) a) 1 λZ _=>wM 1 8 [105,97] (λu=>(bE [Iv 8 p2.kind,Bv 9 false,Bv 26 false,Bv 43 false,Bv 60 false,Bv 77 false,Bv 79 false,Bv 89 true,Bv 106 u] [Xb 3 B,Xb 5 p2])) (bp 1 98 (dN 4 102 (Pred.fe p2.l) (bB 0 λI _=>b9 (F:=Fc.of (B,D,I) a) 1 λk _=>bq 1)) (bq 8)) λu=>aZ)) (bp 7 107 (dN 7 112 (Pred.fe p2.l) (bB 0 λJ _=>b9 (F:=Fc.of (B,D,J) a) 1 λl _=>wM 1 8 [123,115] (λw=>(bE [Bv 9 false,Bv 26 false,Bv 43 false,Bv 60 false,Bv 77 false,Bv 79 false,Bv 89 false,Bv 107 true,Bv 124 w] [Xb 3 B,Xb 5 p2])) (bp 1 116 (bq 8) (dN 4 120 (Pred.fe p2.l) (bB 0 λL _=>b9 (F:=Fc.of (B,D,L) a) 1 λm _=>bq 1))) λw=>aZ)) aZ)))))))))):Fc Sy cL (jV B D p2 r)).F.h ()
def qo(B:Z4)(D:Zg)(p2:T'):aY X':=dI (λr(z:Z4×(Zg)×T')=>jV z.1 z.2.1 z.2.2 r) 100000 (B,D,p2)
instance XM(B:Z4)(D:Zg)(p2:T'):Fc Sy cL (qo B D p2):=Fc.of (B,D,p2) (eV.fix (A:=λz:Z4×(Zg)×T'=>[enc z.1,enc z.2.1,enc z.2.2]) (E:=λr:X'=>[.bool r]) (sc:=true) (b:=(λr(z:Z4×(Zg)×T')=>jV z.1 z.2.1 z.2.2 r)) Zae (λ_ _=>rfl) (λr a z=>D2 r a z.1 z.2.1 z.2.2) 100000)
namespace iV
def bh(U:Zb)(G:Z4)(J:T')(B:Sl X')(D:Int):aY (Fw ((Sl X')×Int) (Sl X') Empty):=bg (decide (D<(len U))) ((idx U D).bind λu=>(qo G u J).bind λw=>(fF B (w:X')).bind λz=>some (.n (z,wrap .i64 (D+1)))) (some (.x B))
def W1(U:Zb)(B:Sl X')(D:Int)(G:Z4)(J:T'):aY ((Sl X')×(Zb)×Int):=(bG (λq:(Sl X')×Int=>bh U G J q.1 q.2) (B,D)).bind (Fw.elim (λe=>some (e,U,0)) (λe=>elim e))
end iV
def iV(B:Z4)(p1:T'):aY ((Sl X')×(Zb)×Int):=(z7 B p1 2).bind λu=>bg (u==0) ((si p1).bind λz=>bg z (some (Sl.nil,Sl.nil,15)) ((eR B).bind λw=>bg w.2 (iV.W1 w.1 (Sl.nil:Sl X') 0 B p1) (some (Sl.nil,Sl.nil,16)))) (some (Sl.nil,Sl.nil,u))
open iV in
instance YG(B:Z4)(p1:T'):Fc Sy cL (iV B p1):=Fc.N 50 [enc B,enc p1] (bT 2 2 B (bT 0 3 p1 (bt 10 λC _=>cz 9 16 (bt 7 λD _=>bp 2 19 aZ (bt 6 λu _=>cz 14 26 (eo 17 (λw=>(bE [Pv 2,Pv 3,Cv 8 u.1,Ov 10,Iv 11 w.2] [Xb 2 B,Xb 3 p1,Lb 2010 w.1])) (λz=>(0,(bE [Cv 8 u.1,Ov 10] [Lb 2010 z]))) (λw=>bP 7 u.1 (bp 3 30 (bB 10 λG _=>b9 2 λI _=>ny 1 2010 41 42 λJ _=>aZ) aZ)) (λz=>aZ)) aZ)) aZ)))
namespace jN
def bh(J:Sl X')(D:Zb)(B:Zb)(G:Int):aY (Fw ((Zb)×Int) Zb Empty):=bg (decide (G<(len J))) ((idx J G).bind λu=>bg u ((idx D G).bind λw=>(fF B (w:Zg)).bind λz=>some (.n (z,wrap .i64 (G+1)))) (some (.n (B,wrap .i64 (G+1))))) (some (.x B))
def W1(G:Sl X')(B D:Zb)(J:Int):aY Zb:=(bG (λq:(Zb)×Int=>bh G B q.1 q.2) (D,J)).bind (Fw.elim (λe=>some e) (λe=>elim e))
end jN
def jN(D:Sl X')(B:Zb):aY Zb:=jN.W1 D B (Sl.nil:Zb) 0
open jN in
instance ZJ(D:Sl X')(B:Zb):Fc Sy cL (jN D B):=Fc.N 51 [enc D,enc B] (eo 19 (λu=>(bE [Cv 0 D,Cv 1 B,Ov 5,Iv 6 u.2] [Lb 2005 u.1])) (λw=>(0,(bE [Ov 5] [Lb 2005 w]))) (λu=>bP 7 D (bp 3 10 (bB 9 λC _=>bp 3 16 (bB 5 λz _=>zH 1 22 ([z]:aX Zg) (ny 0 2005 22 23 λG _=>aZ)) aZ) aZ)) (λw=>aZ))
def j_(B:Z4)(p1:T'):aY ((Zb)×Int):=(iV B p1).bind λu=>bg (u.2.2==0) ((jN u.1 u.2.1).bind λw=>some (w,0)) (some (Sl.nil,u.2.2))
instance QM(B:Z4)(p1:T'):Fc Sy cL (j_ B p1):=Fc.N 23 [enc B,enc p1] (bT 2 2 B (bT 0 3 p1 (bt 8 λu _=>cz 16 17 (bt 7 λw _=>aZ) aZ)))
namespace ja
def bh(a0 G:Zg)(B:Zg)(D:Int):aY (Fw ((Zg)×Int) Zg Empty):=bg (decide (D<(len a0))) ((idx a0 D).bind λu=>(idx G D).bind λw=>(fF B ((if w<u then w else u):Int)).bind λz=>some (.n (z,wrap .i64 (D+1)))) (some (.x B))
def W1(a0 D B:Zg)(G:Int):aY Zg:=(bG (λq:(Zg)×Int=>bh a0 D q.1 q.2) (B,G)).bind (Fw.elim (λe=>some e) (λe=>elim e))
end ja
def ja(a0 B:Zg):aY Zg:=ja.W1 a0 B (Sl.nil:Zg) 0
open ja in
instance Zl(a0 B:Zg):Fc Sy cL (ja a0 B):=Fc.N 70 [enc a0,enc B] (eo 19 (λu=>(bE [Cv 0 a0,Cv 1 B,Ov 5,Iv 6 u.2] [Lb 2005 u.1])) (λw=>(0,(bE [Ov 5] [Lb 2005 w]))) (λu=>bP 7 a0 (bp 3 10 (bB 9 λz _=>bB 3 λC _=>ny 3 2005 23 24 λD _=>aZ) aZ)) (λw=>aZ))
namespace pZ
def bh(D:Zb)(G:Zg)(B:Int):aY (Fw Int Unit Int):=bg (decide (B<(len D))) ((idx D B).bind λu=>(eY u G).bind λw=>bg w (some (.r B)) (some (.n (wrap .i64 (B+1))))) (some (.x ()))
def W1(B:Zb)(D:Zg)(G:Int):Ps:=(bG (λq:Int=>bh B D q) G).bind (Fw.elim (λe=>some (-1)) (λe=>some e))
end pZ
def pZ(B:Zb)(D:Zg):Ps:=pZ.W1 B D 0
open pZ in
instance ZI(B:Zb)(D:Zg):Fc Sy cL (pZ B D):=Fc.M 75 [enc B,enc D] (dx 13 (λw=>(bE [Cv 0 B,Cv 1 D,Iv 5 w] [])) (λu=>(0,(bE [] []))) (λu=>(bE [Iv 4 u] [])) (λw=>bP 6 B (bp 3 9 (bB 9 λz _=>bt 2 λC _=>bp 2 17 aZ aZ) aZ)) (λu=>aZ) (λu=>aZ))
def sD(B:Zb)(D:Zg):aY X':=(pZ B D).bind λu=>some (decide (u>=0))
instance Yx(B:Zb)(D:Zg):Fc Sy cL (sD B D):=Fc.M 52 [enc B,enc D] (bt 9 λu _=>aZ)
namespace fL
def bF(B:Zb)(i3:Int)(D:Int):aY (Fw Int Unit Unit):=bg (decide (D<i3)) ((idx B i3).bind λu=>(idx B D).bind λw=>(ja u w).bind λz=>(sD B z).bind λC=>bg C (some (.n (wrap .i64 (D+1)))) (some (.r ()))) (some (.x ()))
def W2(B:Zb)(i3 D:Int):aY (Fw Int Unit Unit):=(bG (λq:Int=>bF B i3 q) D).bind (Fw.elim (λe=>some (.n (wrap .i64 (i3+1)))) (λe=>some (.r ())))
def bh(B:Zb)(i3:Int):aY (Fw Int Unit Unit):=bg (decide (i3<(len B))) (W2 B i3 0) (some (.x ()))
def W1(B:Zb)(i3:Int):aY X':=(bG (λq:Int=>bh B q) i3).bind (Fw.elim (λe=>some true) (λe=>some false))
end fL
def fL(B:Zb):aY X':=fL.W1 B 0
open fL in
instance Wa(B:Zb):Fc Sy cL (fL B):=Fc.M 48 [enc B] (dx 13 (λu=>(bE [Cv 0 B,Iv 3 u] [])) (λw=>(0,(bE [] []))) (λw=>(bE [Bv 2 false] [])) (λu=>bP 6 B (bp 3 8 (dx 12 (λC=>(bE [Cv 0 B,Iv 3 u,Iv 4 C] [])) (λz=>(2,(bE [Cv 0 B,Iv 3 u] []))) (λz=>(bE [Bv 2 false] [])) (λC=>bp 9 13 (bB 10 λD _=>bB 3 λG _=>bt 1 λI _=>b9 0 λJ _=>cz 3 27 aZ aZ) aZ) (λz=>aZ) (λz=>aZ)) aZ)) (λw=>aZ) (λw=>aZ))
namespace qT
def bh(a0 D:Zg)(B:Int):aY (Fw Int Unit Unit):=bg (decide (B<(len a0))) ((idx a0 B).bind λu=>(idx D B).bind λw=>bg (decide (u>w)) (some (.r ())) (some (.n (wrap .i64 (B+1))))) (some (.x ()))
def W1(a0 B:Zg)(D:Int):aY X':=(bG (λq:Int=>bh a0 B q) D).bind (Fw.elim (λe=>some true) (λe=>some false))
end qT
def qT(a0 B:Zg):aY X':=bg ((len a0)==(len B)) (qT.W1 a0 B 0) (some false)
open qT in
instance aaG(a0 B:Zg):Fc Sy cL (qT a0 B):=Fc.M 71 [enc a0,enc B] (bP 9 a0 (bP 1 B (cz 3 10 (dx 11 (λw=>(bE [Cv 0 a0,Cv 1 B,Iv 5 w] [])) (λu=>(0,(bE [] []))) (λu=>(bE [Bv 4 false] [])) (λw=>bP 6 a0 (bp 3 14 (bB 9 λz _=>bB 3 λC _=>bp 4 25 aZ aZ) aZ)) (λu=>aZ) (λu=>aZ)) aZ)))
namespace iI
def J2(D:Zb)(G B:Zg)(a:Int):aY (Fw ((Zg)×X'×Int) ((Zg)×X') Empty):=(idx D a).bind λu=>(ja B u).bind λw=>some (.n (w,true,wrap .i64 (a+1)))
def bh(G:Zb)(J:Zg)(D:Zg)(B:X')(a:Int):aY (Fw ((Zg)×X'×Int) ((Zg)×X') Empty):=bg (decide (a<(len G))) ((idx G a).bind λu=>(qT J u).bind λw=>bg w (bg B (J2 G J D a) ((idx G a).bind λz=>J2 G J z a)) (some (.n (D,B,wrap .i64 (a+1))))) (some (.x (D,B)))
def W1(G:Zb)(J D:Zg)(B:X')(a:Int):aY ((Zg)×X'):=(bG (λq:(Zg)×X'×Int=>bh G J q.1 q.2.1 q.2.2) (D,B,a)).bind (Fw.elim (λe=>some (e.1,e.2)) (λe=>elim e))
end iI
def iI(B:Zb)(D:Zg):aY ((Zg)×X'):=iI.W1 B D (Sl.nil:Zg) false 0
open iI in
instance Zt(B:Zb)(D:Zg):Fc Sy cL (iI B D):=Fc.N 49 [enc B,enc D] (eo 24 (λu=>(bE [Cv 0 B,Cv 1 D,Cv 6 u.1,Bv 7 u.2.1,Iv 8 u.2.2] [])) (λw=>(0,(bE [Cv 6 w.1,Bv 7 w.2] []))) (λu=>bP 6 B (bp 3 12 (bB 11 λG _=>bt 1 λI _=>cz 3 21 (cz 10 23 (qD 4 (bB 5 λz _=>bt 1 λC _=>aZ)) (bB 4 λJ _=>qD 5 (bB 5 λz _=>bt 1 λC _=>aZ))) aZ) aZ)) (λw=>aZ))
def wW(D:Z4)(p1:T')(G:Zg):aY ((Zg)×Int):=(j_ D p1).bind λu=>bg (u.2==0) ((xH D G).bind λz=>bg z ((fL u.1).bind λB=>bg B ((iI u.1 G).bind λw=>bg w.2 (some (w.1,0)) (some (Sl.nil,7))) (some (Sl.nil,15))) (some (Sl.nil,18))) (some (Sl.nil,u.2))
instance ZF(B:Z4)(p1:T')(D:Zg):Fc Sy cL (wW B p1 D):=Fc.N 22 [enc B,enc p1,enc D] (bT 2 3 B (bT 0 4 p1 (bt 8 λu _=>cz 14 19 (bt 8 λw _=>cz 3 24 (bt 7 λz _=>cz 3 27 (bt 7 λC _=>cz 14 35 aZ aZ) aZ) aZ) aZ)))
def qH(B:Z4)(p1:T'):aY ((Zg)×Int):=(nR (len B.procs) (0:Int)).bind λw=>(wW B p1 w).bind λu=>some (u.1,u.2)
instance YY(B:Z4)(p1:T'):Fc Sy cL (qH B p1):=Fc.N 8 [enc B,enc p1] (bT 2 2 B (bT 0 3 p1 (bP 10 B.procs (adb 0 λu _=>bt 0 λw _=>aZ))))
namespace jO
def bh(a0 G:Zg)(B:Zg)(D:Int):aY (Fw ((Zg)×Int) Zg Empty):=bg (decide (D<(len a0))) ((idx a0 D).bind λu=>(idx G D).bind λw=>(fF B ((if w>u then w else u):Int)).bind λz=>some (.n (z,wrap .i64 (D+1)))) (some (.x B))
def W1(a0 D B:Zg)(G:Int):aY Zg:=(bG (λq:(Zg)×Int=>bh a0 D q.1 q.2) (B,G)).bind (Fw.elim (λe=>some e) (λe=>elim e))
end jO
def jO(a0 B:Zg):aY Zg:=jO.W1 a0 B (Sl.nil:Zg) 0
open jO in
instance ZN(a0 B:Zg):Fc Sy cL (jO a0 B):=Fc.N 25 [enc a0,enc B] (eo 19 (λu=>(bE [Cv 0 a0,Cv 1 B,Ov 5,Iv 6 u.2] [Lb 2005 u.1])) (λw=>(0,(bE [Ov 5] [Lb 2005 w]))) (λu=>bP 7 a0 (bp 3 10 (bB 9 λz _=>bB 3 λC _=>ny 3 2005 23 24 λD _=>aZ) aZ)) (λw=>aZ))
namespace dS
def bF(B:Zb)(i3:Int)(D:Int):aY (Fw Int Unit Unit):=bg (decide (D<i3)) ((idx B i3).bind λu=>(idx B D).bind λw=>(jO u w).bind λz=>(sD B z).bind λC=>bg C (some (.n (wrap .i64 (D+1)))) (some (.r ()))) (some (.x ()))
def W2(B:Zb)(i3 D:Int):aY (Fw Int Unit Unit):=(bG (λq:Int=>bF B i3 q) D).bind (Fw.elim (λe=>some (.n (wrap .i64 (i3+1)))) (λe=>some (.r ())))
def bh(B:Zb)(i3:Int):aY (Fw Int Unit Unit):=bg (decide (i3<(len B))) (W2 B i3 0) (some (.x ()))
def W1(B:Zb)(i3:Int):aY X':=(bG (λq:Int=>bh B q) i3).bind (Fw.elim (λe=>some true) (λe=>some false))
end dS
def dS(B:Zb):aY X':=dS.W1 B 0
open dS in
instance QO(B:Zb):Fc Sy cL (dS B):=Fc.M 24 [enc B] (dx 13 (λu=>(bE [Cv 0 B,Iv 3 u] [])) (λw=>(0,(bE [] []))) (λw=>(bE [Bv 2 false] [])) (λu=>bP 6 B (bp 3 8 (dx 12 (λC=>(bE [Cv 0 B,Iv 3 u,Iv 4 C] [])) (λz=>(2,(bE [Cv 0 B,Iv 3 u] []))) (λz=>(bE [Bv 2 false] [])) (λC=>bp 9 13 (bB 10 λD _=>bB 3 λG _=>bt 1 λI _=>b9 0 λJ _=>cz 3 27 aZ aZ) aZ) (λz=>aZ) (λz=>aZ)) aZ)) (λw=>aZ) (λw=>aZ))
namespace eM
def bh(G:Zb)(B:Zg)(D:Int):aY (Fw ((Zg)×Int) Zg Empty):=bg (decide (D<(len G))) ((idx G D).bind λu=>(jO B u).bind λw=>some (.n (w,wrap .i64 (D+1)))) (some (.x B))
def W1(D:Zb)(B:Zg)(G:Int):aY ((Zg)×Int):=(bG (λq:(Zg)×Int=>bh D q.1 q.2) (B,G)).bind (Fw.elim (λe=>some (e,0)) (λe=>elim e))
end eM
def eM(B:Z4)(p1:T'):aY ((Zg)×Int):=(j_ B p1).bind λu=>bg (u.2==0) ((dS u.1).bind λw=>bg w (bg ((len u.1)==0) (some (Sl.nil,7)) ((idx u.1 0).bind λz=>eM.W1 u.1 z 0)) (some (Sl.nil,15))) (some (Sl.nil,u.2))
open eM in
instance Tc(B:Z4)(p1:T'):Fc Sy cL (eM B p1):=Fc.N 9 [enc B,enc p1] (bT 2 2 B (bT 0 3 p1 (bt 8 λu _=>cz 14 17 (bt 7 λC _=>cz 3 21 (bP 7 u.1 (bp 3 24 aZ (bB 6 λD _=>eo 12 (λw=>(bE [Cv 6 u.1,Cv 8 w.1,Iv 9 w.2] [])) (λz=>(0,(bE [Cv 8 z] []))) (λw=>bP 6 u.1 (bp 3 31 (bB 9 λG _=>bt 1 λI _=>aZ) aZ)) (λz=>aZ)))) aZ) aZ)))
def qc(B:Z4)(p1:T'):aY X':=(zg).bind λI=>bg I ((yg B p1).bind λJ=>bg J ((mR B p1).bind λu=>(ko B p1).bind λw=>(qH B p1).bind λz=>(eM B p1).bind λC=>(eZ u.1 z.1).bind λL=>(bg L (some (u.2==z.2)) (some false):aY X').bind λO=>(bg O ((eZ w.1 C.1).bind λQ=>some Q) (some false):aY X').bind λD=>(bg D (some (w.2==C.2)) (some false):aY X').bind λG=>some G) (some true)) (some false)
instance BR(B:Z4)(p1:T'):Fc Sy cL (qc B p1):=Fc.M 3 [enc B,enc p1] (bT 2 2 B (bT 0 3 p1 (bt 6 λz _=>cz 3 14 (bt 8 λC _=>cz 3 18 (bt 7 λD _=>bt 11 λG _=>bt 11 λI _=>bt 11 λJ _=>bt 11 λL _=>bJ 1 4 [6,10,46] 50 (bp 1 46 (bq 4) (bq 4)) λO=>bJ 1 4 [7,11,51] 55 (bp 1 51 (bt 2 λQ _=>bq 1) (bq 4)) λu=>bJ 1 4 [8,12,56] 60 (bp 1 56 (bq 4) (bq 4)) λw=>aZ) aZ) aZ)))
end
end Go.VE
