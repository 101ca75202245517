/-
 Each function of the program that the law reaches: its plain form, and that it comes to that.
-/
import Derived.Test.YtlmckmkfopljoaaGreatDoorK1
import Derived.Test.YtlmckmkfopljoaaGreatDoorT1
set_option linter.all false
open List(all_cons all_nil cons_append map_append map_cons map_nil mem_map mem_of_getElem? replicate)
open Go.IntKind(signed wrap)
open Nat(beq ble reduceEqDiff zero_add)
open Empty(elim)
open ByteArray(toList)
namespace Go.VE
theorem Zae{p:Prop}(h:p:=by kernel_rfl):p:=h
structure Pred where
 kind:Int
 n:Int
 proc:Int
 peer:Int
 name:ByteArray
 l:Sl Pred
mutual
def Pred.TN:Pred->T2
 |⟨f0,f1,f2,f3,B,f5⟩=>[.int .i64 f0,.int .i64 f1,.int .i64 f2,.int .i64 f3,.str B,Pred.HA f5]
def Pred.HA:Sl Pred->V
 |.nil=>.bR|.emp=>.dP|.row l=>.fsl 6 (Pred.EM l)|.part l=>.fsl 6 (Pred.EM l)
def Pred.EM:aZ Pred->T'
 |[]=>[]|x::r=>Pred.TN x::Pred.EM r
end
instance:Inhabited Pred:=⟨⟨default,default,default,default,default,Sl.nil⟩⟩
mutual
theorem Pred.V2:∀x:Pred,V.cK x.TN=true
 |⟨f0,f1,f2,f3,B,f5⟩=>by simp only[Pred.TN,V.cK,V.good,Pred.IY,Bool.and_self]
theorem Pred.IY:∀x:Sl Pred,V.good (Pred.HA x)=true
 |.nil=>rfl|.emp=>rfl|.row l=>by simp only[Pred.HA,V.good,Pred.Dl]|.part l=>by simp only[Pred.HA,V.good,Pred.Dl]
theorem Pred.Dl:∀x:aZ Pred,V.oc (Pred.EM x)=true
 |[]=>rfl|x::r=>by simp only[Pred.EM,V.oc,Pred.V2,Pred.Dl,Bool.and_self]
end
theorem Pred.UZ(s:Sl Pred):V.one (Pred.HA s)=true:=by cases s<;>simp[Pred.HA,V.one]
instance:bG Pred where
 cells x:=[.int .i64 x.kind,.int .i64 x.n,.int .i64 x.proc,.int .i64 x.peer,.str x.name,Pred.HA x.l]
 agg:=true
 size:=6
 len _:=rfl
 good x:=by simp only[V.cK,V.good,Pred.IY,Bool.and_self]
 one x:=by simp only[all_cons,all_nil,qq,oK,qv,Pred.UZ,Bool.and_self]
 plain h:=by cases h
theorem Pred.P6(x:Pred):Pred.TN x=cells x:=by cases x;rfl
theorem Pred.Dz:∀l:aZ Pred,Pred.EM l=rows l
 |[]=>rfl|x::r=>by rw[Pred.EM,Pred.Dz r,Pred.P6];rfl
theorem Pred.eE(s:Sl Pred):Pred.HA s=enc s:=by cases s with|nil=>rfl|emp=>rfl|row l=>show V.fsl 6 (Pred.EM l)=V.fsl 6 (rows l);rw[Pred.Dz]|part l=>show V.fsl 6 (Pred.EM l)=V.fsl 6 (rows l);rw[Pred.Dz]
structure Var where
 name:ByteArray
 init_:Int
 deriving Inhabited
instance:bG Var where
 cells x:=[.str x.name,.int .i64 x.init_]
 agg:=true
 size:=2
 len _:=rfl
 good x:=by simp only[V.cK,V.good,kP,Bool.and_self]
 one x:=by simp only[all_cons,all_nil,qq,oK,qv,pQ,Bool.and_self]
 plain h:=by cases h
structure Assign where
 var:Int
 value:Int
 deriving Inhabited
instance:bG Assign where
 cells x:=[.int .i64 x.var,.int .i64 x.value]
 agg:=true
 size:=2
 len _:=rfl
 good x:=by simp only[V.cK,V.good,kP,Bool.and_self]
 one x:=by simp only[all_cons,all_nil,qq,oK,qv,pQ,Bool.and_self]
 plain h:=by cases h
structure Event where
 kind:Int
 peer:Int
 message:Int
 time:Int
 assign:Sl Assign
 deriving Inhabited
abbrev WF:=Event
instance:bG WF where
 cells x:=[.int .i64 x.kind,.int .i64 x.peer,.int .i64 x.message,.int .i64 x.time,enc x.assign]
 agg:=true
 size:=5
 len _:=rfl
 good x:=by simp only[V.cK,V.good,kP,Bool.and_self]
 one x:=by simp only[all_cons,all_nil,qq,oK,qv,pQ,Bool.and_self]
 plain h:=by cases h
structure bX where
 name:ByteArray
 vars:Sl Var
 events:Sl Event
 deriving Inhabited
instance:bG bX where
 cells x:=[.str x.name,enc x.vars,enc x.events]
 agg:=true
 size:=3
 len _:=rfl
 good x:=by simp only[V.cK,V.good,kP,Bool.and_self]
 one x:=by simp only[all_cons,all_nil,qq,oK,qv,pQ,Bool.and_self]
 plain h:=by cases h
structure Trace where
 procs:Sl bX
 deriving Inhabited
abbrev Z4:=Trace
instance:bG Z4 where
 cells x:=[enc x.procs]
 agg:=true
 size:=1
 len _:=rfl
 good x:=by simp only[V.cK,V.good,kP,Bool.and_self]
 one x:=by simp only[all_cons,all_nil,qq,oK,qv,pQ,Bool.and_self]
 plain h:=by cases h
structure bM where
 from_:bf
 to_:bf
 deriving Inhabited
instance:bG bM where
 cells x:=[.int .i64 x.from_.proc,.int .i64 x.from_.index,.int .i64 x.to_.proc,.int .i64 x.to_.index]
 agg:=true
 size:=4
 len _:=rfl
 good x:=by simp only[V.cK,V.good,kP,Bool.and_self]
 one x:=by simp only[all_cons,all_nil,qq,oK,qv,pQ,Bool.and_self]
 plain h:=by cases h
structure b7 where
 low:Int
 high:Int
 deriving Inhabited
instance:bG b7 where
 cells x:=[.int .i64 x.low,.int .i64 x.high]
 agg:=true
 size:=2
 len _:=rfl
 good x:=by simp only[V.cK,V.good,kP,Bool.and_self]
 one x:=by simp only[all_cons,all_nil,qq,oK,qv,pQ,Bool.and_self]
 plain h:=by cases h
structure cD where
 lengths:Sl Int
 need:Sl (Sl bf)
 deriving Inhabited
instance:bG cD where
 cells x:=[enc x.lengths,enc x.need]
 agg:=true
 size:=2
 len _:=rfl
 good x:=by simp only[V.cK,V.good,kP,Bool.and_self]
 one x:=by simp only[all_cons,all_nil,qq,oK,qv,pQ,Bool.and_self]
 plain h:=by cases h
structure cq where
 t:Trace
 counts:Sl Int
 values:Sl (Sl Int)
 deriving Inhabited
instance:bG cq where
 cells x:=[enc x.t.procs,enc x.counts,enc x.values]
 agg:=true
 size:=3
 len _:=rfl
 good x:=by simp only[V.cK,V.good,kP,Bool.and_self]
 one x:=by simp only[all_cons,all_nil,qq,oK,qv,pQ,Bool.and_self]
 plain h:=by cases h
def jA(p:Int):Int->aZ WF->aZ (bf×WF)
 |_,[]=>[]|j,e::r=>(⟨p,j+1⟩,e)::jA p (j+1) r
def gG:Int->aZ bX->aZ (bf×WF)
 |_,[]=>[]|i,p::r=>jA i 0 p.events.l++gG (i+1) r
def pY(n:Nat):X':=decide (n<9223372036854775807)
def kf(t:Z4):a_ (aZ (bf×WF)):=if pY t.procs.l.length&&t.procs.l.all λp=>pY p.events.l.length then some (gG 0 t.procs.l)else none
def vn:cH 22 Int:=⟨Go.Proofs.YtlmckmkfopljoaaGreatDoor.D1,rfl⟩
end Go.VE
namespace Go.VE
def Tj:Nat->Nat->Nat->S'
 |0,_,_=>[]|f+1,i,m=>bif m % 2==1 then i::Tj f (i+1) (m / 2)else Tj f (i+1) (m / 2)
def gK(g m:Nat)(l:S':=[]):Gh:=.keep (Tj 128 0 g) (Tj 128 0 m++l)
def g2(n g m:Nat)(l:S':=[]):Nat×QQ×QQ:=(n,[gK g m l],[gK g m l])
def g1(n g m:Nat)(l:S':=[]):Nat×QQ×QQ:=(n,[gK g m l],[])
def G2(n:Nat)(x:QQ):Nat×QQ×QQ:=(n,x,x)
def G1(n:Nat)(x:QQ):Nat×QQ×QQ:=(n,x,[])
def cS(i n:Nat):Gh:=.canon (.s i) (2000+i) n
def cC(i j n:Nat):Gh:=.canon (.c i j) (4000+20*i+j) n
def e0(n m:Nat):Nat×GD:=(n,⟨m,[],[]⟩)
def e1(n m:Nat)(l:aZ (Nat×QQ×QQ)):Nat×GD:=(n,⟨m,[],l⟩)
def Ml:aZ (Nat×GD):=[ e1 66 0x22226260002000201 [g2 6 387 0,g1 12 0 0,g1 22 16 0,g1 27 16 0],e0 40 0x226221,e1 67 0x22226260002000201 [g2 6 387 0,g1 12 0 0,g1 22 16 0,g1 27 16 0],e0 42 0x226221,e0 43 0x2222212,e0 41 0x264442644402222012,e0 11 0x264442222012,e1 44 0x222000ff2026020064026220000202202 [g1 10 30 16 [9001,9002],g2 13 94 16 [9001,9002],g1 19 0 0 [9001,9002]],(12,⟨0x2227222000012,[(5,[.canon (.s 3) 9001 0,.canon (.s 4) 9002 0])],[]⟩),e1 26 0x22222262222202000022012 [g2 8 904 0,g1 14 8 0],e0 153 0x26c4426201,e0 197 0x26c4444026402201,e0 198 0x26442201,e1 181 0x22064c402644c00222600200020064440264402201 [g1 8 4 0,g2 14 786433 0,g1 20 0 0,g1 30 4 0,g1 35 4 0],e0 182 0x26222212,e0 183 0x26222212,e1 106 0x22226260002000201 [g2 6 387 0,g1 12 0 0,g1 22 16 0,g1 27 16 0],e0 161 0x226221,e1 154 0x222222022222026c0c4402222022020000020022220026c0c44422220202602012 [g1 11 16 0,g1 17 16 0,g2 23 30064771104 32,g1 29 32 32,g1 40 16 0,g1 46 16 0,g1 55 16 0,g1 59 16 0],e0 155 0x2212,e1 185 0x2644426c4402622222022202644422202020122 [g1 18 524330 40],e0 187 0x26222212,e1 199 0x22226260002000201 [g2 6 387 0,g1 12 0 0,g1 22 16 0,g1 27 16 0],e0 186 0x226221,e1 156 0x2202626220026444022622202022020000020022220026c44022220022e02222226220202200202620201222 [g1 12 440 184,g1 19 64 0,g1 25 64 0,g1 31 64 0,g2 37 31525197391593632 160,g1 43 0 0,g1 54 64 0,g1 60 64 0,g1 65 64 0],e0 200 0x26c44426c440222012,e0 188 0x2662262221222,e1 157 0x2202326222002202001ef200220022022226200223262220022022226200202022020202020200002 [(8,[gK 4158 1086],[gK 0 1086]),g1 27 0 1086,g1 39 0 1086,g1 47 0 1086,g1 53 28 1052],e1 189 0x222622262222264444c4400222020262222262622020262020222620220122 [G1 12 [cS 7 2,gK 418 32 [2007]]],e1 158 0x20222622230026000226002020000e200262220202622002202202020200022 [(6,[gK 8252 60],[gK 0 60]),G2 14 [cS 8 2,gK 8700 65660 [2008]],g1 20 8252 60,G2 29 [cS 8 2,gK 481036345852 65660 [2008]],G1 35 [cS 8 2,gK 8700 65660 [2008]],g1 46 0 60,g1 58 48 48],e1 117 0x20022222020262222222022202002202222202e2002020202222222202600200022002022220002 [g1 8 12 12,g2 14 12582926 14,g1 20 14 14,g1 32 12 12,(39,[gK 68719476750 14],[gK 0 14]),g1 51 0 14,g1 61 12 12,g1 71 12 12,g1 75 12 12],e0 82 0x2222302022212,e0 159 0x264426402201,e0 119 0x26c4444c4404440222006c4404440264402644026c444044026440222012,e0 121 0x22e222212,e0 120 0x226221,e1 160 0x22226260002000201 [G2 6 [.drop [2,3,4,5,6,9,10,11,12,13,14,15,16,17,18]],G1 12 [.drop [0,1,2,3,4,5,6,7,8,9,10,11,12,13,14,15,16,17,18]],G1 22 [.drop [0,1,2,3,5,6,7,8,9,10,11,12,13,14,15,16,17,18]],G1 27 [.drop [0,1,2,3,5,6,7,8,9,10,11,12,13,14,15,16,17,18]]],(118,⟨0x226622064402640222220122,[(20,[.closeB 5])],[]⟩),(83,⟨0x26222200012,[(5,[.canon (.s 3) 9004 0,.canon (.s 4) 9003 0])],[]⟩),e0 123 0x26c444422012,e0 162 0x2622212,e0 124 0x262226222122,e0 122 0x2644426c404026c40426200222644426440262022026001cf444042644026200202012,e0 146 0x2262212,(103,⟨0x264c4442600122,[(10,[.closeB 3])],[]⟩),e0 84 0x2622122,e0 56 0x221,e0 127 0x221,e0 126 0x2622222212,(125,⟨0x22622012,[(5,[.closeB 1])],[]⟩),e0 85 0x22212,e1 131 0x222222626002620002220012201 [g1 8 1 0,g2 14 25 0,g1 20 8 0],e1 132 0x222222626002620002220012201 [g1 8 1 0,g2 14 25 0,g1 20 8 0],e0 89 0x2622200,e1 129 0x22222226c04422202020000226222012 [g2 8 229508 0,g1 14 128 0],e0 201 0x2622212,e0 190 0x26222122,e0 163 0x220020262262220026c4400220002220112,e1 168 0x26200201 [G1 8 [.canon (.s 2) 4004 1],G1 12 [.canon (.s 2) 4004 1]],(179,⟨0x222e202202236222002020000222202000002226200222622222020000200,[(21,[.closeS (.s 25)]),(57,[.closeS (.s 54)])],[G2 6 [cS 3 1,gK 14347 0 [2003]],G1 12 [cS 3 1,gK 11 0 [2003]],g1 23 0 0,G2 28 [cS 3 1,gK 3758096393 0 [2003]],g1 34 0 0,G2 43 [cS 3 1,gK 965830770761 0 [2003]],G1 49 [cS 3 1,gK 3758096457 0 [2003]],g1 59 0 0]⟩),e0 145 0x2212,e1 164 0x22262260202220122 [(8,[cC 5 0 1,gK 552 40 [4100]],[cC 5 0 1,gK 0 40 [4100]])],e0 130 0x2222202622622220022022202e2001112,e0 87 0x26223222002e2220222e2220222222226222220222222020022,e0 88 0x26444222012,e0 133 0x262201,e0 90 0x22222622220622020260006402201,e1 57 0x22222022001ef622226202062020620202662222620202226622226202020262222202022002064422222202622202222002002202026222002222202062222201022 [g1 22 1944 664,g1 49 2064 2064],e0 128 0x2262212,(86,⟨0x226222222302026222220122,[(21,[.closeB 2])],[]⟩),e0 55 0x22622022200226000264402220122,e0 102 0x2222002220002220112,e0 69 0x6c44222222022212,e0 105 0x26442201,e0 104 0x2222212,e0 70 0x2644422012,e1 180 0x200226c0442602020202202022000222 [g1 8 192 192,(14,[gK 33008 240],[gK 0 240]),g1 24 0 240,g1 28 192 192],e0 166 0x2220622102,(141,⟨0x2222306222030622222022262222302622022002020000200202000020002,[(53,[.closeS (.s 49)]),(59,[.closeS (.c 3 0),.closeS (.c 3 1)])],[G2 8 [cC 3 0 1,cC 3 1 1,gK 14350 14 [4060,4061]],G1 14 [cC 3 0 1,cC 3 1 1,gK 12 12 [4060,4061]],G2 25 [cS 6 2,cC 3 0 1,cC 3 1 1,gK 1849454 46 [2006,4060,4061]],G1 31 [cS 6 2,cC 3 0 1,cC 3 1 1,gK 14446 46 [2006,4060,4061]],G1 44 [cS 6 2,cC 3 0 1,cC 3 1 1,gK 1849966 558 [2006,4060,4061]]]⟩),e0 167 0x26262222020262620260220626020260012,e0 212 0x26201,e0 193 0x62206000200222202201,e1 171 0x62222222220262222620062002220000001 [g2 6 3587 0,g1 12 3 0,g1 23 16 0,g1 34 16 0,g1 43 16 0,g1 47 16 0],e0 170 0x26221,e1 174 0x2206262026002000200620201 [g1 8 16 0,g2 14 12291 0,g1 20 0 0,g1 30 16 0,g1 35 16 0],e0 173 0x26221,(142,⟨0x222302222262223622020220e0002000202200002012,[(32,[.closeS (.s 34)])],[G2 8 [cS 5 1,gK 7204 4 [2005]],G1 14 [cS 5 1,gK 32 0 [2005]],G2 22 [cS 5 1,gK 400548 4 [2005]],G1 28 [cS 5 1,gK 7204 4 [2005]]]⟩),(98,⟨0x2226202620200202620222000222222202000220112,[(16,[.closeS (.s 16)])],[G1 8 [cS 2 1,gK 12 0 [2002]],G2 20 [.closeS (.s 5),cS 6 1,gK 240 16 [2006]],G1 26 [cS 6 1,gK 64 0 [2006]],G1 37 [cS 2 1,gK 12 0 [2002]],G1 43 [cS 2 1,gK 12 0 [2002]]]⟩),e0 64 0x222222220222112,e0 34 0x222022112,e0 195 0x26222221,e1 213 0x22226260002000201 [g2 6 387 0,g1 12 0 0,g1 22 16 0,g1 27 16 0],e0 194 0x226221,e0 175 0x264c4422012,e1 176 0x2206c444c440422022200000212 [g2 6 900 4,g1 12 0 0,g1 22 16 0,g1 27 16 0],e0 177 0x26c444422012,e1 196 0x2200222202262222626200203202026220220220200000622260202220000001002 [g2 6 57398 52,g1 12 48 48,g2 20 939581622 52,g1 26 57398 52,g1 44 112 48,g1 50 112 48],e0 178 0x22223300200262212,e1 144 0x2202620220000222026202200002220262022000000260012 [g1 8 64 0,g2 14 917518 8,g1 20 14 8,g1 30 64 0,g2 37 1879048202 8,g1 43 10 8,g1 53 64 0,g2 60 3848290697224 8,g1 66 0 0,g1 76 64 0,g1 81 64 0],e1 100 0x222226262222022200000202022026202112 [G2 18 [cS 7 2,gK 917632 0 [2007]],G1 24 [cS 7 2,gK 128 0 [2007]]],e1 101 0x226022222022 [(6,[gK 280 24],[gK 0 24]),g1 16 0 24,g1 20 16 16],e1 68 0x22222626226220222200000202022023202600112 [G2 18 [cS 8 1,gK 7340292 4 [2008]],G1 24 [cS 8 1,gK 256 0 [2008]]],e0 107 0x26222212,e0 71 0x226226222226022620220122,e0 147 0x2220622102,e1 108 0x22222622226c4c4404022222020262006c04022202020000626202260200202202e600200112 [G2 18 [cS 11 1,gK 481036339226 16 [2011]],G1 24 [cS 11 1,gK 2048 0 [2011]]],e0 72 0x22232202001ef22202220122,e0 46 0x266222226222002662222262220022266222226222002022622222202622202262222202622202222020122,e1 47 0x26c44444262220026c44444262220022226222222022222020266222226222002026622222622200202662222262220020266222226222002020122 [g1 36 147573952589676413004 12],e1 60 0x22222226260e22022002202220260022000000200220222022000020200220220200220260011122 [G1 10 [cS 5 1,gK 112 0 [2005]],G1 20 [cS 5 1,gK 112 0 [2005]],G1 28 [cS 5 1,gK 112 0 [2005]],G1 38 [cS 5 1,gK 112 0 [2005]],G2 46 [cS 11 1,gK 962072676876 12 [2011]],G1 52 [cS 11 1,gK 2560 0 [2011]],G1 65 [cS 5 1,gK 112 0 [2005]],G1 71 [cS 5 1,gK 112 0 [2005]]],e0 27 0x222222320026221122,e1 28 0x222226222262022200000202022022220026221122 [G2 18 [cS 9 1,gK 29360768 0 [2009]],G1 24 [cS 9 1,gK 512 0 [2009]]],e0 151 0x26c4444026402201,e0 152 0x26442201,e1 113 0x222064c002644c00222600620000644402644022201 [g1 8 4 0,g2 14 9 0,g1 20 0 0,g1 28 4 0,g1 33 4 0],e0 114 0x26442201,e1 77 0x2222222022226020222062260202260206000022226020622000022202220620226020600002220202602012 [g1 10 16 0,g2 16 102 36,g1 22 32 32,g1 30 16 0,g1 39 16 0,g2 45 160 32,g1 51 32 32,g1 60 16 0,g2 66 416 32,g1 72 160 32,g1 80 16 0,g1 88 16 0,g1 97 16 0,g1 101 16 0],e1 78 0x2222220620226020600006444026c444c04040222020260206220000222006cc44c4444c04040440264402220064402644026c04026c44040264402644022200644022202202026022602012 [g1 13 64 0,g1 20 64 0,g1 22 142 136,g1 28 64 0,g1 36 64 0,g2 42 394 136,g1 48 0 0,g1 59 64 0,g2 64 1930 648,g1 70 394 136,g1 78 64 0,g1 84 64 0],e0 115 0x2262222262022022,e1 54 0x20222222262226c0442602020260226020622260200062200002 [g2 6 206 72,g1 12 64 64,g2 18 462 72,g1 24 206 72,g1 34 64 64,g1 40 64 64],e1 79 0x2222226cc40444cc4040444022202602262020622262020000220060e20200022020600122 [g2 30 236 44,g1 36 64 0],e1 80 0x22206222602026006220002222203622000622262002062202202026260022602062226020260062200002222012 [G2 6 [cS 3 1,gK 10 2 [2003]],G2 14 [cS 3 1,gK 58 2 [2003]],G1 20 [cS 3 1,gK 26 2 [2003]],G2 24 [cS 3 1,gK 58 2 [2003]],G1 30 [cS 3 1,gK 58 2 [2003]],G1 43 [cS 3 1,gK 58 2 [2003]],G1 46 [cS 3 1,gK 42 2 [2003]],G1 53 [cS 3 1,gK 10 2 [2003]],G2 59 [cS 3 1,gK 266 2 [2003]],g1 65 0 0,g1 73 4 0,g1 78 4 0],e1 116 0x22262622222202062026262202022200122 [G1 10 [cS 5 2,gK 44 12 [2005]]],e1 53 0x202222220222620260600206200622260200062200002020222222222220260020620062226020006220002222222226222202e0006222602000622000222222222026006220000206444022220102 [g1 8 12 4,g2 14 22 6,g1 20 6 6,g1 30 12 4,g2 37 70 6,g1 43 6 6,g2 49 198 6,g1 55 70 6,g1 65 12 4,g2 73 518 6,g1 79 6 6,g2 85 1542 6,g1 91 518 6,g1 103 12 4,g1 113 12 4,g2 119 8198 6,g1 125 4 4,g2 131 24582 6,g1 137 8198 6,g1 147 12 4,g1 153 12 4],e0 21 0x2222302022212,e1 134 0x222222666202602006c002622000012 [g2 8 102 4,g1 14 32 0],e0 91 0x222212,e1 92 0x22222226620260202622000020012 [g2 16 102 4,g1 22 32 0],e0 135 0x6442640264022006c4044026402200640264026402201,e1 93 0x2220222602062200006c4404c440444026440222002200644022202200622022012 [g1 8 4 0,g1 19 4 0,g1 26 4 0,g1 28 2 2,g1 34 4 0,g2 40 10 2,g1 46 0 0,g1 54 4 0,g1 59 4 0],e0 58 0x264426440222012,e0 109 0x26c444422012,e1 110 0x22222602260226020622260200012 [g2 6 142 8,g1 12 0 0,g1 20 64 0,g1 25 64 0],e1 73 0x22202626020062200006c4404cc40404c4c40044c400222006c4404c44044c400222006c4001cf404004c44044c4002220122 [g1 8 16 0,g1 16 16 0,g1 24 16 0,g2 30 44 12,g1 36 0 0,g1 44 16 0,g1 49 16 0],e0 111 0x22212,e1 74 0x22206444c0402622260200220062200012 [g2 6 10 2,g1 12 0 0,g1 23 26 2,g1 28 4 0,g1 33 4 0],e1 148 0x222222222222622600262260026022600620002226022602062226020002022260226020112 [g2 10 1806 8,g1 16 768 0,g2 24 7950 8,g1 30 1806 8],e1 149 0x222222226c0442220202602260206222602000012 [g2 8 398 8,g1 14 128 0],e1 150 0x26220062222622222620062006402201 [g1 24 3 0],e1 112 0x222644222002666226206602600266600600660060022622622222226226222202222222202e2220222022226222222022202ee2220220022022222022010000644222222200262220022202222002622200222000000011122 [g1 12 8076 12,g1 18 8076 12,g1 60 24576 0],e1 75 0x222026260200622000222332002622220122 [g1 10 16 0,g2 16 268 12,g1 22 0 0,g1 30 16 0,g1 35 16 0],e0 48 0x2622022002600064402220122,e0 76 0x2220022000220112,e0 49 0x622322022222202602122,e1 59 0x222022602062200006440222012 [g1 8 4 0,g2 14 10 2,g1 20 0 0,g1 28 4 0,g1 33 4 0],e0 25 0x264422012,e0 137 0x2236226200026201,e1 22 0x22206c444c0404c0022260062000062202012 [g1 8 16 0,g2 14 38 4,g1 20 0 0,g1 28 16 0,g1 33 16 0],e1 23 0x2222220626220202062202202026022602062600006200012 [g2 6 38 4,g1 12 0 0,g2 18 102 4,g1 24 38 4,g1 39 16 0,g1 46 16 0],e0 136 0x26c44260012,e1 94 0x2222226260026cc000262226020260062000012 [G2 8 [cS 5 1,gK 102 4 [2005]],G1 14 [cS 5 1,gK 32 0 [2005]]],e1 165 0x2222226260026200001 [g2 8 25 0,g1 14 8 0],e1 138 0x222262622260262600260062000262222620201 [g1 8 16 0,g2 14 35 0,g1 20 0 0,g1 28 16 0,g1 33 16 0],e1 139 0x2220626002600620000620201 [g1 8 16 0,g2 14 35 0,g1 20 0 0,g1 28 16 0,g1 33 16 0],e1 95 0x26622226222266000226c04c00262002226c04c002620001 [g2 6 35 0,g1 12 35 0],(61,⟨0x222222222226260026200026260006200000022026022200222220112,[(7,[.closeS (.s 13)])],[G2 8 [.closeS (.s 4),cS 5 1,gK 50 2 [2005]],G1 14 [cS 5 1,gK 32 0 [2005]],G1 24 [cS 2 1,gK 12 0 [2002]],G2 32 [.closeS (.s 4),cS 5 1,gK 242 2 [2005]],G1 38 [cS 5 1,gK 98 2 [2005]],G2 46 [.closeS (.s 4),cS 5 1,gK 1010 2 [2005]],G1 52 [.closeS (.s 4),cS 5 1,gK 242 2 [2005]],G1 61 [cS 2 1,gK 12 0 [2002]]]⟩),e1 51 0x22222602260062000222622212 [g2 8 388 0,g1 14 0 0,g1 22 64 0,g1 27 64 0],e1 50 0x22262226222222222222622602260062000222602260202022212 [g2 6 534 16,g1 12 22 16,g2 20 3606 16,g1 26 534 16,g1 34 256 0,g1 40 256 0],e1 52 0x222222622226c4c4404022202062006c0402220202602260206260000012 [G2 8 [cS 9 1,gK 1566 16 [2009]],G1 14 [cS 9 1,gK 512 0 [2009]]],e0 16 0x26e222222e22200026e222222e2220002226e222222e2220002022e2222222022001ef22202220226222202001ef26222e20202200202222020122,e0 17 0x26001cf4444442e2220002226001cf4444442e2220002022e2222222002026e222222e2220002026e222222e2220002026e222222e2220002026e222222e2220002020122,e1 29 0x2222222262e026000262000000022222022000020200220260011122 [G2 36 [cS 10 1,gK 3340 12 [2010]],G1 42 [cS 10 1,gK 1280 0 [2010]]],e1 30 0x222222226226002260062000022220026221122 [G2 10 [cS 9 1,gK 1984 0 [2009]],G1 16 [cS 9 1,gK 768 0 [2009]]],e1 31 0x2206262026002000200620201 [g1 8 16 0,g2 14 12291 0,g1 20 0 0,g1 30 16 0,g1 35 16 0],e1 32 0x222222062602600260260062260000062260022600620000620201 [g1 8 16 0,g2 14 35 0,g1 20 0 0,g1 29 16 0,g2 34 99 0,g1 40 35 0,g1 48 16 0,g1 54 16 0],e0 7 0x26c4426c4426c442622222026222322002600222026002220260006402640220020122]
namespace trace_events_c1
def CI:ST:=[o1 20 (.s 18) [],o2 21 (ix 5) [.s 16,.s 18] [],o2 22 (lD 5) [.s 21] [21],o2 6 (.a (.alloc 5 [.int .i64 0,.int .i64 0,.int .i64 0,.int .i64 0,.bR])) [] [],o1 5 (.s 20) [20],oz (.l (.store 5)) [.s 6,.s 22] [22]]
def AN:ST:=[o1 23 (.s 0) [],o1 24 (.s 3) [],o1 25 (.s 5) [5],o2 26 (bI .add) [.s 25,.k (.int .i64 1)] [25],o2 27 (.p (.build [.int .i64 0,.int .i64 0] [(0,1),(1,1)])) [.s 24,.s 26] [24,26],o2 28 (lD 5) [.s 6] [6],o2 29 .c [.s 23,.s 27,.s 28] [23,27,28],o2 30 (.p .not) [.s 29] [29]]
def yb:ST:=[o2 31 (bI .add) [.s 18,.k (.int .i64 1)] [],o1 18 (.s 31) [31]]
def Gg:RC:=.hg (.seq (.ops [o2 19 (bI .lss) [.s 18,.s 17] []]) (.seq (.cond (.s 19) .skip (.exit 2)) (.seq (.block 3 (.seq (.ops CI) (.seq (.ops AN) (.cond (.s 30) .ret .skip)))) (.ops yb)))) (.keep [0,3,8,9,10,16,17,18] [])
def LK:ST:=[o1 12 (.s 10) [],o2 13 (ix 3) [.s 8,.s 10] [],o2 14 (lD 3) [.s 13] [13],o2 4 (.a (.alloc 3 [.str ByteArray.empty,.bR,.bR])) [] [],o1 3 (.s 12) [12],oz (.l (.store 3)) [.s 4,.s 14] [14]]
def Jt:ST:=[o2 15 (fa 2) [.s 4] [],o2 16 (ld 1) [.s 15] [15],o2 17 ln [.s 16] [],o1 18 (.k (.int .i64 0)) []]
def Gn:ST:=[o2 32 (bI .add) [.s 10,.k (.int .i64 1)] [],o1 10 (.s 32) [32]]
def U2:RC:=.block 2 (.gh (.keep [0,3,8,9,10,16,17,18] []) (.loop Gg))
def Pg:RC:=.hg (.seq (.ops [o2 11 (bI .lss) [.s 10,.s 9] []]) (.seq (.cond (.s 11) .skip (.exit 0)) (.seq (.block 1 (.seq (.ops LK) (.seq (.ops Jt) U2))) (.ops Gn)))) (.keep [0,8,9,10] [])
def Qa:ST:=[o2 7 (fa 0) [.s 1] [1],o2 8 (ld 1) [.s 7] [7],o2 9 ln [.s 8] [],o1 10 (.k (.int .i64 0)) []]
def U1:RC:=.block 0 (.gh (.keep [0,8,9,10] []) (.loop Pg))
def text:RF:=⟨33,[],.seq (.ops Qa) U1⟩
section
variable{S:Sys}
abbrev I1(ps:Sl bX)(i:Int)(B:aZ (aZ V))(more:Bool)(y:Nat):St:=⟨[(0,.yl y),Cv 8 ps,Iv 9 (len ps),Iv 10 i],[],[],B,more,y⟩
abbrev I2(ps:Sl bX)(i:Int)(es:Sl Event)(j:Int)(B:aZ (aZ V))(more:Bool)(y:Nat):St:=⟨[(0,.yl y),Iv 3 i,Cv 8 ps,Iv 9 (len ps),Iv 10 i,Cv 16 es,Iv 17 (len es),Iv 18 j],[],[],B,more,y⟩
abbrev S2(ps:Sl bX)(i:Int)(es:Sl Event)(j:Int)(b:Bool)(B:aZ (aZ V))(more:Bool)(y:Nat):St:=⟨[(0,.yl y),Iv 3 i,Cv 8 ps,Iv 9 (len ps),Iv 10 i,Cv 16 es,Iv 17 (len es),Iv 18 j,Bv 19 b],[],[],B,more,y⟩
theorem X9(ps:Sl bX)(i:Int)(es:Sl WF)(j:Int)(B:T')(more:X')(y:Nat)(D:decide (j<len es)=false):
 rn S.bare oR some (.rc Gg) [] (I2 ps i es j B more y)=some (.exit 2,S2 ps i es j false B more y):=by
 refine Le.get ?_;refine Kf (n:=7) (fo':=.rc (.cond (.s 19) .skip (.exit 2))) (fs':=[.seq (.seq (.block 3 (.seq (.ops CI) (.seq (.ops AN) (.cond (.s 30) .ret .skip)))) (.ops yb)),.gst (.keep [0,3,8,9,10,16,17,18] [])]) (λb=>S2 ps i es j b B more y) D Zae ?_
 exact Le.of_eq Zae
theorem Yx(ps:Sl bX)(i:Int)(es:Sl WF)(j:Int)(e:WF)(B:T')(more:X')(y:Nat)(D:decide (j<len es)=true)(G:idx es j=some e)(J:(!(more|| !B.isEmpty))=false):
 rn S.bare oR some (.rc Gg) [] (I2 ps i es j ([enc (⟨i,wrap .i64 (j+1)⟩:bf),enc e]::B) more y)=some (.norm,I2 ps i es (wrap .i64 (j+1)) B more y):=by
 refine Le.get ?_;refine Kt (n:=7) (fo':=.rc (.cond (.s 19) .skip (.exit 2))) (fs':=[.seq (.seq (.block 3 (.seq (.ops CI) (.seq (.ops AN) (.cond (.s 30) .ret .skip)))) (.ops yb)),.gst (.keep [0,3,8,9,10,16,17,18] [])]) (λb=>S2 ps i es j b ([enc (⟨i,wrap .i64 (j+1)⟩:bf),enc e]::B) more y) D Zae ?_
 refine RL G ?_;refine RK 8 false [] (CI.drop 1) [.seq (.seq (.ops AN) (.cond (.s 30) .ret .skip)),.blk 3,.seq (.ops yb),.gst (.keep [0,3,8,9,10,16,17,18] [])] ⟨[(0,.yl y),Iv 3 i,Cv 8 ps,Iv 9 (len ps),Iv 10 i,Cv 16 es,Iv 17 (len es),Iv 18 j,Bv 19 true,Iv 20 j],[],[],([enc (⟨i,wrap .i64 (j+1)⟩:bf),enc e]::B),more,y⟩ .i64 rfl Zae λx a=>?_
 obtain rfl:x=e:=Zac
 refine XV 1 false [] (CI.drop 3) [.seq (.seq (.ops AN) (.cond (.s 30) .ret .skip)),.blk 3,.seq (.ops yb),.gst (.keep [0,3,8,9,10,16,17,18] [])] ⟨[(0,.yl y),Iv 3 i,Cv 8 ps,Iv 9 (len ps),Iv 10 i,Cv 16 es,Iv 17 (len es),Iv 18 j,Bv 19 true,Iv 20 j,Cv 22 x],[],[],([enc (⟨i,wrap .i64 (j+1)⟩:bf),enc x]::B),more,y⟩ [iv 0,iv 0,iv 0,iv 0,.v .bR] rfl (by simp only[bK,zC,rP,tP,rO,tE,uK,tH,uY,rF,tM,zq,u_,vf,u9,uG,w6,wZ,tQ,u6,SV.c8];rfl) Zae ?_
 refine Ast 1 false [] (CI.drop 5) [.seq (.seq (.ops AN) (.cond (.s 30) .ret .skip)),.blk 3,.seq (.ops yb),.gst (.keep [0,3,8,9,10,16,17,18] [])] ⟨[(0,.yl y),Iv 3 i,Cv 8 ps,Iv 9 (len ps),Iv 10 i,Cv 16 es,Iv 17 (len es),Iv 18 j,Bv 19 true,Cv 22 x,Pv 6,Iv 5 j],[Xb 6 (⟨0,0,0,0,.nil⟩:WF)],[],([enc (⟨i,wrap .i64 (j+1)⟩:bf),enc x]::B),more,y⟩ 6 0 x [iv 0,iv 0,iv 0,iv 0,.v .bR] ((cells x).map .v) rfl Zae ?_
 refine Ze (n:=10) (q:=AN.drop 6) (fs':=[.seq (.cond (.s 30) .ret .skip),.blk 3,.seq (.ops yb),.gst (.keep [0,3,8,9,10,16,17,18] [])]) (st:=⟨[(0,.yl y),Iv 3 i,Cv 8 ps,Iv 9 (len ps),Iv 10 i,Cv 16 es,Iv 17 (len es),Iv 18 j,Bv 19 true,(23,.yl y),Cv 27 (⟨i,wrap .i64 (j+1)⟩:bf),Cv 28 x],[Xb 6 x],[],([enc (⟨i,wrap .i64 (j+1)⟩:bf),enc x]::B),more,y⟩) (vs:=[cv (⟨i,wrap .i64 (j+1)⟩:bf),cv x]) Zae rfl Zae Zae rfl rfl ?_
 refine Kf (n:=3) (fo':=.rc (.cond (.s 30) .ret .skip)) (fs':=[.blk 3,.seq (.ops yb),.gst (.keep [0,3,8,9,10,16,17,18] [])]) (λb=>⟨[(0,.yl y),Iv 3 i,Cv 8 ps,Iv 9 (len ps),Iv 10 i,Cv 16 es,Iv 17 (len es),Iv 18 j,Bv 19 true,Bv 30 b],[Xb 6 x],[],B,more,y⟩) J Zae ?_
 exact Le.of_eq Zae
theorem UE(ps:Sl bX)(i:Int)(es:Sl WF)(j:Int)(e:WF)(B:T')(more:X')(y:Nat)(D:decide (j<len es)=true)(G:idx es j=some e)(J:(!(more|| !B.isEmpty))=true):
 rn S.bare oR some (.rc Gg) [] (I2 ps i es j ([enc (⟨i,wrap .i64 (j+1)⟩:bf),enc e]::B) more y)=some (.ret,⟨[(0,.yl y),Iv 3 i,Cv 8 ps,Iv 9 (len ps),Iv 10 i,Cv 16 es,Iv 17 (len es),Iv 18 j,Bv 19 true,Bv 30 true],[Xb 6 e],[],B,more,y⟩):=by
 refine Le.get ?_;refine Kt (n:=7) (fo':=.rc (.cond (.s 19) .skip (.exit 2))) (fs':=[.seq (.seq (.block 3 (.seq (.ops CI) (.seq (.ops AN) (.cond (.s 30) .ret .skip)))) (.ops yb)),.gst (.keep [0,3,8,9,10,16,17,18] [])]) (λb=>S2 ps i es j b ([enc (⟨i,wrap .i64 (j+1)⟩:bf),enc e]::B) more y) D Zae ?_
 refine RL G ?_;refine RK 8 false [] (CI.drop 1) [.seq (.seq (.ops AN) (.cond (.s 30) .ret .skip)),.blk 3,.seq (.ops yb),.gst (.keep [0,3,8,9,10,16,17,18] [])] ⟨[(0,.yl y),Iv 3 i,Cv 8 ps,Iv 9 (len ps),Iv 10 i,Cv 16 es,Iv 17 (len es),Iv 18 j,Bv 19 true,Iv 20 j],[],[],([enc (⟨i,wrap .i64 (j+1)⟩:bf),enc e]::B),more,y⟩ .i64 rfl Zae λx a=>?_
 obtain rfl:x=e:=Zac
 refine XV 1 false [] (CI.drop 3) [.seq (.seq (.ops AN) (.cond (.s 30) .ret .skip)),.blk 3,.seq (.ops yb),.gst (.keep [0,3,8,9,10,16,17,18] [])] ⟨[(0,.yl y),Iv 3 i,Cv 8 ps,Iv 9 (len ps),Iv 10 i,Cv 16 es,Iv 17 (len es),Iv 18 j,Bv 19 true,Iv 20 j,Cv 22 x],[],[],([enc (⟨i,wrap .i64 (j+1)⟩:bf),enc x]::B),more,y⟩ [iv 0,iv 0,iv 0,iv 0,.v .bR] rfl (by simp only[bK,zC,rP,tP,rO,tE,uK,tH,uY,rF,tM,zq,u_,vf,u9,uG,w6,wZ,tQ,u6,SV.c8];rfl) Zae ?_
 refine Ast 1 false [] (CI.drop 5) [.seq (.seq (.ops AN) (.cond (.s 30) .ret .skip)),.blk 3,.seq (.ops yb),.gst (.keep [0,3,8,9,10,16,17,18] [])] ⟨[(0,.yl y),Iv 3 i,Cv 8 ps,Iv 9 (len ps),Iv 10 i,Cv 16 es,Iv 17 (len es),Iv 18 j,Bv 19 true,Cv 22 x,Pv 6,Iv 5 j],[Xb 6 (⟨0,0,0,0,.nil⟩:WF)],[],([enc (⟨i,wrap .i64 (j+1)⟩:bf),enc x]::B),more,y⟩ 6 0 x [iv 0,iv 0,iv 0,iv 0,.v .bR] ((cells x).map .v) rfl Zae ?_
 refine Ze (n:=10) (q:=AN.drop 6) (fs':=[.seq (.cond (.s 30) .ret .skip),.blk 3,.seq (.ops yb),.gst (.keep [0,3,8,9,10,16,17,18] [])]) (st:=⟨[(0,.yl y),Iv 3 i,Cv 8 ps,Iv 9 (len ps),Iv 10 i,Cv 16 es,Iv 17 (len es),Iv 18 j,Bv 19 true,(23,.yl y),Cv 27 (⟨i,wrap .i64 (j+1)⟩:bf),Cv 28 x],[Xb 6 x],[],([enc (⟨i,wrap .i64 (j+1)⟩:bf),enc x]::B),more,y⟩) (vs:=[cv (⟨i,wrap .i64 (j+1)⟩:bf),cv x]) Zae rfl Zae Zae rfl rfl ?_
 refine Kt (n:=3) (fo':=.rc (.cond (.s 30) .ret .skip)) (fs':=[.blk 3,.seq (.ops yb),.gst (.keep [0,3,8,9,10,16,17,18] [])]) (λb=>⟨[(0,.yl y),Iv 3 i,Cv 8 ps,Iv 9 (len ps),Iv 10 i,Cv 16 es,Iv 17 (len es),Iv 18 j,Bv 19 true,Bv 30 b],[Xb 6 x],[],B,more,y⟩) J Zae ?_
 exact Le.of_eq Zae
abbrev S1(ps:Sl bX)(i:Int)(b:Bool)(B:aZ (aZ V))(more:Bool)(y:Nat):St:=⟨[(0,.yl y),Cv 8 ps,Iv 9 (len ps),Iv 10 i,Bv 11 b],[],[],B,more,y⟩
theorem Xv(ps:Sl bX)(i:Int)(B:T')(more:X')(y:Nat)(D:decide (i<len ps)=false):
 rn S.bare oR some (.rc Pg) [] (I1 ps i B more y)=some (.exit 0,S1 ps i false B more y):=by
 refine Le.get ?_;refine Kf (n:=7) (fo':=.rc (.cond (.s 11) .skip (.exit 0))) (fs':=[.seq (.seq (.block 1 (.seq (.ops LK) (.seq (.ops Jt) U2))) (.ops Gn)),.gst (.keep [0,8,9,10] [])]) (λb=>S1 ps i b B more y) D Zae ?_
 exact Le.of_eq Zae
def Tf:R0:=[.blk 2,.blk 1,.seq (.ops Gn),.gst (.keep [0,8,9,10] [])]
theorem TW(ps:Sl bX)(i:Int)(p:bX)(B:T')(more:X')(y:Nat)(r:Out×St)(D:decide (i<len ps)=true)(G:idx ps i=some p)
 (h:rn S.bare oR some (.rc (.loop Gg)) Tf (I2 ps i p.events 0 B more y)=some r):rn S.bare oR some (.rc Pg) [] (I1 ps i B more y)=some r:=by
 refine Le.get ?_;refine Kt (n:=7) (fo':=.rc (.cond (.s 11) .skip (.exit 0))) (fs':=[.seq (.seq (.block 1 (.seq (.ops LK) (.seq (.ops Jt) U2))) (.ops Gn)),.gst (.keep [0,8,9,10] [])]) (λb=>S1 ps i b B more y) D Zae ?_
 refine RL G ?_;refine RK 8 false [] (LK.drop 1) [.seq (.seq (.ops Jt) U2),.blk 1,.seq (.ops Gn),.gst (.keep [0,8,9,10] [])] ⟨[(0,.yl y),Cv 8 ps,Iv 9 (len ps),Iv 10 i,Bv 11 true,Iv 12 i],[],[],B,more,y⟩ .i64 rfl Zae λx a=>?_
 obtain rfl:x=p:=Zac
 refine XV 1 false [] (LK.drop 3) [.seq (.seq (.ops Jt) U2),.blk 1,.seq (.ops Gn),.gst (.keep [0,8,9,10] [])] ⟨[(0,.yl y),Cv 8 ps,Iv 9 (len ps),Iv 10 i,Bv 11 true,Iv 12 i,Cv 14 x],[],[],B,more,y⟩ [.v (.str ByteArray.empty),.v .bR,.v .bR] rfl (by simp only[bK,zC,rP,tP,rO,tE,uK,tH,uY,rF,tM,zq,u_,vf,u9,uG,w6,wZ,tQ,u6,SV.c8];rfl) Zae ?_
 refine Ast 1 false [] (LK.drop 5) [.seq (.seq (.ops Jt) U2),.blk 1,.seq (.ops Gn),.gst (.keep [0,8,9,10] [])] ⟨[(0,.yl y),Cv 8 ps,Iv 9 (len ps),Iv 10 i,Bv 11 true,Cv 14 x,Pv 4,Iv 3 i],[Xb 4 (⟨ByteArray.empty,.nil,.nil⟩:bX)],[],B,more,y⟩ 4 0 x [.v (.str ByteArray.empty),.v .bR,.v .bR] ((cells x).map .v) rfl Zae ?_
 refine WL 6 false [] (Jt.drop 2) [.seq U2,.blk 1,.seq (.ops Gn),.gst (.keep [0,8,9,10] [])] ⟨[(0,.yl y),Cv 8 ps,Iv 9 (len ps),Iv 10 i,Bv 11 true,Pv 4,Iv 3 i,Cv 16 x.events],[Xb 4 x],[],B,more,y⟩ x.events rfl Zae ?_
 refine BL (n:=5) (fo':=.rc (.loop Gg)) (fs':=Tf) (st':=I2 ps i x.events 0 B more y) Zae (Le.of_eq h)
theorem Ut(ps:Sl bX)(i:Int)(es:Sl WF)(j:Int)(B:T')(more:X')(y:Nat):
 rn S.bare oR some (.ex 2) Tf (S2 ps i es j false B more y)=some (.norm,I1 ps (wrap .i64 (i+1)) B more y):=by kernel_rfl
theorem wrap_small(n:Nat)(h:n<9223372036854775807):wrap .i64 ((n:Int)+1)=((n+1:Nat):Int):=by simp[wrap,IntKind.bits,signed];omega
abbrev eI(x:bf×Event):aZ V:=[enc x.1,enc x.2]
theorem v8.step{x:T2}{D rest:T'}{more:X'}(h:v8 D (x::rest) more):∃B,D=x::B/\((!(more|| !B.isEmpty))=false/\v8 B rest more\/(!(more|| !B.isEmpty))=true/\B=[]):=by rcases h with⟨rfl,rfl⟩|⟨rfl,u,r,a⟩;exact⟨rest,rfl,.inl ⟨rfl,.inl ⟨rfl,rfl⟩⟩⟩;cases D with|nil=>grind|cons w D=>simp only[cons_append,List.cons.injEq]at a;obtain⟨rfl,rfl⟩:=a;refine⟨D,rfl,?_⟩;cases D with|nil=>grind|cons z C=>exact .inl ⟨rfl,.inr ⟨rfl,Zab,r,rfl⟩⟩
theorem uJ{α:Type}{s:Sl α}{j:Nat}{x:α}{r:aZ α}(h:s.l.drop j=x::r):idx s (j:Int)=some x/\decide ((j:Int)<len s)=true/\s.l.drop (j+1)=r:=by
 have a:j<s.l.length:=by apply Classical.byContradiction;intro w;rw[List.drop_eq_nil_of_le Zaa]at h;cases h
 have u:=List.drop_eq_getElem_cons a;rw[u]at h;simp only[List.cons.injEq]at h;refine⟨?_,Zac,h.2⟩;unfold idx;simp_all
variable{Q:Out×St->a_ (Out×St)}{fs:R0}
theorem inner(ps:Sl bX)(i:Int)(es:Sl WF)(J:es.l.length<9223372036854775807)(more:X')(y:Nat)(R:T'):∀(a:aZ WF)(j:Nat),es.l.drop j=a->∀D,v8 D ((jA i j a).map eI++R) more->
 (∃(B:T')(U:Int),v8 B R more/\rn S.bare oR Q (.rc (.loop Gg)) fs (I2 ps i es j D more y)=rn S.bare oR Q (.ex 2) fs (S2 ps i es U false B more y))\/
 (∃st':St,st'.want=[]/\rn S.bare oR Q (.rc (.loop Gg)) fs (I2 ps i es j D more y)=Q (.ret,st'))
 |[],j,hd,D,G=>by have b:decide ((j:Int)<len es)=false:=(by simp_all);exact .inl ⟨D,j,by simpa[jA]using G,Gr (X9 ps i es j D more y b)⟩|e::a,j,hd,D,G=>by have⟨b,z,C⟩:=uJ hd;have T:j<es.l.length:=Zac;simp only[jA,map_cons,cons_append]at G;obtain⟨B,rfl,u⟩:=v8.step G;have I:=wrap_small j Zaa;have w:((j:Int)+1)=wrap .i64 ((j:Int)+1):=Zac;rcases u with⟨u,L⟩|⟨u,rfl⟩;have k:=Yx (S:=S) ps i es j e B more y z b u;rw[<-w]at k;have W:=GY (Q:=Q) (fs:=fs) k;have O:=inner ps i es J more y R a (j+1) C B Zac;rw[show((j+1:Nat):Int)=(j:Int)+1 from rfl]at O;grind;have k:=UE (S:=S) ps i es j e [] more y z b u;rw[<-w]at k;exact .inr ⟨_,by rfl,HK k⟩
theorem outer(ps:Sl bX)(J:ps.l.length<9223372036854775807)(D:∀p∈ps.l,p.events.l.length<9223372036854775807)(more:X')(y:Nat):∀(a:aZ bX)(i:Nat),ps.l.drop i=a->∀B,v8 B ((gG i a).map eI) more->
 rn S.bare oR Qi (.rc (.loop Pg)) [.blk 0] (I1 ps i B more y)=some ()
 |[],i,hd,B,G=>by
  have b:decide ((i:Int)<len ps)=false:=by simp_all
  rw[Gr (Xv ps i B more y b)];have:B=[]:=by
   rcases G with⟨_,rfl⟩|⟨_,L,r,c⟩;rfl;have:B=[]:=by cases B with
    |nil=>rfl|cons=>simp[gG]at c
   grind
  subst this;rfl
 |p::a,i,hd,B,G=>by have⟨b,z,C⟩:=uJ hd;have d:i<ps.l.length:=Zac;have I:p∈ps.l:=List.mem_of_mem_drop (i:=i) Zac;simp only[gG,map_append]at G;have u:=wrap_small i Zaa;rcases inner (S:=S) (Q:=some) (fs:=Tf) ps i p.events (D p I) more y _ p.events.l 0 rfl B G with⟨w,O,g1,g2⟩|⟨st',g1,g2⟩;rw[Ut,u]at g2;rw[GY (TW ps i p B more y _ z b g2)];exact outer ps J D more y a (i+1) C w g1;rw[HK (TW ps i p B more y _ z b g2)];simp[Qi,g1]
theorem all(t:Z4)(B:aZ (bf×WF))(h:kf t=some B)(D:T')(more:X')(G:v8 D (B.map eI) more)(y:Nat):
 rn S.bare oR Qi (.rc text.body) [] ⟨wm 0 (([]:T2).map .v++.yl y::[V.fptr (cells t)].map .v),[],[],D,more,y⟩=some ():=by
 unfold kf at h;split at h
 .rename_i hk;cases h;simp only[ζh,List.all_eq_true,pY,decide_eq_true_eq]at hk;refine Le.get ?_;refine WL 4 false [] (Qa.drop 2) [.seq U1] ⟨[(0,.yl y),Cv 8 t.procs],[],[],D,more,y⟩ t.procs rfl Zae ?_
  refine BL (n:=5) (fo':=.rc (.loop Pg)) (fs':=[.blk 0]) (st':=I1 t.procs 0 D more y) Zae (Le.of_eq ?_)
  exact outer t.procs hk.1 hk.2 more y t.procs.l 0 rfl D G
 simp_all
end
theorem w_{α:Type}[bG α]{a b:Sl α}(h:cg a=cg b):rows a.l=rows b.l:=by cases a<;>cases b<;>first|rfl|(simp only[cg,Sl.k,pK,V.fsl.injEq,true_and,reduceCtorEq]at h;done)|(simp only[cg,Sl.k,pK,V.fsl.injEq,true_and,reduceCtorEq]at h;omega)
theorem xF(p:Int):∀(es B:aZ WF)(j:Int),rows es=rows B->(jA p j es).map eI=(jA p j B).map eI
 |[],[],_,_=>rfl|[],_::_,_,h=>by simp[rows]at h|_::_,[],_,h=>by simp[rows]at h|e::es,D::B,j,h=>by simp only[rows,map_cons,List.cons.injEq]at h;have a:enc e=enc D:=(by show V.agg (cells e)=V.agg (cells D);rw[h.1]);simp only[jA,map_cons,eI,a,xF p es B (j+1) h.2]
theorem EH:∀(ps B:aZ bX)(i:Int),rows ps=rows B->(gG i ps).map eI=(gG i B).map eI
 |[],[],_,_=>rfl|[],_::_,_,h=>by simp[rows]at h|_::_,[],_,h=>by simp[rows]at h|p::ps,p'::B,i,h=>by simp only[rows,map_cons,List.cons.injEq]at h;have a:cg p.events=cg p'.events:=(by have:=h.1;change[V.str p.name,cg p.vars,cg p.events]=[V.str p'.name,cg p'.vars,cg p'.events]at this;grind);simp only[gG,map_append,xF i _ _ 0 (w_ a),EH ps B (i+1) h.2]
def wH(f:Y')(g:Y')(a b:T2)(xs:T'):Prop:=∃(t:Z4)(u:aZ (bf×WF)),g=f/\a=[]/\b=[.fptr (cells t)]/\kf t=some u/\xs=u.map eI
theorem wH.uniq{f g:Y'}{a b:T2}{xs ys:T'}(h:wH f g a b xs)(k:wH f g a b ys):xs=ys:=by
 obtain⟨t,C,rfl,rfl,rfl,c,rfl⟩:=h;obtain⟨w,z,_,_,B,u,rfl⟩:=k;simp only[List.cons.injEq,V.fptr.injEq,and_true]at B;have D:cg t.procs=cg w.procs:=by change[cg t.procs]=[cg w.procs]at B;grind
 unfold kf at c u;split at c<;>split at u<;>simp only[ζa,reduceCtorEq]at c u;subst c u;exact EH _ _ 0 (w_ D)
end trace_events_c1
end Go.VE
namespace Go.VE
open Go.Proofs.YtlmckmkfopljoaaGreatDoor
noncomputable section
noncomputable def Ii(f:Y'):a_ GH:=bif beq f 172 then some (ua E)else bif beq f 169 then some (uu E)else none
noncomputable def Sb:Sys:=⟨E,λn=>n,λ_ _ _=>none,zd E,Ii⟩
theorem IJ:∀f q,Ii f=some q->oD E f q:=by intro f q h;unfold Ii at h;cases a:beq f 172 with|true=>rw[a]at h;cases h;have:=Nat.eq_of_beq_eq_true a;subst this;exact Re xk Zae Zae (DV Zae)|false=>rw[a]at h;cases a:beq f 169 with|true=>rw[a]at h;cases h;have:=Nat.eq_of_beq_eq_true a;subst this;exact RR Zae Zae Zae Zae|false=>rw[a]at h;cases h
def Tx:rD:=Rt E some (lk Ml)
abbrev cB:cm:=dh Sb Tx
theorem WN:rS Sb Tx where
 fn f rf h:=let⟨u,a,w⟩:=De h;⟨u,some,a,xk,w⟩
 yB f z y h:=Gp h
 prm:=IJ
theorem PM:∀f a b xs,Sb.items f a b=some xs->eF Sb f a b xs:=λf a b xs h=>by cases h
end
end Go.VE
namespace Go.VE
noncomputable section
namespace IB
def fu(s0:Zg):a_ Zg:=(Sl.isNil s0).bind λu=>bl u (some Sl.nil) ((oG (Sl.row []:Zg) s0).bind λw=>some w)
theorem mm:Br Sb cB 168 (λs0:Zg=>[enc s0]) (λz=>fu z):=Br.mk' (r_ (Tx 168)) (λs0=>Xx 9 λu _=>bt 2 4 bg (zF 7 5 7 λw _=>bg))
namespace cE
def eX(a:Int)(U:Sl WF)(W Y:Int)(G:Sl Assign)(J:Int)(b:T')(B:Zg)(D:Int)(more:X'):a_ (Fw ((Zg)×Int) Zg Empty):=bl (decide (D<J)) ((idx G D).bind λu=>(Sl.pP B u.var).bind λw=>(Sl.put B w (u.value:Int)).bind λz=>some (.n (z,wrap .i64 (D+1)))) (some (.x B))
def W3(B:Zg)(a:Int)(J:Sl WF)(D G:Int)(U:Sl Assign)(W Y:Int)(b:T')(more:X'):a_ (Fw ((Zg)×Int×Int×(T')) T' T'):=(bQ (λq:(Zg)×Int=>eX a J D G U W b q.1 q.2 more) (B,Y)).bind (Fw.elim (λe=>((fu e).bind Sl.whole).bind λw=>(yl b more [.int .i64 (wrap .i64 (a+1)),enc w]).bind λu=>bl u.1 (some (.n (e,D,wrap .i64 (G+1),u.2))) (some (.r u.2))) (λe=>elim e))
def bV(D:Sl WF)(G:Zg)(J B:Int)(U:T')(more:X'):a_ (Fw ((Zg)×Int×Int×(T')) T' T'):=bl (decide (B<J)) ((idx D B).bind λu=>W3 G B D J B u.assign (len u.assign) 0 U more) (some (.x U))
def W2(B:Zg)(D:Sl WF)(G J:Int)(U:T')(more:X'):a_ T':=(bQ (λq:(Zg)×Int×Int×(T')=>bV D q.1 q.2.1 q.2.2.1 q.2.2.2 more) (B,G,J,U)).bind (Fw.elim (λe=>some e) (λe=>some e))
def bn(U:bX)(G:Sl Var)(J:Int)(W:T')(B:Zg)(D:Int)(more:X'):a_ (Fw ((Zg)×Int) Zg Empty):=bl (decide (D<J)) ((idx G D).bind λu=>(eU B (u.init_:Int)).bind λw=>some (.n (w,wrap .i64 (D+1)))) (some (.x B))
def W1(B:bX)(D:Zg)(G:Sl Var)(J U:Int)(W:T')(more:X'):a_ T':=(bQ (λq:(Zg)×Int=>bn B G J W q.1 q.2 more) (D,U)).bind (Fw.elim (λe=>((fu e).bind Sl.whole).bind λw=>(yl W more [.int .i64 0,enc w]).bind λu=>bl u.1 (cE.W2 e B.events (len B.events) 0 u.2 more) (some u.2)) (λe=>elim e))
end cE
def cE(D:T')(B:bX)(more:X'):a_ T':=cE.W1 B (Sl.nil:Zg) B.vars (len B.vars) 0 D more
open cE in
theorem zx(more:X')(y:Nat)(J:T')(B:bX):Le ((cE J B more).bind λr=>some r) (cz Sb cB Qw (.rc (tb Tx 179),[],⟨wm 0 (.yl y::[V.fptr (cells B)].map .v),[],[],J,more,y⟩)):=bZ 10 B.vars (fK 6 (λC=>⟨[(0,.yl y),Kv 1 B,Ov 3,Cv 11 B.vars,Iv 12 (len B.vars),Iv 13 C.2],[Lb 2003 C.1],[],J,more,y⟩) (λD=>(0,⟨[(0,.yl y),Kv 1 B,Ov 3],[Lb 2003 D],[],J,more,y⟩)) (λC=>bt 8 14 (bH 7 λT _=>nS 10 2003 20 21 λU _=>bg) bg) (λD=>Tm 7 25 mm D λL _=>Zr 1 [.int .i64 0,enc L] λS _=>cM 3 27 (bZ 7 B.events (dH 6 (λu=>⟨[(0,.yl y),Ov 3,Cv 29 B.events,Iv 30 u.2.1,Iv 31 u.2.2.1],[Lb 2003 u.1],[],u.2.2.2,more,y⟩) (λw=>(2,⟨[],[],[],w,more,y⟩)) (λw=>⟨[],[],[],w,more,y⟩) (λu=>bt 8 32 (bH 8 λz _=>oN 3 7 0 z (bZ 7 z.assign (fK 6 (λG=>⟨[(0,.yl y),Ov 3,Iv 6 u.2.2.1,Cv 29 B.events,Iv 30 u.2.1,Iv 31 u.2.2.1,Cv 37 z.assign,Iv 38 (len z.assign),Iv 39 G.2],[Lb 2003 G.1],[],u.2.2.2,more,y⟩) (λI=>(4,⟨[(0,.yl y),Ov 3,Iv 6 u.2.2.1,Cv 29 B.events,Iv 30 u.2.1,Iv 31 u.2.2.1],[Lb 2003 I],[],u.2.2.2,more,y⟩)) (λG=>bt 8 40 (bH 7 λO _=>tY .i64 11 2003 λW _=>JL 0 2003 (.int .i64 O.value) λX _=>bg) bg) (λI=>Tm 8 54 mm I λQ _=>Zr 1 [.int .i64 (wrap .i64 (u.2.2.1+1)),enc Q] λY _=>cM 3 56 bg bg)))) bg) (λw=>bg) (λw=>bg))) bg))
end IB
end
end Go.VE
namespace Go.VE
open IB
def wP:aZ Assign->Zg->a_ Zg
 |[],s=>some s|a::r,s=>(Sl.pP s a.var).bind λj=>(Sl.put s j a.value).bind (wP r)
def wX:aZ Var->Zg->a_ Zg
 |[],s=>some s|v::r,s=>(eU s v.init_).bind (wX r)
def NL(s:Zg):a_ Zg:=(fu s).bind Sl.whole
def wK:Int->aZ WF->Zg->a_ (aZ (Int×Zg))
 |_,[],_=>some []|k,e::r,s=>(wP e.assign.l s).bind λn=>(NL n).bind λc=>(wK (k+1) r n).map ((k+1,c)::·)
def j7(p:bX):a_ (aZ (Int×Zg)):=if pY p.vars.l.length&&(pY p.events.l.length&&p.events.l.all λe=>pY e.assign.l.length)then(wX p.vars.l .nil).bind λs=>(NL s).bind λc=>(wK 0 p.events.l s).map ((0,c)::·)else none
namespace IST
abbrev eI(x:Int×Sl Int):aZ V:=[enc x.1,enc x.2]
theorem DI{n:Nat}(h:pY n=true):n<9223372036854775807:=by simpa[pY]using h
theorem wrap_small(n:Nat)(h:n<9223372036854775807):wrap .i64 ((n:Int)+1)=((n+1:Nat):Int):=by simp[wrap,IntKind.bits,signed];omega
theorem uJ{α:Type}{s:Sl α}{j:Nat}{x:α}{r:aZ α}(h:s.l.drop j=x::r):idx s (j:Int)=some x/\decide ((j:Int)<len s)=true/\s.l.drop (j+1)=r:=by
 have a:j<s.l.length:=by apply Classical.byContradiction;intro w;rw[List.drop_eq_nil_of_le Zaa]at h;cases h
 have u:=List.drop_eq_getElem_cons a;rw[u]at h;simp only[List.cons.injEq]at h;refine⟨?_,by simp[len,a],h.2⟩;unfold idx;rw[if_pos Zaa];simp[ζd a,h.1]
theorem J8{α:Type}{s:Sl α}{j:Nat}(h:s.l.drop j=[]):decide ((j:Int)<len s)=false:=by
 have:s.l.length<=j:=by simpa using h
 simp[len];omega
theorem Zf(p:bX)(v:Sl Var)(J:v.l.length<9223372036854775807)(D:T')(more:X'):∀(a:aZ Var)(j:Nat),v.l.drop j=a->∀s B,wX a s=some B->
 bQ (λq:Zg×Int=>cE.bn p v (len v) D q.1 q.2 more) (s,(j:Int))=some (.x B)
 |[],j,hd,s,B,h=>by cases h;rw[fq];simp only[cE.bn,J8 hd,bl,ζb,Bool.false_eq_true,if_false]|x::a,j,hd,s,B,h=>by have⟨b,G,U⟩:=uJ hd;have w:j<v.l.length:=(by simpa[len]using G);simp only[wX,ζg]at h;have⟨n,u,h⟩:=h;rw[fq];simp only[cE.bn,b,G,u,bl,ζb,if_true,wrap_small j Zaa];exact Zf p v J D more a (j+1) U n B h
theorem set(k:Int)(es:Sl WF)(a b:Int)(v:Sl Assign)(J:v.l.length<9223372036854775807)(D:T')(more:X'):∀(c:aZ Assign)(j:Nat),v.l.drop j=c->∀s B,wP c s=some B->
 bQ (λq:Zg×Int=>cE.eX k es a b v (len v) D q.1 q.2 more) (s,(j:Int))=some (.x B)
 |[],j,hd,s,B,h=>by cases h;rw[fq];simp only[cE.eX,J8 hd,bl,ζb,Bool.false_eq_true,if_false]|x::c,j,hd,s,B,h=>by have⟨d,G,U⟩:=uJ hd;have w:j<v.l.length:=(by simpa[len]using G);simp only[wP,ζg]at h;have⟨i,e,n,u,h⟩:=h;rw[fq];simp only[cE.eX,d,G,e,u,bl,ζb,if_true,wrap_small j Zaa];exact set k es a b v J D more c (j+1) U n B h
theorem v8.step{x:T2}{D rest:T'}{more:X'}(h:v8 D (x::rest) more):∃B,yl D more x=some ((more|| !B.isEmpty),B)/\((more|| !B.isEmpty)=true/\v8 B rest more\/(more|| !B.isEmpty)=false/\B=[]):=by rcases h with⟨rfl,rfl⟩|⟨rfl,u,r,a⟩;exact⟨rest,by simp[yl],.inl ⟨rfl,.inl ⟨rfl,rfl⟩⟩⟩;cases D with|nil=>exact absurd rfl u|cons w D=>simp only[cons_append,List.cons.injEq]at a;obtain⟨rfl,rfl⟩:=a;refine⟨D,by simp[yl],?_⟩;cases D with|nil=>exact .inr ⟨rfl,rfl⟩|cons z C=>exact .inl ⟨rfl,.inr ⟨rfl,Zab,r,rfl⟩⟩
theorem fT(es:Sl WF)(W:es.l.length<9223372036854775807)(G:∀e∈es.l,e.assign.l.length<9223372036854775807)(more:X'):∀(a:aZ WF)(j:Nat),es.l.drop j=a->∀s B,wK (j:Int) a s=some B->∀D,v8 D (B.map eI) more->
 ∃J:T',J=[]/\(bQ (λq:Zg×Int×Int×T'=>cE.bV es q.1 q.2.1 q.2.2.1 q.2.2.2 more) (s,len es,(j:Int),D)=some (.x J)\/bQ (λq:Zg×Int×Int×T'=>cE.bV es q.1 q.2.1 q.2.2.1 q.2.2.2 more) (s,len es,(j:Int),D)=some (.r J))
 |[],j,hd,s,B,h,D,U=>by cases h;have:D=[]:=(by rcases U with⟨_,rfl⟩|⟨_,L,r,d⟩;rfl;cases D with|nil=>rfl|cons=>simp at d);subst this;refine⟨[],rfl,.inl ?_⟩;rw[fq];simp only[cE.bV,J8 hd,bl,ζb,Bool.false_eq_true,if_false]
 |e::a,j,hd,s,B,h,D,U=>by have⟨f,I,O⟩:=uJ hd;have Z:j<es.l.length:=(by simpa[len]using I);have Q:e∈es.l:=List.mem_of_mem_drop (i:=j) (by rw[hd];exact List.mem_cons_self ..);simp only[wK,ζg,ζf]at h;obtain⟨n,L,c,b,r,d,rfl⟩:=h;have b:(fu n).bind Sl.whole=some c:=b;have⟨w,z,S⟩:=v8.step U;have C:=wrap_small j Zaa;have z:yl D more [.int .i64 ((j+1:Nat):Int),enc c]=some ((more|| !w.isEmpty),w):=z;rw[fq];have u:=set j es (len es) j e.assign (G e Q) D more e.assign.l 0 rfl s n L;rw[show((0:Nat):Int)=0 from rfl]at u;rcases S with⟨g1,g2⟩|⟨g1,rfl⟩;have⟨T,X,Y⟩:=fT es W G more a (j+1) O n r d w g2;refine⟨T,X,?_⟩;rw[g1]at z;simp only[cE.bV,cE.W3,f,I,u,b,z,bl,ζb,if_true,Fw.elim,C];exact Y;refine⟨[],rfl,.inr ?_⟩;rw[g1]at z;simp only[cE.bV,cE.W3,f,I,u,b,C,z,bl,ζb,if_true,if_false,Bool.false_eq_true,Fw.elim]
theorem all(p:bX)(B:aZ (Int×Zg))(h:j7 p=some B)(D:T')(more:X')(G:v8 D (B.map eI) more):cE D p more=some []:=by unfold j7 at h;split at h;rename_i b;simp only[ζh,List.all_eq_true]at b;have⟨k1,C,I⟩:=b;simp only[ζg,ζf]at h;obtain⟨s,J,c,a,r,f,rfl⟩:=h;have a:(fu s).bind Sl.whole=some c:=a;have⟨u,w,L⟩:=v8.step G;have d:=Zf p p.vars (DI k1) D more p.vars.l 0 rfl .nil s J;rw[show((0:Nat):Int)=0 from rfl]at d;have w:yl D more [.int .i64 0,enc c]=some ((more|| !u.isEmpty),u):=w;unfold cE cE.W1;simp only[d,ζb,Fw.elim,a,w];rcases L with⟨g1,g2⟩|⟨g1,rfl⟩;obtain⟨Q,rfl,z⟩:=fT p.events (DI C) (λe O=>DI (I e O)) more p.events.l 0 rfl s r f u g2;rw[show((0:Nat):Int)=0 from rfl]at z;rw[g1];simp only[bl,if_true,cE.W2];rcases z with q|q<;>(rw[q];rfl);rw[g1];rfl;cases h
theorem w_{α:Type}[bG α]{a b:Sl α}(h:cg a=cg b):rows a.l=rows b.l:=by cases a<;>cases b<;>first|rfl|(simp only[cg,Sl.k,pK,V.fsl.injEq,true_and,reduceCtorEq]at h;done)|(simp only[cg,Sl.k,pK,V.fsl.injEq,true_and,reduceCtorEq]at h;exact h)
theorem Jr:∀(a b:aZ Var),rows a=rows b->∀s,wX a s=wX b s
 |[],[],_,_=>rfl|[],_::_,h,_=>by simp[rows]at h|_::_,[],h,_=>by simp[rows]at h|x::a,y::b,h,s=>by simp only[rows,map_cons,List.cons.injEq]at h;have c:x.init_=y.init_:=(by have:=h.1;change[V.str x.name,V.int .i64 x.init_]=[V.str y.name,V.int .i64 y.init_]at this;simpa using(List.cons.inj (List.cons.inj this).2).1);simp only[wX,c,funext (Jr a b h.2)]
theorem Ks:∀(a b:aZ Assign),rows a=rows b->∀s,wP a s=wP b s
 |[],[],_,_=>rfl|[],_::_,h,_=>by simp[rows]at h|_::_,[],h,_=>by simp[rows]at h|x::a,y::b,h,s=>by simp only[rows,map_cons,List.cons.injEq]at h;have c:=h.1;change[V.int .i64 x.var,V.int .i64 x.value]=[V.int .i64 y.var,V.int .i64 y.value]at c;simp only[List.cons.injEq,V.int.injEq,true_and,and_true]at c;simp only[wP,c.1,c.2,funext (Ks a b h.2)]
theorem JO{x y:WF}(h:cells x=cells y):rows x.assign.l=rows y.assign.l:=by change[V.int .i64 x.kind,V.int .i64 x.peer,V.int .i64 x.message,V.int .i64 x.time,cg x.assign]=[V.int .i64 y.kind,V.int .i64 y.peer,V.int .i64 y.message,V.int .i64 y.time,cg y.assign]at h;simp only[List.cons.injEq]at h;exact w_ h.2.2.2.2.1
theorem xF:∀(a b:aZ WF),rows a=rows b->∀k s,wK k a s=wK k b s
 |[],[],_,_,_=>rfl|[],_::_,h,_,_=>by simp[rows]at h|_::_,[],h,_,_=>by simp[rows]at h|x::a,y::b,h,k,s=>by simp only[rows,map_cons,List.cons.injEq]at h;simp only[wK,Ks _ _ (JO h.1),xF a b h.2]
theorem C7{α:Type}[bG α]{a b:aZ α}(h:rows a=rows b):a.length=b.length:=by have:=congrArg List.length h;simpa[rows]using this
theorem JC:∀(a b:aZ WF),rows a=rows b->(a.all λe=>pY e.assign.l.length)=b.all λe=>pY e.assign.l.length
 |[],[],_=>rfl|[],_::_,h=>by simp[rows]at h|_::_,[],h=>by simp[rows]at h|x::a,y::b,h=>by simp only[rows,map_cons,List.cons.injEq]at h;simp only[all_cons,C7 (JO h.1),JC a b h.2]
def wH(f:Y')(g:Y')(a b:T2)(xs:T'):Prop:=∃(p:bX)(u:aZ (Int×Zg)),g=f/\a=[]/\b=[.fptr (cells p)]/\j7 p=some u/\xs=u.map eI
theorem wH.uniq{f g:Y'}{a b:T2}{xs ys:T'}(h:wH f g a b xs)(k:wH f g a b ys):xs=ys:=by obtain⟨p,C,rfl,rfl,rfl,c,rfl⟩:=h;obtain⟨w,z,_,_,u,B,rfl⟩:=k;simp only[List.cons.injEq,V.fptr.injEq,and_true]at u;change[V.str p.name,cg p.vars,cg p.events]=[V.str w.name,cg w.vars,cg w.events]at u;simp only[List.cons.injEq]at u;have r1:=w_ u.2.1;have r2:=w_ u.2.2.1;unfold j7 at c B;rw[C7 r1,C7 r2,JC _ _ r2,Jr _ _ r1,funext (λs=>xF _ _ r2 0 s)]at c;have e:=c.symm.trans B;cases e;rfl
end IST
end Go.VE
namespace Go.VE
open Go.Proofs.YtlmckmkfopljoaaGreatDoor
noncomputable section
def I8(f:Y')(a b:T2)(xs:T'):Prop:=trace_events_c1.wH 184 f a b xs\/IST.wH 179 f a b xs
noncomputable def Sy:Sys:=⟨E,λn=>n,zl I8,zd E,Ii⟩
abbrev cL:cm:=dh Sy Tx
theorem V7:Sy.prm 172=some (ua Sy.E):=by kernel_rfl
theorem Vu:Sy.prm 169=some (uu Sy.E):=by kernel_rfl
theorem XR:∃fi,E.ft 184=some fi/\yg E some fi trace_events_c1.text:=Xn Zae
theorem Ib:rS Sy Tx where
 fn f rf h:=let⟨u,a,w⟩:=De h;⟨u,some,a,xk,w⟩
 yB f z y h:=Gp h
 prm:=IJ
theorem Iq(p:bX)(B:aZ (Int×Zg))(a:j7 p=some B):eF Sy 179 [] [.fptr (cells p)] (B.map IST.eI):=by
 have w:Tx 179=some (r_ (Tx 179)):=BK Zae;have⟨G,z,C⟩:=De w;have e1:ble (([]:T2).length+1+[V.fptr (cells p)].length) (r_ (Tx 179)).na=true:=by kernel_rfl
 have e2:(r_ (Tx 179)).rs=[]:=by kernel_rfl
 have e3:Sy.E=Sb.E:=rfl;exact SR e3 IJ (vC WN PM) PM z xk C (Nat.le_of_ble_eq_true e1) e2 λu more D y=>IB.zx more y u p [] (by rw[IST.all p B a u more D];rfl)
theorem Ci:∀f a b xs,Sy.items f a b=some xs->eF Sy f a b xs:=by intro f a b xs h;have h:I8 f a b xs:=MP h;rcases h with h|h;obtain⟨t,u,rfl,rfl,rfl,c,rfl⟩:=h;have⟨D,w,z⟩:=XR;exact RY Sy w xk z (Nat.le_of_ble_eq_true rfl) rfl λB more C y=>trace_events_c1.all t u c B more C y;obtain⟨p,u,rfl,rfl,rfl,c,rfl⟩:=h;exact Iq p u c
theorem zT(t:Z4)(B:aZ (bf×WF))(h:kf t=some B):Sy.items 184 [] [.fptr (cells t)]=some (B.map λx:bf×WF=>[enc x.1,enc x.2]):=Ed (.inl ⟨t,B,rfl,rfl,rfl,h,rfl⟩) (λu a=>by rcases a with a|a<;>first|exact a.uniq ⟨t,B,rfl,rfl,rfl,h,rfl⟩|(have⟨_,_,a,_⟩:=a;exact absurd a (by decide)))
theorem GB(p:bX)(B:aZ (Int×Zg))(h:j7 p=some B):Sy.items 179 [] [.fptr (cells p)]=some (B.map λx:Int×Zg=>[enc x.1,enc x.2]):=Ed (.inr ⟨p,B,rfl,rfl,rfl,h,rfl⟩) (λu a=>by rcases a with a|a<;>first|exact a.uniq ⟨p,B,rfl,rfl,rfl,h,rfl⟩|(have⟨_,_,a,_⟩:=a;exact absurd a (by decide)))
theorem PI:Sy.yB 10 []=some (.bool true):=BH (K8 rfl ⟨1,[],by kernel_rfl⟩)
end
end Go.VE
namespace Go.VE
noncomputable section
def vM(D:Z4)(B:bf):a_ WF:=(idx D.procs B.proc).bind λu=>(idx u.events (wrap .i64 (B.index-1))).bind λw=>some w
instance Yb(B:Z4)(D:bf):Fc Sy cL (vM B D):=Fc.N 115 [enc B,enc D] (b9 2 2 B (bH 10 λw _=>bH 5 λu _=>oN 1 4 0 u bg))
namespace dV
def bV(B G p7:Int)(D:Z4)(J:bf)(a:Int):a_ (Fw Int Unit bf):=(idx D.procs p7).bind λw=>bl (decide (a<(len w.events))) ((idx D.procs p7).bind λz=>(idx z.events a).bind λu=>(bl (u.kind==B) (some (u.message==G)) (some false):a_ X').bind λC=>bl C (some (.r (⟨p7,wrap .i64 (a+1)⟩:bf))) (some (.n (wrap .i64 (a+1))))) (some (.x ()))
def W2(B J p7 a:Int)(D:Z4)(G:bf):a_ (Fw Int Unit bf):=(bQ (λq:Int=>bV B J p7 D G q) a).bind (Fw.elim (λe=>some (.n (wrap .i64 (p7+1)))) (λe=>some (.r e)))
def bn(B J:Int)(D:Z4)(G:bf)(p7:Int):a_ (Fw Int Unit bf):=bl (decide (p7<(len D.procs))) (W2 B J p7 0 D G) (some (.x ()))
def W1(B J p7:Int)(D:Z4)(G:bf):a_ bf:=(bQ (λq:Int=>bn B J D G q) p7).bind (Fw.elim (λe=>some ⟨0,0⟩) (λe=>some e))
end dV
def dV(D:Z4)(B G:Int):a_ bf:=dV.W1 B G 0 D (⟨0,0⟩:bf)
open dV in
instance WD(D:Z4)(B G:Int):Fc Sy cL (dV D B G):=Fc.M 54 [enc D,.int .i64 B,.int .i64 G] (b9 2 3 D (dH 11 (λu=>(bK [Iv 1 B,Iv 2 G,Pv 3,Pv 6,Iv 7 u] [Xb 3 D,Xb 6 (⟨0,0⟩:bf)])) (λw=>(0,(bK [Pv 6] [Xb 6 (⟨0,0⟩:bf)]))) (λw=>(bK [Pv 6] [Xb 6 w])) (λu=>bZ 7 D.procs (bt 3 14 (dH 12 (λC=>(bK [Iv 1 B,Iv 2 G,Pv 3,Pv 6,Iv 7 u,Iv 8 C] [Xb 3 D,Xb 6 (⟨0,0⟩:bf)])) (λz=>(2,(bK [Iv 1 B,Iv 2 G,Pv 3,Pv 6,Iv 7 u] [Xb 3 D,Xb 6 (⟨0,0⟩:bf)]))) (λz=>(bK [Pv 6] [Xb 6 z])) (λC=>bH 8 λI _=>bZ 2 I.events (bt 3 25 (bH 10 λL _=>bH 3 λJ _=>oN 2 9 0 J (bN 9 5 [9,41] 46 (bt 9 41 (bu 5) (bu 5)) λO=>bt 2 46 bg bg)) bg)) (λz=>bg) (λz=>bg)) bg)) (λw=>bg) (λw=>bg)))
namespace dY
def J1(B:Sl bf)(D:Z4)(G:bf):a_ (Sl bf):=(vM D G).bind λu=>bl (u.kind==3) ((dV D 2 u.message).bind λw=>(eU B (w:bf)).bind λz=>some z) (some B)
end dY
def dY(D:Z4)(B:bf):a_ (Sl bf):=bl (decide (B.index>1)) (dY.J1 (Sl.row [⟨B.proc,wrap .i64 (B.index-1)⟩]:Sl bf) D B) (dY.J1 (Sl.nil:Sl bf) D B)
open dY in
theorem AR(D:Z4)(B:bf):Le ((dY D B).bind λr=>some (cV r)) (cz Sy cL (AU (tr Tx 116)) (.rc (tb Tx 116),[],start ([enc D,enc B].map .v) [])):=b9 2 2 D (bt 17 9 (TQ 10 17 18 .bR (⟨B.proc,wrap .i64 (B.index-1)⟩:bf) (qA 5 (bB 4 λu _=>oN 1 6 0 u (bt 10 24 (bB 6 λw _=>nS 1 2005 30 31 λz _=>bg) bg)))) (qA 5 (bB 4 λu _=>oN 1 6 0 u (bt 10 24 (bB 6 λw _=>nS 1 2005 30 31 λz _=>bg) bg))))
def qa(a:bf->a_ (Sl bf)):aZ (aZ X')×aZ bf->a_ (Fw (aZ (aZ X')×aZ bf) (aZ (aZ X')) Empty)
 |(out,[])=>some (.x out)|(out,y::rest)=>if 0<=y.proc/\0<=y.index then(out[y.proc.toNat]?).bind λrow=>(row[y.index.toNat]?).bind λb=>bl b (some (.n (out,rest))) ((a y).bind λmore=>if rest.length+more.l.length<=2147483648 then some (.n (out.set y.proc.toNat (row.set y.index.toNat true),rest++more.l))else none)else none
def iD(t:Z4):aZ (aZ X'):=t.procs.l.map λP=>replicate (P.events.l.length+1) false
def A8(t:Z4):X':=decide (t.procs.l.length<=2147483648)&&t.procs.l.all λP=>decide (P.events.l.length+1<=2147483648)
def nested(out:aZ (aZ X')):Sl (Sl X'):=if out=[]then .nil else .row (out.map .row)
def oE(t:Z4)(x:bf):a_ (Sl (Sl X')):=if A8 t then(dY t x).bind λs=>(bQ (qa (dY t)) (iD t,s.l)).bind (Fw.elim (λout=>some (nested out)) (λe=>elim e))else none
end
namespace pastX
abbrev yu:Nat->FuncId:=λn=>n
def r1:ST:=[o2 2 (.a .box) [0] [],o2 3 (.a .box) [1] [],o1 4 (.k (.bR)) []]
def r2:ST:=[o1 5 (.k (.bR)) []]
def r3:ST:=[o1 6 (.k (.int .i64 0)) []]
def r4:ST:=[o1 11 6 [],o2 12 (fa 0) [2] [],o2 13 (ld 1) [12] [],o2 14 ln [13] [],o2 15 (bI .lss) [11,14] []]
def r5:ST:=[o1 18 5 [],o2 19 (fa 0) [2] [],o2 20 (ld 1) [19] [],o1 21 6 [],o2 22 (ix 3) [20,21] [],o2 23 (fa 2) [22] [],o2 24 (ld 1) [23] [],o2 25 ln [24] [],o2 26 (bI .add) [25,.k (.int .i64 1)] [],o2 27 (.a (.makeSl 1 [.bool false])) [26,26] [],o2 28 (.a (.buildSl 1 1 [.bR] [0])) [27] [],o2 29 (.l (.append 1)) [18,28] [],o1 5 29 []]
def r6:ST:=[o1 16 6 [],o2 17 (bI .add) [16,.k (.int .i64 1)] [],o1 6 17 []]
def L1:RC:=.seq (.seq (.ops r4) (.cond (.s 15) (.skip) (.exit 0))) (.seq (.block 1 (.ops r5)) (.ops r6))
def r7:ST:=[o2 30 (lD 1) [2] [],o2 31 (lD 2) [3] [],o2 32 .c [.f 116,30,31] [],o1 7 32 []]
def r8:ST:=[o1 33 7 [],o2 34 ln [33] [],o2 35 (bI .gtr) [34,.k (.int .i64 0)] []]
def r9:ST:=[o1 36 7 [],o2 37 (ix 2) [36,.k (.int .i64 0)] [],o2 38 (lD 2) [37] [],o2 8 (.a (.alloc 2 [.int .i64 0,.int .i64 0])) [] [],oz (su 2) [8,38] []]
def D5:ST:=[o1 39 7 [],o2 40 (.p (.slice 2 true false)) [39,.k (.int .i64 1)] [],o1 7 40 []]
def HI:ST:=[o1 41 5 [],o2 42 (fa 0) [8] [],o2 43 (ld 1) [42] [],o2 44 (ix 1) [41,43] [],o2 45 (ld 1) [44] [],o2 46 (fa 1) [8] [],o2 47 (ld 1) [46] [],on 48 (ix 1) [45,47] [],on 49 (ld 1) [48] []]
def GV:ST:=[o1 50 5 [],o2 51 (fa 0) [8] [],o2 52 (ld 1) [51] [],o2 53 (ix 1) [50,52] [],o2 54 (ld 1) [53] [],o2 55 (fa 1) [8] [],o2 56 (ld 1) [55] [],on 57 (ix 1) [54,56] [],oy (su 1) [57,.k (.bool true)] []]
def HM:ST:=[o2 58 (lD 1) [2] [],o2 59 (lD 2) [8] [],o2 60 .c [.f 116,58,59] [],o1 9 60 []]
def EF:ST:=[o1 10 (.k (.int .i64 0)) []]
def Gw:ST:=[o1 61 10 [],o1 62 9 [],o2 63 ln [62] [],o2 64 (bI .lss) [61,63] []]
def r16:ST:=[o1 67 7 [],o1 68 9 [],o1 69 10 [],o2 70 (ix 2) [68,69] [],o2 71 (lD 2) [70] [],o2 72 (.a (.buildSl 2 1 [.int .i64 0,.int .i64 0] [0])) [71] [],o2 73 (.l (.append 2)) [67,72] [],o1 7 73 []]
def OF:ST:=[o1 65 10 [],o2 66 (bI .add) [65,.k (.int .i64 1)] [],o1 10 66 []]
def L3:RC:=.seq (.seq (.ops Gw) (.cond (.s 64) (.skip) (.exit 4))) (.seq (.block 5 (.ops r16)) (.ops OF))
def L2:RC:=.seq (.seq (.ops r8) (.cond (.s 35) (.skip) (.exit 2))) (.block 3 (.seq (.ops r9) (.seq (.ops D5) (.seq (.seq (.qB HI) (.cond (.s 49) (.exit 3) (.skip))) (.seq (.qB GV) (.seq (.ops HM) (.seq (.ops EF) (.block 4 (.loop L3)))))))))
def Zx:ST:=[o1 74 5 [],o1 4 74 []]
def code:RC:=.seq (.ops r1) (.seq (.ops r2) (.seq (.seq (.ops r3) (.block 0 (.loop L1))) (.seq (.ops r7) (.seq (.block 2 (.loop L2)) (.seq (.ops Zx) (.ret))))))
noncomputable abbrev xO:=Go.Proofs.YtlmckmkfopljoaaGreatDoor.E
def kN(out:aZ (aZ X')):T':=out.map λr=>r.map V.bool
theorem shape:∃fi,xO.ft (yu 81)=some fi/\bU ⟨xO,some,fi.ntmps⟩ false fi.body=some code/\2<=fi.ntmps/\fi.results=[.tmp 4]:=by
 have h:((xO.ft (yu 81)).map λfi=>(bU ⟨xO,some,fi.ntmps⟩ false fi.body,ble 2 fi.ntmps,fi.results))=some (some code,true,[.tmp 4]):=by kernel_rfl
 have⟨fi,a,u⟩:=ζf.1 h;simp only[ζc]at u;exact⟨fi,a,u.1,Nat.le_of_ble_eq_true u.2.1,u.2.2⟩
section
variable{E:Env}{N:Nat->Y'}{t:Z4}{x:bf}{k:Nat}{F:WP}{H H1:bq}{call:dL}{b:a_ Nat}
theorem kI{o:RO}{l:ST}{v:V}{r:WP×bq}(a:o.gd=none)(c:bL E N call b o.now o.k (o.az.map (bC N F)) H=some (v,H1))(h:cN E N call b l (bA F o.dst v) H1=some r):cN E N call b (o::l) F H=some r:=by simp[cN,a,c];omega
theorem vp{o:RO}{l:ST}{v:V}{r:WP×bq}(a:o.gd=none)(c:bL E N call b o.now o.k (o.az.map (bC N F)) H=some (v,H))(h:cN E N call b l (bA F o.dst v) H=some r):cN E N call b (o::l) F H=some r:=kI a c h
theorem eo:cN E N call b [] F H=some (F,H):=rfl
theorem ld1(h:H[0]?=some (.row 1 [cells t])):fH H (.load 1 false) [.hptr 0 0 0]=some (cg t.procs):=by simp[fH,ez,h];rfl
theorem ZF{s:Sl bX}{p:bX}{i:Nat}(h:s.l[i]?=some p):m_ 3 (cg s) (i:Int)=some (.fptr (cells p)):=by have:=Fq (N:=λn=>n) s .i64 i 3 rfl;simp[br]at this;rw[this,show idx s i=some p from by unfold idx;grind];rfl
theorem x4(a:get F 2=.hptr 0 0 0)(f6:get F 6=.int .i64 k)(b:H[0]?=some (.row 1 [cells t])):
 ∃F',cN E N call none r4 F H=some (F',H)/\get F' 15=.bool (decide (k<t.procs.l.length))/\(∀s,s<11->get F' s=get F s):=by
 refine⟨_,vp (v:=.int .i64 k) rfl ?_<|vp (v:=.hptr 0 0 0) rfl ?_<|vp (v:=cg t.procs) rfl ?_<|vp (v:=.int .i64 t.procs.l.length) rfl ?_<|vp (v:=.bool (decide (k<t.procs.l.length))) rfl ?_ eo,?_,?_⟩
 .simp[bL,bC,br,f6]
 .simp[bL,bC,br,bA,a,iX]
 .simp only[bL,map_cons,map_nil,bC,bA,bD,if_true];rw[ld1 b];rfl
 .simp only[bL,map_cons,map_nil,bC,bA,bD,if_true];rw[Au];rfl
 .simp[bL,bC,br,bA,iH,pJ]
 .simp[bA]
 simp[bA,bD]
 grind
theorem zw{n:Nat}(h:n<=2147483648):wrap .i64 ((n:Int)+1)=((n+1:Nat):Int):=by simp[wrap,IntKind.bits];omega
theorem x5{P:bX}{o:Nat}{ids:S'}{rows:T'}(a:get F 2=.hptr 0 0 0)(f6:get F 6=.int .i64 k)(b:H[0]?=some (.row 1 [cells t]))(B:t.procs.l[k]?=some P)(G:P.events.l.length+1<=2147483648)
 (D:nM H (get F 5) o ids rows)(c:rows.length+1<=2147483648):
 ∃F' H',cN E N call none r5 F H=some (F',H')/\nM H' (get F' 5) (H.length+2) (ids++[H.length]) (rows++[replicate (P.events.l.length+1) (.bool false)])/\H.length<=H'.length/\(∀id,id<H.length->id≠o\/rows=[]->H'[id]?=H[id]?)/\(∀s,s<11->s≠5->get F' s=get F s):=by
 have⟨H',p1,p2,p3,p4⟩:=D.push (replicate (P.events.l.length+1) (.bool false)) c;have u:j_ (replicate (P.events.l.length+1) (V.bool false))=replicate (P.events.l.length+1) [.bool false]:=by simp[j_]
 rw[u,List.length_replicate]at p1;have w:=zw (n:=P.events.l.length) Zaa
 refine⟨_,H',vp (v:=get F 5) rfl ?_<|vp (v:=.hptr 0 0 0) rfl ?_<|vp (v:=cg t.procs) rfl ?_<|vp (v:=.int .i64 k) rfl ?_<|vp (v:=.fptr (cells P)) rfl ?_<|vp (v:=.fptr [cg P.events]) rfl ?_<|vp (v:=cg P.events) rfl ?_<|
  vp (v:=.int .i64 P.events.l.length) rfl ?_<|vp (v:=.int .i64 (P.events.l.length+1:Nat)) rfl ?_<|kI (v:=.hsl H.length 1 0 (P.events.l.length+1)) (H1:=H++[.row 1 (replicate (P.events.l.length+1) [.bool false])]) rfl ?_<|
  kI (v:=.hsl (H.length+1) 1 0 1) (H1:=H++[.row 1 (replicate (P.events.l.length+1) [.bool false])]++[.row 1 [[.hsl H.length 1 0 (P.events.l.length+1)]]]) rfl ?_<|
  kI (v:=.hsl (H.length+2) 1 0 (rows.length+1)) rfl ?_<|vp (v:=.hsl (H.length+2) 1 0 (rows.length+1)) rfl ?_ eo,?_,p3,p4,?_⟩
 .simp[bL,bC,br]
 .simp[bL,bC,br,bA,a,iX]
 .simp only[bL,map_cons,map_nil,bC,bA,bD,if_true];rw[ld1 b];rfl
 .simp[bL,bC,br,bA,f6]
 .simp only[bL,map_cons,map_nil,bC,bA,bD,reduceEqDiff,if_true,if_false,br];rw[ZF B];rfl
 .simp[bL,bC,bA,bD,br];rfl
 .simp[bL,bC,bA,bD];rfl
 .simp only[bL,map_cons,map_nil,bC,bA,bD,if_true];rw[Au];rfl
 .simp[bL,bC,bA,bD,br,iH];grind
 .simp only[bL,map_cons,map_nil,bC,bA,bD,if_true,jg];rw[if_pos ⟨trivial,trivial,Zaa,Zaa,Zaa⟩]
  simp[Mk.val]
 .simp[bL,bC,bA,bD,jg];simp[fU,V.cells,V.one,Mk.val]
 .simp only[bL,map_cons,map_nil,bC,bA,bD,reduceEqDiff,if_true,if_false];omega
 .simp[bL,bC,br,bA]
 .simp[bA,bD];omega
 intro s z C;simp[bA,bD]
 repeat (rw[if_neg Zaa])
theorem x6(f6:get F 6=.int .i64 k)(a:k<=2147483648):∃F',cN E N call none r6 F H=some (F',H)/\get F' 6=.int .i64 ((k+1:Nat):Int)/\(∀s,s<11->s≠6->get F' s=get F s):=by have u:=zw a;refine⟨_,vp (v:=.int .i64 k) rfl ?_<|vp (v:=.int .i64 (k+1:Nat)) rfl ?_<|vp (v:=.int .i64 (k+1:Nat)) rfl ?_ eo,?_,?_⟩;simp[bL,bC,br,f6];simp[bL,bC,bA,bD,br,iH];grind;simp[bL,bC,br,bA];simp[bA];simp[bA,bD];grind
end
structure P1(t:Trace)(x:bf)(k:Nat)(F:Frame)(H:bq):Prop where
 f2:get F 2=.hptr 0 0 0
 f3:get F 3=.hptr 1 0 0
 f6:get F 6=.int .i64 k
 h0:H[0]?=some (.row 1 [cells t])
 h1:H[1]?=some (.row 2 [cells x])
 ns:∃o ids,nM H (get F 5) o ids (kN ((iD t).take k))/\(k≠0->2<=o)/\∀id∈ids,2<=id
theorem xD(out:aZ (aZ X')):(kN out).length=out.length:=by simp[kN]
theorem N7 {E:Env} {N:Nat->FuncId} {t:Trace} {x:bf} (J:A8 t=true):∀(m k:Nat) (F:Frame) (H:bq),k+m=t.procs.l.length->P1 t x k F H->∃F' H',ng E N L1 F H (.exit 0) F' H'/\P1 t x t.procs.l.length F' H':=by
 have B:t.procs.l.length<=2147483648/\∀P∈t.procs.l,P.events.l.length+1<=2147483648:=by
  simpa [A8]using J
 intro m
 induction m with
 | zero=>
  intro k F H hk p;have C:k=t.procs.l.length:=by omega
  obtain⟨F1,e1,e2,e3⟩:=x4 (E:=E)  (call:=⟨0,λ_ _ _=>none⟩) p.f2 p.f6 p.h0
  refine⟨F1,H,ng.stop (Ex.ve (Ex.seq (Ex.dm λc=>?_) (Ex.qP ?_ Ex.exit)) Zab) Zab,?_⟩
  .have:cN E N c none r4 F H=cN E N ⟨0,λ_ _ _=>none⟩ none r4 F H:=rfl
   exact e1
  .show get F1 15=_;rw[e2];simp[C]
  subst C;exact⟨by rw[e3 2 Zaa];exact p.f2,by rw[e3 3 Zaa];exact p.f3,by rw[e3 6 Zaa];exact p.f6,p.h0,p.h1,by rw[e3 5 Zaa];exact p.ns⟩
 | succ m Z=>
  intro k F H hk p;have w:k<t.procs.l.length:=by omega
  obtain⟨o,ids,U,n2,n3⟩:=p.ns;obtain⟨F1,e1,e2,e3⟩:=x4 (E:=E) (N:=N) (call:=⟨0,λ_ _ _=>none⟩) p.f2 p.f6 p.h0
  have W:=ζd w;have D:((iD t).take k).length=k:=by simp[iD];omega
  have I:nM H (get F1 5) o ids (kN ((iD t).take k)):=by rw[e3 5 Zaa];exact U
  obtain⟨F2,H2,g1,g2,g3,g4,g5⟩:=x5 (E:=E) (N:=N) (call:=⟨0,λ_ _ _=>none⟩) (by rw[e3 2 Zaa];exact p.f2) (by rw[e3 6 Zaa];exact p.f6) p.h0 W (B.2 _ (List.getElem_mem w)) I (by rw[xD,D];omega)
  obtain⟨X,q1,q2,L⟩:=x6 (E:=E) (N:=N) (call:=⟨0,λ_ _ _=>none⟩) (H:=H2)   (by rw[g5 6 Zaa Zaa,e3 6 Zaa];exact p.f6) Zaa
  have Y:=U.lt;have O:=(ζe.1 p.h0).1;have Q:=(ζe.1 p.h1).1;have u:∀i,i<2->i<H.length->H2[i]? = H[i]? := λi hi Y=>g4 i Y (by
   by_cases G:k=0
   .subst G;right;simp[kN]
   left;have:=n2 G;omega)
  have S:P1 t x (k+1) X H2:=by
   refine⟨by rw[L 2 Zaa Zaa,g5 2 Zaa Zaa,e3 2 Zaa];exact p.f2,by rw[L 3 Zaa Zaa,g5 3 Zaa Zaa,e3 3 Zaa];exact p.f3,q2,
    by rw[u 0 Zaa O];exact p.h0,by rw[u 1 Zaa Q];exact p.h1,H.length+2,ids++[H.length],?_,λ_=>by omega,λid T=>?_⟩
   .rw[L 5 Zaa Zaa]
    have z:kN ((iD t).take (k+1))=kN ((iD t).take k)++[List.replicate (t.procs.l[k].events.l.length+1) (.bool false)]:=by
     rw[List.take_add_one];have:(iD t)[k]? = some (List.replicate (t.procs.l[k].events.l.length+1) false):=by simp[iD,W]
     rw[this];simp[kN]
    rw[z];exact g2
   rcases List.mem_append.1 T with h|h
   .exact n3 id h
   simp at h;omega
  obtain⟨F',H',r1,r2⟩:=Z (k+1) X H2 Zaa S
  refine⟨F',H',ng.step (Ex.seq (Ex.seq (Ex.dm λc=>e1) (Ex.n9 ?_ Ex.skip)) (Ex.seq (Ex.block (Ex.dm λc=>g1)) (Ex.dm λc=>q1))) r1,r2⟩
  show get F1 15=_;rw[e2];simp[w]
section
variable{E:Env}{N:Nat->Y'}{t:Z4}{x y:bf}{F:WP}{H:bq}{call:dL}
theorem x8{l:T'}{id:Nat}(h:lF H (get F 7) l id):∃F',cN E N call none r8 F H=some (F',H)/\get F' 35=.bool (decide (0<l.length))/\(∀s,s<11->get F' s=get F s):=by refine⟨_,vp (v:=get F 7) rfl ?_<|vp (v:=.int .i64 l.length) rfl ?_<|vp (v:=.bool (decide (0<l.length))) rfl ?_ eo,?_,?_⟩;simp[bL,bC,br];simp[bL,bC,bA,bD,br,h.len];simp[bL,bC,br,bA,iH,pJ];simp[bA];simp[bA,bD];grind
theorem x9{l:T'}{id:Nat}(h:lF H (get F 7) (cells y::l) id):∃F',cN E N call none r9 F H=some (F',H++[.row 2 [cells y]])/\get F' 8=.hptr H.length 0 0/\(∀s,s<11->s≠8->get F' s=get F s):=by have⟨p,p1,p2⟩:=h.get (i:=0) rfl;refine⟨_,vp (v:=get F 7) rfl ?_<|vp (v:=p) rfl ?_<|vp (v:=.agg (cells y)) rfl ?_<|kI (v:=.hptr H.length 0 0) (H1:=H++[.row 2 [[.int .i64 0,.int .i64 0]]]) rfl ?_<|kI (v:=.undef) rfl ?_ eo,?_,?_⟩;simp[bL,bC,br];simp[bL,bC,bA,bD,br];grind;simp only[bL,map_cons,bC,bA,bD,if_false];grind;simp[bL,bC,bA,bD,jg,Mk.val];simp[bL,bC,bA,bD];simp[fP,V.cells,V.one];simp[bA];simp[bA,bD];grind
theorem Z_{c:T2}{l:T'}{id:Nat}(h:lF H (get F 7) (c::l) id):∃F',cN E N call none D5 F H=some (F',H)/\lF H (get F' 7) l id/\(∃off m B,get F 7=.hsl id 2 off m/\get F' 7=.hsl id 2 B l.length)/\(∀s,s<11->s≠7->get F' s=get F s):=by have⟨w',p1,p2,off,m,B,p3,p4⟩:=h.tail;refine⟨_,vp (v:=get F 7) rfl ?_<|vp (v:=w') rfl ?_<|vp (v:=w') rfl ?_ eo,?_,⟨off,m,B,p3,?_⟩,?_⟩;simp[bL,bC,br];simp[bL,bC,bA,bD,br,mU,p1];simp[bL,bC,br,bA];simp[bA,bD];omega;simp[bA,bD];omega;simp[bA,bD];grind
theorem kW(H:bq):H.take H.length=H:=List.take_length ..
theorem XA{c:Nat}(a:H[c]?=some (.row 2 [cells y])):fH H (.load 1 false) [.hptr c 0 0]=some (.int .i64 y.proc)/\fH H (.load 1 false) [.hptr c 0 1]=some (.int .i64 y.index)/\fH H (.load 2 true) [.hptr c 0 0]=some (enc y):=by refine⟨?_,?_,?_⟩<;>simp[fH,ez,a,cut]<;>rfl
theorem WR{c o:Nat}{ids:S'}{rows:T'}{p j:Nat}{r:T2}{u:V}(B:get F 8=.hptr c 0 0)(a:H[c]?=some (.row 2 [cells y]))(D:nM H (get F 5) o ids rows)(hp:y.proc=p)(G:y.index=j)(b:rows[p]?=some r)(d:r[j]?=some u):
 ∃F',cN E N call (some H.length) HI F H=some (F',H)/\get F' 49=u/\(∀s,s<11->get F' s=get F s):=by
 have⟨id,w,z,C,I,J⟩:=D.cell b d;have⟨L,O,_⟩:=XA a;refine⟨_,vp (v:=get F 5) rfl ?_<|vp (v:=.hptr c 0 0) rfl ?_<|vp (v:=.int .i64 p) rfl ?_<|vp (v:=.hptr o p 0) rfl ?_<|vp (v:=.hsl id 1 0 r.length) rfl ?_<|vp (v:=.hptr c 0 1) rfl ?_<|vp (v:=.int .i64 j) rfl ?_<|vp (v:=.hptr id j 0) rfl ?_<|vp (v:=u) rfl ?_ eo,?_,?_⟩
 .simp[bL,bC,br]
 .simp[bL,bC,br,bA,B,iX]
 .simp[bL,bC,bA,bD,kW];grind
 .simp[bL,bC,bA,bD,br];grind
 .simp[bL,bC,bA,bD,kW];grind
 .simp[bL,bC,br,bA,B,iX]
 .simp[bL,bC,bA,bD,kW];grind
 .simp[bL,bC,bA,bD,br];grind
 .simp[bL,bC,bA,bD,kW];simp_all
 .simp[bA]
 simp[bA,bD]
 grind
theorem x12{c o:Nat}{ids:S'}{rows:T'}{p j:Nat}{r:T2}{u:V}(B:get F 8=.hptr c 0 0)(d:H[c]?=some (.row 2 [cells y]))(D:nM H (get F 5) o ids rows)(hp:y.proc=p)(J:y.index=j)(a:rows[p]?=some r)(b:r[j]?=some u):
 ∃F' H',cN E N call (some H.length) GV F H=some (F',H')/\nM H' (get F' 5) o ids (rows.set p (r.set j (.bool true)))/\H'.length=H.length/\(∀i,i∉ids->H'[i]?=H[i]?)/\(∀s,s<11->get F' s=get F s):=by
 have⟨id,w,L,O,z,Q⟩:=D.cell a b;have⟨S,T,_⟩:=XA d;have⟨H',C,U,G,I⟩:=D.set a (ζe.1 b).1 w (u:=.bool true) rfl rfl;refine⟨_,H',vp (v:=get F 5) rfl ?_<|vp (v:=.hptr c 0 0) rfl ?_<|vp (v:=.int .i64 p) rfl ?_<|vp (v:=.hptr o p 0) rfl ?_<|vp (v:=.hsl id 1 0 r.length) rfl ?_<|vp (v:=.hptr c 0 1) rfl ?_<|vp (v:=.int .i64 j) rfl ?_<|vp (v:=.hptr id j 0) rfl ?_<|kI (v:=.undef) rfl ?_ eo,?_,G,λi f=>I i λe=>f (e▸mem_of_getElem? w),?_⟩
 .simp[bL,bC,br]
 .simp[bL,bC,br,bA,B,iX]
 .simp[bL,bC,bA,bD,kW];grind
 .simp[bL,bC,bA,bD,br];grind
 .simp[bL,bC,bA,bD,kW];grind
 .simp[bL,bC,br,bA,B,iX]
 .simp[bL,bC,bA,bD,kW];grind
 .simp only[bL,map_cons,map_nil,bC,bA,bD,reduceEqDiff,if_true,if_false,br];rw[z];rfl
 .simp[bL,bC,bA,bD,C]
 .simp[bA,bD];omega
 simp[bA,bD]
 grind
def HY(E:Env)(N:Nat->Y')(t:Z4)(a:bf->a_ (Sl bf)):Prop:=∀(y:bf)(s:Sl bf)(H:bq),a y=some s->∃w X id,(∃n,∀k,n<=k->fF E (run E k) (N 116) [enc t,enc y] H=some (w,H++X))/\lF (H++X) w (s.l.map cells) id/\(∀off m,w=.hsl id 2 off m->id=H.length)
theorem Zc{a d:Nat}(hd:E.keep (N 116)=true){b:bf->a_ (Sl bf)}(D:HY E N t b){s:Sl bf}(B:b y=some s)(f:get F 2=.hptr 0 0 0)(g:H[0]?=some (.row 1 [cells t])){c:Nat}(h:H[c]?=some (.row 2 [cells y])):
 ∃w X id,lF (H++X) w (s.l.map cells) id/\(∀off m,w=.hsl id 2 off m->id=H.length)/\
  (get F 8=.hptr c 0 0->∃F',(∃n,∀k,n<=k->cN E N (run E k) none HM F H=some (F',H++X))/\get F' 9=w/\(∀s,s<11->s≠9->get F' s=get F s))/\
  (get F 3=.hptr c 0 0->∃F',(∃n,∀k,n<=k->cN E N (run E k) none r7 F H=some (F',H++X))/\get F' 7=w/\(∀s,s<11->s≠7->get F' s=get F s)):=by
 have⟨w,X,id,⟨n,e1⟩,e2,e3⟩:=D y s H B;have z:fH H (.load 1 true) [.hptr 0 0 0]=some (enc t):=by simp[fH,ez,g,Ob.rows,cut];rfl
 have⟨_,_,C⟩:=XA h;refine⟨w,X,id,e2,e3,λG=>⟨_,⟨n,λk e=>vp (v:=enc t) rfl ?_<|vp (v:=enc y) rfl ?_<|kI (v:=w) (H1:=H++X) rfl ?_<|vp (v:=w) rfl ?_ eo⟩,?_,?_⟩,λi=>⟨_,⟨n,λk e=>vp (v:=enc t) rfl ?_<|vp (v:=enc y) rfl ?_<|kI (v:=w) (H1:=H++X) rfl ?_<|vp (v:=w) rfl ?_ eo⟩,?_,?_⟩⟩
 .simp only[bL,map_cons,map_nil,bC,f];rw[z];rfl
 .simp only[bL,map_cons,map_nil,bC,bA,bD,reduceEqDiff,if_true,if_false,G];rw[C];rfl
 .simp only[bL,map_cons,map_nil,bC,bA,bD,reduceEqDiff,if_true,if_false,hd,List.nil_append,List.append_nil];exact e1 k e
 .simp[bL,bC,br,bA]
 .simp[bA]
 .intro s B u;simp only[bA,bD];rw[if_neg (Ne.symm u)]
  repeat (rw[if_neg Zaa])
 .simp only[bL,map_cons,map_nil,bC,f];rw[z];rfl
 .simp only[bL,map_cons,map_nil,bC,bA,bD,reduceEqDiff,if_true,if_false,i];rw[C];rfl
 .simp only[bL,map_cons,map_nil,bC,bA,bD,reduceEqDiff,if_true,if_false,hd,List.nil_append,List.append_nil];exact e1 k e
 .simp[bL,bC,br,bA]
 .simp[bA]
 intro s B u;simp only[bA,bD];rw[if_neg (Ne.symm u)]
 repeat (rw[if_neg Zaa])
end
section
variable{E:Env}{N:Nat->Y'}{F:WP}{H:bq}{call:dL}{i:Nat}
theorem Ts{l:T'}{id:Nat}(a:get F 10=.int .i64 i)(h:lF H (get F 9) l id):∃F',cN E N call none Gw F H=some (F',H)/\get F' 64=.bool (decide (i<l.length))/\(∀s,s<11->get F' s=get F s):=by refine⟨_,vp (v:=.int .i64 i) rfl ?_<|vp (v:=get F 9) rfl ?_<|vp (v:=.int .i64 l.length) rfl ?_<|vp (v:=.bool (decide (i<l.length))) rfl ?_ eo,?_,?_⟩;simp[bL,bC,br,a];simp[bL,bC,br,bA];simp[bL,bC,bA,bD,br,h.len];simp[bL,bC,br,bA,iH,pJ];simp[bA];simp[bA,bD];grind
theorem x16{l D:T'}{id B:Nat}{c:T2}(a:get F 10=.int .i64 i)(h:lF H (get F 7) l id)(G:lF H (get F 9) D B)(b:D[i]?=some c)(J:l.length+1<=2147483648):
 ∃F' H',cN E N call none r16 F H=some (F',H')/\lF H' (get F' 7) (l++[c]) (H.length+1)/\H'.length=H.length+2/\(∀i,i<H.length->(∀off m,get F 7=.hsl id 2 off m->i≠id)->H'[i]?=H[i]?)/\(∀s,s<11->s≠7->get F' s=get F s):=by
 have u:=G.c c (mem_of_getElem? b);have⟨p,p1,p2⟩:=G.get b;have⟨H',C,I,w,z⟩:=h.push u J;refine⟨_,H',vp (v:=get F 7) rfl ?_<|vp (v:=get F 9) rfl ?_<|vp (v:=.int .i64 i) rfl ?_<|vp (v:=p) rfl ?_<|vp (v:=.agg c) rfl ?_<|kI (v:=.hsl H.length 2 0 1) (H1:=H++[.row 2 [c]]) rfl ?_<|kI (v:=.hsl (H.length+1) 2 0 (l.length+1)) rfl ?_<|vp (v:=.hsl (H.length+1) 2 0 (l.length+1)) rfl ?_ eo,?_,w,z,?_⟩
 .simp[bL,bC,br]
 .simp[bL,bC,br,bA]
 .simp[bL,bC,br,bA,a]
 .simp[bL,bC,bA,bD,br];grind
 .simp[bL,bC,bA,bD];grind
 .simp[bL,bC,bA,bD,jg];simp[fU,V.cells,Mk.val]
  grind
 .simp[bL,bC,bA,bD];omega
 .simp[bL,bC,br,bA]
 .simp[bA,bD];omega
 simp[bA,bD]
 grind
theorem x17(a:get F 10=.int .i64 i)(b:i<=2147483648):∃F',cN E N call none OF F H=some (F',H)/\get F' 10=.int .i64 ((i+1:Nat):Int)/\(∀s,s<11->s≠10->get F' s=get F s):=by have u:=zw b;refine⟨_,vp (v:=.int .i64 i) rfl ?_<|vp (v:=.int .i64 (i+1:Nat)) rfl ?_<|vp (v:=.int .i64 (i+1:Nat)) rfl ?_ eo,?_,?_⟩;simp[bL,bC,br,a];simp[bL,bC,bA,bD,br,iH];grind;simp[bL,bC,br,bA];simp[bA];simp[bA,bD];grind
structure P3(l l9:List (List V))(B i:Nat)(F:Frame)(H:bq):Prop where
 f10:get F 10=.int .i64 i
 t9:∃id9,lF H (get F 9) l9 id9/\∃id,lF H (get F 7) l id/\(∀off m,get F 7=.hsl id 2 off m->B<=id/\∀off' m',get F 9=.hsl id9 2 off' m'->id≠id9)
 len:B<=H.length
theorem YK (D:aZ (aZ V)) (B:Nat) (Y:D.length<=2147483648):∀(m i:Nat) (l:aZ (aZ V)) (F:Frame) (H:bq),i+m=D.length->l.length+m<=2147483648->P3 l D B i F H ->
 ∃F' H',ng E N L3 F H (.exit 4) F' H'/\(∃id,lF H' (get F' 7) (l++D.drop i) id/\∀off m,get F' 7=.hsl id 2 off m->B<=id)/\(∀s,s<7->get F' s=get F s)/\(∀j,j<B->H'[j]? = H[j]?)/\H.length<=H'.length:=by
 intro m
 induction m with
 | zero=>
  intro i l F H hi Z p;obtain⟨u,t9,id,t7,C⟩:=p.t9;obtain⟨F1,e1,e2,e3⟩:=Ts (E:=E)  (call:=⟨0,λ_ _ _=>none⟩) p.f10 t9
  refine⟨F1,H,ng.stop (Ex.ve (Ex.seq (Ex.dm λc=>e1) (Ex.qP ?_ Ex.exit)) Zab) Zab,⟨id,?_,λoff m h=>?_⟩,λs T=>e3 s Zaa,λ_ _=>rfl,Nat.le_refl _⟩
  .show get F1 64=_
   grind
  .grind
  grind
 | succ m ih=>
  intro i l F H hi Z p;have z:i<D.length:=by omega
  obtain⟨u,t9,id,t7,C⟩:=p.t9;obtain⟨F1,e1,e2,e3⟩:=Ts (E:=E)  (call:=⟨0,λ_ _ _=>none⟩) p.f10 t9
  have hc:=ζd z;have G:lF H (get F1 7) l id:=by grind
  have I:lF H (get F1 9) D u:=by grind
  obtain⟨F2,H2,g1,g2,g3,g4,g5⟩:=x16 (E:=E)  (call:=⟨0,λ_ _ _=>none⟩) (by rw[e3 10 Zaa];exact p.f10) G I hc Zaa
  obtain⟨U,q1,q2,J⟩:=x17 (E:=E)  (call:=⟨0,λ_ _ _=>none⟩)    (by rw[g5 10 Zaa Zaa,e3 10 Zaa];exact p.f10) Zaa
  have keep:∀j,j<H.length->(∀off m,get F 7=.hsl id 2 off m->j≠id)->H2[j]? = H[j]? := λj L h=>g4 j L Zac
  have O:P3 (l++[D[i]]) D B (i+1) U H2:=by
   refine⟨q2,⟨u,?_,H.length+1,by grind,λoff m h=>⟨by have:=p.len;omega,λw m' W=>?_⟩⟩,by have:=p.len;omega⟩
   .rw[J 9 Zaa Zaa,g5 9 Zaa Zaa,e3 9 Zaa]
    exact t9.heap λoff n X=>keep u (t9.lt X) λw m' Q=>Ne.symm ((C w m' Q).2 off n X)
   rw[J 9 Zaa Zaa,g5 9 Zaa Zaa,e3 9 Zaa]at W
   have:=t9.lt W;omega
  obtain⟨F',H',r1,⟨S,r2,r3⟩,r4,r5,r6⟩:=ih (i+1) (l++[D[i]]) U H2 Zaa (by simp;omega) O
  refine⟨F',H',ng.step (Ex.seq (Ex.seq (Ex.dm λc=>e1) (Ex.n9 ?_ Ex.skip)) (Ex.seq (Ex.block (Ex.dm λc=>g1)) (Ex.dm λc=>q1))) r1,⟨S,?_,r3⟩,λs T=>?_,λj L=>?_,by omega⟩
  .show get F1 64=_
   grind
  .rw[List.append_assoc]at r2;rw[List.drop_eq_getElem_cons z];exact r2
  .rw[r4 s T,J s Zaa Zaa,g5 s Zaa Zaa,e3 s Zaa]
  have:=p.len;rw[r5 j L,keep j Zaa λoff m h=>by have:=(C off m h).1;omega]
end
structure P2(t:Trace)(out:List (List Bool))(l:List bf)(F:Frame)(H:bq):Prop where
 f2:get F 2=.hptr 0 0 0
 h0:H[0]?=some (.row 1 [cells t])
 ns:∃B o ids id,nM H (get F 5) o ids (kN out)/\(out≠[]->1<=o/\o<B)/\(∀id∈ids,1<=id/\id<B)/\1<=B/\B<=H.length/\lF H (get F 7) (l.map cells) id/\∀off m,get F 7=.hsl id 2 off m->B<=id
theorem SX(out:aZ (aZ X'))(p j:Nat)(row:aZ X'):kN (out.set p (row.set j true))=(kN out).set p ((row.map V.bool).set j (.bool true)):=by simp[kN]
theorem It{out:aZ (aZ X')}:kN out=[]↔out=[]:=by simp[kN]
theorem Sa{a:bf->a_ (Sl bf)}{out:aZ (aZ X')}{y:bf}{rest:aZ bf}{w:Fw (aZ (aZ X')×aZ bf) (aZ (aZ X')) Empty}(h:qa a (out,y::rest)=some w):
 ∃(p j:Nat)(row:aZ X')(b:X'),y.proc=p/\y.index=j/\out[p]?=some row/\row[j]?=some b/\((b=true/\w=.n (out,rest))\/(b=false/\∃more,a y=some more/\rest.length+more.l.length<=2147483648/\w=.n (out.set p (row.set j true),rest++more.l))):=by
 simp only[qa]at h;split at h
 .have⟨row,h1,h⟩:=ζg.1 h;have⟨b,u,h⟩:=ζg.1 h;refine⟨y.proc.toNat,y.index.toNat,row,b,Zaa,Zaa,h1,u,?_⟩
  cases b with
  |true=>simp[bl]at h;grind|false=>
   have⟨more,z,h⟩:=ζg.1 h
   grind
 simp_all
theorem NU{E:Env}{N:Nat->Y'}{t:Z4}{f:bf->a_ (Sl bf)}(hd:E.keep (N 116)=true)(hD:HY E N t f):∀(k:Nat)(out:aZ (aZ X'))(l:aZ bf)(D:aZ (aZ X'))(F:WP)(H:bq),
 kG (qa f) k (out,l)=some (.x D)->P2 t out l F H->∃F' H',ng E N L2 F H (.exit 2) F' H'/\P2 t D [] F' H':=by
 intro k
 induction k with
 |zero=>intro out l D F H h;simp[kG]at h|succ k ih=>
  intro out l D F H h p;have⟨B,o,ids,id,n1,n2,Y,n4,n5,t7,t8⟩:=p.ns;have⟨F1,e1,e2,e3⟩:=x8 (E:=E) (N:=N) (call:=⟨0,λ_ _ _=>none⟩) t7
  rw[List.length_map]at e2
  cases l with
  |nil=>
   simp only[kG,qa]at h;cases h;refine⟨F1,H,ng.stop (Ex.ve (Ex.seq (Ex.dm λc=>e1) (Ex.qP ?_ Ex.exit)) Zab) Zab,?_⟩
   .show get F1 35=_;rw[e2];simp
   exact⟨by rw[e3 2 Zaa];exact p.f2,p.h0,B,o,ids,id,by rw[e3 5 Zaa];exact n1,n2,Y,n4,n5,by rw[e3 7 Zaa];exact t7,by rw[e3 7 Zaa];exact t8⟩
  |cons y rest=>
   simp only[kG]at h
   cases J:qa f (out,y::rest)with
   |none=>rw[J]at h;cases h|some w=>
   rw[J]at h;have⟨q,j,row,b,hq,hj,u,hb,L⟩:=Sa J;have O:lF H (get F1 7) (cells y::rest.map cells) id:=by rw[e3 7 Zaa];exact t7
   have⟨F2,g1,g2,g3⟩:=x9 (E:=E) (N:=N) (call:=⟨0,λ_ _ _=>none⟩) O
   have aa:lF (H++[.row 2 [cells y]]) (get F2 7) (cells y::rest.map cells) id:=by rw[g3 7 Zaa Zaa];exact O.more _
   have⟨r,i1,i2,⟨G,m1,ab,i3,i4⟩,M⟩:=Z_ (E:=E) (N:=N) (call:=⟨0,λ_ _ _=>none⟩) aa
   have Q:(H++[Ob.row 2 [cells y]])[H.length]?=some (.row 2 [cells y]):=Zab
   have P:get r 8=.hptr H.length 0 0:=by rw[M 8 Zaa Zaa];exact g2
   have f5:get r 5=get F 5:=by rw[M 5 Zaa Zaa,g3 5 Zaa Zaa,e3 5 Zaa]
   have R:get r 2=.hptr 0 0 0:=by rw[M 2 Zaa Zaa,g3 2 Zaa Zaa,e3 2 Zaa];exact p.f2
   have S:nM (H++[.row 2 [cells y]]) (get r 5) o ids (kN out):=by rw[f5];exact n1.more _
   have hr:(kN out)[q]?=some (row.map V.bool):=by simp[kN,u]
   have hu:(row.map V.bool)[j]?=some (.bool b):=by simp[hb]
   have T:B<=id:=by have:get F 7=.hsl id 2 G m1:=(by rw[<-i3,g3 7 Zaa Zaa,e3 7 Zaa]);exact t8 _ _ this
   have⟨F4,j1,j2,z⟩:=WR (E:=E) (N:=N) (call:=⟨0,λ_ _ _=>none⟩) P Q S hq hj hr hu
   have ad:bC N F1 (.s 35)=.bool true:=by show get F1 35=_;rw[e2];simp
   rcases L with⟨rfl,rfl⟩|⟨rfl,more,v,aq,rfl⟩
   .simp only at h;have U:P2 t out rest F4 (H++[.row 2 [cells y]]):=by
     refine⟨by rw[z 2 Zaa];exact R,by rw[List.getElem?_append_left (ζe.1 p.h0).1];exact p.h0,B,o,ids,id,by rw[z 5 Zaa];exact S,n2,Y,n4,by simp;omega,by rw[z 7 Zaa];exact i2,λoff m _=>T⟩
    have⟨F',H',r1,r2⟩:=ih out rest D F4 _ h U;exact⟨F',H',ng.step (Ex.seq (Ex.seq (Ex.dm λc=>e1) (Ex.n9 ad Ex.skip)) (Ex.vJ (Ex.seq (Ex.dm λc=>g1) (Ex.seq (Ex.dm λc=>i1) (Ex.ve (Ex.seq (Ex.qB rfl λc=>j1) (Ex.n9 j2 Ex.exit)) Zab))))) r1,r2⟩
   simp only at h;have n6:nM (H++[.row 2 [cells y]]) (get F4 5) o ids (kN out):=by rw[z 5 Zaa];exact S
   have⟨F5,C,k1,k2,k3,k4,x⟩:=x12 (E:=E) (N:=N) (call:=⟨0,λ_ _ _=>none⟩) (by rw[z 8 Zaa];exact P) Q n6 hq hj hr hu
   have I:∀i,B<=i->i∉ids:=λi hi v=>by have:=(Y i v).2;omega
   have ah:C[H.length]?=some (.row 2 [cells y]):=by rw[k4 _ (I _ n5)];exact Q
   have W:C[0]?=some (.row 1 [cells t]):=by rw[k4 0 (λv=>by have:=(Y 0 v).1;omega),List.getElem?_append_left (ζe.1 p.h0).1];exact p.h0
   have⟨w9,X,ai,aj,m2,m3,_⟩:=Zc (a:=0) (d:=0) (F:=F5) hd hD v (by rw[x 2 Zaa,z 2 Zaa];exact R) W ah
   have⟨Z,⟨nn,ak⟩,ae,o3⟩:=m3 (by rw[x 8 Zaa,z 8 Zaa];exact P)
   have au:C.length=H.length+1:=by rw[k3];simp
   have i7:get Z 7=.hsl id 2 ab (rest.map cells).length:=by rw[o3 7 Zaa Zaa,x 7 Zaa,z 7 Zaa];exact i4
   have ar:id<H.length:=by have:=O.lt (off:=G) (m:=m1) (by rw[<-i3,g3 7 Zaa Zaa]);exact this
   have t6:lF (C++X) (get Z 7) (rest.map cells) id:=by have:get Z 7=get r 7:=(by rw[o3 7 Zaa Zaa,x 7 Zaa,z 7 Zaa]);rw[this];refine(i2.heap (H':=C) λoff n _=>k4 id (I id T)).more X
   have al:∃g,(∀c,cN E N c none EF Z (C++X)=some (g,C++X))/\get g 10=.int .i64 ((0:Nat):Int)/\∀s,s<10->get g s=get Z s:=⟨set Z 10 (.int .i64 0),λc=>by simp[EF,cN,bL,bC,br,bA],Zab,λs hs=>by rw[bD,if_neg Zaa]⟩
   have⟨g,u1,u2,A⟩:=al;have am:P3 (rest.map cells) (more.l.map cells) B 0 g (C++X):=by refine⟨u2,⟨ai,by rw[A 9 Zaa,ae];exact aj,id,by rw[A 7 Zaa];exact t6,λoff m hh=>⟨T,λaf m' h'=>?_⟩⟩,by simp;omega⟩;rw[A 9 Zaa,ae]at h';have:=m2 af m' h';omega
   have⟨K,H8,v1,⟨an,v2,v3⟩,v4,v5,v6⟩:=YK (E:=E) (N:=N) (more.l.map cells) B (by simp;omega) (more.l.map cells).length 0 (rest.map cells) g (C++X) Zaa (by simp;omega) am
   have ao:nM H8 (get K 5) o ids (kN (out.set q (row.set j true))):=by have h5:get K 5=get F5 5:=(by rw[v4 5 Zaa,A 5 Zaa,o3 5 Zaa Zaa]);rw[h5,SX];refine(k2.more X).heap (λap=>v5 o ?_) λi hi=>v5 i (Y i hi).2;have:out≠[]:=(by intro e;subst e;simp at u);exact(n2 this).2
   have U:P2 t (out.set q (row.set j true)) (rest++more.l) K H8:=by refine⟨by rw[v4 2 Zaa,A 2 Zaa,o3 2 Zaa Zaa,x 2 Zaa,z 2 Zaa];exact R,?_,B,o,ids,an,ao,λap=>n2 (by intro e;subst e;simp at u),Y,n4,by simp at v6;omega,?_,v3⟩;rw[v5 0 Zaa,List.getElem?_append_left (ζe.1 W).1];exact W;rw[List.drop_zero]at v2;rw[map_append];exact v2
   have⟨F',H',w1,w2⟩:=ih _ _ D K H8 h U;exact⟨F',H',ng.step (Ex.seq (Ex.seq (Ex.dm λc=>e1) (Ex.n9 ad Ex.skip)) (Ex.block (Ex.seq (Ex.dm λc=>g1) (Ex.seq (Ex.dm λc=>i1) (Ex.seq (Ex.seq (Ex.qB rfl λc=>j1) (Ex.qP j2 Ex.skip)) (Ex.seq (Ex.qB rfl λc=>k1)
    (Ex.seq (Ex.ops ⟨nn,ak⟩) (Ex.seq (Ex.dm u1) (Ex.vJ (Ex.loop v1)))))))))) w1,w2⟩
theorem Tr{H:bq}{Z:Nat->Prop}{id:Nat}{r:aZ X'}(D:Z id)(h:H[id]?=some (.row 1 (j_ (r.map V.bool)))):FR H Z (enc (Sl.row r)) (.hsl id 1 0 r.length):=by
 have e:bz H id=some (1,j_ (r.map V.bool)):=by simp[bz,h,Ob.rows]
 have C:enc (Sl.row r)=.fsl 1 (rows r):=rfl;have G:(rows r).length=r.length:=by simp[rows]
 have f:j_ (r.map V.bool)=rows r:=by simp[j_,rows,Function.comp_def]
 rw[f]at e;rw[C,<-G];refine .fsl 1 (rows r) id 0 (rows r) D e Zaa (λi a b d w=>?_) (λi j a b u v d w z B=>?_);grind;rw[zero_add,d]at w;cases w;rw[z]at B;cases B;refine .same u ?_;obtain⟨c,I,rfl⟩:∃c∈r,a=[V.bool c]:=by have:=mem_of_getElem? d;simp only[rows,mem_map]at this;obtain⟨c,f,rfl⟩:=this;simp_all
 have:=mem_of_getElem? z;simp at this;subst this;rfl
theorem Sn{H:bq}{w:V}{o:Nat}{ids:S'}{out:aZ (aZ X')}(n:nM H w o ids (kN out)):∃Z,FR H Z (enc (nested out)) w/\(∀id,Z id->(bz H id).isSome=true)/\Deep H Z:=by
 have g:=n.v;by_cases O:out=[];subst O;rw[if_pos (show kN []=[]from rfl)]at g;subst g;exact⟨λ_=>False,.same _ rfl,λ_ h=>h.elim,⟨λ_ _ _ h=>h.elim⟩⟩;have G:kN out≠[]:=λh=>O (It.1 h);rw[if_neg G,xD]at g;subst g;have Q:=n.ob G;have I:=n.len;rw[xD]at I;have B:∀(i id:Nat)(r:aZ X'),ids[i]?=some id->out[i]?=some r->H[id]?=some (.row 1 (j_ (r.map V.bool))):=λi id r e D=>n.r i id _ e (by simp[kN,D]);have C:∀(i:Nat)(c:T2),(refs ids (kN out))[i]?=some c->∃id r,ids[i]?=some id/\out[i]?=some r/\c=[.hsl id 1 0 r.length]:=λi c h=>by have f:=(ζe.1 h).1;rw[uI n.len,xD]at f;have e:=ζd (show i<ids.length from Zaa);have D:=ζd f;have S:=DK (rows:=kN out) (r:=out[i].map V.bool) e (by simp[kN,D]);grind
 have J:bz H o=some (1,refs ids (kN out)):=by simp[bz,Q,Ob.rows]
 have L:∀id∈ids,∃(r:aZ X'),H[id]?=some (.row 1 (j_ (r.map V.bool))):=λid z=>by have⟨i,f⟩:=List.getElem?_of_mem z;have T:=(ζe.1 f).1;exact⟨_,B i id _ f (ζd (show i<out.length from Zaa))⟩
 refine⟨λid=>id=o\/id∈ids,?_,λid h=>?_,⟨λid es ys h d c hc u hu=>?_⟩⟩;have Y:enc (nested out)=.fsl 1 (rows (out.map Sl.row)):=by rw[nested,if_neg O];rfl
 have T:(rows (out.map Sl.row)).length=out.length:=by simp[rows]
 rw[Y,<-T];refine .fsl 1 _ o 0 (refs ids (kN out)) (.inl rfl) J (by rw[T,uI n.len,xD];omega) (λi a b e D=>?_) (λi j a b u v e D S X=>?_);rw[zero_add]at D;obtain⟨id,r,_,d,rfl⟩:=C i b D;simp[rows,d]at e;subst e;rfl;rw[zero_add]at D;obtain⟨id,r,z,d,rfl⟩:=C i b D;have k:a=[enc (Sl.row r)]:=by simp[rows,d]at e;exact e.symm
 subst k;cases j with|zero=>simp at S X;subst S X;exact Tr (.inr (mem_of_getElem? z)) (B i id r z d)|succ j=>simp_all
 rcases h with rfl|h;simp_all;have⟨r,d⟩:=L id h;simp[bz,d,Ob.rows];rcases h with rfl|h;rw[J]at d;cases d;have⟨i,f⟩:=List.getElem?_of_mem hc;obtain⟨id,r,z,U,rfl⟩:=C i c f;simp at hu;subst hu;exact⟨_,Tr (.inr (mem_of_getElem? z)) (B i id r z U)⟩;have⟨r,W⟩:=L id h;have:bz H id=some (1,j_ (r.map V.bool)):=by simp[bz,W,Ob.rows]
 rw[this]at d;cases d;simp only[j_,mem_map]at hc;obtain⟨_,⟨c',_,rfl⟩,rfl⟩:=hc;simp at hu;subst hu;exact⟨_,.same _ rfl⟩
theorem UX{t:Z4}{x:bf}{out:aZ (aZ X')}{s:Sl bf}{b:bf->a_ (Sl bf)}(hd:xO.keep (yu 116)=true)(W:HY xO yu t b)(U:A8 t=true)(g:b x=some s)(j:bQ (qa b) (iD t,s.l)=some (.x out)):
 AX xO (yu 81) [enc t,enc x] (enc (nested out)):=by
 have⟨fi,g1,g2,g3,g4⟩:=shape;have⟨k,l⟩:=pL.1 j;have p:∃F1,(∀c,cN xO yu c none r1 [enc t,enc x] []=some (F1,[.row 1 [cells t],.row 2 [cells x]]))/\get F1 2=.hptr 0 0 0/\get F1 3=.hptr 1 0 0:=by refine⟨_,λc=>kI (v:=.hptr 0 0 0) (H1:=[.row 1 [cells t]]) rfl ?_<|kI (v:=.hptr 1 0 0) (H1:=[.row 1 [cells t],.row 2 [cells x]]) rfl ?_<|vp (v:=.bR) rfl ?_ eo,?_,?_⟩;show(jg .box [enc t]).map _=_;simp only[jg,oe,rI,if_true,Option.map_some,gR];rfl;simp only[bL,map_cons,map_nil,bC,bA,bD,reduceEqDiff,if_false];show(jg .box [enc x]).map _=_;simp only[jg,oe,rI,if_true,Option.map_some,gR];rfl;simp[bL,bC,br];simp[bA];simp[bA]
 have⟨F1,q,r,y⟩:=p;have A:∃I,(∀c,cN xO yu c none r2 F1 [.row 1 [cells t],.row 2 [cells x]]=some (set F1 5 .bR,[.row 1 [cells t],.row 2 [cells x]]))/\(∀c,cN xO yu c none r3 (set F1 5 .bR) [.row 1 [cells t],.row 2 [cells x]]=some (I,[.row 1 [cells t],.row 2 [cells x]]))/\P1 t x 0 I [.row 1 [cells t],.row 2 [cells x]]:=by refine⟨set (set F1 5 .bR) 6 (.int .i64 0),λc=>by simp[r2,cN,bL,bC,br,bA],λc=>by simp[r3,cN,bL,bC,br,bA],by simp[r],by simp[y],Zab,rfl,rfl,0,[],?_,λh=>absurd rfl h,λid h=>by simp at h⟩;have:get (set (set F1 5 .bR) 6 (.int .i64 0)) 5=.bR:=Zab;rw[this,List.take_zero];exact nM.nil _ 0
 have⟨I,H,K,M⟩:=A;have⟨P,Q,e1,e2⟩:=N7 (E:=xO) (N:=yu) U t.procs.l.length 0 I _ Zaa M
 have⟨o,ids,J,R,V⟩:=e2.ns;have S:(iD t).length=t.procs.l.length:=by simp[iD]
 rw[List.take_of_length_le Zaa]at J
 have⟨w,X,id,m1,m2,_,m4⟩:=Zc (a:=0) (d:=0) (F:=P) (E:=xO) (N:=yu) hd W g e2.f2 e2.h0 (c:=1) e2.h1;have⟨T,o1,o2,o3⟩:=m4 e2.f3;have O:P2 t (iD t) s.l T (Q++X):=by refine⟨by rw[o3 2 Zaa Zaa];exact e2.f2,by rw[List.getElem?_append_left (ζe.1 e2.h0).1];exact e2.h0,Q.length,o,ids,id,by rw[o3 5 Zaa Zaa];exact J.more X,λu=>?_,λi f=>⟨by have:=V i f;omega,J.lt.2 i f⟩,?_,Zab,by rw[o2];exact m1,λoff m h=>?_⟩;have z:kN (iD t)≠[]:=λh=>u (It.1 h);have:t.procs.l.length≠0:=(by intro h;apply u;exact List.eq_nil_of_length_eq_zero Zaa);have:=R this;exact⟨Zaa,J.lt.1 z⟩;have:=(ζe.1 e2.h0).1;omega;rw[o2]at h;have:=m2 off m h;omega
 have⟨C,L,p1,p2⟩:=NU hd W k _ _ out T _ l O;have⟨B,o',Y,aa,q1,_⟩:=p2.ns;have l1:∃D,(∀c,cN xO yu c none Zx C L=some (D,L))/\get D 4=get C 5:=by refine⟨_,λc=>vp (v:=get C 5) rfl ?_<|vp (v:=get C 5) rfl ?_ eo,?_⟩;simp[bL,bC,br];simp[bL,bC,br,bA];simp[bA]
 have⟨D,y1,y2⟩:=l1;have e:Ex xO yu code [enc t,enc x] [] .ret D L:=Ex.seq (Ex.dm q) (Ex.seq (Ex.dm H) (Ex.seq (Ex.seq (Ex.dm K) (Ex.vJ (Ex.loop e1))) (Ex.seq (Ex.ops o1) (Ex.seq (Ex.vJ (Ex.loop p1)) (Ex.seq (Ex.dm y1) Ex.ret)))))
 have⟨n,G⟩:=e.run (nm:=some) xk g1 g2 (show[enc t,enc x].length<=fi.ntmps from g3) (vs:=[get D 4]) (by rw[g4];rfl)
 have⟨Z,z1,z2,z3⟩:=Sn q1;exact⟨n,get C 5,L,Z,by rw[G,y2];rfl,z1,z2,z3⟩
theorem X2(l:aZ bf):∀c∈l.map (cells (α:=bf)),c.length=2/\c.all V.one=true/\c.all V.scalar=true:=λc a=>by obtain⟨e,_,rfl⟩:=mem_map.1 a;exact⟨rfl,rfl,rfl⟩
theorem YT(t:Z4):HY xO yu t (dY t):=by
 intro y s H B;have d:=AR t y;have I:=d (cV s) (by rw[B];rfl);have b:V.cK [enc t,enc y]=true:=by simp only[V.cK,kP,Bool.and_self]
 have w:s.k=.row\/s.k=.nil/\rows s.l=[]:=by have D:∀o z,(∃l,o=.row l)\/o=.nil->dY.J1 o t y=some z->(∃l,z=.row l)\/z=.nil:=λo z J u=>(by unfold dY.J1 at u;have⟨e,_,u⟩:=ζg.1 u;cases G:e.kind==3 with|true=>rw[G]at u;have⟨f,_,u⟩:=ζg.1 u;have⟨q,C,u⟩:=ζg.1 u;cases u;unfold eU at C;split at C;cases C;exact .inl ⟨_,rfl⟩;cases C|false=>rw[G]at u;cases u;exact J);have:(∃l,s=.row l)\/s=.nil:=(by unfold dY at B;cases a:decide (y.index>1)with|true=>rw[a]at B;exact D _ s (.inl ⟨_,rfl⟩) B|false=>rw[a]at B;exact D _ s (.inr rfl) B);rcases this with⟨l,rfl⟩|rfl;exact .inl rfl;exact .inr ⟨rfl,rfl⟩
 have⟨n,z,H',r1,r2⟩:=X_ Ib Ci (T:=Tx) (f:=yu 116) (rf:=r_ (Tx 116)) Zae b (Nat.le_of_ble_eq_true Zae) (k:=s.k) (es:=2) (xs:=rows s.l) (λc a=>(X2 s.l c a).2.2) w I;refine Jw (l:=s.l.map cells) (y:=z) (H1:=H') Zae b (X2 s.l) ⟨n,λk g=>(pg _ g).go _ _ _ _ r1⟩ ?_ H;rcases r2 with⟨L,rfl⟩|⟨id,rfl,O⟩;left;cases s<;>simp[Sl.k]at L;exact⟨rfl,rfl⟩;right;exact⟨id,by simp[rows],O⟩
end pastX
theorem S6(t:Z4)(x:bf)(r:Sl (Sl X'))(h:oE t x=some r):Sy.yB 81 [enc t,enc x]=some (enc r):=by
 unfold oE at h;split at h;rename_i u;have⟨s,z,h⟩:=ζg.1 h;have⟨w,B,h⟩:=ζg.1 h;cases w with|n a=>exact elim a|r e=>exact elim e|x out=>cases h;exact BH (pastX.UX Zae (pastX.YT t) u z B)
 cases h
noncomputable section
def xG:a_ X':=some true
instance Vo:Fc Sy cL xG:=⟨10,[],λr:X'=>[.bool r],true,eD.yB Zae Zae PI⟩
namespace hU
def bn(s0:Sl bX)(D:Int)(B:Int)(p1:bX->a_ X'):a_ (Fw Int Unit Int):=bl (decide (B<D)) ((idx s0 B).bind λu=>(p1 u).bind λw=>bl w (some (.r B)) (some (.n (wrap .i64 (B+1))))) (some (.x ()))
def W1(s0:Sl bX)(B D:Int)(p1:bX->a_ X'):QR:=(bQ (λq:Int=>bn s0 B q p1) D).bind (Fw.elim (λe=>some (-1)) (λe=>some e))
end hU
def hU(s0:Sl bX)(p1:bX->a_ X'):QR:=hU.W1 s0 (len s0) 0 p1
open hU in
abbrev x_(g1:FuncId)(e1:aZ V)(p1:bX->a_ Bool)(a:nq Sy cL g1 [] e1 (λz:bX=>[enc z]) (λr:Bool=>[.bool r]) p1 true)(s0:Sl bX):Fc Sy cL (hU s0 p1):=Fc.M 66 [enc s0,.clo g1 [] e1] (bZ 9 s0 (dH 5 (λw=>(bK [Cv 0 s0,(1,.v (.clo g1 [] e1)),Iv 7 (len s0),Iv 8 w] [])) (λu=>(0,(bK [] []))) (λu=>(bK [Iv 4 u] [])) (λw=>bt 7 9 (bH 16 λB _=>Ab 1 a.f B λC _=>bt 2 16 bg bg) bg) (λu=>bg) (λu=>bg)))
def ir(s0:Sl bX)(p1:bX->a_ X'):a_ X':=(hU s0 p1).bind λu=>some (decide (u>=0))
abbrev qe(g1:FuncId)(e1:aZ V)(p1:bX->a_ Bool)(a:nq Sy cL g1 [] e1 (λz:bX=>[enc z]) (λr:Bool=>[.bool r]) p1 true)(s0:Sl bX):Fc Sy cL (ir s0 p1):=Fc.M 40 [enc s0,.clo g1 [] e1] (bB (F:=x_ g1 e1 p1 a s0) 9 λu _=>bg)
namespace gJ
def bn(s0:Sl WF)(D:Int)(B:Int)(p1:WF->a_ X'):a_ (Fw Int Unit Int):=bl (decide (B<D)) ((idx s0 B).bind λu=>(p1 u).bind λw=>bl w (some (.r B)) (some (.n (wrap .i64 (B+1))))) (some (.x ()))
def W1(s0:Sl WF)(B D:Int)(p1:WF->a_ X'):QR:=(bQ (λq:Int=>bn s0 B q p1) D).bind (Fw.elim (λe=>some (-1)) (λe=>some e))
end gJ
def gJ(s0:Sl WF)(p1:WF->a_ X'):QR:=gJ.W1 s0 (len s0) 0 p1
open gJ in
abbrev xJ(g1:FuncId)(e1:aZ V)(p1:Event->a_ Bool)(a:nq Sy cL g1 [] e1 (λz:Event=>[enc z]) (λr:Bool=>[.bool r]) p1 true)(s0:Sl Event):Fc Sy cL (gJ s0 p1):=Fc.M 67 [enc s0,.clo g1 [] e1] (bZ 9 s0 (dH 5 (λw=>(bK [Cv 0 s0,(1,.v (.clo g1 [] e1)),Iv 7 (len s0),Iv 8 w] [])) (λu=>(0,(bK [] []))) (λu=>(bK [Iv 4 u] [])) (λw=>bt 7 9 (bH 16 λB _=>Ab 1 a.f B λC _=>bt 2 16 bg bg) bg) (λu=>bg) (λu=>bg)))
def ja(s0:Sl WF)(p1:WF->a_ X'):a_ X':=(gJ s0 p1).bind λu=>some (decide (u>=0))
abbrev pO(g1:FuncId)(e1:aZ V)(p1:Event->a_ Bool)(a:nq Sy cL g1 [] e1 (λz:Event=>[enc z]) (λr:Bool=>[.bool r]) p1 true)(s0:Sl Event):Fc Sy cL (ja s0 p1):=Fc.M 42 [enc s0,.clo g1 [] e1] (bB (F:=xJ g1 e1 p1 a s0) 9 λu _=>bg)
def pU(e0:WF):a_ X':=some (decide ((len e0.assign)>20))
instance OL(e0:WF):Fc Sy cL (pU e0):=Fc.M 43 [enc e0] (b9 2 1 e0 (bZ 7 e0.assign bg))
def mL(B:bX):a_ X':=(bl (decide ((len B.events)>70)) (some true) (some (decide ((len B.vars)>20))):a_ X').bind λu=>(bl u (some true) ((ja B.events (λz=>pU z)).bind λw=>some w):a_ X').bind λC=>some C
instance TA(B:bX):Fc Sy cL (mL B):=Fc.M 41 [enc B] (b9 2 1 B (bZ 7 B.events (bN 2 5 [7] 12 (bt 2 7 (bu 5) (bZ 2 B.vars (bu 2))) λu=>bN 1 4 [1,13] 17 (bt 1 13 (bu 4) (bB (F:=pO 43 [] (λz=>pU z) nq.tK B.events) 2 λw _=>bu 1)) λC=>bg)))
def wO(B:Z4):a_ X':=(bl (decide ((len B.procs)>10)) (some true) ((ir B.procs (λz=>mL z)).bind λu=>some u):a_ X').bind λw=>some w
instance Xr(B:Z4):Fc Sy cL (wO B):=Fc.M 11 [enc B] (b9 2 1 B (bZ 7 B.procs (bN 2 4 [1,7] 11 (bt 2 7 (bu 4) (bB (F:=qe 41 [] (λz=>mL z) nq.tK B.procs) 2 λu _=>bu 1)) λw=>bg)))
namespace fh
def bV(D:Int)(G:Pred)(J B:Int)(r:(Pred×Int×Int)->QR):a_ (Fw (Int×Int) Int Empty):=(bl (decide (J<(len G.l))) (some (decide (B<=300))) (some false):a_ X').bind λu=>bl u ((idx G.l J).bind λw=>(r (w,wrap .i64 (D+1),B)).bind λz=>some (.n (wrap .i64 (J+1),z))) (some (.x B))
def W2(B J:Int)(G:Pred)(D:Int)(r:(Pred×Int×Int)->QR):QR:=(bQ (λq:Int×Int=>bV B G q.1 q.2 r) (J,D)).bind (Fw.elim (λe=>some e) (λe=>elim e))
def J1(B:Int)(G:Pred)(D:Int)(r:(Pred×Int×Int)->QR):QR:=fh.W2 B 0 G D r
theorem kU(r:(Pred×Int×Int)->QR)(a:xW Sy cL 44 (λz:Pred×Int×Int=>[cv z.1,iv z.2.1,.ptr 9001 0,.ptr 9002 0]) (λz:Pred×Int×Int=>[(9001,bx (z.2.2:Int)),(9002,.box [.clo 44 [] [.ptr 9001 0,.ptr 9002 0]])]) (λr:Int=>[]) (λ(z:Pred×Int×Int)(r:Int)=>[(9001,bx (r:Int)),(9002,.box [.clo 44 [] [.ptr 9001 0,.ptr 9002 0]])]) r)(B:Int)(G:Pred)(D:Int):Le ((J1 B G D r).bind (λr=>some ([],[(9001,bx (r:Int)),(9002,.box [.clo 44 [] [.ptr 9001 0,.ptr 9002 0]])]))) (cz Sy cL (Di (tr Tx 44) [9001,9002]) (pT (tb Tx 44) [1,1,1,0] [] ⟨[Iv 1 B,(2,.ptr 9001 0),(3,.ptr 9002 0),Pv 4],[Xb 4 G,(9001,.box [iv D]),(9002,.box [.clo 44 [] [.ptr 9001 0,.ptr 9002 0]])],[9001,9002],[],true,0⟩)):=fK 7 (λu=>⟨[Iv 1 B,(2,.ptr 9001 0),(3,.ptr 9002 0),Pv 4,Iv 6 u.1],[Xb 4 G,(9001,.box [iv u.2]),(9002,.box [.clo 44 [] [.ptr 9001 0,.ptr 9002 0]])],[9001,9002],[],true,0⟩) (λw=>(0,⟨[],[(9001,.box [iv w]),(9002,.box [.clo 44 [] [.ptr 9001 0,.ptr 9002 0]])],[9001,9002],[],true,0⟩)) (λu=>dG 7 13 (Pred.eE G.l) (bZ 0 G.l (bN 2 3 [16] 19 (bt 2 16 (bu 3) (bu 3)) λI=>bt 2 19 (dG 9 24 (Pred.eE G.l) (bH 1 λC _=>UK 3 (oO.of (C,wrap .i64 (B+1),u.2) a) λJ _=>bg)) bg))) (λw=>bg)
end fh
def iF(D:Pred)(B G:Int)(r:(Pred×Int×Int)->QR):QR:=bl (decide (B>40)) (fh.J1 B D 1000 r) (fh.J1 B D (wrap .i64 (G+1)) r)
open fh in
theorem AQ(r:(Pred×Int×Int)->QR)(a:xW Sy cL 44 (λz:Pred×Int×Int=>[cv z.1,iv z.2.1,.ptr 9001 0,.ptr 9002 0]) (λz:Pred×Int×Int=>[(9001,bx (z.2.2:Int)),(9002,.box [.clo 44 [] [.ptr 9001 0,.ptr 9002 0]])]) (λr:Int=>[]) (λ(z:Pred×Int×Int)(r:Int)=>[(9001,bx (r:Int)),(9002,.box [.clo 44 [] [.ptr 9001 0,.ptr 9002 0]])]) r)(D:Pred)(B G:Int):∀J,iF D B G r=some J->∃m',cL 44 [cv D,iv B,.ptr 9001 0,.ptr 9002 0] [(9001,bx (G:Int)),(9002,.box [.clo 44 [] [.ptr 9001 0,.ptr 9002 0]])]=some (((λr:Int=>[]) J).map .v,m')/\∀U,lR m' ([(9001,bx (G:Int)),(9002,.box [.clo 44 [] [.ptr 9001 0,.ptr 9002 0]])].map (·.1)) U=some (nO U ((λr:Int=>[(9001,bx (r:Int)),(9002,.box [.clo 44 [] [.ptr 9001 0,.ptr 9002 0]])]) J)):=(oO.mk' 44 [cv D,iv B,.ptr 9001 0,.ptr 9002 0] [(9001,bx (G:Int)),(9002,.box [.clo 44 [] [.ptr 9001 0,.ptr 9002 0]])] (λr:Int=>[]) (λr:Int=>[(9001,bx (r:Int)),(9002,.box [.clo 44 [] [.ptr 9001 0,.ptr 9002 0]])]) (b9 2 4 D (bt 16 10 (mh 6 (kU r a B D 1000)) (mh 4 (kU r a B D (wrap .i64 (G+1)))))):oO Sy cL (iF D B G r)).h
def fh(D:Pred)(B G:Int):QR:=dA (λr(z:Pred×Int×Int)=>iF z.1 z.2.1 z.2.2 r) 100000 (D,B,G)
abbrev DT(D:Pred)(B G:Int):oO Sy cL (fh D B G):=oO.of (D,B,G) (xW.fix (A:=λz:Pred×Int×Int=>[cv z.1,iv z.2.1,.ptr 9001 0,.ptr 9002 0]) (O:=λz:Pred×Int×Int=>[(9001,bx (z.2.2:Int)),(9002,.box [.clo 44 [] [.ptr 9001 0,.ptr 9002 0]])]) (E:=λr:Int=>[]) (M:=λ(z:Pred×Int×Int)(r:Int)=>[(9001,bx (r:Int)),(9002,.box [.clo 44 [] [.ptr 9001 0,.ptr 9002 0]])]) (b:=(λr(z:Pred×Int×Int)=>iF z.1 z.2.1 z.2.2 r)) Zae Zae Zae (λr a z=>AQ r a z.1 z.2.1 z.2.2) 100000)
def vg(B:Pred):a_ X':=(fh B 0 0).bind λu=>some (decide (u>300))
instance Wv(B:Pred):Fc Sy cL (vg B):=Fc.M 12 [enc B] (b9 2 1 B (xA 26 (DT B 0 0) λu _=>bg))
namespace jr
def bn(G:Sl bX)(J:Int)(D B:Int):a_ (Fw (Int×Int) Int Empty):=bl (decide (B<J)) ((idx G B).bind λu=>some (.n (wrap .i64 (D+(len u.events)),wrap .i64 (B+1)))) (some (.x D))
def W1(B:Int)(D:Sl bX)(G J:Int):a_ X':=(bQ (λq:Int×Int=>bn D G q.1 q.2) (B,J)).bind (Fw.elim (λe=>some (decide (e>40))) (λe=>elim e))
end jr
def jr(B:Z4):a_ X':=jr.W1 0 B.procs (len B.procs) 0
open jr in
instance Wn(B:Z4):Fc Sy cL (jr B):=Fc.M 26 [enc B] (b9 2 1 B (bZ 13 B.procs (fK 5 (λu=>(bK [Iv 3 u.1,Cv 7 B.procs,Iv 8 (len B.procs),Iv 9 u.2] [])) (λw=>(0,(bK [Iv 3 w] []))) (λu=>bt 7 10 (bH 7 λz _=>oN 2 5 0 z (bZ 6 z.events bg)) bg) (λw=>bg))))
def oC(G D B:Int):a_ X':=(bl (decide (G>=D)) (some (decide (G<=B))) (some false):a_ X').bind λu=>some u
instance Yj(G D B:Int):Fc Sy cL (oC G D B):=Fc.M 153 [.int .i64 G,.int .i64 D,.int .i64 B] (bN 11 4 [0,2,10] 14 (bt 11 10 (bu 4) (bu 4)) λu=>bg)
def ri(B:Int):a_ X':=(bl (decide (B>=97)) (some (decide (B<=122))) (some false):a_ X').bind λu=>(bl u (some true) ((bl (decide (B>=65)) (some (decide (B<=90))) (some false):a_ X').bind λw=>some w):a_ X').bind λz=>some z
instance UD(B:Int):Fc Sy cL (ri B):=Fc.M 197 [.int .u8 B] (bN 10 3 [5] 8 (bt 10 5 (bu 3) (bu 3)) λu=>bN 1 7 [0,9] 16 (bt 1 9 (bu 7) (bN 3 3 [0,12] 15 (bt 3 12 (bu 3) (bu 3)) λw=>bu 1)) λz=>bg)
def vv(B:Int):a_ X':=(bl (decide (B>=48)) (some (decide (B<=57))) (some false):a_ X').bind λu=>some u
instance Wj(B:Int):Fc Sy cL (vv B):=Fc.M 198 [.int .u8 B] (bN 10 3 [0,5] 8 (bt 10 5 (bu 3) (bu 3)) λu=>bg)
namespace g_
def bn(s0:U')(D:Int)(B:Int):a_ (Fw Int Unit Unit):=bl (decide (B<D)) ((lZ s0 B).bind λz=>(ri z).bind λC=>(bl C (some false) ((lZ s0 B).bind λG=>(vv G).bind λI=>some (!I)):a_ X').bind λJ=>(bl J ((lZ s0 B).bind λu=>some (!(u==95))) (some false):a_ X').bind λw=>bl w (some (.r ())) (some (.n (wrap .i64 (B+1))))) (some (.x ()))
def W1(s0:U')(B D:Int):a_ X':=(bQ (λq:Int=>bn s0 B q) D).bind (Fw.elim (λe=>some true) (λe=>some false))
end g_
def g_(s0:U'):a_ X':=(bl (toList s0==toList ByteArray.empty) (some true) (some (decide (((ByteArray.size s0:Nat):Int)>16))):a_ X').bind λu=>(bl u (some true) ((lZ s0 0).bind λw=>(ri w).bind λz=>some (!z)):a_ X').bind λB=>bl B (some false) (g_.W1 s0 ((ByteArray.size s0:Nat):Int) 0)
open g_ in
instance V_(s0:U'):Fc Sy cL (g_ s0):=Fc.M 181 [.str s0] (bN 11 4 [6] 10 (bt 11 6 (bu 4) (bu 4)) λC=>bN 1 5 [11] 16 (bt 1 11 (bu 5) (Ba 1 .i64 λD _=>bB 0 λG _=>bu 2)) λI=>bt 2 16 bg (dH 13 (λw=>(bK [(0,.v (.str s0)),Iv 18 ((ByteArray.size s0:Nat):Int),Iv 19 w] [])) (λu=>(0,(bK [] []))) (λu=>(bK [Bv 2 false] [])) (λw=>bt 7 20 (Ba 15 .i64 λJ _=>bB 0 λL _=>bN 2 6 [27] 33 (cM 2 27 (bu 6) (Ba 2 .i64 λO _=>bB 0 λQ _=>bu 2)) λS=>bN 1 5 [3,34] 39 (bt 1 34 (Ba 2 .i64 λz _=>bu 2) (bu 5)) λB=>bt 2 39 bg bg) bg) (λu=>bg) (λu=>bg)))
def kC(B D:bX):a_ X':=some (toList B.name==toList D.name)
instance KG(B D:bX):Fc Sy cL (kC B D):=Fc.M 182 [enc B,.fptr (cells D)] (b9 2 2 B bg)
def kB(B D:Var):a_ X':=some (toList B.name==toList D.name)
instance KH(B D:Var):Fc Sy cL (kB B D):=Fc.M 183 [enc B,.fptr (cells D)] (bg)
namespace fI
def bn(s0:Sl Var)(D:Int)(B:Int)(p1:Var->a_ X'):a_ (Fw Int Unit Int):=bl (decide (B<D)) ((idx s0 B).bind λu=>(p1 u).bind λw=>bl w (some (.r B)) (some (.n (wrap .i64 (B+1))))) (some (.x ()))
def W1(s0:Sl Var)(B D:Int)(p1:Var->a_ X'):QR:=(bQ (λq:Int=>bn s0 B q p1) D).bind (Fw.elim (λe=>some (-1)) (λe=>some e))
end fI
def fI(s0:Sl Var)(p1:Var->a_ X'):QR:=fI.W1 s0 (len s0) 0 p1
open fI in
abbrev oA(g1:FuncId)(e1:aZ V)(p1:Var->a_ Bool)(a:nq Sy cL g1 [] e1 (λz:Var=>[enc z]) (λr:Bool=>[.bool r]) p1 true)(s0:Sl Var):Fc Sy cL (fI s0 p1):=Fc.M 106 [enc s0,.clo g1 [] e1] (bZ 9 s0 (dH 5 (λw=>(bK [Cv 0 s0,(1,.v (.clo g1 [] e1)),Iv 7 (len s0),Iv 8 w] [])) (λu=>(0,(bK [] []))) (λu=>(bK [Iv 4 u] [])) (λw=>bt 7 9 (bH 16 λB _=>Ab 1 a.f B λC _=>bt 2 16 bg bg) bg) (λu=>bg) (λu=>bg)))
def iC(s0:Sl Var)(p1:Var->a_ X'):a_ X':=(fI s0 p1).bind λu=>some (decide (u>=0))
abbrev qL(g1:FuncId)(e1:aZ V)(p1:Var->a_ Bool)(a:nq Sy cL g1 [] e1 (λz:Var=>[enc z]) (λr:Bool=>[.bool r]) p1 true)(s0:Sl Var):Fc Sy cL (iC s0 p1):=Fc.M 161 [enc s0,.clo g1 [] e1] (bB (F:=oA g1 e1 p1 a s0) 9 λu _=>bg)
namespace e9
def bn(D:Sl Var)(G:Int)(J:bX)(B:Int):a_ (Fw Int Unit Int):=bl (decide (B<G)) ((idx D B).bind λu=>(g_ u.name).bind λI=>(bl I ((h_ J.vars none (some B)).bind λL=>(iC L (λz=>kB z u)).bind λO=>some O) (some true):a_ X').bind λw=>bl w (some (.r 13)) ((oC u.init_ (-1073741824) 1073741824).bind λC=>bl C (some (.n (wrap .i64 (B+1)))) (some (.r 2)))) (some (.x ()))
def W1(D:Sl Var)(G J:Int)(B:bX):QR:=(bQ (λq:Int=>bn D G B q) J).bind (Fw.elim (λe=>bl (decide ((len B.events)>64)) (some 5) (some 0)) (λe=>some e))
end e9
def e9(G:Z4)(p1:Int):QR:=(idx G.procs p1).bind λu=>(g_ u.name).bind λw=>(bl w ((h_ G.procs none (some p1)).bind λB=>(ir B (λz=>kC z u)).bind λC=>some C) (some true):a_ X').bind λD=>bl D (some 13) (bl (decide ((len u.vars)>8)) (some 5) (e9.W1 u.vars (len u.vars) 0 u))
open e9 in
instance Mw(D:Z4)(p1:Int):Fc Sy cL (e9 D p1):=Fc.M 154 [enc D,.int .i64 p1] (b9 2 2 D (bH 8 λu _=>oN 2 5 0 u (bB 8 λO _=>bN 2 7 [1,2,18] 25 (cM 2 18 (DU 3 false true [.int .i64 p1] λG _=>cr (F:=qe 182 [.fptr (cells u)] (λz=>kC z u) nq.tK G) 1 λQ _=>bu 1) (bu 7)) λS=>bt 3 13 bg (bZ 5 u.vars (bt 4 26 bg (bZ 9 u.vars (dH 5 (λB=>(bK [Pv 5,Cv 32 u.vars,Iv 33 (len u.vars),Iv 34 B] [Xb 5 u])) (λw=>(1,(bK [Pv 5] [Xb 5 u]))) (λw=>(bK [Iv 4 w] [])) (λB=>bt 7 35 (bH 8 λC _=>bB 11 λT _=>bN 2 7 [6,44] 51 (cM 2 44 (DU 3 false true [.int .i64 B] λI _=>cr (F:=qL 183 [.fptr (cells C)] (λz=>kB z C) nq.tK I) 1 λU _=>bu 1) (bu 7)) λJ=>bt 3 39 bg (bB 5 λL _=>cM 4 52 bg bg)) bg) (λw=>bZ 7 u.events (bt 3 61 bg bg)) (λw=>bg))))))))
def jU(B:Z4):a_ Z4:=some B
instance Vz(B:Z4):Fc Sy cL (jU B):=Fc.NE (λr:Z4=>[(.clo 184 [] [.fptr (cells r)])]) 155 [enc B] (b9 2 1 B bg)
namespace jh
def J1(p1:Int)(D:X')(G:Z4)(B:WF):a_ X':=bl D ((oC B.peer 0 (wrap .i64 ((len G.procs)-1))).bind λu=>(bl u (some (!(B.peer==p1))) (some false):a_ X').bind λw=>(bl w ((oC B.message 0 199).bind λz=>some z) (some false):a_ X').bind λC=>some C) (some false)
end jh
def jh(B:Z4)(p1:Int)(e2:WF):a_ X':=bl (e2.kind==1) ((bl (e2.peer==0) (some (e2.message==0)) (some false):a_ X').bind λu=>some u) (bl (e2.kind==2) (jh.J1 p1 true B e2) (jh.J1 p1 (e2.kind==3) B e2))
open jh in
instance Ue(B:Z4)(p1:Int)(e2:WF):Fc Sy cL (jh B p1 e2):=Fc.M 185 [enc B,.int .i64 p1,enc e2] (b9 2 3 B (b9 0 5 e2 (bt 17 9 (bN 7 4 [5,14] 18 (bt 7 14 (bu 4) (bu 4)) λD=>bg) (bt 8 19 (qA 4 (bt 0 19 (bZ 7 B.procs (bB 1 λu _=>bN 1 5 [1,29] 34 (bt 1 29 (bu 5) (bu 5)) λw=>bN 1 4 [5,35] 39 (bt 1 35 (bB 2 λz _=>bu 1) (bu 4)) λC=>bg)) bg)) (qA 7 (bt 0 19 (bZ 7 B.procs (bB 1 λu _=>bN 1 5 [1,29] 34 (bt 1 29 (bu 5) (bu 5)) λw=>bN 1 4 [5,35] 39 (bt 1 35 (bB 2 λz _=>bu 1) (bu 4)) λC=>bg)) bg))))))
def lP(B D:Assign):a_ X':=some (B.var==D.var)
instance Ly(B D:Assign):Fc Sy cL (lP B D):=Fc.M 187 [enc B,.fptr (cells D)] (bg)
namespace gp
def bn(s0:Sl Assign)(D:Int)(B:Int)(p1:Assign->a_ X'):a_ (Fw Int Unit Int):=bl (decide (B<D)) ((idx s0 B).bind λu=>(p1 u).bind λw=>bl w (some (.r B)) (some (.n (wrap .i64 (B+1))))) (some (.x ()))
def W1(s0:Sl Assign)(B D:Int)(p1:Assign->a_ X'):QR:=(bQ (λq:Int=>bn s0 B q p1) D).bind (Fw.elim (λe=>some (-1)) (λe=>some e))
end gp
def gp(s0:Sl Assign)(p1:Assign->a_ X'):QR:=gp.W1 s0 (len s0) 0 p1
open gp in
abbrev wF(g1:FuncId)(e1:aZ V)(p1:Assign->a_ Bool)(a:nq Sy cL g1 [] e1 (λz:Assign=>[enc z]) (λr:Bool=>[.bool r]) p1 true)(s0:Sl Assign):Fc Sy cL (gp s0 p1):=Fc.M 199 [enc s0,.clo g1 [] e1] (bZ 9 s0 (dH 5 (λw=>(bK [Cv 0 s0,(1,.v (.clo g1 [] e1)),Iv 7 (len s0),Iv 8 w] [])) (λu=>(0,(bK [] []))) (λu=>(bK [Iv 4 u] [])) (λw=>bt 7 9 (bH 16 λB _=>Ab 1 a.f B λC _=>bt 2 16 bg bg) bg) (λu=>bg) (λu=>bg)))
def iJ(s0:Sl Assign)(p1:Assign->a_ X'):a_ X':=(gp s0 p1).bind λu=>some (decide (u>=0))
abbrev uW(g1:FuncId)(e1:aZ V)(p1:Assign->a_ Bool)(a:nq Sy cL g1 [] e1 (λz:Assign=>[enc z]) (λr:Bool=>[.bool r]) p1 true)(s0:Sl Assign):Fc Sy cL (iJ s0 p1):=Fc.M 186 [enc s0,.clo g1 [] e1] (bB (F:=wF g1 e1 p1 a s0) 9 λu _=>bg)
namespace dS
def bV(D:Sl Assign)(G:Int)(J:WF)(U:bX)(B:Int):a_ (Fw Int Unit Int):=bl (decide (B<G)) ((idx D B).bind λu=>(oC u.var 0 (wrap .i64 ((len U.vars)-1))).bind λI=>(bl I ((oC u.value (-1073741824) 1073741824).bind λL=>some (!L)) (some true):a_ X').bind λO=>bl O (some (.r 2)) ((h_ J.assign none (some B)).bind λw=>(iJ w (λz=>lP z u)).bind λC=>bl C (some (.r 8)) (some (.n (wrap .i64 (B+1)))))) (some (.x ()))
def W2(B:Sl Assign)(D G:Int)(J:WF)(U:bX):QR:=(bQ (λq:Int=>bV B D J U q) G).bind (Fw.elim (λe=>some 0) (λe=>some e))
def J1(D:Int)(J:Z4)(G:bf)(B:WF)(U:bX):QR:=(jh J G.proc B).bind λu=>bl u ((oC B.time 0 1099511627776).bind λw=>(bl w (some (decide (B.time<D))) (some true):a_ X').bind λz=>bl z (some 11) (bl (decide ((len B.assign)>8)) (some 5) (dS.W2 B.assign (len B.assign) 0 B U))) (some 3)
theorem kU(D:Int)(U:Z4)(J:bf)(B:WF)(G:bX):Le ((J1 D U J B G).bind (λr=>some [.int .i64 r])) (cz Sy cL (oJ (tr Tx 156)) (pT (tb Tx 156) [1,1,1,1,0] [] (bK [Pv 3,Pv 4,Pv 5,Pv 7,Iv 8 D] [Xb 3 U,Xb 4 J,Xb 5 B,Xb 7 G]))):=bB 8 λO _=>cM 4 28 (bB 5 λQ _=>bN 2 5 [8,40] 45 (cM 2 40 (bu 5) (bu 5)) λS=>bt 3 35 bg (bZ 5 B.assign (bt 4 46 bg (bZ 9 B.assign (dH 5 (λw=>(bK [Pv 5,Pv 7,Cv 52 B.assign,Iv 53 (len B.assign),Iv 54 w] [Xb 5 B,Xb 7 G])) (λu=>(1,(bK [] []))) (λu=>(bK [Iv 6 u] [])) (λw=>bt 7 55 (bH 8 λC _=>bZ 13 G.vars (bB 1 λT _=>bN 2 5 [68] 73 (cM 2 68 (bB 2 λW _=>bu 2) (bu 5)) λX=>bt 3 59 bg (DU 6 false true [.int .i64 w] λI _=>cr (F:=uW 187 [.fptr (cells C)] (λz=>lP z C) nq.tK I) 1 λL _=>bt 3 74 bg bg))) bg) (λu=>bg) (λu=>bg)))))) bg
end dS
def dS(D:Z4)(B:bf)(e2:WF):QR:=(idx D.procs B.proc).bind λu=>bl (decide (B.index>1)) ((idx u.events (wrap .i64 (B.index-2))).bind λw=>dS.J1 w.time D B e2 u) (dS.J1 0 D B e2 u)
open dS in
instance Ot(D:Z4)(B:bf)(e2:WF):Fc Sy cL (dS D B e2):=Fc.M 156 [enc D,enc B,enc e2] (b9 2 3 D (b9 1 5 e2 (bH 9 λu _=>oN 2 7 0 u (bt 15 19 (bH 7 λw _=>mh 6 (kU w.time D B e2 u)) (mh 4 (kU 0 D B e2 u))))))
def rL(e0:WF)(B D:Int):a_ X':=(bl (e0.kind==2) (some (e0.message==B)) (some false):a_ X').bind λu=>(bl u (some (e0.peer==D)) (some false):a_ X').bind λw=>some w
instance RI(e0:WF)(B D:Int):Fc Sy cL (rL e0 B D):=Fc.M 200 [enc e0,.fptr (cells B),.fptr (cells D)] (b9 2 3 e0 (bN 9 5 [1,8] 13 (bt 9 8 (bu 5) (bu 5)) λu=>bN 1 5 [2,3,14] 19 (bt 1 14 (bu 5) (bu 5)) λw=>bg))
def vo(D:Z4)(p1 G B:Int):a_ X':=(idx D.procs p1).bind λu=>(ja u.events (λz=>rL z G B)).bind λw=>some w
instance Wq(G:Z4)(p1 D B:Int):Fc Sy cL (vo G p1 D B):=Fc.M 188 [enc G,.int .i64 p1,.int .i64 D,.int .i64 B] (b9 2 4 G (bH 10 λu _=>cr (F:=pO 200 [.fptr (cells D),.fptr (cells B)] (λz=>rL z D B) nq.tK u.events) 3 λw _=>bg))
namespace eZ
def kD(D G:Z4)(J:a_ (cH 200 bM))(U:bf)(W:Int)(x:bf×WF)(B:cH 200 bM):a_ (Fw (cH 200 bM) Empty (bf×Int×(cH 200 bM))):=bl (x.2.kind==2) ((cH.at B x.2.message).bind λu=>bl (decide (u.from_.index>0)) (some (.r (x.1,8,B))) ((cH.at B x.2.message).bind λw=>some (.n (cH.set B x.2.message (⟨x.1,w.to_⟩:bM))))) (bl (x.2.kind==3) ((cH.at B x.2.message).bind λz=>bl (decide (z.to_.index>0)) (some (.r (x.1,8,B))) ((vo G x.2.peer x.2.message x.1.proc).bind λC=>bl C ((cH.at B x.2.message).bind λI=>some (.n (cH.set B x.2.message (⟨I.from_,x.1⟩:bM)))) (some (.r (x.1,7,B))))) (some (.n B)))
def E1(B G:Z4)(J:a_ (cH 200 bM))(U:bf)(W:Int)(D:cH 200 bM):a_ ((a_ (cH 200 bM))×bf×Int):=(kf B).bind λu=>(lJ (λ(x:bf×WF)(q:cH 200 bM)=>kD B G J U W x q) u D).bind (Fw.rQ (λq=>some (some q,⟨0,0⟩,0)) (λe=>elim e) (λe=>some ((none:a_ (cH 200 bM)),e.1,e.2.1)))
end eZ
def eZ(B:Z4):a_ ((a_ (cH 200 bM))×bf×Int):=(jU B).bind λu=>eZ.E1 u B (none:a_ (cH 200 bM)) (⟨0,0⟩:bf) 0 (cH.PY 200 (⟨⟨0,0⟩,⟨0,0⟩⟩:bM))
open eZ in
instance M4(D:Z4):Fc Sy cL (eZ D):=Fc.N 157 [enc D] (b9 2 1 D (b9 8 10 (cH.PY 200 (⟨⟨0,0⟩,⟨0,0⟩⟩:bM)) (WO 0 5 (bK [Pv 1,Pv 2,Pv 3,Pv 4,Pv 10] [Xb 1 D,(2,.box [cv (none:a_ (cH 200 bM))]),Xb 3 (⟨0,0⟩:bf),(4,.box [iv 0]),Xb 10 (cH.PY 200 (⟨⟨0,0⟩,⟨0,0⟩⟩:bM))]) [cv (none:a_ (cH 200 bM))] (by simp only[bK,zC,rP,tP,rO,tE,uK,tH,uY,rF,tM,zq,u_,vf,u9,uG,w6,wZ,tQ,u6];rfl) (bB 7 λB _=>Gc λO C=>B9 4 [Pv 1,Pv 2,Pv 3,Pv 4,Pv 5,(12,.v (.clo 184 [] [.fptr (cells B)]))] (λw=>[Xb 1 D,(2,.box [cv (none:a_ (cH 200 bM))]),Xb 3 (⟨0,0⟩:bf),(4,.box [iv 0]),(5,.box [.ptr 10 0]),Xb 10 w]) (λz=>elim z) (λz=>[Xb 1 D,(2,.box [cv (none:a_ (cH 200 bM))]),Xb 3 z.1,(4,.box [iv z.2.1]),(5,.box [.ptr 10 0]),Xb 10 z.2.2]) (zT B O C) (λu w=>WO 2 6 ⟨[Pv 1,Pv 2,Pv 3,Pv 4,Pv 5,(12,.v (.clo 184 [] [.fptr (cells B)])),Cv 13 u.1,Cv 14 u.2],[Xb 1 D,(2,.box [cv (none:a_ (cH 200 bM))]),Xb 3 (⟨0,0⟩:bf),(4,.box [iv 0]),(5,.box [.ptr 10 0]),Xb 10 w],[1,2,3,4,5],[],true,0⟩ [iv 0,iv 0] (by simp only[bK,zC,rP,tP,rO,tE,uK,tH,uY,rF,tM,zq,u_,vf,u9,uG,w6,wZ,tQ,u6];rfl) (WO 4 7 ⟨[Pv 1,Pv 2,Pv 3,Pv 4,Pv 5,(12,.v (.clo 184 [] [.fptr (cells B)])),Cv 14 u.2,Pv 6],[Xb 1 D,(2,.box [cv (none:a_ (cH 200 bM))]),Xb 3 (⟨0,0⟩:bf),(4,.box [iv 0]),(5,.box [.ptr 10 0]),Xb 10 w,Xb 6 u.1],[1,2,3,4,5],[],true,0⟩ [iv 0,iv 0,iv 0,iv 0,.v .bR] (by simp only[bK,zC,rP,tP,rO,tE,uK,tH,uY,rF,tM,zq,u_,vf,u9,uG,w6,wZ,tQ,u6];rfl) (oN 0 7 0 u.2 (zB 1 (bt 22 19 (Ih 7 .i64 10 λG Q=>TT 2 1 false 10 w u.2.message 1 G Q (.int .i64 G.from_.index) (by rfl) (bt 3 28 bg (Ih 8 .i64 10 λI S=>TG 1 10 w u.2.message 0 I S (⟨u.1,I.to_⟩:bM) u.1 rfl bg))) (bt 7 36 (Ih 7 .i64 10 λJ T=>TT 2 1 false 10 w u.2.message 3 J T (.int .i64 J.to_.index) (by rfl) (bt 3 45 bg (bB 12 λW _=>cM 3 54 (Ih 8 .i64 10 λL U=>TG 1 10 w u.2.message 2 L U (⟨L.from_,u.1⟩:bM) u.1 rfl bg) bg))) bg)))))) (λw=>YN 13 (bK [Pv 2,Pv 3,Pv 4] [(2,.box [.ptr 10 0]),Xb 3 (⟨0,0⟩:bf),(4,.box [iv 0]),Xb 10 w]) [.ptr 10 0,cv (⟨0,0⟩:bf),iv 0] (UJ (d:=10) (x:=w) (vs:=[enc (⟨0,0⟩:bf),.int .i64 0]) Zae) Zae) (λx=>elim x) (λz=>bg)))))
namespace jX
def J1(D:cH 200 bM)(B:Sl bf)(J:Sl WF)(G:bf):a_ (Sl bf):=(idx J (wrap .i64 (G.index-1))).bind λu=>(bl (u.kind==2) ((cH.at D u.message).bind λw=>some (decide (w.to_.index>0))) (some false):a_ X').bind λz=>bl z ((cH.at D u.message).bind λC=>(eU B (C.to_:bf)).bind λI=>some I) (some B)
theorem kU(B:cH 200 bM)(D:Sl bf)(J:Sl WF)(G:bf):Le ((J1 B D J G).bind (λr=>some [enc r])) (cz Sy cL (oJ (tr Tx 189)) (pT (tb Tx 189) [1,1,1,1,0,0] [] (bK [Kv 1 B,Pv 5,Ov 7,Cv 8 J] [Xb 5 G,Lb 2007 D]))):=bH 7 λu _=>oN 2 9 0 u (bN 8 10 [40] 50 (bt 8 40 (M6 4 .i64 λw z=>Q0 0 2 B u.message 0 w z (Q0 0 1 B u.message 2 w z (MK 0 1 false B u.message 3 w z (.int .i64 w.to_.index) (by rfl) (bu 2)))) (bu 10)) λL=>bt 2 50 (M6 7 .i64 λC I=>Q0 0 2 B u.message 0 C I (MK 0 2 true B u.message 2 C I (enc C.to_) (by rfl) (nS 1 2007 59 60 λO _=>bg))) bg)
end jX
def jX(D:Z4)(B:cH 200 bM)(x2:bf):a_ (Sl bf):=(idx D.procs x2.proc).bind λu=>bl (decide (x2.index<(len u.events))) (jX.J1 B (Sl.row [⟨x2.proc,wrap .i64 (x2.index+1)⟩]:Sl bf) u.events x2) (jX.J1 B (Sl.nil:Sl bf) u.events x2)
open jX in
instance Wo(D:Z4)(B:cH 200 bM)(x2:bf):Fc Sy cL (jX D B x2):=Fc.N 189 [enc D,.fptr (cells B),enc x2] (b9 2 3 D (bH 15 λu _=>bZ 11 u.events (bt 3 21 (TQ 10 29 30 .bR (⟨x2.proc,wrap .i64 (x2.index+1)⟩:bf) (mh 5 (kU B (Sl.row [⟨x2.proc,wrap .i64 (x2.index+1)⟩]:Sl bf) u.events x2))) (mh 5 (kU B (Sl.nil:Sl bf) u.events x2)))))
namespace jm
def eX(U:Z4)(W:Sl bf)(Y:Int)(a:Z4)(b:cH 200 bM)(c:bf)(d:X')(J:bf)(B:Sl bf)(G:Int)(D:Mo bf X'):a_ (Fw ((Sl bf)×Int×(Mo bf X')) ((Sl bf)×(Mo bf X')) Unit):=bl (decide (G<Y)) ((idx W G).bind λu=>bl (Mc u J) (some (.r ())) (bl (FW D u false) (some (.n (B,wrap .i64 (G+1),D))) ((eU B (u:bf)).bind λw=>some (.n (w,wrap .i64 (G+1),s_ D u true))))) (some (.x (B,D)))
def W3(D:Sl bf)(B:Z4)(U:Sl bf)(W Y:Int)(a:Z4)(b:cH 200 bM)(c:bf)(d:X')(G:bf)(J:Mo bf X'):a_ (Fw ((Sl bf)×(Mo bf X')) Unit Unit):=(bQ (λq:(Sl bf)×Int×(Mo bf X')=>eX B U W a b c d G q.1 q.2.1 q.2.2) (D,Y,J)).bind (Fw.elim (λe=>some (.n (e.1,e.2))) (λe=>some (.r ())))
def bV(D G:Z4)(J:cH 200 bM)(Y:bf)(a:X')(U:bf)(B:Sl bf)(W:Mo bf X'):a_ (Fw ((Sl bf)×(Mo bf X')) Unit Unit):=bl (decide ((len B)>0)) ((Sl.pP B (wrap .i64 ((len B)-1))).bind λw=>(Sl.get B w).bind λz=>(qd B none (some (wrap .i64 ((len B)-1)))).bind λC=>(jX G J z).bind λu=>W3 C D u (len u) 0 G J Y a U W) (some (.x ()))
def W2(G:Sl bf)(B U:Z4)(W:cH 200 bM)(Y:bf)(a:X')(D:bf)(J:Mo bf X'):a_ (Fw Unit Empty bf):=(bQ (λq:(Sl bf)×(Mo bf X')=>bV B U W Y a D q.1 q.2) (G,J)).bind (Fw.elim (λe=>some (.n ())) (λe=>some (.r D)))
def kD(B D:Z4)(G:cH 200 bM)(J:bf)(U:X')(x:bf×WF):a_ (Fw Unit Empty bf):=W2 (Sl.row [x.1]:Sl bf) B D G J U x.1 []
def E1(B D:Z4)(G:cH 200 bM)(J:bf)(U:X'):a_ (bf×X'):=(kf B).bind λu=>(lJ (λ(x:bf×WF)(q:Unit)=>kD B D G J U x) u ()).bind (Fw.rQ (λq=>some (⟨0,0⟩,false)) (λe=>elim e) (λe=>some (e,true)))
end jm
def jm(B:Z4)(D:cH 200 bM):a_ (bf×X'):=(jU B).bind λu=>jm.E1 u B D (⟨0,0⟩:bf) false
open jm in
instance Vs(B:Z4)(G:cH 200 bM):Fc Sy cL (jm B G):=Fc.M 158 [enc B,.fptr (cells G)] (b9 2 2 B (bB 9 λw _=>Gc λU Q=>B9 4 [Pv 2,Pv 3,Pv 4,Pv 5,(13,.v (.clo 184 [] [.fptr (cells w)]))] (λS=>[Xb 2 B,(3,.box [cp G]),Xb 4 (⟨0,0⟩:bf),(5,.box [bv false])]) (λI=>elim I) (λI=>[Xb 2 B,(3,.box [cp G]),Xb 4 I,(5,.box [bv true])]) (zT w U Q) (λC S=>zB 4 (dH 18 (λu=>⟨[Pv 2,Pv 3,Pv 4,Pv 5,Pv 6,(7,.mp 16),Ov 8,(13,.v (.clo 184 [] [.fptr (cells w)]))],[Xb 2 B,(3,.box [cp G]),Xb 4 (⟨0,0⟩:bf),(5,.box [bv false]),Xb 6 C.1,(16,xB u.2),Lb 2008 u.1],[2,3,4,5],[],true,0⟩) (λJ=>(2,⟨[Pv 2,Pv 3,Pv 4,Pv 5,(13,.v (.clo 184 [] [.fptr (cells w)]))],[Xb 2 B,(3,.box [cp G]),Xb 4 (⟨0,0⟩:bf),(5,.box [bv false])],[2,3,4,5],[],true,0⟩)) (λJ=>⟨[],[Xb 2 B,(3,.box [cp G]),Xb 4 C.1,(5,.box [bv true])],[2,3,4,5],[],true,0⟩) (λu=>Ij 6 2008 u.1 (bt 3 21 (Ij 8 2008 u.1 (tY .i64 1 2008 λW _=>Al 0 2008 0 2 true (λL=>.agg [.int .i64 L.proc,.int .i64 L.index]) λL _=>Ij 8 2008 u.1 (Y3 1 false true 2008 32 [.int .i64 (wrap .i64 ((len u.1)-1))] λX _=>bB 8 λO _=>bZ 0 O (dH 6 (λz=>⟨[Pv 2,Pv 3,Pv 4,Pv 5,Pv 6,(7,.mp 16),Ov 8,(13,.v (.clo 184 [] [.fptr (cells w)])),Cv 36 O,Iv 37 (len O),Iv 38 z.2.1],[Xb 2 B,(3,.box [cp G]),Xb 4 (⟨0,0⟩:bf),(5,.box [bv false]),Xb 6 C.1,(16,xB z.2.2),Lb 2008 z.1],[2,3,4,5],[],true,0⟩) (λD=>(4,⟨[Pv 2,Pv 3,Pv 4,Pv 5,Pv 6,(7,.mp 16),Ov 8,(13,.v (.clo 184 [] [.fptr (cells w)]))],[Xb 2 B,(3,.box [cp G]),Xb 4 (⟨0,0⟩:bf),(5,.box [bv false]),Xb 6 C.1,(16,xB D.2),Lb 2008 D.1],[2,3,4,5],[],true,0⟩)) (λD=>⟨[],[Xb 2 B,(3,.box [cp G]),Xb 4 C.1,(5,.box [bv true])],[2,3,4,5],[],true,0⟩) (λz=>bt 8 39 (bH 7 λT _=>bt 13 44 bg (Y9 7 16 z.2.2 T false (cM 3 49 bg (ZP 5 16 z.2.2 T true (nS 6 2008 54 55 λY _=>bg))))) bg) (λD=>bg) (λD=>bg))))) bg)) (λJ=>bg) (λJ=>bg))) (λS=>bg) (λx=>elim x) (λI=>bg)))
namespace iN
def LW(B D:Z4)(G:bf)(J:Int)(x:bf×WF):a_ (Fw Unit Empty (bf×Int)):=(dS D x.1 x.2).bind λu=>bl (u==0) (some (.n ())) (some (.r (x.1,u)))
def E2(B D:Z4)(G:bf)(J:Int):a_ (bf×Int):=(kf B).bind λz=>(lJ (λ(x:bf×WF)(q:Unit)=>LW B D G J x) z ()).bind (Fw.rQ (λq=>(eZ D).bind λu=>bl (u.2.2==0) ((u.1).bind λC=>(jm D C).bind λw=>bl w.2 (some (w.1,10)) (some (⟨0,0⟩,0))) (some (u.2.1,u.2.2))) (λe=>elim e) (λe=>some (e.1,e.2)))
def bn(D:Int)(G:Z4)(J:bf)(U:Int)(B:Int):a_ (Fw Int Unit (bf×Int)):=bl (decide (B<D)) ((e9 G B).bind λu=>bl (u==0) (some (.n (wrap .i64 (B+1)))) (some (.r ((⟨B,0⟩:bf),u)))) (some (.x ()))
def W1(J U:Int)(B:Z4)(D:bf)(G:Int):a_ (bf×Int):=(bQ (λq:Int=>bn J B D G q) U).bind (Fw.elim (λe=>(jU B).bind λu=>iN.E2 u B D G) (λe=>some (e.1,e.2)))
end iN
def iN(B:Z4):a_ (bf×Int):=(oC (len B.procs) 1 8).bind λu=>bl u (iN.W1 (len B.procs) 0 B (⟨0,0⟩:bf) 0) (some (⟨0,0⟩,1))
open iN in
instance Wk(B:Z4):Fc Sy cL (iN B):=Fc.M 117 [enc B] (b9 2 1 B (bZ 9 B.procs (bB 0 λO _=>cM 3 18 (bZ 8 B.procs (dH 5 (λC=>(bK [Pv 1,Pv 2,Pv 3,Iv 22 (len B.procs),Iv 23 C] [Xb 1 B,Xb 2 (⟨0,0⟩:bf),(3,.box [iv 0])])) (λu=>(0,(bK [Pv 1,Pv 2,Pv 3] [Xb 1 B,Xb 2 (⟨0,0⟩:bf),(3,.box [iv 0])]))) (λu=>(bK [Pv 2,Pv 3] [Xb 2 u.1,(3,.box [iv u.2])])) (λC=>bt 7 24 (bB 15 λQ _=>cM 9 30 bg bg) bg) (λu=>bB 6 λz _=>Gc λJ D=>B9 4 [Pv 1,Pv 2,Pv 3,(36,.v (.clo 184 [] [.fptr (cells z)]))] (λG=>[Xb 1 B,Xb 2 (⟨0,0⟩:bf),(3,.box [iv 0])]) (λw=>elim w) (λw=>[Xb 1 B,Xb 2 w.1,(3,.box [iv w.2])]) (zT z J D) (λL G=>oN 8 7 0 L.2 (zB 1 (bB 7 λS _=>cM 9 44 bg bg))) (λG=>bB 5 λI _=>cM 17 54 (ZV 8 (λT=>(bK [Pv 2,Pv 3,(36,.v (.clo 184 [] [.fptr (cells z)])),Pv 10,Iv 11 I.2.2,Bv 54 false,Cv 58 B,Cv 59 T] [Xb 1 B,Xb 2 (⟨0,0⟩:bf),(3,.box [iv 0]),Xb 10 I.2.1])) λU _=>bB 0 λW _=>bt 13 63 bg bg) bg) (λx=>elim x) (λw=>bg)) (λu=>bg))) bg)))
def dz(B:Z4):a_ X':=(iN B).bind λu=>some (u.2==0)
instance WC(B:Z4):Fc Sy cL (dz B):=Fc.M 82 [enc B] (b9 2 1 B (bB 6 λu _=>bg))
def uX(B:Int):a_ X':=(bl (B==2) (some true) (some (B==3)):a_ X').bind λu=>(bl u (some true) (some (B==4)):a_ X').bind λw=>some w
instance QW(B:Int):Fc Sy cL (uX B):=Fc.M 159 [.int .i64 B] (bN 10 3 [5] 8 (bt 10 5 (bu 3) (bu 3)) λu=>bN 1 3 [0,9] 12 (bt 1 9 (bu 3) (bu 3)) λw=>bg)
def lE(B:Pred):a_ X':=(bl (decide (B.kind<1)) (some true) (some (decide (B.kind>=22))):a_ X').bind λz=>(bl z (some true) ((cH.at vn B.kind).bind λC=>some (!((len B.l)==C))):a_ X').bind λD=>(bl D (some true) (some (decide (B.n<0))):a_ X').bind λG=>(bl G (some true) (some (decide (B.n>1125899906842624))):a_ X').bind λI=>(bl I (some true) ((bl (B.n==0) (some false) (some (!(B.kind==1))):a_ X').bind λJ=>some J):a_ X').bind λL=>bl L (some false) ((uX B.kind).bind λO=>(bl O (some true) ((bl (B.proc==0) (some (B.peer==0)) (some false):a_ X').bind λQ=>(bl Q (some (toList B.name==toList ByteArray.empty)) (some false):a_ X').bind λu=>some u):a_ X').bind λw=>some w)
instance TP(B:Pred):Fc Sy cL (lE B):=Fc.M 119 [enc B] (b9 2 1 B (bN 10 4 [6] 10 (bt 10 6 (bu 4) (bu 4)) λD=>bN 1 9 [11] 20 (bt 1 11 (bu 9) (dG 2 13 (Pred.eE B.l) (bZ 0 B.l (M6 2 .i64 λu w=>MK 0 1 false vn B.kind 0 u w (.int .i64 u) (by rfl) (bu 2))))) λG=>bN 1 4 [21] 25 (bt 1 21 (bu 4) (bu 4)) λI=>bN 1 4 [26] 30 (bt 1 26 (bu 4) (bu 4)) λJ=>bN 1 9 [31] 40 (bt 1 31 (bu 9) (bN 4 4 [35] 39 (cM 4 35 (bu 4) (bu 4)) λL=>bu 1)) λO=>bt 2 40 bg (bB 7 λQ _=>bN 1 14 [1,44] 58 (bt 1 44 (bu 14) (bN 4 4 [48] 52 (bt 4 48 (bu 4) (bu 4)) λS=>bN 1 4 [1,53] 57 (bt 1 53 (bu 4) (bu 4)) λz=>bu 1)) λC=>bg)))
def je(D:Pred)(G B:Int)(r:(Pred×Int×Int)->a_ (X'×Int)):a_ (X'×Int):=(r (D,wrap .i64 (G+1),B)).bind λu=>some ((!u.1),u.2)
abbrev xX(r:(Pred×Int×Int)->a_ (Bool×Int))(a:xW Sy cL 118 (λz:Pred×Int×Int=>[cv z.1,iv z.2.1,.ptr 9004 0,.ptr 9003 0]) (λz:Pred×Int×Int=>[(9004,bx (z.2.2:Int)),(9003,.box [.clo 118 [] [.ptr 9004 0,.ptr 9003 0]])]) (λr:Bool×Int=>[.bool r.1]) (λ(z:Pred×Int×Int)(r:Bool×Int)=>[(9004,bx (r.2:Int)),(9003,.box [.clo 118 [] [.ptr 9004 0,.ptr 9003 0]])]) r)(D:Pred)(G B:Int):oO Sy cL (je D G B r):=oO.mk' 121 [cv D,.ptr 9003 0,.v (.fptr (cells G))] [(9003,.box [.clo 118 [] [.ptr 9004 0,.ptr 9003 0]]),(9004,bx (B:Int))] (λr:Bool×Int=>[.bool r.1]) (λr:Bool×Int=>[(9003,.box [.clo 118 [] [.ptr 9004 0,.ptr 9003 0]]),(9004,bx (r.2:Int))]) (b9 2 3 D (xA 9 (oO.of (D,wrap .i64 (G+1),B) a) λu _=>bg))
section
variable{σ:Type}{gf:Y'}{ex:So}{os:σ->dK}{p:Pred->σ->a_ (X'×σ)}(h:zD Sy cL (.clo gf [] ex) gf ex os p)(s0:Sl Pred)(x:σ)
abbrev vL:oO Sy cL (QU s0 p x):=oO.mk' 160 [cv s0,(.clo gf [] ex)] (os x) (λr=>[.int .i64 r.1]) (λr=>os r.2) (bZ 9 s0 (dH 5 (λq=>⟨[Cv 0 s0,(1,(.clo gf [] ex)),Iv 7 (len s0),Iv 8 q.1],os q.2,(os x).map (·.1),[],true,0⟩) (λe=>(0,⟨[],os e,(os x).map (·.1),[],true,0⟩)) (λe=>⟨[Iv 4 e.1],os e.2,(os x).map (·.1),[],true,0⟩) (λq=>bt 7 9 (bH 16 λy _=>Oy 1 h y q.2 λr _=>bt 2 16 bg bg) bg) (λe=>H_ 9 h [.int .i64 (-1)] rfl) (λe=>Le.of_eq (IS h (ys:=[.int .i64 e.1]) Zae rfl)))) (hp:=λr=>h.wi x r.2)
abbrev wu:oO Sy cL (BI s0 p x):=oO.mk' 120 [cv s0,(.clo gf [] ex)] (os x) (λr=>[.bool r.1]) (λr=>os r.2) (L4 9 (vL h s0 x) (h.hd x (enc s0)) (λr=>h.put x r.2) λy _=>H_ 5 h [.bool (decide (y.1>=0))] rfl) (hp:=λr=>h.wi x r.2)
end
section
variable{σ:Type}{gf:Y'}{ex:T2}{os:σ->dK}{p:Pred->σ->a_ (X'×σ)}(h:zD Sy cL (.v (.clo gf [] ex)) gf (ex.map .v) os p)(s0:Sl Pred)(x:σ)
abbrev vR:oO Sy cL (QU s0 p x):=oO.mk' 160 [cv s0,(.v (.clo gf [] ex))] (os x) (λr=>[.int .i64 r.1]) (λr=>os r.2) (bZ 9 s0 (dH 5 (λq=>⟨[Cv 0 s0,(1,(.v (.clo gf [] ex))),Iv 7 (len s0),Iv 8 q.1],os q.2,(os x).map (·.1),[],true,0⟩) (λe=>(0,⟨[],os e,(os x).map (·.1),[],true,0⟩)) (λe=>⟨[Iv 4 e.1],os e.2,(os x).map (·.1),[],true,0⟩) (λq=>bt 7 9 (bH 16 λy _=>Oy 1 h y q.2 λr _=>bt 2 16 bg bg) bg) (λe=>H_ 9 h [.int .i64 (-1)] rfl) (λe=>Le.of_eq (IS h (ys:=[.int .i64 e.1]) Zae rfl)))) (hp:=λr=>h.wi x r.2)
abbrev mK:oO Sy cL (BI s0 p x):=oO.mk' 120 [cv s0,(.v (.clo gf [] ex))] (os x) (λr=>[.bool r.1]) (λr=>os r.2) (L4 9 (vR h s0 x) (h.hd x (enc s0)) (λr=>h.put x r.2) λy _=>H_ 5 h [.bool (decide (y.1>=0))] rfl) (hp:=λr=>h.wi x r.2)
end
def eV(G:Pred)(B D:Int)(r:(Pred×Int×Int)->a_ (X'×Int)):a_ (X'×Int):=(bl (decide ((wrap .i64 (D-1))<0)) (some true) (some (decide (B>20))):a_ X').bind λw=>(bl w (some true) ((lE G).bind λz=>some (!z)):a_ X').bind λC=>bl C (some (false,wrap .i64 (D-1))) ((BI G.l (λx s=>je x B s r) (wrap .i64 (D-1))).bind λu=>some ((!u.1),u.2))
theorem xZ(r:(Pred×Int×Int)->a_ (X'×Int))(a:xW Sy cL 118 (λz:Pred×Int×Int=>[cv z.1,iv z.2.1,.ptr 9004 0,.ptr 9003 0]) (λz:Pred×Int×Int=>[(9004,bx (z.2.2:Int)),(9003,.box [.clo 118 [] [.ptr 9004 0,.ptr 9003 0]])]) (λr:X'×Int=>[.bool r.1]) (λ(z:Pred×Int×Int)(r:X'×Int)=>[(9004,bx (r.2:Int)),(9003,.box [.clo 118 [] [.ptr 9004 0,.ptr 9003 0]])]) r)(D:Pred)(B G:Int):∀J,eV D B G r=some J->∃m',cL 118 [cv D,iv B,.ptr 9004 0,.ptr 9003 0] [(9004,bx (G:Int)),(9003,.box [.clo 118 [] [.ptr 9004 0,.ptr 9003 0]])]=some (((λr:X'×Int=>[.bool r.1]) J).map .v,m')/\∀U,lR m' ([(9004,bx (G:Int)),(9003,.box [.clo 118 [] [.ptr 9004 0,.ptr 9003 0]])].map (·.1)) U=some (nO U ((λr:X'×Int=>[(9004,bx (r.2:Int)),(9003,.box [.clo 118 [] [.ptr 9004 0,.ptr 9003 0]])]) J)):=(oO.mk' 118 [cv D,iv B,.ptr 9004 0,.ptr 9003 0] [(9004,bx (G:Int)),(9003,.box [.clo 118 [] [.ptr 9004 0,.ptr 9003 0]])] (λr:X'×Int=>[.bool r.1]) (λr:X'×Int=>[(9004,bx (r.2:Int)),(9003,.box [.clo 118 [] [.ptr 9004 0,.ptr 9003 0]])]) (b9 2 4 D (bN 17 3 [11] 14 (bt 17 11 (bu 3) (bu 3)) λu=>bN 1 4 [15] 19 (bt 1 15 (bu 4) (bB 1 λw _=>bu 2)) λC=>bt 2 19 bg (dG 7 21 (Pred.eE D.l) (xA 2 (wu (zD.ofK (σ:=Int) (g:=121) (e:=[.ptr 9003 0,cp B]) (os:=λs=>[(9003,.box [.clo 118 [] [.ptr 9004 0,.ptr 9003 0]]),(9004,bx (s:Int))]) (p:=(λx s=>je x B s r)) (λx s=>xX r a x B s)) D.l (wrap .i64 (G-1))) λI _=>bg)))):oO Sy cL (eV D B G r)).h
def rC(D:Pred)(B G:Int):a_ (X'×Int):=dA (λr(z:Pred×Int×Int)=>eV z.1 z.2.1 z.2.2 r) 100000 (D,B,G)
abbrev AF(D:Pred)(B G:Int):oO Sy cL (rC D B G):=oO.of (D,B,G) (xW.fix (A:=λz:Pred×Int×Int=>[cv z.1,iv z.2.1,.ptr 9004 0,.ptr 9003 0]) (O:=λz:Pred×Int×Int=>[(9004,bx (z.2.2:Int)),(9003,.box [.clo 118 [] [.ptr 9004 0,.ptr 9003 0]])]) (E:=λr:Bool×Int=>[.bool r.1]) (M:=λ(z:Pred×Int×Int)(r:Bool×Int)=>[(9004,bx (r.2:Int)),(9003,.box [.clo 118 [] [.ptr 9004 0,.ptr 9003 0]])]) (b:=(λr(z:Pred×Int×Int)=>eV z.1 z.2.1 z.2.2 r)) Zae Zae Zae (λr a z=>xZ r a z.1 z.2.1 z.2.2) 100000)
def mB(B:Pred):a_ X':=(rC B 1 200).bind λu=>some u.1
instance QA(B:Pred):Fc Sy cL (mB B):=Fc.M 83 [enc B] (b9 2 1 B (xA 26 (AF B 1 200) λu _=>bg))
def k8(B:Z4)(p1:Int):a_ X':=(bl (decide (p1>=0)) (some (decide (p1<(len B.procs)))) (some false):a_ X').bind λu=>some u
instance Qy(B:Z4)(p1:Int):Fc Sy cL (k8 B p1):=Fc.M 123 [enc B,.int .i64 p1] (b9 2 2 B (bN 8 6 [1,2,7] 13 (bt 8 7 (bZ 3 B.procs (bu 2)) (bu 6)) λu=>bg))
def oP(B:Var)(D:U'):a_ X':=some (toList B.name==toList D)
instance Oi(B:Var)(D:U'):Fc Sy cL (oP B D):=Fc.M 162 [enc B,.fptr (cells D)] (bg)
def rM(D:Z4)(p1:Int)(B:U'):a_ X':=(idx D.procs p1).bind λu=>(iC u.vars (λz=>oP z B)).bind λw=>some w
instance Ro(D:Z4)(p1:Int)(B:U'):Fc Sy cL (rM D p1 B):=Fc.M 124 [enc D,.int .i64 p1,.str B] (b9 2 3 D (bH 9 λu _=>cr (F:=qL 162 [.fptr (cells B)] (λz=>oP z B) nq.tK u.vars) 3 λw _=>bg))
def kS(B:Pred)(D:Z4):a_ X':=bl (B.kind==2) ((k8 D B.proc).bind λC=>(bl C (some (B.peer==0)) (some false):a_ X').bind λG=>(bl G ((rM D B.proc B.name).bind λI=>some I) (some false):a_ X').bind λJ=>some J) (bl (B.kind==3) ((k8 D B.proc).bind λL=>(bl L (some (B.peer==0)) (some false):a_ X').bind λO=>(bl O (some (toList B.name==toList ByteArray.empty)) (some false):a_ X').bind λQ=>some Q) (bl (B.kind==4) ((k8 D B.proc).bind λS=>(bl S ((k8 D B.peer).bind λT=>some T) (some false):a_ X').bind λu=>(bl u (some (!(B.proc==B.peer))) (some false):a_ X').bind λw=>(bl w (some (toList B.name==toList ByteArray.empty)) (some false):a_ X').bind λz=>some z) (some true)))
instance KV(B:Pred)(D:Z4):Fc Sy cL (kS B D):=Fc.M 122 [enc B,.fptr (cells D)] (b9 2 2 B (bt 17 6 (bB 6 λC _=>bN 1 4 [12] 16 (bt 1 12 (bu 4) (bu 4)) λG=>bN 1 7 [1,2,17] 24 (bt 1 17 (bB 5 λI _=>bu 1) (bu 7)) λJ=>bg) (bt 7 25 (bB 6 λL _=>bN 1 4 [31] 35 (bt 1 31 (bu 4) (bu 4)) λO=>bN 1 4 [2,36] 40 (bt 1 36 (bu 4) (bu 4)) λQ=>bg) (bt 7 41 (bB 6 λS _=>bN 1 5 [1,47] 52 (bt 1 47 (bB 3 λT _=>bu 1) (bu 5)) λu=>bN 1 6 [53] 59 (bt 1 53 (bu 6) (bu 6)) λw=>bN 1 4 [2,60] 64 (bt 1 60 (bu 4) (bu 4)) λz=>bg) bg))))
def tc(B:Pred)(p1:Pred->a_ X')(r:Pred->a_ X'):a_ X':=(r B).bind λu=>some (!u)
abbrev Bn(g1:FuncId)(e1:aZ V)(p1:Pred->a_ Bool)(b:nq Sy cL g1 [] e1 (λz:Pred=>[enc z]) (λr:Bool=>[.bool r]) p1 true)(r:Pred->a_ Bool)(a:eD Sy cL 103 (λz:Pred=>[enc z,.clo g1 [] e1]) (λr:Bool=>[.bool r]) r true)(B:Pred):Fc Sy cL (tc B p1 r):=Fc.M 146 [enc B,.fptr [.clo g1 [] e1]] (b9 2 2 B (bB (F:=Fc.of B a) 7 λu _=>bg))
def jP(D:Pred)(p1:Pred->a_ X')(r:Pred->a_ X'):a_ X':=(p1 D).bind λw=>(bl w ((BI D.l (λx u=>((λz=>tc z p1 r) x).map λb=>(b,u)) ()).bind λB=>some (!B.1)) (some false):a_ X').bind λC=>some C
theorem B1(g1:Y')(e1:T2)(p1:Pred->a_ X')(a:nq Sy cL g1 [] e1 (λz:Pred=>[enc z]) (λr:X'=>[.bool r]) p1 true)(r:Pred->a_ X')(b:eD Sy cL 103 (λz:Pred=>[enc z,.clo g1 [] e1]) (λr:X'=>[.bool r]) r true)(B:Pred):Le ((jP B p1 r).bind λr=>some [.bool r]) (gN cL 103 [enc B,.clo g1 [] e1]):=(Fc.M 103 [enc B,.clo g1 [] e1] (b9 2 2 B (Ab 8 a.f B λw _=>Aj 1 6 [] (λu=>(bK [Bv 14 u] [Xb 2 B])) (bt 1 8 (dG 2 10 (Pred.eE B.l) (xA 2 (mK (zD.W0 (g:=146) (e:=[.fptr [.clo g1 [] e1]]) (p:=(λz=>tc z p1 r)) (nq.tK (F:=λz=>Bn g1 e1 p1 a r b z))) B.l ()) λC _=>bu 2)) (bu 7)) λu=>bg)):Fc Sy cL (jP B p1 r)).F.h ()
def nW(B:Pred)(p1:Pred->a_ X'):a_ X':=dA (λr(z:Pred)=>jP z p1 r) 100000 B
abbrev um(g1:FuncId)(e1:aZ V)(p1:Pred->a_ Bool)(a:nq Sy cL g1 [] e1 (λz:Pred=>[enc z]) (λr:Bool=>[.bool r]) p1 true)(B:Pred):Fc Sy cL (nW B p1):=Fc.of B (eD.fix (A:=λz:Pred=>[enc z,.clo g1 [] e1]) (E:=λr:Bool=>[.bool r]) (sc:=true) (b:=(λr(z:Pred)=>jP z p1 r)) Zae (λ_ _=>rfl) (λr c z=>B1 g1 e1 p1 a r c z) 100000)
def oS(B:Z4)(p1:Pred):a_ X':=(nW p1 (λz=>kS z B)).bind λu=>some u
instance Oj(B:Z4)(p1:Pred):Fc Sy cL (oS B p1):=Fc.M 84 [enc B,enc p1] (b9 2 2 B (b9 0 3 p1 (cr (F:=um 122 [.fptr (cells B)] (λz=>kS z B) nq.tK p1) 7 λu _=>bg)))
def mA(B:Int):QR:=bl (decide (B<=8)) (some 1) (some 2)
instance QC(B:Int):Fc Sy cL (mA B):=Fc.M 56 [.int .i64 B] (bt 12 4 bg bg)
def sP(B:Int):QR:=bl (decide (B<=12)) (some 1) (some 2)
instance Tv(B:Int):Fc Sy cL (sP B):=Fc.M 127 [.int .i64 B] (bt 12 4 bg bg)
def mS(B D:Pred):a_ X':=(mA B.kind).bind λu=>(sP D.kind).bind λw=>some (!(u==w))
instance KZ(B D:Pred):Fc Sy cL (mS B D):=Fc.M 126 [enc B,.fptr (cells D)] (b9 2 2 B (cr 7 λu _=>cr 2 λw _=>bg))
def jK(B:Pred):a_ X':=(BI B.l (λx u=>((λz=>mS z B) x).map λb=>(b,u)) ()).bind λw=>some (!w.1)
instance Oh(B:Pred):Fc Sy cL (jK B):=Fc.M 125 [enc B] (b9 2 1 B (dG 7 4 (Pred.eE B.l) (xA 2 (mK (zD.W0 (g:=126) (e:=[.fptr (cells B)]) (p:=(λz=>mS z B)) nq.tK) B.l ()) λu _=>bg)))
def o_(B:Pred):a_ X':=(nW B (λz=>jK z)).bind λu=>some u
instance Se(B:Pred):Fc Sy cL (o_ B):=Fc.M 85 [enc B] (b9 2 1 B (bB (F:=um 125 [] (λz=>jK z) nq.tK B) 6 λu _=>bg))
namespace e_
def bV(D:Zg)(B i4:Int):a_ (Fw (Int×Int) Int Empty):=bl (decide (i4<(len D))) ((idx D i4).bind λu=>some (.n ((if u<B then u else B),wrap .i64 (i4+1)))) (some (.x B))
def W2(B:Zg)(D i4:Int):QR:=(bQ (λq:Int×Int=>bV B q.1 q.2) (D,i4)).bind (Fw.elim (λe=>some e) (λe=>elim e))
def J1(B:Zg):QR:=(idx B 0).bind λu=>e_.W2 B u 1
end e_
def e_(B:Zg):QR:=bl (decide ((len B)<1)) (none) (e_.J1 B)
open e_ in
instance R5(B:Zg):Fc Sy cL (e_ B):=Fc.M 131 [enc B] (bZ 9 B (bt 3 7 ((Le.none _)) (qA 4 (bH 3 λz _=>fK 12 (λu=>(bK [Cv 0 B,Iv 3 u.1,Iv 4 u.2] [])) (λw=>(0,(bK [Iv 3 w] []))) (λu=>bZ 6 B (bt 3 15 (bH 9 λC _=>bg) bg)) (λw=>bg)))))
namespace fm
def bV(D:Zg)(B i4:Int):a_ (Fw (Int×Int) Int Empty):=bl (decide (i4<(len D))) ((idx D i4).bind λu=>some (.n ((if u>B then u else B),wrap .i64 (i4+1)))) (some (.x B))
def W2(B:Zg)(D i4:Int):QR:=(bQ (λq:Int×Int=>bV B q.1 q.2) (D,i4)).bind (Fw.elim (λe=>some e) (λe=>elim e))
def J1(B:Zg):QR:=(idx B 0).bind λu=>fm.W2 B u 1
end fm
def fm(B:Zg):QR:=bl (decide ((len B)<1)) (none) (fm.J1 B)
open fm in
instance SE(B:Zg):Fc Sy cL (fm B):=Fc.M 132 [enc B] (bZ 9 B (bt 3 7 ((Le.none _)) (qA 4 (bH 3 λz _=>fK 12 (λu=>(bK [Cv 0 B,Iv 3 u.1,Iv 4 u.2] [])) (λw=>(0,(bK [Iv 3 w] []))) (λu=>bZ 6 B (bt 3 15 (bH 9 λC _=>bg) bg)) (λw=>bg)))))
def mG(B:Zg):a_ b7:=(e_ B).bind λu=>(fm B).bind λw=>some ⟨u,w⟩
instance TS(B:Zg):Fc Sy cL (mG B):=Fc.M 89 [enc B] (bB 8 λu _=>bB 1 λw _=>bg)
namespace fD
def bn(U:Int)(D:Sl WF)(G:Int)(J B:Int):a_ (Fw (Int×Int) Int Empty):=bl (decide (B<G)) ((idx D B).bind λu=>(bl (u.kind==2) (some (u.peer==U)) (some false):a_ X').bind λw=>bl w (some (.n (wrap .i64 (J+1),wrap .i64 (B+1)))) (some (.n (J,wrap .i64 (B+1))))) (some (.x J))
def W1(J U:Int)(B:Sl WF)(D G:Int):QR:=(bQ (λq:Int×Int=>bn J B D q.1 q.2) (U,G)).bind (Fw.elim (λe=>some e) (λe=>elim e))
end fD
def fD(B:Z4)(p1 D:Int):QR:=(idx B.procs p1).bind λu=>fD.W1 D 0 u.events (len u.events) 0
open fD in
instance Oa(B:Z4)(p1 D:Int):Fc Sy cL (fD B p1 D):=Fc.M 129 [enc B,.int .i64 p1,.int .i64 D] (b9 2 3 B (bH 14 λu _=>bZ 2 u.events (fK 5 (λw=>(bK [Iv 2 D,Iv 7 w.1,Cv 15 u.events,Iv 16 (len u.events),Iv 17 w.2] [])) (λz=>(0,(bK [Iv 7 z] []))) (λw=>bt 7 18 (bH 7 λC _=>oN 2 9 0 C (bN 8 5 [9,24] 29 (bt 8 24 (bu 5) (bu 5)) λG=>bt 2 29 bg bg)) bg) (λz=>bg))))
def oT(B:Var)(D:U'):a_ X':=some (toList B.name==toList D)
instance Oc(B:Var)(D:U'):Fc Sy cL (oT B D):=Fc.M 201 [enc B,.fptr (cells D)] (bg)
def uS(D:bX)(B:U'):QR:=(fI D.vars (λz=>oT z B)).bind λu=>some u
instance Ra(D:bX)(B:U'):Fc Sy cL (uS D B):=Fc.M 190 [enc D,.str B] (b9 2 2 D (cr (F:=oA 201 [.fptr (cells B)] (λz=>oT z B) nq.tK D.vars) 9 λu _=>bg))
def sV(D:Z4)(p1:Int)(B:U'):a_ (Int×Int):=(dz D).bind λw=>bl w ((bl (decide (p1<0)) (some true) (some (decide (p1>=(len D.procs)))):a_ X').bind λz=>bl z (some (0,2)) ((idx D.procs p1).bind λC=>(uS C B).bind λu=>bl (decide (u<0)) (some (0,13)) (some (u,0)))) (some (0,1))
instance TE(D:Z4)(p1:Int)(B:U'):Fc Sy cL (sV D p1 B):=Fc.M 163 [enc D,.int .i64 p1,.str B] (b9 2 3 D (bB 9 λu _=>cM 4 9 (bN 6 6 [16] 22 (bt 6 16 (bu 6) (bZ 3 D.procs (bu 2))) λw=>bt 3 13 bg (bH 9 λz _=>bB 2 λC _=>bt 10 31 bg bg)) bg))
def fu(s0:Zg):a_ Zg:=(Sl.isNil s0).bind λu=>bl u (some Sl.nil) ((oG (Sl.row []:Zg) s0).bind λw=>some w)
theorem mm:Br Sy cL 168 (λs0:Zg=>[enc s0]) (λz=>fu z):=Br.mk' (r_ (Tx 168)) (λs0=>Xx 9 λu _=>bt 2 4 bg (zF 7 5 7 λw _=>bg))
def ox(B:bX):a_ bX:=some B
instance QF(B:bX):Fc Sy cL (ox B):=Fc.NE (λr:bX=>[(.clo 179 [] [.fptr (cells r)])]) 145 [enc B] (b9 2 1 B bg)
namespace gz
def kD(D:bX)(G:Int)(x:Int×(Zg))(B:Zg):a_ (Fw Zg Empty Empty):=(idx x.2 G).bind λu=>(eU B (u:Int)).bind λw=>some (.n w)
def E1(B:bX)(G:Int)(D:Zg):a_ Zg:=(j7 B).bind λu=>(lJ (λ(x:Int×(Zg))(q:Zg)=>kD B G x q) u D).bind (Fw.rQ (λq=>some q) (λe=>elim e) (λe=>elim e))
end gz
def gz(B:bX)(i1:Int):a_ Zg:=(ox B).bind λu=>gz.E1 u i1 (Sl.nil:Zg)
open gz in
instance QG(D:bX)(i1:Int):Fc Sy cL (gz D i1):=Fc.N 164 [enc D,.int .i64 i1] (b9 2 2 D (bB 13 λz _=>Gc λC B=>B9 5 [Pv 3,Pv 5,(9,.v (.clo 179 [] [.fptr (cells z)]))] (λu=>[(3,.box [iv i1]),(5,.box [.own 4100]),Lb 4100 u]) (λw=>elim w) (λw=>elim w) (GB z C B) (λG u=>zB 3 (bH 7 λI _=>nS 2 4100 17 18 λJ _=>bg)) (λu=>bg) (λx=>elim x) (λx=>elim x)))
def rH(G:Z4)(p1:Int)(B:U'):a_ (Int×Int×Int):=(sV G p1 B).bind λu=>bl (u.2==0) ((idx G.procs p1).bind λz=>(gz z u.1).bind λw=>(e_ w).bind λC=>(fm w).bind λD=>some (C,D,0)) (some (0,0,u.2))
instance Tc(D:Z4)(p1:Int)(B:U'):Fc Sy cL (rH D p1 B):=Fc.M 130 [enc D,.int .i64 p1,.str B] (b9 2 3 D (bB 10 λu _=>cM 14 19 (bH 8 λw _=>bB 2 λz _=>bB 6 λC _=>bB 1 λG _=>bg) bg))
def mH(B:Z4)(p1:Pred):a_ b7:=bl (p1.kind==1) ((mG (Sl.row [p1.n]:Zg)).bind λw=>some w) (bl (p1.kind==3) ((idx B.procs p1.proc).bind λz=>some ⟨0,len z.events⟩) (bl (p1.kind==4) ((fD B p1.proc p1.peer).bind λC=>some ⟨0,C⟩) ((rH B p1.proc p1.name).bind λu=>some ⟨u.1,u.2.1⟩)))
instance Tk(B:Z4)(p1:Pred):Fc Sy cL (mH B p1):=Fc.M 87 [enc B,enc p1] (b9 2 2 B (b9 0 3 p1 (bt 17 10 (cr 6 λw _=>bg) (bt 7 16 (bH 7 λu _=>bZ 2 u.events bg) (bt 7 27 (bB 8 λz _=>bg) (bB 11 λC _=>bg))))))
def jH(B:b7):a_ X':=(bl (decide (B.low<(-1125899906842624))) (some true) (some (decide (B.high>1125899906842624))):a_ X').bind λu=>some u
instance Ie(B:b7):Fc Sy cL (jH B):=Fc.M 88 [enc B] (bN 12 4 [1,6] 10 (bt 12 6 (bu 4) (bu 4)) λu=>bg)
def tU(a0:Int):QR:=some (if(wrap .i64 (0-a0))>a0 then(wrap .i64 (0-a0))else a0)
instance Uz(a0:Int):Fc Sy cL (tU a0):=Fc.M 133 [.int .i64 a0] (bg)
def kq(a0 B:Int):QR:=(bl (a0==0) (some true) (some (B==0)):a_ X').bind λu=>bl u (some 0) ((tU a0).bind λw=>(tU B).bind λz=>(zU .i64 1125899906842624 z).bind λC=>bl (decide (w>C)) (bl ((decide (a0<0))==(decide (B<0))) (some 1125899906842625) (some (wrap .i64 (0-1125899906842625)))) (some (wrap .i64 (a0*B))))
instance P8(a0 B:Int):Fc Sy cL (kq a0 B):=Fc.M 90 [.int .i64 a0,.int .i64 B] (bN 11 3 [8] 11 (bt 11 8 (bu 3) (bu 3)) λu=>bt 2 11 bg (bB 15 λw _=>bB 1 λz _=>XC 0 λC _=>bt 3 20 (cM 15 25 bg bg) bg))
namespace dD
def J2(D B:b7)(r:(Z4×Pred)->a_ (b7×X')):a_ (b7×X'):=(jH B).bind λu=>some (B,(!u))
def J1(W U:X')(J:Pred)(G B D:b7)(r:(Z4×Pred)->a_ (b7×X')):a_ (b7×X'):=(bl W (some (!U)) (some true):a_ X').bind λC=>bl C (some (⟨0,0⟩,false)) (bl (J.kind==5) (dD.J2 G (⟨wrap .i64 (0-B.high),wrap .i64 (0-B.low)⟩:b7) r) (bl (J.kind==6) (dD.J2 G (⟨wrap .i64 (B.low+D.low),wrap .i64 (B.high+D.high)⟩:b7) r) (bl (J.kind==7) (dD.J2 G (⟨wrap .i64 (B.low-D.high),wrap .i64 (B.high-D.low)⟩:b7) r) ((kq B.low D.low).bind λI=>(kq B.low D.high).bind λL=>(kq B.high D.low).bind λu=>(kq B.high D.high).bind λw=>(mG (Sl.row [I,L,u,w]:Zg)).bind λz=>dD.J2 G z r))))
theorem kU(r:(Z4×Pred)->a_ (b7×X'))(a:eD Sy cL 57 (λz:Z4×Pred=>[enc z.1,enc z.2]) (λr:b7×X'=>[enc r.1,.bool r.2]) r true)(D B:X')(G:Pred)(J U W:b7):Le ((J1 D B G J U W r).bind (λr=>some [enc r.1,.bool r.2])) (cz Sy cL (oJ (tr Tx 57)) (pT (tb Tx 57) [1,1,1,1,1,0] [] (bK [Pv 3,Pv 4,Pv 7,Bv 8 D,Pv 9,Bv 10 B] [Xb 3 G,Xb 4 J,Xb 7 U,Xb 9 W]))):=bN 6 3 [10,48] 51 (cM 6 48 (bu 3) (bu 3)) λQ=>bt 2 51 bg (bt 22 77 (qA 14 (cr 4 λu _=>bg)) (bt 7 86 (qA 18 (cr 4 λu _=>bg)) (bt 7 99 (qA 18 (cr 4 λu _=>bg)) (cr 6 λI _=>cr 4 λL _=>cr 4 λw _=>cr 4 λC _=>ZJ 0 ([I,L,w,C]:SW) (.buildC 1 4 [.int .i64 0] [0,1,2,3]) [iv I,iv L,iv w,iv C] (cr 0 λO _=>qA 5 (cr 4 λu _=>bg))))))
end dD
def gT(B:Z4)(p1:Pred)(r:(Z4×Pred)->a_ (b7×X')):a_ (b7×X'):=bl ((len p1.l)==0) ((mH B p1).bind λw=>(jH w).bind λC=>some (w,(!C))) ((idx p1.l 0).bind λD=>(r (B,D)).bind λu=>bl ((len p1.l)==2) ((idx p1.l 1).bind λG=>(r (B,G)).bind λz=>dD.J1 u.2 z.2 p1 (⟨0,0⟩:b7) u.1 z.1 r) (dD.J1 u.2 true p1 (⟨0,0⟩:b7) u.1 u.1 r))
open dD in
theorem Aa(r:(Z4×Pred)->a_ (b7×X'))(a:eD Sy cL 57 (λz:Z4×Pred=>[enc z.1,enc z.2]) (λr:b7×X'=>[enc r.1,.bool r.2]) r true)(B:Z4)(p1:Pred):Le ((gT B p1 r).bind λr=>some [enc r.1,.bool r.2]) (gN cL 57 [enc B,enc p1]):=(Fc.M 57 [enc B,enc p1] (b9 2 2 B (b9 0 3 p1 (dG 9 13 (Pred.eE p1.l) (bZ 0 p1.l (bt 3 15 (bB 5 λG _=>cr 8 λI _=>bg) (dG 8 26 (Pred.eE p1.l) (bH 0 λC _=>cr (F:=Fc.of (B,C) a) 1 λu _=>dG 21 34 (Pred.eE p1.l) (bZ 0 p1.l (bt 3 36 (dG 5 40 (Pred.eE p1.l) (bH 0 λD _=>cr (F:=Fc.of (B,D) a) 1 λw _=>mh 8 (kU r a u.2 w.2 p1 (⟨0,0⟩:b7) u.1 w.1))) (mh 4 (kU r a u.2 true p1 (⟨0,0⟩:b7) u.1 u.1))))))))))):Fc Sy cL (gT B p1 r)).F.h ()
def dD(B:Z4)(p1:Pred):a_ (b7×X'):=dA (λr(z:Z4×Pred)=>gT z.1 z.2 r) 100000 (B,p1)
instance Qz(B:Z4)(p1:Pred):Fc Sy cL (dD B p1):=Fc.of (B,p1) (eD.fix (A:=λz:Z4×Pred=>[enc z.1,enc z.2]) (E:=λr:b7×X'=>[enc r.1,.bool r.2]) (sc:=true) (b:=(λr(z:Z4×Pred)=>gT z.1 z.2 r)) Zae (λ_ _=>rfl) (λr a z=>Aa r a z.1 z.2) 100000)
def oQ(B:Pred)(D:Z4)(r:(Z4×Pred)->a_ X'):a_ X':=(r (D,B)).bind λu=>some (!u)
abbrev AO(r:(Trace×Pred)->a_ Bool)(a:eD Sy cL 86 (λz:Trace×Pred=>[enc z.1,enc z.2]) (λr:Bool=>[.bool r]) r true)(B:Pred)(D:Trace):Fc Sy cL (oQ B D r):=Fc.M 128 [enc B,.fptr (cells D)] (b9 2 2 B (bB (F:=Fc.of (D,B) a) 7 λu _=>bg))
def iE(D:Z4)(p1:Pred)(r:(Z4×Pred)->a_ X'):a_ X':=(mA p1.kind).bind λw=>bl (w==1) ((dD D p1).bind λB=>some B.2) ((BI p1.l (λx u=>((λz=>oQ z D r) x).map λb=>(b,u)) ()).bind λC=>some (!C.1))
theorem AP(r:(Z4×Pred)->a_ X')(a:eD Sy cL 86 (λz:Z4×Pred=>[enc z.1,enc z.2]) (λr:X'=>[.bool r]) r true)(B:Z4)(p1:Pred):Le ((iE B p1 r).bind λr=>some [.bool r]) (gN cL 86 [enc B,enc p1]):=(Fc.M 86 [enc B,enc p1] (b9 2 2 B (b9 0 3 p1 (bB 8 λu _=>bt 3 10 (bB 5 λw _=>bg) (dG 7 19 (Pred.eE p1.l) (xA 2 (mK (zD.W0 (g:=128) (e:=[.fptr (cells B)]) (p:=(λz=>oQ z B r)) (nq.tK (F:=λz=>AO r a z B))) p1.l ()) λC _=>bg))))):Fc Sy cL (iE B p1 r)).F.h ()
def vc(B:Z4)(p1:Pred):a_ X':=dA (λr(z:Z4×Pred)=>iE z.1 z.2 r) 100000 (B,p1)
instance Sv(B:Z4)(p1:Pred):Fc Sy cL (vc B p1):=Fc.of (B,p1) (eD.fix (A:=λz:Z4×Pred=>[enc z.1,enc z.2]) (E:=λr:X'=>[.bool r]) (sc:=true) (b:=(λr(z:Z4×Pred)=>iE z.1 z.2 r)) Zae (λ_ _=>rfl) (λr a z=>AP r a z.1 z.2) 100000)
def rV(B:Z4)(p1:Pred):QR:=(dz B).bind λu=>(bl u ((mB p1).bind λw=>some (!w)) (some true):a_ X').bind λz=>bl z (some 1) ((oS B p1).bind λC=>bl C ((o_ p1).bind λD=>bl D ((vc B p1).bind λG=>bl G (some 0) (some 9)) (some 14)) (some 13))
instance R_(B:Z4)(p1:Pred):Fc Sy cL (rV B p1):=Fc.M 55 [enc B,enc p1] (b9 2 2 B (b9 0 3 p1 (bB 8 λu _=>bN 2 4 [9] 13 (cM 2 9 (bB 1 λw _=>bu 2) (bu 4)) λz=>bt 3 5 bg (bB 5 λC _=>cM 4 14 (bB 4 λD _=>cM 4 19 (bB 5 λG _=>cM 4 23 bg bg) bg) bg))))
def sK(B:Pred):a_ (Int×Int):=(mB B).bind λu=>bl u ((o_ B).bind λw=>bl w ((mA B.kind).bind λz=>some (z,0)) (some (0,14))) (some (0,1))
instance TF(B:Pred):Fc Sy cL (sK B):=Fc.M 102 [enc B] (b9 2 1 B (bB 9 λu _=>cM 4 4 (bB 4 λw _=>cM 4 8 (bB 8 λz _=>bg) bg) bg))
def uZ(D:Pred)(B:Int):QR:=(sK D).bind λu=>(bl (u.2==0) (some (!(u.1==B))) (some true):a_ X').bind λw=>bl w (some 14) (some 0)
instance QS(D:Pred)(B:Int):Fc Sy cL (uZ D B):=Fc.M 69 [enc D,.int .i64 B] (b9 2 2 D (bB 7 λu _=>bN 12 4 [1,5,14] 18 (cM 12 14 (bu 4) (bu 4)) λw=>bt 2 18 bg bg))
def sj(B:Int):a_ X':=(bl (decide (B>=18)) (some (decide (B<=21))) (some false):a_ X').bind λu=>some u
instance Oe(B:Int):Fc Sy cL (sj B):=Fc.M 105 [.int .i64 B] (bN 10 3 [0,5] 8 (bt 10 5 (bu 3) (bu 3)) λu=>bg)
def mZ(B:Pred):a_ X':=(sj B.kind).bind λu=>some (!u)
instance K6(B:Pred):Fc Sy cL (mZ B):=Fc.M 104 [enc B] (b9 2 1 B (bB 7 λu _=>bg))
def oW(D:Pred):a_ X':=(mB D).bind λu=>(bl u ((nW D (λz=>mZ z)).bind λw=>some (!w)) (some false):a_ X').bind λB=>some B
instance Og(B:Pred):Fc Sy cL (oW B):=Fc.M 70 [enc B] (b9 2 1 B (bB 6 λu _=>bN 1 4 [1,5] 9 (bt 1 5 (bB (F:=um 104 [] (λz=>mZ z) nq.tK B) 1 λw _=>bu 2) (bu 4)) λC=>bg))
namespace jb
def kD(D:Z4)(B G:Int)(J:bf)(U:X')(x:bf×WF):a_ (Fw Unit Empty bf):=(bl (x.2.kind==B) (some (x.2.message==G)) (some false):a_ X').bind λu=>bl u (some (.r x.1)) (some (.n ()))
def E1(B:Z4)(D G:Int)(J:bf)(U:X'):a_ (bf×X'):=(kf B).bind λu=>(lJ (λ(x:bf×WF)(q:Unit)=>kD B D G J U x) u ()).bind (Fw.rQ (λq=>some (⟨0,0⟩,false)) (λe=>elim e) (λe=>some (e,true)))
end jb
def jb(D:Z4)(B G:Int):a_ (bf×X'):=(dz D).bind λu=>bl u ((jU D).bind λw=>jb.E1 w B G (⟨0,0⟩:bf) false) (some (⟨0,0⟩,false))
open jb in
instance XN(G:Z4)(B D:Int):Fc Sy cL (jb G B D):=Fc.M 180 [enc G,.int .i64 B,.int .i64 D] (b9 2 3 G (bB 10 λL _=>cM 3 12 (bB 7 λw _=>Gc λI z=>B9 4 [Pv 4,Pv 5,Pv 6,Pv 7,(15,.v (.clo 184 [] [.fptr (cells w)]))] (λC=>[(4,.box [iv B]),(5,.box [iv D]),Xb 6 (⟨0,0⟩:bf),(7,.box [bv false])]) (λu=>elim u) (λu=>[(4,.box [iv B]),(5,.box [iv D]),Xb 6 u,(7,.box [bv true])]) (zT w I z) (λJ C=>oN 8 9 0 J.2 (zB 1 (bN 9 5 [9,22] 27 (bt 9 22 (bu 5) (bu 5)) λO=>bt 2 27 bg bg))) (λC=>bg) (λx=>elim x) (λu=>bg)) bg))
def qS(B:Z4)(m1:Int):a_ (bf×X'):=(jb B 2 m1).bind λu=>some (u.1,u.2)
instance VZ(B:Z4)(m1:Int):Fc Sy cL (qS B m1):=Fc.M 166 [enc B,.int .i64 m1] (b9 2 2 B (bB 8 λu _=>bg))
namespace lC
def J3(B:Sl bf)(W:Sl bX)(Y a:Int)(b:Sl WF)(c G:Int)(J:Z4)(d U:cD)(e:bX)(D:bf):a_ (Fw ((Sl bf)×Int×Z4×cD×cD) ((Sl bf)×Z4×cD) Empty):=(eU B (D:bf)).bind λu=>some (.n (u,wrap .i64 (G+1),J,(⟨Sl.nil,Sl.nil⟩:cD),U))
def bV(Y:Sl bX)(a b:Int)(J:Sl WF)(U:Int)(c:bX)(B:Sl bf)(D:Int)(G:Z4)(d W:cD):a_ (Fw ((Sl bf)×Int×Z4×cD×cD) ((Sl bf)×Z4×cD) Empty):=bl (decide (D<U)) ((idx J D).bind λu=>bl (u.kind==3) ((qS G u.message).bind λw=>J3 B Y a b J U D G (⟨Sl.nil,Sl.nil⟩:cD) W c w.1) (J3 B Y a b J U D G (⟨Sl.nil,Sl.nil⟩:cD) W c (⟨0,0⟩:bf))) (some (.x (B,G,W)))
def W2(B:Sl bf)(J:Sl bX)(U D:Int)(W:Sl WF)(Y a:Int)(b:Z4)(c d:cD)(G:bX):a_ (Fw (Int×Z4×cD×cD) cD Empty):=(bQ (λq:(Sl bf)×Int×Z4×cD×cD=>bV J U D W Y G q.1 q.2.1 q.2.2.1 q.2.2.2.1 q.2.2.2.2) (B,a,b,c,d)).bind (Fw.elim (λe=>(eU e.2.2.lengths (len G.events:Int)).bind λu=>(eU e.2.2.need (e.1:Sl bf)).bind λw=>some (.n (wrap .i64 (D+1),e.2.1,(⟨Sl.nil,Sl.nil⟩:cD),(⟨u,w⟩:cD)))) (λe=>elim e))
def bn(D:Sl bX)(G:Int)(B:Int)(U:Z4)(W J:cD):a_ (Fw (Int×Z4×cD×cD) cD Empty):=bl (decide (B<G)) ((idx D B).bind λu=>W2 (Sl.nil:Sl bf) D G B u.events (len u.events) 0 U (⟨Sl.nil,Sl.nil⟩:cD) J u) (some (.x J))
def W1(B:Sl bX)(D G:Int)(J:Z4)(U W:cD):a_ cD:=(bQ (λq:Int×Z4×cD×cD=>bn B D q.1 q.2.1 q.2.2.1 q.2.2.2) (G,J,U,W)).bind (Fw.elim (λe=>some e) (λe=>elim e))
end lC
def lC(B:Z4):a_ cD:=lC.W1 B.procs (len B.procs) 0 B (⟨Sl.nil,Sl.nil⟩:cD) (⟨Sl.nil,Sl.nil⟩:cD)
open lC in
instance Zq(D:Z4):Fc Sy cL (lC D):=Fc.N 141 [enc D] (b9 2 1 D (bZ 13 D.procs (fK 7 (λu=>(bK [Pv 1,Pv 2,Pv 3,Cv 11 D.procs,Iv 12 (len D.procs),Iv 13 u.1] [Xb 1 u.2.1,Xb 2 (⟨Sl.nil,Sl.nil⟩:cD),(3,.box [.own 4060,.own 4061]),Lb 4060 u.2.2.2.lengths,Lb 4061 u.2.2.2.need])) (λC=>(0,(bK [Pv 2,Pv 3] [Xb 2 (⟨Sl.nil,Sl.nil⟩:cD),(3,.box [.own 4060,.own 4061]),Lb 4060 C.lengths,Lb 4061 C.need]))) (λu=>bt 9 14 (bH 7 λw _=>oN 2 5 0 w (bZ 12 w.events (fK 8 (λz=>(bK [Pv 1,Pv 2,Pv 3,Pv 5,Ov 6,Cv 11 D.procs,Iv 12 (len D.procs),Iv 13 u.1,Cv 18 w.events,Iv 19 (len w.events),Iv 20 z.2.1] [Xb 1 z.2.2.1,Xb 2 (⟨Sl.nil,Sl.nil⟩:cD),(3,.box [.own 4060,.own 4061]),Xb 5 w,Lb 2006 z.1,Lb 4060 z.2.2.2.2.lengths,Lb 4061 z.2.2.2.2.need])) (λB=>(2,(bK [Pv 1,Pv 2,Pv 3,Pv 5,Ov 6,Cv 11 D.procs,Iv 12 (len D.procs),Iv 13 u.1] [Xb 1 B.2.1,Xb 2 (⟨Sl.nil,Sl.nil⟩:cD),(3,.box [.own 4060,.own 4061]),Xb 5 w,Lb 2006 B.1,Lb 4060 B.2.2.lengths,Lb 4061 B.2.2.need]))) (λz=>bt 10 21 (bH 7 λG _=>oN 2 8 0 G (bt 15 26 (bB 5 λJ _=>qA 10 (nS 4 2006 36 37 λI _=>bg)) (qA 7 (nS 4 2006 36 37 λI _=>bg)))) bg) (λB=>bZ 8 w.events (nS 1 4060 44 45 λL _=>ze 9 50 ([B.1]:aZ (Sl bf)) (nS 0 4061 50 51 λO _=>bg)))))) bg) (λC=>oN 7 2 0 C bg))))
def pZ(J:cD)(B:Zg)(p2:Int):a_ X':=(idx B p2).bind λw=>(idx J.lengths p2).bind λz=>bl (w==z) (some false) ((idx J.need p2).bind λC=>(idx B p2).bind λD=>(idx C D).bind λu=>(idx B u.proc).bind λG=>some (decide (u.index<=G)))
instance Oz(B:cD)(D:Zg)(p2:Int):Fc Sy cL (pZ B D p2):=Fc.M 167 [enc B,enc D,.int .i64 p2] (b9 2 3 B (bH 8 λu _=>bH 4 λw _=>bt 4 17 bg (bH 8 λz _=>bH 3 λC _=>bH 1 λG _=>bH 12 λI _=>bg)))
def sU(B:Int):a_ X':=some (!(B==B))
instance To(B:Int):Fc Sy cL (sU B):=Fc.M 212 [.int .i64 B] (bg)
def qO(B D:Int):QR:=(sU B).bind λw=>(sU D).bind λu=>bl w (bl u (some 0) (some (-1))) (bl u (some 1) (bl (decide (B<D)) (some (-1)) (bl (decide (B>D)) (some 1) (some 0))))
instance Qv(B D:Int):Fc Sy cL (qO B D):=Fc.M 193 [.int .i64 B,.int .i64 D] (bB 8 λu _=>bB 6 λw _=>bt 9 11 (bt 7 12 bg bg) (bt 9 13 bg (bt 11 16 bg (bt 11 19 bg bg))))
namespace fJ
def bn(J D U:Zg)(G:Int)(B:Int):a_ (Fw Int Unit Int):=bl (decide (B<G)) ((idx U B).bind λw=>bl (decide (B>=(len D))) (some (.r 1)) ((idx D B).bind λz=>(qO w z).bind λu=>bl (u==0) (some (.n (wrap .i64 (B+1)))) (some (.r u)))) (some (.x ()))
def W1(B D U:Zg)(G J:Int):QR:=(bQ (λq:Int=>bn B D U G q) J).bind (Fw.elim (λe=>bl (decide ((len B)<(len D))) (some (-1)) (some 0)) (λe=>some e))
end fJ
def fJ(B D:Zg):QR:=fJ.W1 B D B (len B) 0
open fJ in
instance MC(B D:Zg):Fc Sy cL (fJ B D):=Fc.M 171 [enc B,enc D] (bZ 9 B (dH 5 (λw=>(bK [Cv 0 B,Cv 1 D,Cv 9 B,Iv 10 (len B),Iv 11 w] [])) (λu=>(0,(bK [Cv 0 B,Cv 1 D] []))) (λu=>(bK [Iv 4 u] [])) (λw=>bt 7 12 (bH 8 λz _=>bZ 10 D (bt 3 19 bg (bH 7 λC _=>bB 8 λG _=>cM 9 28 bg bg))) bg) (λu=>bZ 6 B (bZ 1 D (bt 3 35 bg bg))) (λu=>bg)))
def kE(a0 B:Zg):QR:=(fJ a0 B).bind λu=>some u
instance NV(a0 B:Zg):Fc Sy cL (kE a0 B):=Fc.M 170 [enc a0,enc B] (bB 9 λu _=>bg)
namespace fS
def bn(D G:Zg)(J:Int)(B:Int):a_ (Fw Int Unit Unit):=bl (decide (B<J)) ((idx D B).bind λu=>(idx G B).bind λw=>bl (u==w) (some (.n (wrap .i64 (B+1)))) (some (.r ()))) (some (.x ()))
def W1(B D:Zg)(G J:Int):a_ X':=(bQ (λq:Int=>bn B D G q) J).bind (Fw.elim (λe=>some true) (λe=>some false))
end fS
def fS(B D:Zg):a_ X':=bl ((len B)==(len D)) (fS.W1 B D (len B) 0) (some false)
open fS in
instance PK(B D:Zg):Fc Sy cL (fS B D):=Fc.M 174 [enc B,enc D] (bZ 9 B (bZ 1 D (cM 3 10 (bZ 7 B (dH 5 (λw=>(bK [Cv 0 B,Cv 1 D,Iv 12 (len B),Iv 13 w] [])) (λu=>(0,(bK [] []))) (λu=>(bK [Bv 4 false] [])) (λw=>bt 7 14 (bH 15 λz _=>bH 3 λC _=>cM 4 24 bg bg) bg) (λu=>bg) (λu=>bg))) bg)))
def l8(a0 B:Zg):a_ X':=(fS a0 B).bind λu=>some u
instance N8(a0 B:Zg):Fc Sy cL (l8 a0 B):=Fc.M 173 [enc a0,enc B] (bB 9 λu _=>bg)
namespace eG
def bV(U:Zg)(W:Zb)(Y a G:Int)(J:cD)(D:Zb)(B:Int):a_ (Fw ((Zb)×Int) Zb Empty):=bl (decide (B<G)) ((pZ J U B).bind λw=>bl w (((fu U).bind Sl.whole).bind λu=>(Sl.pP u B).bind λz=>(Sl.get u z).bind λC=>(Sl.pP u B).bind λI=>(Sl.put u I (wrap .i64 (C+1):Int)).bind λL=>(eU D (L:Zg)).bind λO=>some (.n (O,wrap .i64 (B+1)))) (some (.n (D,wrap .i64 (B+1))))) (some (.x D))
def W2(B:Zb)(a:Zg)(J:Zb)(D G U W:Int)(Y:cD):a_ (Fw ((Zb)×Int×Int) Zb Empty):=(bQ (λq:(Zb)×Int=>bV a J D G U Y q.1 q.2) (B,W)).bind (Fw.elim (λe=>some (.n (e,D,wrap .i64 (G+1)))) (λe=>elim e))
def bn(G:Zb)(U:cD)(B:Zb)(J D:Int):a_ (Fw ((Zb)×Int×Int) Zb Empty):=bl (decide (D<J)) ((idx G D).bind λu=>W2 B u G J D (len u) 0 U) (some (.x B))
def W1(B D:Zb)(G J:Int)(U:cD):a_ Zb:=(bQ (λq:(Zb)×Int×Int=>bn D U q.1 q.2.1 q.2.2) (B,G,J)).bind (Fw.elim (λe=>(zN e kE).bind λw=>(yS w l8).bind λu=>some u) (λe=>elim e))
end eG
def eG(D:cD)(B:Zb):a_ Zb:=eG.W1 (Sl.nil:Zb) B (len B) 0 D
open eG in
instance QB(G:cD)(B:Zb):Fc Sy cL (eG G B):=Fc.N 142 [enc G,enc B] (b9 2 2 G (bZ 12 B (fK 6 (λu=>(bK [Pv 2,Ov 5,Cv 10 B,Iv 11 u.2.1,Iv 12 u.2.2] [Xb 2 G,Lb 2005 u.1])) (λI=>(0,(bK [Ov 5] [Lb 2005 I]))) (λu=>bt 8 13 (bH 7 λw _=>bZ 7 w (fK 6 (λC=>(bK [Pv 2,Ov 5,Cv 7 w,Cv 10 B,Iv 11 u.2.1,Iv 12 u.2.2,Iv 17 (len w),Iv 18 C.2] [Xb 2 G,Lb 2005 C.1])) (λJ=>(2,(bK [Pv 2,Ov 5,Cv 10 B,Iv 11 u.2.1,Iv 12 u.2.2] [Xb 2 G,Lb 2005 J]))) (λC=>bt 8 19 (bB 16 λQ _=>bt 2 24 (ZT 4 26 mm w λS _=>tY .i64 7 26 λT _=>Al 0 26 0 1 false (λD=>.int .i64 D) λD _=>tY .i64 1 26 λU _=>JL 0 26 (.int .i64 (wrap .i64 (D+1))) λL _=>ze 6 35 ([L]:aZ Zg) (nS 0 2005 35 36 λW _=>bg)) bg) bg) (λJ=>bg))) bg) (λI=>YI 5 2005 Ib Ci Vu (eD.tK (λz=>inferInstanceAs (Fc Sy cL (kE z.1 z.2))) default (λ_=>rfl) (λ_=>rfl) (λ_=>rfl) (λ_=>rfl)) λX _=>YP 5 2005 42 Ib Ci V7 (eD.tK (λz=>inferInstanceAs (Fc Sy cL (l8 z.1 z.2))) default (λ_=>rfl) (λ_=>rfl) (λ_=>rfl) (λ_=>rfl)) λO _=>bg))))
namespace kK
def bn(J:cD)(B:Zb)(G:Sl Zb)(D:Int):a_ (Fw ((Zb)×(Sl Zb)×Int) (Sl Zb) Unit):=bl (decide ((len B)>0)) (bl (decide ((wrap .i64 (D+(len B)))>5000)) (some (.r ())) ((eU G (B:Zb)).bind λu=>(eG J B).bind λw=>some (.n (w,u,wrap .i64 (D+(len B)))))) (some (.x G))
def W1(B:Zb)(G:Sl Zb)(D:Int)(J:cD):a_ ((Sl Zb)×Int):=(bQ (λq:(Zb)×(Sl Zb)×Int=>bn J q.1 q.2.1 q.2.2) (B,G,D)).bind (Fw.elim (λe=>some (e,0)) (λe=>some ((Sl.nil:Sl Zb),16)))
end kK
def kK(B:Z4):a_ ((Sl Zb)×Int):=(dz B).bind λu=>bl u ((lC B).bind λw=>(xU (len B.procs) (0:Int)).bind λz=>kK.W1 (Sl.row [z]:Zb) (Sl.nil:Sl Zb) 0 w) (some ((Sl.nil:Sl Zb),1))
open kK in
instance Wg(B:Z4):Fc Sy cL (kK B):=Fc.N 98 [enc B] (b9 2 1 B (bB 8 λD _=>cM 3 10 (bB 6 λz _=>oN 1 4 0 z (bZ 6 B.procs (Xc 0 16 λC _=>ze 1 17 ([C]:aZ Zg) (dH 18 (λu=>(bK [Pv 4,Cv 5 u.1,Ov 6,Iv 7 u.2.2] [Xb 4 z,Lb 2006 u.2.1])) (λw=>(0,(bK [Ov 6] [Lb 2006 w]))) (λw=>(bK [Ov 2,Iv 3 16] [Lb 2002 (Sl.nil:Sl Zb)])) (λu=>bZ 7 u.1 (bt 3 20 (bZ 10 u.1 (bt 10 29 bg (ze 6 32 ([u.1]:aZ Zb) (nS 0 2006 32 33 λG _=>bB 7 λI _=>bg)))) bg)) (λw=>bg) (λw=>bg))))) bg))
def gC(s:Sl Zb):a_ Zb:=if s.l.length<=2147483648/\(s.l.flatMap Sl.l).length<=2147483648 then some (Dm s)else none
instance NA(s:Sl Zb):Fc Sy cL (gC s):=Fc.of (A:=λz:Sl Zb=>[enc z]) (E:=λr:Zb=>[enc r]) (p:=gC) (n:=99) (z:=s) (eD.WZ Zae Zae (λz r h=>by
 unfold gC at h;split at h
 next a=>cases h;exact BH (Vq (E:=Sy.E) (N:=λn=>n) (gid:=143) (nm:=some) (λ_ _ h=>(Option.some.inj h).symm) rfl Zae Zae (DV Zae) (DV Zae) rfl z a.1 a.2)
 cases h))
def tB(B:Z4):a_ ((Zb)×Int):=(kK B).bind λu=>(gC u.1).bind λw=>some (w,u.2)
instance Ye(B:Z4):Fc Sy cL (tB B):=Fc.N 64 [enc B] (b9 2 1 B (bB 7 λu _=>bB 10 λw _=>bg))
def tN(B:Z4):a_ ((Zb)×Int):=(tB B).bind λu=>some (u.1,u.2)
instance Yf(B:Z4):Fc Sy cL (tN B):=Fc.N 34 [enc B] (b9 2 1 B (bB 7 λu _=>bg))
def kV(B:Zg)(D:Z4):a_ X':=some (!((len B)==(len D.procs)))
instance Vi(B:Zg)(D:Z4):Fc Sy cL (kV B D):=Fc.M 195 [enc B,.fptr (cells D)] (bZ 8 B (bZ 2 D.procs bg))
namespace hG
def bn(s0:Zb)(D:Int)(B:Int)(p1:(Zg)->a_ X'):a_ (Fw Int Unit Int):=bl (decide (B<D)) ((idx s0 B).bind λu=>(p1 u).bind λw=>bl w (some (.r B)) (some (.n (wrap .i64 (B+1))))) (some (.x ()))
def W1(s0:Zb)(B D:Int)(p1:(Zg)->a_ X'):QR:=(bQ (λq:Int=>bn s0 B q p1) D).bind (Fw.elim (λe=>some (-1)) (λe=>some e))
end hG
def hG(s0:Zb)(p1:(Zg)->a_ X'):QR:=hG.W1 s0 (len s0) 0 p1
open hG in
abbrev xY(g1:FuncId)(e1:aZ V)(p1:(Sl Int)->a_ Bool)(a:nq Sy cL g1 [] e1 (λz:Sl Int=>[enc z]) (λr:Bool=>[.bool r]) p1 true)(s0:Sl (Sl Int)):Fc Sy cL (hG s0 p1):=Fc.M 213 [enc s0,.clo g1 [] e1] (bZ 9 s0 (dH 5 (λw=>(bK [Cv 0 s0,(1,.v (.clo g1 [] e1)),Iv 7 (len s0),Iv 8 w] [])) (λu=>(0,(bK [] []))) (λu=>(bK [Iv 4 u] [])) (λw=>bt 7 9 (bH 16 λB _=>Ab 1 a.f B λC _=>bt 2 16 bg bg) bg) (λu=>bg) (λu=>bg)))
def kO(s0:Zb)(p1:(Zg)->a_ X'):a_ X':=(hG s0 p1).bind λu=>some (decide (u>=0))
abbrev wk(g1:FuncId)(e1:aZ V)(p1:(Sl Int)->a_ Bool)(a:nq Sy cL g1 [] e1 (λz:Sl Int=>[enc z]) (λr:Bool=>[.bool r]) p1 true)(s0:Sl (Sl Int)):Fc Sy cL (kO s0 p1):=Fc.M 194 [enc s0,.clo g1 [] e1] (bB (F:=xY g1 e1 p1 a s0) 9 λu _=>bg)
def yd(D:Z4)(G:Zb):a_ X':=(dz D).bind λu=>(bl u ((kO G (λz=>kV z D)).bind λw=>some (!w)) (some false):a_ X').bind λB=>some B
instance Yg(B:Z4)(D:Zb):Fc Sy cL (yd B D):=Fc.M 175 [enc B,enc D] (b9 2 2 B (bB 6 λu _=>bN 1 5 [1,2,7] 12 (bt 1 7 (cr (F:=wk 195 [.fptr (cells B)] (λz=>kV z B) nq.tK D) 2 λw _=>bu 2) (bu 5)) λC=>bg))
namespace kM
def bn(G:Zg)(J:Int)(D:Z4)(B:Int):a_ (Fw Int Unit Unit):=bl (decide (B<J)) ((idx G B).bind λu=>(bl (decide (u<0)) (some true) ((idx D.procs B).bind λw=>some (decide (u>(len w.events)))):a_ X').bind λz=>bl z (some (.r ())) (some (.n (wrap .i64 (B+1))))) (some (.x ()))
def W1(D:Zg)(G J:Int)(B:Z4):a_ X':=(bQ (λq:Int=>bn D G B q) J).bind (Fw.elim (λe=>some true) (λe=>some false))
end kM
def kM(D:Z4)(B:Zg):a_ X':=kM.W1 B (len B) 0 D
open kM in
instance We(D:Z4)(B:Zg):Fc Sy cL (kM D B):=Fc.M 176 [enc D,enc B] (b9 2 2 D (bZ 7 B (dH 5 (λw=>(bK [Pv 2,Cv 7 B,Iv 8 (len B),Iv 9 w] [Xb 2 D])) (λu=>(0,(bK [] []))) (λu=>(bK [Bv 4 false] [])) (λw=>bt 7 10 (bH 8 λC _=>bN 10 10 [5,6,16] 26 (bt 10 16 (bu 10) (bH 4 λz _=>bZ 2 z.events (bu 2))) λG=>bt 2 26 bg bg) bg) (λu=>bg) (λu=>bg))))
def vj(B:Z4)(p1:Int):a_ X':=(bl (decide (p1>=0)) (some (decide (p1<(len B.procs)))) (some false):a_ X').bind λu=>some u
instance Wx(B:Z4)(p1:Int):Fc Sy cL (vj B p1):=Fc.M 177 [enc B,.int .i64 p1] (b9 2 2 B (bN 8 6 [1,2,7] 13 (bt 8 7 (bZ 3 B.procs (bu 2)) (bu 6)) λu=>bg))
namespace iO
def bV(Y:Zg)(p7:Int)(a:Zg)(b c:Int)(J:Sl WF)(U:Int)(W:Z4)(G D:bf)(B:Int):a_ (Fw Int Unit (bf×bf)):=bl (decide (B<U)) ((idx J B).bind λw=>bl (w.kind==3) ((qS W w.message).bind λu=>(idx Y u.1.proc).bind λz=>bl (decide (u.1.index>z)) (some (.r (u.1,(⟨p7,wrap .i64 (B+1)⟩:bf)))) (some (.n (wrap .i64 (B+1))))) (some (.n (wrap .i64 (B+1))))) (some (.x ()))
def W2(a:Zg)(p7:Int)(J:Zg)(U G:Int)(W:Sl WF)(Y b:Int)(c:Z4)(D B:bf):a_ (Fw Int Unit (bf×bf)):=(bQ (λq:Int=>bV a p7 J U G W Y c D B q) b).bind (Fw.elim (λe=>some (.n (wrap .i64 (G+1)))) (λe=>some (.r (e.1,e.2))))
def bn(Y J:Zg)(U:Int)(W:Z4)(G B:bf)(D:Int):a_ (Fw Int Unit (bf×bf)):=bl (decide (D<U)) ((idx J D).bind λw=>(idx W.procs D).bind λz=>(h_ z.events none (some w)).bind λu=>W2 Y D J U D u (len u) 0 W G B) (some (.x ()))
def W1(Y G:Zg)(J U:Int)(W:Z4)(D B:bf):a_ (bf×bf×X'):=(bQ (λq:Int=>bn Y G J W D B q) U).bind (Fw.elim (λe=>some (⟨0,0⟩,⟨0,0⟩,false)) (λe=>some (e.1,e.2,true)))
end iO
def iO(D:Z4)(B:Zg):a_ (bf×bf×X'):=iO.W1 B B (len B) 0 D (⟨0,0⟩:bf) (⟨0,0⟩:bf)
open iO in
instance Ww(D:Z4)(B:Zg):Fc Sy cL (iO D B):=Fc.M 196 [enc D,enc B] (b9 2 2 D (bZ 9 B (dH 5 (λu=>(bK [Cv 1 B,Pv 2,Pv 4,Pv 5,Cv 13 B,Iv 14 (len B),Iv 15 u] [Xb 2 D,Xb 4 (⟨0,0⟩:bf),Xb 5 (⟨0,0⟩:bf)])) (λw=>(0,(bK [Pv 4,Pv 5] [Xb 4 (⟨0,0⟩:bf),Xb 5 (⟨0,0⟩:bf)]))) (λw=>(bK [Pv 4,Pv 5,Bv 6 true] [Xb 4 w.1,Xb 5 w.2])) (λu=>bt 7 16 (bH 8 λI _=>bH 10 λL _=>DU 3 false true [.int .i64 I] λC _=>bZ 0 C (dH 5 (λG=>(bK [Cv 1 B,Pv 2,Pv 4,Pv 5,Iv 7 u,Cv 13 B,Iv 14 (len B),Iv 15 u,Cv 27 C,Iv 28 (len C),Iv 29 G] [Xb 2 D,Xb 4 (⟨0,0⟩:bf),Xb 5 (⟨0,0⟩:bf)])) (λz=>(2,(bK [Cv 1 B,Pv 2,Pv 4,Pv 5,Cv 13 B,Iv 14 (len B),Iv 15 u] [Xb 2 D,Xb 4 (⟨0,0⟩:bf),Xb 5 (⟨0,0⟩:bf)]))) (λz=>(bK [Pv 4,Pv 5,Bv 6 true] [Xb 4 z.1,Xb 5 z.2])) (λG=>bt 7 30 (bH 8 λJ _=>oN 3 10 0 J (cM 10 36 (bB 8 λO _=>bH 15 λQ _=>bt 4 51 bg bg) bg)) bg) (λz=>bg) (λz=>bg))) bg) (λw=>bg) (λw=>bg))))
def wQ(B:Z4)(D:Zg):a_ X':=(iO B D).bind λu=>some (!u.2.2)
instance WV(B:Z4)(D:Zg):Fc Sy cL (wQ B D):=Fc.M 178 [enc B,enc D] (b9 2 2 B (bB 7 λu _=>bg))
namespace dF
def eX(D:Zb)(G:Int)(J:Z4)(B:Int):a_ (Fw Int Unit Unit):=bl (decide (B<G)) ((idx D B).bind λu=>(wQ J u).bind λw=>bl w (some (.n (wrap .i64 (B+1)))) (some (.r ()))) (some (.x ()))
def W3(B:Zb)(D G:Int)(J:Z4):QR:=(bQ (λq:Int=>eX B D J q) G).bind (Fw.elim (λe=>some 0) (λe=>some 18))
def bV(U:Zb)(D:Zg)(G:Int)(J:Z4)(B:Int):a_ (Fw Int Unit Unit):=bl (decide (B<G)) ((idx D B).bind λu=>(vj J u).bind λw=>bl w (some (.n (wrap .i64 (B+1)))) (some (.r ()))) (some (.x ()))
def W2(D:Zb)(G:Zg)(J U:Int)(B:Z4):QR:=(bQ (λq:Int=>bV D G J B q) U).bind (Fw.elim (λe=>dF.W3 D (len D) 0 B) (λe=>some 2))
def bn(W:Zb)(D:Zg)(G:Zb)(J:Int)(U:Z4)(B:Int):a_ (Fw Int Unit Unit):=bl (decide (B<J)) ((idx G B).bind λu=>(kM U u).bind λw=>bl w (some (.n (wrap .i64 (B+1)))) (some (.r ()))) (some (.x ()))
def W1(W:Zb)(B:Zg)(G:Zb)(J U:Int)(D:Z4):QR:=(bQ (λq:Int=>bn W B G J D q) U).bind (Fw.elim (λe=>dF.W2 W B (len B) 0 D) (λe=>some 2))
end dF
def dF(G:Z4)(D:Zb)(B:Zg):QR:=(yd G D).bind λu=>bl u (dF.W1 D B D (len D) 0 G) (some 1)
open dF in
instance Ya(G:Z4)(D:Zb)(B:Zg):Fc Sy cL (dF G D B):=Fc.M 144 [enc G,enc D,enc B] (b9 2 3 G (bB 8 λL _=>cM 3 16 (bZ 7 D (dH 5 (λC=>(bK [Cv 1 D,Cv 2 B,Pv 3,Cv 17 D,Iv 18 (len D),Iv 19 C] [Xb 3 G])) (λu=>(0,(bK [Cv 1 D,Cv 2 B,Pv 3] [Xb 3 G]))) (λu=>(bK [Iv 6 2] [])) (λC=>bt 7 20 (bH 7 λO _=>bB 8 λQ _=>cM 3 26 bg bg) bg) (λu=>bZ 6 B (dH 5 (λI=>(bK [Cv 1 D,Pv 3,Cv 28 B,Iv 29 (len B),Iv 30 I] [Xb 3 G])) (λw=>(2,(bK [Cv 1 D,Pv 3] [Xb 3 G]))) (λw=>(bK [Iv 6 2] [])) (λI=>bt 7 31 (bH 7 λS _=>bB 8 λT _=>cM 3 37 bg bg) bg) (λw=>bZ 6 D (dH 5 (λJ=>(bK [Pv 3,Cv 39 D,Iv 40 (len D),Iv 41 J] [Xb 3 G])) (λz=>(4,(bK [] []))) (λz=>(bK [Iv 6 18] [])) (λJ=>bt 7 42 (bH 7 λU _=>bB 8 λW _=>cM 3 48 bg bg) bg) (λz=>bg) (λz=>bg))) (λw=>bg))) (λu=>bg))) bg))
namespace j9
def bn(G:Zg)(J:Int)(B:Sl bf)(D:Int):a_ (Fw ((Sl bf)×Int) (Sl bf) Empty):=bl (decide (D<J)) ((idx G D).bind λu=>bl (decide (u>0)) ((eU B (⟨D,u⟩:bf)).bind λw=>some (.n (w,wrap .i64 (D+1)))) (some (.n (B,wrap .i64 (D+1))))) (some (.x B))
def W1(B:Sl bf)(D:Zg)(G J:Int):a_ ((Sl bf)×Int):=(bQ (λq:(Sl bf)×Int=>bn D G q.1 q.2) (B,J)).bind (Fw.elim (λe=>some (e,0)) (λe=>elim e))
end j9
def j9(D:Z4)(B:Zg):a_ ((Sl bf)×Int):=(dF D (Sl.row [B]:Zb) (Sl.nil:Zg)).bind λu=>bl (u==0) (j9.W1 (Sl.nil:Sl bf) B (len B) 0) (some (Sl.nil,u))
open j9 in
instance VY(D:Z4)(B:Zg):Fc Sy cL (j9 D B):=Fc.N 100 [enc D,enc B] (b9 2 2 D (ze 9 12 ([B]:aZ Zg) (cr 0 λz _=>cM 9 15 (bZ 12 B (fK 6 (λu=>(bK [Ov 7,Cv 17 B,Iv 18 (len B),Iv 19 u.2] [Lb 2007 u.1])) (λw=>(0,(bK [Ov 7] [Lb 2007 w]))) (λu=>bt 8 20 (bH 8 λC _=>bt 11 25 (nS 7 2007 30 31 λG _=>bg) bg) bg) (λw=>bg))) bg)))
namespace gu
def kD(B:bX)(D:Int)(x:Int×(Zg))(G:Zg):a_ (Fw Zg Empty Zg):=bl (x.1==D) (some (.r x.2)) (some (.n (Sl.nil:Zg)))
def E1(B:bX)(D:Int)(G:Zg):a_ Zg:=(j7 B).bind λu=>(lJ (λ(x:Int×(Zg))(q:Zg)=>kD B D x q) u G).bind (Fw.rQ (λq=>some Sl.nil) (λe=>elim e) (λe=>some e))
end gu
def gu(B:bX)(k1:Int):a_ Zg:=(ox B).bind λu=>gu.E1 u k1 (Sl.nil:Zg)
open gu in
instance Rl(D:bX)(k1:Int):Fc Sy cL (gu D k1):=Fc.N 101 [enc D,.int .i64 k1] (b9 2 2 D (bB 8 λw _=>Gc λC z=>B9 4 [Pv 3,Pv 4,(8,.v (.clo 179 [] [.fptr (cells w)]))] (λB=>[(3,.box [iv k1]),(4,.box [.v .bR])]) (λu=>elim u) (λu=>[(3,.box [iv k1]),(4,.box [cv u])]) (GB w C z) (λG B=>zB 8 (bt 9 13 (oN 4 4 0 G.2 bg) bg)) (λB=>bg) (λx=>elim x) (λu=>bg)))
namespace js
def bn(G:Zg)(J:Int)(U:Z4)(D:Zb)(B:Int):a_ (Fw ((Zb)×Int) Zb Empty):=bl (decide (B<J)) ((idx G B).bind λu=>(idx U.procs B).bind λw=>(gu w u).bind λz=>(eU D (z:Zg)).bind λC=>some (.n (C,wrap .i64 (B+1)))) (some (.x D))
def W1(B:Zb)(D:Zg)(G J:Int)(U:Z4):a_ ((Zb)×Int):=(bQ (λq:(Zb)×Int=>bn D G U q.1 q.2) (B,J)).bind (Fw.elim (λe=>some (e,0)) (λe=>elim e))
end js
def js(D:Z4)(B:Zg):a_ ((Zb)×Int):=(j9 D B).bind λu=>bl (u.2==0) (js.W1 (Sl.nil:Zb) B (len B) 0 D) (some (Sl.nil,u.2))
open js in
instance Wh(D:Z4)(B:Zg):Fc Sy cL (js D B):=Fc.N 68 [enc D,enc B] (b9 2 2 D (bB 9 λC _=>cM 13 18 (bZ 12 B (fK 6 (λu=>(bK [Pv 2,Ov 8,Cv 20 B,Iv 21 (len B),Iv 22 u.2] [Xb 2 D,Lb 2008 u.1])) (λw=>(0,(bK [Ov 8] [Lb 2008 w]))) (λu=>bt 8 23 (bH 8 λG _=>bH 10 λI _=>bB 2 λz _=>ze 0 35 ([z]:aZ Zg) (nS 0 2008 35 36 λJ _=>bg)) bg) (λw=>bg))) bg))
def kH(B:Var)(D:Pred):a_ X':=some (toList B.name==toList D.name)
instance Gj(B:Var)(D:Pred):Fc Sy cL (kH B D):=Fc.M 107 [enc B,.fptr (cells D)] (bg)
def oH(D:cq)(p1:Pred):QR:=(idx D.t.procs p1.proc).bind λu=>(fI u.vars (λz=>kH z p1)).bind λw=>(idx D.values p1.proc).bind λB=>(idx B w).bind λC=>some C
instance IP(B:cq)(p1:Pred):Fc Sy cL (oH B p1):=Fc.M 71 [enc B,enc p1] (b9 2 2 B (b9 0 3 p1 (bH 10 λu _=>cr (F:=oA 107 [.fptr (cells p1)] (λz=>kH z p1) nq.tK u.vars) 3 λw _=>bH 9 λC _=>bH 2 λD _=>bg)))
def uU(B:Z4)(m1:Int):a_ (bf×X'):=(jb B 3 m1).bind λu=>some (u.1,u.2)
instance SZ(B:Z4)(m1:Int):Fc Sy cL (uU B m1):=Fc.M 147 [enc B,.int .i64 m1] (b9 2 2 B (bB 8 λu _=>bg))
namespace ji
def bn(W:Zg)(Y:Int)(J:Sl WF)(U:Z4)(B:Zg)(G D:Int):a_ (Fw ((Zg)×Int×Int) Zg Empty):=bl (decide (D<G)) ((idx J D).bind λu=>(bl (u.kind==2) (some (!(u.peer==Y))) (some true):a_ X').bind λC=>bl C (some (.n (B,G,wrap .i64 (D+1)))) ((uU U u.message).bind λw=>(bl w.2 ((idx W w.1.proc).bind λI=>some (decide (w.1.index>I))) (some true):a_ X').bind λL=>bl L ((eU B (u.message:Int)).bind λz=>some (.n (z,G,wrap .i64 (D+1)))) (some (.n (B,G,wrap .i64 (D+1)))))) (some (.x B))
def W1(W:Zg)(Y:Int)(B:Zg)(D:Sl WF)(G J:Int)(U:Z4):a_ ((Zg)×Int):=(bQ (λq:(Zg)×Int×Int=>bn W Y D U q.1 q.2.1 q.2.2) (B,G,J)).bind (Fw.elim (λe=>some (e,0)) (λe=>elim e))
end ji
def ji(B:Z4)(D:Zg)(p2 G:Int):a_ ((Zg)×Int):=(dF B (Sl.row [D]:Zb) (Sl.row [p2,G]:Zg)).bind λu=>bl (u==0) ((idx B.procs p2).bind λz=>(idx D p2).bind λC=>(h_ z.events none (some C)).bind λw=>ji.W1 D G (Sl.nil:Zg) w (len w) 0 B) (some (Sl.nil,u))
open ji in
instance V0(B:Z4)(D:Zg)(p2 G:Int):Fc Sy cL (ji B D p2 G):=Fc.N 108 [enc B,enc D,.int .i64 p2,.int .i64 G] (b9 2 4 B (ze 9 18 ([D]:aZ Zg) (cr 3 λL _=>cM 9 24 (bH 14 λO _=>bH 4 λC _=>DU 1 false true [.int .i64 C] λw _=>bZ 0 w (fK 6 (λu=>(bK [Cv 1 D,Iv 3 G,Pv 4,Ov 11,Cv 36 w,Iv 37 u.2.1,Iv 38 u.2.2] [Xb 4 B,Lb 2011 u.1])) (λz=>(0,(bK [Ov 11] [Lb 2011 z]))) (λu=>bt 8 39 (bH 7 λI _=>oN 2 13 0 I (bN 9 5 [45] 50 (cM 9 45 (bu 5) (bu 5)) λQ=>bt 2 50 bg (bB 8 λS _=>bN 13 9 [14,60] 69 (cM 13 60 (bH 5 λT _=>bu 3) (bu 9)) λU=>bt 2 69 (nS 6 2011 73 74 λJ _=>bg) bg))) bg) (λz=>bg))) bg)))
def pH(B:cq)(p1:Pred):QR:=(ji B.t B.counts p1.proc p1.peer).bind λu=>some (len u.1)
instance KF(B:cq)(p1:Pred):Fc Sy cL (pH B p1):=Fc.M 72 [enc B,enc p1] (b9 2 2 B (b9 0 3 p1 (bB 13 λu _=>bZ 10 u.1 bg)))
def eP(B:cq)(p1:Pred)(r:(cq×Pred)->QR):QR:=bl (p1.kind==1) (some p1.n) (bl (p1.kind==2) ((oH B p1).bind λL=>some L) (bl (p1.kind==3) ((idx B.counts p1.proc).bind λO=>some O) (bl (p1.kind==4) ((pH B p1).bind λQ=>some Q) (bl (p1.kind==5) ((idx p1.l 0).bind λS=>(r (B,S)).bind λT=>some (wrap .i64 (0-T))) (bl (p1.kind==6) ((idx p1.l 0).bind λU=>(r (B,U)).bind λW=>(idx p1.l 1).bind λX=>(r (B,X)).bind λY=>some (wrap .i64 (W+Y))) (bl (p1.kind==7) ((idx p1.l 0).bind λu=>(r (B,u)).bind λw=>(idx p1.l 1).bind λz=>(r (B,z)).bind λC=>some (wrap .i64 (w-C))) ((idx p1.l 0).bind λD=>(r (B,D)).bind λG=>(idx p1.l 1).bind λI=>(r (B,I)).bind λJ=>some (wrap .i64 (G*J)))))))))
theorem wT(r:(cq×Pred)->QR)(a:eD Sy cL 46 (λz:cq×Pred=>[enc z.1,enc z.2]) (λr:Int=>[.int .i64 r]) r true)(B:cq)(p1:Pred):Le ((eP B p1 r).bind λr=>some [.int .i64 r]) (gN cL 46 [enc B,enc p1]):=(Fc.M 46 [enc B,enc p1] (b9 2 2 B (b9 0 3 p1 (bt 17 7 bg (bt 7 11 (bB 5 λT _=>bg) (bt 7 16 (bH 7 λU _=>bg) (bt 7 24 (bB 5 λW _=>bg) (bt 7 29 (dG 6 33 (Pred.eE p1.l) (bH 0 λG _=>cr (F:=Fc.of (B,G) a) 1 λX _=>bg)) (bt 7 38 (dG 6 42 (Pred.eE p1.l) (bH 0 λI _=>cr (F:=Fc.of (B,I) a) 1 λY _=>dG 3 48 (Pred.eE p1.l) (bH 0 λJ _=>cr (F:=Fc.of (B,J) a) 1 λZ _=>bg))) (bt 7 53 (dG 6 57 (Pred.eE p1.l) (bH 0 λu _=>cr (F:=Fc.of (B,u) a) 1 λL _=>dG 3 63 (Pred.eE p1.l) (bH 0 λw _=>cr (F:=Fc.of (B,w) a) 1 λO _=>bg))) (dG 9 70 (Pred.eE p1.l) (bH 0 λC _=>cr (F:=Fc.of (B,C) a) 1 λQ _=>dG 3 76 (Pred.eE p1.l) (bH 0 λD _=>cr (F:=Fc.of (B,D) a) 1 λS _=>bg)))))))))))):Fc Sy cL (eP B p1 r)).F.h ()
def eS(B:cq)(p1:Pred):QR:=dA (λr(z:cq×Pred)=>eP z.1 z.2 r) 100000 (B,p1)
instance Li(B:cq)(p1:Pred):Fc Sy cL (eS B p1):=Fc.of (B,p1) (eD.fix (A:=λz:cq×Pred=>[enc z.1,enc z.2]) (E:=λr:Int=>[.int .i64 r]) (sc:=true) (b:=(λr(z:cq×Pred)=>eP z.1 z.2 r)) Zae (λ_ _=>rfl) (λr a z=>wT r a z.1 z.2) 100000)
namespace fZ
def J1(W:Int)(U:X')(D:cq)(B:Pred)(r:(cq×Pred)->a_ X'):a_ X':=bl U (some (B.kind==13)) (bl (W==15) ((idx B.l 0).bind λu=>(r (D,u)).bind λw=>some (!w)) (bl (W==16) ((idx B.l 0).bind λz=>(r (D,z)).bind λC=>(bl C ((idx B.l 1).bind λG=>(r (D,G)).bind λI=>some I) (some false):a_ X').bind λJ=>some J) ((idx B.l 0).bind λL=>(r (D,L)).bind λO=>(bl O (some true) ((idx B.l 1).bind λQ=>(r (D,Q)).bind λS=>some S):a_ X').bind λT=>some T)))
theorem kU(r:(cq×Pred)->a_ X')(a:eD Sy cL 47 (λz:cq×Pred=>[enc z.1,enc z.2]) (λr:X'=>[.bool r]) r true)(U:Int)(G:X')(B:cq)(D:Pred):Le ((J1 U G B D r).bind (λr=>some [.bool r])) (cz Sy cL (oJ (tr Tx 47)) (pT (tb Tx 47) [1,0,1,0,1,1,1,1,1,1,1,1,1,0] [] (bK [Pv 2,Pv 3,Iv 6 U,Bv 67 G] [Xb 2 B,Xb 3 D]))):=bt 0 67 bg (bt 7 73 (dG 6 77 (Pred.eE D.l) (bH 0 λC _=>cr (F:=Fc.of (B,C) a) 1 λQ _=>bg)) (bt 7 82 (dG 6 86 (Pred.eE D.l) (bH 0 λI _=>cr (F:=Fc.of (B,I) a) 1 λS _=>Aj 1 7 [96,89] (λu=>(bK [Bv 67 false,Bv 73 false,Bv 82 true,Bv 97 u] [Xb 2 B,Xb 3 D])) (bt 1 90 (dG 3 93 (Pred.eE D.l) (bH 0 λJ _=>cr (F:=Fc.of (B,J) a) 1 λT _=>bu 1)) (bu 7)) λu=>bg)) (dG 9 100 (Pred.eE D.l) (bH 0 λL _=>cr (F:=Fc.of (B,L) a) 1 λW _=>Aj 1 7 [110,103] (λw=>(bK [Bv 67 false,Bv 73 false,Bv 82 false,Bv 111 w] [Xb 2 B,Xb 3 D])) (bt 1 104 (bu 7) (dG 3 107 (Pred.eE D.l) (bH 0 λO _=>cr (F:=Fc.of (B,O) a) 1 λX _=>bu 1))) λw=>bg))))
end fZ
def fe(B:cq)(p1:Pred)(r:(cq×Pred)->a_ X'):a_ X':=bl (p1.kind==9) ((idx p1.l 0).bind λJ=>(eS B J).bind λL=>(idx p1.l 1).bind λO=>(eS B O).bind λQ=>some (L==Q)) (bl (p1.kind==10) ((idx p1.l 0).bind λS=>(eS B S).bind λT=>(idx p1.l 1).bind λU=>(eS B U).bind λW=>some (!(T==W))) (bl (p1.kind==11) ((idx p1.l 0).bind λX=>(eS B X).bind λu=>(idx p1.l 1).bind λw=>(eS B w).bind λz=>some (decide (u<z))) (bl (p1.kind==12) ((idx p1.l 0).bind λC=>(eS B C).bind λD=>(idx p1.l 1).bind λG=>(eS B G).bind λI=>some (decide (D<=I))) (bl (p1.kind==13) (fZ.J1 p1.kind true B p1 r) (fZ.J1 p1.kind (p1.kind==14) B p1 r)))))
open fZ in
theorem xw(r:(cq×Pred)->a_ X')(a:eD Sy cL 47 (λz:cq×Pred=>[enc z.1,enc z.2]) (λr:X'=>[.bool r]) r true)(B:cq)(p1:Pred):Le ((fe B p1 r).bind λr=>some [.bool r]) (gN cL 47 [enc B,enc p1]):=(Fc.M 47 [enc B,enc p1] (b9 2 2 B (b9 0 3 p1 (bt 17 7 (dG 6 11 (Pred.eE p1.l) (bH 0 λL _=>cr 1 λO _=>dG 3 17 (Pred.eE p1.l) (bH 0 λQ _=>cr 1 λS _=>bg))) (bt 7 22 (dG 6 26 (Pred.eE p1.l) (bH 0 λT _=>cr 1 λU _=>dG 3 32 (Pred.eE p1.l) (bH 0 λW _=>cr 1 λX _=>bg))) (bt 7 37 (dG 6 41 (Pred.eE p1.l) (bH 0 λY _=>cr 1 λu _=>dG 3 47 (Pred.eE p1.l) (bH 0 λw _=>cr 1 λC _=>bg))) (bt 7 52 (dG 6 56 (Pred.eE p1.l) (bH 0 λD _=>cr 1 λG _=>dG 3 62 (Pred.eE p1.l) (bH 0 λI _=>cr 1 λJ _=>bg))) (bt 8 67 (mh 4 (kU r a p1.kind true B p1)) (mh 7 (kU r a p1.kind (p1.kind==14) B p1))))))))):Fc Sy cL (fe B p1 r)).F.h ()
def fZ(B:cq)(p1:Pred):a_ X':=dA (λr(z:cq×Pred)=>fe z.1 z.2 r) 100000 (B,p1)
instance LA(B:cq)(p1:Pred):Fc Sy cL (fZ B p1):=Fc.of (B,p1) (eD.fix (A:=λz:cq×Pred=>[enc z.1,enc z.2]) (E:=λr:X'=>[.bool r]) (sc:=true) (b:=(λr(z:cq×Pred)=>fe z.1 z.2 r)) Zae (λ_ _=>rfl) (λr a z=>xw r a z.1 z.2) 100000)
namespace ij
def bn(Y J:Zb)(U:Int)(G:Z4)(W:Pred)(B:Sl X')(D:Int):a_ (Fw ((Sl X')×Int) (Sl X') ((Zb)×(Sl X')×Int)):=bl (decide (D<U)) ((idx J D).bind λw=>(js G w).bind λu=>bl (u.2==0) ((fZ (⟨G,w,u.1⟩:cq) W).bind λz=>(eU B (z:X')).bind λC=>some (.n (C,wrap .i64 (D+1)))) (some (.r ((Sl.nil:Zb),(Sl.nil:Sl X'),u.2)))) (some (.x B))
def W1(Y:Zb)(B:Sl X')(D:Zb)(G J:Int)(U:Z4)(W:Pred):a_ ((Zb)×(Sl X')×Int):=(bQ (λq:(Sl X')×Int=>bn Y D G U W q.1 q.2) (B,J)).bind (Fw.elim (λe=>some (Y,e,0)) (λe=>some (e.1,e.2.1,e.2.2)))
end ij
def ij(B:Z4)(p1:Pred):a_ ((Zb)×(Sl X')×Int):=(rV B p1).bind λw=>bl (w==0) ((uZ p1 2).bind λz=>bl (z==0) ((oW p1).bind λC=>bl C (some (Sl.nil,(Sl.nil:Sl X'),15)) ((tN B).bind λu=>bl (u.2==0) (ij.W1 u.1 (Sl.nil:Sl X') u.1 (len u.1) 0 B p1) (some (Sl.nil,(Sl.nil:Sl X'),u.2)))) (some (Sl.nil,(Sl.nil:Sl X'),z))) (some (Sl.nil,(Sl.nil:Sl X'),w))
open ij in
instance US(B:Z4)(p1:Pred):Fc Sy cL (ij B p1):=Fc.N 60 [enc B,enc p1] (b9 2 2 B (b9 0 3 p1 (bB 10 λG _=>cM 9 20 (bB 7 λI _=>cM 9 25 (bB 7 λJ _=>bt 2 28 bg (bB 6 λw _=>cM 14 35 (bZ 12 w.1 (dH 6 (λz=>(bK [Pv 2,Pv 3,Cv 9 w.1,Ov 11,Cv 37 w.1,Iv 38 (len w.1),Iv 39 z.2] [Xb 2 B,Xb 3 p1,Lb 2011 z.1])) (λu=>(0,(bK [Cv 9 w.1,Ov 11] [Lb 2011 u]))) (λu=>(bK [Cv 4 u.1,Ov 5,Iv 6 u.2.2] [Lb 2005 u.2.1])) (λz=>bt 8 40 (bH 7 λC _=>bB 8 λD _=>cM 14 50 (ZQ 8 (⟨B,C,D.1⟩:cq) [enc B,enc C,enc D.1] [.bR,.bR,.bR] [(0,1),(1,1),(2,1)] (by simp only[Mz,Pp,oe,Xo,UR,Xi,XW];rfl) rfl (bB 1 λL _=>nS 1 2011 59 60 λO _=>bg)) bg) bg) (λu=>bg) (λu=>bg))) bg)) bg) bg)))
def uH(B:Z4)(p1:Pred):a_ ((Sl X')×Int):=(ij B p1).bind λu=>some (u.2.1,u.2.2)
instance Rq(B:Z4)(p1:Pred):Fc Sy cL (uH B p1):=Fc.N 27 [enc B,enc p1] (b9 2 2 B (b9 0 3 p1 (bB 8 λu _=>bg)))
namespace fL
def bn(B:Sl X')(J:Zb)(U:Int)(D:Zb)(G:Int):a_ (Fw ((Zb)×Int) Zb Empty):=bl (decide (G<U)) ((idx J G).bind λu=>(idx B G).bind λw=>bl w ((eU D (u:Zg)).bind λz=>some (.n (z,wrap .i64 (G+1)))) (some (.n (D,wrap .i64 (G+1))))) (some (.x D))
def W1(B:Sl X')(D G:Zb)(J U:Int):a_ ((Zb)×Int):=(bQ (λq:(Zb)×Int=>bn B G J q.1 q.2) (D,U)).bind (Fw.elim (λe=>some (e,0)) (λe=>elim e))
end fL
def fL(B:Z4)(p1:Pred):a_ ((Zb)×Int):=(ij B p1).bind λu=>bl (u.2.2==0) (fL.W1 u.2.1 (Sl.nil:Zb) u.1 (len u.1) 0) (some (Sl.nil,u.2.2))
open fL in
instance Q4(B:Z4)(p1:Pred):Fc Sy cL (fL B p1):=Fc.N 28 [enc B,enc p1] (b9 2 2 B (b9 0 3 p1 (bB 8 λu _=>cM 16 20 (bZ 12 u.1 (fK 6 (λw=>(bK [Cv 7 u.2.1,Ov 9,Cv 22 u.1,Iv 23 (len u.1),Iv 24 w.2] [Lb 2009 w.1])) (λz=>(0,(bK [Ov 9] [Lb 2009 z]))) (λw=>bt 8 25 (bH 8 λC _=>bH 9 λD _=>bt 3 32 (ze 4 35 ([C]:aZ Zg) (nS 0 2009 35 36 λG _=>bg)) bg) bg) (λz=>bg))) bg)))
def qb(B:Int):a_ X':=(bl (decide (B>=65)) (some (decide (B<=90))) (some false):a_ X').bind λu=>(bl u (some true) ((bl (decide (B>=97)) (some (decide (B<=122))) (some false):a_ X').bind λw=>some w):a_ X').bind λz=>some z
instance Tw(B:Int):Fc Sy cL (qb B):=Fc.M 151 [.int .u8 B] (bN 10 3 [5] 8 (bt 10 5 (bu 3) (bu 3)) λu=>bN 1 7 [0,9] 16 (bt 1 9 (bu 7) (bN 3 3 [0,12] 15 (bt 3 12 (bu 3) (bu 3)) λw=>bu 1)) λz=>bg)
def ug(B:Int):a_ X':=(bl (decide (B>=48)) (some (decide (B<=57))) (some false):a_ X').bind λu=>some u
instance Uw(B:Int):Fc Sy cL (ug B):=Fc.M 152 [.int .u8 B] (bN 10 3 [0,5] 8 (bt 10 5 (bu 3) (bu 3)) λu=>bg)
namespace iT
def bn(s0:U')(i3:Int):a_ (Fw Int Unit Unit):=bl (decide (i3<((ByteArray.size s0:Nat):Int))) ((lZ s0 i3).bind λz=>(qb z).bind λB=>(bl B (some false) ((lZ s0 i3).bind λC=>(ug C).bind λD=>some (!D)):a_ X').bind λG=>(bl G ((lZ s0 i3).bind λu=>some (!(u==95))) (some false):a_ X').bind λw=>bl w (some (.r ())) (some (.n (wrap .i64 (i3+1))))) (some (.x ()))
def W1(s0:U')(i3:Int):a_ X':=(bQ (λq:Int=>bn s0 q) i3).bind (Fw.elim (λe=>some true) (λe=>some false))
end iT
def iT(s0:U'):a_ X':=(bl (decide (((ByteArray.size s0:Nat):Int)<1)) (some true) (some (decide (((ByteArray.size s0:Nat):Int)>16))):a_ X').bind λu=>(bl u (some true) ((lZ s0 0).bind λw=>(qb w).bind λz=>some (!z)):a_ X').bind λB=>bl B (some false) (iT.W1 s0 1)
open iT in
instance Wf(s0:U'):Fc Sy cL (iT s0):=Fc.M 113 [.str s0] (bN 12 4 [7] 11 (bt 12 7 (bu 4) (bu 4)) λC=>bN 1 5 [12] 17 (bt 1 12 (bu 5) (Ba 1 .i64 λD _=>bB 0 λG _=>bu 2)) λI=>bt 2 17 bg (dH 11 (λw=>(bK [(0,.v (.str s0)),Iv 3 w] [])) (λu=>(0,(bK [] []))) (λu=>(bK [Bv 2 false] [])) (λw=>bt 10 21 (Ba 9 .i64 λJ _=>bB 0 λL _=>bN 2 6 [29] 35 (cM 2 29 (bu 6) (Ba 2 .i64 λO _=>bB 0 λQ _=>bu 2)) λS=>bN 1 5 [36] 41 (bt 1 36 (Ba 2 .i64 λz _=>bu 2) (bu 5)) λB=>bt 2 41 bg bg) bg) (λu=>bg) (λu=>bg)))
def rA(B:Int):a_ X':=(bl (decide (B>=(-1073741824))) (some (decide (B<=1073741824))) (some false):a_ X').bind λu=>some u
instance UY(B:Int):Fc Sy cL (rA B):=Fc.M 114 [.int .i64 B] (bN 10 3 [0,5] 8 (bt 10 5 (bu 3) (bu 3)) λu=>bg)
namespace eA
def eX(G:Int)(B:bX)(D:Int):a_ (Fw Int Unit Unit):=bl (decide (D<G)) ((idx B.vars D).bind λu=>(idx B.vars G).bind λw=>bl (toList u.name==toList w.name) (some (.r ())) (some (.n (wrap .i64 (D+1))))) (some (.x ()))
def W3(D G:Int)(B:bX):a_ (Fw Int Unit Int):=(bQ (λq:Int=>eX D B q) G).bind (Fw.elim (λe=>(idx B.vars D).bind λu=>(rA u.init_).bind λw=>bl w (some (.n (wrap .i64 (D+1)))) (some (.r 2))) (λe=>some (.r 13)))
def bV(B:bX)(D:Int):a_ (Fw Int Unit Int):=bl (decide (D<(len B.vars))) ((idx B.vars D).bind λu=>(iT u.name).bind λw=>bl w (W3 D 0 B) (some (.r 13))) (some (.x ()))
def W2(D:Int)(B:bX):QR:=(bQ (λq:Int=>bV B q) D).bind (Fw.elim (λe=>bl (decide ((len B.events)>64)) (some 5) (some 0)) (λe=>some e))
def bn(p1:Int)(B:Z4)(D:bX)(G:Int):a_ (Fw Int Unit Unit):=bl (decide (G<p1)) ((idx B.procs G).bind λu=>bl (toList u.name==toList D.name) (some (.r ())) (some (.n (wrap .i64 (G+1))))) (some (.x ()))
def W1(p1 G:Int)(D:Z4)(B:bX):QR:=(bQ (λq:Int=>bn p1 D B q) G).bind (Fw.elim (λe=>bl (decide ((len B.vars)>8)) (some 5) (eA.W2 0 B)) (λe=>some 13))
end eA
def eA(B:Z4)(p1:Int):QR:=(idx B.procs p1).bind λu=>(iT u.name).bind λw=>bl w (eA.W1 p1 0 B u) (some 13)
open eA in
instance Wm(J:Z4)(p1:Int):Fc Sy cL (eA J p1):=Fc.M 77 [enc J,.int .i64 p1] (b9 2 2 J (bH 8 λu _=>oN 2 5 0 u (bB 7 λI _=>cM 3 17 (dH 11 (λD=>(bK [Iv 1 p1,Pv 2,Pv 5,Iv 6 D] [Xb 2 J,Xb 5 u])) (λB=>(0,(bK [Pv 5] [Xb 5 u]))) (λB=>(bK [Iv 4 13] [])) (λD=>bt 9 20 (bH 10 λL _=>bt 7 31 bg bg) bg) (λB=>bZ 7 u.vars (bt 3 35 bg (dH 11 (λw=>(bK [Pv 5,Iv 7 w] [Xb 5 u])) (λz=>(2,(bK [Pv 5] [Xb 5 u]))) (λz=>(bK [Iv 4 z] [])) (λw=>bZ 7 u.vars (bt 3 40 (bH 11 λO _=>bB 2 λQ _=>cM 3 50 (dH 11 (λG=>(bK [Pv 5,Iv 7 w,Iv 8 G] [Xb 5 u])) (λC=>(4,(bK [Pv 5,Iv 7 w] [Xb 5 u]))) (λC=>(bK [Iv 4 13] [])) (λG=>bt 9 53 (bH 10 λS _=>bH 5 λT _=>bt 5 68 bg bg) bg) (λC=>bH 7 λU _=>bB 2 λW _=>cM 3 76 bg bg) (λC=>bg)) bg) bg)) (λz=>bZ 7 u.events (bt 3 80 bg bg)) (λz=>bg)))) (λB=>bg)) bg)))
namespace eB
def eX(p1 J:Int)(U:Z4)(D:WF)(G:Assign)(B:Int):a_ (Fw Int Unit Unit):=bl (decide (B<J)) ((idx D.assign B).bind λu=>bl (u.var==G.var) (some (.r ())) (some (.n (wrap .i64 (B+1))))) (some (.x ()))
def W3(p1 U B:Int)(D:Z4)(G:WF)(J:Assign):a_ (Fw Int Unit Int):=(bQ (λq:Int=>eX p1 U D G J q) B).bind (Fw.elim (λe=>some (.n (wrap .i64 (U+1)))) (λe=>some (.r 8)))
def bV(p1:Int)(D:Z4)(B:WF)(J:Int):a_ (Fw Int Unit Int):=bl (decide (J<(len B.assign))) ((idx B.assign J).bind λu=>(bl (decide (u.var<0)) (some true) ((idx D.procs p1).bind λw=>some (decide (u.var>=(len w.vars)))):a_ X').bind λz=>(bl z (some true) ((rA u.value).bind λC=>some (!C)):a_ X').bind λG=>bl G (some (.r 2)) (W3 p1 J 0 D B u)) (some (.x ()))
def W2(p1 G:Int)(B:Z4)(D:WF):QR:=(bQ (λq:Int=>bV p1 B D q) G).bind (Fw.elim (λe=>some 0) (λe=>some e))
def J1(p1 i2:Int)(D:Z4)(B:WF):QR:=(bl (decide (B.time<0)) (some true) (some (decide (B.time>1099511627776))):a_ X').bind λu=>(bl u (some true) ((bl (decide (i2>0)) ((idx D.procs p1).bind λw=>(idx w.events (wrap .i64 (i2-1))).bind λz=>some (decide (B.time<z.time))) (some false):a_ X').bind λC=>some C):a_ X').bind λG=>bl G (some 11) (bl (decide ((len B.assign)>8)) (some 5) (eB.W2 p1 0 D B))
theorem kU(p1 i2:Int)(D:Z4)(B:WF):Le ((J1 p1 i2 D B).bind (λr=>some [.int .i64 r])) (cz Sy cL (oJ (tr Tx 78)) (pT (tb Tx 78) [1,1,1,0] [] (bK [Iv 1 p1,Iv 2 i2,Pv 3,Pv 7] [Xb 3 D,Xb 7 B]))):=bN 7 4 [71] 75 (bt 7 71 (bu 4) (bu 4)) λL=>bN 1 19 [2,76] 95 (bt 1 76 (bu 19) (bN 3 15 [2,79] 94 (bt 3 79 (bH 5 λO _=>bH 4 λQ _=>bu 4) (bu 15)) λS=>bu 1)) λT=>bt 2 95 bg (bZ 8 B.assign (bt 3 99 bg (dH 11 (λu=>(bK [Iv 1 p1,Pv 3,Pv 7,Iv 8 u] [Xb 3 D,Xb 7 B])) (λw=>(0,(bK [] []))) (λw=>(bK [Iv 6 w] [])) (λu=>bZ 7 B.assign (bt 3 104 (bH 10 λz _=>bN 12 11 [115] 126 (bt 12 115 (bu 11) (bH 5 λI _=>bZ 2 I.vars (bu 2))) λU=>Aj 1 5 [130] (λC=>(bK [Iv 1 p1,Pv 3,Pv 7,Iv 8 u,Bv 104 true,Pv 9,Bv 132 C] [Xb 3 D,Xb 7 B,Xb 9 z])) (bt 1 127 (bu 5) (cr 2 λW _=>bu 2)) λC=>bt 2 132 bg (dH 10 (λJ=>(bK [Iv 1 p1,Pv 3,Pv 7,Iv 8 u,Pv 9,Iv 10 J] [Xb 3 D,Xb 7 B,Xb 9 z])) (λG=>(2,(bK [Iv 1 p1,Pv 3,Pv 7,Iv 8 u] [Xb 3 D,Xb 7 B]))) (λG=>(bK [Iv 6 8] [])) (λJ=>bt 9 135 (bH 10 λX _=>bt 7 146 bg bg) bg) (λG=>bg) (λG=>bg))) bg)) (λw=>bg) (λw=>bg))))
end eB
def eB(B:Z4)(p1 i2:Int):QR:=(idx B.procs p1).bind λw=>(idx w.events i2).bind λu=>bl (u.kind==1) ((bl (u.peer==0) (some (!(u.message==0))) (some true):a_ X').bind λz=>bl z (some 3) (eB.J1 p1 i2 B u)) ((bl (u.kind==2) (some false) (some (!(u.kind==3))):a_ X').bind λC=>(bl C (some true) (some (decide (u.peer<0))):a_ X').bind λD=>(bl D (some true) (some (decide (u.peer>=(len B.procs)))):a_ X').bind λG=>(bl G (some true) (some (u.peer==p1)):a_ X').bind λI=>(bl I (some true) (some (decide (u.message<0))):a_ X').bind λJ=>(bl J (some true) (some (decide (u.message>199))):a_ X').bind λL=>bl L (some 3) (eB.J1 p1 i2 B u))
open eB in
instance WG(B:Z4)(p1 i2:Int):Fc Sy cL (eB B p1 i2):=Fc.M 78 [enc B,.int .i64 p1,.int .i64 i2] (b9 2 3 B (bH 8 λw _=>bH 3 λu _=>oN 2 7 0 u (bt 10 22 (bN 7 4 [26] 30 (cM 7 26 (bu 4) (bu 4)) λz=>bt 2 30 bg (mh 4 (kU p1 i2 B u))) (bN 7 4 [34] 38 (cM 7 34 (bu 4) (bu 4)) λC=>bN 1 4 [39] 43 (bt 1 39 (bu 4) (bu 4)) λD=>bN 1 7 [44] 51 (bt 1 44 (bu 7) (bZ 4 B.procs (bu 2))) λG=>bN 1 5 [52] 57 (bt 1 52 (bu 5) (bu 5)) λI=>bN 1 4 [58] 62 (bt 1 58 (bu 4) (bu 4)) λJ=>bN 1 4 [63] 67 (bt 1 63 (bu 4) (bu 4)) λL=>bt 2 67 bg (mh 4 (kU p1 i2 B u))))))
namespace jw
def bn(G:Z4)(J:bf)(D:WF)(B:X')(U:Int):a_ (Fw (X'×Int) Bool Empty):=(idx G.procs D.peer).bind λw=>bl (decide (U<(len w.events))) ((idx G.procs D.peer).bind λz=>(idx z.events U).bind λu=>(bl B (some true) ((bl (u.kind==2) (some (u.message==D.message)) (some false):a_ X').bind λC=>(bl C (some (u.peer==J.proc)) (some false):a_ X').bind λI=>some I):a_ X').bind λL=>some (.n (L,wrap .i64 (U+1)))) (some (.x B))
def W1(B:X')(U:Int)(D:Z4)(G:bf)(J:WF):QR:=(bQ (λq:X'×Int=>bn D G J q.1 q.2) (B,U)).bind (Fw.elim (λe=>bl e (some 0) (some 7)) (λe=>elim e))
end jw
def jw(B:Z4)(D:bf):QR:=(vM B D).bind λu=>bl (u.kind==1) (some 0) ((dV B u.kind u.message).bind λw=>bl (Mc w D) (bl (u.kind==3) (jw.W1 false 0 B D u) (some 0)) (some 8))
open jw in
instance TC(B:Z4)(D:bf):Fc Sy cL (jw B D):=Fc.M 79 [enc B,enc D] (b9 2 2 B (bB 8 λw _=>oN 1 5 0 w (bt 10 14 bg (cr 11 λI _=>cM 4 22 (bt 11 25 (fK 14 (λu=>(bK [Pv 2,Pv 3,Pv 5,Bv 6 u.1,Iv 7 u.2] [Xb 2 B,Xb 3 D,Xb 5 w])) (λz=>(0,(bK [Bv 6 z] []))) (λu=>bH 9 λC _=>bZ 2 C.events (bt 3 35 (bH 11 λJ _=>bH 3 λG _=>oN 2 8 0 G (bN 5 18 [8,49] 67 (bt 5 49 (bu 18) (bN 4 6 [53] 59 (bt 4 53 (bu 6) (bu 6)) λL=>bN 1 6 [8,60] 66 (bt 1 60 (bu 6) (bu 6)) λO=>bu 1)) λQ=>bg)) bg)) (λz=>cM 8 69 bg bg)) bg) bg))))
namespace eM
def J4(B:Zg)(p5:Int)(D:Z4):a_ (Fw ((Zg)×X') ((Zg)×X') Empty):=(Sl.pP B p5).bind λu=>(Sl.get B u).bind λw=>(Sl.pP B p5).bind λz=>(Sl.put B z (wrap .i64 (w+1):Int)).bind λC=>some (.n (C,true))
def eX(p5:Int)(G:Z4)(B:Zg)(D:X'):a_ (Fw ((Zg)×X') ((Zg)×X') Empty):=(Sl.pP B p5).bind λI=>(Sl.get B I).bind λJ=>(idx G.procs p5).bind λL=>bl (decide (J<(len L.events))) ((idx G.procs p5).bind λO=>(Sl.pP B p5).bind λQ=>(Sl.get B Q).bind λS=>(idx O.events S).bind λu=>bl (u.kind==3) ((dV G 2 u.message).bind λw=>(Sl.pP B w.proc).bind λz=>(Sl.get B z).bind λC=>bl (decide (C<w.index)) (some (.x (B,D))) (J4 B p5 G)) (J4 B p5 G)) (some (.x (B,D)))
def W3(D:Zg)(B:X')(p5:Int)(G:Z4):a_ (Fw ((Zg)×X'×Int) ((Zg)×X') Empty):=(bQ (λq:(Zg)×X'=>eX p5 G q.1 q.2) (D,B)).bind (Fw.elim (λe=>some (.n (e.1,e.2,wrap .i64 (p5+1)))) (λe=>elim e))
def bV(G:Z4)(D:Zg)(B:X')(p5:Int):a_ (Fw ((Zg)×X'×Int) ((Zg)×X') Empty):=bl (decide (p5<(len G.procs))) (W3 D B p5 G) (some (.x (D,B)))
def W2(D:Zg)(B:X')(p5:Int)(G:Z4):a_ (Fw Zg Zg Empty):=(bQ (λq:(Zg)×X'×Int=>bV G q.1 q.2.1 q.2.2) (D,B,p5)).bind (Fw.elim (λe=>bl e.2 (some (.n e.1)) (some (.x e.1))) (λe=>elim e))
def zn(B:Zg)(D:Z4)(G:Int):a_ (Fw Int Unit Unit):=bl (decide (G<(len D.procs))) ((Sl.pP B G).bind λu=>(Sl.get B u).bind λw=>(idx D.procs G).bind λz=>bl (decide (w<(len z.events))) (some (.r ())) (some (.n (wrap .i64 (G+1))))) (some (.x ()))
def W5(B:Zg)(G:Int)(D:Z4):a_ X':=(bQ (λq:Int=>zn B D q) G).bind (Fw.elim (λe=>some true) (λe=>some false))
def bn(D:Z4)(B:Zg):a_ (Fw Zg Zg Empty):=W2 B false 0 D
def W1(B:Zg)(D:Z4):a_ X':=(bQ (λq:Zg=>bn D q) B).bind (Fw.elim (λe=>eM.W5 e 0 D) (λe=>elim e))
end eM
def eM(B:Z4):a_ X':=(xU (len B.procs) (0:Int)).bind λu=>eM.W1 u B
open eM in
instance QZ(B:Z4):Fc Sy cL (eM B):=Fc.M 80 [enc B] (b9 2 1 B (bZ 7 B.procs (Xc 0 12 λb _=>fK 7 (λO=>(bK [Pv 1,Ov 3] [Xb 1 B,Lb 2003 O])) (λD=>(0,(bK [Pv 1,Ov 3] [Xb 1 B,Lb 2003 D]))) (λO=>fK 17 (λw=>(bK [Pv 1,Ov 3,Bv 4 w.2.1,Iv 5 w.2.2] [Xb 1 B,Lb 2003 w.1])) (λG=>(2,(bK [Pv 1,Ov 3,Bv 4 G.2] [Xb 1 B,Lb 2003 G.1]))) (λw=>bZ 8 B.procs (bt 3 17 (fK 8 (λI=>(bK [Pv 1,Ov 3,Bv 4 I.2,Iv 5 w.2.2] [Xb 1 B,Lb 2003 I.1])) (λJ=>(4,(bK [Pv 1,Ov 3,Bv 4 J.2,Iv 5 w.2.2] [Xb 1 B,Lb 2003 J.1]))) (λI=>tY .i64 7 2003 λc _=>Al 0 2003 0 1 false (λQ=>.int .i64 Q) λQ _=>bH 3 λZ _=>bZ 2 Z.events (bt 3 31 (bH 9 λd _=>tY .i64 4 2003 λe _=>Al 0 2003 0 1 false (λS=>.int .i64 S) λS _=>bH 0 λa _=>oN 2 6 0 a (bt 10 46 (bB 6 λf _=>tY .i64 9 2003 λg _=>Al 0 2003 0 1 false (λz=>.int .i64 z) λz _=>bt 5 58 bg (qA 5 (tY .i64 4 2003 λT _=>Al 0 2003 0 1 false (λu=>.int .i64 u) λu _=>tY .i64 1 2003 λU _=>JL 0 2003 (.int .i64 (wrap .i64 (u+1))) λW _=>bg))) (qA 5 (tY .i64 4 2003 λT _=>Al 0 2003 0 1 false (λu=>.int .i64 u) λu _=>tY .i64 1 2003 λU _=>JL 0 2003 (.int .i64 (wrap .i64 (u+1))) λW _=>bg)))) bg)) (λJ=>bg)) bg)) (λG=>cM 8 66 bg bg)) (λD=>dH 11 (λX=>(bK [Pv 1,Ov 3,Iv 8 X] [Xb 1 B,Lb 2003 D])) (λL=>(6,(bK [] []))) (λL=>(bK [Bv 2 false] [])) (λX=>bZ 8 B.procs (bt 3 71 (tY .i64 9 2003 λh _=>Al 0 2003 0 1 false (λC=>.int .i64 C) λC _=>bH 3 λY _=>bZ 2 Y.events (bt 3 85 bg bg)) bg)) (λL=>bg) (λL=>bg)))))
instance Wz(t:Z4)(x:bf):Fc Sy cL (oE t x):=Fc.of (A:=λz:Z4×bf=>[enc z.1,enc z.2]) (E:=λr:Sl (Sl X')=>[enc r]) (p:=λz=>oE z.1 z.2) (n:=81) (z:=(t,x)) (eD.WZ Zae Zae (λz r a=>S6 z.1 z.2 r a))
namespace di
def eX(p6:Int)(B:Z4)(G:bf)(D:Int):a_ (Fw Int Unit (Int×bf)):=(idx B.procs p6).bind λw=>bl (decide (D<(len w.events))) ((eB B p6 D).bind λu=>bl (u==0) (some (.n (wrap .i64 (D+1)))) (some (.r (u,(⟨p6,wrap .i64 (D+1)⟩:bf))))) (some (.x ()))
def W3(p6 G:Int)(B:Z4)(D:bf):a_ (Fw Int Unit (Int×bf)):=(bQ (λq:Int=>eX p6 B D q) G).bind (Fw.elim (λe=>some (.n (wrap .i64 (p6+1)))) (λe=>some (.r (e.1,e.2))))
def zn(G:Int)(D:Z4)(J:bf)(B:Int):a_ (Fw Int Unit (Int×bf)):=(idx D.procs G).bind λw=>bl (decide (B<(len w.events))) ((jw D (⟨G,wrap .i64 (B+1)⟩:bf)).bind λu=>bl (u==0) (some (.n (wrap .i64 (B+1)))) (some (.r (u,(⟨G,wrap .i64 (B+1)⟩:bf))))) (some (.x ()))
def W5(J B:Int)(D:Z4)(G:bf):a_ (Fw Int Unit (Int×bf)):=(bQ (λq:Int=>zn J D G q) B).bind (Fw.elim (λe=>some (.n (wrap .i64 (J+1)))) (λe=>some (.r (e.1,e.2))))
def L8(D:Int)(G:Z4)(J:bf)(B:Int):a_ (Fw Int Unit bf):=(idx G.procs D).bind λw=>bl (decide (B<(len w.events))) ((oE G (⟨D,wrap .i64 (B+1)⟩:bf)).bind λz=>(idx z D).bind λC=>(idx C (wrap .i64 (B+1))).bind λu=>bl u (some (.r (⟨D,wrap .i64 (B+1)⟩:bf))) (some (.n (wrap .i64 (B+1))))) (some (.x ()))
def W7(B D:Int)(G:Z4)(J:bf):a_ (Fw Int Unit bf):=(bQ (λq:Int=>L8 B G J q) D).bind (Fw.elim (λe=>some (.n (wrap .i64 (B+1)))) (λe=>some (.r e)))
def L5(B:Z4)(G:bf)(D:Int):a_ (Fw Int Unit bf):=bl (decide (D<(len B.procs))) (W7 D 0 B G) (some (.x ()))
def W6(B:Int)(D:Z4)(G:bf):a_ (bf×Int):=(bQ (λq:Int=>L5 D G q) B).bind (Fw.elim (λe=>some (⟨0,0⟩,0)) (λe=>some (e,10)))
def Mh(B:Z4)(D:bf)(G:Int):a_ (Fw Int Unit (Int×bf)):=bl (decide (G<(len B.procs))) (W5 G 0 B D) (some (.x ()))
def W4(G:Int)(B:Z4)(D:bf):a_ (bf×Int):=(bQ (λq:Int=>Mh B D q) G).bind (Fw.elim (λe=>(eM B).bind λu=>bl u (some (⟨0,0⟩,0)) (di.W6 0 B D)) (λe=>some (e.2,e.1)))
def bV(B:Z4)(D:bf)(p6:Int):a_ (Fw Int Unit (Int×bf)):=bl (decide (p6<(len B.procs))) (W3 p6 0 B D) (some (.x ()))
def W2(p6:Int)(B:Z4)(D:bf):a_ (bf×Int):=(bQ (λq:Int=>bV B D q) p6).bind (Fw.elim (λe=>di.W4 0 B D) (λe=>some (e.2,e.1)))
def bn(B:Z4)(D:bf)(p4:Int):a_ (Fw Int Unit (Int×bf)):=bl (decide (p4<(len B.procs))) ((eA B p4).bind λu=>bl (u==0) (some (.n (wrap .i64 (p4+1)))) (some (.r (u,(⟨p4,0⟩:bf))))) (some (.x ()))
def W1(p4:Int)(B:Z4)(D:bf):a_ (bf×Int):=(bQ (λq:Int=>bn B D q) p4).bind (Fw.elim (λe=>di.W2 0 B D) (λe=>some (e.2,e.1)))
end di
def di(B:Z4):a_ (bf×Int):=(bl (decide ((len B.procs)<1)) (some true) (some (decide ((len B.procs)>8))):a_ X').bind λu=>bl u (some (⟨0,0⟩,1)) (di.W1 0 B (⟨0,0⟩:bf))
open di in
instance Uu(B:Z4):Fc Sy cL (di B):=Fc.M 53 [enc B] (b9 2 1 B (bZ 9 B.procs (bN 2 5 [20] 25 (bt 2 20 (bu 5) (bZ 2 B.procs (bu 2))) λa=>bt 2 25 bg (dH 11 (λQ=>(bK [Pv 1,Pv 2,Iv 4 Q] [Xb 1 B,Xb 2 (⟨0,0⟩:bf)])) (λu=>(0,(bK [Pv 1,Pv 2] [Xb 1 B,Xb 2 (⟨0,0⟩:bf)]))) (λu=>(bK [Pv 2,Iv 3 u.1] [Xb 2 u.2])) (λQ=>bZ 7 B.procs (bt 3 31 (bB 9 λb _=>cM 9 38 bg bg) bg)) (λu=>dH 10 (λG=>(bK [Pv 1,Pv 2,Iv 6 G] [Xb 1 B,Xb 2 (⟨0,0⟩:bf)])) (λw=>(2,(bK [Pv 1,Pv 2] [Xb 1 B,Xb 2 (⟨0,0⟩:bf)]))) (λw=>(bK [Pv 2,Iv 3 w.1] [Xb 2 w.2])) (λG=>bZ 7 B.procs (bt 3 46 (dH 12 (λS=>(bK [Pv 1,Pv 2,Iv 6 G,Iv 7 S] [Xb 1 B,Xb 2 (⟨0,0⟩:bf)])) (λz=>(4,(bK [Pv 1,Pv 2,Iv 6 G] [Xb 1 B,Xb 2 (⟨0,0⟩:bf)]))) (λz=>(bK [Pv 2,Iv 3 z.1] [Xb 2 z.2])) (λS=>bH 8 λW _=>bZ 2 W.events (bt 3 57 (bB 10 λc _=>cM 9 65 bg bg) bg)) (λz=>bg) (λz=>bg)) bg)) (λw=>dH 10 (λI=>(bK [Pv 1,Pv 2,Iv 9 I] [Xb 1 B,Xb 2 (⟨0,0⟩:bf)])) (λC=>(6,(bK [Pv 1,Pv 2] [Xb 1 B,Xb 2 (⟨0,0⟩:bf)]))) (λC=>(bK [Pv 2,Iv 3 C.1] [Xb 2 C.2])) (λI=>bZ 7 B.procs (bt 3 75 (dH 12 (λT=>(bK [Pv 1,Pv 2,Iv 9 I,Iv 10 T] [Xb 1 B,Xb 2 (⟨0,0⟩:bf)])) (λD=>(8,(bK [Pv 1,Pv 2,Iv 9 I] [Xb 1 B,Xb 2 (⟨0,0⟩:bf)]))) (λD=>(bK [Pv 2,Iv 3 D.1] [Xb 2 D.2])) (λT=>bH 8 λX _=>bZ 2 X.events (bt 3 86 (bB 19 λd _=>cM 9 97 bg bg) bg)) (λD=>bg) (λD=>bg)) bg)) (λC=>bB 6 λZ _=>bt 2 101 bg (dH 11 (λJ=>(bK [Pv 1,Pv 2,Iv 13 J] [Xb 1 B,Xb 2 (⟨0,0⟩:bf)])) (λL=>(10,(bK [Pv 2] [Xb 2 (⟨0,0⟩:bf)]))) (λL=>(bK [Pv 2,Iv 3 10] [Xb 2 L])) (λJ=>bZ 7 B.procs (bt 3 107 (dH 12 (λU=>(bK [Pv 1,Pv 2,Iv 13 J,Iv 14 U] [Xb 1 B,Xb 2 (⟨0,0⟩:bf)])) (λO=>(12,(bK [Pv 1,Pv 2,Iv 13 J] [Xb 1 B,Xb 2 (⟨0,0⟩:bf)]))) (λO=>(bK [Pv 2,Iv 3 10] [Xb 2 O])) (λU=>bH 8 λY _=>bZ 2 Y.events (bt 3 118 (bB 19 λe _=>bH 1 λf _=>bH 3 λg _=>bt 3 134 bg bg) bg)) (λO=>bg) (λO=>bg)) bg)) (λL=>bg) (λL=>bg))) (λC=>bg)) (λw=>bg)) (λu=>bg)))))
def uA(B:Z4):a_ X':=(di B).bind λu=>some (u.2==0)
instance VH(B:Z4):Fc Sy cL (uA B):=Fc.M 21 [enc B] (b9 2 1 B (bB 6 λu _=>bg))
namespace kZ
def bn(B:Int)(D:Pred)(G J:Int)(r:(Pred×Int)->QR):a_ (Fw (Int×Int) Int Empty):=(bl (decide (J<(len D.l))) (some (decide (G<=B))) (some false):a_ X').bind λu=>bl u ((idx D.l J).bind λw=>(r (w,wrap .i64 (B-G))).bind λz=>some (.n (wrap .i64 (G+z),wrap .i64 (J+1)))) (some (.x G))
def W1(B G J:Int)(D:Pred)(r:(Pred×Int)->QR):QR:=(bQ (λq:Int×Int=>bn B D q.1 q.2 r) (G,J)).bind (Fw.elim (λe=>some e) (λe=>elim e))
end kZ
def iR(D:Pred)(B:Int)(r:(Pred×Int)->QR):QR:=kZ.W1 B 1 0 D r
open kZ in
theorem CA(r:(Pred×Int)->QR)(a:eD Sy cL 134 (λz:Pred×Int=>[enc z.1,.int .i64 z.2]) (λr:Int=>[.int .i64 r]) r true)(D:Pred)(B:Int):Le ((iR D B r).bind λr=>some [.int .i64 r]) (gN cL 134 [enc D,.int .i64 B]):=(Fc.M 134 [enc D,.int .i64 B] (b9 2 2 D (fK 16 (λu=>(bK [Iv 1 B,Pv 2,Iv 5 u.1,Iv 6 u.2] [Xb 2 D])) (λw=>(0,(bK [Iv 5 w] []))) (λu=>dG 7 9 (Pred.eE D.l) (bZ 0 D.l (bN 2 4 [12] 16 (bt 2 12 (bu 4) (bu 4)) λG=>bt 2 16 (dG 9 21 (Pred.eE D.l) (bH 1 λC _=>bB (F:=Fc.of (C,wrap .i64 (B-u.1)) a) 4 λI _=>bg)) bg))) (λw=>bg))):Fc Sy cL (iR D B r)).F.h ()
def kZ(D:Pred)(B:Int):QR:=dA (λr(z:Pred×Int)=>iR z.1 z.2 r) 100000 (D,B)
instance Uh(D:Pred)(B:Int):Fc Sy cL (kZ D B):=Fc.of (D,B) (eD.fix (A:=λz:Pred×Int=>[enc z.1,.int .i64 z.2]) (E:=λr:Int=>[.int .i64 r]) (sc:=true) (b:=(λr(z:Pred×Int)=>iR z.1 z.2 r)) Zae (λ_ _=>rfl) (λr a z=>CA r a z.1 z.2) 100000)
def yL(B:Pred):QR:=(kZ B 200).bind λu=>some (if 201<u then 201 else u)
instance WE(B:Pred):Fc Sy cL (yL B):=Fc.M 91 [enc B] (b9 2 1 B (bB 6 λu _=>bg))
namespace jY
def bn(B:Int)(D:Pred)(G J:Int)(r:(Pred×Int)->QR):a_ (Fw (Int×Int) Int Empty):=bl (decide (J<(len D.l))) ((idx D.l J).bind λw=>(r (w,wrap .i64 (B-1))).bind λu=>some (.n ((if u>G then u else G),wrap .i64 (J+1)))) (some (.x G))
def W1(B G J:Int)(D:Pred)(r:(Pred×Int)->QR):QR:=(bQ (λq:Int×Int=>bn B D q.1 q.2 r) (G,J)).bind (Fw.elim (λe=>some (wrap .i64 (e+1))) (λe=>elim e))
end jY
def iQ(D:Pred)(B:Int)(r:(Pred×Int)->QR):QR:=bl (B==0) (some 1) (jY.W1 B 0 0 D r)
open jY in
theorem CB(r:(Pred×Int)->QR)(a:eD Sy cL 92 (λz:Pred×Int=>[enc z.1,.int .i64 z.2]) (λr:Int=>[.int .i64 r]) r true)(D:Pred)(B:Int):Le ((iQ D B r).bind λr=>some [.int .i64 r]) (gN cL 92 [enc D,.int .i64 B]):=(Fc.M 92 [enc D,.int .i64 B] (b9 2 2 D (bt 15 8 bg (fK 11 (λu=>(bK [Iv 1 B,Pv 2,Iv 5 u.1,Iv 6 u.2] [Xb 2 D])) (λw=>(0,(bK [Iv 5 w] []))) (λu=>dG 7 11 (Pred.eE D.l) (bZ 0 D.l (bt 3 13 (dG 9 18 (Pred.eE D.l) (bH 1 λC _=>bB (F:=Fc.of (C,wrap .i64 (B-1)) a) 3 λG _=>bg)) bg))) (λw=>bg)))):Fc Sy cL (iQ D B r)).F.h ()
def jY(D:Pred)(B:Int):QR:=dA (λr(z:Pred×Int)=>iQ z.1 z.2 r) 100000 (D,B)
instance Uy(D:Pred)(B:Int):Fc Sy cL (jY D B):=Fc.of (D,B) (eD.fix (A:=λz:Pred×Int=>[enc z.1,.int .i64 z.2]) (E:=λr:Int=>[.int .i64 r]) (sc:=true) (b:=(λr(z:Pred×Int)=>iQ z.1 z.2 r)) Zae (λ_ _=>rfl) (λr a z=>CB r a z.1 z.2) 100000)
def lY(B:Int):QR:=(bl (decide (B>=1)) (some (decide (B<=4))) (some false):a_ X').bind λu=>(bl u (some true) (some (B==13)):a_ X').bind λw=>(bl w (some true) (some (B==14)):a_ X').bind λz=>bl z (some 0) ((bl (B==5) (some true) (some (B==15)):a_ X').bind λC=>(bl C (some true) ((bl (decide (B>=18)) (some (decide (B<=21))) (some false):a_ X').bind λD=>some D):a_ X').bind λG=>bl G (some 1) ((bl (decide (B>=6)) (some (decide (B<=12))) (some false):a_ X').bind λI=>(bl I (some true) (some (B==16)):a_ X').bind λJ=>(bl J (some true) (some (B==17)):a_ X').bind λL=>bl L (some 2) (some (-1))))
instance U0(B:Int):Fc Sy cL (lY B):=Fc.M 135 [.int .i64 B] (bN 11 3 [5] 8 (bt 11 5 (bu 3) (bu 3)) λu=>bN 1 3 [9] 12 (bt 1 9 (bu 3) (bu 3)) λw=>bN 1 3 [13] 16 (bt 1 13 (bu 3) (bu 3)) λz=>bt 2 16 bg (bN 9 3 [19] 22 (bt 9 19 (bu 3) (bu 3)) λC=>bN 1 7 [23] 30 (bt 1 23 (bu 7) (bN 3 3 [26] 29 (bt 3 26 (bu 3) (bu 3)) λD=>bu 1)) λG=>bt 2 30 bg (bN 9 3 [33] 36 (bt 9 33 (bu 3) (bu 3)) λI=>bN 1 3 [37] 40 (bt 1 37 (bu 3) (bu 3)) λJ=>bN 1 3 [0,41] 44 (bt 1 41 (bu 3) (bu 3)) λL=>bt 2 44 bg bg)))
namespace fV
def bV(B:Pred)(i3:Int)(r:Pred->a_ X'):a_ (Fw Int Unit Unit):=bl (decide (i3<(len B.l))) ((idx B.l i3).bind λu=>(r u).bind λw=>bl w (some (.n (wrap .i64 (i3+1)))) (some (.r ()))) (some (.x ()))
def W2(i3:Int)(B:Pred)(r:Pred->a_ X'):a_ X':=(bQ (λq:Int=>bV B q r) i3).bind (Fw.elim (λe=>some true) (λe=>some false))
def J1(B:Pred)(r:Pred->a_ X'):a_ X':=(bl (decide (B.kind<2)) (some true) (some (decide (B.kind>4))):a_ X').bind λu=>(bl u ((bl (B.proc==0) (some (!(B.peer==0))) (some true):a_ X').bind λw=>(bl w (some true) (some (!(toList B.name==toList ByteArray.empty))):a_ X').bind λz=>some z) (some false):a_ X').bind λC=>bl C (some false) (fV.W2 0 B r)
theorem kU(r:Pred->a_ X')(a:eD Sy cL 93 (λz:Pred=>[enc z]) (λr:X'=>[.bool r]) r true)(B:Pred):Le ((J1 B r).bind (λr=>some [.bool r])) (cz Sy cL (oJ (tr Tx 93)) (pT (tb Tx 93) [1,1,1,0] [] (bK [Pv 1] [Xb 1 B]))):=bN 7 4 [28] 32 (bt 7 28 (bu 4) (bu 4)) λD=>bN 1 14 [33] 47 (bt 1 33 (bN 4 4 [37] 41 (cM 4 37 (bu 4) (bu 4)) λG=>bN 1 4 [42] 46 (bt 1 42 (bu 4) (bu 4)) λI=>bu 1) (bu 14)) λJ=>bt 2 47 bg (dH 11 (λw=>(bK [Pv 1,Iv 3 w] [Xb 1 B])) (λu=>(0,(bK [] []))) (λu=>(bK [Bv 2 false] [])) (λw=>dG 7 50 (Pred.eE B.l) (bZ 0 B.l (bt 3 52 (dG 9 56 (Pred.eE B.l) (bH 1 λC _=>bB (F:=Fc.of C a) 1 λL _=>cM 3 61 bg bg)) bg))) (λu=>bg) (λu=>bg))
end fV
def gy(B:Pred)(r:Pred->a_ X'):a_ X':=(lY B.kind).bind λu=>bl (u==(len B.l)) (bl (B.kind==1) ((bl (decide (B.n<0)) (some true) (some (decide (B.n>1125899906842624))):a_ X').bind λw=>bl w (some false) (fV.J1 B r)) (bl (B.n==0) (fV.J1 B r) (some false))) (some false)
open fV in
theorem CD(r:Pred->a_ X')(a:eD Sy cL 93 (λz:Pred=>[enc z]) (λr:X'=>[.bool r]) r true)(B:Pred):Le ((gy B r).bind λr=>some [.bool r]) (gN cL 93 [enc B]):=(Fc.M 93 [enc B] (b9 2 1 B (cr 8 λu _=>dG 2 8 (Pred.eE B.l) (bZ 0 B.l (cM 3 10 (bt 11 13 (bN 7 4 [17] 21 (bt 7 17 (bu 4) (bu 4)) λw=>bt 2 21 bg (mh 4 (kU r a B))) (cM 8 24 (mh 4 (kU r a B)) bg)) bg)))):Fc Sy cL (gy B r)).F.h ()
def fV(B:Pred):a_ X':=dA (λr(z:Pred)=>gy z r) 100000 B
instance Vp(B:Pred):Fc Sy cL (fV B):=Fc.of B (eD.fix (A:=λz:Pred=>[enc z]) (E:=λr:X'=>[.bool r]) (sc:=true) (b:=(λr(z:Pred)=>gy z r)) Zae (λ_ _=>rfl) (λr a z=>CD r a z) 100000)
def nY(B:Pred):a_ X':=(yL B).bind λu=>(bl (decide (u<=200)) ((jY B 21).bind λw=>some (decide (w<=20))) (some false):a_ X').bind λz=>(bl z ((fV B).bind λC=>some C) (some false):a_ X').bind λD=>some D
instance T4(B:Pred):Fc Sy cL (nY B):=Fc.M 58 [enc B] (b9 2 1 B (bB 6 λu _=>bN 2 4 [6] 10 (bt 2 6 (bB 1 λw _=>bu 2) (bu 4)) λz=>bN 1 3 [1,11] 14 (bt 1 11 (bB 1 λC _=>bu 1) (bu 3)) λD=>bg))
def oL(B:Z4)(p1:Int):a_ X':=(bl (decide (p1>=0)) (some (decide (p1<(len B.procs)))) (some false):a_ X').bind λu=>some u
instance Wu(B:Z4)(p1:Int):Fc Sy cL (oL B p1):=Fc.M 109 [enc B,.int .i64 p1] (b9 2 2 B (bN 8 6 [1,2,7] 13 (bt 8 7 (bZ 3 B.procs (bu 2)) (bu 6)) λu=>bg))
namespace jx
def bn(p1:Int)(B:U')(D:Z4)(G:Int):a_ (Fw Int Unit Int):=(idx D.procs p1).bind λu=>bl (decide (G<(len u.vars))) ((idx D.procs p1).bind λw=>(idx w.vars G).bind λz=>bl (toList z.name==toList B) (some (.r G)) (some (.n (wrap .i64 (G+1))))) (some (.x ()))
def W1(p1:Int)(B:U')(G:Int)(D:Z4):QR:=(bQ (λq:Int=>bn p1 B D q) G).bind (Fw.elim (λe=>some (-1)) (λe=>some e))
end jx
def jx(D:Z4)(p1:Int)(B:U'):QR:=jx.W1 p1 B 0 D
open jx in
instance XB(D:Z4)(p1:Int)(B:U'):Fc Sy cL (jx D p1 B):=Fc.M 110 [enc D,.int .i64 p1,.str B] (b9 2 3 D (dH 11 (λw=>(bK [Iv 1 p1,(2,.v (.str B)),Pv 3,Iv 7 w] [Xb 3 D])) (λu=>(0,(bK [] []))) (λu=>(bK [Iv 6 u] [])) (λw=>bH 8 λz _=>bZ 2 z.vars (bt 3 16 (bH 10 λC _=>bH 3 λG _=>bt 6 30 bg bg) bg)) (λu=>bg) (λu=>bg)))
namespace gF
def bn(D:Z4)(B:Pred)(G:Int)(r:(Z4×Pred)->a_ X'):a_ (Fw Int Unit Unit):=bl (decide (G<(len B.l))) ((idx B.l G).bind λu=>(r (D,u)).bind λw=>bl w (some (.n (wrap .i64 (G+1)))) (some (.r ()))) (some (.x ()))
def W1(G:Int)(B:Z4)(D:Pred)(r:(Z4×Pred)->a_ X'):a_ X':=(bQ (λq:Int=>bn B D q r) G).bind (Fw.elim (λe=>some true) (λe=>some false))
end gF
def gm(B:Z4)(p1:Pred)(r:(Z4×Pred)->a_ X'):a_ X':=(bl (p1.kind==2) ((oL B p1.proc).bind λI=>(bl I (some (!(p1.peer==0))) (some true):a_ X').bind λJ=>(bl J (some true) ((jx B p1.proc p1.name).bind λL=>some (decide (L<0))):a_ X').bind λO=>some O) (some false):a_ X').bind λQ=>bl Q (some false) ((bl (p1.kind==3) ((oL B p1.proc).bind λS=>(bl S (some (!(p1.peer==0))) (some true):a_ X').bind λT=>(bl T (some true) (some (!(toList p1.name==toList ByteArray.empty))):a_ X').bind λU=>some U) (some false):a_ X').bind λW=>bl W (some false) ((bl (p1.kind==4) ((oL B p1.proc).bind λu=>(bl u ((oL B p1.peer).bind λw=>some (!w)) (some true):a_ X').bind λz=>(bl z (some true) (some (p1.proc==p1.peer)):a_ X').bind λC=>(bl C (some true) (some (!(toList p1.name==toList ByteArray.empty))):a_ X').bind λD=>some D) (some false):a_ X').bind λG=>bl G (some false) (gF.W1 0 B p1 r)))
open gF in
theorem AE(r:(Z4×Pred)->a_ X')(a:eD Sy cL 73 (λz:Z4×Pred=>[enc z.1,enc z.2]) (λr:X'=>[.bool r]) r true)(B:Z4)(p1:Pred):Le ((gm B p1 r).bind λr=>some [.bool r]) (gN cL 73 [enc B,enc p1]):=(Fc.M 73 [enc B,enc p1] (b9 2 2 B (b9 0 3 p1 (bN 10 20 [9] 29 (bt 10 9 (bB 3 λS _=>bN 2 4 [15] 19 (cM 2 15 (bu 4) (bu 4)) λT=>bN 1 8 [20] 28 (bt 1 20 (bu 8) (bB 5 λU _=>bu 2)) λW=>bu 1) (bu 20)) λX=>bt 2 29 bg (bN 10 16 [33] 49 (bt 10 33 (bB 3 λY _=>bN 2 4 [39] 43 (cM 2 39 (bu 4) (bu 4)) λZ=>bN 1 4 [44] 48 (bt 1 44 (bu 4) (bu 4)) λb=>bu 1) (bu 16)) λc=>bt 2 49 bg (bN 10 25 [53] 78 (bt 10 53 (bB 3 λD _=>bN 2 6 [59] 65 (cM 2 59 (bB 3 λG _=>bu 2) (bu 6)) λI=>bN 1 6 [66] 72 (bt 1 66 (bu 6) (bu 6)) λJ=>bN 1 4 [73] 77 (bt 1 73 (bu 4) (bu 4)) λL=>bu 1) (bu 25)) λO=>bt 2 78 bg (dH 11 (λw=>(bK [Pv 2,Pv 3,Iv 5 w] [Xb 2 B,Xb 3 p1])) (λu=>(0,(bK [] []))) (λu=>(bK [Bv 4 false] [])) (λw=>dG 7 81 (Pred.eE p1.l) (bZ 0 p1.l (bt 3 83 (dG 10 88 (Pred.eE p1.l) (bH 1 λC _=>cr (F:=Fc.of (B,C) a) 1 λQ _=>cM 3 93 bg bg)) bg))) (λu=>bg) (λu=>bg))))))):Fc Sy cL (gm B p1 r)).F.h ()
def gF(B:Z4)(p1:Pred):a_ X':=dA (λr(z:Z4×Pred)=>gm z.1 z.2 r) 100000 (B,p1)
instance QE(B:Z4)(p1:Pred):Fc Sy cL (gF B p1):=Fc.of (B,p1) (eD.fix (A:=λz:Z4×Pred=>[enc z.1,enc z.2]) (E:=λr:X'=>[.bool r]) (sc:=true) (b:=(λr(z:Z4×Pred)=>gm z.1 z.2 r)) Zae (λ_ _=>rfl) (λr a z=>AE r a z.1 z.2) 100000)
def qy(B:Pred):QR:=bl (decide (B.kind<=8)) (some 1) (some 2)
instance WH(B:Pred):Fc Sy cL (qy B):=Fc.M 111 [enc B] (b9 2 1 B (bt 11 5 bg bg))
namespace gB
def J2(i3 B:Int)(D:Pred)(r:Pred->a_ X'):a_ (Fw Int Unit Unit):=(idx D.l i3).bind λu=>(qy u).bind λw=>(bl (w==B) ((idx D.l i3).bind λz=>(r z).bind λC=>some (!C)) (some true):a_ X').bind λG=>bl G (some (.r ())) (some (.n (wrap .i64 (i3+1))))
def bn(B:Pred)(i3:Int)(r:Pred->a_ X'):a_ (Fw Int Unit Unit):=bl (decide (i3<(len B.l))) (bl (decide (B.kind>=15)) (J2 i3 2 B r) (J2 i3 1 B r)) (some (.x ()))
def W1(i3:Int)(B:Pred)(r:Pred->a_ X'):a_ X':=(bQ (λq:Int=>bn B q r) i3).bind (Fw.elim (λe=>some true) (λe=>some false))
end gB
def jD(B:Pred)(r:Pred->a_ X'):a_ X':=gB.W1 0 B r
open gB in
theorem CE(r:Pred->a_ X')(a:eD Sy cL 74 (λz:Pred=>[enc z]) (λr:X'=>[.bool r]) r true)(B:Pred):Le ((jD B r).bind λr=>some [.bool r]) (gN cL 74 [enc B]):=(Fc.M 74 [enc B] (b9 2 1 B (dH 11 (λC=>(bK [Pv 1,Iv 3 C] [Xb 1 B])) (λu=>(0,(bK [] []))) (λu=>(bK [Bv 2 false] [])) (λC=>dG 7 7 (Pred.eE B.l) (bZ 0 B.l (bt 3 9 (bt 18 14 (qA 6 (dG 4 16 (Pred.eE B.l) (bH 1 λD _=>bB 1 λG _=>bN 3 8 [23] 31 (cM 3 23 (dG 2 25 (Pred.eE B.l) (bH 1 λw _=>bB (F:=Fc.of w a) 1 λI _=>bu 2)) (bu 8)) λJ=>bt 2 31 bg bg))) (qA 4 (dG 4 16 (Pred.eE B.l) (bH 1 λD _=>bB 1 λG _=>bN 3 8 [23] 31 (cM 3 23 (dG 2 25 (Pred.eE B.l) (bH 1 λw _=>bB (F:=Fc.of w a) 1 λI _=>bu 2)) (bu 8)) λJ=>bt 2 31 bg bg)))) bg))) (λu=>bg) (λu=>bg))):Fc Sy cL (jD B r)).F.h ()
def gB(B:Pred):a_ X':=dA (λr(z:Pred)=>jD z r) 100000 B
instance Un(B:Pred):Fc Sy cL (gB B):=Fc.of B (eD.fix (A:=λz:Pred=>[enc z]) (E:=λr:X'=>[.bool r]) (sc:=true) (b:=(λr(z:Pred)=>jD z r)) Zae (λ_ _=>rfl) (λr a z=>CE r a z) 100000)
namespace fW
def bV(p1 U W:Int)(J:Sl Assign)(Y:Z4)(D B G:Int):a_ (Fw (Int×Int×Int) (Int×Int) Empty):=bl (decide (G<(len J))) ((idx J G).bind λz=>bl (z.var==U) ((idx J G).bind λu=>(idx J G).bind λw=>some (.n ((if u.value<D then u.value else D),(if w.value>B then w.value else B),wrap .i64 (G+1)))) (some (.n (D,B,wrap .i64 (G+1))))) (some (.x (D,B)))
def W2(p1 Y D B G:Int)(J:Sl Assign)(U:Int)(W:Z4):a_ (Fw (Int×Int×Int) (Int×Int) Empty):=(bQ (λq:Int×Int×Int=>bV p1 Y G J W q.1 q.2.1 q.2.2) (D,B,U)).bind (Fw.elim (λe=>some (.n (e.1,e.2,wrap .i64 (G+1)))) (λe=>elim e))
def bn(p1 U:Int)(G:Z4)(D B J:Int):a_ (Fw (Int×Int×Int) (Int×Int) Empty):=(idx G.procs p1).bind λu=>bl (decide (J<(len u.events))) ((idx G.procs p1).bind λw=>(idx w.events J).bind λz=>W2 p1 U D B J z.assign 0 G) (some (.x (D,B)))
def W1(p1 U D B G:Int)(J:Z4):a_ (Int×Int):=(bQ (λq:Int×Int×Int=>bn p1 U J q.1 q.2.1 q.2.2) (D,B,G)).bind (Fw.elim (λe=>some (e.1,e.2)) (λe=>elim e))
end fW
def fW(B:Z4)(p1 D:Int):a_ (Int×Int):=(idx B.procs p1).bind λw=>(idx w.vars D).bind λu=>fW.W1 p1 D u.init_ u.init_ 0 B
open fW in
instance Vm(D:Z4)(p1 G:Int):Fc Sy cL (fW D p1 G):=Fc.M 148 [enc D,.int .i64 p1,.int .i64 G] (b9 2 3 D (bH 9 λJ _=>bH 3 λL _=>fK 19 (λu=>(bK [Iv 1 p1,Iv 2 G,Pv 3,Iv 8 u.1,Iv 9 u.2.1,Iv 10 u.2.2] [Xb 3 D])) (λz=>(0,(bK [Iv 8 z.1,Iv 9 z.2] []))) (λu=>bH 8 λI _=>bZ 2 I.events (bt 3 32 (bH 10 λO _=>bH 3 λC _=>fK 12 (λw=>(bK [Iv 1 p1,Iv 2 G,Pv 3,Iv 8 w.1,Iv 9 w.2.1,Iv 10 u.2.2,Cv 11 C.assign,Iv 12 w.2.2] [Xb 3 D])) (λB=>(2,(bK [Iv 1 p1,Iv 2 G,Pv 3,Iv 8 B.1,Iv 9 B.2,Iv 10 u.2.2] [Xb 3 D]))) (λw=>bZ 6 C.assign (bt 3 48 (bH 9 λQ _=>bt 6 57 (bH 5 λS _=>bH 6 λT _=>bg) bg) bg)) (λB=>bg)) bg)) (λz=>bg)))
namespace jt
def bn(p1 G:Int)(B:Z4)(D a:Int):a_ (Fw (Int×Int) Int Empty):=(idx B.procs p1).bind λw=>bl (decide (a<(len w.events))) ((idx B.procs p1).bind λz=>(idx z.events a).bind λu=>(bl (u.kind==2) (some (u.peer==G)) (some false):a_ X').bind λC=>bl C (some (.n (wrap .i64 (D+1),wrap .i64 (a+1)))) (some (.n (D,wrap .i64 (a+1))))) (some (.x D))
def W1(p1 D G a:Int)(B:Z4):QR:=(bQ (λq:Int×Int=>bn p1 D B q.1 q.2) (G,a)).bind (Fw.elim (λe=>some e) (λe=>elim e))
end jt
def jt(B:Z4)(p1 D:Int):QR:=jt.W1 p1 D 0 0 B
open jt in
instance Wi(B:Z4)(p1 D:Int):Fc Sy cL (jt B p1 D):=Fc.M 149 [enc B,.int .i64 p1,.int .i64 D] (b9 2 3 B (fK 16 (λu=>(bK [Iv 1 p1,Iv 2 D,Pv 3,Iv 7 u.1,Iv 8 u.2] [Xb 3 B])) (λw=>(0,(bK [Iv 7 w] []))) (λu=>bH 8 λz _=>bZ 2 z.events (bt 3 18 (bH 10 λG _=>bH 3 λC _=>oN 2 9 0 C (bN 8 5 [9,33] 38 (bt 8 33 (bu 5) (bu 5)) λI=>bt 2 38 bg bg)) bg)) (λw=>bg)))
namespace cU
def J1(a0 B:Int):QR:=some (wrap .i64 (a0*B))
end cU
def cU(a0 B:Int):QR:=(bl (a0==0) (some false) (some (!(B==0))):a_ X').bind λu=>bl u ((zU .i64 1125899906842624 (if(wrap .i64 (0-B))>B then(wrap .i64 (0-B))else B)).bind λw=>bl (decide ((if(wrap .i64 (0-a0))>a0 then(wrap .i64 (0-a0))else a0)>w)) (bl ((decide (a0<0))==(decide (B<0))) (some 1125899906842625) (some (-1125899906842625))) (cU.J1 a0 B)) (cU.J1 a0 B)
open cU in
instance V9(a0 B:Int):Fc Sy cL (cU a0 B):=Fc.M 150 [.int .i64 a0,.int .i64 B] (bN 11 3 [9] 12 (cM 11 9 (bu 3) (bu 3)) λu=>bt 2 12 (XC 19 λw _=>bt 3 24 (cM 11 29 bg bg) (qA 4 (bg))) (qA 4 (bg)))
namespace bW
def J3(D B:Int)(r:(Z4×Pred)->a_ (Int×Int×X')):a_ (Int×Int×X'):=(bl (decide (D>=(-1125899906842624))) (some (decide (B<=1125899906842624))) (some false):a_ X').bind λu=>some (D,B,u)
def J2(a b c U:Int)(d W:X')(Y:Z4)(B:Pred)(r:(Z4×Pred)->a_ (Int×Int×X')):a_ (Int×Int×X'):=(bl d (some (!W)) (some true):a_ X').bind λO=>bl O (some (0,0,false)) (bl (B.kind==1) (bW.J3 B.n B.n r) (bl (B.kind==2) ((jx Y B.proc B.name).bind λQ=>(fW Y B.proc Q).bind λL=>bW.J3 L.1 L.2 r) (bl (B.kind==3) ((idx Y.procs B.proc).bind λS=>bW.J3 0 (len S.events) r) (bl (B.kind==4) ((jt Y B.proc B.peer).bind λT=>bW.J3 0 T r) (bl (B.kind==5) (bW.J3 (wrap .i64 (0-b)) (wrap .i64 (0-a)) r) (bl (B.kind==6) (bW.J3 (wrap .i64 (a+c)) (wrap .i64 (b+U)) r) (bl (B.kind==7) (bW.J3 (wrap .i64 (a-U)) (wrap .i64 (b-c)) r) ((cU a c).bind λu=>(cU a U).bind λw=>(cU b c).bind λz=>(cU b U).bind λC=>(cU a c).bind λD=>(cU a U).bind λG=>(cU b c).bind λI=>(cU b U).bind λJ=>bW.J3 (if(if C<z then C else z)<(if w<u then w else u)then(if C<z then C else z)else(if w<u then w else u)) (if(if J>I then J else I)>(if G>D then G else D)then(if J>I then J else I)else(if G>D then G else D)) r))))))))
def J1(W Y a U:Int)(G B:X')(J:Z4)(D:Pred)(r:(Z4×Pred)->a_ (Int×Int×X')):a_ (Int×Int×X'):=bl (decide ((len D.l)>1)) ((idx D.l 1).bind λw=>(r (J,w)).bind λu=>bW.J2 W Y u.1 u.2.1 G u.2.2 J D r) (bW.J2 W Y a U G B J D r)
theorem yo(r:(Z4×Pred)->a_ (Int×Int×X'))(a:eD Sy cL 112 (λz:Z4×Pred=>[enc z.1,enc z.2]) (λr:Int×Int×X'=>[.int .i64 r.1,.int .i64 r.2.1,.bool r.2.2]) r true)(D B:Int):Le ((J3 D B r).bind (λr=>some [.int .i64 r.1,.int .i64 r.2.1,.bool r.2.2])) (cz Sy cL (oJ (tr Tx 112)) (pT (tb Tx 112) [1,1,1,1,0,1,0,1,1,1,0] [] (bK [Iv 13 D,Iv 14 B] []))):=bN 7 3 [14,151] 154 (bt 7 151 (bu 3) (bu 3)) λu=>bg
theorem Ua(r:(Z4×Pred)->a_ (Int×Int×X'))(a:eD Sy cL 112 (λz:Z4×Pred=>[enc z.1,enc z.2]) (λr:Int×Int×X'=>[.int .i64 r.1,.int .i64 r.2.1,.bool r.2.2]) r true)(b c d U:Int)(Y B:X')(e:Z4)(W:Pred):Le ((J2 b c d U Y B e W r).bind (λr=>some [.int .i64 r.1,.int .i64 r.2.1,.bool r.2.2])) (cz Sy cL (oJ (tr Tx 112)) (pT (tb Tx 112) [1,1,1,1,0,1,0] [] (bK [Pv 2,Pv 3,Iv 7 b,Iv 8 c,Iv 9 d,Iv 10 U,Bv 11 Y,Bv 12 B] [Xb 2 e,Xb 3 W]))):=bN 6 3 [12,45] 48 (cM 6 45 (bu 3) (bu 3)) λT=>bt 2 48 bg (bt 17 51 (mh 11 (yo r a W.n W.n)) (bt 8 58 (cr 10 λX _=>cr 0 λO _=>mh 8 (yo r a O.1 O.2)) (bt 8 74 (bH 6 λQ _=>bZ 2 Q.events (mh 4 (yo r a 0 (len Q.events)))) (bt 8 85 (bB 7 λS _=>mh 4 (yo r a 0 S)) (bt 8 94 (mh 11 (yo r a (wrap .i64 (0-c)) (wrap .i64 (0-b)))) (bt 8 101 (mh 13 (yo r a (wrap .i64 (b+d)) (wrap .i64 (c+U)))) (bt 8 110 (mh 13 (yo r a (wrap .i64 (b-U)) (wrap .i64 (c-d)))) (bB 5 λu _=>bB 2 λw _=>bB 3 λC _=>bB 2 λD _=>bB 8 λG _=>bB 2 λI _=>bB 3 λJ _=>bB 2 λL _=>mh 6 (yo r a (if(if D<C then D else C)<(if w<u then w else u)then(if D<C then D else C)else(if w<u then w else u)) (if(if L>J then L else J)>(if I>G then I else G)then(if L>J then L else J)else(if I>G then I else G)))))))))))
theorem kU(r:(Z4×Pred)->a_ (Int×Int×X'))(a:eD Sy cL 112 (λz:Z4×Pred=>[enc z.1,enc z.2]) (λr:Int×Int×X'=>[.int .i64 r.1,.int .i64 r.2.1,.bool r.2.2]) r true)(W Y b U:Int)(G B:X')(J:Z4)(D:Pred):Le ((J1 W Y b U G B J D r).bind (λr=>some [.int .i64 r.1,.int .i64 r.2.1,.bool r.2.2])) (cz Sy cL (oJ (tr Tx 112)) (pT (tb Tx 112) [1,1,1,1,0] [] (bK [Pv 2,Pv 3,Iv 7 W,Iv 8 Y,Iv 9 b,Iv 10 U,Bv 11 G,Bv 12 B] [Xb 2 J,Xb 3 D]))):=dG 5 30 (Pred.eE D.l) (bZ 0 D.l (bt 3 32 (dG 5 36 (Pred.eE D.l) (bH 0 λw _=>cr (F:=Fc.of (J,w) a) 1 λu _=>mh 10 (Ua r a W Y u.1 u.2.1 G u.2.2 J D))) (mh 4 (Ua r a W Y b U G B J D))))
end bW
def gU(B:Z4)(p1:Pred)(r:(Z4×Pred)->a_ (Int×Int×X')):a_ (Int×Int×X'):=bl (decide ((len p1.l)>0)) ((idx p1.l 0).bind λw=>(r (B,w)).bind λu=>bW.J1 u.1 u.2.1 0 0 u.2.2 true B p1 r) (bW.J1 0 0 0 0 true true B p1 r)
open bW in
theorem Ak(r:(Z4×Pred)->a_ (Int×Int×X'))(a:eD Sy cL 112 (λz:Z4×Pred=>[enc z.1,enc z.2]) (λr:Int×Int×X'=>[.int .i64 r.1,.int .i64 r.2.1,.bool r.2.2]) r true)(B:Z4)(p1:Pred):Le ((gU B p1 r).bind λr=>some [.int .i64 r.1,.int .i64 r.2.1,.bool r.2.2]) (gN cL 112 [enc B,enc p1]):=(Fc.M 112 [enc B,enc p1] (b9 2 2 B (b9 0 3 p1 (dG 24 16 (Pred.eE p1.l) (bZ 0 p1.l (bt 3 18 (dG 5 22 (Pred.eE p1.l) (bH 0 λw _=>cr (F:=Fc.of (B,w) a) 1 λu _=>mh 10 (kU r a u.1 u.2.1 0 0 u.2.2 true B p1))) (mh 4 (kU r a 0 0 0 0 true true B p1))))))):Fc Sy cL (gU B p1 r)).F.h ()
def bW(B:Z4)(p1:Pred):a_ (Int×Int×X'):=dA (λr(z:Z4×Pred)=>gU z.1 z.2 r) 100000 (B,p1)
instance QD(B:Z4)(p1:Pred):Fc Sy cL (bW B p1):=Fc.of (B,p1) (eD.fix (A:=λz:Z4×Pred=>[enc z.1,enc z.2]) (E:=λr:Int×Int×X'=>[.int .i64 r.1,.int .i64 r.2.1,.bool r.2.2]) (sc:=true) (b:=(λr(z:Z4×Pred)=>gU z.1 z.2 r)) Zae (λ_ _=>rfl) (λr a z=>Ak r a z.1 z.2) 100000)
namespace kJ
def bn(D:Z4)(B:Pred)(a:Int)(r:(Z4×Pred)->a_ X'):a_ (Fw Int Unit Unit):=bl (decide (a<(len B.l))) ((idx B.l a).bind λu=>(r (D,u)).bind λw=>bl w (some (.n (wrap .i64 (a+1)))) (some (.r ()))) (some (.x ()))
def W1(a:Int)(B:Z4)(D:Pred)(r:(Z4×Pred)->a_ X'):a_ X':=(bQ (λq:Int=>bn B D q r) a).bind (Fw.elim (λe=>some true) (λe=>some false))
end kJ
def ki(B:Z4)(p1:Pred)(r:(Z4×Pred)->a_ X'):a_ X':=(qy p1).bind λu=>bl (u==1) ((bW B p1).bind λw=>some w.2.2) (kJ.W1 0 B p1 r)
open kJ in
theorem DN(r:(Z4×Pred)->a_ X')(a:eD Sy cL 75 (λz:Z4×Pred=>[enc z.1,enc z.2]) (λr:X'=>[.bool r]) r true)(B:Z4)(p1:Pred):Le ((ki B p1 r).bind λr=>some [.bool r]) (gN cL 75 [enc B,enc p1]):=(Fc.M 75 [enc B,enc p1] (b9 2 2 B (b9 0 3 p1 (bB 7 λD _=>bt 3 11 (bB 5 λG _=>bg) (dH 11 (λw=>(bK [Pv 2,Pv 3,Iv 8 w] [Xb 2 B,Xb 3 p1])) (λu=>(0,(bK [] []))) (λu=>(bK [Bv 4 false] [])) (λw=>dG 7 22 (Pred.eE p1.l) (bZ 0 p1.l (bt 3 24 (dG 10 29 (Pred.eE p1.l) (bH 1 λC _=>cr (F:=Fc.of (B,C) a) 1 λI _=>cM 3 34 bg bg)) bg))) (λu=>bg) (λu=>bg))))):Fc Sy cL (ki B p1 r)).F.h ()
def kJ(B:Z4)(p1:Pred):a_ X':=dA (λr(z:Z4×Pred)=>ki z.1 z.2 r) 100000 (B,p1)
instance Ws(B:Z4)(p1:Pred):Fc Sy cL (kJ B p1):=Fc.of (B,p1) (eD.fix (A:=λz:Z4×Pred=>[enc z.1,enc z.2]) (E:=λr:X'=>[.bool r]) (sc:=true) (b:=(λr(z:Z4×Pred)=>ki z.1 z.2 r)) Zae (λ_ _=>rfl) (λr a z=>DN r a z.1 z.2) 100000)
def uk(B:Z4)(p1:Pred):QR:=(uA B).bind λu=>(bl u ((nY p1).bind λw=>some (!w)) (some true):a_ X').bind λz=>bl z (some 1) ((gF B p1).bind λC=>bl C ((gB p1).bind λD=>bl D ((kJ B p1).bind λG=>bl G (some 0) (some 9)) (some 14)) (some 13))
instance Us(B:Z4)(p1:Pred):Fc Sy cL (uk B p1):=Fc.M 48 [enc B,enc p1] (b9 2 2 B (b9 0 3 p1 (bB 7 λu _=>bN 2 4 [8] 12 (cM 2 8 (bB 1 λw _=>bu 2) (bu 4)) λz=>bt 2 12 bg (bB 8 λC _=>cM 3 16 (bB 7 λD _=>cM 3 19 (bB 8 λG _=>cM 3 23 bg bg) bg) bg))))
def vk(B:Pred):a_ (Int×Int):=(nY B).bind λu=>bl u ((gB B).bind λw=>bl w ((qy B).bind λz=>some (z,0)) (some (0,14))) (some (0,1))
instance Wy(B:Pred):Fc Sy cL (vk B):=Fc.M 76 [enc B] (b9 2 1 B (bB 8 λu _=>cM 3 6 (bB 7 λw _=>cM 3 9 (bB 6 λz _=>bg) bg) bg))
def yN(D:Z4)(p1:Pred)(B:Int):QR:=(uk D p1).bind λu=>bl (u==0) ((vk p1).bind λw=>bl (w.1==B) (some 0) (some 14)) (some u)
instance Wl(D:Z4)(p1:Pred)(B:Int):Fc Sy cL (yN D p1 B):=Fc.M 49 [enc D,enc p1,.int .i64 B] (b9 2 3 D (b9 0 4 p1 (bB 8 λu _=>cM 9 14 (bB 7 λw _=>cM 14 23 bg bg) bg)))
namespace fQ
def bn(B:Pred)(i3:Int)(r:Pred->a_ X'):a_ (Fw Int Unit Unit):=bl (decide (i3<(len B.l))) ((idx B.l i3).bind λu=>(r u).bind λw=>bl w (some (.r ())) (some (.n (wrap .i64 (i3+1))))) (some (.x ()))
def W1(i3:Int)(B:Pred)(r:Pred->a_ X'):a_ X':=(bQ (λq:Int=>bn B q r) i3).bind (Fw.elim (λe=>some false) (λe=>some true))
end fQ
def gV(B:Pred)(r:Pred->a_ X'):a_ X':=(bl (decide (B.kind>=18)) (some (decide (B.kind<=21))) (some false):a_ X').bind λu=>bl u (some true) (fQ.W1 0 B r)
open fQ in
theorem As(r:Pred->a_ X')(a:eD Sy cL 59 (λz:Pred=>[enc z]) (λr:X'=>[.bool r]) r true)(B:Pred):Le ((gV B r).bind λr=>some [.bool r]) (gN cL 59 [enc B]):=(Fc.M 59 [enc B] (b9 2 1 B (bN 10 4 [7] 11 (bt 10 7 (bu 4) (bu 4)) λD=>bt 2 11 bg (dH 11 (λw=>(bK [Pv 1,Iv 3 w] [Xb 1 B])) (λu=>(0,(bK [] []))) (λu=>(bK [Bv 2 true] [])) (λw=>dG 7 14 (Pred.eE B.l) (bZ 0 B.l (bt 3 16 (dG 9 20 (Pred.eE B.l) (bH 1 λC _=>bB (F:=Fc.of C a) 1 λG _=>bt 2 24 bg bg)) bg))) (λu=>bg) (λu=>bg)))):Fc Sy cL (gV B r)).F.h ()
def fQ(B:Pred):a_ X':=dA (λr(z:Pred)=>gV z r) 100000 B
instance Qx(B:Pred):Fc Sy cL (fQ B):=Fc.of B (eD.fix (A:=λz:Pred=>[enc z]) (E:=λr:X'=>[.bool r]) (sc:=true) (b:=(λr(z:Pred)=>gV z r)) Zae (λ_ _=>rfl) (λr a z=>As r a z) 100000)
def qM(B:Pred):a_ X':=(nY B).bind λu=>(bl u ((fQ B).bind λw=>some w) (some false):a_ X').bind λz=>some z
instance Qs(B:Pred):Fc Sy cL (qM B):=Fc.M 25 [enc B] (b9 2 1 B (bB 6 λu _=>bN 1 3 [1,5] 8 (bt 1 5 (bB 1 λw _=>bu 1) (bu 3)) λz=>bg))
def sD(D:Zg)(p1:Int):a_ Zg:=(oG (Sl.row []:Zg) D).bind λu=>(Sl.pP u p1).bind λw=>(Sl.get u w).bind λz=>(Sl.pP u p1).bind λB=>(Sl.put u B (wrap .i64 (z+1):Int)).bind λC=>some C
instance Wr(B:Zg)(p1:Int):Fc Sy cL (sD B p1):=Fc.N 137 [enc B,.int .i64 p1] (zF 9 6 8 λw _=>tY .i64 9 8 λz _=>Al 0 8 0 1 false (λu=>.int .i64 u) λu _=>tY .i64 1 8 λC _=>JL 0 8 (.int .i64 (wrap .i64 (u+1))) λD _=>bg)
namespace oh
def bn(B:Zg)(D:Z4)(p5:Int):a_ (Fw Int Unit Unit):=bl (decide (p5<(len B))) ((idx B p5).bind λu=>(bl (decide (u<0)) (some true) ((idx B p5).bind λw=>(idx D.procs p5).bind λz=>some (decide (w>(len z.events)))):a_ X').bind λC=>bl C (some (.r ())) (some (.n (wrap .i64 (p5+1))))) (some (.x ()))
def W1(B:Zg)(p5:Int)(D:Z4):a_ X':=(bQ (λq:Int=>bn B D q) p5).bind (Fw.elim (λe=>some true) (λe=>some false))
end oh
def oh(D:Z4)(B:Zg):a_ X':=bl ((len B)==(len D.procs)) (oh.W1 B 0 D) (some false)
open oh in
instance WT(D:Z4)(B:Zg):Fc Sy cL (oh D B):=Fc.M 22 [enc D,enc B] (b9 2 2 D (bZ 7 B (bZ 2 D.procs (cM 3 11 (dH 11 (λw=>(bK [Cv 1 B,Pv 2,Iv 5 w] [Xb 2 D])) (λu=>(0,(bK [] []))) (λu=>(bK [Bv 4 false] [])) (λw=>bZ 6 B (bt 3 15 (bH 9 λC _=>bN 3 13 [23] 36 (bt 3 23 (bu 13) (bH 2 λG _=>bH 4 λz _=>bZ 2 z.events (bu 2))) λI=>bt 2 36 bg bg) bg)) (λu=>bg) (λu=>bg)) bg))))
namespace dX
def bV(B:Zg)(p5:Int)(D:Z4)(G:Int):a_ (Fw Int Unit Unit):=(idx B p5).bind λz=>bl (decide (G<z)) ((idx D.procs p5).bind λC=>(idx C.events G).bind λu=>bl (u.kind==3) ((dV D 2 u.message).bind λw=>(idx B w.proc).bind λI=>bl (decide (w.index>I)) (some (.r ())) (some (.n (wrap .i64 (G+1))))) (some (.n (wrap .i64 (G+1))))) (some (.x ()))
def W2(B:Zg)(p5 G:Int)(D:Z4):a_ (Fw Int Unit Unit):=(bQ (λq:Int=>bV B p5 D q) G).bind (Fw.elim (λe=>some (.n (wrap .i64 (p5+1)))) (λe=>some (.r ())))
def bn(B:Zg)(D:Z4)(p5:Int):a_ (Fw Int Unit Unit):=bl (decide (p5<(len B))) (W2 B p5 0 D) (some (.x ()))
def W1(B:Zg)(p5:Int)(D:Z4):a_ X':=(bQ (λq:Int=>bn B D q) p5).bind (Fw.elim (λe=>some true) (λe=>some false))
end dX
def dX(D:Z4)(B:Zg):a_ X':=dX.W1 B 0 D
open dX in
instance Of(D:Z4)(B:Zg):Fc Sy cL (dX D B):=Fc.M 23 [enc D,enc B] (b9 2 2 D (dH 11 (λu=>(bK [Cv 1 B,Pv 2,Iv 5 u] [Xb 2 D])) (λw=>(0,(bK [] []))) (λw=>(bK [Bv 4 false] [])) (λu=>bZ 6 B (bt 3 12 (dH 12 (λC=>(bK [Cv 1 B,Pv 2,Iv 5 u,Iv 6 C] [Xb 2 D])) (λz=>(2,(bK [Cv 1 B,Pv 2,Iv 5 u] [Xb 2 D]))) (λz=>(bK [Bv 4 false] [])) (λC=>bH 7 λI _=>bt 4 20 (bH 10 λJ _=>bH 3 λG _=>oN 2 7 0 G (bt 9 34 (bB 6 λL _=>bH 11 λO _=>bt 4 46 bg bg) bg)) bg) (λz=>bg) (λz=>bg)) bg)) (λw=>bg) (λw=>bg)))
def yj(B:Z4)(D:Zg):a_ X':=(oh B D).bind λu=>(bl u ((dX B D).bind λw=>some w) (some false):a_ X').bind λz=>some z
instance Yi(B:Z4)(D:Zg):Fc Sy cL (yj B D):=Fc.M 136 [enc B,enc D] (b9 2 2 B (bB 7 λu _=>bN 1 4 [1,2,8] 12 (bt 1 8 (bB 2 λw _=>bu 1) (bu 4)) λz=>bg))
namespace jW
def bn(G:Zg)(D:Z4)(B:Zb)(p6:Int):a_ (Fw ((Zb)×Int) Zb Empty):=bl (decide (p6<(len G))) ((idx G p6).bind λu=>(idx D.procs p6).bind λw=>(bl (decide (u<(len w.events))) ((sD G p6).bind λz=>(yj D z).bind λC=>some C) (some false):a_ X').bind λI=>bl I ((sD G p6).bind λJ=>(eU B (J:Zg)).bind λL=>some (.n (L,wrap .i64 (p6+1)))) (some (.n (B,wrap .i64 (p6+1))))) (some (.x B))
def W1(G:Zg)(B:Zb)(p6:Int)(D:Z4):a_ Zb:=(bQ (λq:(Zb)×Int=>bn G D q.1 q.2) (B,p6)).bind (Fw.elim (λe=>some e) (λe=>elim e))
end jW
def jW(B:Z4)(D:Zg):a_ Zb:=jW.W1 D (Sl.nil:Zb) 0 B
open jW in
instance WB(B:Z4)(D:Zg):Fc Sy cL (jW B D):=Fc.N 94 [enc B,enc D] (b9 2 2 B (fK 17 (λu=>(bK [Cv 1 D,Pv 2,Ov 5,Iv 6 u.2] [Xb 2 B,Lb 2005 u.1])) (λw=>(0,(bK [Ov 5] [Lb 2005 w]))) (λu=>bZ 7 D (bt 3 10 (bH 9 λI _=>bH 4 λC _=>bZ 2 C.events (Aj 2 6 [30,29] (λz=>(bK [Cv 1 D,Pv 2,Ov 5,Iv 6 u.2,Bv 10 true,Bv 31 z] [Xb 2 B,Lb 2005 u.1])) (bt 2 25 (bB 3 λJ _=>cr 0 λL _=>bu 1) (bu 6)) λz=>bt 2 31 (bB 5 λG _=>ze 0 36 ([G]:aZ Zg) (nS 0 2005 36 37 λO _=>bg)) bg)) bg)) (λw=>bg)))
namespace iw
def bn(B:Zg)(D i4:Int):a_ (Fw (Int×Int) Int Empty):=bl (decide (i4<(len B))) ((idx B i4).bind λu=>some (.n (wrap .i64 (D+u),wrap .i64 (i4+1)))) (some (.x D))
def W1(B:Zg)(D i4:Int):QR:=(bQ (λq:Int×Int=>bn B q.1 q.2) (D,i4)).bind (Fw.elim (λe=>some e) (λe=>elim e))
end iw
def iw(B:Zg):QR:=iw.W1 B 0 0
open iw in
instance WA(B:Zg):Fc Sy cL (iw B):=Fc.M 165 [enc B] (fK 18 (λu=>(bK [Cv 0 B,Iv 3 u.1,Iv 4 u.2] [])) (λw=>(0,(bK [Iv 3 w] []))) (λu=>bZ 6 B (bt 3 8 (bH 9 λz _=>bg) bg)) (λw=>bg))
namespace iM
def bn(a0 D:Zg)(B:Int):a_ (Fw Int Unit X'):=bl (decide (B<(len a0))) ((idx a0 B).bind λu=>(idx D B).bind λw=>bl (u==w) (some (.n (wrap .i64 (B+1)))) ((idx a0 B).bind λz=>(idx D B).bind λC=>some (.r (decide (z<C))))) (some (.x ()))
def W1(a0 B:Zg)(D:Int):a_ X':=(bQ (λq:Int=>bn a0 B q) D).bind (Fw.elim (λe=>some false) (λe=>some e))
end iM
def iM(a0 B:Zg):a_ X':=(iw a0).bind λu=>(iw B).bind λw=>bl (u==w) (iM.W1 a0 B 0) ((iw a0).bind λz=>(iw B).bind λC=>some (decide (z<C)))
open iM in
instance T8(a0 B:Zg):Fc Sy cL (iM a0 B):=Fc.M 138 [enc a0,enc B] (bB 9 λz _=>bB 1 λC _=>cM 3 10 (dH 11 (λw=>(bK [Cv 0 a0,Cv 1 B,Iv 5 w] [])) (λu=>(0,(bK [] []))) (λu=>(bK [Bv 4 u] [])) (λw=>bZ 6 a0 (bt 3 19 (bH 9 λD _=>bH 3 λG _=>cM 4 30 bg (bH 5 λI _=>bH 3 λJ _=>bg)) bg)) (λu=>bg) (λu=>bg)) (bB 4 λL _=>bB 1 λO _=>bg))
namespace fR
def bn(a0 D:Zg)(B:Int):a_ (Fw Int Unit Unit):=bl (decide (B<(len a0))) ((idx a0 B).bind λu=>(idx D B).bind λw=>bl (u==w) (some (.n (wrap .i64 (B+1)))) (some (.r ()))) (some (.x ()))
def W1(a0 B:Zg)(D:Int):a_ X':=(bQ (λq:Int=>bn a0 B q) D).bind (Fw.elim (λe=>some true) (λe=>some false))
end fR
def fR(a0 B:Zg):a_ X':=bl ((len a0)==(len B)) (fR.W1 a0 B 0) (some false)
open fR in
instance Qu(a0 B:Zg):Fc Sy cL (fR a0 B):=Fc.M 139 [enc a0,enc B] (bZ 9 a0 (bZ 1 B (cM 3 10 (dH 11 (λw=>(bK [Cv 0 a0,Cv 1 B,Iv 5 w] [])) (λu=>(0,(bK [] []))) (λu=>(bK [Bv 4 false] [])) (λw=>bZ 6 a0 (bt 3 14 (bH 9 λz _=>bH 3 λC _=>cM 4 25 bg bg) bg)) (λu=>bg) (λu=>bg)) bg)))
namespace iI
def bn(D:Zb)(G:Zg)(B:Int):a_ (Fw Int Int Empty):=(bl (decide (B<(len D))) ((idx D B).bind λu=>(iM u G).bind λw=>some w) (some false):a_ X').bind λz=>bl z (some (.n (wrap .i64 (B+1)))) (some (.x B))
def W1(B:Zb)(G:Zg)(D:Int):a_ Zb:=(bQ (λq:Int=>bn B G q) D).bind (Fw.elim (λe=>(bl (decide (e<(len B))) ((idx B e).bind λz=>(fR z G).bind λC=>some C) (some false):a_ X').bind λI=>bl I (some B) ((h_ B none (some e)).bind λJ=>(oG (Sl.row []:Zb) J).bind λL=>(eU L (G:Zg)).bind λO=>(h_ B (some e) none).bind λu=>(oG O u).bind λw=>some w)) (λe=>elim e))
end iI
def iI(B:Zb)(D:Zg):a_ Zb:=iI.W1 B D 0
open iI in
instance T3(B:Zb)(D:Zg):Fc Sy cL (iI B D):=Fc.N 95 [enc B,enc D] (fK 13 (λw=>(bK [Cv 0 B,Cv 1 D,Iv 5 w] [])) (λu=>(0,(bK [Cv 0 B,Cv 1 D,Iv 5 u] []))) (λw=>bZ 6 B (bN 2 7 [11] 18 (bt 2 11 (bH 2 λG _=>bB 2 λI _=>bu 1) (bu 7)) λJ=>bt 2 18 bg bg)) (λu=>bZ 7 B (bN 2 7 [25] 32 (bt 2 25 (bH 2 λL _=>bB 2 λO _=>bu 1) (bu 7)) λQ=>bt 2 32 bg (ze 5 34 ([]:aZ Zg) (DU 2 false true [.int .i64 u] λS _=>zF 0 34 38 λT _=>ze 7 41 ([D]:aZ Zg) (nS 0 38 41 42 λU _=>DU 8 true false [.int .i64 u] λz _=>zF 0 42 47 λC _=>bg))))))
namespace eT
def eX(D J:Zb)(Y:Int)(U:Zb)(W:Z4)(B:Zb)(G:Int):a_ (Fw ((Zb)×Int) Zb Empty):=bl (decide (G<(len U))) ((idx U G).bind λu=>(iI B u).bind λw=>some (.n (w,wrap .i64 (G+1)))) (some (.x B))
def W3(B G D:Zb)(U:Int)(W:Zb)(Y:Int)(J:Z4):a_ (Fw ((Zb)×Int) Zb Empty):=(bQ (λq:(Zb)×Int=>eX B G U W J q.1 q.2) (D,Y)).bind (Fw.elim (λe=>some (.n (e,wrap .i64 (U+1)))) (λe=>elim e))
def bV(B G:Zb)(J:Z4)(D:Zb)(U:Int):a_ (Fw ((Zb)×Int) Zb Empty):=bl (decide (U<(len B))) ((idx B U).bind λu=>(jW J u).bind λw=>W3 B G D U w 0 J) (some (.x D))
def W2(B D G:Zb)(U:Int)(J:Z4):a_ (Fw ((Zb)×(Zb)) Zb Unit):=(bQ (λq:(Zb)×Int=>bV B D J q.1 q.2) (G,U)).bind (Fw.elim (λe=>some (.n (e,D))) (λe=>elim e))
def bn(G:Z4)(B D:Zb):a_ (Fw ((Zb)×(Zb)) Zb Unit):=bl (decide ((len B)>0)) ((oG D B).bind λu=>bl (decide ((len u)>5000)) (some (.r ())) (W2 B u (Sl.nil:Zb) 0 G)) (some (.x D))
def W1(B D:Zb)(G:Z4):a_ ((Zb)×X'):=(bQ (λq:(Zb)×(Zb)=>bn G q.1 q.2) (B,D)).bind (Fw.elim (λe=>some (e,true)) (λe=>some ((Sl.nil:Zb),false)))
end eT
def eT(B:Z4):a_ ((Zb)×X'):=(xU (len B.procs) (0:Int)).bind λu=>eT.W1 (Sl.row [u]:Zb) (Sl.nil:Zb) B
open eT in
instance Wt(B:Z4):Fc Sy cL (eT B):=Fc.N 61 [enc B] (b9 2 1 B (bZ 8 B.procs (Xc 0 13 λL _=>ze 1 14 ([L]:aZ Zg) (dH 13 (λu=>(bK [Pv 1,Cv 4 u.1,Ov 5] [Xb 1 B,Lb 2005 u.2])) (λC=>(0,(bK [Ov 5] [Lb 2005 C]))) (λC=>(bK [Ov 2,Bv 3 false] [Lb 2002 (Sl.nil:Zb)])) (λu=>bZ 7 u.1 (bt 3 17 (zF 8 2005 20 λw _=>Ij 7 20 w (bt 3 23 bg (fK 18 (λz=>(bK [Pv 1,Cv 4 u.1,Ov 5,Cv 6 z.1,Iv 7 z.2] [Xb 1 B,Lb 2005 w])) (λG=>(2,(bK [Pv 1,Ov 5,Cv 6 G] [Xb 1 B,Lb 2005 w]))) (λz=>bZ 8 u.1 (bt 3 27 (bH 10 λO _=>bB 1 λI _=>fK 12 (λD=>(bK [Pv 1,Cv 4 u.1,Ov 5,Cv 6 D.1,Iv 7 z.2,Cv 8 I,Iv 9 D.2] [Xb 1 B,Lb 2005 w])) (λJ=>(4,(bK [Pv 1,Cv 4 u.1,Ov 5,Cv 6 J,Iv 7 z.2] [Xb 1 B,Lb 2005 w]))) (λD=>bZ 8 I (bt 3 39 (bH 9 λQ _=>bB 1 λS _=>bg) bg)) (λJ=>bg)) bg)) (λG=>bg)))) bg)) (λC=>bg) (λC=>bg)))))
namespace kg
def bn(B:U')(D:Sl Var)(a:Int):a_ (Fw Int Unit Int):=bl (decide (a<(len D))) ((idx D a).bind λu=>bl (toList u.name==toList B) (some (.r a)) (some (.n (wrap .i64 (a+1))))) (some (.x ()))
def W1(B:U')(D:Sl Var)(a:Int):QR:=(bQ (λq:Int=>bn B D q) a).bind (Fw.elim (λe=>some (-1)) (λe=>some e))
end kg
def kg(D:Z4)(p1:Int)(B:U'):QR:=(idx D.procs p1).bind λu=>kg.W1 B u.vars 0
open kg in
instance VI(D:Z4)(p1:Int)(B:U'):Fc Sy cL (kg D p1 B):=Fc.M 51 [enc D,.int .i64 p1,.str B] (b9 2 3 D (bH 8 λw _=>dH 13 (λz=>(bK [(2,.v (.str B)),Cv 7 w.vars,Iv 8 z] [])) (λu=>(0,(bK [] []))) (λu=>(bK [Iv 6 u] [])) (λz=>bZ 6 w.vars (bt 3 18 (bH 9 λC _=>bt 6 27 bg bg) bg)) (λu=>bg) (λu=>bg)))
namespace gD
def bV(p1 G U:Int)(D:Sl Assign)(J:Z4)(B:Int):a_ (Fw Int Unit Int):=bl (decide (B<(len D))) ((idx D B).bind λu=>bl (u.var==G) ((idx D B).bind λw=>some (.r w.value)) (some (.n (wrap .i64 (B+1))))) (some (.x ()))
def W2(p1 U J:Int)(B:Sl Assign)(D:Int)(G:Z4):a_ (Fw Int Unit Int):=(bQ (λq:Int=>bV p1 U J B G q) D).bind (Fw.elim (λe=>some (.n (wrap .i64 (J-1)))) (λe=>some (.r e)))
def bn(p1 G:Int)(B:Z4)(D:Int):a_ (Fw Int Unit Int):=bl (decide (D>=0)) ((idx B.procs p1).bind λu=>(idx u.events D).bind λw=>W2 p1 G D w.assign 0 B) (some (.x ()))
def W1(p1 D G:Int)(B:Z4):QR:=(bQ (λq:Int=>bn p1 D B q) G).bind (Fw.elim (λe=>(idx B.procs p1).bind λu=>(idx u.vars D).bind λw=>some w.init_) (λe=>some e))
end gD
def gD(B:Z4)(p1 D G:Int):QR:=gD.W1 p1 D (wrap .i64 (G-1)) B
open gD in
instance Um(B:Z4)(p1 D J:Int):Fc Sy cL (gD B p1 D J):=Fc.M 50 [enc B,.int .i64 p1,.int .i64 D,.int .i64 J] (b9 2 4 B (dH 13 (λu=>(bK [Iv 1 p1,Iv 2 D,Pv 4,Iv 9 u] [Xb 4 B])) (λw=>(0,(bK [Iv 1 p1,Iv 2 D,Pv 4] [Xb 4 B]))) (λw=>(bK [Iv 8 w] [])) (λu=>bt 8 15 (bH 10 λI _=>bH 3 λC _=>dH 12 (λG=>(bK [Iv 1 p1,Iv 2 D,Pv 4,Iv 9 u,Cv 10 C.assign,Iv 11 G] [Xb 4 B])) (λz=>(2,(bK [Iv 1 p1,Iv 2 D,Pv 4,Iv 9 u] [Xb 4 B]))) (λz=>(bK [Iv 8 z] [])) (λG=>bZ 6 C.assign (bt 3 31 (bH 9 λL _=>bt 6 40 (bH 5 λO _=>bg) bg) bg)) (λz=>bg) (λz=>bg)) bg) (λw=>bH 7 λQ _=>bH 3 λS _=>bg) (λw=>bg)))
namespace iy
def bn(U:Zg)(p2 W:Int)(G:Z4)(B:Zg)(D:Int):a_ (Fw ((Zg)×Int) Zg Empty):=(idx U p2).bind λz=>bl (decide (D<z)) ((idx G.procs p2).bind λC=>(idx C.events D).bind λu=>(bl (u.kind==2) (some (!(u.peer==W))) (some true):a_ X').bind λI=>bl I (some (.n (B,wrap .i64 (D+1)))) ((dV G 3 u.message).bind λw=>(bl (w.index==0) (some true) ((idx U w.proc).bind λJ=>some (decide (w.index>J))):a_ X').bind λL=>bl L ((eU B (u.message:Int)).bind λO=>some (.n (O,wrap .i64 (D+1)))) (some (.n (B,wrap .i64 (D+1)))))) (some (.x B))
def W1(J:Zg)(p2 U:Int)(B:Zg)(D:Int)(G:Z4):a_ Zg:=(bQ (λq:(Zg)×Int=>bn J p2 U G q.1 q.2) (B,D)).bind (Fw.elim (λe=>some e) (λe=>elim e))
end iy
def iy(B:Z4)(D:Zg)(p2 G:Int):a_ Zg:=iy.W1 D p2 G (Sl.nil:Zg) 0 B
open iy in
instance Qt(B:Z4)(D:Zg)(p2 G:Int):Fc Sy cL (iy B D p2 G):=Fc.N 52 [enc B,enc D,.int .i64 p2,.int .i64 G] (b9 2 4 B (fK 17 (λu=>(bK [Cv 1 D,Iv 2 p2,Iv 3 G,Pv 4,Ov 9,Iv 10 u.2] [Xb 4 B,Lb 2009 u.1])) (λw=>(0,(bK [Ov 9] [Lb 2009 w]))) (λu=>bH 8 λC _=>bt 4 18 (bH 10 λI _=>bH 3 λz _=>oN 2 11 0 z (bN 9 5 [33] 38 (cM 9 33 (bu 5) (bu 5)) λJ=>bt 2 38 bg (bB 8 λL _=>bN 10 9 [12,46] 55 (bt 10 46 (bu 9) (bH 5 λO _=>bu 3)) λQ=>bt 2 55 (nS 6 2009 59 60 λS _=>bg) bg))) bg) (λw=>bg)))
def jF(B:Z4)(D:Zg)(p2:Pred)(r:(Z4×(Zg)×Pred)->QR):QR:=bl (p2.kind==1) (some p2.n) (bl (p2.kind==2) ((kg B p2.proc p2.name).bind λS=>(idx D p2.proc).bind λT=>(gD B p2.proc S T).bind λU=>some U) (bl (p2.kind==3) ((idx D p2.proc).bind λW=>some W) (bl (p2.kind==4) ((iy B D p2.proc p2.peer).bind λX=>some (len X)) (bl (p2.kind==5) ((idx p2.l 0).bind λY=>(r (B,D,Y)).bind λZ=>some (wrap .i64 (0-Z))) (bl (p2.kind==6) ((idx p2.l 0).bind λa=>(r (B,D,a)).bind λb=>(idx p2.l 1).bind λu=>(r (B,D,u)).bind λw=>some (wrap .i64 (b+w))) (bl (p2.kind==7) ((idx p2.l 0).bind λz=>(r (B,D,z)).bind λC=>(idx p2.l 1).bind λG=>(r (B,D,G)).bind λI=>some (wrap .i64 (C-I))) ((idx p2.l 0).bind λJ=>(r (B,D,J)).bind λL=>(idx p2.l 1).bind λO=>(r (B,D,O)).bind λQ=>some (wrap .i64 (L*Q)))))))))
theorem Cz(r:(Z4×(Zg)×Pred)->QR)(a:eD Sy cL 16 (λz:Z4×(Zg)×Pred=>[enc z.1,enc z.2.1,enc z.2.2]) (λr:Int=>[.int .i64 r]) r true)(B:Z4)(D:Zg)(p2:Pred):Le ((jF B D p2 r).bind λr=>some [.int .i64 r]) (gN cL 16 [enc B,enc D,enc p2]):=(Fc.M 16 [enc B,enc D,enc p2] (b9 2 3 B (b9 0 5 p2 (bt 17 9 bg (bt 7 13 (cr 11 λX _=>bH 3 λY _=>cr 1 λZ _=>bg) (bt 7 30 (bH 6 λb _=>bg) (bt 7 37 (bB 9 λJ _=>bZ 0 J bg) (bt 7 47 (dG 7 52 (Pred.eE p2.l) (bH 0 λL _=>cr (F:=Fc.of (B,D,L) a) 1 λc _=>bg)) (bt 7 57 (dG 7 62 (Pred.eE p2.l) (bH 0 λO _=>cr (F:=Fc.of (B,D,O) a) 1 λd _=>dG 4 69 (Pred.eE p2.l) (bH 0 λu _=>cr (F:=Fc.of (B,D,u) a) 1 λQ _=>bg))) (bt 7 74 (dG 7 79 (Pred.eE p2.l) (bH 0 λw _=>cr (F:=Fc.of (B,D,w) a) 1 λS _=>dG 4 86 (Pred.eE p2.l) (bH 0 λC _=>cr (F:=Fc.of (B,D,C) a) 1 λT _=>bg))) (dG 10 94 (Pred.eE p2.l) (bH 0 λG _=>cr (F:=Fc.of (B,D,G) a) 1 λU _=>dG 4 101 (Pred.eE p2.l) (bH 0 λI _=>cr (F:=Fc.of (B,D,I) a) 1 λW _=>bg)))))))))))):Fc Sy cL (jF B D p2 r)).F.h ()
def jZ(B:Z4)(D:Zg)(p2:Pred):QR:=dA (λr(z:Z4×(Zg)×Pred)=>jF z.1 z.2.1 z.2.2 r) 100000 (B,D,p2)
instance Vw(B:Z4)(D:Zg)(p2:Pred):Fc Sy cL (jZ B D p2):=Fc.of (B,D,p2) (eD.fix (A:=λz:Z4×(Zg)×Pred=>[enc z.1,enc z.2.1,enc z.2.2]) (E:=λr:Int=>[.int .i64 r]) (sc:=true) (b:=(λr(z:Z4×(Zg)×Pred)=>jF z.1 z.2.1 z.2.2 r)) Zae (λ_ _=>rfl) (λr a z=>Cz r a z.1 z.2.1 z.2.2) 100000)
def jB(B:Z4)(D:Zg)(p2:Pred)(r:(Z4×(Zg)×Pred)->a_ X'):a_ X':=bl (p2.kind==9) ((idx p2.l 0).bind λa=>(jZ B D a).bind λb=>(idx p2.l 1).bind λc=>(jZ B D c).bind λd=>some (b==d)) (bl (p2.kind==10) ((idx p2.l 0).bind λe=>(jZ B D e).bind λf=>(idx p2.l 1).bind λg=>(jZ B D g).bind λh=>some (!(f==h))) (bl (p2.kind==11) ((idx p2.l 0).bind λi=>(jZ B D i).bind λu=>(idx p2.l 1).bind λw=>(jZ B D w).bind λz=>some (decide (u<z))) (bl (p2.kind==12) ((idx p2.l 0).bind λC=>(jZ B D C).bind λG=>(idx p2.l 1).bind λI=>(jZ B D I).bind λJ=>some (decide (G<=J))) (bl (p2.kind==13) (some true) (bl (p2.kind==15) ((idx p2.l 0).bind λL=>(r (B,D,L)).bind λO=>some (!O)) (bl (p2.kind==16) ((idx p2.l 0).bind λQ=>(r (B,D,Q)).bind λS=>(bl S ((idx p2.l 1).bind λT=>(r (B,D,T)).bind λU=>some U) (some false):a_ X').bind λW=>some W) (bl (p2.kind==17) ((idx p2.l 0).bind λX=>(r (B,D,X)).bind λY=>(bl Y (some true) ((idx p2.l 1).bind λZ=>(r (B,D,Z)).bind λj=>some j):a_ X').bind λk=>some k) (some false))))))))
theorem CC(r:(Z4×(Zg)×Pred)->a_ X')(a:eD Sy cL 17 (λz:Z4×(Zg)×Pred=>[enc z.1,enc z.2.1,enc z.2.2]) (λr:X'=>[.bool r]) r true)(B:Z4)(D:Zg)(p2:Pred):Le ((jB B D p2 r).bind λr=>some [.bool r]) (gN cL 17 [enc B,enc D,enc p2]):=(Fc.M 17 [enc B,enc D,enc p2] (b9 2 3 B (b9 0 5 p2 (bt 17 9 (dG 7 14 (Pred.eE p2.l) (bH 0 λb _=>cr 1 λc _=>dG 4 21 (Pred.eE p2.l) (bH 0 λd _=>cr 1 λe _=>bg))) (bt 7 26 (dG 7 31 (Pred.eE p2.l) (bH 0 λf _=>cr 1 λg _=>dG 4 38 (Pred.eE p2.l) (bH 0 λh _=>cr 1 λi _=>bg))) (bt 7 43 (dG 7 48 (Pred.eE p2.l) (bH 0 λj _=>cr 1 λO _=>dG 4 55 (Pred.eE p2.l) (bH 0 λQ _=>cr 1 λS _=>bg))) (bt 7 60 (dG 7 65 (Pred.eE p2.l) (bH 0 λT _=>cr 1 λU _=>dG 4 72 (Pred.eE p2.l) (bH 0 λW _=>cr 1 λX _=>bg))) (bt 7 77 bg (bt 7 79 (dG 7 84 (Pred.eE p2.l) (bH 0 λC _=>cr (F:=Fc.of (B,D,C) a) 1 λY _=>bg)) (bt 7 89 (dG 7 94 (Pred.eE p2.l) (bH 0 λG _=>cr (F:=Fc.of (B,D,G) a) 1 λZ _=>Aj 1 8 [105,97] (λu=>(bK [Iv 8 p2.kind,Bv 9 false,Bv 26 false,Bv 43 false,Bv 60 false,Bv 77 false,Bv 79 false,Bv 89 true,Bv 106 u] [Xb 3 B,Xb 5 p2])) (bt 1 98 (dG 4 102 (Pred.eE p2.l) (bH 0 λI _=>cr (F:=Fc.of (B,D,I) a) 1 λk _=>bu 1)) (bu 8)) λu=>bg)) (bt 7 107 (dG 7 112 (Pred.eE p2.l) (bH 0 λJ _=>cr (F:=Fc.of (B,D,J) a) 1 λl _=>Aj 1 8 [123,115] (λw=>(bK [Bv 9 false,Bv 26 false,Bv 43 false,Bv 60 false,Bv 77 false,Bv 79 false,Bv 89 false,Bv 107 true,Bv 124 w] [Xb 3 B,Xb 5 p2])) (bt 1 116 (bu 8) (dG 4 120 (Pred.eE p2.l) (bH 0 λL _=>cr (F:=Fc.of (B,D,L) a) 1 λm _=>bu 1))) λw=>bg)) bg)))))))))):Fc Sy cL (jB B D p2 r)).F.h ()
def pq(B:Z4)(D:Zg)(p2:Pred):a_ X':=dA (λr(z:Z4×(Zg)×Pred)=>jB z.1 z.2.1 z.2.2 r) 100000 (B,D,p2)
instance Ul(B:Z4)(D:Zg)(p2:Pred):Fc Sy cL (pq B D p2):=Fc.of (B,D,p2) (eD.fix (A:=λz:Z4×(Zg)×Pred=>[enc z.1,enc z.2.1,enc z.2.2]) (E:=λr:X'=>[.bool r]) (sc:=true) (b:=(λr(z:Z4×(Zg)×Pred)=>jB z.1 z.2.1 z.2.2 r)) Zae (λ_ _=>rfl) (λr a z=>CC r a z.1 z.2.1 z.2.2) 100000)
namespace gZ
def bn(U:Zb)(G:Z4)(J:Pred)(B:Sl X')(D:Int):a_ (Fw ((Sl X')×Int) (Sl X') Empty):=bl (decide (D<(len U))) ((idx U D).bind λu=>(pq G u J).bind λw=>(eU B (w:X')).bind λz=>some (.n (z,wrap .i64 (D+1)))) (some (.x B))
def W1(U:Zb)(B:Sl X')(D:Int)(G:Z4)(J:Pred):a_ ((Sl X')×(Zb)×Int):=(bQ (λq:(Sl X')×Int=>bn U G J q.1 q.2) (B,D)).bind (Fw.elim (λe=>some (e,U,0)) (λe=>elim e))
end gZ
def gZ(B:Z4)(p1:Pred):a_ ((Sl X')×(Zb)×Int):=(yN B p1 2).bind λu=>bl (u==0) ((qM p1).bind λz=>bl z (some (Sl.nil,Sl.nil,15)) ((eT B).bind λw=>bl w.2 (gZ.W1 w.1 (Sl.nil:Sl X') 0 B p1) (some (Sl.nil,Sl.nil,16)))) (some (Sl.nil,Sl.nil,u))
open gZ in
instance Ur(B:Z4)(p1:Pred):Fc Sy cL (gZ B p1):=Fc.N 29 [enc B,enc p1] (b9 2 2 B (b9 0 3 p1 (bB 10 λC _=>cM 9 16 (bB 7 λD _=>bt 2 19 bg (bB 6 λu _=>cM 14 26 (fK 17 (λw=>(bK [Pv 2,Pv 3,Cv 8 u.1,Ov 10,Iv 11 w.2] [Xb 2 B,Xb 3 p1,Lb 2010 w.1])) (λz=>(0,(bK [Cv 8 u.1,Ov 10] [Lb 2010 z]))) (λw=>bZ 7 u.1 (bt 3 30 (bH 10 λG _=>cr 2 λI _=>nS 1 2010 41 42 λJ _=>bg) bg)) (λz=>bg)) bg)) bg)))
namespace iK
def bn(J:Sl X')(G:Zb)(U:Int)(B:Zb)(D:Int):a_ (Fw ((Zb)×Int) Zb Empty):=bl (decide (D<(len J))) ((idx J D).bind λu=>bl u ((idx G D).bind λw=>(eU B (w:Zg)).bind λz=>some (.n (z,wrap .i64 (D+1)))) (some (.n (B,wrap .i64 (D+1))))) (some (.x B))
def W1(U:Sl X')(B:Zb)(J:Int)(D:Zb)(G:Int):a_ ((Zb)×Int):=(bQ (λq:(Zb)×Int=>bn U B J q.1 q.2) (D,G)).bind (Fw.elim (λe=>some (e,J)) (λe=>elim e))
end iK
def iK(B:Z4)(p1:Pred):a_ ((Zb)×Int):=(gZ B p1).bind λu=>iK.W1 u.1 u.2.1 u.2.2 (Sl.nil:Zb) 0
open iK in
instance UM(B:Z4)(p1:Pred):Fc Sy cL (iK B p1):=Fc.N 30 [enc B,enc p1] (b9 2 2 B (b9 0 3 p1 (bB 8 λu _=>fK 23 (λw=>(bK [Cv 6 u.1,Cv 7 u.2.1,Iv 8 u.2.2,Ov 9,Iv 10 w.2] [Lb 2009 w.1])) (λz=>(0,(bK [Iv 8 u.2.2,Ov 9] [Lb 2009 z]))) (λw=>bZ 7 u.1 (bt 3 21 (bH 9 λD _=>bt 3 27 (bH 5 λC _=>ze 1 33 ([C]:aZ Zg) (nS 0 2009 33 34 λG _=>bg)) bg) bg)) (λz=>bg))))
namespace fE
def bn(D G:Sl X')(J:Int)(B:Int):a_ (Fw Int Unit Unit):=bl (decide (B<J)) ((idx D B).bind λu=>(idx G B).bind λw=>bl (u==w) (some (.n (wrap .i64 (B+1)))) (some (.r ()))) (some (.x ()))
def W1(B D:Sl X')(G J:Int):a_ X':=(bQ (λq:Int=>bn B D G q) J).bind (Fw.elim (λe=>some true) (λe=>some false))
end fE
def fE(B D:Sl X'):a_ X':=bl ((len B)==(len D)) (fE.W1 B D (len B) 0) (some false)
open fE in
instance Od(B D:Sl X'):Fc Sy cL (fE B D):=Fc.M 31 [enc B,enc D] (bZ 9 B (bZ 1 D (cM 3 10 (bZ 7 B (dH 5 (λw=>(bK [Cv 0 B,Cv 1 D,Iv 12 (len B),Iv 13 w] [])) (λu=>(0,(bK [] []))) (λu=>(bK [Bv 4 false] [])) (λw=>bt 7 14 (bH 15 λz _=>bH 3 λC _=>cM 4 24 bg bg) bg) (λu=>bg) (λu=>bg))) bg)))
namespace dW
def bV(a0 J:Zb)(D:Int)(B:Int):a_ (Fw Int Unit Unit):=(idx a0 D).bind λu=>bl (decide (B<(len u))) ((idx a0 D).bind λw=>(idx w B).bind λz=>(idx J D).bind λC=>(idx C B).bind λG=>bl (z==G) (some (.n (wrap .i64 (B+1)))) (some (.r ()))) (some (.x ()))
def W2(a0 D:Zb)(B G:Int):a_ (Fw Int Unit Unit):=(bQ (λq:Int=>bV a0 D B q) G).bind (Fw.elim (λe=>some (.n (wrap .i64 (B+1)))) (λe=>some (.r ())))
def bn(a0 D:Zb)(B:Int):a_ (Fw Int Unit Unit):=bl (decide (B<(len a0))) ((idx a0 B).bind λu=>(idx D B).bind λw=>bl ((len u)==(len w)) (W2 a0 D B 0) (some (.r ()))) (some (.x ()))
def W1(a0 B:Zb)(D:Int):a_ X':=(bQ (λq:Int=>bn a0 B q) D).bind (Fw.elim (λe=>some true) (λe=>some false))
end dW
def dW(a0 B:Zb):a_ X':=bl ((len a0)==(len B)) (dW.W1 a0 B 0) (some false)
open dW in
instance PW(a0 B:Zb):Fc Sy cL (dW a0 B):=Fc.M 32 [enc a0,enc B] (bZ 9 a0 (bZ 1 B (cM 3 11 (dH 11 (λu=>(bK [Cv 0 a0,Cv 1 B,Iv 5 u] [])) (λw=>(0,(bK [] []))) (λw=>(bK [Bv 4 false] [])) (λu=>bZ 6 a0 (bt 3 15 (bH 10 λD _=>bZ 1 D (bH 2 λG _=>bZ 1 G (cM 3 28 (dH 10 (λC=>(bK [Cv 0 a0,Cv 1 B,Iv 5 u,Iv 6 C] [])) (λz=>(2,(bK [Cv 0 a0,Cv 1 B,Iv 5 u] []))) (λz=>(bK [Bv 4 false] [])) (λC=>bH 7 λI _=>bZ 1 I (bt 3 35 (bH 9 λJ _=>bH 2 λL _=>bH 3 λO _=>bH 2 λQ _=>cM 4 52 bg bg) bg)) (λz=>bg) (λz=>bg)) bg))) bg)) (λw=>bg) (λw=>bg)) bg)))
def mD(B:Z4)(p1:Pred):a_ X':=(xG).bind λO=>bl O ((wO B).bind λQ=>(bl Q (some true) ((vg p1).bind λS=>some S):a_ X').bind λT=>(bl T (some true) ((jr B).bind λU=>some U):a_ X').bind λW=>bl W (some true) ((uH B p1).bind λw=>(fL B p1).bind λz=>(gZ B p1).bind λC=>(iK B p1).bind λu=>(fE w.1 C.1).bind λD=>(bl D (some (w.2==C.2.2)) (some false):a_ X').bind λG=>(bl G ((dW z.1 u.1).bind λI=>some I) (some false):a_ X').bind λJ=>(bl J (some (z.2==u.2)) (some false):a_ X').bind λL=>some L)) (some false)
instance ya(B:Z4)(p1:Pred):Fc Sy cL (mD B p1):=Fc.M 7 [enc B,enc p1] (b9 2 2 B (b9 0 3 p1 (bB 6 λI _=>cM 3 15 (bB 7 λJ _=>bN 1 3 [18] 21 (bt 1 18 (bu 3) (bB 1 λL _=>bu 1)) λO=>bN 1 3 [22] 25 (bt 1 22 (bu 3) (bB 1 λQ _=>bu 1)) λS=>bt 2 25 bg (bB 7 λT _=>bB 11 λU _=>bB 11 λW _=>bB 13 λu _=>bB 11 λw _=>bN 1 4 [6,11,54] 58 (bt 1 54 (bu 4) (bu 4)) λz=>bN 1 4 [7,12,59] 63 (bt 1 59 (bB 2 λC _=>bu 1) (bu 4)) λD=>bN 1 4 [8,13,64] 68 (bt 1 64 (bu 4) (bu 4)) λG=>bg)) bg)))
end
end Go.VE
