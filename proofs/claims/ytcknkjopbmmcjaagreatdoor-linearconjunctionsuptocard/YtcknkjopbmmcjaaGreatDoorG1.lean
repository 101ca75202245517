/-
 Each function of the program that the law reaches: its plain form, and that it comes to that.
-/
import Derived.Test.YtcknkjopbmmcjaaGreatDoorK1
import Derived.Test.YtcknkjopbmmcjaaGreatDoorT1
set_option linter.all false
noncomputable section
open List(all_cons all_nil cons_append map_append map_cons map_nil mem_map mem_of_getElem? replicate)
open Go.IntKind(signed wrap)
open Nat(beq ble reduceEqDiff zero_add)
open Empty(elim)
open ByteArray(toList)
namespace Go.VE
theorem Zae{p:Prop}(h:p:=by kernel_rfl):p:=h
structure Var where
 name:ByteArray
 init_:Int
 deriving Inhabited
instance:bH Var where
 cells x:=[.str x.name,.int .i64 x.init_]
 agg:=true
 size:=2
 len _:=rfl
 good x:=by simp only[V.cM,V.good,kC,Bool.and_self]
 one x:=by simp only[all_cons,all_nil,nV,mg,nO,mU,Bool.and_self]
 plain h:=by cases h
structure Assign where
 var:Int
 value:Int
 deriving Inhabited
instance:bH Assign where
 cells x:=[.int .i64 x.var,.int .i64 x.value]
 agg:=true
 size:=2
 len _:=rfl
 good x:=by simp only[V.cM,V.good,kC,Bool.and_self]
 one x:=by simp only[all_cons,all_nil,nV,mg,nO,mU,Bool.and_self]
 plain h:=by cases h
structure Event where
 kind:Int
 peer:Int
 message:Int
 time:Int
 assign:Sl Assign
 deriving Inhabited
abbrev WF:=Event
instance:bH WF where
 cells x:=[.int .i64 x.kind,.int .i64 x.peer,.int .i64 x.message,.int .i64 x.time,enc x.assign]
 agg:=true
 size:=5
 len _:=rfl
 good x:=by simp only[V.cM,V.good,kC,Bool.and_self]
 one x:=by simp only[all_cons,all_nil,nV,mg,nO,mU,Bool.and_self]
 plain h:=by cases h
structure bW where
 name:ByteArray
 vars:Sl Var
 events:Sl Event
 deriving Inhabited
instance:bH bW where
 cells x:=[.str x.name,enc x.vars,enc x.events]
 agg:=true
 size:=3
 len _:=rfl
 good x:=by simp only[V.cM,V.good,kC,Bool.and_self]
 one x:=by simp only[all_cons,all_nil,nV,mg,nO,mU,Bool.and_self]
 plain h:=by cases h
structure Trace where
 procs:Sl bW
 deriving Inhabited
abbrev Z4:=Trace
instance:bH Z4 where
 cells x:=[enc x.procs]
 agg:=true
 size:=1
 len _:=rfl
 good x:=by simp only[V.cM,V.good,kC,Bool.and_self]
 one x:=by simp only[all_cons,all_nil,nV,mg,nO,mU,Bool.and_self]
 plain h:=by cases h
structure Pred where
 kind:Int
 n:Int
 proc:Int
 peer:Int
 name:ByteArray
 l:Sl Pred
abbrev T':=Pred
mutual
def Pred.VH:T'->So
 |⟨f0,f1,f2,f3,B,f5⟩=>[.int .i64 f0,.int .i64 f1,.int .i64 f2,.int .i64 f3,.str B,Pred.Fp f5]
def Pred.Fp:Sl T'->V
 |.nil=>.bM|.emp=>.dX|.row l=>.fsl 6 (Pred.Fj l)|.part l=>.fsl 6 (Pred.Fj l)
def Pred.Fj:aZ T'->S'
 |[]=>[]|x::r=>Pred.VH x::Pred.Fj r
end
instance:Inhabited T':=⟨⟨default,default,default,default,default,Sl.nil⟩⟩
mutual
theorem Pred.Xx:∀x:T',V.cM x.VH=true
 |⟨f0,f1,f2,f3,B,f5⟩=>by simp only[Pred.VH,V.cM,V.good,Pred.JO,Bool.and_self]
theorem Pred.JO:∀x:Sl T',V.good (Pred.Fp x)=true
 |.nil=>rfl|.emp=>rfl|.row l=>by simp only[Pred.Fp,V.good,Pred.DP]|.part l=>by simp only[Pred.Fp,V.good,Pred.DP]
theorem Pred.DP:∀x:aZ T',V.oO (Pred.Fj x)=true
 |[]=>rfl|x::r=>by simp only[Pred.Fj,V.oO,Pred.Xx,Pred.DP,Bool.and_self]
end
theorem Pred.VU(s:Sl T'):V.one (Pred.Fp s)=true:=by cases s<;>simp[Pred.Fp,V.one]
instance:bH T' where
 cells x:=[.int .i64 x.kind,.int .i64 x.n,.int .i64 x.proc,.int .i64 x.peer,.str x.name,Pred.Fp x.l]
 agg:=true
 size:=6
 len _:=rfl
 good x:=by simp only[V.cM,V.good,Pred.JO,Bool.and_self]
 one x:=by simp only[all_cons,all_nil,nV,mg,nO,Pred.VU,Bool.and_self]
 plain h:=by cases h
theorem Pred.RA(x:T'):Pred.VH x=cells x:=by cases x;rfl
theorem Pred.DO:∀l:aZ T',Pred.Fj l=rows l
 |[]=>rfl|x::r=>by rw[Pred.Fj,Pred.DO r,Pred.RA];rfl
theorem Pred.lX(s:Sl T'):Pred.Fp s=enc s:=by cases s with|nil=>rfl|emp=>rfl|row l=>show V.fsl 6 (Pred.Fj l)=V.fsl 6 (rows l);rw[Pred.DO]|part l=>show V.fsl 6 (Pred.Fj l)=V.fsl 6 (rows l);rw[Pred.DO]
structure bG where
 from_:bf
 to_:bf
 deriving Inhabited
instance:bH bG where
 cells x:=[.int .i64 x.from_.proc,.int .i64 x.from_.index,.int .i64 x.to_.proc,.int .i64 x.to_.index]
 agg:=true
 size:=4
 len _:=rfl
 good x:=by simp only[V.cM,V.good,kC,Bool.and_self]
 one x:=by simp only[all_cons,all_nil,nV,mg,nO,mU,Bool.and_self]
 plain h:=by cases h
structure bT where
 low:Int
 high:Int
 deriving Inhabited
instance:bH bT where
 cells x:=[.int .i64 x.low,.int .i64 x.high]
 agg:=true
 size:=2
 len _:=rfl
 good x:=by simp only[V.cM,V.good,kC,Bool.and_self]
 one x:=by simp only[all_cons,all_nil,nV,mg,nO,mU,Bool.and_self]
 plain h:=by cases h
structure bS where
 t:Trace
 counts:Sl Int
 values:Sl (Sl Int)
 deriving Inhabited
instance:bH bS where
 cells x:=[enc x.t.procs,enc x.counts,enc x.values]
 agg:=true
 size:=3
 len _:=rfl
 good x:=by simp only[V.cM,V.good,kC,Bool.and_self]
 one x:=by simp only[all_cons,all_nil,nV,mg,nO,mU,Bool.and_self]
 plain h:=by cases h
structure cE where
 lengths:Sl Int
 need:Sl (Sl bf)
 deriving Inhabited
instance:bH cE where
 cells x:=[enc x.lengths,enc x.need]
 agg:=true
 size:=2
 len _:=rfl
 good x:=by simp only[V.cM,V.good,kC,Bool.and_self]
 one x:=by simp only[all_cons,all_nil,nV,mg,nO,mU,Bool.and_self]
 plain h:=by cases h
structure ck where
 t:Trace
 l:Sl (Sl Int)
 index:EW ByteArray Int
 truth:Sl Bool
 deriving Inhabited
instance:bH ck where
 cells x:=[enc x.t.procs,enc x.l,enc x.index,enc x.truth]
 agg:=true
 size:=4
 len _:=rfl
 good x:=by simp only[V.cM,V.good,kC,Bool.and_self]
 one x:=by simp only[all_cons,all_nil,nV,mg,nO,mU,Gz,Bool.and_self]
 plain h:=by cases h
def jD(p:Int):Int->aZ WF->aZ (bf×WF)
 |_,[]=>[]|j,e::r=>(⟨p,j+1⟩,e)::jD p (j+1) r
def gG:Int->aZ bW->aZ (bf×WF)
 |_,[]=>[]|i,p::r=>jD i 0 p.events.l++gG (i+1) r
def qm(n:Nat):X':=decide (n<9223372036854775807)
def jU(t:Z4):a_ (aZ (bf×WF)):=if qm t.procs.l.length&&t.procs.l.all λp=>qm p.events.l.length then some (gG 0 t.procs.l)else none
def AG:cz 22 Int:=⟨Go.Proofs.YtcknkjopbmmcjaaGreatDoor.FY,rfl⟩
end Go.VE
namespace Go.VE
def U6:Nat->Nat->Nat->ST
 |0,_,_=>[]|f+1,i,m=>bif m % 2==1 then i::U6 f (i+1) (m / 2)else U6 f (i+1) (m / 2)
def gK(g m:Nat)(l:ST:=[]):Gh:=.keep (U6 128 0 g) (U6 128 0 m++l)
def g2(n g m:Nat)(l:ST:=[]):Nat×QR×QR:=(n,[gK g m l],[gK g m l])
def g1(n g m:Nat)(l:ST:=[]):Nat×QR×QR:=(n,[gK g m l],[])
def G2(n:Nat)(x:QR):Nat×QR×QR:=(n,x,x)
def G1(n:Nat)(x:QR):Nat×QR×QR:=(n,x,[])
def cS(i n:Nat):Gh:=.canon (.s i) (2000+i) n
def cC(i j n:Nat):Gh:=.canon (.c i j) (4000+20*i+j) n
def e0(n m:Nat):Nat×GD:=(n,⟨m,[],[]⟩)
def e1(n m:Nat)(l:aZ (Nat×QR×QR)):Nat×GD:=(n,⟨m,[],l⟩)
def Po:aZ (Nat×GD):=[ e0 88 0x26c4444026402201,e0 89 0x26442201,e1 61 0x222064c002644c00222600620000644402644022201 [g1 8 4 0,g2 14 9 0,g1 20 0 0,g1 28 4 0,g1 33 4 0],e0 62 0x26442201,e1 34 0x2222222022226020222062260202260206000022226020622000022202220620226020600002220202602012 [g1 10 16 0,g2 16 102 36,g1 22 32 32,g1 30 16 0,g1 39 16 0,g2 45 160 32,g1 51 32 32,g1 60 16 0,g2 66 416 32,g1 72 160 32,g1 80 16 0,g1 88 16 0,g1 97 16 0,g1 101 16 0],e1 35 0x2222220620226020600006444026c444c04040222020260206220000222006cc44c4444c04040440264402220064402644026c04026c44040264402644022200644022202202026022602012 [g1 13 64 0,g1 20 64 0,g1 22 142 136,g1 28 64 0,g1 36 64 0,g2 42 394 136,g1 48 0 0,g1 59 64 0,g2 64 1930 648,g1 70 394 136,g1 78 64 0,g1 84 64 0],e0 63 0x2262222262022022,e1 64 0x20222222262226c0442602020260226020622260200062200002 [g2 6 206 72,g1 12 64 64,g2 18 462 72,g1 24 206 72,g1 34 64 64,g1 40 64 64],e1 36 0x2222226cc40444cc4040444022202602262020622262020000220060e20200022020600122 [g2 30 236 44,g1 36 64 0],e1 37 0x22206222602026006220002222203622000622262002062202202026260022602062226020260062200002222012 [G2 6 [cS 3 1,gK 10 2 [2003]],G2 14 [cS 3 1,gK 58 2 [2003]],G1 20 [cS 3 1,gK 26 2 [2003]],G2 24 [cS 3 1,gK 58 2 [2003]],G1 30 [cS 3 1,gK 58 2 [2003]],G1 43 [cS 3 1,gK 58 2 [2003]],G1 46 [cS 3 1,gK 42 2 [2003]],G1 53 [cS 3 1,gK 10 2 [2003]],G2 59 [cS 3 1,gK 266 2 [2003]],g1 65 0 0,g1 73 4 0,g1 78 4 0],e1 65 0x22262622222202062026262202022200122 [G1 10 [cS 5 2,gK 44 12 [2005]]],e1 18 0x202222220222620260600206200622260200062200002020222222222220260020620062226020006220002222222226222202e0006222602000622000222222222026006220000206444022220102 [g1 8 12 4,g2 14 22 6,g1 20 6 6,g1 30 12 4,g2 37 70 6,g1 43 6 6,g2 49 198 6,g1 55 70 6,g1 65 12 4,g2 73 518 6,g1 79 6 6,g2 85 1542 6,g1 91 518 6,g1 103 12 4,g1 113 12 4,g2 119 8198 6,g1 125 4 4,g2 131 24582 6,g1 137 8198 6,g1 147 12 4,g1 153 12 4],e0 5 0x2222302022212,e0 20 0x22e222212,e0 19 0x226221,e1 39 0x22226260002000201 [G2 6 [.drop [2,3,4,5,6,9,10,11,12,13,14,15,16,17,18]],G1 12 [.drop [0,1,2,3,4,5,6,7,8,9,10,11,12,13,14,15,16,17,18]],G1 22 [.drop [0,1,2,3,5,6,7,8,9,10,11,12,13,14,15,16,17,18]],G1 27 [.drop [0,1,2,3,5,6,7,8,9,10,11,12,13,14,15,16,17,18]]],(6,⟨0x264cc442644402640222203222001222,[(27,[.canon (.s 4) 9001 0,.closeB 5])],[]⟩),e0 120 0x26c4426201,e0 168 0x26c4444026402201,e0 169 0x26442201,e1 148 0x22064c402644c00222600200020064440264402201 [g1 8 4 0,g2 14 786433 0,g1 20 0 0,g1 30 4 0,g1 35 4 0],e0 150 0x26222212,e1 170 0x22226260002000201 [g2 6 387 0,g1 12 0 0,g1 22 16 0,g1 27 16 0],e0 149 0x226221,e0 151 0x26222212,e1 135 0x22226260002000201 [g2 6 387 0,g1 12 0 0,g1 22 16 0,g1 27 16 0],e0 128 0x226221,e1 121 0x222222022222026c0c4402222022020000020022220026c0c44422220202602012 [g1 11 16 0,g1 17 16 0,g2 23 30064771104 32,g1 29 32 32,g1 40 16 0,g1 46 16 0,g1 55 16 0,g1 59 16 0],e0 122 0x2212,e1 153 0x2644426c4402622222022202644422202020122 [g1 18 524330 40],e0 155 0x26222212,e1 171 0x22226260002000201 [g2 6 387 0,g1 12 0 0,g1 22 16 0,g1 27 16 0],e0 154 0x226221,e1 123 0x2202626220026444022622202022020000020022220026c44022220022e02222226220202200202620201222 [g1 12 440 184,g1 19 64 0,g1 25 64 0,g1 31 64 0,g2 37 31525197391593632 160,g1 43 0 0,g1 54 64 0,g1 60 64 0,g1 65 64 0],e0 172 0x26c44426c440222012,e1 75 0x22226260002000201 [g2 6 387 0,g1 12 0 0,g1 22 16 0,g1 27 16 0],e0 45 0x226221,e0 156 0x2662262221222,e1 124 0x2202326222002202001ef200220022022226200223262220022022226200202022020202020200002 [(8,[gK 4158 1086],[gK 0 1086]),g1 27 0 1086,g1 39 0 1086,g1 47 0 1086,g1 53 28 1052],e1 157 0x222622262222264444c4400222020262222262622020262020222620220122 [G1 12 [cS 7 2,gK 418 32 [2007]]],e1 125 0x20222622230026000226002020000e200262220202622002202202020200022 [(6,[gK 8252 60],[gK 0 60]),G2 14 [cS 8 2,gK 8700 65660 [2008]],g1 20 8252 60,G2 29 [cS 8 2,gK 481036345852 65660 [2008]],G1 35 [cS 8 2,gK 8700 65660 [2008]],g1 46 0 60,g1 58 48 48],e1 90 0x20022222020262222222022202002202222202e2002020202222222202600200022002022220002 [g1 8 12 12,g2 14 12582926 14,g1 20 14 14,g1 32 12 12,(39,[gK 68719476750 14],[gK 0 14]),g1 51 0 14,g1 61 12 12,g1 71 12 12,g1 75 12 12],e0 66 0x2222302022212,e0 126 0x264426402201,e0 92 0x26c4444c4404440222006c4404440264402644026c444044026440222012,e0 93 0x22e222212,(91,⟨0x226622064402640222220122,[(20,[.closeB 5])],[]⟩),(67,⟨0x26222200012,[(5,[.canon (.s 3) 9004 0,.canon (.s 4) 9003 0])],[]⟩),e0 96 0x26c444422012,e0 129 0x2622212,e0 97 0x262226222122,e0 95 0x2644426c404026c40426200222644426440262022026001cf444042644026200202012,e0 127 0x2262212,(94,⟨0x264c4442600122,[(10,[.closeB 3])],[]⟩),e0 68 0x2622122,e0 100 0x221,e0 101 0x221,e0 99 0x2622222212,(98,⟨0x22622012,[(5,[.closeB 1])],[]⟩),e0 69 0x22212,e1 82 0x222222626002620002220012201 [g1 8 1 0,g2 14 25 0,g1 20 8 0],e1 83 0x222222626002620002220012201 [g1 8 1 0,g2 14 25 0,g1 20 8 0],e0 132 0x2622200,e1 158 0x22222226c04422202020000226222012 [g2 8 229508 0,g1 14 128 0],e0 190 0x2622212,e0 178 0x26222122,e0 173 0x220020262262220026c4400220002220112,e1 30 0x26200201 [G1 8 [.canon (.s 2) 4004 1],G1 12 [.canon (.s 2) 4004 1]],(134,⟨0x222e202202236222002020000222202000002226200222622222020000200,[(21,[.closeS (.s 25)]),(57,[.closeS (.s 54)])],[G2 6 [cS 3 1,gK 14347 0 [2003]],G1 12 [cS 3 1,gK 11 0 [2003]],g1 23 0 0,G2 28 [cS 3 1,gK 3758096393 0 [2003]],g1 34 0 0,G2 43 [cS 3 1,gK 965830770761 0 [2003]],G1 49 [cS 3 1,gK 3758096457 0 [2003]],g1 59 0 0]⟩),e0 104 0x2212,e1 174 0x22262260202220122 [(8,[cC 5 0 1,gK 552 40 [4100]],[cC 5 0 1,gK 0 40 [4100]])],e0 159 0x2222202622622220022022202e2001112,e0 130 0x26223222002e2220222e2220222222226222220222222020022,e0 131 0x26444222012,e0 160 0x262201,e0 133 0x22222622220622020260006402201,e1 102 0x22222022001ef622226202062020620202662222620202226622226202020262222202022002064422222202622202222002002202026222002222202062222201022 [g1 22 1944 664,g1 49 2064 2064],e0 103 0x2262212,(70,⟨0x226222222302026222220122,[(21,[.closeB 2])],[]⟩),e0 40 0x22622022200226000264402220122,e0 71 0x2222002220002220112,e0 41 0x6c44222222022212,e0 72 0x2262212,(42,⟨0x2262222622222200202020202020122,[(28,[.closeB 2])],[g1 24 204 12,g1 34 8204 12]⟩),e0 21 0x2622222022006c444c0444264026c440022022202600122,e1 73 0x226022222022 [(6,[gK 280 24],[gK 0 24]),g1 16 0 24,g1 20 16 16],e0 43 0x262262220026c444c0400264026c4400220002220112,e0 136 0x26222212,e0 105 0x226226222226022620220122,e0 118 0x26222221,e1 115 0x22226260002000201 [g2 6 387 0,g1 12 0 0,g1 22 16 0,g1 27 16 0],e0 80 0x226221,e0 85 0x264c4422012,e1 86 0x2206c444c440422022200000212 [g2 6 900 4,g1 12 0 0,g1 22 16 0,g1 27 16 0],e0 116 0x26c444422012,e1 147 0x200226c0442602020202202022000222 [g1 8 192 192,(14,[gK 33008 240],[gK 0 240]),g1 24 0 240,g1 28 192 192],e0 119 0x2220622102,e1 87 0x2200222202262222626200203202026220220220200000622260202220000001002 [g2 6 57398 52,g1 12 48 48,g2 20 939581622 52,g1 26 57398 52,g1 44 112 48,g1 50 112 48],e0 117 0x22223300200262212,e1 84 0x2202620220000222026202200002220262022000000260012 [g1 8 64 0,g2 14 917518 8,g1 20 14 8,g1 30 64 0,g2 37 1879048202 8,g1 43 10 8,g1 53 64 0,g2 60 3848290697224 8,g1 66 0 0,g1 76 64 0,g1 81 64 0],e0 161 0x2220622102,e1 137 0x22222622226c4c4404022222020262006c04022202020000626202260200202202e600200112 [G2 18 [cS 11 1,gK 481036339226 16 [2011]],G1 24 [cS 11 1,gK 2048 0 [2011]]],e0 106 0x22232202001ef22202220122,e0 74 0x266222226222002662222262220022266222226222002022622222202622202262222202622202222020122,e1 44 0x26c44444262220026c44444262220022226222222022222020266222226222002026622222622200202662222262220020266222226222002020122 [g1 36 147573952589676413004 12],(22,⟨0x262236302e22202036002020e222022200122,[(33,[.closeS (.c 9 1),.closeS (.c 9 2)])],[]⟩),e1 7 0x2222262001ef020022000222260200202202e0001122 [G2 18 [cS 9 1,gK 100663850 40 [2009]],G1 24 [cS 9 1,gK 512 0 [2009]]],e0 46 0x2222212,e0 47 0x222212,e0 108 0x2236226200026201,e1 138 0x22206c444c0404c0022260062000062202012 [g1 8 16 0,g2 14 38 4,g1 20 0 0,g1 28 16 0,g1 33 16 0],e1 139 0x2222220626220202062202202026022602062600006200012 [g2 6 38 4,g1 12 0 0,g2 18 102 4,g1 24 38 4,g1 39 16 0,g1 46 16 0],e0 107 0x26c44260012,e1 76 0x2222226260026cc000262226020260062000012 [G2 8 [cS 5 1,gK 102 4 [2005]],G1 14 [cS 5 1,gK 32 0 [2005]]],e1 140 0x2222226260026200001 [g2 8 25 0,g1 14 8 0],e1 109 0x222262622260262600260062000262222620201 [g1 8 16 0,g2 14 35 0,g1 20 0 0,g1 28 16 0,g1 33 16 0],e1 110 0x2220626002600620000620201 [g1 8 16 0,g2 14 35 0,g1 20 0 0,g1 28 16 0,g1 33 16 0],e1 77 0x26622226222266000226c04c00262002226c04c002620001 [g2 6 35 0,g1 12 35 0],(48,⟨0x222222222226260026200026260006200000022026022200222220112,[(7,[.closeS (.s 13)])],[G2 8 [.closeS (.s 4),cS 5 1,gK 50 2 [2005]],G1 14 [cS 5 1,gK 32 0 [2005]],G1 24 [cS 2 1,gK 12 0 [2002]],G2 32 [.closeS (.s 4),cS 5 1,gK 242 2 [2005]],G1 38 [cS 5 1,gK 98 2 [2005]],G2 46 [.closeS (.s 4),cS 5 1,gK 1010 2 [2005]],G1 52 [.closeS (.s 4),cS 5 1,gK 242 2 [2005]],G1 61 [cS 2 1,gK 12 0 [2002]]]⟩),e1 23 0x2644422222202222222202222622202202000022022022002022064442222026220220200002000222012 [g1 8 4 0,g2 16 458762 2,g1 22 10 2,g1 34 4 0,g1 43 4 0,g1 51 4 0,g2 63 246290604621888 0,g1 69 64 0,g1 81 4 0,g1 86 4 0,g1 92 4 0],e1 24 0x222222666202602006c002622000012 [g2 8 102 4,g1 14 32 0],e0 9 0x222212,(8,⟨0x26c444444026c022200122,[(9,[.canon (.s 5) 9002 0])],[]⟩),e1 10 0x22222226620260202622000020012 [g2 16 102 4,g1 22 32 0],e0 142 0x26442201,e0 141 0x2222212,e0 111 0x2644422012,(144,⟨0x2222306222030622222022262222302622022002020000200202000020002,[(53,[.closeS (.s 49)]),(59,[.closeS (.c 3 0),.closeS (.c 3 1)])],[G2 8 [cC 3 0 1,cC 3 1 1,gK 14350 14 [4060,4061]],G1 14 [cC 3 0 1,cC 3 1 1,gK 12 12 [4060,4061]],G2 25 [cS 6 2,cC 3 0 1,cC 3 1 1,gK 1849454 46 [2006,4060,4061]],G1 31 [cS 6 2,cC 3 0 1,cC 3 1 1,gK 14446 46 [2006,4060,4061]],G1 44 [cS 6 2,cC 3 0 1,cC 3 1 1,gK 1849966 558 [2006,4060,4061]]]⟩),e0 162 0x26262222020262620260220626020260012,e0 189 0x26201,e0 177 0x62206000200222202201,e1 165 0x62222222220262222620062002220000001 [g2 6 3587 0,g1 12 3 0,g1 23 16 0,g1 34 16 0,g1 43 16 0,g1 47 16 0],e0 164 0x26221,e1 16 0x2206262026002000200620201 [g1 8 16 0,g2 14 12291 0,g1 20 0 0,g1 30 16 0,g1 35 16 0],e0 167 0x26221,(145,⟨0x222302222262223622020220e0002000202200002012,[(32,[.closeS (.s 34)])],[G2 8 [cS 5 1,gK 7204 4 [2005]],G1 14 [cS 5 1,gK 32 0 [2005]],G2 22 [cS 5 1,gK 400548 4 [2005]],G1 28 [cS 5 1,gK 7204 4 [2005]]]⟩),(113,⟨0x2226202620200202620222000222222202000220112,[(16,[.closeS (.s 16)])],[G1 8 [cS 2 1,gK 12 0 [2002]],G2 20 [.closeS (.s 5),cS 6 1,gK 240 16 [2006]],G1 26 [cS 6 1,gK 64 0 [2006]],G1 37 [cS 2 1,gK 12 0 [2002]],G1 43 [cS 2 1,gK 12 0 [2002]]]⟩),e0 79 0x222222220222112,e0 50 0x222022112,e1 143 0x222226262222022200000202022026202112 [G2 18 [cS 7 2,gK 917632 0 [2007]],G1 24 [cS 7 2,gK 128 0 [2007]]],e1 112 0x22222626226220222200000202022023202600112 [G2 18 [cS 8 1,gK 7340292 4 [2008]],G1 24 [cS 8 1,gK 256 0 [2008]]],e1 78 0x22222226260e22022002202220260022000000200220222022000020200220220200220260011122 [G1 10 [cS 5 1,gK 112 0 [2005]],G1 20 [cS 5 1,gK 112 0 [2005]],G1 28 [cS 5 1,gK 112 0 [2005]],G1 38 [cS 5 1,gK 112 0 [2005]],G2 46 [cS 11 1,gK 962072676876 12 [2011]],G1 52 [cS 11 1,gK 2560 0 [2011]],G1 65 [cS 5 1,gK 112 0 [2005]],G1 71 [cS 5 1,gK 112 0 [2005]]],e0 49 0x222222320026221122,e1 58 0x22222262222220000222201 [G2 8 [cS 3 1,gK 3592 0 [2003]],G1 14 [cS 3 1,gK 8 0 [2003]]],e1 51 0x22227222222022200000222001ef200212 [g2 8 458880 36864,g1 14 128 36864],e0 25 0x2e22220220222022020220222026201122,e1 53 0x22222622222220262222203660202022260222020002260222001 [G2 8 [cS 7 1,gK 1572999 0 [2007]],G1 14 [cS 7 1,gK 128 0 [2007]]],e1 54 0x22222236662620260000020002022000022222201 [G2 8 [cS 5 1,gK 114721 0 [2005]],G1 14 [cS 5 1,gK 32 0 [2005]],G2 22 [cS 5 1,gK 6406305 0 [2005]],G1 28 [cS 5 1,gK 114721 0 [2005]]],e0 55 0x2221,e1 27 0x2222222362626202600003626200022260022260022000060036260222000260222020222222022222201 [G2 8 [cS 3 1,gK 25 0 [2003]],G1 14 [cS 3 1,gK 8 0 [2003]],G2 28 [cS 3 1,gK 30786325577753 0 [2003]],G1 34 [cS 3 1,gK 25 0 [2003]]],e0 81 0x2644cc44444444402201,e0 52 0x2262212,e0 26 0x22262200222600002260211,e0 11 0x2220622020220222026221122,e0 56 0x2221,e1 28 0x222222362626202600003626200022260022260022000060036262222000260222020002222022222201 [G2 8 [cS 3 1,gK 393225 0 [2003]],G1 14 [cS 3 1,gK 8 0 [2003]],G2 30 [cS 3 1,gK 7696581787673 0 [2003]],G1 36 [cS 3 1,gK 393225 0 [2003]]],e0 12 0x2220e22222220020220222026221122,(3,⟨0x26c444c404402620232026222320260006440264402260022226202202223202e0000260002202000002202200644026c44040222002012,[(40,[.canon (.s 8) 9002 0]),(60,[.closeS (.s 59)])],[g1 8 16 0,g1 16 16 0,g2 24 481036337188 36,g1 30 36 36,g1 43 16 0,g1 53 16 0,g1 67 16 0,g1 75 16 0]⟩)]
namespace trace_events_c1
def Dv:Rd:=[o1 20 (.s 18) [],o2 21 (ix 5) [.s 16,.s 18] [],o2 22 (lD 5) [.s 21] [21],o2 6 (.a (.alloc 5 [.int .i64 0,.int .i64 0,.int .i64 0,.int .i64 0,.bM])) [] [],o1 5 (.s 20) [20],oz (.l (.store 5)) [.s 6,.s 22] [22]]
def Be:Rd:=[o1 23 (.s 0) [],o1 24 (.s 3) [],o1 25 (.s 5) [5],o2 26 (bI .add) [.s 25,.k (.int .i64 1)] [25],o2 27 (.p (.build [.int .i64 0,.int .i64 0] [(0,1),(1,1)])) [.s 24,.s 26] [24,26],o2 28 (lD 5) [.s 6] [6],o2 29 .c [.s 23,.s 27,.s 28] [23,27,28],o2 30 (.p .not) [.s 29] [29]]
def yV:Rd:=[o2 31 (bI .add) [.s 18,.k (.int .i64 1)] [],o1 18 (.s 31) [31]]
def HE:RC:=.hg (.seq (.ops [o2 19 (bI .lss) [.s 18,.s 17] []]) (.seq (.cond (.s 19) .skip (.exit 2)) (.seq (.block 3 (.seq (.ops Dv) (.seq (.ops Be) (.cond (.s 30) .ret .skip)))) (.ops yV)))) (.keep [0,3,8,9,10,16,17,18] [])
def MS:Rd:=[o1 12 (.s 10) [],o2 13 (ix 3) [.s 8,.s 10] [],o2 14 (lD 3) [.s 13] [13],o2 4 (.a (.alloc 3 [.str ByteArray.empty,.bM,.bM])) [] [],o1 3 (.s 12) [12],oz (.l (.store 3)) [.s 4,.s 14] [14]]
def JF:Rd:=[o2 15 (fa 2) [.s 4] [],o2 16 (ld 1) [.s 15] [15],o2 17 ln [.s 16] [],o1 18 (.k (.int .i64 0)) []]
def HM:Rd:=[o2 32 (bI .add) [.s 10,.k (.int .i64 1)] [],o1 10 (.s 32) [32]]
def U2:RC:=.block 2 (.gh (.keep [0,3,8,9,10,16,17,18] []) (.loop HE))
def QF:RC:=.hg (.seq (.ops [o2 11 (bI .lss) [.s 10,.s 9] []]) (.seq (.cond (.s 11) .skip (.exit 0)) (.seq (.block 1 (.seq (.ops MS) (.seq (.ops JF) U2))) (.ops HM)))) (.keep [0,8,9,10] [])
def Qa:Rd:=[o2 7 (fa 0) [.s 1] [1],o2 8 (ld 1) [.s 7] [7],o2 9 ln [.s 8] [],o1 10 (.k (.int .i64 0)) []]
def U1:RC:=.block 0 (.gh (.keep [0,8,9,10] []) (.loop QF))
def text:RF:=⟨33,[],.seq (.ops Qa) U1⟩
section
variable{S:Sys}
abbrev I1(ps:Sl bW)(i:Int)(B:aZ (aZ V))(more:Bool)(y:Nat):St:=⟨[(0,.yl y),Cv 8 ps,Iv 9 (len ps),Iv 10 i],[],[],B,more,y⟩
abbrev I2(ps:Sl bW)(i:Int)(es:Sl Event)(j:Int)(B:aZ (aZ V))(more:Bool)(y:Nat):St:=⟨[(0,.yl y),Iv 3 i,Cv 8 ps,Iv 9 (len ps),Iv 10 i,Cv 16 es,Iv 17 (len es),Iv 18 j],[],[],B,more,y⟩
abbrev S2(ps:Sl bW)(i:Int)(es:Sl Event)(j:Int)(b:Bool)(B:aZ (aZ V))(more:Bool)(y:Nat):St:=⟨[(0,.yl y),Iv 3 i,Cv 8 ps,Iv 9 (len ps),Iv 10 i,Cv 16 es,Iv 17 (len es),Iv 18 j,Bv 19 b],[],[],B,more,y⟩
theorem YK(ps:Sl bW)(i:Int)(es:Sl WF)(j:Int)(B:S')(more:X')(y:Nat)(D:decide (j<len es)=false):
 rn S.bare pH some (.rc HE) [] (I2 ps i es j B more y)=some (.exit 2,S2 ps i es j false B more y):=by
 refine Le.get ?_;refine Kf (n:=7) (fo':=.rc (.cond (.s 19) .skip (.exit 2))) (fs':=[.seq (.seq (.block 3 (.seq (.ops Dv) (.seq (.ops Be) (.cond (.s 30) .ret .skip)))) (.ops yV)),.gst (.keep [0,3,8,9,10,16,17,18] [])]) (λb=>S2 ps i es j b B more y) D Zae ?_
 exact Le.of_eq Zae
theorem aaC(ps:Sl bW)(i:Int)(es:Sl WF)(j:Int)(e:WF)(B:S')(more:X')(y:Nat)(D:decide (j<len es)=true)(G:idx es j=some e)(J:(!(more|| !B.isEmpty))=false):
 rn S.bare pH some (.rc HE) [] (I2 ps i es j ([enc (⟨i,wrap .i64 (j+1)⟩:bf),enc e]::B) more y)=some (.norm,I2 ps i es (wrap .i64 (j+1)) B more y):=by
 refine Le.get ?_;refine Kt (n:=7) (fo':=.rc (.cond (.s 19) .skip (.exit 2))) (fs':=[.seq (.seq (.block 3 (.seq (.ops Dv) (.seq (.ops Be) (.cond (.s 30) .ret .skip)))) (.ops yV)),.gst (.keep [0,3,8,9,10,16,17,18] [])]) (λb=>S2 ps i es j b ([enc (⟨i,wrap .i64 (j+1)⟩:bf),enc e]::B) more y) D Zae ?_
 refine Sq G ?_;refine S7 8 false [] (Dv.drop 1) [.seq (.seq (.ops Be) (.cond (.s 30) .ret .skip)),.blk 3,.seq (.ops yV),.gst (.keep [0,3,8,9,10,16,17,18] [])] ⟨[(0,.yl y),Iv 3 i,Cv 8 ps,Iv 9 (len ps),Iv 10 i,Cv 16 es,Iv 17 (len es),Iv 18 j,Bv 19 true,Iv 20 j],[],[],([enc (⟨i,wrap .i64 (j+1)⟩:bf),enc e]::B),more,y⟩ .i64 rfl Zae λx a=>?_
 obtain rfl:x=e:=Zac
 refine Zd 1 false [] (Dv.drop 3) [.seq (.seq (.ops Be) (.cond (.s 30) .ret .skip)),.blk 3,.seq (.ops yV),.gst (.keep [0,3,8,9,10,16,17,18] [])] ⟨[(0,.yl y),Iv 3 i,Cv 8 ps,Iv 9 (len ps),Iv 10 i,Cv 16 es,Iv 17 (len es),Iv 18 j,Bv 19 true,Iv 20 j,Cv 22 x],[],[],([enc (⟨i,wrap .i64 (j+1)⟩:bf),enc x]::B),more,y⟩ [iv 0,iv 0,iv 0,iv 0,.v .bM] rfl (by simp only[bL,Am,rY,uz,sG,uc,vl,uh,vj,sx,ud,Ai,vq,vJ,vH,vL,xQ,xV,ua,vn,SV.dc];rfl) Zae ?_
 refine Ast 1 false [] (Dv.drop 5) [.seq (.seq (.ops Be) (.cond (.s 30) .ret .skip)),.blk 3,.seq (.ops yV),.gst (.keep [0,3,8,9,10,16,17,18] [])] ⟨[(0,.yl y),Iv 3 i,Cv 8 ps,Iv 9 (len ps),Iv 10 i,Cv 16 es,Iv 17 (len es),Iv 18 j,Bv 19 true,Cv 22 x,Pv 6,Iv 5 j],[Xb 6 (⟨0,0,0,0,.nil⟩:WF)],[],([enc (⟨i,wrap .i64 (j+1)⟩:bf),enc x]::B),more,y⟩ 6 0 x [iv 0,iv 0,iv 0,iv 0,.v .bM] ((cells x).map .v) rfl Zae ?_
 refine Kyl (n:=10) (q:=Be.drop 6) (fs':=[.seq (.cond (.s 30) .ret .skip),.blk 3,.seq (.ops yV),.gst (.keep [0,3,8,9,10,16,17,18] [])]) (st:=⟨[(0,.yl y),Iv 3 i,Cv 8 ps,Iv 9 (len ps),Iv 10 i,Cv 16 es,Iv 17 (len es),Iv 18 j,Bv 19 true,(23,.yl y),Cv 27 (⟨i,wrap .i64 (j+1)⟩:bf),Cv 28 x],[Xb 6 x],[],([enc (⟨i,wrap .i64 (j+1)⟩:bf),enc x]::B),more,y⟩) (vs:=[cv (⟨i,wrap .i64 (j+1)⟩:bf),cv x]) Zae rfl Zae Zae rfl rfl ?_
 refine Kf (n:=3) (fo':=.rc (.cond (.s 30) .ret .skip)) (fs':=[.blk 3,.seq (.ops yV),.gst (.keep [0,3,8,9,10,16,17,18] [])]) (λb=>⟨[(0,.yl y),Iv 3 i,Cv 8 ps,Iv 9 (len ps),Iv 10 i,Cv 16 es,Iv 17 (len es),Iv 18 j,Bv 19 true,Bv 30 b],[Xb 6 x],[],B,more,y⟩) J Zae ?_
 exact Le.of_eq Zae
theorem Xl(ps:Sl bW)(i:Int)(es:Sl WF)(j:Int)(e:WF)(B:S')(more:X')(y:Nat)(D:decide (j<len es)=true)(G:idx es j=some e)(J:(!(more|| !B.isEmpty))=true):
 rn S.bare pH some (.rc HE) [] (I2 ps i es j ([enc (⟨i,wrap .i64 (j+1)⟩:bf),enc e]::B) more y)=some (.ret,⟨[(0,.yl y),Iv 3 i,Cv 8 ps,Iv 9 (len ps),Iv 10 i,Cv 16 es,Iv 17 (len es),Iv 18 j,Bv 19 true,Bv 30 true],[Xb 6 e],[],B,more,y⟩):=by
 refine Le.get ?_;refine Kt (n:=7) (fo':=.rc (.cond (.s 19) .skip (.exit 2))) (fs':=[.seq (.seq (.block 3 (.seq (.ops Dv) (.seq (.ops Be) (.cond (.s 30) .ret .skip)))) (.ops yV)),.gst (.keep [0,3,8,9,10,16,17,18] [])]) (λb=>S2 ps i es j b ([enc (⟨i,wrap .i64 (j+1)⟩:bf),enc e]::B) more y) D Zae ?_
 refine Sq G ?_;refine S7 8 false [] (Dv.drop 1) [.seq (.seq (.ops Be) (.cond (.s 30) .ret .skip)),.blk 3,.seq (.ops yV),.gst (.keep [0,3,8,9,10,16,17,18] [])] ⟨[(0,.yl y),Iv 3 i,Cv 8 ps,Iv 9 (len ps),Iv 10 i,Cv 16 es,Iv 17 (len es),Iv 18 j,Bv 19 true,Iv 20 j],[],[],([enc (⟨i,wrap .i64 (j+1)⟩:bf),enc e]::B),more,y⟩ .i64 rfl Zae λx a=>?_
 obtain rfl:x=e:=Zac
 refine Zd 1 false [] (Dv.drop 3) [.seq (.seq (.ops Be) (.cond (.s 30) .ret .skip)),.blk 3,.seq (.ops yV),.gst (.keep [0,3,8,9,10,16,17,18] [])] ⟨[(0,.yl y),Iv 3 i,Cv 8 ps,Iv 9 (len ps),Iv 10 i,Cv 16 es,Iv 17 (len es),Iv 18 j,Bv 19 true,Iv 20 j,Cv 22 x],[],[],([enc (⟨i,wrap .i64 (j+1)⟩:bf),enc x]::B),more,y⟩ [iv 0,iv 0,iv 0,iv 0,.v .bM] rfl (by simp only[bL,Am,rY,uz,sG,uc,vl,uh,vj,sx,ud,Ai,vq,vJ,vH,vL,xQ,xV,ua,vn,SV.dc];rfl) Zae ?_
 refine Ast 1 false [] (Dv.drop 5) [.seq (.seq (.ops Be) (.cond (.s 30) .ret .skip)),.blk 3,.seq (.ops yV),.gst (.keep [0,3,8,9,10,16,17,18] [])] ⟨[(0,.yl y),Iv 3 i,Cv 8 ps,Iv 9 (len ps),Iv 10 i,Cv 16 es,Iv 17 (len es),Iv 18 j,Bv 19 true,Cv 22 x,Pv 6,Iv 5 j],[Xb 6 (⟨0,0,0,0,.nil⟩:WF)],[],([enc (⟨i,wrap .i64 (j+1)⟩:bf),enc x]::B),more,y⟩ 6 0 x [iv 0,iv 0,iv 0,iv 0,.v .bM] ((cells x).map .v) rfl Zae ?_
 refine Kyl (n:=10) (q:=Be.drop 6) (fs':=[.seq (.cond (.s 30) .ret .skip),.blk 3,.seq (.ops yV),.gst (.keep [0,3,8,9,10,16,17,18] [])]) (st:=⟨[(0,.yl y),Iv 3 i,Cv 8 ps,Iv 9 (len ps),Iv 10 i,Cv 16 es,Iv 17 (len es),Iv 18 j,Bv 19 true,(23,.yl y),Cv 27 (⟨i,wrap .i64 (j+1)⟩:bf),Cv 28 x],[Xb 6 x],[],([enc (⟨i,wrap .i64 (j+1)⟩:bf),enc x]::B),more,y⟩) (vs:=[cv (⟨i,wrap .i64 (j+1)⟩:bf),cv x]) Zae rfl Zae Zae rfl rfl ?_
 refine Kt (n:=3) (fo':=.rc (.cond (.s 30) .ret .skip)) (fs':=[.blk 3,.seq (.ops yV),.gst (.keep [0,3,8,9,10,16,17,18] [])]) (λb=>⟨[(0,.yl y),Iv 3 i,Cv 8 ps,Iv 9 (len ps),Iv 10 i,Cv 16 es,Iv 17 (len es),Iv 18 j,Bv 19 true,Bv 30 b],[Xb 6 x],[],B,more,y⟩) J Zae ?_
 exact Le.of_eq Zae
abbrev S1(ps:Sl bW)(i:Int)(b:Bool)(B:aZ (aZ V))(more:Bool)(y:Nat):St:=⟨[(0,.yl y),Cv 8 ps,Iv 9 (len ps),Iv 10 i,Bv 11 b],[],[],B,more,y⟩
theorem YR(ps:Sl bW)(i:Int)(B:S')(more:X')(y:Nat)(D:decide (i<len ps)=false):
 rn S.bare pH some (.rc QF) [] (I1 ps i B more y)=some (.exit 0,S1 ps i false B more y):=by
 refine Le.get ?_;refine Kf (n:=7) (fo':=.rc (.cond (.s 11) .skip (.exit 0))) (fs':=[.seq (.seq (.block 1 (.seq (.ops MS) (.seq (.ops JF) U2))) (.ops HM)),.gst (.keep [0,8,9,10] [])]) (λb=>S1 ps i b B more y) D Zae ?_
 exact Le.of_eq Zae
def UZ:QP:=[.blk 2,.blk 1,.seq (.ops HM),.gst (.keep [0,8,9,10] [])]
theorem Vj(ps:Sl bW)(i:Int)(p:bW)(B:S')(more:X')(y:Nat)(r:Out×St)(D:decide (i<len ps)=true)(G:idx ps i=some p)
 (h:rn S.bare pH some (.rc (.loop HE)) UZ (I2 ps i p.events 0 B more y)=some r):rn S.bare pH some (.rc QF) [] (I1 ps i B more y)=some r:=by
 refine Le.get ?_;refine Kt (n:=7) (fo':=.rc (.cond (.s 11) .skip (.exit 0))) (fs':=[.seq (.seq (.block 1 (.seq (.ops MS) (.seq (.ops JF) U2))) (.ops HM)),.gst (.keep [0,8,9,10] [])]) (λb=>S1 ps i b B more y) D Zae ?_
 refine Sq G ?_;refine S7 8 false [] (MS.drop 1) [.seq (.seq (.ops JF) U2),.blk 1,.seq (.ops HM),.gst (.keep [0,8,9,10] [])] ⟨[(0,.yl y),Cv 8 ps,Iv 9 (len ps),Iv 10 i,Bv 11 true,Iv 12 i],[],[],B,more,y⟩ .i64 rfl Zae λx a=>?_
 obtain rfl:x=p:=Zac
 refine Zd 1 false [] (MS.drop 3) [.seq (.seq (.ops JF) U2),.blk 1,.seq (.ops HM),.gst (.keep [0,8,9,10] [])] ⟨[(0,.yl y),Cv 8 ps,Iv 9 (len ps),Iv 10 i,Bv 11 true,Iv 12 i,Cv 14 x],[],[],B,more,y⟩ [.v (.str ByteArray.empty),.v .bM,.v .bM] rfl (by simp only[bL,Am,rY,uz,sG,uc,vl,uh,vj,sx,ud,Ai,vq,vJ,vH,vL,xQ,xV,ua,vn,SV.dc];rfl) Zae ?_
 refine Ast 1 false [] (MS.drop 5) [.seq (.seq (.ops JF) U2),.blk 1,.seq (.ops HM),.gst (.keep [0,8,9,10] [])] ⟨[(0,.yl y),Cv 8 ps,Iv 9 (len ps),Iv 10 i,Bv 11 true,Cv 14 x,Pv 4,Iv 3 i],[Xb 4 (⟨ByteArray.empty,.nil,.nil⟩:bW)],[],B,more,y⟩ 4 0 x [.v (.str ByteArray.empty),.v .bM,.v .bM] ((cells x).map .v) rfl Zae ?_
 refine ZA 6 false [] (JF.drop 2) [.seq U2,.blk 1,.seq (.ops HM),.gst (.keep [0,8,9,10] [])] ⟨[(0,.yl y),Cv 8 ps,Iv 9 (len ps),Iv 10 i,Bv 11 true,Pv 4,Iv 3 i,Cv 16 x.events],[Xb 4 x],[],B,more,y⟩ x.events rfl Zae ?_
 refine BT (n:=5) (fo':=.rc (.loop HE)) (fs':=UZ) (st':=I2 ps i x.events 0 B more y) Zae (Le.of_eq h)
theorem XD(ps:Sl bW)(i:Int)(es:Sl WF)(j:Int)(B:S')(more:X')(y:Nat):
 rn S.bare pH some (.ex 2) UZ (S2 ps i es j false B more y)=some (.norm,I1 ps (wrap .i64 (i+1)) B more y):=by kernel_rfl
theorem wrap_small(n:Nat)(h:n<9223372036854775807):wrap .i64 ((n:Int)+1)=((n+1:Nat):Int):=by simp[wrap,IntKind.bits,signed];omega
abbrev eI(x:bf×Event):aZ V:=[enc x.1,enc x.2]
theorem wQ.step{x:So}{D rest:S'}{more:X'}(h:wQ D (x::rest) more):∃B,D=x::B/\((!(more|| !B.isEmpty))=false/\wQ B rest more\/(!(more|| !B.isEmpty))=true/\B=[]):=by rcases h with⟨rfl,rfl⟩|⟨rfl,u,r,a⟩;exact⟨rest,rfl,.inl ⟨rfl,.inl ⟨rfl,rfl⟩⟩⟩;cases D with|nil=>grind|cons w D=>simp only[cons_append,List.cons.injEq]at a;obtain⟨rfl,rfl⟩:=a;refine⟨D,rfl,?_⟩;cases D with|nil=>grind|cons z C=>exact .inl ⟨rfl,.inr ⟨rfl,Zab,r,rfl⟩⟩
theorem vF{α:Type}{s:Sl α}{j:Nat}{x:α}{r:aZ α}(h:s.l.drop j=x::r):idx s (j:Int)=some x/\decide ((j:Int)<len s)=true/\s.l.drop (j+1)=r:=by
 have a:j<s.l.length:=by apply Classical.byContradiction;intro w;rw[List.drop_eq_nil_of_le Zaa]at h;cases h
 have u:=List.drop_eq_getElem_cons a;rw[u]at h;simp only[List.cons.injEq]at h;refine⟨?_,Zac,h.2⟩;unfold idx;simp_all
variable{Q:Out×St->a_ (Out×St)}{fs:QP}
theorem inner(ps:Sl bW)(i:Int)(es:Sl WF)(J:es.l.length<9223372036854775807)(more:X')(y:Nat)(R:S'):∀(a:aZ WF)(j:Nat),es.l.drop j=a->∀D,wQ D ((jD i j a).map eI++R) more->
 (∃(B:S')(U:Int),wQ B R more/\rn S.bare pH Q (.rc (.loop HE)) fs (I2 ps i es j D more y)=rn S.bare pH Q (.ex 2) fs (S2 ps i es U false B more y))\/
 (∃st':St,st'.want=[]/\rn S.bare pH Q (.rc (.loop HE)) fs (I2 ps i es j D more y)=Q (.ret,st'))
 |[],j,hd,D,G=>by have b:decide ((j:Int)<len es)=false:=(by simp_all);exact .inl ⟨D,j,by simpa[jD]using G,HR (YK ps i es j D more y b)⟩|e::a,j,hd,D,G=>by have⟨b,z,C⟩:=vF hd;have T:j<es.l.length:=Zac;simp only[jD,map_cons,cons_append]at G;obtain⟨B,rfl,u⟩:=wQ.step G;have I:=wrap_small j Zaa;have w:((j:Int)+1)=wrap .i64 ((j:Int)+1):=Zac;rcases u with⟨u,L⟩|⟨u,rfl⟩;have k:=aaC (S:=S) ps i es j e B more y z b u;rw[<-w]at k;have k2:=H_ (Q:=Q) (fs:=fs) k;have O:=inner ps i es J more y R a (j+1) C B Zac;rw[show((j+1:Nat):Int)=(j:Int)+1 from rfl]at O;grind;have k:=Xl (S:=S) ps i es j e [] more y z b u;rw[<-w]at k;exact .inr ⟨_,by rfl,Hr k⟩
theorem outer(ps:Sl bW)(J:ps.l.length<9223372036854775807)(D:∀p∈ps.l,p.events.l.length<9223372036854775807)(more:X')(y:Nat):∀(a:aZ bW)(i:Nat),ps.l.drop i=a->∀B,wQ B ((gG i a).map eI) more->
 rn S.bare pH Qi (.rc (.loop QF)) [.blk 0] (I1 ps i B more y)=some ()
 |[],i,hd,B,G=>by
  have b:decide ((i:Int)<len ps)=false:=by simp_all
  rw[HR (YR ps i B more y b)];have:B=[]:=by
   rcases G with⟨_,rfl⟩|⟨_,L,r,c⟩;rfl;have:B=[]:=by cases B with
    |nil=>rfl|cons=>simp[gG]at c
   grind
  subst this;rfl
 |p::a,i,hd,B,G=>by have⟨b,z,C⟩:=vF hd;have hi:i<ps.l.length:=Zac;have I:p∈ps.l:=List.mem_of_mem_drop (i:=i) Zac;simp only[gG,map_append]at G;have u:=wrap_small i Zaa;rcases inner (S:=S) (Q:=some) (fs:=UZ) ps i p.events (D p I) more y _ p.events.l 0 rfl B G with⟨w,O,g1,g2⟩|⟨st',g1,g2⟩;rw[XD,u]at g2;rw[H_ (Vj ps i p B more y _ z b g2)];exact outer ps J D more y a (i+1) C w g1;rw[Hr (Vj ps i p B more y _ z b g2)];simp[Qi,g1]
theorem all(t:Z4)(B:aZ (bf×WF))(h:jU t=some B)(D:S')(more:X')(G:wQ D (B.map eI) more)(y:Nat):
 rn S.bare pH Qi (.rc text.body) [] ⟨wU 0 (([]:So).map .v++.yl y::[V.fptr (cells t)].map .v),[],[],D,more,y⟩=some ():=by
 unfold jU at h;split at h
 .rename_i hk;cases h;simp only[ζh,List.all_eq_true,qm,decide_eq_true_eq]at hk;refine Le.get ?_;refine ZA 4 false [] (Qa.drop 2) [.seq U1] ⟨[(0,.yl y),Cv 8 t.procs],[],[],D,more,y⟩ t.procs rfl Zae ?_
  refine BT (n:=5) (fo':=.rc (.loop QF)) (fs':=[.blk 0]) (st':=I1 t.procs 0 D more y) Zae (Le.of_eq ?_)
  exact outer t.procs hk.1 hk.2 more y t.procs.l 0 rfl D G
 simp_all
end
theorem xY{α:Type}[bH α]{a b:Sl α}(h:b9 a=b9 b):rows a.l=rows b.l:=by cases a<;>cases b<;>first|rfl|(simp only[b9,Sl.k,qc,V.fsl.injEq,true_and,reduceCtorEq]at h;done)|(simp only[b9,Sl.k,qc,V.fsl.injEq,true_and,reduceCtorEq]at h;omega)
theorem yp(p:Int):∀(es B:aZ WF)(j:Int),rows es=rows B->(jD p j es).map eI=(jD p j B).map eI
 |[],[],_,_=>rfl|[],_::_,_,h=>by simp[rows]at h|_::_,[],_,h=>by simp[rows]at h|e::es,D::B,j,h=>by simp only[rows,map_cons,List.cons.injEq]at h;have a:enc e=enc D:=(by show V.agg (cells e)=V.agg (cells D);rw[h.1]);simp only[jD,map_cons,eI,a,yp p es B (j+1) h.2]
theorem Fh:∀(ps B:aZ bW)(i:Int),rows ps=rows B->(gG i ps).map eI=(gG i B).map eI
 |[],[],_,_=>rfl|[],_::_,_,h=>by simp[rows]at h|_::_,[],_,h=>by simp[rows]at h|p::ps,p'::B,i,h=>by simp only[rows,map_cons,List.cons.injEq]at h;have a:b9 p.events=b9 p'.events:=(by have:=h.1;change[V.str p.name,b9 p.vars,b9 p.events]=[V.str p'.name,b9 p'.vars,b9 p'.events]at this;grind);simp only[gG,map_append,yp i _ _ 0 (xY a),Fh ps B (i+1) h.2]
def xO(f:Y')(g:Y')(a b:So)(xs:S'):Prop:=∃(t:Z4)(u:aZ (bf×WF)),g=f/\a=[]/\b=[.fptr (cells t)]/\jU t=some u/\xs=u.map eI
theorem xO.uniq{f g:Y'}{a b:So}{xs ys:S'}(h:xO f g a b xs)(k:xO f g a b ys):xs=ys:=by
 obtain⟨t,C,rfl,rfl,rfl,c,rfl⟩:=h;obtain⟨w,z,_,_,B,u,rfl⟩:=k;simp only[List.cons.injEq,V.fptr.injEq,and_true]at B;have D:b9 t.procs=b9 w.procs:=by change[b9 t.procs]=[b9 w.procs]at B;grind
 unfold jU at c u;split at c<;>split at u<;>simp only[ζa,reduceCtorEq]at c u;subst c u;exact Fh _ _ 0 (xY D)
end trace_events_c1
end Go.VE
namespace Go.VE
open Go.Proofs.YtcknkjopbmmcjaaGreatDoor
noncomputable section
def Ji(f:Y'):a_ Hy:=bif beq f 166 then some (uU E)else bif beq f 163 then some (uV E)else none
def Sb:Sys:=⟨E,λn=>n,λ_ _ _=>none,zY E,Ji⟩
theorem JB:∀f q,Ji f=some q->oU E f q:=by intro f q h;unfold Ji at h;cases a:beq f 166 with|true=>rw[a]at h;cases h;have:=Nat.eq_of_beq_eq_true a;subst this;exact SB xX Zae Zae (En Zae)|false=>rw[a]at h;cases a:beq f 163 with|true=>rw[a]at h;cases h;have:=Nat.eq_of_beq_eq_true a;subst this;exact TR Zae Zae Zae Zae|false=>rw[a]at h;cases h
def Tx:rG:=To E some (lk Po)
abbrev cB:cr:=dw Sb Tx
theorem Zo:rV Sb Tx where
 fn f rf h:=let⟨u,a,w⟩:=EB h;⟨u,some,a,xX,w⟩
 yR f z y h:=ID h
 prm:=JB
theorem RS:∀f a b xs,Sb.items f a b=some xs->eZ Sb f a b xs:=λf a b xs h=>by cases h
end
end Go.VE
namespace Go.VE
noncomputable section
namespace IB
def ey(s0:Zg):a_ Zg:=(Sl.isNil s0).bind λu=>bl u (some Sl.nil) ((oV (Sl.row []:Zg) s0).bind λw=>some w)
theorem g_:Ck Sb cB 30 (λs0:Zg=>[enc s0]) (λz=>ey z):=Ck.mk' (sO (Tx 30)) (λs0=>Eb 9 λu _=>bA 2 4 bh (z6 7 5 7 λw _=>bh))
namespace cF
def fA(k6:Int)(U:Sl WF)(W Y:Int)(G:Sl Assign)(J:Int)(a:S')(B:Zg)(D:Int)(more:X'):a_ (Fw ((Zg)×Int) Zg Empty):=bl (decide (D<J)) ((idx G D).bind λu=>(Sl.jc B u.var).bind λw=>(Sl.put B w (u.value:Int)).bind λz=>some (.n (z,wrap .i64 (D+1)))) (some (.x B))
def W3(B:Zg)(k6:Int)(J:Sl WF)(D G:Int)(U:Sl Assign)(W Y:Int)(a:S')(more:X'):a_ (Fw ((Zg)×Int×Int×(S')) S' S'):=(bY (λq:(Zg)×Int=>fA k6 J D G U W a q.1 q.2 more) (B,Y)).bind (Fw.elim (λe=>((ey e).bind Sl.whole).bind λw=>(yl a more [.int .i64 (wrap .i64 (k6+1)),enc w]).bind λu=>bl u.1 (some (.n (e,D,wrap .i64 (G+1),u.2))) (some (.r u.2))) (λe=>elim e))
def bV(D:Sl WF)(G:Zg)(J B:Int)(U:S')(more:X'):a_ (Fw ((Zg)×Int×Int×(S')) S' S'):=bl (decide (B<J)) ((idx D B).bind λu=>W3 G B D J B u.assign (len u.assign) 0 U more) (some (.x U))
def W2(B:Zg)(D:Sl WF)(G J:Int)(U:S')(more:X'):a_ S':=(bY (λq:(Zg)×Int×Int×(S')=>bV D q.1 q.2.1 q.2.2.1 q.2.2.2 more) (B,G,J,U)).bind (Fw.elim (λe=>some e) (λe=>some e))
def br(U:bW)(G:Sl Var)(J:Int)(W:S')(B:Zg)(D:Int)(more:X'):a_ (Fw ((Zg)×Int) Zg Empty):=bl (decide (D<J)) ((idx G D).bind λu=>(gm B (u.init_:Int)).bind λw=>some (.n (w,wrap .i64 (D+1)))) (some (.x B))
def W1(B:bW)(D:Zg)(G:Sl Var)(J U:Int)(W:S')(more:X'):a_ S':=(bY (λq:(Zg)×Int=>br B G J W q.1 q.2 more) (D,U)).bind (Fw.elim (λe=>((ey e).bind Sl.whole).bind λw=>(yl W more [.int .i64 0,enc w]).bind λu=>bl u.1 (cF.W2 e B.events (len B.events) 0 u.2 more) (some u.2)) (λe=>elim e))
end cF
def cF(D:S')(B:bW)(more:X'):a_ S':=cF.W1 B (Sl.nil:Zg) B.vars (len B.vars) 0 D more
open cF in
theorem zU(more:X')(y:Nat)(J:S')(B:bW):Le ((cF J B more).bind λr=>some r) (cn Sb cB Qw (.rc (tb Tx 134),[],⟨wU 0 (.yl y::[V.fptr (cells B)].map .v),[],[],J,more,y⟩)):=bZ 10 B.vars (fK 6 (λC=>⟨[(0,.yl y),Kv 1 B,Ov 3,Cv 11 B.vars,Iv 12 (len B.vars),Iv 13 C.2],[Lb 2003 C.1],[],J,more,y⟩) (λD=>(0,⟨[(0,.yl y),Kv 1 B,Ov 3],[Lb 2003 D],[],J,more,y⟩)) (λC=>bA 8 14 (bP 7 λT _=>o9 10 2003 20 21 λU _=>bh) bh) (λD=>VF 7 25 g_ D λL _=>Byl 1 [.int .i64 0,enc L] λS _=>di 3 27 (bZ 7 B.events (eE 6 (λu=>⟨[(0,.yl y),Ov 3,Cv 29 B.events,Iv 30 u.2.1,Iv 31 u.2.2.1],[Lb 2003 u.1],[],u.2.2.2,more,y⟩) (λw=>(2,⟨[],[],[],w,more,y⟩)) (λw=>⟨[],[],[],w,more,y⟩) (λu=>bA 8 32 (bP 8 λz _=>oh 3 7 0 z (bZ 7 z.assign (fK 6 (λG=>⟨[(0,.yl y),Ov 3,Iv 6 u.2.2.1,Cv 29 B.events,Iv 30 u.2.1,Iv 31 u.2.2.1,Cv 37 z.assign,Iv 38 (len z.assign),Iv 39 G.2],[Lb 2003 G.1],[],u.2.2.2,more,y⟩) (λI=>(4,⟨[(0,.yl y),Ov 3,Iv 6 u.2.2.1,Cv 29 B.events,Iv 30 u.2.1,Iv 31 u.2.2.1],[Lb 2003 I],[],u.2.2.2,more,y⟩)) (λG=>bA 8 40 (bP 7 λO _=>iE .i64 11 2003 λW _=>BQ 0 2003 (.int .i64 O.value) λX _=>bh) bh) (λI=>VF 8 54 g_ I λQ _=>Byl 1 [.int .i64 (wrap .i64 (u.2.2.1+1)),enc Q] λY _=>di 3 56 bh bh)))) bh) (λw=>bh) (λw=>bh))) bh))
end IB
end
end Go.VE
namespace Go.VE
open IB
def xA:aZ Assign->Zg->a_ Zg
 |[],s=>some s|a::r,s=>(Sl.jc s a.var).bind λj=>(Sl.put s j a.value).bind (xA r)
def xx:aZ Var->Zg->a_ Zg
 |[],s=>some s|v::r,s=>(gm s v.init_).bind (xx r)
def OU(s:Zg):a_ Zg:=(ey s).bind Sl.whole
def xq:Int->aZ WF->Zg->a_ (aZ (Int×Zg))
 |_,[],_=>some []|k,e::r,s=>(xA e.assign.l s).bind λn=>(OU n).bind λc=>(xq (k+1) r n).map ((k+1,c)::·)
def j9(p:bW):a_ (aZ (Int×Zg)):=if qm p.vars.l.length&&(qm p.events.l.length&&p.events.l.all λe=>qm e.assign.l.length)then(xx p.vars.l .nil).bind λs=>(OU s).bind λc=>(xq 0 p.events.l s).map ((0,c)::·)else none
namespace IST
abbrev eI(x:Int×Sl Int):aZ V:=[enc x.1,enc x.2]
theorem DX{n:Nat}(h:qm n=true):n<9223372036854775807:=by simpa[qm]using h
theorem wrap_small(n:Nat)(h:n<9223372036854775807):wrap .i64 ((n:Int)+1)=((n+1:Nat):Int):=by simp[wrap,IntKind.bits,signed];omega
theorem vF{α:Type}{s:Sl α}{j:Nat}{x:α}{r:aZ α}(h:s.l.drop j=x::r):idx s (j:Int)=some x/\decide ((j:Int)<len s)=true/\s.l.drop (j+1)=r:=by
 have a:j<s.l.length:=by apply Classical.byContradiction;intro w;rw[List.drop_eq_nil_of_le Zaa]at h;cases h
 have u:=List.drop_eq_getElem_cons a;rw[u]at h;simp only[List.cons.injEq]at h;refine⟨?_,by simp[len,a],h.2⟩;unfold idx;rw[if_pos Zaa];simp[ζd a,h.1]
theorem LU{α:Type}{s:Sl α}{j:Nat}(h:s.l.drop j=[]):decide ((j:Int)<len s)=false:=by
 have:s.l.length<=j:=by simpa using h
 simp[len];omega
theorem ini(p:bW)(v:Sl Var)(J:v.l.length<9223372036854775807)(D:S')(more:X'):∀(a:aZ Var)(j:Nat),v.l.drop j=a->∀s B,xx a s=some B->
 bY (λq:Zg×Int=>cF.br p v (len v) D q.1 q.2 more) (s,(j:Int))=some (.x B)
 |[],j,hd,s,B,h=>by cases h;rw[fG];simp only[cF.br,LU hd,bl,ζb,Bool.false_eq_true,if_false]|x::a,j,hd,s,B,h=>by have⟨b,G,U⟩:=vF hd;have w:j<v.l.length:=(by simpa[len]using G);simp only[xx,ζg]at h;have⟨n,u,h⟩:=h;rw[fG];simp only[cF.br,b,G,u,bl,ζb,if_true,wrap_small j Zaa];exact ini p v J D more a (j+1) U n B h
theorem set(k:Int)(es:Sl WF)(a b:Int)(v:Sl Assign)(J:v.l.length<9223372036854775807)(D:S')(more:X'):∀(c:aZ Assign)(j:Nat),v.l.drop j=c->∀s B,xA c s=some B->
 bY (λq:Zg×Int=>cF.fA k es a b v (len v) D q.1 q.2 more) (s,(j:Int))=some (.x B)
 |[],j,hd,s,B,h=>by cases h;rw[fG];simp only[cF.fA,LU hd,bl,ζb,Bool.false_eq_true,if_false]|x::c,j,hd,s,B,h=>by have⟨d,G,U⟩:=vF hd;have w:j<v.l.length:=(by simpa[len]using G);simp only[xA,ζg]at h;have⟨i,hi,n,u,h⟩:=h;rw[fG];simp only[cF.fA,d,G,hi,u,bl,ζb,if_true,wrap_small j Zaa];exact set k es a b v J D more c (j+1) U n B h
theorem wQ.step{x:So}{D rest:S'}{more:X'}(h:wQ D (x::rest) more):∃B,yl D more x=some ((more|| !B.isEmpty),B)/\((more|| !B.isEmpty)=true/\wQ B rest more\/(more|| !B.isEmpty)=false/\B=[]):=by rcases h with⟨rfl,rfl⟩|⟨rfl,u,r,a⟩;exact⟨rest,by simp[yl],.inl ⟨rfl,.inl ⟨rfl,rfl⟩⟩⟩;cases D with|nil=>exact absurd rfl u|cons w D=>simp only[cons_append,List.cons.injEq]at a;obtain⟨rfl,rfl⟩:=a;refine⟨D,by simp[yl],?_⟩;cases D with|nil=>exact .inr ⟨rfl,rfl⟩|cons z C=>exact .inl ⟨rfl,.inr ⟨rfl,Zab,r,rfl⟩⟩
theorem gj(es:Sl WF)(W:es.l.length<9223372036854775807)(G:∀e∈es.l,e.assign.l.length<9223372036854775807)(more:X'):∀(a:aZ WF)(j:Nat),es.l.drop j=a->∀s B,xq (j:Int) a s=some B->∀D,wQ D (B.map eI) more->
 ∃J:S',J=[]/\(bY (λq:Zg×Int×Int×S'=>cF.bV es q.1 q.2.1 q.2.2.1 q.2.2.2 more) (s,len es,(j:Int),D)=some (.x J)\/bY (λq:Zg×Int×Int×S'=>cF.bV es q.1 q.2.1 q.2.2.1 q.2.2.2 more) (s,len es,(j:Int),D)=some (.r J))
 |[],j,hd,s,B,h,D,U=>by cases h;have:D=[]:=(by rcases U with⟨_,rfl⟩|⟨_,L,r,d⟩;rfl;cases D with|nil=>rfl|cons=>simp at d);subst this;refine⟨[],rfl,.inl ?_⟩;rw[fG];simp only[cF.bV,LU hd,bl,ζb,Bool.false_eq_true,if_false]
 |e::a,j,hd,s,B,h,D,U=>by have⟨f,I,O⟩:=vF hd;have Z:j<es.l.length:=(by simpa[len]using I);have Q:e∈es.l:=List.mem_of_mem_drop (i:=j) (by rw[hd];exact List.mem_cons_self ..);simp only[xq,ζg,ζf]at h;obtain⟨n,L,c,b,r,d,rfl⟩:=h;have b:(ey n).bind Sl.whole=some c:=b;have⟨w,z,S⟩:=wQ.step U;have C:=wrap_small j Zaa;have z:yl D more [.int .i64 ((j+1:Nat):Int),enc c]=some ((more|| !w.isEmpty),w):=z;rw[fG];have u:=set j es (len es) j e.assign (G e Q) D more e.assign.l 0 rfl s n L;rw[show((0:Nat):Int)=0 from rfl]at u;rcases S with⟨g1,g2⟩|⟨g1,rfl⟩;have⟨T,X,Y⟩:=gj es W G more a (j+1) O n r d w g2;refine⟨T,X,?_⟩;rw[g1]at z;simp only[cF.bV,cF.W3,f,I,u,b,z,bl,ζb,if_true,Fw.elim,C];exact Y;refine⟨[],rfl,.inr ?_⟩;rw[g1]at z;simp only[cF.bV,cF.W3,f,I,u,b,C,z,bl,ζb,if_true,if_false,Bool.false_eq_true,Fw.elim]
theorem all(p:bW)(B:aZ (Int×Zg))(h:j9 p=some B)(D:S')(more:X')(G:wQ D (B.map eI) more):cF D p more=some []:=by unfold j9 at h;split at h;rename_i b;simp only[ζh,List.all_eq_true]at b;have⟨k1,k2,k3⟩:=b;simp only[ζg,ζf]at h;obtain⟨s,C,c,a,r,d,rfl⟩:=h;have a:(ey s).bind Sl.whole=some c:=a;have⟨u,w,I⟩:=wQ.step G;have hi:=ini p p.vars (DX k1) D more p.vars.l 0 rfl .nil s C;rw[show((0:Nat):Int)=0 from rfl]at hi;have w:yl D more [.int .i64 0,enc c]=some ((more|| !u.isEmpty),u):=w;unfold cF cF.W1;simp only[hi,ζb,Fw.elim,a,w];rcases I with⟨g1,g2⟩|⟨g1,rfl⟩;obtain⟨L,rfl,z⟩:=gj p.events (DX k2) (λe J=>DX (k3 e J)) more p.events.l 0 rfl s r d u g2;rw[show((0:Nat):Int)=0 from rfl]at z;rw[g1];simp only[bl,if_true,cF.W2];rcases z with q|q<;>(rw[q];rfl);rw[g1];rfl;cases h
theorem xY{α:Type}[bH α]{a b:Sl α}(h:b9 a=b9 b):rows a.l=rows b.l:=by cases a<;>cases b<;>first|rfl|(simp only[b9,Sl.k,qc,V.fsl.injEq,true_and,reduceCtorEq]at h;done)|(simp only[b9,Sl.k,qc,V.fsl.injEq,true_and,reduceCtorEq]at h;exact h)
theorem Kr:∀(a b:aZ Var),rows a=rows b->∀s,xx a s=xx b s
 |[],[],_,_=>rfl|[],_::_,h,_=>by simp[rows]at h|_::_,[],h,_=>by simp[rows]at h|x::a,y::b,h,s=>by simp only[rows,map_cons,List.cons.injEq]at h;have c:x.init_=y.init_:=(by have:=h.1;change[V.str x.name,V.int .i64 x.init_]=[V.str y.name,V.int .i64 y.init_]at this;simpa using(List.cons.inj (List.cons.inj this).2).1);simp only[xx,c,funext (Kr a b h.2)]
theorem LO:∀(a b:aZ Assign),rows a=rows b->∀s,xA a s=xA b s
 |[],[],_,_=>rfl|[],_::_,h,_=>by simp[rows]at h|_::_,[],h,_=>by simp[rows]at h|x::a,y::b,h,s=>by simp only[rows,map_cons,List.cons.injEq]at h;have c:=h.1;change[V.int .i64 x.var,V.int .i64 x.value]=[V.int .i64 y.var,V.int .i64 y.value]at c;simp only[List.cons.injEq,V.int.injEq,true_and,and_true]at c;simp only[xA,c.1,c.2,funext (LO a b h.2)]
theorem Ju{x y:WF}(h:cells x=cells y):rows x.assign.l=rows y.assign.l:=by change[V.int .i64 x.kind,V.int .i64 x.peer,V.int .i64 x.message,V.int .i64 x.time,b9 x.assign]=[V.int .i64 y.kind,V.int .i64 y.peer,V.int .i64 y.message,V.int .i64 y.time,b9 y.assign]at h;simp only[List.cons.injEq]at h;exact xY h.2.2.2.2.1
theorem yp:∀(a b:aZ WF),rows a=rows b->∀k s,xq k a s=xq k b s
 |[],[],_,_,_=>rfl|[],_::_,h,_,_=>by simp[rows]at h|_::_,[],h,_,_=>by simp[rows]at h|x::a,y::b,h,k,s=>by simp only[rows,map_cons,List.cons.injEq]at h;simp only[xq,LO _ _ (Ju h.1),yp a b h.2]
theorem Ei{α:Type}[bH α]{a b:aZ α}(h:rows a=rows b):a.length=b.length:=by have:=congrArg List.length h;simpa[rows]using this
theorem JU:∀(a b:aZ WF),rows a=rows b->(a.all λe=>qm e.assign.l.length)=b.all λe=>qm e.assign.l.length
 |[],[],_=>rfl|[],_::_,h=>by simp[rows]at h|_::_,[],h=>by simp[rows]at h|x::a,y::b,h=>by simp only[rows,map_cons,List.cons.injEq]at h;simp only[all_cons,Ei (Ju h.1),JU a b h.2]
def xO(f:Y')(g:Y')(a b:So)(xs:S'):Prop:=∃(p:bW)(u:aZ (Int×Zg)),g=f/\a=[]/\b=[.fptr (cells p)]/\j9 p=some u/\xs=u.map eI
theorem xO.uniq{f g:Y'}{a b:So}{xs ys:S'}(h:xO f g a b xs)(k:xO f g a b ys):xs=ys:=by obtain⟨p,C,rfl,rfl,rfl,c,rfl⟩:=h;obtain⟨w,z,_,_,u,B,rfl⟩:=k;simp only[List.cons.injEq,V.fptr.injEq,and_true]at u;change[V.str p.name,b9 p.vars,b9 p.events]=[V.str w.name,b9 w.vars,b9 w.events]at u;simp only[List.cons.injEq]at u;have r1:=xY u.2.1;have r2:=xY u.2.2.1;unfold j9 at c B;rw[Ei r1,Ei r2,JU _ _ r2,Kr _ _ r1,funext (λs=>yp _ _ r2 0 s)]at c;have e:=c.symm.trans B;cases e;rfl
end IST
end Go.VE
namespace Go.VE
open Go.Proofs.YtcknkjopbmmcjaaGreatDoor
noncomputable section
def Ks(f:Y')(a b:So)(xs:S'):Prop:=trace_events_c1.xO 152 f a b xs\/IST.xO 134 f a b xs
def Sy:Sys:=⟨E,λn=>n,Ah Ks,zY E,Ji⟩
abbrev cL:cr:=dw Sy Tx
theorem Xs:Sy.prm 166=some (uU Sy.E):=by kernel_rfl
theorem Xu:Sy.prm 163=some (uV Sy.E):=by kernel_rfl
theorem Yr:∃fi,E.ft 152=some fi/\zd E some fi trace_events_c1.text:=YS Zae
theorem Jt:rV Sy Tx where
 fn f rf h:=let⟨u,a,w⟩:=EB h;⟨u,some,a,xX,w⟩
 yR f z y h:=ID h
 prm:=JB
theorem KJ(p:bW)(B:aZ (Int×Zg))(a:j9 p=some B):eZ Sy 134 [] [.fptr (cells p)] (B.map IST.eI):=by
 have w:Tx 134=some (sO (Tx 134)):=BB Zae;have⟨G,z,C⟩:=EB w;have e1:ble (([]:So).length+1+[V.fptr (cells p)].length) (sO (Tx 134)).na=true:=by kernel_rfl
 have e2:(sO (Tx 134)).rs=[]:=by kernel_rfl
 have e3:Sy.E=Sb.E:=rfl;exact S8 e3 JB (vR Zo RS) RS z xX C (Nat.le_of_ble_eq_true e1) e2 λu more D y=>IB.zU more y u p [] (by rw[IST.all p B a u more D];rfl)
theorem CO:∀f a b xs,Sy.items f a b=some xs->eZ Sy f a b xs:=by intro f a b xs h;have h:Ks f a b xs:=N_ h;rcases h with h|h;obtain⟨t,u,rfl,rfl,rfl,c,rfl⟩:=h;have⟨D,w,z⟩:=Yr;exact TS Sy w xX z (Nat.le_of_ble_eq_true rfl) rfl λB more C y=>trace_events_c1.all t u c B more C y;obtain⟨p,u,rfl,rfl,rfl,c,rfl⟩:=h;exact KJ p u c
theorem Bb(t:Z4)(B:aZ (bf×WF))(h:jU t=some B):Sy.items 152 [] [.fptr (cells t)]=some (B.map λx:bf×WF=>[enc x.1,enc x.2]):=ET (.inl ⟨t,B,rfl,rfl,rfl,h,rfl⟩) (λu a=>by rcases a with a|a<;>first|exact a.uniq ⟨t,B,rfl,rfl,rfl,h,rfl⟩|(have⟨_,_,a,_⟩:=a;exact absurd a (by decide)))
theorem HN(p:bW)(B:aZ (Int×Zg))(h:j9 p=some B):Sy.items 134 [] [.fptr (cells p)]=some (B.map λx:Int×Zg=>[enc x.1,enc x.2]):=ET (.inr ⟨p,B,rfl,rfl,rfl,h,rfl⟩) (λu a=>by rcases a with a|a<;>first|exact a.uniq ⟨p,B,rfl,rfl,rfl,h,rfl⟩|(have⟨_,_,a,_⟩:=a;exact absurd a (by decide)))
theorem QE:Sy.yR 4 []=some (.bool true):=Cl (Mp rfl ⟨1,[],by kernel_rfl⟩)
end
end Go.VE
namespace Go.VE
noncomputable section
def wo(D:Z4)(B:bf):a_ WF:=(idx D.procs B.proc).bind λu=>(idx u.events (wrap .i64 (B.index-1))).bind λw=>some w
instance ZN(B:Z4)(D:bf):Fc Sy cL (wo B D):=Fc.N 63 [enc B,enc D] (cu 2 2 B (bP 10 λw _=>bP 5 λu _=>oh 1 4 0 u bh))
namespace eB
def bV(B G p7:Int)(D:Z4)(J:bf)(a:Int):a_ (Fw Int Unit bf):=(idx D.procs p7).bind λw=>bl (decide (a<(len w.events))) ((idx D.procs p7).bind λz=>(idx z.events a).bind λu=>(bl (u.kind==B) (some (u.message==G)) (some false):a_ X').bind λC=>bl C (some (.r (⟨p7,wrap .i64 (a+1)⟩:bf))) (some (.n (wrap .i64 (a+1))))) (some (.x ()))
def W2(B J p7 a:Int)(D:Z4)(G:bf):a_ (Fw Int Unit bf):=(bY (λq:Int=>bV B J p7 D G q) a).bind (Fw.elim (λe=>some (.n (wrap .i64 (p7+1)))) (λe=>some (.r e)))
def br(B J:Int)(D:Z4)(G:bf)(p7:Int):a_ (Fw Int Unit bf):=bl (decide (p7<(len D.procs))) (W2 B J p7 0 D G) (some (.x ()))
def W1(B J p7:Int)(D:Z4)(G:bf):a_ bf:=(bY (λq:Int=>br B J D G q) p7).bind (Fw.elim (λe=>some ⟨0,0⟩) (λe=>some e))
end eB
def eB(D:Z4)(B G:Int):a_ bf:=eB.W1 B G 0 D (⟨0,0⟩:bf)
open eB in
instance X_(D:Z4)(B G:Int):Fc Sy cL (eB D B G):=Fc.M 64 [enc D,.int .i64 B,.int .i64 G] (cu 2 3 D (eE 11 (λu=>(bL [Iv 1 B,Iv 2 G,Pv 3,Pv 6,Iv 7 u] [Xb 3 D,Xb 6 (⟨0,0⟩:bf)])) (λw=>(0,(bL [Pv 6] [Xb 6 (⟨0,0⟩:bf)]))) (λw=>(bL [Pv 6] [Xb 6 w])) (λu=>bZ 7 D.procs (bA 3 14 (eE 12 (λC=>(bL [Iv 1 B,Iv 2 G,Pv 3,Pv 6,Iv 7 u,Iv 8 C] [Xb 3 D,Xb 6 (⟨0,0⟩:bf)])) (λz=>(2,(bL [Iv 1 B,Iv 2 G,Pv 3,Pv 6,Iv 7 u] [Xb 3 D,Xb 6 (⟨0,0⟩:bf)]))) (λz=>(bL [Pv 6] [Xb 6 z])) (λC=>bP 8 λI _=>bZ 2 I.events (bA 3 25 (bP 10 λL _=>bP 3 λJ _=>oh 2 9 0 J (cg 9 5 [9,41] 46 (bA 9 41 (bE 5) (bE 5)) λO=>bA 2 46 bh bh)) bh)) (λz=>bh) (λz=>bh)) bh)) (λw=>bh) (λw=>bh)))
namespace ez
def J1(B:Sl bf)(D:Z4)(G:bf):a_ (Sl bf):=(wo D G).bind λu=>bl (u.kind==3) ((eB D 2 u.message).bind λw=>(gm B (w:bf)).bind λz=>some z) (some B)
end ez
def ez(D:Z4)(B:bf):a_ (Sl bf):=bl (decide (B.index>1)) (ez.J1 (Sl.row [⟨B.proc,wrap .i64 (B.index-1)⟩]:Sl bf) D B) (ez.J1 (Sl.nil:Sl bf) D B)
open ez in
theorem Bp(D:Z4)(B:bf):Le ((ez D B).bind λr=>some (cO r)) (cn Sy cL (BG (tr Tx 65)) (.rc (tb Tx 65),[],start ([enc D,enc B].map .v) [])):=cu 2 2 D (bA 17 9 (Vk 10 17 18 .bM (⟨B.proc,wrap .i64 (B.index-1)⟩:bf) (uR 5 (bF 4 λu _=>oh 1 6 0 u (bA 10 24 (bF 6 λw _=>o9 1 2005 30 31 λz _=>bh) bh)))) (uR 5 (bF 4 λu _=>oh 1 6 0 u (bA 10 24 (bF 6 λw _=>o9 1 2005 30 31 λz _=>bh) bh))))
def qn(a:bf->a_ (Sl bf)):aZ (aZ X')×aZ bf->a_ (Fw (aZ (aZ X')×aZ bf) (aZ (aZ X')) Empty)
 |(out,[])=>some (.x out)|(out,y::rest)=>if 0<=y.proc/\0<=y.index then(out[y.proc.toNat]?).bind λrow=>(row[y.index.toNat]?).bind λb=>bl b (some (.n (out,rest))) ((a y).bind λmore=>if rest.length+more.l.length<=2147483648 then some (.n (out.set y.proc.toNat (row.set y.index.toNat true),rest++more.l))else none)else none
def iB(t:Z4):aZ (aZ X'):=t.procs.l.map λP=>replicate (P.events.l.length+1) false
def Cr(t:Z4):X':=decide (t.procs.l.length<=2147483648)&&t.procs.l.all λP=>decide (P.events.l.length+1<=2147483648)
def nested(out:aZ (aZ X')):Sl (Sl X'):=if out=[]then .nil else .row (out.map .row)
def o8(t:Z4)(x:bf):a_ (Sl (Sl X')):=if Cr t then(ez t x).bind λs=>(bY (qn (ez t)) (iB t,s.l)).bind (Fw.elim (λout=>some (nested out)) (λe=>elim e))else none
end
namespace pastX
abbrev zk:Nat->FuncId:=λn=>n
def r1:Rd:=[o2 2 (.a .box) [0] [],o2 3 (.a .box) [1] [],o1 4 (.k (.bM)) []]
def r2:Rd:=[o1 5 (.k (.bM)) []]
def r3:Rd:=[o1 6 (.k (.int .i64 0)) []]
def r4:Rd:=[o1 11 6 [],o2 12 (fa 0) [2] [],o2 13 (ld 1) [12] [],o2 14 ln [13] [],o2 15 (bI .lss) [11,14] []]
def r5:Rd:=[o1 18 5 [],o2 19 (fa 0) [2] [],o2 20 (ld 1) [19] [],o1 21 6 [],o2 22 (ix 3) [20,21] [],o2 23 (fa 2) [22] [],o2 24 (ld 1) [23] [],o2 25 ln [24] [],o2 26 (bI .add) [25,.k (.int .i64 1)] [],o2 27 (.a (.makeSl 1 [.bool false])) [26,26] [],o2 28 (.a (.buildSl 1 1 [.bM] [0])) [27] [],o2 29 (.l (.append 1)) [18,28] [],o1 5 29 []]
def r6:Rd:=[o1 16 6 [],o2 17 (bI .add) [16,.k (.int .i64 1)] [],o1 6 17 []]
def L1:RC:=.seq (.seq (.ops r4) (.cond (.s 15) (.skip) (.exit 0))) (.seq (.block 1 (.ops r5)) (.ops r6))
def r7:Rd:=[o2 30 (lD 1) [2] [],o2 31 (lD 2) [3] [],o2 32 .c [.f 65,30,31] [],o1 7 32 []]
def r8:Rd:=[o1 33 7 [],o2 34 ln [33] [],o2 35 (bI .gtr) [34,.k (.int .i64 0)] []]
def r9:Rd:=[o1 36 7 [],o2 37 (ix 2) [36,.k (.int .i64 0)] [],o2 38 (lD 2) [37] [],o2 8 (.a (.alloc 2 [.int .i64 0,.int .i64 0])) [] [],oz (su 2) [8,38] []]
def EF:Rd:=[o1 39 7 [],o2 40 (.p (.slice 2 true false)) [39,.k (.int .i64 1)] [],o1 7 40 []]
def HZ:Rd:=[o1 41 5 [],o2 42 (fa 0) [8] [],o2 43 (ld 1) [42] [],o2 44 (ix 1) [41,43] [],o2 45 (ld 1) [44] [],o2 46 (fa 1) [8] [],o2 47 (ld 1) [46] [],on 48 (ix 1) [45,47] [],on 49 (ld 1) [48] []]
def HD:Rd:=[o1 50 5 [],o2 51 (fa 0) [8] [],o2 52 (ld 1) [51] [],o2 53 (ix 1) [50,52] [],o2 54 (ld 1) [53] [],o2 55 (fa 1) [8] [],o2 56 (ld 1) [55] [],on 57 (ix 1) [54,56] [],oy (su 1) [57,.k (.bool true)] []]
def IW:Rd:=[o2 58 (lD 1) [2] [],o2 59 (lD 2) [8] [],o2 60 .c [.f 65,58,59] [],o1 9 60 []]
def FW:Rd:=[o1 10 (.k (.int .i64 0)) []]
def Ig:Rd:=[o1 61 10 [],o1 62 9 [],o2 63 ln [62] [],o2 64 (bI .lss) [61,63] []]
def r16:Rd:=[o1 67 7 [],o1 68 9 [],o1 69 10 [],o2 70 (ix 2) [68,69] [],o2 71 (lD 2) [70] [],o2 72 (.a (.buildSl 2 1 [.int .i64 0,.int .i64 0] [0])) [71] [],o2 73 (.l (.append 2)) [67,72] [],o1 7 73 []]
def Rk:Rd:=[o1 65 10 [],o2 66 (bI .add) [65,.k (.int .i64 1)] [],o1 10 66 []]
def L3:RC:=.seq (.seq (.ops Ig) (.cond (.s 64) (.skip) (.exit 4))) (.seq (.block 5 (.ops r16)) (.ops Rk))
def L2:RC:=.seq (.seq (.ops r8) (.cond (.s 35) (.skip) (.exit 2))) (.block 3 (.seq (.ops r9) (.seq (.ops EF) (.seq (.seq (.qZ HZ) (.cond (.s 49) (.exit 3) (.skip))) (.seq (.qZ HD) (.seq (.ops IW) (.seq (.ops FW) (.block 4 (.loop L3)))))))))
def r18:Rd:=[o1 74 5 [],o1 4 74 []]
def code:RC:=.seq (.ops r1) (.seq (.ops r2) (.seq (.seq (.ops r3) (.block 0 (.loop L1))) (.seq (.ops r7) (.seq (.block 2 (.loop L2)) (.seq (.ops r18) (.ret))))))
abbrev yK:=Go.Proofs.YtcknkjopbmmcjaaGreatDoor.E
def lF(out:aZ (aZ X')):S':=out.map λr=>r.map V.bool
theorem shape:∃fi,yK.ft (zk 38)=some fi/\bX ⟨yK,some,fi.ntmps⟩ false fi.body=some code/\2<=fi.ntmps/\fi.results=[.tmp 4]:=by
 have h:((yK.ft (zk 38)).map λfi=>(bX ⟨yK,some,fi.ntmps⟩ false fi.body,ble 2 fi.ntmps,fi.results))=some (some code,true,[.tmp 4]):=by kernel_rfl
 have⟨fi,a,u⟩:=ζf.1 h;simp only[ζc]at u;exact⟨fi,a,u.1,Nat.le_of_ble_eq_true u.2.1,u.2.2⟩
section
variable{E:Env}{N:Nat->Y'}{t:Z4}{x:bf}{k:Nat}{F:WP}{H H1:bp}{call:dQ}{b:a_ Nat}
theorem kQ{o:RO}{l:Rd}{v:V}{r:WP×bp}(a:o.gd=none)(c:bK E N call b o.now o.k (o.az.map (bB N F)) H=some (v,H1))(h:cQ E N call b l (bz F o.dst v) H1=some r):cQ E N call b (o::l) F H=some r:=by simp[cQ,a,c];omega
theorem vp{o:RO}{l:Rd}{v:V}{r:WP×bp}(a:o.gd=none)(c:bK E N call b o.now o.k (o.az.map (bB N F)) H=some (v,H))(h:cQ E N call b l (bz F o.dst v) H=some r):cQ E N call b (o::l) F H=some r:=kQ a c h
theorem eH:cQ E N call b [] F H=some (F,H):=rfl
theorem ld1(h:H[0]?=some (.row 1 [cells t])):fE H (.load 1 false) [.hptr 0 0 0]=some (b9 t.procs):=by simp[fE,eU,h];rfl
theorem abD{s:Sl bW}{p:bW}{i:Nat}(h:s.l[i]?=some p):nq 3 (b9 s) (i:Int)=some (.fptr (cells p)):=by have:=GZ (N:=λn=>n) s .i64 i 3 rfl;simp[bq]at this;rw[this,show idx s i=some p from by unfold idx;grind];rfl
theorem x4(a:get F 2=.hptr 0 0 0)(f6:get F 6=.int .i64 k)(b:H[0]?=some (.row 1 [cells t])):
 ∃F',cQ E N call none r4 F H=some (F',H)/\get F' 15=.bool (decide (k<t.procs.l.length))/\(∀s,s<11->get F' s=get F s):=by
 refine⟨_,vp (v:=.int .i64 k) rfl ?_<|vp (v:=.hptr 0 0 0) rfl ?_<|vp (v:=b9 t.procs) rfl ?_<|vp (v:=.int .i64 t.procs.l.length) rfl ?_<|vp (v:=.bool (decide (k<t.procs.l.length))) rfl ?_ eH,?_,?_⟩
 .simp[bK,bB,bq,f6]
 .simp[bK,bB,bq,bz,a,iZ]
 .simp only[bK,map_cons,map_nil,bB,bz,bC,if_true];rw[ld1 b];rfl
 .simp only[bK,map_cons,map_nil,bB,bz,bC,if_true];rw[AA];rfl
 .simp[bK,bB,bq,bz,iG,pU]
 .simp[bz]
 simp[bz,bC]
 grind
theorem z8{n:Nat}(h:n<=2147483648):wrap .i64 ((n:Int)+1)=((n+1:Nat):Int):=by simp[wrap,IntKind.bits];omega
theorem x5{P:bW}{o:Nat}{ids:ST}{rows:S'}(a:get F 2=.hptr 0 0 0)(f6:get F 6=.int .i64 k)(b:H[0]?=some (.row 1 [cells t]))(c:t.procs.l[k]?=some P)(D:P.events.l.length+1<=2147483648)
 (B:nX H (get F 5) o ids rows)(d:rows.length+1<=2147483648):
 ∃F' H',cQ E N call none r5 F H=some (F',H')/\nX H' (get F' 5) (H.length+2) (ids++[H.length]) (rows++[replicate (P.events.l.length+1) (.bool false)])/\H.length<=H'.length/\(∀id,id<H.length->id≠o\/rows=[]->H'[id]?=H[id]?)/\(∀s,s<11->s≠5->get F' s=get F s):=by
 have⟨H',p1,p2,p3,p4⟩:=B.push (replicate (P.events.l.length+1) (.bool false)) d;have u:j7 (replicate (P.events.l.length+1) (V.bool false))=replicate (P.events.l.length+1) [.bool false]:=by simp[j7]
 rw[u,List.length_replicate]at p1;have w:=z8 (n:=P.events.l.length) Zaa
 refine⟨_,H',vp (v:=get F 5) rfl ?_<|vp (v:=.hptr 0 0 0) rfl ?_<|vp (v:=b9 t.procs) rfl ?_<|vp (v:=.int .i64 k) rfl ?_<|vp (v:=.fptr (cells P)) rfl ?_<|vp (v:=.fptr [b9 P.events]) rfl ?_<|vp (v:=b9 P.events) rfl ?_<|
  vp (v:=.int .i64 P.events.l.length) rfl ?_<|vp (v:=.int .i64 (P.events.l.length+1:Nat)) rfl ?_<|kQ (v:=.hsl H.length 1 0 (P.events.l.length+1)) (H1:=H++[.row 1 (replicate (P.events.l.length+1) [.bool false])]) rfl ?_<|
  kQ (v:=.hsl (H.length+1) 1 0 1) (H1:=H++[.row 1 (replicate (P.events.l.length+1) [.bool false])]++[.row 1 [[.hsl H.length 1 0 (P.events.l.length+1)]]]) rfl ?_<|
  kQ (v:=.hsl (H.length+2) 1 0 (rows.length+1)) rfl ?_<|vp (v:=.hsl (H.length+2) 1 0 (rows.length+1)) rfl ?_ eH,?_,p3,p4,?_⟩
 .simp[bK,bB,bq]
 .simp[bK,bB,bq,bz,a,iZ]
 .simp only[bK,map_cons,map_nil,bB,bz,bC,if_true];rw[ld1 b];rfl
 .simp[bK,bB,bq,bz,f6]
 .simp only[bK,map_cons,map_nil,bB,bz,bC,reduceEqDiff,if_true,if_false,bq];rw[abD c];rfl
 .simp[bK,bB,bz,bC,bq];rfl
 .simp[bK,bB,bz,bC];rfl
 .simp only[bK,map_cons,map_nil,bB,bz,bC,if_true];rw[AA];rfl
 .simp[bK,bB,bz,bC,bq,iG];grind
 .simp only[bK,map_cons,map_nil,bB,bz,bC,if_true,jg];rw[if_pos ⟨trivial,trivial,Zaa,Zaa,Zaa⟩]
  simp[Mk.val]
 .simp[bK,bB,bz,bC,jg];simp[fW,V.cells,V.one,Mk.val]
 .simp only[bK,map_cons,map_nil,bB,bz,bC,reduceEqDiff,if_true,if_false];omega
 .simp[bK,bB,bq,bz]
 .simp[bz,bC];omega
 intro s z C;simp[bz,bC]
 repeat (rw[if_neg Zaa])
theorem x6(f6:get F 6=.int .i64 k)(a:k<=2147483648):∃F',cQ E N call none r6 F H=some (F',H)/\get F' 6=.int .i64 ((k+1:Nat):Int)/\(∀s,s<11->s≠6->get F' s=get F s):=by have u:=z8 a;refine⟨_,vp (v:=.int .i64 k) rfl ?_<|vp (v:=.int .i64 (k+1:Nat)) rfl ?_<|vp (v:=.int .i64 (k+1:Nat)) rfl ?_ eH,?_,?_⟩;simp[bK,bB,bq,f6];simp[bK,bB,bz,bC,bq,iG];grind;simp[bK,bB,bq,bz];simp[bz];simp[bz,bC];grind
end
structure P1(t:Trace)(x:bf)(k:Nat)(F:Frame)(H:bp):Prop where
 f2:get F 2=.hptr 0 0 0
 f3:get F 3=.hptr 1 0 0
 f6:get F 6=.int .i64 k
 h0:H[0]?=some (.row 1 [cells t])
 h1:H[1]?=some (.row 2 [cells x])
 ns:∃o ids,nX H (get F 5) o ids (lF ((iB t).take k))/\(k≠0->2<=o)/\∀id∈ids,2<=id
theorem yo(out:aZ (aZ X')):(lF out).length=out.length:=by simp[lF]
theorem Ot{E:Env}{N:Nat->Y'}{t:Z4}{x:bf}(J:Cr t=true):∀(m k:Nat)(F:WP)(H:bp),k+m=t.procs.l.length->P1 t x k F H->∃F' H',nJ E N L1 F H (.exit 0) F' H'/\P1 t x t.procs.l.length F' H':=by
 have B:t.procs.l.length<=2147483648/\∀P∈t.procs.l,P.events.l.length+1<=2147483648:=by simpa[Cr]using J
 intro m;induction m with|zero=>intro k F H b p;have C:k=t.procs.l.length:=Zaa;obtain⟨F1,e1,e2,e3⟩:=x4 (E:=E) (call:=⟨0,λ_ _ _=>none⟩) p.f2 p.f6 p.h0;refine⟨F1,H,nJ.stop (Ex.vK (Ex.seq (Ex.dy λc=>?_) (Ex.qU ?_ Ex.exit)) Zab) Zab,?_⟩;have:cQ E N c none r4 F H=cQ E N ⟨0,λ_ _ _=>none⟩ none r4 F H:=rfl;exact e1;show get F1 15=_;rw[e2];simp[C];subst C;exact⟨by rw[e3 2 Zaa];exact p.f2,by rw[e3 3 Zaa];exact p.f3,by rw[e3 6 Zaa];exact p.f6,p.h0,p.h1,by rw[e3 5 Zaa];exact p.ns⟩|succ m Y=>
  intro k F H b p;have w:k<t.procs.l.length:=Zaa;obtain⟨o,ids,U,Z,d⟩:=p.ns;obtain⟨F1,e1,e2,e3⟩:=x4 (E:=E) (N:=N) (call:=⟨0,λ_ _ _=>none⟩) p.f2 p.f6 p.h0;have a:=ζd w;have D:((iB t).take k).length=k:=by simp[iB];omega
  have I:nX H (get F1 5) o ids (lF ((iB t).take k)):=by rw[e3 5 Zaa];exact U
  obtain⟨g,H2,g1,g2,g3,g4,g5⟩:=x5 (E:=E) (N:=N) (call:=⟨0,λ_ _ _=>none⟩) (by rw[e3 2 Zaa];exact p.f2) (by rw[e3 6 Zaa];exact p.f6) p.h0 a (B.2 _ (List.getElem_mem w)) I (by rw[yo,D];omega);obtain⟨W,e,f,L⟩:=x6 (E:=E) (N:=N) (call:=⟨0,λ_ _ _=>none⟩) (H:=H2) (by rw[g5 6 Zaa Zaa,e3 6 Zaa];exact p.f6) Zaa;have X:=U.lt;have O:=(ζe.1 p.h0).1;have Q:=(ζe.1 p.h1).1;have u:∀i,i<2->i<H.length->H2[i]?=H[i]?:=λi hi X=>g4 i X (by
   by_cases G:k=0
   .subst G;right;simp[lF]
   left;have:=Z G;omega)
  have S:P1 t x (k+1) W H2:=by
   refine⟨by rw[L 2 Zaa Zaa,g5 2 Zaa Zaa,e3 2 Zaa];exact p.f2,by rw[L 3 Zaa Zaa,g5 3 Zaa Zaa,e3 3 Zaa];exact p.f3,f,
    by rw[u 0 Zaa O];exact p.h0,by rw[u 1 Zaa Q];exact p.h1,H.length+2,ids++[H.length],?_,λ_=>Zaa,λid T=>?_⟩
   rw[L 5 Zaa Zaa];have z:lF ((iB t).take (k+1))=lF ((iB t).take k)++[replicate (t.procs.l[k].events.l.length+1) (.bool false)]:=by rw[List.take_add_one];have:(iB t)[k]?=some (replicate (t.procs.l[k].events.l.length+1) false):=(by simp[iB,a]);rw[this];simp[lF]
   rw[z];exact g2;rcases List.mem_append.1 T with h|h;exact d id h;simp at h;omega
  obtain⟨F',H',r1,r2⟩:=Y (k+1) W H2 Zaa S;refine⟨F',H',nJ.step (Ex.seq (Ex.seq (Ex.dy λc=>e1) (Ex.oN ?_ Ex.skip)) (Ex.seq (Ex.block (Ex.dy λc=>g1)) (Ex.dy λc=>e))) r1,r2⟩;show get F1 15=_;rw[e2];simp[w]
section
variable{E:Env}{N:Nat->Y'}{t:Z4}{x y:bf}{F:WP}{H:bp}{call:dQ}
theorem x8{l:S'}{id:Nat}(h:lR H (get F 7) l id):∃F',cQ E N call none r8 F H=some (F',H)/\get F' 35=.bool (decide (0<l.length))/\(∀s,s<11->get F' s=get F s):=by refine⟨_,vp (v:=get F 7) rfl ?_<|vp (v:=.int .i64 l.length) rfl ?_<|vp (v:=.bool (decide (0<l.length))) rfl ?_ eH,?_,?_⟩;simp[bK,bB,bq];simp[bK,bB,bz,bC,bq,h.len];simp[bK,bB,bq,bz,iG,pU];simp[bz];simp[bz,bC];grind
theorem x9{l:S'}{id:Nat}(h:lR H (get F 7) (cells y::l) id):∃F',cQ E N call none r9 F H=some (F',H++[.row 2 [cells y]])/\get F' 8=.hptr H.length 0 0/\(∀s,s<11->s≠8->get F' s=get F s):=by have⟨p,p1,p2⟩:=h.get (i:=0) rfl;refine⟨_,vp (v:=get F 7) rfl ?_<|vp (v:=p) rfl ?_<|vp (v:=.agg (cells y)) rfl ?_<|kQ (v:=.hptr H.length 0 0) (H1:=H++[.row 2 [[.int .i64 0,.int .i64 0]]]) rfl ?_<|kQ (v:=.undef) rfl ?_ eH,?_,?_⟩;simp[bK,bB,bq];simp[bK,bB,bz,bC,bq];grind;simp only[bK,map_cons,bB,bz,bC,if_false];grind;simp[bK,bB,bz,bC,jg,Mk.val];simp[bK,bB,bz,bC];simp[fT,V.cells,V.one];simp[bz];simp[bz,bC];grind
theorem x10{c:So}{l:S'}{id:Nat}(h:lR H (get F 7) (c::l) id):∃F',cQ E N call none EF F H=some (F',H)/\lR H (get F' 7) l id/\(∃off m B,get F 7=.hsl id 2 off m/\get F' 7=.hsl id 2 B l.length)/\(∀s,s<11->s≠7->get F' s=get F s):=by have⟨w',p1,p2,off,m,B,p3,p4⟩:=h.tail;refine⟨_,vp (v:=get F 7) rfl ?_<|vp (v:=w') rfl ?_<|vp (v:=w') rfl ?_ eH,?_,⟨off,m,B,p3,?_⟩,?_⟩;simp[bK,bB,bq];simp[bK,bB,bz,bC,bq,ny,p1];simp[bK,bB,bq,bz];simp[bz,bC];omega;simp[bz,bC];omega;simp[bz,bC];grind
theorem kZ(H:bp):H.take H.length=H:=List.take_length ..
theorem ZG{c:Nat}(a:H[c]?=some (.row 2 [cells y])):fE H (.load 1 false) [.hptr c 0 0]=some (.int .i64 y.proc)/\fE H (.load 1 false) [.hptr c 0 1]=some (.int .i64 y.index)/\fE H (.load 2 true) [.hptr c 0 0]=some (enc y):=by refine⟨?_,?_,?_⟩<;>simp[fE,eU,a,cut]<;>rfl
theorem Y5{c o:Nat}{ids:ST}{rows:S'}{p j:Nat}{r:So}{u:V}(B:get F 8=.hptr c 0 0)(a:H[c]?=some (.row 2 [cells y]))(D:nX H (get F 5) o ids rows)(hp:y.proc=p)(G:y.index=j)(b:rows[p]?=some r)(d:r[j]?=some u):
 ∃F',cQ E N call (some H.length) HZ F H=some (F',H)/\get F' 49=u/\(∀s,s<11->get F' s=get F s):=by
 have⟨id,w,z,C,I,J⟩:=D.cell b d;have⟨L,O,_⟩:=ZG a;refine⟨_,vp (v:=get F 5) rfl ?_<|vp (v:=.hptr c 0 0) rfl ?_<|vp (v:=.int .i64 p) rfl ?_<|vp (v:=.hptr o p 0) rfl ?_<|vp (v:=.hsl id 1 0 r.length) rfl ?_<|vp (v:=.hptr c 0 1) rfl ?_<|vp (v:=.int .i64 j) rfl ?_<|vp (v:=.hptr id j 0) rfl ?_<|vp (v:=u) rfl ?_ eH,?_,?_⟩
 .simp[bK,bB,bq]
 .simp[bK,bB,bq,bz,B,iZ]
 .simp[bK,bB,bz,bC,kZ];grind
 .simp[bK,bB,bz,bC,bq];grind
 .simp[bK,bB,bz,bC,kZ];grind
 .simp[bK,bB,bq,bz,B,iZ]
 .simp[bK,bB,bz,bC,kZ];grind
 .simp[bK,bB,bz,bC,bq];grind
 .simp[bK,bB,bz,bC,kZ];simp_all
 .simp[bz]
 simp[bz,bC]
 grind
theorem x12{c o:Nat}{ids:ST}{rows:S'}{p j:Nat}{r:So}{u:V}(B:get F 8=.hptr c 0 0)(d:H[c]?=some (.row 2 [cells y]))(D:nX H (get F 5) o ids rows)(hp:y.proc=p)(J:y.index=j)(a:rows[p]?=some r)(b:r[j]?=some u):
 ∃F' H',cQ E N call (some H.length) HD F H=some (F',H')/\nX H' (get F' 5) o ids (rows.set p (r.set j (.bool true)))/\H'.length=H.length/\(∀i,i∉ids->H'[i]?=H[i]?)/\(∀s,s<11->get F' s=get F s):=by
 have⟨id,w,L,O,z,Q⟩:=D.cell a b;have⟨S,T,_⟩:=ZG d;have⟨H',C,U,G,I⟩:=D.set a (ζe.1 b).1 w (u:=.bool true) rfl rfl;refine⟨_,H',vp (v:=get F 5) rfl ?_<|vp (v:=.hptr c 0 0) rfl ?_<|vp (v:=.int .i64 p) rfl ?_<|vp (v:=.hptr o p 0) rfl ?_<|vp (v:=.hsl id 1 0 r.length) rfl ?_<|vp (v:=.hptr c 0 1) rfl ?_<|vp (v:=.int .i64 j) rfl ?_<|vp (v:=.hptr id j 0) rfl ?_<|kQ (v:=.undef) rfl ?_ eH,?_,G,λi hi=>I i λe=>hi (e▸mem_of_getElem? w),?_⟩
 .simp[bK,bB,bq]
 .simp[bK,bB,bq,bz,B,iZ]
 .simp[bK,bB,bz,bC,kZ];grind
 .simp[bK,bB,bz,bC,bq];grind
 .simp[bK,bB,bz,bC,kZ];grind
 .simp[bK,bB,bq,bz,B,iZ]
 .simp[bK,bB,bz,bC,kZ];grind
 .simp only[bK,map_cons,map_nil,bB,bz,bC,reduceEqDiff,if_true,if_false,bq];rw[z];rfl
 .simp[bK,bB,bz,bC,C]
 .simp[bz,bC];omega
 simp[bz,bC]
 grind
def Jq(E:Env)(N:Nat->Y')(t:Z4)(a:bf->a_ (Sl bf)):Prop:=∀(y:bf)(s:Sl bf)(H:bp),a y=some s->∃w X id,(∃n,∀k,n<=k->fM E (run E k) (N 65) [enc t,enc y] H=some (w,H++X))/\lR (H++X) w (s.l.map cells) id/\(∀off m,w=.hsl id 2 off m->id=H.length)
theorem x13{a d:Nat}(hd:E.keep (N 65)=true){b:bf->a_ (Sl bf)}(D:Jq E N t b){s:Sl bf}(B:b y=some s)(f:get F 2=.hptr 0 0 0)(g:H[0]?=some (.row 1 [cells t])){c:Nat}(h:H[c]?=some (.row 2 [cells y])):
 ∃w X id,lR (H++X) w (s.l.map cells) id/\(∀off m,w=.hsl id 2 off m->id=H.length)/\
  (get F 8=.hptr c 0 0->∃F',(∃n,∀k,n<=k->cQ E N (run E k) none IW F H=some (F',H++X))/\get F' 9=w/\(∀s,s<11->s≠9->get F' s=get F s))/\
  (get F 3=.hptr c 0 0->∃F',(∃n,∀k,n<=k->cQ E N (run E k) none r7 F H=some (F',H++X))/\get F' 7=w/\(∀s,s<11->s≠7->get F' s=get F s)):=by
 have⟨w,X,id,⟨n,e1⟩,e2,e3⟩:=D y s H B;have z:fE H (.load 1 true) [.hptr 0 0 0]=some (enc t):=by simp[fE,eU,g,Ob.rows,cut];rfl
 have⟨_,_,C⟩:=ZG h;refine⟨w,X,id,e2,e3,λG=>⟨_,⟨n,λk e=>vp (v:=enc t) rfl ?_<|vp (v:=enc y) rfl ?_<|kQ (v:=w) (H1:=H++X) rfl ?_<|vp (v:=w) rfl ?_ eH⟩,?_,?_⟩,λi=>⟨_,⟨n,λk e=>vp (v:=enc t) rfl ?_<|vp (v:=enc y) rfl ?_<|kQ (v:=w) (H1:=H++X) rfl ?_<|vp (v:=w) rfl ?_ eH⟩,?_,?_⟩⟩
 .simp only[bK,map_cons,map_nil,bB,f];rw[z];rfl
 .simp only[bK,map_cons,map_nil,bB,bz,bC,reduceEqDiff,if_true,if_false,G];rw[C];rfl
 .simp only[bK,map_cons,map_nil,bB,bz,bC,reduceEqDiff,if_true,if_false,hd,List.nil_append,List.append_nil];exact e1 k e
 .simp[bK,bB,bq,bz]
 .simp[bz]
 .intro s B u;simp only[bz,bC];rw[if_neg (Ne.symm u)]
  repeat (rw[if_neg Zaa])
 .simp only[bK,map_cons,map_nil,bB,f];rw[z];rfl
 .simp only[bK,map_cons,map_nil,bB,bz,bC,reduceEqDiff,if_true,if_false,i];rw[C];rfl
 .simp only[bK,map_cons,map_nil,bB,bz,bC,reduceEqDiff,if_true,if_false,hd,List.nil_append,List.append_nil];exact e1 k e
 .simp[bK,bB,bq,bz]
 .simp[bz]
 intro s B u;simp only[bz,bC];rw[if_neg (Ne.symm u)]
 repeat (rw[if_neg Zaa])
end
section
variable{E:Env}{N:Nat->Y'}{F:WP}{H:bp}{call:dQ}{i:Nat}
theorem Vi{l:S'}{id:Nat}(a:get F 10=.int .i64 i)(h:lR H (get F 9) l id):∃F',cQ E N call none Ig F H=some (F',H)/\get F' 64=.bool (decide (i<l.length))/\(∀s,s<11->get F' s=get F s):=by refine⟨_,vp (v:=.int .i64 i) rfl ?_<|vp (v:=get F 9) rfl ?_<|vp (v:=.int .i64 l.length) rfl ?_<|vp (v:=.bool (decide (i<l.length))) rfl ?_ eH,?_,?_⟩;simp[bK,bB,bq,a];simp[bK,bB,bq,bz];simp[bK,bB,bz,bC,bq,h.len];simp[bK,bB,bq,bz,iG,pU];simp[bz];simp[bz,bC];grind
theorem x16{l D:S'}{id B:Nat}{c:So}(a:get F 10=.int .i64 i)(h:lR H (get F 7) l id)(G:lR H (get F 9) D B)(b:D[i]?=some c)(J:l.length+1<=2147483648):
 ∃F' H',cQ E N call none r16 F H=some (F',H')/\lR H' (get F' 7) (l++[c]) (H.length+1)/\H'.length=H.length+2/\(∀i,i<H.length->(∀off m,get F 7=.hsl id 2 off m->i≠id)->H'[i]?=H[i]?)/\(∀s,s<11->s≠7->get F' s=get F s):=by
 have u:=G.c c (mem_of_getElem? b);have⟨p,p1,p2⟩:=G.get b;have⟨H',C,I,w,z⟩:=h.push u J;refine⟨_,H',vp (v:=get F 7) rfl ?_<|vp (v:=get F 9) rfl ?_<|vp (v:=.int .i64 i) rfl ?_<|vp (v:=p) rfl ?_<|vp (v:=.agg c) rfl ?_<|kQ (v:=.hsl H.length 2 0 1) (H1:=H++[.row 2 [c]]) rfl ?_<|kQ (v:=.hsl (H.length+1) 2 0 (l.length+1)) rfl ?_<|vp (v:=.hsl (H.length+1) 2 0 (l.length+1)) rfl ?_ eH,?_,w,z,?_⟩
 .simp[bK,bB,bq]
 .simp[bK,bB,bq,bz]
 .simp[bK,bB,bq,bz,a]
 .simp[bK,bB,bz,bC,bq];grind
 .simp[bK,bB,bz,bC];grind
 .simp[bK,bB,bz,bC,jg];simp[fW,V.cells,Mk.val]
  grind
 .simp[bK,bB,bz,bC];omega
 .simp[bK,bB,bq,bz]
 .simp[bz,bC];omega
 simp[bz,bC]
 grind
theorem x17(a:get F 10=.int .i64 i)(b:i<=2147483648):∃F',cQ E N call none Rk F H=some (F',H)/\get F' 10=.int .i64 ((i+1:Nat):Int)/\(∀s,s<11->s≠10->get F' s=get F s):=by have u:=z8 b;refine⟨_,vp (v:=.int .i64 i) rfl ?_<|vp (v:=.int .i64 (i+1:Nat)) rfl ?_<|vp (v:=.int .i64 (i+1:Nat)) rfl ?_ eH,?_,?_⟩;simp[bK,bB,bq,a];simp[bK,bB,bz,bC,bq,iG];grind;simp[bK,bB,bq,bz];simp[bz];simp[bz,bC];grind
structure P3(l l9:List (List V))(B i:Nat)(F:Frame)(H:bp):Prop where
 f10:get F 10=.int .i64 i
 t9:∃id9,lR H (get F 9) l9 id9/\∃id,lR H (get F 7) l id/\(∀off m,get F 7=.hsl id 2 off m->B<=id/\∀off' m',get F 9=.hsl id9 2 off' m'->id≠id9)
 len:B<=H.length
theorem aaw(D:S')(B:Nat)(Y:D.length<=2147483648):∀(m i:Nat)(l:S')(F:WP)(H:bp),i+m=D.length->l.length+m<=2147483648->P3 l D B i F H->
 ∃F' H',nJ E N L3 F H (.exit 4) F' H'/\(∃id,lR H' (get F' 7) (l++D.drop i) id/\∀off m,get F' 7=.hsl id 2 off m->B<=id)/\(∀s,s<7->get F' s=get F s)/\(∀j,j<B->H'[j]?=H[j]?)/\H.length<=H'.length:=by
 intro m
 induction m with
 |zero=>
  intro i l F H hi Z p;obtain⟨u,t9,id,t7,C⟩:=p.t9;obtain⟨F1,e1,e2,e3⟩:=Vi (E:=E) (call:=⟨0,λ_ _ _=>none⟩) p.f10 t9
  refine⟨F1,H,nJ.stop (Ex.vK (Ex.seq (Ex.dy λc=>e1) (Ex.qU ?_ Ex.exit)) Zab) Zab,⟨id,?_,λoff m h=>?_⟩,λs T=>e3 s Zaa,λ_ _=>rfl,Nat.le_refl _⟩
  .show get F1 64=_
   grind
  .grind
  grind
 |succ m ih=>
  intro i l F H hi Z p;have z:i<D.length:=Zaa
  obtain⟨u,t9,id,t7,C⟩:=p.t9;obtain⟨F1,e1,e2,e3⟩:=Vi (E:=E) (call:=⟨0,λ_ _ _=>none⟩) p.f10 t9
  have a:=ζd z;have G:lR H (get F1 7) l id:=Zac
  have I:lR H (get F1 9) D u:=Zac
  obtain⟨e,H2,g1,g2,g3,g4,g5⟩:=x16 (E:=E) (call:=⟨0,λ_ _ _=>none⟩) (by rw[e3 10 Zaa];exact p.f10) G I a Zaa
  obtain⟨U,b,d,J⟩:=x17 (E:=E) (call:=⟨0,λ_ _ _=>none⟩) (by rw[g5 10 Zaa Zaa,e3 10 Zaa];exact p.f10) Zaa
  have keep:∀j,j<H.length->(∀off m,get F 7=.hsl id 2 off m->j≠id)->H2[j]?=H[j]?:=λj L h=>g4 j L Zac
  have O:P3 (l++[D[i]]) D B (i+1) U H2:=by refine⟨d,⟨u,?_,H.length+1,Zac,λoff m h=>⟨by have:=p.len;omega,λw m' W=>?_⟩⟩,by have:=p.len;omega⟩;rw[J 9 Zaa Zaa,g5 9 Zaa Zaa,e3 9 Zaa];exact t9.heap λoff n X=>keep u (t9.lt X) λw m' Q=>Ne.symm ((C w m' Q).2 off n X);rw[J 9 Zaa Zaa,g5 9 Zaa Zaa,e3 9 Zaa]at W;have:=t9.lt W;omega
  obtain⟨F',H',r1,⟨S,r2,r3⟩,r4,r5,r6⟩:=ih (i+1) (l++[D[i]]) U H2 Zaa (by simp;omega) O
  refine⟨F',H',nJ.step (Ex.seq (Ex.seq (Ex.dy λc=>e1) (Ex.oN ?_ Ex.skip)) (Ex.seq (Ex.block (Ex.dy λc=>g1)) (Ex.dy λc=>b))) r1,⟨S,?_,r3⟩,λs T=>?_,λj L=>?_,Zaa⟩
  .show get F1 64=_
   grind
  .rw[List.append_assoc]at r2;rw[List.drop_eq_getElem_cons z];exact r2
  .rw[r4 s T,J s Zaa Zaa,g5 s Zaa Zaa,e3 s Zaa]
  have:=p.len;rw[r5 j L,keep j Zaa λoff m h=>by have:=(C off m h).1;omega]
end
structure P2(t:Trace)(out:List (List Bool))(l:List bf)(F:Frame)(H:bp):Prop where
 f2:get F 2=.hptr 0 0 0
 h0:H[0]?=some (.row 1 [cells t])
 ns:∃B o ids id,nX H (get F 5) o ids (lF out)/\(out≠[]->1<=o/\o<B)/\(∀id∈ids,1<=id/\id<B)/\1<=B/\B<=H.length/\lR H (get F 7) (l.map cells) id/\∀off m,get F 7=.hsl id 2 off m->B<=id
theorem SK(out:aZ (aZ X'))(p j:Nat)(row:aZ X'):lF (out.set p (row.set j true))=(lF out).set p ((row.map V.bool).set j (.bool true)):=by simp[lF]
theorem KB{out:aZ (aZ X')}:lF out=[]↔out=[]:=by simp[lF]
theorem TI{a:bf->a_ (Sl bf)}{out:aZ (aZ X')}{y:bf}{rest:aZ bf}{w:Fw (aZ (aZ X')×aZ bf) (aZ (aZ X')) Empty}(h:qn a (out,y::rest)=some w):
 ∃(p j:Nat)(row:aZ X')(b:X'),y.proc=p/\y.index=j/\out[p]?=some row/\row[j]?=some b/\((b=true/\w=.n (out,rest))\/(b=false/\∃more,a y=some more/\rest.length+more.l.length<=2147483648/\w=.n (out.set p (row.set j true),rest++more.l))):=by
 simp only[qn]at h;split at h
 .have⟨row,h1,h⟩:=ζg.1 h;have⟨b,u,h⟩:=ζg.1 h;refine⟨y.proc.toNat,y.index.toNat,row,b,Zaa,Zaa,h1,u,?_⟩
  cases b with
  |true=>simp[bl]at h;grind|false=>
   have⟨more,z,h⟩:=ζg.1 h
   grind
 simp_all
theorem Pa{E:Env}{N:Nat->Y'}{t:Z4}{f:bf->a_ (Sl bf)}(hd:E.keep (N 65)=true)(hD:Jq E N t f):∀(k:Nat)(out:aZ (aZ X'))(l:aZ bf)(D:aZ (aZ X'))(F:WP)(H:bp),
 kL (qn f) k (out,l)=some (.x D)->P2 t out l F H->∃F' H',nJ E N L2 F H (.exit 2) F' H'/\P2 t D [] F' H':=by
 intro k
 induction k with
 |zero=>intro out l D F H h;simp[kL]at h|succ k ih=>
  intro out l D F H h p;have⟨B,o,ids,id,n1,n2,Y,n4,n5,t7,t8⟩:=p.ns;have⟨F1,e1,e2,e3⟩:=x8 (E:=E) (N:=N) (call:=⟨0,λ_ _ _=>none⟩) t7
  rw[List.length_map]at e2
  cases l with
  |nil=>
   simp only[kL,qn]at h;cases h;refine⟨F1,H,nJ.stop (Ex.vK (Ex.seq (Ex.dy λc=>e1) (Ex.qU ?_ Ex.exit)) Zab) Zab,?_⟩
   .show get F1 35=_;rw[e2];simp
   exact⟨by rw[e3 2 Zaa];exact p.f2,p.h0,B,o,ids,id,by rw[e3 5 Zaa];exact n1,n2,Y,n4,n5,by rw[e3 7 Zaa];exact t7,by rw[e3 7 Zaa];exact t8⟩
  |cons y rest=>
   simp only[kL]at h
   cases J:qn f (out,y::rest)with
   |none=>rw[J]at h;cases h|some w=>
   rw[J]at h;have⟨q,j,row,b,hq,hj,u,hb,L⟩:=TI J;have O:lR H (get F1 7) (cells y::rest.map cells) id:=by rw[e3 7 Zaa];exact t7
   have⟨F2,g1,g2,g3⟩:=x9 (E:=E) (N:=N) (call:=⟨0,λ_ _ _=>none⟩) O
   have aa:lR (H++[.row 2 [cells y]]) (get F2 7) (cells y::rest.map cells) id:=by rw[g3 7 Zaa Zaa];exact O.more _
   have⟨r,i1,i2,⟨G,m1,ab,i3,i4⟩,K⟩:=x10 (E:=E) (N:=N) (call:=⟨0,λ_ _ _=>none⟩) aa
   have Q:(H++[Ob.row 2 [cells y]])[H.length]?=some (.row 2 [cells y]):=Zab
   have M:get r 8=.hptr H.length 0 0:=by rw[K 8 Zaa Zaa];exact g2
   have f5:get r 5=get F 5:=by rw[K 5 Zaa Zaa,g3 5 Zaa Zaa,e3 5 Zaa]
   have P:get r 2=.hptr 0 0 0:=by rw[K 2 Zaa Zaa,g3 2 Zaa Zaa,e3 2 Zaa];exact p.f2
   have S:nX (H++[.row 2 [cells y]]) (get r 5) o ids (lF out):=by rw[f5];exact n1.more _
   have hr:(lF out)[q]?=some (row.map V.bool):=by simp[lF,u]
   have hu:(row.map V.bool)[j]?=some (.bool b):=by simp[hb]
   have T:B<=id:=by have:get F 7=.hsl id 2 G m1:=(by rw[<-i3,g3 7 Zaa Zaa,e3 7 Zaa]);exact t8 _ _ this
   have⟨R,j1,j2,z⟩:=Y5 (E:=E) (N:=N) (call:=⟨0,λ_ _ _=>none⟩) M Q S hq hj hr hu
   have ad:bB N F1 (.s 35)=.bool true:=by show get F1 35=_;rw[e2];simp
   rcases L with⟨rfl,rfl⟩|⟨rfl,more,v,aq,rfl⟩
   .simp only at h;have U:P2 t out rest R (H++[.row 2 [cells y]]):=by
     refine⟨by rw[z 2 Zaa];exact P,by rw[List.getElem?_append_left (ζe.1 p.h0).1];exact p.h0,B,o,ids,id,by rw[z 5 Zaa];exact S,n2,Y,n4,by simp;omega,by rw[z 7 Zaa];exact i2,λoff m _=>T⟩
    have⟨F',H',r1,r2⟩:=ih out rest D R _ h U;exact⟨F',H',nJ.step (Ex.seq (Ex.seq (Ex.dy λc=>e1) (Ex.oN ad Ex.skip)) (Ex.wJ (Ex.seq (Ex.dy λc=>g1) (Ex.seq (Ex.dy λc=>i1) (Ex.vK (Ex.seq (Ex.qZ rfl λc=>j1) (Ex.oN j2 Ex.exit)) Zab))))) r1,r2⟩
   simp only at h;have n6:nX (H++[.row 2 [cells y]]) (get R 5) o ids (lF out):=by rw[z 5 Zaa];exact S
   have⟨F5,C,k1,k2,k3,k4,k5⟩:=x12 (E:=E) (N:=N) (call:=⟨0,λ_ _ _=>none⟩) (by rw[z 8 Zaa];exact M) Q n6 hq hj hr hu
   have I:∀i,B<=i->i∉ids:=λi hi v=>by have:=(Y i v).2;omega
   have ah:C[H.length]?=some (.row 2 [cells y]):=by rw[k4 _ (I _ n5)];exact Q
   have W:C[0]?=some (.row 1 [cells t]):=by rw[k4 0 (λv=>by have:=(Y 0 v).1;omega),List.getElem?_append_left (ζe.1 p.h0).1];exact p.h0
   have⟨w9,X,ai,aj,m2,m3,_⟩:=x13 (a:=0) (d:=0) (F:=F5) hd hD v (by rw[k5 2 Zaa,z 2 Zaa];exact P) W ah
   have⟨Z,⟨nn,ak⟩,ae,o3⟩:=m3 (by rw[k5 8 Zaa,z 8 Zaa];exact M)
   have au:C.length=H.length+1:=by rw[k3];simp
   have i7:get Z 7=.hsl id 2 ab (rest.map cells).length:=by rw[o3 7 Zaa Zaa,k5 7 Zaa,z 7 Zaa];exact i4
   have ar:id<H.length:=by have:=O.lt (off:=G) (m:=m1) (by rw[<-i3,g3 7 Zaa Zaa]);exact this
   have t6:lR (C++X) (get Z 7) (rest.map cells) id:=by have:get Z 7=get r 7:=(by rw[o3 7 Zaa Zaa,k5 7 Zaa,z 7 Zaa]);rw[this];refine(i2.heap (H':=C) λoff n _=>k4 id (I id T)).more X
   have al:∃g,(∀c,cQ E N c none FW Z (C++X)=some (g,C++X))/\get g 10=.int .i64 ((0:Nat):Int)/\∀s,s<10->get g s=get Z s:=⟨set Z 10 (.int .i64 0),λc=>by simp[FW,cQ,bK,bB,bq,bz],Zab,λs hs=>by rw[bC,if_neg Zaa]⟩
   have⟨g,u1,u2,x⟩:=al;have am:P3 (rest.map cells) (more.l.map cells) B 0 g (C++X):=by refine⟨u2,⟨ai,by rw[x 9 Zaa,ae];exact aj,id,by rw[x 7 Zaa];exact t6,λoff m hh=>⟨T,λaf m' h'=>?_⟩⟩,by simp;omega⟩;rw[x 9 Zaa,ae]at h';have:=m2 af m' h';omega
   have⟨A,H8,v1,⟨an,v2,v3⟩,v4,v5,v6⟩:=aaw (E:=E) (N:=N) (more.l.map cells) B (by simp;omega) (more.l.map cells).length 0 (rest.map cells) g (C++X) Zaa (by simp;omega) am
   have ao:nX H8 (get A 5) o ids (lF (out.set q (row.set j true))):=by have h5:get A 5=get F5 5:=(by rw[v4 5 Zaa,x 5 Zaa,o3 5 Zaa Zaa]);rw[h5,SK];refine(k2.more X).heap (λap=>v5 o ?_) λi hi=>v5 i (Y i hi).2;have:out≠[]:=(by intro e;subst e;simp at u);exact(n2 this).2
   have U:P2 t (out.set q (row.set j true)) (rest++more.l) A H8:=by refine⟨by rw[v4 2 Zaa,x 2 Zaa,o3 2 Zaa Zaa,k5 2 Zaa,z 2 Zaa];exact P,?_,B,o,ids,an,ao,λap=>n2 (by intro e;subst e;simp at u),Y,n4,by simp at v6;omega,?_,v3⟩;rw[v5 0 Zaa,List.getElem?_append_left (ζe.1 W).1];exact W;rw[List.drop_zero]at v2;rw[map_append];exact v2
   have⟨F',H',w1,w2⟩:=ih _ _ D A H8 h U;exact⟨F',H',nJ.step (Ex.seq (Ex.seq (Ex.dy λc=>e1) (Ex.oN ad Ex.skip)) (Ex.block (Ex.seq (Ex.dy λc=>g1) (Ex.seq (Ex.dy λc=>i1) (Ex.seq (Ex.seq (Ex.qZ rfl λc=>j1) (Ex.qU j2 Ex.skip)) (Ex.seq (Ex.qZ rfl λc=>k1)
    (Ex.seq (Ex.ops ⟨nn,ak⟩) (Ex.seq (Ex.dy u1) (Ex.wJ (Ex.loop v1)))))))))) w1,w2⟩
theorem VI{H:bp}{Z:Nat->Prop}{id:Nat}{r:aZ X'}(D:Z id)(h:H[id]?=some (.row 1 (j7 (r.map V.bool)))):FR H Z (enc (Sl.row r)) (.hsl id 1 0 r.length):=by
 have e:bt H id=some (1,j7 (r.map V.bool)):=by simp[bt,h,Ob.rows]
 have C:enc (Sl.row r)=.fsl 1 (rows r):=rfl;have G:(rows r).length=r.length:=by simp[rows]
 have f:j7 (r.map V.bool)=rows r:=by simp[j7,rows,Function.comp_def]
 rw[f]at e;rw[C,<-G];refine .fsl 1 (rows r) id 0 (rows r) D e Zaa (λi a b d w=>?_) (λi j a b u v d w z B=>?_);grind;rw[zero_add,d]at w;cases w;rw[z]at B;cases B;refine .same u ?_;obtain⟨c,I,rfl⟩:∃c∈r,a=[V.bool c]:=by have:=mem_of_getElem? d;simp only[rows,mem_map]at this;obtain⟨c,f,rfl⟩:=this;simp_all
 have:=mem_of_getElem? z;simp at this;subst this;rfl
theorem UK{H:bp}{w:V}{o:Nat}{ids:ST}{out:aZ (aZ X')}(n:nX H w o ids (lF out)):∃Z,FR H Z (enc (nested out)) w/\(∀id,Z id->(bt H id).isSome=true)/\Deep H Z:=by
 have f:=n.v;by_cases O:out=[];subst O;rw[if_pos (show lF []=[]from rfl)]at f;subst f;exact⟨λ_=>False,.same _ rfl,λ_ h=>h.elim,⟨λ_ _ _ h=>h.elim⟩⟩;have G:lF out≠[]:=λh=>O (KB.1 h);rw[if_neg G,yo]at f;subst f;have Q:=n.ob G;have I:=n.len;rw[yo]at I;have B:∀(i id:Nat)(r:aZ X'),ids[i]?=some id->out[i]?=some r->H[id]?=some (.row 1 (j7 (r.map V.bool))):=λi id r e D=>n.r i id _ e (by simp[lF,D]);have C:∀(i:Nat)(c:So),(refs ids (lF out))[i]?=some c->∃id r,ids[i]?=some id/\out[i]?=some r/\c=[.hsl id 1 0 r.length]:=λi c h=>by have hi:=(ζe.1 h).1;rw[vz n.len,yo]at hi;have e:=ζd (show i<ids.length from Zaa);have D:=ζd hi;have S:=D6 (rows:=lF out) (r:=out[i].map V.bool) e (by simp[lF,D]);grind
 have J:bt H o=some (1,refs ids (lF out)):=by simp[bt,Q,Ob.rows]
 have L:∀id∈ids,∃(r:aZ X'),H[id]?=some (.row 1 (j7 (r.map V.bool))):=λid z=>by have⟨i,hi⟩:=List.getElem?_of_mem z;have T:=(ζe.1 hi).1;exact⟨_,B i id _ hi (ζd (show i<out.length from Zaa))⟩
 refine⟨λid=>id=o\/id∈ids,?_,λid h=>?_,⟨λid es ys h d c hc u hu=>?_⟩⟩;have Y:enc (nested out)=.fsl 1 (rows (out.map Sl.row)):=by rw[nested,if_neg O];rfl
 have T:(rows (out.map Sl.row)).length=out.length:=by simp[rows]
 rw[Y,<-T];refine .fsl 1 _ o 0 (refs ids (lF out)) (.inl rfl) J (by rw[T,vz n.len,yo];omega) (λi a b e D=>?_) (λi j a b u v e D S X=>?_);rw[zero_add]at D;obtain⟨id,r,_,d,rfl⟩:=C i b D;simp[rows,d]at e;subst e;rfl;rw[zero_add]at D;obtain⟨id,r,z,d,rfl⟩:=C i b D;have g:a=[enc (Sl.row r)]:=by simp[rows,d]at e;exact e.symm
 subst g;cases j with|zero=>simp at S X;subst S X;exact VI (.inr (mem_of_getElem? z)) (B i id r z d)|succ j=>simp_all
 rcases h with rfl|h;simp_all;have⟨r,d⟩:=L id h;simp[bt,d,Ob.rows];rcases h with rfl|h;rw[J]at d;cases d;have⟨i,hi⟩:=List.getElem?_of_mem hc;obtain⟨id,r,z,U,rfl⟩:=C i c hi;simp at hu;subst hu;exact⟨_,VI (.inr (mem_of_getElem? z)) (B i id r z U)⟩;have⟨r,W⟩:=L id h;have:bt H id=some (1,j7 (r.map V.bool)):=by simp[bt,W,Ob.rows]
 rw[this]at d;cases d;simp only[j7,mem_map]at hc;obtain⟨_,⟨c',_,rfl⟩,rfl⟩:=hc;simp at hu;subst hu;exact⟨_,.same _ rfl⟩
theorem VY{t:Z4}{x:bf}{out:aZ (aZ X')}{s:Sl bf}{b:bf->a_ (Sl bf)}(hd:yK.keep (zk 65)=true)(W:Jq yK zk t b)(U:Cr t=true)(f:b x=some s)(g:bY (qn b) (iB t,s.l)=some (.x out)):
 Cm yK (zk 38) [enc t,enc x] (enc (nested out)):=by
 have⟨fi,g1,g2,g3,g4⟩:=shape;have⟨k,j⟩:=qf.1 g;have l:∃F1,(∀c,cQ yK zk c none r1 [enc t,enc x] []=some (F1,[.row 1 [cells t],.row 2 [cells x]]))/\get F1 2=.hptr 0 0 0/\get F1 3=.hptr 1 0 0:=by refine⟨_,λc=>kQ (v:=.hptr 0 0 0) (H1:=[.row 1 [cells t]]) rfl ?_<|kQ (v:=.hptr 1 0 0) (H1:=[.row 1 [cells t],.row 2 [cells x]]) rfl ?_<|vp (v:=.bM) rfl ?_ eH,?_,?_⟩;show(jg .box [enc t]).map _=_;simp only[jg,kJ,sq,if_true,Option.map_some,gT];rfl;simp only[bK,map_cons,map_nil,bB,bz,bC,reduceEqDiff,if_false];show(jg .box [enc x]).map _=_;simp only[jg,kJ,sq,if_true,Option.map_some,gT];rfl;simp[bK,bB,bq];simp[bz];simp[bz]
 have⟨F1,p,q,r⟩:=l;have y:∃I,(∀c,cQ yK zk c none r2 F1 [.row 1 [cells t],.row 2 [cells x]]=some (set F1 5 .bM,[.row 1 [cells t],.row 2 [cells x]]))/\(∀c,cQ yK zk c none r3 (set F1 5 .bM) [.row 1 [cells t],.row 2 [cells x]]=some (I,[.row 1 [cells t],.row 2 [cells x]]))/\P1 t x 0 I [.row 1 [cells t],.row 2 [cells x]]:=by refine⟨set (set F1 5 .bM) 6 (.int .i64 0),λc=>by simp[r2,cQ,bK,bB,bq,bz],λc=>by simp[r3,cQ,bK,bB,bq,bz],by simp[q],by simp[r],Zab,rfl,rfl,0,[],?_,λh=>absurd rfl h,λid h=>by simp at h⟩;have:get (set (set F1 5 .bM) 6 (.int .i64 0)) 5=.bM:=Zab;rw[this,List.take_zero];exact nX.nil _ 0
 have⟨I,A,H,K⟩:=y;have⟨M,Q,e1,e2⟩:=Ot (E:=yK) (N:=zk) U t.procs.l.length 0 I _ Zaa K
 have⟨o,ids,J,P,R⟩:=e2.ns;have S:(iB t).length=t.procs.l.length:=by simp[iB]
 rw[List.take_of_length_le Zaa]at J
 have⟨w,X,id,m1,m2,_,m4⟩:=x13 (a:=0) (d:=0) (F:=M) (E:=yK) (N:=zk) hd W f e2.f2 e2.h0 (c:=1) e2.h1;have⟨T,o1,o2,o3⟩:=m4 e2.f3;have O:P2 t (iB t) s.l T (Q++X):=by refine⟨by rw[o3 2 Zaa Zaa];exact e2.f2,by rw[List.getElem?_append_left (ζe.1 e2.h0).1];exact e2.h0,Q.length,o,ids,id,by rw[o3 5 Zaa Zaa];exact J.more X,λu=>?_,λi hi=>⟨by have:=R i hi;omega,J.lt.2 i hi⟩,?_,Zab,by rw[o2];exact m1,λoff m h=>?_⟩;have z:lF (iB t)≠[]:=λh=>u (KB.1 h);have:t.procs.l.length≠0:=(by intro h;apply u;exact List.eq_nil_of_length_eq_zero Zaa);have:=P this;exact⟨Zaa,J.lt.1 z⟩;have:=(ζe.1 e2.h0).1;omega;rw[o2]at h;have:=m2 off m h;omega
 have⟨C,L,p1,p2⟩:=Pa hd W k _ _ out T _ j O;have⟨B,o',Y,aa,V,_⟩:=p2.ns;have l1:∃D,(∀c,cQ yK zk c none r18 C L=some (D,L))/\get D 4=get C 5:=by refine⟨_,λc=>vp (v:=get C 5) rfl ?_<|vp (v:=get C 5) rfl ?_ eH,?_⟩;simp[bK,bB,bq];simp[bK,bB,bq,bz];simp[bz]
 have⟨D,y1,y2⟩:=l1;have e:Ex yK zk code [enc t,enc x] [] .ret D L:=Ex.seq (Ex.dy p) (Ex.seq (Ex.dy A) (Ex.seq (Ex.seq (Ex.dy H) (Ex.wJ (Ex.loop e1))) (Ex.seq (Ex.ops o1) (Ex.seq (Ex.wJ (Ex.loop p1)) (Ex.seq (Ex.dy y1) Ex.ret)))))
 have⟨n,G⟩:=e.run (nm:=some) xX g1 g2 (show[enc t,enc x].length<=fi.ntmps from g3) (vs:=[get D 4]) (by rw[g4];rfl)
 have⟨Z,z1,z2,z3⟩:=UK V;exact⟨n,get C 5,L,Z,by rw[G,y2];rfl,z1,z2,z3⟩
theorem ZF(l:aZ bf):∀c∈l.map (cells (α:=bf)),c.length=2/\c.all V.one=true/\c.all V.scalar=true:=λc a=>by obtain⟨e,_,rfl⟩:=mem_map.1 a;exact⟨rfl,rfl,rfl⟩
theorem aaH(t:Z4):Jq yK zk t (ez t):=by
 intro y s H B;have d:=Bp t y;have I:=d (cO s) (by rw[B];rfl);have b:V.cM [enc t,enc y]=true:=by simp only[V.cM,kC,Bool.and_self]
 have w:s.k=.row\/s.k=.nil/\rows s.l=[]:=by have D:∀o z,(∃l,o=.row l)\/o=.nil->ez.J1 o t y=some z->(∃l,z=.row l)\/z=.nil:=λo z J u=>(by unfold ez.J1 at u;have⟨e,_,u⟩:=ζg.1 u;cases G:e.kind==3 with|true=>rw[G]at u;have⟨f,_,u⟩:=ζg.1 u;have⟨q,C,u⟩:=ζg.1 u;cases u;unfold gm at C;split at C;cases C;exact .inl ⟨_,rfl⟩;cases C|false=>rw[G]at u;cases u;exact J);have:(∃l,s=.row l)\/s=.nil:=(by unfold ez at B;cases a:decide (y.index>1)with|true=>rw[a]at B;exact D _ s (.inl ⟨_,rfl⟩) B|false=>rw[a]at B;exact D _ s (.inr rfl) B);rcases this with⟨l,rfl⟩|rfl;exact .inl rfl;exact .inr ⟨rfl,rfl⟩
 have⟨n,z,H',r1,r2⟩:=YH Jt CO (T:=Tx) (f:=zk 65) (rf:=sO (Tx 65)) Zae b (Nat.le_of_ble_eq_true Zae) (k:=s.k) (es:=2) (xs:=rows s.l) (λc a=>(ZF s.l c a).2.2) w I;refine JZ (l:=s.l.map cells) (y:=z) (H1:=H') Zae b (ZF s.l) ⟨n,λk g=>(pY _ g).go _ _ _ _ r1⟩ ?_ H;rcases r2 with⟨L,rfl⟩|⟨id,rfl,O⟩;left;cases s<;>simp[Sl.k]at L;exact⟨rfl,rfl⟩;right;exact⟨id,by simp[rows],O⟩
end pastX
theorem TG(t:Z4)(x:bf)(r:Sl (Sl X'))(h:o8 t x=some r):Sy.yR 38 [enc t,enc x]=some (enc r):=by
 unfold o8 at h;split at h;rename_i u;have⟨s,z,h⟩:=ζg.1 h;have⟨w,B,h⟩:=ζg.1 h;cases w with|n a=>exact elim a|r e=>exact elim e|x out=>cases h;exact Cl (pastX.VY Zae (pastX.aaH t) u z B)
 cases h
noncomputable section
def yb:a_ X':=some true
instance XC:Fc Sy cL yb:=⟨4,[],λr:X'=>[.bool r],true,gC.yR Zae Zae QE⟩
def qy(B:Int):a_ X':=(bl (decide (B>=65)) (some (decide (B<=90))) (some false):a_ X').bind λu=>(bl u (some true) ((bl (decide (B>=97)) (some (decide (B<=122))) (some false):a_ X').bind λw=>some w):a_ X').bind λz=>some z
instance Vx(B:Int):Fc Sy cL (qy B):=Fc.M 88 [.int .u8 B] (cg 10 3 [5] 8 (bA 10 5 (bE 3) (bE 3)) λu=>cg 1 7 [0,9] 16 (bA 1 9 (bE 7) (cg 3 3 [0,12] 15 (bA 3 12 (bE 3) (bE 3)) λw=>bE 1)) λz=>bh)
def u_(B:Int):a_ X':=(bl (decide (B>=48)) (some (decide (B<=57))) (some false):a_ X').bind λu=>some u
instance VS(B:Int):Fc Sy cL (u_ B):=Fc.M 89 [.int .u8 B] (cg 10 3 [0,5] 8 (bA 10 5 (bE 3) (bE 3)) λu=>bh)
namespace iM
def br(s0:U')(i3:Int):a_ (Fw Int Unit Unit):=bl (decide (i3<((ByteArray.size s0:Nat):Int))) ((mD s0 i3).bind λz=>(qy z).bind λB=>(bl B (some false) ((mD s0 i3).bind λC=>(u_ C).bind λD=>some (!D)):a_ X').bind λG=>(bl G ((mD s0 i3).bind λu=>some (!(u==95))) (some false):a_ X').bind λw=>bl w (some (.r ())) (some (.n (wrap .i64 (i3+1))))) (some (.x ()))
def W1(s0:U')(i3:Int):a_ X':=(bY (λq:Int=>br s0 q) i3).bind (Fw.elim (λe=>some true) (λe=>some false))
end iM
def iM(s0:U'):a_ X':=(bl (decide (((ByteArray.size s0:Nat):Int)<1)) (some true) (some (decide (((ByteArray.size s0:Nat):Int)>16))):a_ X').bind λu=>(bl u (some true) ((mD s0 0).bind λw=>(qy w).bind λz=>some (!z)):a_ X').bind λB=>bl B (some false) (iM.W1 s0 1)
open iM in
instance X9(s0:U'):Fc Sy cL (iM s0):=Fc.M 61 [.str s0] (cg 12 4 [7] 11 (bA 12 7 (bE 4) (bE 4)) λC=>cg 1 5 [12] 17 (bA 1 12 (bE 5) (Ce 1 .i64 λD _=>bF 0 λG _=>bE 2)) λI=>bA 2 17 bh (eE 11 (λw=>(bL [(0,.v (.str s0)),Iv 3 w] [])) (λu=>(0,(bL [] []))) (λu=>(bL [Bv 2 false] [])) (λw=>bA 10 21 (Ce 9 .i64 λJ _=>bF 0 λL _=>cg 2 6 [29] 35 (di 2 29 (bE 6) (Ce 2 .i64 λO _=>bF 0 λQ _=>bE 2)) λS=>cg 1 5 [36] 41 (bA 1 36 (Ce 2 .i64 λz _=>bE 2) (bE 5)) λB=>bA 2 41 bh bh) bh) (λu=>bh) (λu=>bh)))
def rP(B:Int):a_ X':=(bl (decide (B>=(-1073741824))) (some (decide (B<=1073741824))) (some false):a_ X').bind λu=>some u
instance WC(B:Int):Fc Sy cL (rP B):=Fc.M 62 [.int .i64 B] (cg 10 3 [0,5] 8 (bA 10 5 (bE 3) (bE 3)) λu=>bh)
namespace eW
def fA(G:Int)(B:bW)(D:Int):a_ (Fw Int Unit Unit):=bl (decide (D<G)) ((idx B.vars D).bind λu=>(idx B.vars G).bind λw=>bl (toList u.name==toList w.name) (some (.r ())) (some (.n (wrap .i64 (D+1))))) (some (.x ()))
def W3(D G:Int)(B:bW):a_ (Fw Int Unit Int):=(bY (λq:Int=>fA D B q) G).bind (Fw.elim (λe=>(idx B.vars D).bind λu=>(rP u.init_).bind λw=>bl w (some (.n (wrap .i64 (D+1)))) (some (.r 2))) (λe=>some (.r 13)))
def bV(B:bW)(D:Int):a_ (Fw Int Unit Int):=bl (decide (D<(len B.vars))) ((idx B.vars D).bind λu=>(iM u.name).bind λw=>bl w (W3 D 0 B) (some (.r 13))) (some (.x ()))
def W2(D:Int)(B:bW):Pi:=(bY (λq:Int=>bV B q) D).bind (Fw.elim (λe=>bl (decide ((len B.events)>64)) (some 5) (some 0)) (λe=>some e))
def br(p1:Int)(B:Z4)(D:bW)(G:Int):a_ (Fw Int Unit Unit):=bl (decide (G<p1)) ((idx B.procs G).bind λu=>bl (toList u.name==toList D.name) (some (.r ())) (some (.n (wrap .i64 (G+1))))) (some (.x ()))
def W1(p1 G:Int)(D:Z4)(B:bW):Pi:=(bY (λq:Int=>br p1 D B q) G).bind (Fw.elim (λe=>bl (decide ((len B.vars)>8)) (some 5) (eW.W2 0 B)) (λe=>some 13))
end eW
def eW(B:Z4)(p1:Int):Pi:=(idx B.procs p1).bind λu=>(iM u.name).bind λw=>bl w (eW.W1 p1 0 B u) (some 13)
open eW in
instance X7(J:Z4)(p1:Int):Fc Sy cL (eW J p1):=Fc.M 34 [enc J,.int .i64 p1] (cu 2 2 J (bP 8 λu _=>oh 2 5 0 u (bF 7 λI _=>di 3 17 (eE 11 (λD=>(bL [Iv 1 p1,Pv 2,Pv 5,Iv 6 D] [Xb 2 J,Xb 5 u])) (λB=>(0,(bL [Pv 5] [Xb 5 u]))) (λB=>(bL [Iv 4 13] [])) (λD=>bA 9 20 (bP 10 λL _=>bA 7 31 bh bh) bh) (λB=>bZ 7 u.vars (bA 3 35 bh (eE 11 (λw=>(bL [Pv 5,Iv 7 w] [Xb 5 u])) (λz=>(2,(bL [Pv 5] [Xb 5 u]))) (λz=>(bL [Iv 4 z] [])) (λw=>bZ 7 u.vars (bA 3 40 (bP 11 λO _=>bF 2 λQ _=>di 3 50 (eE 11 (λG=>(bL [Pv 5,Iv 7 w,Iv 8 G] [Xb 5 u])) (λC=>(4,(bL [Pv 5,Iv 7 w] [Xb 5 u]))) (λC=>(bL [Iv 4 13] [])) (λG=>bA 9 53 (bP 10 λS _=>bP 5 λT _=>bA 5 68 bh bh) bh) (λC=>bP 7 λU _=>bF 2 λW _=>di 3 76 bh bh) (λC=>bh)) bh) bh)) (λz=>bZ 7 u.events (bA 3 80 bh bh)) (λz=>bh)))) (λB=>bh)) bh)))
namespace eV
def fA(p1 k8:Int)(J:Z4)(D:WF)(G:Assign)(B:Int):a_ (Fw Int Unit Unit):=bl (decide (B<k8)) ((idx D.assign B).bind λu=>bl (u.var==G.var) (some (.r ())) (some (.n (wrap .i64 (B+1))))) (some (.x ()))
def W3(p1 k8 B:Int)(D:Z4)(G:WF)(J:Assign):a_ (Fw Int Unit Int):=(bY (λq:Int=>fA p1 k8 D G J q) B).bind (Fw.elim (λe=>some (.n (wrap .i64 (k8+1)))) (λe=>some (.r 8)))
def bV(p1:Int)(D:Z4)(B:WF)(k8:Int):a_ (Fw Int Unit Int):=bl (decide (k8<(len B.assign))) ((idx B.assign k8).bind λu=>(bl (decide (u.var<0)) (some true) ((idx D.procs p1).bind λw=>some (decide (u.var>=(len w.vars)))):a_ X').bind λz=>(bl z (some true) ((rP u.value).bind λC=>some (!C)):a_ X').bind λG=>bl G (some (.r 2)) (W3 p1 k8 0 D B u)) (some (.x ()))
def W2(p1 k8:Int)(B:Z4)(D:WF):Pi:=(bY (λq:Int=>bV p1 B D q) k8).bind (Fw.elim (λe=>some 0) (λe=>some e))
def J1(p1 i2:Int)(D:Z4)(B:WF):Pi:=(bl (decide (B.time<0)) (some true) (some (decide (B.time>1099511627776))):a_ X').bind λu=>(bl u (some true) ((bl (decide (i2>0)) ((idx D.procs p1).bind λw=>(idx w.events (wrap .i64 (i2-1))).bind λz=>some (decide (B.time<z.time))) (some false):a_ X').bind λC=>some C):a_ X').bind λG=>bl G (some 11) (bl (decide ((len B.assign)>8)) (some 5) (eV.W2 p1 0 D B))
theorem mI(p1 i2:Int)(D:Z4)(B:WF):Le ((J1 p1 i2 D B).bind (λr=>some [.int .i64 r])) (cn Sy cL (qj (tr Tx 35)) (sQ (tb Tx 35) [1,1,1,0] [] (bL [Iv 1 p1,Iv 2 i2,Pv 3,Pv 7] [Xb 3 D,Xb 7 B]))):=cg 7 4 [71] 75 (bA 7 71 (bE 4) (bE 4)) λL=>cg 1 19 [2,76] 95 (bA 1 76 (bE 19) (cg 3 15 [2,79] 94 (bA 3 79 (bP 5 λO _=>bP 4 λQ _=>bE 4) (bE 15)) λS=>bE 1)) λT=>bA 2 95 bh (bZ 8 B.assign (bA 3 99 bh (eE 11 (λu=>(bL [Iv 1 p1,Pv 3,Pv 7,Iv 8 u] [Xb 3 D,Xb 7 B])) (λw=>(0,(bL [] []))) (λw=>(bL [Iv 6 w] [])) (λu=>bZ 7 B.assign (bA 3 104 (bP 10 λz _=>cg 12 11 [115] 126 (bA 12 115 (bE 11) (bP 5 λI _=>bZ 2 I.vars (bE 2))) λU=>yS 1 5 [130] (λC=>(bL [Iv 1 p1,Pv 3,Pv 7,Iv 8 u,Bv 104 true,Pv 9,Bv 132 C] [Xb 3 D,Xb 7 B,Xb 9 z])) (bA 1 127 (bE 5) (dz 2 λW _=>bE 2)) λC=>bA 2 132 bh (eE 10 (λJ=>(bL [Iv 1 p1,Pv 3,Pv 7,Iv 8 u,Pv 9,Iv 10 J] [Xb 3 D,Xb 7 B,Xb 9 z])) (λG=>(2,(bL [Iv 1 p1,Pv 3,Pv 7,Iv 8 u] [Xb 3 D,Xb 7 B]))) (λG=>(bL [Iv 6 8] [])) (λJ=>bA 9 135 (bP 10 λX _=>bA 7 146 bh bh) bh) (λG=>bh) (λG=>bh))) bh)) (λw=>bh) (λw=>bh))))
end eV
def eV(B:Z4)(p1 i2:Int):Pi:=(idx B.procs p1).bind λw=>(idx w.events i2).bind λu=>bl (u.kind==1) ((bl (u.peer==0) (some (!(u.message==0))) (some true):a_ X').bind λz=>bl z (some 3) (eV.J1 p1 i2 B u)) ((bl (u.kind==2) (some false) (some (!(u.kind==3))):a_ X').bind λC=>(bl C (some true) (some (decide (u.peer<0))):a_ X').bind λD=>(bl D (some true) (some (decide (u.peer>=(len B.procs)))):a_ X').bind λG=>(bl G (some true) (some (u.peer==p1)):a_ X').bind λI=>(bl I (some true) (some (decide (u.message<0))):a_ X').bind λJ=>(bl J (some true) (some (decide (u.message>199))):a_ X').bind λL=>bl L (some 3) (eV.J1 p1 i2 B u))
open eV in
instance Yb(B:Z4)(p1 i2:Int):Fc Sy cL (eV B p1 i2):=Fc.M 35 [enc B,.int .i64 p1,.int .i64 i2] (cu 2 3 B (bP 8 λw _=>bP 3 λu _=>oh 2 7 0 u (bA 10 22 (cg 7 4 [26] 30 (di 7 26 (bE 4) (bE 4)) λz=>bA 2 30 bh (rS 4 (mI p1 i2 B u))) (cg 7 4 [34] 38 (di 7 34 (bE 4) (bE 4)) λC=>cg 1 4 [39] 43 (bA 1 39 (bE 4) (bE 4)) λD=>cg 1 7 [44] 51 (bA 1 44 (bE 7) (bZ 4 B.procs (bE 2))) λG=>cg 1 5 [52] 57 (bA 1 52 (bE 5) (bE 5)) λI=>cg 1 4 [58] 62 (bA 1 58 (bE 4) (bE 4)) λJ=>cg 1 4 [63] 67 (bA 1 63 (bE 4) (bE 4)) λL=>bA 2 67 bh (rS 4 (mI p1 i2 B u))))))
namespace jw
def br(G:Z4)(J:bf)(D:WF)(B:X')(U:Int):a_ (Fw (X'×Int) Bool Empty):=(idx G.procs D.peer).bind λw=>bl (decide (U<(len w.events))) ((idx G.procs D.peer).bind λz=>(idx z.events U).bind λu=>(bl B (some true) ((bl (u.kind==2) (some (u.message==D.message)) (some false):a_ X').bind λC=>(bl C (some (u.peer==J.proc)) (some false):a_ X').bind λI=>some I):a_ X').bind λL=>some (.n (L,wrap .i64 (U+1)))) (some (.x B))
def W1(B:X')(U:Int)(D:Z4)(G:bf)(J:WF):Pi:=(bY (λq:X'×Int=>br D G J q.1 q.2) (B,U)).bind (Fw.elim (λe=>bl e (some 0) (some 7)) (λe=>elim e))
end jw
def jw(B:Z4)(D:bf):Pi:=(wo B D).bind λu=>bl (u.kind==1) (some 0) ((eB B u.kind u.message).bind λw=>bl (M9 w D) (bl (u.kind==3) (jw.W1 false 0 B D u) (some 0)) (some 8))
open jw in
instance U3(B:Z4)(D:bf):Fc Sy cL (jw B D):=Fc.M 36 [enc B,enc D] (cu 2 2 B (bF 8 λw _=>oh 1 5 0 w (bA 10 14 bh (dz 11 λI _=>di 4 22 (bA 11 25 (fK 14 (λu=>(bL [Pv 2,Pv 3,Pv 5,Bv 6 u.1,Iv 7 u.2] [Xb 2 B,Xb 3 D,Xb 5 w])) (λz=>(0,(bL [Bv 6 z] []))) (λu=>bP 9 λC _=>bZ 2 C.events (bA 3 35 (bP 11 λJ _=>bP 3 λG _=>oh 2 8 0 G (cg 5 18 [8,49] 67 (bA 5 49 (bE 18) (cg 4 6 [53] 59 (bA 4 53 (bE 6) (bE 6)) λL=>cg 1 6 [8,60] 66 (bA 1 60 (bE 6) (bE 6)) λO=>bE 1)) λQ=>bh)) bh)) (λz=>di 8 69 bh bh)) bh) bh))))
namespace fh
def J4(B:Zg)(p5:Int)(D:Z4):a_ (Fw ((Zg)×X') ((Zg)×X') Empty):=(Sl.jc B p5).bind λu=>(Sl.get B u).bind λw=>(Sl.jc B p5).bind λz=>(Sl.put B z (wrap .i64 (w+1):Int)).bind λC=>some (.n (C,true))
def fA(p5:Int)(G:Z4)(B:Zg)(D:X'):a_ (Fw ((Zg)×X') ((Zg)×X') Empty):=(Sl.jc B p5).bind λI=>(Sl.get B I).bind λJ=>(idx G.procs p5).bind λL=>bl (decide (J<(len L.events))) ((idx G.procs p5).bind λO=>(Sl.jc B p5).bind λQ=>(Sl.get B Q).bind λS=>(idx O.events S).bind λu=>bl (u.kind==3) ((eB G 2 u.message).bind λw=>(Sl.jc B w.proc).bind λz=>(Sl.get B z).bind λC=>bl (decide (C<w.index)) (some (.x (B,D))) (J4 B p5 G)) (J4 B p5 G)) (some (.x (B,D)))
def W3(D:Zg)(B:X')(p5:Int)(G:Z4):a_ (Fw ((Zg)×X'×Int) ((Zg)×X') Empty):=(bY (λq:(Zg)×X'=>fA p5 G q.1 q.2) (D,B)).bind (Fw.elim (λe=>some (.n (e.1,e.2,wrap .i64 (p5+1)))) (λe=>elim e))
def bV(G:Z4)(D:Zg)(B:X')(p5:Int):a_ (Fw ((Zg)×X'×Int) ((Zg)×X') Empty):=bl (decide (p5<(len G.procs))) (W3 D B p5 G) (some (.x (D,B)))
def W2(D:Zg)(B:X')(p5:Int)(G:Z4):a_ (Fw Zg Zg Empty):=(bY (λq:(Zg)×X'×Int=>bV G q.1 q.2.1 q.2.2) (D,B,p5)).bind (Fw.elim (λe=>bl e.2 (some (.n e.1)) (some (.x e.1))) (λe=>elim e))
def z7(B:Zg)(D:Z4)(G:Int):a_ (Fw Int Unit Unit):=bl (decide (G<(len D.procs))) ((Sl.jc B G).bind λu=>(Sl.get B u).bind λw=>(idx D.procs G).bind λz=>bl (decide (w<(len z.events))) (some (.r ())) (some (.n (wrap .i64 (G+1))))) (some (.x ()))
def W5(B:Zg)(G:Int)(D:Z4):a_ X':=(bY (λq:Int=>z7 B D q) G).bind (Fw.elim (λe=>some true) (λe=>some false))
def br(D:Z4)(B:Zg):a_ (Fw Zg Zg Empty):=W2 B false 0 D
def W1(B:Zg)(D:Z4):a_ X':=(bY (λq:Zg=>br D q) B).bind (Fw.elim (λe=>fh.W5 e 0 D) (λe=>elim e))
end fh
def fh(B:Z4):a_ X':=(o_ (len B.procs) (0:Int)).bind λu=>fh.W1 u B
open fh in
instance Tt(B:Z4):Fc Sy cL (fh B):=Fc.M 37 [enc B] (cu 2 1 B (bZ 7 B.procs (J5 0 12 λb _=>fK 7 (λO=>(bL [Pv 1,Ov 3] [Xb 1 B,Lb 2003 O])) (λD=>(0,(bL [Pv 1,Ov 3] [Xb 1 B,Lb 2003 D]))) (λO=>fK 17 (λw=>(bL [Pv 1,Ov 3,Bv 4 w.2.1,Iv 5 w.2.2] [Xb 1 B,Lb 2003 w.1])) (λG=>(2,(bL [Pv 1,Ov 3,Bv 4 G.2] [Xb 1 B,Lb 2003 G.1]))) (λw=>bZ 8 B.procs (bA 3 17 (fK 8 (λI=>(bL [Pv 1,Ov 3,Bv 4 I.2,Iv 5 w.2.2] [Xb 1 B,Lb 2003 I.1])) (λJ=>(4,(bL [Pv 1,Ov 3,Bv 4 J.2,Iv 5 w.2.2] [Xb 1 B,Lb 2003 J.1]))) (λI=>iE .i64 7 2003 λc _=>pg 0 2003 0 1 false (λQ=>.int .i64 Q) λQ _=>bP 3 λZ _=>bZ 2 Z.events (bA 3 31 (bP 9 λd _=>iE .i64 4 2003 λe _=>pg 0 2003 0 1 false (λS=>.int .i64 S) λS _=>bP 0 λa _=>oh 2 6 0 a (bA 10 46 (bF 6 λf _=>iE .i64 9 2003 λg _=>pg 0 2003 0 1 false (λz=>.int .i64 z) λz _=>bA 5 58 bh (uR 5 (iE .i64 4 2003 λT _=>pg 0 2003 0 1 false (λu=>.int .i64 u) λu _=>iE .i64 1 2003 λU _=>BQ 0 2003 (.int .i64 (wrap .i64 (u+1))) λW _=>bh))) (uR 5 (iE .i64 4 2003 λT _=>pg 0 2003 0 1 false (λu=>.int .i64 u) λu _=>iE .i64 1 2003 λU _=>BQ 0 2003 (.int .i64 (wrap .i64 (u+1))) λW _=>bh)))) bh)) (λJ=>bh)) bh)) (λG=>di 8 66 bh bh)) (λD=>eE 11 (λX=>(bL [Pv 1,Ov 3,Iv 8 X] [Xb 1 B,Lb 2003 D])) (λL=>(6,(bL [] []))) (λL=>(bL [Bv 2 false] [])) (λX=>bZ 8 B.procs (bA 3 71 (iE .i64 9 2003 λh _=>pg 0 2003 0 1 false (λC=>.int .i64 C) λC _=>bP 3 λY _=>bZ 2 Y.events (bA 3 85 bh bh)) bh)) (λL=>bh) (λL=>bh)))))
instance XZ(t:Z4)(x:bf):Fc Sy cL (o8 t x):=Fc.of (A:=λz:Z4×bf=>[enc z.1,enc z.2]) (E:=λr:Sl (Sl X')=>[enc r]) (p:=λz=>o8 z.1 z.2) (n:=38) (z:=(t,x)) (gC.Zw Zae Zae (λz r a=>TG z.1 z.2 r a))
namespace dx
def fA(p6:Int)(B:Z4)(G:bf)(D:Int):a_ (Fw Int Unit (Int×bf)):=(idx B.procs p6).bind λw=>bl (decide (D<(len w.events))) ((eV B p6 D).bind λu=>bl (u==0) (some (.n (wrap .i64 (D+1)))) (some (.r (u,(⟨p6,wrap .i64 (D+1)⟩:bf))))) (some (.x ()))
def W3(p6 G:Int)(B:Z4)(D:bf):a_ (Fw Int Unit (Int×bf)):=(bY (λq:Int=>fA p6 B D q) G).bind (Fw.elim (λe=>some (.n (wrap .i64 (p6+1)))) (λe=>some (.r (e.1,e.2))))
def z7(G:Int)(D:Z4)(J:bf)(B:Int):a_ (Fw Int Unit (Int×bf)):=(idx D.procs G).bind λw=>bl (decide (B<(len w.events))) ((jw D (⟨G,wrap .i64 (B+1)⟩:bf)).bind λu=>bl (u==0) (some (.n (wrap .i64 (B+1)))) (some (.r (u,(⟨G,wrap .i64 (B+1)⟩:bf))))) (some (.x ()))
def W5(J B:Int)(D:Z4)(G:bf):a_ (Fw Int Unit (Int×bf)):=(bY (λq:Int=>z7 J D G q) B).bind (Fw.elim (λe=>some (.n (wrap .i64 (J+1)))) (λe=>some (.r (e.1,e.2))))
def NU(D:Int)(G:Z4)(J:bf)(B:Int):a_ (Fw Int Unit bf):=(idx G.procs D).bind λw=>bl (decide (B<(len w.events))) ((o8 G (⟨D,wrap .i64 (B+1)⟩:bf)).bind λz=>(idx z D).bind λC=>(idx C (wrap .i64 (B+1))).bind λu=>bl u (some (.r (⟨D,wrap .i64 (B+1)⟩:bf))) (some (.n (wrap .i64 (B+1))))) (some (.x ()))
def W7(B D:Int)(G:Z4)(J:bf):a_ (Fw Int Unit bf):=(bY (λq:Int=>NU B G J q) D).bind (Fw.elim (λe=>some (.n (wrap .i64 (B+1)))) (λe=>some (.r e)))
def NC(B:Z4)(G:bf)(D:Int):a_ (Fw Int Unit bf):=bl (decide (D<(len B.procs))) (W7 D 0 B G) (some (.x ()))
def W6(B:Int)(D:Z4)(G:bf):a_ (bf×Int):=(bY (λq:Int=>NC D G q) B).bind (Fw.elim (λe=>some (⟨0,0⟩,0)) (λe=>some (e,10)))
def MU(B:Z4)(D:bf)(G:Int):a_ (Fw Int Unit (Int×bf)):=bl (decide (G<(len B.procs))) (W5 G 0 B D) (some (.x ()))
def W4(G:Int)(B:Z4)(D:bf):a_ (bf×Int):=(bY (λq:Int=>MU B D q) G).bind (Fw.elim (λe=>(fh B).bind λu=>bl u (some (⟨0,0⟩,0)) (dx.W6 0 B D)) (λe=>some (e.2,e.1)))
def bV(B:Z4)(D:bf)(p6:Int):a_ (Fw Int Unit (Int×bf)):=bl (decide (p6<(len B.procs))) (W3 p6 0 B D) (some (.x ()))
def W2(p6:Int)(B:Z4)(D:bf):a_ (bf×Int):=(bY (λq:Int=>bV B D q) p6).bind (Fw.elim (λe=>dx.W4 0 B D) (λe=>some (e.2,e.1)))
def br(B:Z4)(D:bf)(p4:Int):a_ (Fw Int Unit (Int×bf)):=bl (decide (p4<(len B.procs))) ((eW B p4).bind λu=>bl (u==0) (some (.n (wrap .i64 (p4+1)))) (some (.r (u,(⟨p4,0⟩:bf))))) (some (.x ()))
def W1(p4:Int)(B:Z4)(D:bf):a_ (bf×Int):=(bY (λq:Int=>br B D q) p4).bind (Fw.elim (λe=>dx.W2 0 B D) (λe=>some (e.2,e.1)))
end dx
def dx(B:Z4):a_ (bf×Int):=(bl (decide ((len B.procs)<1)) (some true) (some (decide ((len B.procs)>8))):a_ X').bind λu=>bl u (some (⟨0,0⟩,1)) (dx.W1 0 B (⟨0,0⟩:bf))
open dx in
instance Wr(B:Z4):Fc Sy cL (dx B):=Fc.M 18 [enc B] (cu 2 1 B (bZ 9 B.procs (cg 2 5 [20] 25 (bA 2 20 (bE 5) (bZ 2 B.procs (bE 2))) λa=>bA 2 25 bh (eE 11 (λQ=>(bL [Pv 1,Pv 2,Iv 4 Q] [Xb 1 B,Xb 2 (⟨0,0⟩:bf)])) (λu=>(0,(bL [Pv 1,Pv 2] [Xb 1 B,Xb 2 (⟨0,0⟩:bf)]))) (λu=>(bL [Pv 2,Iv 3 u.1] [Xb 2 u.2])) (λQ=>bZ 7 B.procs (bA 3 31 (bF 9 λb _=>di 9 38 bh bh) bh)) (λu=>eE 10 (λG=>(bL [Pv 1,Pv 2,Iv 6 G] [Xb 1 B,Xb 2 (⟨0,0⟩:bf)])) (λw=>(2,(bL [Pv 1,Pv 2] [Xb 1 B,Xb 2 (⟨0,0⟩:bf)]))) (λw=>(bL [Pv 2,Iv 3 w.1] [Xb 2 w.2])) (λG=>bZ 7 B.procs (bA 3 46 (eE 12 (λS=>(bL [Pv 1,Pv 2,Iv 6 G,Iv 7 S] [Xb 1 B,Xb 2 (⟨0,0⟩:bf)])) (λz=>(4,(bL [Pv 1,Pv 2,Iv 6 G] [Xb 1 B,Xb 2 (⟨0,0⟩:bf)]))) (λz=>(bL [Pv 2,Iv 3 z.1] [Xb 2 z.2])) (λS=>bP 8 λW _=>bZ 2 W.events (bA 3 57 (bF 10 λc _=>di 9 65 bh bh) bh)) (λz=>bh) (λz=>bh)) bh)) (λw=>eE 10 (λI=>(bL [Pv 1,Pv 2,Iv 9 I] [Xb 1 B,Xb 2 (⟨0,0⟩:bf)])) (λC=>(6,(bL [Pv 1,Pv 2] [Xb 1 B,Xb 2 (⟨0,0⟩:bf)]))) (λC=>(bL [Pv 2,Iv 3 C.1] [Xb 2 C.2])) (λI=>bZ 7 B.procs (bA 3 75 (eE 12 (λT=>(bL [Pv 1,Pv 2,Iv 9 I,Iv 10 T] [Xb 1 B,Xb 2 (⟨0,0⟩:bf)])) (λD=>(8,(bL [Pv 1,Pv 2,Iv 9 I] [Xb 1 B,Xb 2 (⟨0,0⟩:bf)]))) (λD=>(bL [Pv 2,Iv 3 D.1] [Xb 2 D.2])) (λT=>bP 8 λX _=>bZ 2 X.events (bA 3 86 (bF 19 λd _=>di 9 97 bh bh) bh)) (λD=>bh) (λD=>bh)) bh)) (λC=>bF 6 λZ _=>bA 2 101 bh (eE 11 (λJ=>(bL [Pv 1,Pv 2,Iv 13 J] [Xb 1 B,Xb 2 (⟨0,0⟩:bf)])) (λL=>(10,(bL [Pv 2] [Xb 2 (⟨0,0⟩:bf)]))) (λL=>(bL [Pv 2,Iv 3 10] [Xb 2 L])) (λJ=>bZ 7 B.procs (bA 3 107 (eE 12 (λU=>(bL [Pv 1,Pv 2,Iv 13 J,Iv 14 U] [Xb 1 B,Xb 2 (⟨0,0⟩:bf)])) (λO=>(12,(bL [Pv 1,Pv 2,Iv 13 J] [Xb 1 B,Xb 2 (⟨0,0⟩:bf)]))) (λO=>(bL [Pv 2,Iv 3 10] [Xb 2 O])) (λU=>bP 8 λY _=>bZ 2 Y.events (bA 3 118 (bF 19 λe _=>bP 1 λf _=>bP 3 λg _=>bA 3 134 bh bh) bh)) (λO=>bh) (λO=>bh)) bh)) (λL=>bh) (λL=>bh))) (λC=>bh)) (λw=>bh)) (λu=>bh)))))
def ru(B:Z4):a_ X':=(dx B).bind λu=>some (u.2==0)
instance V0(B:Z4):Fc Sy cL (ru B):=Fc.M 5 [enc B] (cu 2 1 B (bF 6 λu _=>bh))
def kP(D:T')(G B:Int)(r:(T'×Int×Int)->a_ (X'×Int)):a_ (X'×Int):=(r (D,B,wrap .i64 (G+1))).bind λu=>some ((!u.1),u.2)
abbrev DR(r:(Pred×Int×Int)->a_ (Bool×Int))(a:yE Sy cL 6 (λz:Pred×Int×Int=>[cv z.1,.ptr 9002 0,iv z.2.2]) (λz:Pred×Int×Int=>[(9002,bx (z.2.1:Int))]) (λr:Bool×Int=>[.bool r.1]) (λ(z:Pred×Int×Int)(r:Bool×Int)=>[(9002,bx (r.2:Int))]) r)(D:Pred)(G B:Int):oK Sy cL (kP D G B r):=oK.mk' 20 [cv D,.ptr 9001 0,.v (.fptr (cells G))] [(9001,.box [.ptr 9002 0]),(9002,bx (B:Int))] (λr:Bool×Int=>[.bool r.1]) (λr:Bool×Int=>[(9001,.box [.ptr 9002 0]),(9002,bx (r.2:Int))]) (cu 2 3 D (rN 9 (oK.of (D,B,wrap .i64 (G+1)) a) λu _=>bh))
section
variable{σ:Type}{gf:Y'}{ex:SW}{os:σ->dO}{p:T'->σ->a_ (X'×σ)}(h:ym Sy cL (.clo gf [] ex) gf ex os p)(s0:Sl T')(x:σ)
abbrev wj:oK Sy cL (TQ s0 p x):=oK.mk' 39 [cv s0,(.clo gf [] ex)] (os x) (λr=>[.int .i64 r.1]) (λr=>os r.2) (bZ 9 s0 (eE 5 (λq=>⟨[Cv 0 s0,(1,(.clo gf [] ex)),Iv 7 (len s0),Iv 8 q.1],os q.2,(os x).map (·.1),[],true,0⟩) (λe=>(0,⟨[],os e,(os x).map (·.1),[],true,0⟩)) (λe=>⟨[Iv 4 e.1],os e.2,(os x).map (·.1),[],true,0⟩) (λq=>bA 7 9 (bP 16 λy _=>RH 1 h y q.2 λr _=>bA 2 16 bh bh) bh) (λe=>Jp 9 h [.int .i64 (-1)] rfl) (λe=>Le.of_eq (K_ h (ys:=[.int .i64 e.1]) Zae rfl)))) (hp:=λr=>h.wi x r.2)
abbrev qA:oK Sy cL (zw s0 p x):=oK.mk' 19 [cv s0,(.clo gf [] ex)] (os x) (λr=>[.bool r.1]) (λr=>os r.2) (Nf 9 (wj h s0 x) (h.hd x (enc s0)) (λr=>h.put x r.2) λy _=>Jp 5 h [.bool (decide (y.1>=0))] rfl) (hp:=λr=>h.wi x r.2)
end
section
variable{σ:Type}{gf:Y'}{ex:So}{os:σ->dO}{p:T'->σ->a_ (X'×σ)}(h:ym Sy cL (.v (.clo gf [] ex)) gf (ex.map .v) os p)(s0:Sl T')(x:σ)
abbrev wH:oK Sy cL (TQ s0 p x):=oK.mk' 39 [cv s0,(.v (.clo gf [] ex))] (os x) (λr=>[.int .i64 r.1]) (λr=>os r.2) (bZ 9 s0 (eE 5 (λq=>⟨[Cv 0 s0,(1,(.v (.clo gf [] ex))),Iv 7 (len s0),Iv 8 q.1],os q.2,(os x).map (·.1),[],true,0⟩) (λe=>(0,⟨[],os e,(os x).map (·.1),[],true,0⟩)) (λe=>⟨[Iv 4 e.1],os e.2,(os x).map (·.1),[],true,0⟩) (λq=>bA 7 9 (bP 16 λy _=>RH 1 h y q.2 λr _=>bA 2 16 bh bh) bh) (λe=>Jp 9 h [.int .i64 (-1)] rfl) (λe=>Le.of_eq (K_ h (ys:=[.int .i64 e.1]) Zae rfl)))) (hp:=λr=>h.wi x r.2)
abbrev kq:oK Sy cL (zw s0 p x):=oK.mk' 19 [cv s0,(.v (.clo gf [] ex))] (os x) (λr=>[.bool r.1]) (λr=>os r.2) (Nf 9 (wH h s0 x) (h.hd x (enc s0)) (λr=>h.put x r.2) λy _=>Jp 5 h [.bool (decide (y.1>=0))] rfl) (hp:=λr=>h.wi x r.2)
end
def kz(G:T')(B D:Int)(r:(T'×Int×Int)->a_ (X'×Int)):a_ (X'×Int):=(bl (decide ((wrap .i64 (B-1))>=0)) (some (decide (D<=60))) (some false):a_ X').bind λz=>(bl z (some (decide (((ByteArray.size G.name:Nat):Int)<=100))) (some false):a_ X').bind λC=>(bl C ((zw G.l (λx s=>kP x D s r) (wrap .i64 (B-1))).bind λu=>some ((!u.1),u.2)) (some (false,wrap .i64 (B-1))):a_ (X'×Int)).bind λw=>some (w.1,w.2)
theorem D8(r:(T'×Int×Int)->a_ (X'×Int))(a:yE Sy cL 6 (λz:T'×Int×Int=>[cv z.1,.ptr 9002 0,iv z.2.2]) (λz:T'×Int×Int=>[(9002,bx (z.2.1:Int))]) (λr:X'×Int=>[.bool r.1]) (λ(z:T'×Int×Int)(r:X'×Int)=>[(9002,bx (r.2:Int))]) r)(G:T')(D B:Int):∀J,kz G D B r=some J->∃m',cL 6 [cv G,.ptr 9002 0,iv B] [(9002,bx (D:Int))]=some (((λr:X'×Int=>[.bool r.1]) J).map .v,m')/\∀U,mm m' ([(9002,bx (D:Int))].map (·.1)) U=some (ql U ((λr:X'×Int=>[(9002,bx (r.2:Int))]) J)):=(oK.mk' 6 [cv G,.ptr 9002 0,iv B] [(9002,bx (D:Int))] (λr:X'×Int=>[.bool r.1]) (λr:X'×Int=>[(9002,bx (r.2:Int))]) (cu 2 3 G (cg 22 3 [16] 19 (bA 22 16 (bE 3) (bE 3)) λw=>cg 1 5 [20] 25 (bA 1 20 (bE 5) (bE 5)) λC=>yS 1 6 [] (λu=>⟨[Bv 32 u.1],[(9002,.box [iv u.2]),Xb 3 G,(9001,.box [.ptr 9002 0])],[9002],[],true,0⟩) (bA 1 26 (jv 2 28 (Pred.lX G.l) (rN 3 (qA (ym.ofK (σ:=Int) (g:=20) (e:=[.ptr 9001 0,cp B]) (os:=λs=>[(9001,.box [.ptr 9002 0]),(9002,bx (s:Int))]) (p:=(λx s=>kP x B s r)) (λx s=>DR r a x B s)) G.l (wrap .i64 (D-1))) λI _=>bE 2)) (bE 8)) λu=>bh)):oK Sy cL (kz G D B r)).h
def tc(G:T')(D B:Int):a_ (X'×Int):=dU (λr(z:T'×Int×Int)=>kz z.1 z.2.1 z.2.2 r) 100000 (G,D,B)
abbrev Bi(G:Pred)(D B:Int):oK Sy cL (tc G D B):=oK.of (G,D,B) (yE.fix (A:=λz:Pred×Int×Int=>[cv z.1,.ptr 9002 0,iv z.2.2]) (O:=λz:Pred×Int×Int=>[(9002,bx (z.2.1:Int))]) (E:=λr:Bool×Int=>[.bool r.1]) (M:=λ(z:Pred×Int×Int)(r:Bool×Int)=>[(9002,bx (r.2:Int))]) (b:=(λr(z:Pred×Int×Int)=>kz z.1 z.2.1 z.2.2 r)) Zae Zae Zae (λr a z=>D8 r a z.1 z.2.1 z.2.2) 100000)
def o6(G D B:Int):a_ X':=(bl (decide (G>=D)) (some (decide (G<=B))) (some false):a_ X').bind λu=>some u
instance ZZ(G D B:Int):Fc Sy cL (o6 G D B):=Fc.M 120 [.int .i64 G,.int .i64 D,.int .i64 B] (cg 11 4 [0,2,10] 14 (bA 11 10 (bE 4) (bE 4)) λu=>bh)
def rU(B:Int):a_ X':=(bl (decide (B>=97)) (some (decide (B<=122))) (some false):a_ X').bind λu=>(bl u (some true) ((bl (decide (B>=65)) (some (decide (B<=90))) (some false):a_ X').bind λw=>some w):a_ X').bind λz=>some z
instance XK(B:Int):Fc Sy cL (rU B):=Fc.M 168 [.int .u8 B] (cg 10 3 [5] 8 (bA 10 5 (bE 3) (bE 3)) λu=>cg 1 7 [0,9] 16 (bA 1 9 (bE 7) (cg 3 3 [0,12] 15 (bA 3 12 (bE 3) (bE 3)) λw=>bE 1)) λz=>bh)
def we(B:Int):a_ X':=(bl (decide (B>=48)) (some (decide (B<=57))) (some false):a_ X').bind λu=>some u
instance X5(B:Int):Fc Sy cL (we B):=Fc.M 169 [.int .u8 B] (cg 10 3 [0,5] 8 (bA 10 5 (bE 3) (bE 3)) λu=>bh)
namespace h_
def br(s0:U')(D:Int)(B:Int):a_ (Fw Int Unit Unit):=bl (decide (B<D)) ((mD s0 B).bind λz=>(rU z).bind λC=>(bl C (some false) ((mD s0 B).bind λG=>(we G).bind λI=>some (!I)):a_ X').bind λJ=>(bl J ((mD s0 B).bind λu=>some (!(u==95))) (some false):a_ X').bind λw=>bl w (some (.r ())) (some (.n (wrap .i64 (B+1))))) (some (.x ()))
def W1(s0:U')(B D:Int):a_ X':=(bY (λq:Int=>br s0 B q) D).bind (Fw.elim (λe=>some true) (λe=>some false))
end h_
def h_(s0:U'):a_ X':=(bl (toList s0==toList ByteArray.empty) (some true) (some (decide (((ByteArray.size s0:Nat):Int)>16))):a_ X').bind λu=>(bl u (some true) ((mD s0 0).bind λw=>(rU w).bind λz=>some (!z)):a_ X').bind λB=>bl B (some false) (h_.W1 s0 ((ByteArray.size s0:Nat):Int) 0)
open h_ in
instance WJ(s0:U'):Fc Sy cL (h_ s0):=Fc.M 148 [.str s0] (cg 11 4 [6] 10 (bA 11 6 (bE 4) (bE 4)) λC=>cg 1 5 [11] 16 (bA 1 11 (bE 5) (Ce 1 .i64 λD _=>bF 0 λG _=>bE 2)) λI=>bA 2 16 bh (eE 13 (λw=>(bL [(0,.v (.str s0)),Iv 18 ((ByteArray.size s0:Nat):Int),Iv 19 w] [])) (λu=>(0,(bL [] []))) (λu=>(bL [Bv 2 false] [])) (λw=>bA 7 20 (Ce 15 .i64 λJ _=>bF 0 λL _=>cg 2 6 [27] 33 (di 2 27 (bE 6) (Ce 2 .i64 λO _=>bF 0 λQ _=>bE 2)) λS=>cg 1 5 [3,34] 39 (bA 1 34 (Ce 2 .i64 λz _=>bE 2) (bE 5)) λB=>bA 2 39 bh bh) bh) (λu=>bh) (λu=>bh)))
def kO(B D:bW):a_ X':=some (toList B.name==toList D.name)
instance LZ(B D:bW):Fc Sy cL (kO B D):=Fc.M 150 [enc B,.fptr (cells D)] (cu 2 2 B bh)
namespace gZ
def br(s0:Sl bW)(D:Int)(B:Int)(p1:bW->a_ X'):a_ (Fw Int Unit Int):=bl (decide (B<D)) ((idx s0 B).bind λu=>(p1 u).bind λw=>bl w (some (.r B)) (some (.n (wrap .i64 (B+1))))) (some (.x ()))
def W1(s0:Sl bW)(B D:Int)(p1:bW->a_ X'):Pi:=(bY (λq:Int=>br s0 B q p1) D).bind (Fw.elim (λe=>some (-1)) (λe=>some e))
end gZ
def gZ(s0:Sl bW)(p1:bW->a_ X'):Pi:=gZ.W1 s0 (len s0) 0 p1
open gZ in
abbrev yL(g1:FuncId)(e1:aZ V)(p1:bW->a_ Bool)(a:lY Sy cL g1 [] e1 (λz:bW=>[enc z]) (λr:Bool=>[.bool r]) p1 true)(s0:Sl bW):Fc Sy cL (gZ s0 p1):=Fc.M 170 [enc s0,.clo g1 [] e1] (bZ 9 s0 (eE 5 (λw=>(bL [Cv 0 s0,(1,.v (.clo g1 [] e1)),Iv 7 (len s0),Iv 8 w] [])) (λu=>(0,(bL [] []))) (λu=>(bL [Iv 4 u] [])) (λw=>bA 7 9 (bP 16 λB _=>yX 1 a.f B λC _=>bA 2 16 bh bh) bh) (λu=>bh) (λu=>bh)))
def jh(s0:Sl bW)(p1:bW->a_ X'):a_ X':=(gZ s0 p1).bind λu=>some (decide (u>=0))
abbrev xe(g1:FuncId)(e1:aZ V)(p1:bW->a_ Bool)(a:lY Sy cL g1 [] e1 (λz:bW=>[enc z]) (λr:Bool=>[.bool r]) p1 true)(s0:Sl bW):Fc Sy cL (jh s0 p1):=Fc.M 149 [enc s0,.clo g1 [] e1] (bF (F:=yL g1 e1 p1 a s0) 9 λu _=>bh)
def kI(B D:Var):a_ X':=some (toList B.name==toList D.name)
instance L0(B D:Var):Fc Sy cL (kI B D):=Fc.M 151 [enc B,.fptr (cells D)] (bh)
namespace fN
def br(s0:Sl Var)(D:Int)(B:Int)(p1:Var->a_ X'):a_ (Fw Int Unit Int):=bl (decide (B<D)) ((idx s0 B).bind λu=>(p1 u).bind λw=>bl w (some (.r B)) (some (.n (wrap .i64 (B+1))))) (some (.x ()))
def W1(s0:Sl Var)(B D:Int)(p1:Var->a_ X'):Pi:=(bY (λq:Int=>br s0 B q p1) D).bind (Fw.elim (λe=>some (-1)) (λe=>some e))
end fN
def fN(s0:Sl Var)(p1:Var->a_ X'):Pi:=fN.W1 s0 (len s0) 0 p1
open fN in
abbrev oZ(g1:FuncId)(e1:aZ V)(p1:Var->a_ Bool)(a:lY Sy cL g1 [] e1 (λz:Var=>[enc z]) (λr:Bool=>[.bool r]) p1 true)(s0:Sl Var):Fc Sy cL (fN s0 p1):=Fc.M 135 [enc s0,.clo g1 [] e1] (bZ 9 s0 (eE 5 (λw=>(bL [Cv 0 s0,(1,.v (.clo g1 [] e1)),Iv 7 (len s0),Iv 8 w] [])) (λu=>(0,(bL [] []))) (λu=>(bL [Iv 4 u] [])) (λw=>bA 7 9 (bP 16 λB _=>yX 1 a.f B λC _=>bA 2 16 bh bh) bh) (λu=>bh) (λu=>bh)))
def iw(s0:Sl Var)(p1:Var->a_ X'):a_ X':=(fN s0 p1).bind λu=>some (decide (u>=0))
abbrev q_(g1:FuncId)(e1:aZ V)(p1:Var->a_ Bool)(a:lY Sy cL g1 [] e1 (λz:Var=>[enc z]) (λr:Bool=>[.bool r]) p1 true)(s0:Sl Var):Fc Sy cL (iw s0 p1):=Fc.M 128 [enc s0,.clo g1 [] e1] (bF (F:=oZ g1 e1 p1 a s0) 9 λu _=>bh)
namespace fC
def br(D:Sl Var)(G:Int)(J:bW)(B:Int):a_ (Fw Int Unit Int):=bl (decide (B<G)) ((idx D B).bind λu=>(h_ u.name).bind λI=>(bl I ((gu J.vars none (some B)).bind λL=>(iw L (λz=>kI z u)).bind λO=>some O) (some true):a_ X').bind λw=>bl w (some (.r 13)) ((o6 u.init_ (-1073741824) 1073741824).bind λC=>bl C (some (.n (wrap .i64 (B+1)))) (some (.r 2)))) (some (.x ()))
def W1(D:Sl Var)(G J:Int)(B:bW):Pi:=(bY (λq:Int=>br D G B q) J).bind (Fw.elim (λe=>bl (decide ((len B.events)>64)) (some 5) (some 0)) (λe=>some e))
end fC
def fC(G:Z4)(p1:Int):Pi:=(idx G.procs p1).bind λu=>(h_ u.name).bind λw=>(bl w ((gu G.procs none (some p1)).bind λB=>(jh B (λz=>kO z u)).bind λC=>some C) (some true):a_ X').bind λD=>bl D (some 13) (bl (decide ((len u.vars)>8)) (some 5) (fC.W1 u.vars (len u.vars) 0 u))
open fC in
instance Oy(D:Z4)(p1:Int):Fc Sy cL (fC D p1):=Fc.M 121 [enc D,.int .i64 p1] (cu 2 2 D (bP 8 λu _=>oh 2 5 0 u (bF 8 λO _=>cg 2 7 [1,2,18] 25 (di 2 18 (Bq 3 false true [.int .i64 p1] λG _=>dz (F:=xe 150 [.fptr (cells u)] (λz=>kO z u) lY.qS G) 1 λQ _=>bE 1) (bE 7)) λS=>bA 3 13 bh (bZ 5 u.vars (bA 4 26 bh (bZ 9 u.vars (eE 5 (λB=>(bL [Pv 5,Cv 32 u.vars,Iv 33 (len u.vars),Iv 34 B] [Xb 5 u])) (λw=>(1,(bL [Pv 5] [Xb 5 u]))) (λw=>(bL [Iv 4 w] [])) (λB=>bA 7 35 (bP 8 λC _=>bF 11 λT _=>cg 2 7 [6,44] 51 (di 2 44 (Bq 3 false true [.int .i64 B] λI _=>dz (F:=q_ 151 [.fptr (cells C)] (λz=>kI z C) lY.qS I) 1 λU _=>bE 1) (bE 7)) λJ=>bA 3 39 bh (bF 5 λL _=>di 4 52 bh bh)) bh) (λw=>bZ 7 u.events (bA 3 61 bh bh)) (λw=>bh))))))))
def kf(B:Z4):a_ Z4:=some B
instance V7(B:Z4):Fc Sy cL (kf B):=Fc.NE (λr:Z4=>[(.clo 152 [] [.fptr (cells r)])]) 122 [enc B] (cu 2 1 B bh)
namespace jk
def J1(p1:Int)(D:X')(G:Z4)(B:WF):a_ X':=bl D ((o6 B.peer 0 (wrap .i64 ((len G.procs)-1))).bind λu=>(bl u (some (!(B.peer==p1))) (some false):a_ X').bind λw=>(bl w ((o6 B.message 0 199).bind λz=>some z) (some false):a_ X').bind λC=>some C) (some false)
end jk
def jk(B:Z4)(p1:Int)(e2:WF):a_ X':=bl (e2.kind==1) ((bl (e2.peer==0) (some (e2.message==0)) (some false):a_ X').bind λu=>some u) (bl (e2.kind==2) (jk.J1 p1 true B e2) (jk.J1 p1 (e2.kind==3) B e2))
open jk in
instance WD(B:Z4)(p1:Int)(e2:WF):Fc Sy cL (jk B p1 e2):=Fc.M 153 [enc B,.int .i64 p1,enc e2] (cu 2 3 B (cu 0 5 e2 (bA 17 9 (cg 7 4 [5,14] 18 (bA 7 14 (bE 4) (bE 4)) λD=>bh) (bA 8 19 (uR 4 (bA 0 19 (bZ 7 B.procs (bF 1 λu _=>cg 1 5 [1,29] 34 (bA 1 29 (bE 5) (bE 5)) λw=>cg 1 4 [5,35] 39 (bA 1 35 (bF 2 λz _=>bE 1) (bE 4)) λC=>bh)) bh)) (uR 7 (bA 0 19 (bZ 7 B.procs (bF 1 λu _=>cg 1 5 [1,29] 34 (bA 1 29 (bE 5) (bE 5)) λw=>cg 1 4 [5,35] 39 (bA 1 35 (bF 2 λz _=>bE 1) (bE 4)) λC=>bh)) bh))))))
def lW(B D:Assign):a_ X':=some (B.var==D.var)
instance M_(B D:Assign):Fc Sy cL (lW B D):=Fc.M 155 [enc B,.fptr (cells D)] (bh)
namespace gz
def br(s0:Sl Assign)(D:Int)(B:Int)(p1:Assign->a_ X'):a_ (Fw Int Unit Int):=bl (decide (B<D)) ((idx s0 B).bind λu=>(p1 u).bind λw=>bl w (some (.r B)) (some (.n (wrap .i64 (B+1))))) (some (.x ()))
def W1(s0:Sl Assign)(B D:Int)(p1:Assign->a_ X'):Pi:=(bY (λq:Int=>br s0 B q p1) D).bind (Fw.elim (λe=>some (-1)) (λe=>some e))
end gz
def gz(s0:Sl Assign)(p1:Assign->a_ X'):Pi:=gz.W1 s0 (len s0) 0 p1
open gz in
abbrev xC(g1:FuncId)(e1:aZ V)(p1:Assign->a_ Bool)(a:lY Sy cL g1 [] e1 (λz:Assign=>[enc z]) (λr:Bool=>[.bool r]) p1 true)(s0:Sl Assign):Fc Sy cL (gz s0 p1):=Fc.M 171 [enc s0,.clo g1 [] e1] (bZ 9 s0 (eE 5 (λw=>(bL [Cv 0 s0,(1,.v (.clo g1 [] e1)),Iv 7 (len s0),Iv 8 w] [])) (λu=>(0,(bL [] []))) (λu=>(bL [Iv 4 u] [])) (λw=>bA 7 9 (bP 16 λB _=>yX 1 a.f B λC _=>bA 2 16 bh bh) bh) (λu=>bh) (λu=>bh)))
def iF(s0:Sl Assign)(p1:Assign->a_ X'):a_ X':=(gz s0 p1).bind λu=>some (decide (u>=0))
abbrev vA(g1:FuncId)(e1:aZ V)(p1:Assign->a_ Bool)(a:lY Sy cL g1 [] e1 (λz:Assign=>[enc z]) (λr:Bool=>[.bool r]) p1 true)(s0:Sl Assign):Fc Sy cL (iF s0 p1):=Fc.M 154 [enc s0,.clo g1 [] e1] (bF (F:=xC g1 e1 p1 a s0) 9 λu _=>bh)
namespace dZ
def bV(D:Sl Assign)(G:Int)(J:WF)(U:bW)(B:Int):a_ (Fw Int Unit Int):=bl (decide (B<G)) ((idx D B).bind λu=>(o6 u.var 0 (wrap .i64 ((len U.vars)-1))).bind λI=>(bl I ((o6 u.value (-1073741824) 1073741824).bind λL=>some (!L)) (some true):a_ X').bind λO=>bl O (some (.r 2)) ((gu J.assign none (some B)).bind λw=>(iF w (λz=>lW z u)).bind λC=>bl C (some (.r 8)) (some (.n (wrap .i64 (B+1)))))) (some (.x ()))
def W2(B:Sl Assign)(D G:Int)(J:WF)(U:bW):Pi:=(bY (λq:Int=>bV B D J U q) G).bind (Fw.elim (λe=>some 0) (λe=>some e))
def J1(D:Int)(J:Z4)(G:bf)(B:WF)(U:bW):Pi:=(jk J G.proc B).bind λu=>bl u ((o6 B.time 0 1099511627776).bind λw=>(bl w (some (decide (B.time<D))) (some true):a_ X').bind λz=>bl z (some 11) (bl (decide ((len B.assign)>8)) (some 5) (dZ.W2 B.assign (len B.assign) 0 B U))) (some 3)
theorem mI(D:Int)(U:Z4)(J:bf)(B:WF)(G:bW):Le ((J1 D U J B G).bind (λr=>some [.int .i64 r])) (cn Sy cL (qj (tr Tx 123)) (sQ (tb Tx 123) [1,1,1,1,0] [] (bL [Pv 3,Pv 4,Pv 5,Pv 7,Iv 8 D] [Xb 3 U,Xb 4 J,Xb 5 B,Xb 7 G]))):=bF 8 λO _=>di 4 28 (bF 5 λQ _=>cg 2 5 [8,40] 45 (di 2 40 (bE 5) (bE 5)) λS=>bA 3 35 bh (bZ 5 B.assign (bA 4 46 bh (bZ 9 B.assign (eE 5 (λw=>(bL [Pv 5,Pv 7,Cv 52 B.assign,Iv 53 (len B.assign),Iv 54 w] [Xb 5 B,Xb 7 G])) (λu=>(1,(bL [] []))) (λu=>(bL [Iv 6 u] [])) (λw=>bA 7 55 (bP 8 λC _=>bZ 13 G.vars (bF 1 λT _=>cg 2 5 [68] 73 (di 2 68 (bF 2 λW _=>bE 2) (bE 5)) λX=>bA 3 59 bh (Bq 6 false true [.int .i64 w] λI _=>dz (F:=vA 155 [.fptr (cells C)] (λz=>lW z C) lY.qS I) 1 λL _=>bA 3 74 bh bh))) bh) (λu=>bh) (λu=>bh)))))) bh
end dZ
def dZ(D:Z4)(B:bf)(e2:WF):Pi:=(idx D.procs B.proc).bind λu=>bl (decide (B.index>1)) ((idx u.events (wrap .i64 (B.index-2))).bind λw=>dZ.J1 w.time D B e2 u) (dZ.J1 0 D B e2 u)
open dZ in
instance RM(D:Z4)(B:bf)(e2:WF):Fc Sy cL (dZ D B e2):=Fc.M 123 [enc D,enc B,enc e2] (cu 2 3 D (cu 1 5 e2 (bP 9 λu _=>oh 2 7 0 u (bA 15 19 (bP 7 λw _=>rS 6 (mI w.time D B e2 u)) (rS 4 (mI 0 D B e2 u))))))
def sK(e0:WF)(B D:Int):a_ X':=(bl (e0.kind==2) (some (e0.message==B)) (some false):a_ X').bind λu=>(bl u (some (e0.peer==D)) (some false):a_ X').bind λw=>some w
instance UJ(e0:WF)(B D:Int):Fc Sy cL (sK e0 B D):=Fc.M 172 [enc e0,.fptr (cells B),.fptr (cells D)] (cu 2 3 e0 (cg 9 5 [1,8] 13 (bA 9 8 (bE 5) (bE 5)) λu=>cg 1 5 [2,3,14] 19 (bA 1 14 (bE 5) (bE 5)) λw=>bh))
namespace gM
def br(s0:Sl WF)(D:Int)(B:Int)(p1:WF->a_ X'):a_ (Fw Int Unit Int):=bl (decide (B<D)) ((idx s0 B).bind λu=>(p1 u).bind λw=>bl w (some (.r B)) (some (.n (wrap .i64 (B+1))))) (some (.x ()))
def W1(s0:Sl WF)(B D:Int)(p1:WF->a_ X'):Pi:=(bY (λq:Int=>br s0 B q p1) D).bind (Fw.elim (λe=>some (-1)) (λe=>some e))
end gM
def gM(s0:Sl WF)(p1:WF->a_ X'):Pi:=gM.W1 s0 (len s0) 0 p1
open gM in
abbrev yq(g1:FuncId)(e1:aZ V)(p1:Event->a_ Bool)(a:lY Sy cL g1 [] e1 (λz:Event=>[enc z]) (λr:Bool=>[.bool r]) p1 true)(s0:Sl Event):Fc Sy cL (gM s0 p1):=Fc.M 75 [enc s0,.clo g1 [] e1] (bZ 9 s0 (eE 5 (λw=>(bL [Cv 0 s0,(1,.v (.clo g1 [] e1)),Iv 7 (len s0),Iv 8 w] [])) (λu=>(0,(bL [] []))) (λu=>(bL [Iv 4 u] [])) (λw=>bA 7 9 (bP 16 λB _=>yX 1 a.f B λC _=>bA 2 16 bh bh) bh) (λu=>bh) (λu=>bh)))
def gN(s0:Sl WF)(p1:WF->a_ X'):a_ X':=(gM s0 p1).bind λu=>some (decide (u>=0))
abbrev mF(g1:FuncId)(e1:aZ V)(p1:Event->a_ Bool)(a:lY Sy cL g1 [] e1 (λz:Event=>[enc z]) (λr:Bool=>[.bool r]) p1 true)(s0:Sl Event):Fc Sy cL (gN s0 p1):=Fc.M 45 [enc s0,.clo g1 [] e1] (bF (F:=yq g1 e1 p1 a s0) 9 λu _=>bh)
def vU(D:Z4)(p1 G B:Int):a_ X':=(idx D.procs p1).bind λu=>(gN u.events (λz=>sK z G B)).bind λw=>some w
instance X0(G:Z4)(p1 D B:Int):Fc Sy cL (vU G p1 D B):=Fc.M 156 [enc G,.int .i64 p1,.int .i64 D,.int .i64 B] (cu 2 4 G (bP 10 λu _=>dz (F:=mF 172 [.fptr (cells D),.fptr (cells B)] (λz=>sK z D B) lY.qS u.events) 3 λw _=>bh))
namespace fD
def kN(D G:Z4)(J:a_ (cz 200 bG))(U:bf)(W:Int)(x:bf×WF)(B:cz 200 bG):a_ (Fw (cz 200 bG) Empty (bf×Int×(cz 200 bG))):=bl (x.2.kind==2) ((cz.at B x.2.message).bind λu=>bl (decide (u.from_.index>0)) (some (.r (x.1,8,B))) ((cz.at B x.2.message).bind λw=>some (.n (cz.set B x.2.message (⟨x.1,w.to_⟩:bG))))) (bl (x.2.kind==3) ((cz.at B x.2.message).bind λz=>bl (decide (z.to_.index>0)) (some (.r (x.1,8,B))) ((vU G x.2.peer x.2.message x.1.proc).bind λC=>bl C ((cz.at B x.2.message).bind λI=>some (.n (cz.set B x.2.message (⟨I.from_,x.1⟩:bG)))) (some (.r (x.1,7,B))))) (some (.n B)))
def E1(B G:Z4)(J:a_ (cz 200 bG))(U:bf)(W:Int)(D:cz 200 bG):a_ ((a_ (cz 200 bG))×bf×Int):=(jU B).bind λu=>(lV (λ(x:bf×WF)(q:cz 200 bG)=>kN B G J U W x q) u D).bind (Fw.si (λq=>some (some q,⟨0,0⟩,0)) (λe=>elim e) (λe=>some ((none:a_ (cz 200 bG)),e.1,e.2.1)))
end fD
def fD(B:Z4):a_ ((a_ (cz 200 bG))×bf×Int):=(kf B).bind λu=>fD.E1 u B (none:a_ (cz 200 bG)) (⟨0,0⟩:bf) 0 (cz.QV 200 (⟨⟨0,0⟩,⟨0,0⟩⟩:bG))
open fD in
instance N2(D:Z4):Fc Sy cL (fD D):=Fc.N 124 [enc D] (cu 2 1 D (cu 8 10 (cz.QV 200 (⟨⟨0,0⟩,⟨0,0⟩⟩:bG)) (ZH 0 5 (bL [Pv 1,Pv 2,Pv 3,Pv 4,Pv 10] [Xb 1 D,(2,.box [cv (none:a_ (cz 200 bG))]),Xb 3 (⟨0,0⟩:bf),(4,.box [iv 0]),Xb 10 (cz.QV 200 (⟨⟨0,0⟩,⟨0,0⟩⟩:bG))]) [cv (none:a_ (cz 200 bG))] (by simp only[bL,Am,rY,uz,sG,uc,vl,uh,vj,sx,ud,Ai,vq,vJ,vH,vL,xQ,xV,ua,vn];rfl) (bF 7 λB _=>G3 λO C=>CI 4 [Pv 1,Pv 2,Pv 3,Pv 4,Pv 5,(12,.v (.clo 152 [] [.fptr (cells B)]))] (λw=>[Xb 1 D,(2,.box [cv (none:a_ (cz 200 bG))]),Xb 3 (⟨0,0⟩:bf),(4,.box [iv 0]),(5,.box [.ptr 10 0]),Xb 10 w]) (λz=>elim z) (λz=>[Xb 1 D,(2,.box [cv (none:a_ (cz 200 bG))]),Xb 3 z.1,(4,.box [iv z.2.1]),(5,.box [.ptr 10 0]),Xb 10 z.2.2]) (Bb B O C) (λu w=>ZH 2 6 ⟨[Pv 1,Pv 2,Pv 3,Pv 4,Pv 5,(12,.v (.clo 152 [] [.fptr (cells B)])),Cv 13 u.1,Cv 14 u.2],[Xb 1 D,(2,.box [cv (none:a_ (cz 200 bG))]),Xb 3 (⟨0,0⟩:bf),(4,.box [iv 0]),(5,.box [.ptr 10 0]),Xb 10 w],[1,2,3,4,5],[],true,0⟩ [iv 0,iv 0] (by simp only[bL,Am,rY,uz,sG,uc,vl,uh,vj,sx,ud,Ai,vq,vJ,vH,vL,xQ,xV,ua,vn];rfl) (ZH 4 7 ⟨[Pv 1,Pv 2,Pv 3,Pv 4,Pv 5,(12,.v (.clo 152 [] [.fptr (cells B)])),Cv 14 u.2,Pv 6],[Xb 1 D,(2,.box [cv (none:a_ (cz 200 bG))]),Xb 3 (⟨0,0⟩:bf),(4,.box [iv 0]),(5,.box [.ptr 10 0]),Xb 10 w,Xb 6 u.1],[1,2,3,4,5],[],true,0⟩ [iv 0,iv 0,iv 0,iv 0,.v .bM] (by simp only[bL,Am,rY,uz,sG,uc,vl,uh,vj,sx,ud,Ai,vq,vJ,vH,vL,xQ,xV,ua,vn];rfl) (oh 0 7 0 u.2 (Ac 1 (bA 22 19 (Jl 7 .i64 10 λG Q=>Vv 2 1 false 10 w u.2.message 1 G Q (.int .i64 G.from_.index) (by rfl) (bA 3 28 bh (Jl 8 .i64 10 λI S=>UQ 1 10 w u.2.message 0 I S (⟨u.1,I.to_⟩:bG) u.1 rfl bh))) (bA 7 36 (Jl 7 .i64 10 λJ T=>Vv 2 1 false 10 w u.2.message 3 J T (.int .i64 J.to_.index) (by rfl) (bA 3 45 bh (bF 12 λW _=>di 3 54 (Jl 8 .i64 10 λL U=>UQ 1 10 w u.2.message 2 L U (⟨L.from_,u.1⟩:bG) u.1 rfl bh) bh))) bh)))))) (λw=>aao 13 (bL [Pv 2,Pv 3,Pv 4] [(2,.box [.ptr 10 0]),Xb 3 (⟨0,0⟩:bf),(4,.box [iv 0]),Xb 10 w]) [.ptr 10 0,cv (⟨0,0⟩:bf),iv 0] (VW (d:=10) (x:=w) (vs:=[enc (⟨0,0⟩:bf),.int .i64 0]) Zae) Zae) (λx=>elim x) (λz=>bh)))))
namespace jX
def J1(D:cz 200 bG)(B:Sl bf)(J:Sl WF)(G:bf):a_ (Sl bf):=(idx J (wrap .i64 (G.index-1))).bind λu=>(bl (u.kind==2) ((cz.at D u.message).bind λw=>some (decide (w.to_.index>0))) (some false):a_ X').bind λz=>bl z ((cz.at D u.message).bind λC=>(gm B (C.to_:bf)).bind λI=>some I) (some B)
theorem mI(B:cz 200 bG)(D:Sl bf)(J:Sl WF)(G:bf):Le ((J1 B D J G).bind (λr=>some [enc r])) (cn Sy cL (qj (tr Tx 157)) (sQ (tb Tx 157) [1,1,1,1,0,0] [] (bL [Kv 1 B,Pv 5,Ov 7,Cv 8 J] [Xb 5 G,Lb 2007 D]))):=bP 7 λu _=>oh 2 9 0 u (cg 8 10 [40] 50 (bA 8 40 (Pm 4 .i64 λw z=>Ur 0 2 B u.message 0 w z (Ur 0 1 B u.message 2 w z (PF 0 1 false B u.message 3 w z (.int .i64 w.to_.index) (by rfl) (bE 2)))) (bE 10)) λL=>bA 2 50 (Pm 7 .i64 λC I=>Ur 0 2 B u.message 0 C I (PF 0 2 true B u.message 2 C I (enc C.to_) (by rfl) (o9 1 2007 59 60 λO _=>bh))) bh)
end jX
def jX(D:Z4)(B:cz 200 bG)(x2:bf):a_ (Sl bf):=(idx D.procs x2.proc).bind λu=>bl (decide (x2.index<(len u.events))) (jX.J1 B (Sl.row [⟨x2.proc,wrap .i64 (x2.index+1)⟩]:Sl bf) u.events x2) (jX.J1 B (Sl.nil:Sl bf) u.events x2)
open jX in
instance XY(D:Z4)(B:cz 200 bG)(x2:bf):Fc Sy cL (jX D B x2):=Fc.N 157 [enc D,.fptr (cells B),enc x2] (cu 2 3 D (bP 15 λu _=>bZ 11 u.events (bA 3 21 (Vk 10 29 30 .bM (⟨x2.proc,wrap .i64 (x2.index+1)⟩:bf) (rS 5 (mI B (Sl.row [⟨x2.proc,wrap .i64 (x2.index+1)⟩]:Sl bf) u.events x2))) (rS 5 (mI B (Sl.nil:Sl bf) u.events x2)))))
namespace jo
def fA(U:Z4)(W:Sl bf)(Y:Int)(a:Z4)(b:cz 200 bG)(c:bf)(d:X')(J:bf)(B:Sl bf)(G:Int)(D:Mo bf X'):a_ (Fw ((Sl bf)×Int×(Mo bf X')) ((Sl bf)×(Mo bf X')) Unit):=bl (decide (G<Y)) ((idx W G).bind λu=>bl (M9 u J) (some (.r ())) (bl (pe D u false) (some (.n (B,wrap .i64 (G+1),D))) ((gm B (u:bf)).bind λw=>some (.n (w,wrap .i64 (G+1),nu D u true))))) (some (.x (B,D)))
def W3(D:Sl bf)(B:Z4)(U:Sl bf)(W Y:Int)(a:Z4)(b:cz 200 bG)(c:bf)(d:X')(G:bf)(J:Mo bf X'):a_ (Fw ((Sl bf)×(Mo bf X')) Unit Unit):=(bY (λq:(Sl bf)×Int×(Mo bf X')=>fA B U W a b c d G q.1 q.2.1 q.2.2) (D,Y,J)).bind (Fw.elim (λe=>some (.n (e.1,e.2))) (λe=>some (.r ())))
def bV(D G:Z4)(J:cz 200 bG)(Y:bf)(a:X')(U:bf)(B:Sl bf)(W:Mo bf X'):a_ (Fw ((Sl bf)×(Mo bf X')) Unit Unit):=bl (decide ((len B)>0)) ((Sl.jc B (wrap .i64 ((len B)-1))).bind λw=>(Sl.get B w).bind λz=>(qx B none (some (wrap .i64 ((len B)-1)))).bind λC=>(jX G J z).bind λu=>W3 C D u (len u) 0 G J Y a U W) (some (.x ()))
def W2(G:Sl bf)(B U:Z4)(W:cz 200 bG)(Y:bf)(a:X')(D:bf)(J:Mo bf X'):a_ (Fw Unit Empty bf):=(bY (λq:(Sl bf)×(Mo bf X')=>bV B U W Y a D q.1 q.2) (G,J)).bind (Fw.elim (λe=>some (.n ())) (λe=>some (.r D)))
def kN(B D:Z4)(G:cz 200 bG)(J:bf)(U:X')(x:bf×WF):a_ (Fw Unit Empty bf):=W2 (Sl.row [x.1]:Sl bf) B D G J U x.1 []
def E1(B D:Z4)(G:cz 200 bG)(J:bf)(U:X'):a_ (bf×X'):=(jU B).bind λu=>(lV (λ(x:bf×WF)(q:Unit)=>kN B D G J U x) u ()).bind (Fw.si (λq=>some (⟨0,0⟩,false)) (λe=>elim e) (λe=>some (e,true)))
end jo
def jo(B:Z4)(D:cz 200 bG):a_ (bf×X'):=(kf B).bind λu=>jo.E1 u B D (⟨0,0⟩:bf) false
open jo in
instance We(B:Z4)(G:cz 200 bG):Fc Sy cL (jo B G):=Fc.M 125 [enc B,.fptr (cells G)] (cu 2 2 B (bF 9 λw _=>G3 λU Q=>CI 4 [Pv 2,Pv 3,Pv 4,Pv 5,(13,.v (.clo 152 [] [.fptr (cells w)]))] (λS=>[Xb 2 B,(3,.box [cp G]),Xb 4 (⟨0,0⟩:bf),(5,.box [bv false])]) (λI=>elim I) (λI=>[Xb 2 B,(3,.box [cp G]),Xb 4 I,(5,.box [bv true])]) (Bb w U Q) (λC S=>Ac 4 (eE 18 (λu=>⟨[Pv 2,Pv 3,Pv 4,Pv 5,Pv 6,(7,.mp 16),Ov 8,(13,.v (.clo 152 [] [.fptr (cells w)]))],[Xb 2 B,(3,.box [cp G]),Xb 4 (⟨0,0⟩:bf),(5,.box [bv false]),Xb 6 C.1,(16,vM u.2),Lb 2008 u.1],[2,3,4,5],[],true,0⟩) (λJ=>(2,⟨[Pv 2,Pv 3,Pv 4,Pv 5,(13,.v (.clo 152 [] [.fptr (cells w)]))],[Xb 2 B,(3,.box [cp G]),Xb 4 (⟨0,0⟩:bf),(5,.box [bv false])],[2,3,4,5],[],true,0⟩)) (λJ=>⟨[],[Xb 2 B,(3,.box [cp G]),Xb 4 C.1,(5,.box [bv true])],[2,3,4,5],[],true,0⟩) (λu=>E9 6 2008 u.1 (bA 3 21 (E9 8 2008 u.1 (iE .i64 1 2008 λW _=>pg 0 2008 0 2 true (λL=>.agg [.int .i64 L.proc,.int .i64 L.index]) λL _=>E9 8 2008 u.1 (aam 1 false true 2008 32 [.int .i64 (wrap .i64 ((len u.1)-1))] λX _=>bF 8 λO _=>bZ 0 O (eE 6 (λz=>⟨[Pv 2,Pv 3,Pv 4,Pv 5,Pv 6,(7,.mp 16),Ov 8,(13,.v (.clo 152 [] [.fptr (cells w)])),Cv 36 O,Iv 37 (len O),Iv 38 z.2.1],[Xb 2 B,(3,.box [cp G]),Xb 4 (⟨0,0⟩:bf),(5,.box [bv false]),Xb 6 C.1,(16,vM z.2.2),Lb 2008 z.1],[2,3,4,5],[],true,0⟩) (λD=>(4,⟨[Pv 2,Pv 3,Pv 4,Pv 5,Pv 6,(7,.mp 16),Ov 8,(13,.v (.clo 152 [] [.fptr (cells w)]))],[Xb 2 B,(3,.box [cp G]),Xb 4 (⟨0,0⟩:bf),(5,.box [bv false]),Xb 6 C.1,(16,vM D.2),Lb 2008 D.1],[2,3,4,5],[],true,0⟩)) (λD=>⟨[],[Xb 2 B,(3,.box [cp G]),Xb 4 C.1,(5,.box [bv true])],[2,3,4,5],[],true,0⟩) (λz=>bA 8 39 (bP 7 λT _=>bA 13 44 bh (aav 7 16 z.2.2 T false (di 3 49 bh (Yf 5 16 z.2.2 T true (o9 6 2008 54 55 λY _=>bh))))) bh) (λD=>bh) (λD=>bh))))) bh)) (λJ=>bh) (λJ=>bh))) (λS=>bh) (λx=>elim x) (λI=>bh)))
namespace iL
def Nv(B D:Z4)(G:bf)(J:Int)(x:bf×WF):a_ (Fw Unit Empty (bf×Int)):=(dZ D x.1 x.2).bind λu=>bl (u==0) (some (.n ())) (some (.r (x.1,u)))
def E2(B D:Z4)(G:bf)(J:Int):a_ (bf×Int):=(jU B).bind λz=>(lV (λ(x:bf×WF)(q:Unit)=>Nv B D G J x) z ()).bind (Fw.si (λq=>(fD D).bind λu=>bl (u.2.2==0) ((u.1).bind λC=>(jo D C).bind λw=>bl w.2 (some (w.1,10)) (some (⟨0,0⟩,0))) (some (u.2.1,u.2.2))) (λe=>elim e) (λe=>some (e.1,e.2)))
def br(D:Int)(G:Z4)(J:bf)(U:Int)(B:Int):a_ (Fw Int Unit (bf×Int)):=bl (decide (B<D)) ((fC G B).bind λu=>bl (u==0) (some (.n (wrap .i64 (B+1)))) (some (.r ((⟨B,0⟩:bf),u)))) (some (.x ()))
def W1(J U:Int)(B:Z4)(D:bf)(G:Int):a_ (bf×Int):=(bY (λq:Int=>br J B D G q) U).bind (Fw.elim (λe=>(kf B).bind λu=>iL.E2 u B D G) (λe=>some (e.1,e.2)))
end iL
def iL(B:Z4):a_ (bf×Int):=(o6 (len B.procs) 1 8).bind λu=>bl u (iL.W1 (len B.procs) 0 B (⟨0,0⟩:bf) 0) (some (⟨0,0⟩,1))
open iL in
instance XT(B:Z4):Fc Sy cL (iL B):=Fc.M 90 [enc B] (cu 2 1 B (bZ 9 B.procs (bF 0 λO _=>di 3 18 (bZ 8 B.procs (eE 5 (λC=>(bL [Pv 1,Pv 2,Pv 3,Iv 22 (len B.procs),Iv 23 C] [Xb 1 B,Xb 2 (⟨0,0⟩:bf),(3,.box [iv 0])])) (λu=>(0,(bL [Pv 1,Pv 2,Pv 3] [Xb 1 B,Xb 2 (⟨0,0⟩:bf),(3,.box [iv 0])]))) (λu=>(bL [Pv 2,Pv 3] [Xb 2 u.1,(3,.box [iv u.2])])) (λC=>bA 7 24 (bF 15 λQ _=>di 9 30 bh bh) bh) (λu=>bF 6 λz _=>G3 λJ D=>CI 4 [Pv 1,Pv 2,Pv 3,(36,.v (.clo 152 [] [.fptr (cells z)]))] (λG=>[Xb 1 B,Xb 2 (⟨0,0⟩:bf),(3,.box [iv 0])]) (λw=>elim w) (λw=>[Xb 1 B,Xb 2 w.1,(3,.box [iv w.2])]) (Bb z J D) (λL G=>oh 8 7 0 L.2 (Ac 1 (bF 7 λS _=>di 9 44 bh bh))) (λG=>bF 5 λI _=>di 17 54 (Jx 8 (λT=>(bL [Pv 2,Pv 3,(36,.v (.clo 152 [] [.fptr (cells z)])),Pv 10,Iv 11 I.2.2,Bv 54 false,Cv 58 B,Cv 59 T] [Xb 1 B,Xb 2 (⟨0,0⟩:bf),(3,.box [iv 0]),Xb 10 I.2.1])) λU _=>bF 0 λW _=>bA 13 63 bh bh) bh) (λx=>elim x) (λw=>bh)) (λu=>bh))) bh)))
def cI(B:Z4):a_ X':=(iL B).bind λu=>some (u.2==0)
instance Ya(B:Z4):Fc Sy cL (cI B):=Fc.M 66 [enc B] (cu 2 1 B (bF 6 λu _=>bh))
def vD(B:Int):a_ X':=(bl (B==2) (some true) (some (B==3)):a_ X').bind λu=>(bl u (some true) (some (B==4)):a_ X').bind λw=>some w
instance SQ(B:Int):Fc Sy cL (vD B):=Fc.M 126 [.int .i64 B] (cg 10 3 [5] 8 (bA 10 5 (bE 3) (bE 3)) λu=>cg 1 3 [0,9] 12 (bA 1 9 (bE 3) (bE 3)) λw=>bh)
def lP(B:T'):a_ X':=(bl (decide (B.kind<1)) (some true) (some (decide (B.kind>=22))):a_ X').bind λz=>(bl z (some true) ((cz.at AG B.kind).bind λC=>some (!((len B.l)==C))):a_ X').bind λD=>(bl D (some true) (some (decide (B.n<0))):a_ X').bind λG=>(bl G (some true) (some (decide (B.n>1125899906842624))):a_ X').bind λI=>(bl I (some true) ((bl (B.n==0) (some false) (some (!(B.kind==1))):a_ X').bind λJ=>some J):a_ X').bind λL=>bl L (some false) ((vD B.kind).bind λO=>(bl O (some true) ((bl (B.proc==0) (some (B.peer==0)) (some false):a_ X').bind λQ=>(bl Q (some (toList B.name==toList ByteArray.empty)) (some false):a_ X').bind λu=>some u):a_ X').bind λw=>some w)
instance Vt(B:T'):Fc Sy cL (lP B):=Fc.M 92 [enc B] (cu 2 1 B (cg 10 4 [6] 10 (bA 10 6 (bE 4) (bE 4)) λD=>cg 1 9 [11] 20 (bA 1 11 (bE 9) (jv 2 13 (Pred.lX B.l) (bZ 0 B.l (Pm 2 .i64 λu w=>PF 0 1 false AG B.kind 0 u w (.int .i64 u) (by rfl) (bE 2))))) λG=>cg 1 4 [21] 25 (bA 1 21 (bE 4) (bE 4)) λI=>cg 1 4 [26] 30 (bA 1 26 (bE 4) (bE 4)) λJ=>cg 1 9 [31] 40 (bA 1 31 (bE 9) (cg 4 4 [35] 39 (di 4 35 (bE 4) (bE 4)) λL=>bE 1)) λO=>bA 2 40 bh (bF 7 λQ _=>cg 1 14 [1,44] 58 (bA 1 44 (bE 14) (cg 4 4 [48] 52 (bA 4 48 (bE 4) (bE 4)) λS=>cg 1 4 [1,53] 57 (bA 1 53 (bE 4) (bE 4)) λz=>bE 1)) λC=>bh)))
def jb(D:T')(G B:Int)(r:(T'×Int×Int)->a_ (X'×Int)):a_ (X'×Int):=(r (D,wrap .i64 (G+1),B)).bind λu=>some ((!u.1),u.2)
abbrev yN(r:(Pred×Int×Int)->a_ (Bool×Int))(a:yE Sy cL 91 (λz:Pred×Int×Int=>[cv z.1,iv z.2.1,.ptr 9004 0,.ptr 9003 0]) (λz:Pred×Int×Int=>[(9004,bx (z.2.2:Int)),(9003,.box [.clo 91 [] [.ptr 9004 0,.ptr 9003 0]])]) (λr:Bool×Int=>[.bool r.1]) (λ(z:Pred×Int×Int)(r:Bool×Int)=>[(9004,bx (r.2:Int)),(9003,.box [.clo 91 [] [.ptr 9004 0,.ptr 9003 0]])]) r)(D:Pred)(G B:Int):oK Sy cL (jb D G B r):=oK.mk' 93 [cv D,.ptr 9003 0,.v (.fptr (cells G))] [(9003,.box [.clo 91 [] [.ptr 9004 0,.ptr 9003 0]]),(9004,bx (B:Int))] (λr:Bool×Int=>[.bool r.1]) (λr:Bool×Int=>[(9003,.box [.clo 91 [] [.ptr 9004 0,.ptr 9003 0]]),(9004,bx (r.2:Int))]) (cu 2 3 D (rN 9 (oK.of (D,wrap .i64 (G+1),B) a) λu _=>bh))
def fu(G:T')(B D:Int)(r:(T'×Int×Int)->a_ (X'×Int)):a_ (X'×Int):=(bl (decide ((wrap .i64 (D-1))<0)) (some true) (some (decide (B>20))):a_ X').bind λw=>(bl w (some true) ((lP G).bind λz=>some (!z)):a_ X').bind λC=>bl C (some (false,wrap .i64 (D-1))) ((zw G.l (λx s=>jb x B s r) (wrap .i64 (D-1))).bind λu=>some ((!u.1),u.2))
theorem yM(r:(T'×Int×Int)->a_ (X'×Int))(a:yE Sy cL 91 (λz:T'×Int×Int=>[cv z.1,iv z.2.1,.ptr 9004 0,.ptr 9003 0]) (λz:T'×Int×Int=>[(9004,bx (z.2.2:Int)),(9003,.box [.clo 91 [] [.ptr 9004 0,.ptr 9003 0]])]) (λr:X'×Int=>[.bool r.1]) (λ(z:T'×Int×Int)(r:X'×Int)=>[(9004,bx (r.2:Int)),(9003,.box [.clo 91 [] [.ptr 9004 0,.ptr 9003 0]])]) r)(D:T')(B G:Int):∀J,fu D B G r=some J->∃m',cL 91 [cv D,iv B,.ptr 9004 0,.ptr 9003 0] [(9004,bx (G:Int)),(9003,.box [.clo 91 [] [.ptr 9004 0,.ptr 9003 0]])]=some (((λr:X'×Int=>[.bool r.1]) J).map .v,m')/\∀U,mm m' ([(9004,bx (G:Int)),(9003,.box [.clo 91 [] [.ptr 9004 0,.ptr 9003 0]])].map (·.1)) U=some (ql U ((λr:X'×Int=>[(9004,bx (r.2:Int)),(9003,.box [.clo 91 [] [.ptr 9004 0,.ptr 9003 0]])]) J)):=(oK.mk' 91 [cv D,iv B,.ptr 9004 0,.ptr 9003 0] [(9004,bx (G:Int)),(9003,.box [.clo 91 [] [.ptr 9004 0,.ptr 9003 0]])] (λr:X'×Int=>[.bool r.1]) (λr:X'×Int=>[(9004,bx (r.2:Int)),(9003,.box [.clo 91 [] [.ptr 9004 0,.ptr 9003 0]])]) (cu 2 4 D (cg 17 3 [11] 14 (bA 17 11 (bE 3) (bE 3)) λu=>cg 1 4 [15] 19 (bA 1 15 (bE 4) (bF 1 λw _=>bE 2)) λC=>bA 2 19 bh (jv 7 21 (Pred.lX D.l) (rN 2 (qA (ym.ofK (σ:=Int) (g:=93) (e:=[.ptr 9003 0,cp B]) (os:=λs=>[(9003,.box [.clo 91 [] [.ptr 9004 0,.ptr 9003 0]]),(9004,bx (s:Int))]) (p:=(λx s=>jb x B s r)) (λx s=>yN r a x B s)) D.l (wrap .i64 (G-1))) λI _=>bh)))):oK Sy cL (fu D B G r)).h
def rR(D:T')(B G:Int):a_ (X'×Int):=dU (λr(z:T'×Int×Int)=>fu z.1 z.2.1 z.2.2 r) 100000 (D,B,G)
abbrev AD(D:Pred)(B G:Int):oK Sy cL (rR D B G):=oK.of (D,B,G) (yE.fix (A:=λz:Pred×Int×Int=>[cv z.1,iv z.2.1,.ptr 9004 0,.ptr 9003 0]) (O:=λz:Pred×Int×Int=>[(9004,bx (z.2.2:Int)),(9003,.box [.clo 91 [] [.ptr 9004 0,.ptr 9003 0]])]) (E:=λr:Bool×Int=>[.bool r.1]) (M:=λ(z:Pred×Int×Int)(r:Bool×Int)=>[(9004,bx (r.2:Int)),(9003,.box [.clo 91 [] [.ptr 9004 0,.ptr 9003 0]])]) (b:=(λr(z:Pred×Int×Int)=>fu z.1 z.2.1 z.2.2 r)) Zae Zae Zae (λr a z=>yM r a z.1 z.2.1 z.2.2) 100000)
def mN(B:T'):a_ X':=(rR B 1 200).bind λu=>some u.1
instance R2(B:T'):Fc Sy cL (mN B):=Fc.M 67 [enc B] (cu 2 1 B (rN 26 (AD B 1 200) λu _=>bh))
def k_(B:Z4)(p1:Int):a_ X':=(bl (decide (p1>=0)) (some (decide (p1<(len B.procs)))) (some false):a_ X').bind λu=>some u
instance R9(B:Z4)(p1:Int):Fc Sy cL (k_ B p1):=Fc.M 96 [enc B,.int .i64 p1] (cu 2 2 B (cg 8 6 [1,2,7] 13 (bA 8 7 (bZ 3 B.procs (bE 2)) (bE 6)) λu=>bh))
def pE(B:Var)(D:U'):a_ X':=some (toList B.name==toList D)
instance PR(B:Var)(D:U'):Fc Sy cL (pE B D):=Fc.M 129 [enc B,.fptr (cells D)] (bh)
def sA(D:Z4)(p1:Int)(B:U'):a_ X':=(idx D.procs p1).bind λu=>(iw u.vars (λz=>pE z B)).bind λw=>some w
instance Tm(D:Z4)(p1:Int)(B:U'):Fc Sy cL (sA D p1 B):=Fc.M 97 [enc D,.int .i64 p1,.str B] (cu 2 3 D (bP 9 λu _=>dz (F:=q_ 129 [.fptr (cells B)] (λz=>pE z B) lY.qS u.vars) 3 λw _=>bh))
def lE(B:T')(D:Z4):a_ X':=bl (B.kind==2) ((k_ D B.proc).bind λC=>(bl C (some (B.peer==0)) (some false):a_ X').bind λG=>(bl G ((sA D B.proc B.name).bind λI=>some I) (some false):a_ X').bind λJ=>some J) (bl (B.kind==3) ((k_ D B.proc).bind λL=>(bl L (some (B.peer==0)) (some false):a_ X').bind λO=>(bl O (some (toList B.name==toList ByteArray.empty)) (some false):a_ X').bind λQ=>some Q) (bl (B.kind==4) ((k_ D B.proc).bind λS=>(bl S ((k_ D B.peer).bind λT=>some T) (some false):a_ X').bind λu=>(bl u (some (!(B.proc==B.peer))) (some false):a_ X').bind λw=>(bl w (some (toList B.name==toList ByteArray.empty)) (some false):a_ X').bind λz=>some z) (some true)))
instance Mr(B:T')(D:Z4):Fc Sy cL (lE B D):=Fc.M 95 [enc B,.fptr (cells D)] (cu 2 2 B (bA 17 6 (bF 6 λC _=>cg 1 4 [12] 16 (bA 1 12 (bE 4) (bE 4)) λG=>cg 1 7 [1,2,17] 24 (bA 1 17 (bF 5 λI _=>bE 1) (bE 7)) λJ=>bh) (bA 7 25 (bF 6 λL _=>cg 1 4 [31] 35 (bA 1 31 (bE 4) (bE 4)) λO=>cg 1 4 [2,36] 40 (bA 1 36 (bE 4) (bE 4)) λQ=>bh) (bA 7 41 (bF 6 λS _=>cg 1 5 [1,47] 52 (bA 1 47 (bF 3 λT _=>bE 1) (bE 5)) λu=>cg 1 6 [53] 59 (bA 1 53 (bE 6) (bE 6)) λw=>cg 1 4 [2,60] 64 (bA 1 60 (bE 4) (bE 4)) λz=>bh) bh))))
def tT(B:T')(p1:T'->a_ X')(r:T'->a_ X'):a_ X':=(r B).bind λu=>some (!u)
abbrev Cj(g1:FuncId)(e1:aZ V)(p1:Pred->a_ Bool)(b:lY Sy cL g1 [] e1 (λz:Pred=>[enc z]) (λr:Bool=>[.bool r]) p1 true)(r:Pred->a_ Bool)(a:gC Sy cL 94 (λz:Pred=>[enc z,.clo g1 [] e1]) (λr:Bool=>[.bool r]) r true)(B:Pred):Fc Sy cL (tT B p1 r):=Fc.M 127 [enc B,.fptr [.clo g1 [] e1]] (cu 2 2 B (bF (F:=Fc.of B a) 7 λu _=>bh))
def jQ(D:T')(p1:T'->a_ X')(r:T'->a_ X'):a_ X':=(p1 D).bind λw=>(bl w ((zw D.l (λx u=>((λz=>tT z p1 r) x).map λb=>(b,u)) ()).bind λB=>some (!B.1)) (some false):a_ X').bind λC=>some C
theorem CE(g1:Y')(e1:So)(p1:T'->a_ X')(a:lY Sy cL g1 [] e1 (λz:T'=>[enc z]) (λr:X'=>[.bool r]) p1 true)(r:T'->a_ X')(b:gC Sy cL 94 (λz:T'=>[enc z,.clo g1 [] e1]) (λr:X'=>[.bool r]) r true)(B:T'):Le ((jQ B p1 r).bind λr=>some [.bool r]) (jA cL 94 [enc B,.clo g1 [] e1]):=(Fc.M 94 [enc B,.clo g1 [] e1] (cu 2 2 B (yX 8 a.f B λw _=>yS 1 6 [] (λu=>(bL [Bv 14 u] [Xb 2 B])) (bA 1 8 (jv 2 10 (Pred.lX B.l) (rN 2 (kq (ym.U4 (g:=127) (e:=[.fptr [.clo g1 [] e1]]) (p:=(λz=>tT z p1 r)) (lY.qS (F:=λz=>Cj g1 e1 p1 a r b z))) B.l ()) λC _=>bE 2)) (bE 7)) λu=>bh)):Fc Sy cL (jQ B p1 r)).F.h ()
def ot(B:T')(p1:T'->a_ X'):a_ X':=dU (λr(z:T')=>jQ z p1 r) 100000 B
abbrev uQ(g1:FuncId)(e1:aZ V)(p1:Pred->a_ Bool)(a:lY Sy cL g1 [] e1 (λz:Pred=>[enc z]) (λr:Bool=>[.bool r]) p1 true)(B:Pred):Fc Sy cL (ot B p1):=Fc.of B (gC.fix (A:=λz:Pred=>[enc z,.clo g1 [] e1]) (E:=λr:Bool=>[.bool r]) (sc:=true) (b:=(λr(z:Pred)=>jQ z p1 r)) Zae (λ_ _=>rfl) (λr c z=>CE g1 e1 p1 a r c z) 100000)
def pF(B:Z4)(p1:T'):a_ X':=(ot p1 (λz=>lE z B)).bind λu=>some u
instance PV(B:Z4)(p1:T'):Fc Sy cL (pF B p1):=Fc.M 68 [enc B,enc p1] (cu 2 2 B (cu 0 3 p1 (dz (F:=uQ 95 [.fptr (cells B)] (λz=>lE z B) lY.qS p1) 7 λu _=>bh)))
def mJ(B:Int):Pi:=bl (decide (B<=8)) (some 1) (some 2)
instance RX(B:Int):Fc Sy cL (mJ B):=Fc.M 100 [.int .i64 B] (bA 12 4 bh bh)
def tj(B:Int):Pi:=bl (decide (B<=12)) (some 1) (some 2)
instance Vs(B:Int):Fc Sy cL (tj B):=Fc.M 101 [.int .i64 B] (bA 12 4 bh bh)
def nr(B D:T'):a_ X':=(mJ B.kind).bind λu=>(tj D.kind).bind λw=>some (!(u==w))
instance Mf(B D:T'):Fc Sy cL (nr B D):=Fc.M 99 [enc B,.fptr (cells D)] (cu 2 2 B (dz 7 λu _=>dz 2 λw _=>bh))
def jK(B:T'):a_ X':=(zw B.l (λx u=>((λz=>nr z B) x).map λb=>(b,u)) ()).bind λw=>some (!w.1)
instance PO(B:T'):Fc Sy cL (jK B):=Fc.M 98 [enc B] (cu 2 1 B (jv 7 4 (Pred.lX B.l) (rN 2 (kq (ym.U4 (g:=99) (e:=[.fptr (cells B)]) (p:=(λz=>nr z B)) lY.qS) B.l ()) λu _=>bh)))
def pR(B:T'):a_ X':=(ot B (λz=>jK z)).bind λu=>some u
instance Sv(B:T'):Fc Sy cL (pR B):=Fc.M 69 [enc B] (cu 2 1 B (bF (F:=uQ 98 [] (λz=>jK z) lY.qS B) 6 λu _=>bh))
namespace dH
def bV(D:Zg)(B i4:Int):a_ (Fw (Int×Int) Int Empty):=bl (decide (i4<(len D))) ((idx D i4).bind λu=>some (.n ((if u<B then u else B),wrap .i64 (i4+1)))) (some (.x B))
def W2(B:Zg)(D i4:Int):Pi:=(bY (λq:Int×Int=>bV B q.1 q.2) (D,i4)).bind (Fw.elim (λe=>some e) (λe=>elim e))
def J1(B:Zg):Pi:=(idx B 0).bind λu=>dH.W2 B u 1
end dH
def dH(B:Zg):Pi:=bl (decide ((len B)<1)) (none) (dH.J1 B)
open dH in
instance TY(B:Zg):Fc Sy cL (dH B):=Fc.M 82 [enc B] (bZ 9 B (bA 3 7 ((Le.none _)) (uR 4 (bP 3 λz _=>fK 12 (λu=>(bL [Cv 0 B,Iv 3 u.1,Iv 4 u.2] [])) (λw=>(0,(bL [Iv 3 w] []))) (λu=>bZ 6 B (bA 3 15 (bP 9 λC _=>bh) bh)) (λw=>bh)))))
namespace dI
def bV(D:Zg)(B i4:Int):a_ (Fw (Int×Int) Int Empty):=bl (decide (i4<(len D))) ((idx D i4).bind λu=>some (.n ((if u>B then u else B),wrap .i64 (i4+1)))) (some (.x B))
def W2(B:Zg)(D i4:Int):Pi:=(bY (λq:Int×Int=>bV B q.1 q.2) (D,i4)).bind (Fw.elim (λe=>some e) (λe=>elim e))
def J1(B:Zg):Pi:=(idx B 0).bind λu=>dI.W2 B u 1
end dI
def dI(B:Zg):Pi:=bl (decide ((len B)<1)) (none) (dI.J1 B)
open dI in
instance T_(B:Zg):Fc Sy cL (dI B):=Fc.M 83 [enc B] (bZ 9 B (bA 3 7 ((Le.none _)) (uR 4 (bP 3 λz _=>fK 12 (λu=>(bL [Cv 0 B,Iv 3 u.1,Iv 4 u.2] [])) (λw=>(0,(bL [Iv 3 w] []))) (λu=>bZ 6 B (bA 3 15 (bP 9 λC _=>bh) bh)) (λw=>bh)))))
def mQ(B:Zg):a_ bT:=(dH B).bind λu=>(dI B).bind λw=>some ⟨u,w⟩
instance UY(B:Zg):Fc Sy cL (mQ B):=Fc.M 132 [enc B] (bF 8 λu _=>bF 1 λw _=>bh)
namespace fI
def br(U:Int)(D:Sl WF)(G:Int)(J B:Int):a_ (Fw (Int×Int) Int Empty):=bl (decide (B<G)) ((idx D B).bind λu=>(bl (u.kind==2) (some (u.peer==U)) (some false):a_ X').bind λw=>bl w (some (.n (wrap .i64 (J+1),wrap .i64 (B+1)))) (some (.n (J,wrap .i64 (B+1))))) (some (.x J))
def W1(J U:Int)(B:Sl WF)(D G:Int):Pi:=(bY (λq:Int×Int=>br J B D q.1 q.2) (U,G)).bind (Fw.elim (λe=>some e) (λe=>elim e))
end fI
def fI(B:Z4)(p1 D:Int):Pi:=(idx B.procs p1).bind λu=>fI.W1 D 0 u.events (len u.events) 0
open fI in
instance PU(B:Z4)(p1 D:Int):Fc Sy cL (fI B p1 D):=Fc.M 158 [enc B,.int .i64 p1,.int .i64 D] (cu 2 3 B (bP 14 λu _=>bZ 2 u.events (fK 5 (λw=>(bL [Iv 2 D,Iv 7 w.1,Cv 15 u.events,Iv 16 (len u.events),Iv 17 w.2] [])) (λz=>(0,(bL [Iv 7 z] []))) (λw=>bA 7 18 (bP 7 λC _=>oh 2 9 0 C (cg 8 5 [9,24] 29 (bA 8 24 (bE 5) (bE 5)) λG=>bA 2 29 bh bh)) bh) (λz=>bh))))
def pz(B:Var)(D:U'):a_ X':=some (toList B.name==toList D)
instance PL(B:Var)(D:U'):Fc Sy cL (pz B D):=Fc.M 190 [enc B,.fptr (cells D)] (bh)
def vC(D:bW)(B:U'):Pi:=(fN D.vars (λz=>pz z B)).bind λu=>some u
instance Us(D:bW)(B:U'):Fc Sy cL (vC D B):=Fc.M 178 [enc D,.str B] (cu 2 2 D (dz (F:=oZ 190 [.fptr (cells B)] (λz=>pz z B) lY.qS D.vars) 9 λu _=>bh))
def tB(D:Z4)(p1:Int)(B:U'):a_ (Int×Int):=(cI D).bind λw=>bl w ((bl (decide (p1<0)) (some true) (some (decide (p1>=(len D.procs)))):a_ X').bind λz=>bl z (some (0,2)) ((idx D.procs p1).bind λC=>(vC C B).bind λu=>bl (decide (u<0)) (some (0,13)) (some (u,0)))) (some (0,1))
instance US(D:Z4)(p1:Int)(B:U'):Fc Sy cL (tB D p1 B):=Fc.M 173 [enc D,.int .i64 p1,.str B] (cu 2 3 D (bF 9 λu _=>di 4 9 (cg 6 6 [16] 22 (bA 6 16 (bE 6) (bZ 3 D.procs (bE 2))) λw=>bA 3 13 bh (bP 9 λz _=>bF 2 λC _=>bA 10 31 bh bh)) bh))
def ey(s0:Zg):a_ Zg:=(Sl.isNil s0).bind λu=>bl u (some Sl.nil) ((oV (Sl.row []:Zg) s0).bind λw=>some w)
theorem g_:Ck Sy cL 30 (λs0:Zg=>[enc s0]) (λz=>ey z):=Ck.mk' (sO (Tx 30)) (λs0=>Eb 9 λu _=>bA 2 4 bh (z6 7 5 7 λw _=>bh))
def oI(B:bW):a_ bW:=some B
instance R1(B:bW):Fc Sy cL (oI B):=Fc.NE (λr:bW=>[(.clo 134 [] [.fptr (cells r)])]) 104 [enc B] (cu 2 1 B bh)
namespace gH
def kN(D:bW)(G:Int)(x:Int×(Zg))(B:Zg):a_ (Fw Zg Empty Empty):=(idx x.2 G).bind λu=>(gm B (u:Int)).bind λw=>some (.n w)
def E1(B:bW)(G:Int)(D:Zg):a_ Zg:=(j9 B).bind λu=>(lV (λ(x:Int×(Zg))(q:Zg)=>kN B G x q) u D).bind (Fw.si (λq=>some q) (λe=>elim e) (λe=>elim e))
end gH
def gH(B:bW)(i1:Int):a_ Zg:=(oI B).bind λu=>gH.E1 u i1 (Sl.nil:Zg)
open gH in
instance R8(D:bW)(i1:Int):Fc Sy cL (gH D i1):=Fc.N 174 [enc D,.int .i64 i1] (cu 2 2 D (bF 13 λz _=>G3 λC B=>CI 5 [Pv 3,Pv 5,(9,.v (.clo 134 [] [.fptr (cells z)]))] (λu=>[(3,.box [iv i1]),(5,.box [.own 4100]),Lb 4100 u]) (λw=>elim w) (λw=>elim w) (HN z C B) (λG u=>Ac 3 (bP 7 λI _=>o9 2 4100 17 18 λJ _=>bh)) (λu=>bh) (λx=>elim x) (λx=>elim x)))
def rX(G:Z4)(p1:Int)(B:U'):a_ (Int×Int×Int):=(tB G p1 B).bind λu=>bl (u.2==0) ((idx G.procs p1).bind λz=>(gH z u.1).bind λw=>(dH w).bind λC=>(dI w).bind λD=>some (C,D,0)) (some (0,0,u.2))
instance Ti(D:Z4)(p1:Int)(B:U'):Fc Sy cL (rX D p1 B):=Fc.M 159 [enc D,.int .i64 p1,.str B] (cu 2 3 D (bF 10 λu _=>di 14 19 (bP 8 λw _=>bF 2 λz _=>bF 6 λC _=>bF 1 λG _=>bh) bh))
def gU(B:Z4)(p1:T'):a_ bT:=bl (p1.kind==1) ((mQ (Sl.row [p1.n]:Zg)).bind λw=>some w) (bl (p1.kind==3) ((idx B.procs p1.proc).bind λz=>some ⟨0,len z.events⟩) (bl (p1.kind==4) ((fI B p1.proc p1.peer).bind λC=>some ⟨0,C⟩) ((rX B p1.proc p1.name).bind λu=>some ⟨u.1,u.2.1⟩)))
instance VC(B:Z4)(p1:T'):Fc Sy cL (gU B p1):=Fc.M 130 [enc B,enc p1] (cu 2 2 B (cu 0 3 p1 (bA 17 10 (dz 6 λw _=>bh) (bA 7 16 (bP 7 λu _=>bZ 2 u.events bh) (bA 7 27 (bF 8 λz _=>bh) (bF 11 λC _=>bh))))))
def jG(B:bT):a_ X':=(bl (decide (B.low<(-1125899906842624))) (some true) (some (decide (B.high>1125899906842624))):a_ X').bind λu=>some u
instance Jo(B:bT):Fc Sy cL (jG B):=Fc.M 131 [enc B] (cg 12 4 [1,6] 10 (bA 12 6 (bE 4) (bE 4)) λu=>bh)
def rF(a0:Int):Pi:=some (if(wrap .i64 (0-a0))>a0 then(wrap .i64 (0-a0))else a0)
instance WI(a0:Int):Fc Sy cL (rF a0):=Fc.M 160 [.int .i64 a0] (bh)
def iz(a0 B:Int):Pi:=(bl (a0==0) (some true) (some (B==0)):a_ X').bind λu=>bl u (some 0) ((rF a0).bind λw=>(rF B).bind λz=>(AL .i64 1125899906842624 z).bind λC=>bl (decide (w>C)) (bl ((decide (a0<0))==(decide (B<0))) (some 1125899906842625) (some (wrap .i64 (0-1125899906842625)))) (some (wrap .i64 (a0*B))))
instance P6(a0 B:Int):Fc Sy cL (iz a0 B):=Fc.M 133 [.int .i64 a0,.int .i64 B] (cg 11 3 [8] 11 (bA 11 8 (bE 3) (bE 3)) λu=>bA 2 11 bh (bF 15 λw _=>bF 1 λz _=>abA 0 λC _=>bA 3 20 (di 15 25 bh bh) bh))
namespace cZ
def J2(D B:bT)(r:(Z4×T')->a_ (bT×X')):a_ (bT×X'):=(jG B).bind λu=>some (B,(!u))
def J1(W U:X')(J:T')(G B D:bT)(r:(Z4×T')->a_ (bT×X')):a_ (bT×X'):=(bl W (some (!U)) (some true):a_ X').bind λC=>bl C (some (⟨0,0⟩,false)) (bl (J.kind==5) (cZ.J2 G (⟨wrap .i64 (0-B.high),wrap .i64 (0-B.low)⟩:bT) r) (bl (J.kind==6) (cZ.J2 G (⟨wrap .i64 (B.low+D.low),wrap .i64 (B.high+D.high)⟩:bT) r) (bl (J.kind==7) (cZ.J2 G (⟨wrap .i64 (B.low-D.high),wrap .i64 (B.high-D.low)⟩:bT) r) ((iz B.low D.low).bind λI=>(iz B.low D.high).bind λL=>(iz B.high D.low).bind λu=>(iz B.high D.high).bind λw=>(mQ (Sl.row [I,L,u,w]:Zg)).bind λz=>cZ.J2 G z r))))
theorem mI(r:(Z4×T')->a_ (bT×X'))(a:gC Sy cL 102 (λz:Z4×T'=>[enc z.1,enc z.2]) (λr:bT×X'=>[enc r.1,.bool r.2]) r true)(D B:X')(G:T')(J U W:bT):Le ((J1 D B G J U W r).bind (λr=>some [enc r.1,.bool r.2])) (cn Sy cL (qj (tr Tx 102)) (sQ (tb Tx 102) [1,1,1,1,1,0] [] (bL [Pv 3,Pv 4,Pv 7,Bv 8 D,Pv 9,Bv 10 B] [Xb 3 G,Xb 4 J,Xb 7 U,Xb 9 W]))):=cg 6 3 [10,48] 51 (di 6 48 (bE 3) (bE 3)) λQ=>bA 2 51 bh (bA 22 77 (uR 14 (dz 4 λu _=>bh)) (bA 7 86 (uR 18 (dz 4 λu _=>bh)) (bA 7 99 (uR 18 (dz 4 λu _=>bh)) (dz 6 λI _=>dz 4 λL _=>dz 4 λw _=>dz 4 λC _=>ZB 0 ([I,L,w,C]:R') (.buildC 1 4 [.int .i64 0] [0,1,2,3]) [iv I,iv L,iv w,iv C] (dz 0 λO _=>uR 5 (dz 4 λu _=>bh))))))
end cZ
def dA(B:Z4)(p1:T')(r:(Z4×T')->a_ (bT×X')):a_ (bT×X'):=bl ((len p1.l)==0) ((gU B p1).bind λw=>(jG w).bind λC=>some (w,(!C))) ((idx p1.l 0).bind λD=>(r (B,D)).bind λu=>bl ((len p1.l)==2) ((idx p1.l 1).bind λG=>(r (B,G)).bind λz=>cZ.J1 u.2 z.2 p1 (⟨0,0⟩:bT) u.1 z.1 r) (cZ.J1 u.2 true p1 (⟨0,0⟩:bT) u.1 u.1 r))
open cZ in
theorem Ay(r:(Z4×T')->a_ (bT×X'))(a:gC Sy cL 102 (λz:Z4×T'=>[enc z.1,enc z.2]) (λr:bT×X'=>[enc r.1,.bool r.2]) r true)(B:Z4)(p1:T'):Le ((dA B p1 r).bind λr=>some [enc r.1,.bool r.2]) (jA cL 102 [enc B,enc p1]):=(Fc.M 102 [enc B,enc p1] (cu 2 2 B (cu 0 3 p1 (jv 9 13 (Pred.lX p1.l) (bZ 0 p1.l (bA 3 15 (bF 5 λG _=>dz 8 λI _=>bh) (jv 8 26 (Pred.lX p1.l) (bP 0 λC _=>dz (F:=Fc.of (B,C) a) 1 λu _=>jv 21 34 (Pred.lX p1.l) (bZ 0 p1.l (bA 3 36 (jv 5 40 (Pred.lX p1.l) (bP 0 λD _=>dz (F:=Fc.of (B,D) a) 1 λw _=>rS 8 (mI r a u.2 w.2 p1 (⟨0,0⟩:bT) u.1 w.1))) (rS 4 (mI r a u.2 true p1 (⟨0,0⟩:bT) u.1 u.1))))))))))):Fc Sy cL (dA B p1 r)).F.h ()
def cZ(B:Z4)(p1:T'):a_ (bT×X'):=dU (λr(z:Z4×T')=>dA z.1 z.2 r) 100000 (B,p1)
instance RY(B:Z4)(p1:T'):Fc Sy cL (cZ B p1):=Fc.of (B,p1) (gC.fix (A:=λz:Z4×T'=>[enc z.1,enc z.2]) (E:=λr:bT×X'=>[enc r.1,.bool r.2]) (sc:=true) (b:=(λr(z:Z4×T')=>dA z.1 z.2 r)) Zae (λ_ _=>rfl) (λr a z=>Ay r a z.1 z.2) 100000)
def lK(B:T')(D:Z4)(r:(Z4×T')->a_ X'):a_ X':=(r (D,B)).bind λu=>some (!u)
abbrev Bn(r:(Trace×Pred)->a_ Bool)(a:gC Sy cL 70 (λz:Trace×Pred=>[enc z.1,enc z.2]) (λr:Bool=>[.bool r]) r true)(B:Pred)(D:Trace):Fc Sy cL (lK B D r):=Fc.M 103 [enc B,.fptr (cells D)] (cu 2 2 B (bF (F:=Fc.of (D,B) a) 7 λu _=>bh))
def cN(D:Z4)(p1:T')(r:(Z4×T')->a_ X'):a_ X':=(mJ p1.kind).bind λw=>bl (w==1) ((cZ D p1).bind λB=>some B.2) ((zw p1.l (λx u=>((λz=>lK z D r) x).map λb=>(b,u)) ()).bind λC=>some (!C.1))
theorem Bl(r:(Z4×T')->a_ X')(a:gC Sy cL 70 (λz:Z4×T'=>[enc z.1,enc z.2]) (λr:X'=>[.bool r]) r true)(B:Z4)(p1:T'):Le ((cN B p1 r).bind λr=>some [.bool r]) (jA cL 70 [enc B,enc p1]):=(Fc.M 70 [enc B,enc p1] (cu 2 2 B (cu 0 3 p1 (bF 8 λu _=>bA 3 10 (bF 5 λw _=>bh) (jv 7 19 (Pred.lX p1.l) (rN 2 (kq (ym.U4 (g:=103) (e:=[.fptr (cells B)]) (p:=(λz=>lK z B r)) (lY.qS (F:=λz=>Bn r a z B))) p1.l ()) λC _=>bh))))):Fc Sy cL (cN B p1 r)).F.h ()
def p9(B:Z4)(p1:T'):a_ X':=dU (λr(z:Z4×T')=>cN z.1 z.2 r) 100000 (B,p1)
instance Up(B:Z4)(p1:T'):Fc Sy cL (p9 B p1):=Fc.of (B,p1) (gC.fix (A:=λz:Z4×T'=>[enc z.1,enc z.2]) (E:=λr:X'=>[.bool r]) (sc:=true) (b:=(λr(z:Z4×T')=>cN z.1 z.2 r)) Zae (λ_ _=>rfl) (λr a z=>Bl r a z.1 z.2) 100000)
def jE(B:Z4)(p1:T'):Pi:=(cI B).bind λu=>(bl u ((mN p1).bind λw=>some (!w)) (some true):a_ X').bind λz=>bl z (some 1) ((pF B p1).bind λC=>bl C ((pR p1).bind λD=>bl D ((p9 B p1).bind λG=>bl G (some 0) (some 9)) (some 14)) (some 13))
instance Sk(B:Z4)(p1:T'):Fc Sy cL (jE B p1):=Fc.M 40 [enc B,enc p1] (cu 2 2 B (cu 0 3 p1 (bF 8 λu _=>cg 2 4 [9] 13 (di 2 9 (bF 1 λw _=>bE 2) (bE 4)) λz=>bA 3 5 bh (bF 5 λC _=>di 4 14 (bF 4 λD _=>di 4 19 (bF 5 λG _=>di 4 23 bh bh) bh) bh))))
def tv(B:T'):a_ (Int×Int):=(mN B).bind λu=>bl u ((pR B).bind λw=>bl w ((mJ B.kind).bind λz=>some (z,0)) (some (0,14))) (some (0,1))
instance Vh(B:T'):Fc Sy cL (tv B):=Fc.M 71 [enc B] (cu 2 1 B (bF 9 λu _=>di 4 4 (bF 4 λw _=>di 4 8 (bF 8 λz _=>bh) bh) bh))
def nT(D:T')(B:Int):Pi:=(tv D).bind λu=>(bl (u.2==0) (some (!(u.1==B))) (some true):a_ X').bind λw=>bl w (some 14) (some 0)
instance SH(D:T')(B:Int):Fc Sy cL (nT D B):=Fc.M 41 [enc D,.int .i64 B] (cu 2 2 D (bF 7 λu _=>cg 12 4 [1,5,14] 18 (di 12 14 (bE 4) (bE 4)) λw=>bA 2 18 bh bh))
def pI(B:T')(D:Int)(r:(Int×T')->a_ X'):a_ X':=(r (D,B)).bind λu=>some (!u)
abbrev Bm(r:(Int×Pred)->a_ Bool)(a:gC Sy cL 42 (λz:Int×Pred=>[.int .i64 z.1,enc z.2]) (λr:Bool=>[.bool r]) r true)(B:Pred)(D:Int):Fc Sy cL (pI B D r):=Fc.M 72 [enc B,.fptr (cells D)] (cu 2 2 B (bF (F:=Fc.of (D,B) a) 7 λu _=>bh))
namespace e_
def J2(G:X')(B:Int)(D:T')(r:(Int×T')->a_ X'):a_ X':=bl G (some (D.proc==B)) ((zw D.l (λx u=>((λz=>pI z B r) x).map λb=>(b,u)) ()).bind λw=>some (!w.1))
def J1(G:Int)(J:X')(B:Int)(D:T')(r:(Int×T')->a_ X'):a_ X':=bl J (some false) (bl (G==2) (e_.J2 true B D r) (e_.J2 (G==3) B D r))
theorem VP(r:(Int×T')->a_ X')(a:gC Sy cL 42 (λz:Int×T'=>[.int .i64 z.1,enc z.2]) (λr:X'=>[.bool r]) r true)(G:X')(B:Int)(D:T'):Le ((J2 G B D r).bind (λr=>some [.bool r])) (cn Sy cL (qj (tr Tx 42)) (sQ (tb Tx 42) [1,0,1,0,1,0,1,1,0] [] (bL [Pv 2,Pv 3,Bv 13 G] [(2,.box [iv B]),Xb 3 D]))):=bA 0 13 bh (jv 8 21 (Pred.lX D.l) (rN 2 (kq (ym.U4 (g:=72) (e:=[.fptr (cells B)]) (p:=(λz=>pI z B r)) (lY.qS (F:=λz=>Bm r a z B))) D.l ()) λu _=>bh))
theorem mI(r:(Int×T')->a_ X')(a:gC Sy cL 42 (λz:Int×T'=>[.int .i64 z.1,enc z.2]) (λr:X'=>[.bool r]) r true)(G:Int)(J:X')(B:Int)(D:T'):Le ((J1 G J B D r).bind (λr=>some [.bool r])) (cn Sy cL (qj (tr Tx 42)) (sQ (tb Tx 42) [1,0,1,0,1,0] [] (bL [Pv 2,Pv 3,Iv 6 G,Bv 7 J] [(2,.box [iv B]),Xb 3 D]))):=bA 0 7 bh (bA 8 13 (rS 4 (VP r a true B D)) (rS 7 (VP r a (G==3) B D)))
end e_
def iA(B:Int)(p1:T')(r:(Int×T')->a_ X'):a_ X':=bl (p1.kind==4) (e_.J1 p1.kind true B p1 r) (bl (p1.kind==18) (e_.J1 p1.kind true B p1 r) (bl (p1.kind==19) (e_.J1 p1.kind true B p1 r) (bl (p1.kind==20) (e_.J1 p1.kind true B p1 r) (e_.J1 p1.kind (p1.kind==21) B p1 r))))
open e_ in
theorem Bo(r:(Int×T')->a_ X')(a:gC Sy cL 42 (λz:Int×T'=>[.int .i64 z.1,enc z.2]) (λr:X'=>[.bool r]) r true)(B:Int)(p1:T'):Le ((iA B p1 r).bind λr=>some [.bool r]) (jA cL 42 [.int .i64 B,enc p1]):=(Fc.M 42 [.int .i64 B,enc p1] (cu 3 3 p1 (bA 18 7 (rS 4 (mI r a p1.kind true B p1)) (bA 7 7 (rS 4 (mI r a p1.kind true B p1)) (bA 7 7 (rS 4 (mI r a p1.kind true B p1)) (bA 7 7 (rS 4 (mI r a p1.kind true B p1)) (rS 7 (mI r a p1.kind (p1.kind==21) B p1))))))):Fc Sy cL (iA B p1 r)).F.h ()
def e_(B:Int)(p1:T'):a_ X':=dU (λr(z:Int×T')=>iA z.1 z.2 r) 100000 (B,p1)
instance TA(B:Int)(p1:T'):Fc Sy cL (e_ B p1):=Fc.of (B,p1) (gC.fix (A:=λz:Int×T'=>[.int .i64 z.1,enc z.2]) (E:=λr:X'=>[.bool r]) (sc:=true) (b:=(λr(z:Int×T')=>iA z.1 z.2 r)) Zae (λ_ _=>rfl) (λr a z=>Bo r a z.1 z.2) 100000)
def sy(D:Z4)(B k2:Int)(p3:T'):Pi:=(jE D p3).bind λu=>bl (u==0) ((bl (decide (B<0)) (some true) (some (decide (B>=(len D.procs)))):a_ X').bind λz=>(bl z (some true) (some (decide (k2<0))):a_ X').bind λC=>(bl C (some true) ((idx D.procs B).bind λG=>some (decide (k2>(len G.events)))):a_ X').bind λI=>bl I (some 2) ((nT p3 2).bind λw=>bl (w==0) ((e_ B p3).bind λJ=>bl J (some 0) (some 15)) (some w))) (some u)
instance Sn(D:Z4)(B k2:Int)(p3:T'):Fc Sy cL (sy D B k2 p3):=Fc.M 21 [enc D,.int .i64 B,.int .i64 k2,enc p3] (cu 2 4 D (cu 0 7 p3 (bF 8 λw _=>di 9 15 (cg 9 6 [19] 25 (bA 9 19 (bE 6) (bZ 3 D.procs (bE 2))) λz=>cg 1 3 [26] 29 (bA 1 26 (bE 3) (bE 3)) λC=>cg 1 10 [2,4,30] 40 (bA 1 30 (bE 10) (bP 4 λu _=>bZ 2 u.events (bE 2))) λG=>bA 2 40 bh (bF 7 λI _=>di 9 44 (bF 8 λJ _=>di 3 49 bh bh) bh)) bh)))
namespace fS
def kN(B:bW)(D:Int)(x:Int×(Zg))(G:Zg):a_ (Fw Zg Empty Zg):=bl (x.1==D) (some (.r x.2)) (some (.n (Sl.nil:Zg)))
def E1(B:bW)(D:Int)(G:Zg):a_ Zg:=(j9 B).bind λu=>(lV (λ(x:Int×(Zg))(q:Zg)=>kN B D x q) u G).bind (Fw.si (λq=>some Sl.nil) (λe=>elim e) (λe=>some e))
end fS
def fS(B:bW)(k1:Int):a_ Zg:=(oI B).bind λu=>fS.E1 u k1 (Sl.nil:Zg)
open fS in
instance Tu(D:bW)(k1:Int):Fc Sy cL (fS D k1):=Fc.N 73 [enc D,.int .i64 k1] (cu 2 2 D (bF 8 λw _=>G3 λC z=>CI 4 [Pv 3,Pv 4,(8,.v (.clo 134 [] [.fptr (cells w)]))] (λB=>[(3,.box [iv k1]),(4,.box [.v .bM])]) (λu=>elim u) (λu=>[(3,.box [iv k1]),(4,.box [cv u])]) (HN w C z) (λG B=>Ac 8 (bA 9 13 (oh 4 4 0 G.2 bh) bh)) (λB=>bh) (λx=>elim x) (λu=>bh)))
def sM(B:Z4)(p1 k2:Int):a_ ((Zg)×Int):=(cI B).bind λu=>bl u ((bl (decide (p1<0)) (some true) (some (decide (p1>=(len B.procs)))):a_ X').bind λw=>(bl w (some true) (some (decide (k2<0))):a_ X').bind λz=>(bl z (some true) ((idx B.procs p1).bind λC=>some (decide (k2>(len C.events)))):a_ X').bind λD=>bl D (some (Sl.nil,2)) ((idx B.procs p1).bind λG=>(fS G k2).bind λI=>some (I,0))) (some (Sl.nil,1))
instance S3(B:Z4)(p1 k2:Int):Fc Sy cL (sM B p1 k2):=Fc.N 43 [enc B,.int .i64 p1,.int .i64 k2] (cu 2 3 B (bF 9 λw _=>di 4 8 (cg 6 6 [15] 21 (bA 6 15 (bE 6) (bZ 3 B.procs (bE 2))) λz=>cg 1 3 [22] 25 (bA 1 22 (bE 3) (bE 3)) λC=>cg 1 10 [26] 36 (bA 1 26 (bE 10) (bP 4 λu _=>bZ 2 u.events (bE 2))) λD=>bA 3 12 bh (bP 9 λG _=>bF 2 λI _=>bh)) bh))
def iW(B:Var)(D:T'):a_ X':=some (toList B.name==toList D.name)
instance HL(B:Var)(D:T'):Fc Sy cL (iW B D):=Fc.M 136 [enc B,.fptr (cells D)] (bh)
def jY(D:bS)(p1:T'):Pi:=(idx D.t.procs p1.proc).bind λu=>(fN u.vars (λz=>iW z p1)).bind λw=>(idx D.values p1.proc).bind λB=>(idx B w).bind λC=>some C
instance LM(B:bS)(p1:T'):Fc Sy cL (jY B p1):=Fc.M 105 [enc B,enc p1] (cu 2 2 B (cu 0 3 p1 (bP 10 λu _=>dz (F:=oZ 136 [.fptr (cells p1)] (λz=>iW z p1) lY.qS u.vars) 3 λw _=>bP 9 λC _=>bP 2 λD _=>bh)))
def lB(B:Zg)(D:Z4):a_ X':=some (!((len B)==(len D.procs)))
instance Wj(B:Zg)(D:Z4):Fc Sy cL (lB B D):=Fc.M 118 [enc B,.fptr (cells D)] (bZ 8 B (bZ 2 D.procs bh))
namespace ij
def br(s0:Zb)(D:Int)(B:Int)(p1:(Zg)->a_ X'):a_ (Fw Int Unit Int):=bl (decide (B<D)) ((idx s0 B).bind λu=>(p1 u).bind λw=>bl w (some (.r B)) (some (.n (wrap .i64 (B+1))))) (some (.x ()))
def W1(s0:Zb)(B D:Int)(p1:(Zg)->a_ X'):Pi:=(bY (λq:Int=>br s0 B q p1) D).bind (Fw.elim (λe=>some (-1)) (λe=>some e))
end ij
def ij(s0:Zb)(p1:(Zg)->a_ X'):Pi:=ij.W1 s0 (len s0) 0 p1
open ij in
abbrev yO(g1:FuncId)(e1:aZ V)(p1:(Sl Int)->a_ Bool)(a:lY Sy cL g1 [] e1 (λz:Sl Int=>[enc z]) (λr:Bool=>[.bool r]) p1 true)(s0:Sl (Sl Int)):Fc Sy cL (ij s0 p1):=Fc.M 115 [enc s0,.clo g1 [] e1] (bZ 9 s0 (eE 5 (λw=>(bL [Cv 0 s0,(1,.v (.clo g1 [] e1)),Iv 7 (len s0),Iv 8 w] [])) (λu=>(0,(bL [] []))) (λu=>(bL [Iv 4 u] [])) (λw=>bA 7 9 (bP 16 λB _=>yX 1 a.f B λC _=>bA 2 16 bh bh) bh) (λu=>bh) (λu=>bh)))
def jq(s0:Zb)(p1:(Zg)->a_ X'):a_ X':=(ij s0 p1).bind λu=>some (decide (u>=0))
abbrev qB(g1:FuncId)(e1:aZ V)(p1:(Sl Int)->a_ Bool)(a:lY Sy cL g1 [] e1 (λz:Sl Int=>[enc z]) (λr:Bool=>[.bool r]) p1 true)(s0:Sl (Sl Int)):Fc Sy cL (jq s0 p1):=Fc.M 80 [enc s0,.clo g1 [] e1] (bF (F:=yO g1 e1 p1 a s0) 9 λu _=>bh)
def zm(D:Z4)(G:Zb):a_ X':=(cI D).bind λu=>(bl u ((jq G (λz=>lB z D)).bind λw=>some (!w)) (some false):a_ X').bind λB=>some B
instance ZO(B:Z4)(D:Zb):Fc Sy cL (zm B D):=Fc.M 85 [enc B,enc D] (cu 2 2 B (bF 6 λu _=>cg 1 5 [1,2,7] 12 (bA 1 7 (dz (F:=qB 118 [.fptr (cells B)] (λz=>lB z B) lY.qS D) 2 λw _=>bE 2) (bE 5)) λC=>bh))
namespace kS
def br(G:Zg)(J:Int)(D:Z4)(B:Int):a_ (Fw Int Unit Unit):=bl (decide (B<J)) ((idx G B).bind λu=>(bl (decide (u<0)) (some true) ((idx D.procs B).bind λw=>some (decide (u>(len w.events)))):a_ X').bind λz=>bl z (some (.r ())) (some (.n (wrap .i64 (B+1))))) (some (.x ()))
def W1(D:Zg)(G J:Int)(B:Z4):a_ X':=(bY (λq:Int=>br D G B q) J).bind (Fw.elim (λe=>some true) (λe=>some false))
end kS
def kS(D:Z4)(B:Zg):a_ X':=kS.W1 B (len B) 0 D
open kS in
instance X6(D:Z4)(B:Zg):Fc Sy cL (kS D B):=Fc.M 86 [enc D,enc B] (cu 2 2 D (bZ 7 B (eE 5 (λw=>(bL [Pv 2,Cv 7 B,Iv 8 (len B),Iv 9 w] [Xb 2 D])) (λu=>(0,(bL [] []))) (λu=>(bL [Bv 4 false] [])) (λw=>bA 7 10 (bP 8 λC _=>cg 10 10 [5,6,16] 26 (bA 10 16 (bE 10) (bP 4 λz _=>bZ 2 z.events (bE 2))) λG=>bA 2 26 bh bh) bh) (λu=>bh) (λu=>bh))))
def vP(B:Z4)(p1:Int):a_ X':=(bl (decide (p1>=0)) (some (decide (p1<(len B.procs)))) (some false):a_ X').bind λu=>some u
instance XU(B:Z4)(p1:Int):Fc Sy cL (vP B p1):=Fc.M 116 [enc B,.int .i64 p1] (cu 2 2 B (cg 8 6 [1,2,7] 13 (bA 8 7 (bZ 3 B.procs (bE 2)) (bE 6)) λu=>bh))
namespace i_
def kN(D:Z4)(B G:Int)(J:bf)(U:X')(x:bf×WF):a_ (Fw Unit Empty bf):=(bl (x.2.kind==B) (some (x.2.message==G)) (some false):a_ X').bind λu=>bl u (some (.r x.1)) (some (.n ()))
def E1(B:Z4)(D G:Int)(J:bf)(U:X'):a_ (bf×X'):=(jU B).bind λu=>(lV (λ(x:bf×WF)(q:Unit)=>kN B D G J U x) u ()).bind (Fw.si (λq=>some (⟨0,0⟩,false)) (λe=>elim e) (λe=>some (e,true)))
end i_
def i_(D:Z4)(B G:Int):a_ (bf×X'):=(cI D).bind λu=>bl u ((kf D).bind λw=>i_.E1 w B G (⟨0,0⟩:bf) false) (some (⟨0,0⟩,false))
open i_ in
instance Zz(G:Z4)(B D:Int):Fc Sy cL (i_ G B D):=Fc.M 147 [enc G,.int .i64 B,.int .i64 D] (cu 2 3 G (bF 10 λL _=>di 3 12 (bF 7 λw _=>G3 λI z=>CI 4 [Pv 4,Pv 5,Pv 6,Pv 7,(15,.v (.clo 152 [] [.fptr (cells w)]))] (λC=>[(4,.box [iv B]),(5,.box [iv D]),Xb 6 (⟨0,0⟩:bf),(7,.box [bv false])]) (λu=>elim u) (λu=>[(4,.box [iv B]),(5,.box [iv D]),Xb 6 u,(7,.box [bv true])]) (Bb w I z) (λJ C=>oh 8 9 0 J.2 (Ac 1 (cg 9 5 [9,22] 27 (bA 9 22 (bE 5) (bE 5)) λO=>bA 2 27 bh bh))) (λC=>bh) (λx=>elim x) (λu=>bh)) bh))
def rJ(B:Z4)(m1:Int):a_ (bf×X'):=(i_ B 2 m1).bind λu=>some (u.1,u.2)
instance XI(B:Z4)(m1:Int):Fc Sy cL (rJ B m1):=Fc.M 119 [enc B,.int .i64 m1] (cu 2 2 B (bF 8 λu _=>bh))
namespace iQ
def bV(Y:Zg)(p7:Int)(a:Zg)(b c:Int)(J:Sl WF)(U:Int)(W:Z4)(G D:bf)(B:Int):a_ (Fw Int Unit (bf×bf)):=bl (decide (B<U)) ((idx J B).bind λw=>bl (w.kind==3) ((rJ W w.message).bind λu=>(idx Y u.1.proc).bind λz=>bl (decide (u.1.index>z)) (some (.r (u.1,(⟨p7,wrap .i64 (B+1)⟩:bf)))) (some (.n (wrap .i64 (B+1))))) (some (.n (wrap .i64 (B+1))))) (some (.x ()))
def W2(a:Zg)(p7:Int)(J:Zg)(U G:Int)(W:Sl WF)(Y b:Int)(c:Z4)(D B:bf):a_ (Fw Int Unit (bf×bf)):=(bY (λq:Int=>bV a p7 J U G W Y c D B q) b).bind (Fw.elim (λe=>some (.n (wrap .i64 (G+1)))) (λe=>some (.r (e.1,e.2))))
def br(Y J:Zg)(U:Int)(W:Z4)(G B:bf)(D:Int):a_ (Fw Int Unit (bf×bf)):=bl (decide (D<U)) ((idx J D).bind λw=>(idx W.procs D).bind λz=>(gu z.events none (some w)).bind λu=>W2 Y D J U D u (len u) 0 W G B) (some (.x ()))
def W1(Y G:Zg)(J U:Int)(W:Z4)(D B:bf):a_ (bf×bf×X'):=(bY (λq:Int=>br Y G J W D B q) U).bind (Fw.elim (λe=>some (⟨0,0⟩,⟨0,0⟩,false)) (λe=>some (e.1,e.2,true)))
end iQ
def iQ(D:Z4)(B:Zg):a_ (bf×bf×X'):=iQ.W1 B B (len B) 0 D (⟨0,0⟩:bf) (⟨0,0⟩:bf)
open iQ in
instance XV(D:Z4)(B:Zg):Fc Sy cL (iQ D B):=Fc.M 87 [enc D,enc B] (cu 2 2 D (bZ 9 B (eE 5 (λu=>(bL [Cv 1 B,Pv 2,Pv 4,Pv 5,Cv 13 B,Iv 14 (len B),Iv 15 u] [Xb 2 D,Xb 4 (⟨0,0⟩:bf),Xb 5 (⟨0,0⟩:bf)])) (λw=>(0,(bL [Pv 4,Pv 5] [Xb 4 (⟨0,0⟩:bf),Xb 5 (⟨0,0⟩:bf)]))) (λw=>(bL [Pv 4,Pv 5,Bv 6 true] [Xb 4 w.1,Xb 5 w.2])) (λu=>bA 7 16 (bP 8 λI _=>bP 10 λL _=>Bq 3 false true [.int .i64 I] λC _=>bZ 0 C (eE 5 (λG=>(bL [Cv 1 B,Pv 2,Pv 4,Pv 5,Iv 7 u,Cv 13 B,Iv 14 (len B),Iv 15 u,Cv 27 C,Iv 28 (len C),Iv 29 G] [Xb 2 D,Xb 4 (⟨0,0⟩:bf),Xb 5 (⟨0,0⟩:bf)])) (λz=>(2,(bL [Cv 1 B,Pv 2,Pv 4,Pv 5,Cv 13 B,Iv 14 (len B),Iv 15 u] [Xb 2 D,Xb 4 (⟨0,0⟩:bf),Xb 5 (⟨0,0⟩:bf)]))) (λz=>(bL [Pv 4,Pv 5,Bv 6 true] [Xb 4 z.1,Xb 5 z.2])) (λG=>bA 7 30 (bP 8 λJ _=>oh 3 10 0 J (di 10 36 (bF 8 λO _=>bP 15 λQ _=>bA 4 51 bh bh) bh)) bh) (λz=>bh) (λz=>bh))) bh) (λw=>bh) (λw=>bh))))
def xB(B:Z4)(D:Zg):a_ X':=(iQ B D).bind λu=>some (!u.2.2)
instance Yn(B:Z4)(D:Zg):Fc Sy cL (xB B D):=Fc.M 117 [enc B,enc D] (cu 2 2 B (bF 7 λu _=>bh))
namespace dM
def fA(D:Zb)(G:Int)(J:Z4)(B:Int):a_ (Fw Int Unit Unit):=bl (decide (B<G)) ((idx D B).bind λu=>(xB J u).bind λw=>bl w (some (.n (wrap .i64 (B+1)))) (some (.r ()))) (some (.x ()))
def W3(B:Zb)(D G:Int)(J:Z4):Pi:=(bY (λq:Int=>fA B D J q) G).bind (Fw.elim (λe=>some 0) (λe=>some 18))
def bV(U:Zb)(D:Zg)(G:Int)(J:Z4)(B:Int):a_ (Fw Int Unit Unit):=bl (decide (B<G)) ((idx D B).bind λu=>(vP J u).bind λw=>bl w (some (.n (wrap .i64 (B+1)))) (some (.r ()))) (some (.x ()))
def W2(D:Zb)(G:Zg)(J U:Int)(B:Z4):Pi:=(bY (λq:Int=>bV D G J B q) U).bind (Fw.elim (λe=>dM.W3 D (len D) 0 B) (λe=>some 2))
def br(W:Zb)(D:Zg)(G:Zb)(J:Int)(U:Z4)(B:Int):a_ (Fw Int Unit Unit):=bl (decide (B<J)) ((idx G B).bind λu=>(kS U u).bind λw=>bl w (some (.n (wrap .i64 (B+1)))) (some (.r ()))) (some (.x ()))
def W1(W:Zb)(B:Zg)(G:Zb)(J U:Int)(D:Z4):Pi:=(bY (λq:Int=>br W B G J D q) U).bind (Fw.elim (λe=>dM.W2 W B (len B) 0 D) (λe=>some 2))
end dM
def dM(G:Z4)(D:Zb)(B:Zg):Pi:=(zm G D).bind λu=>bl u (dM.W1 D B D (len D) 0 G) (some 1)
open dM in
instance ZS(G:Z4)(D:Zb)(B:Zg):Fc Sy cL (dM G D B):=Fc.M 84 [enc G,enc D,enc B] (cu 2 3 G (bF 8 λL _=>di 3 16 (bZ 7 D (eE 5 (λC=>(bL [Cv 1 D,Cv 2 B,Pv 3,Cv 17 D,Iv 18 (len D),Iv 19 C] [Xb 3 G])) (λu=>(0,(bL [Cv 1 D,Cv 2 B,Pv 3] [Xb 3 G]))) (λu=>(bL [Iv 6 2] [])) (λC=>bA 7 20 (bP 7 λO _=>bF 8 λQ _=>di 3 26 bh bh) bh) (λu=>bZ 6 B (eE 5 (λI=>(bL [Cv 1 D,Pv 3,Cv 28 B,Iv 29 (len B),Iv 30 I] [Xb 3 G])) (λw=>(2,(bL [Cv 1 D,Pv 3] [Xb 3 G]))) (λw=>(bL [Iv 6 2] [])) (λI=>bA 7 31 (bP 7 λS _=>bF 8 λT _=>di 3 37 bh bh) bh) (λw=>bZ 6 D (eE 5 (λJ=>(bL [Pv 3,Cv 39 D,Iv 40 (len D),Iv 41 J] [Xb 3 G])) (λz=>(4,(bL [] []))) (λz=>(bL [Iv 6 18] [])) (λJ=>bA 7 42 (bP 7 λU _=>bF 8 λW _=>di 3 48 bh bh) bh) (λz=>bh) (λz=>bh))) (λw=>bh))) (λu=>bh))) bh))
def vr(B:Z4)(m1:Int):a_ (bf×X'):=(i_ B 3 m1).bind λu=>some (u.1,u.2)
instance Sc(B:Z4)(m1:Int):Fc Sy cL (vr B m1):=Fc.M 161 [enc B,.int .i64 m1] (cu 2 2 B (bF 8 λu _=>bh))
namespace jt
def br(W:Zg)(Y:Int)(J:Sl WF)(U:Z4)(B:Zg)(G D:Int):a_ (Fw ((Zg)×Int×Int) Zg Empty):=bl (decide (D<G)) ((idx J D).bind λu=>(bl (u.kind==2) (some (!(u.peer==Y))) (some true):a_ X').bind λC=>bl C (some (.n (B,G,wrap .i64 (D+1)))) ((vr U u.message).bind λw=>(bl w.2 ((idx W w.1.proc).bind λI=>some (decide (w.1.index>I))) (some true):a_ X').bind λL=>bl L ((gm B (u.message:Int)).bind λz=>some (.n (z,G,wrap .i64 (D+1)))) (some (.n (B,G,wrap .i64 (D+1)))))) (some (.x B))
def W1(W:Zg)(Y:Int)(B:Zg)(D:Sl WF)(G J:Int)(U:Z4):a_ ((Zg)×Int):=(bY (λq:(Zg)×Int×Int=>br W Y D U q.1 q.2.1 q.2.2) (B,G,J)).bind (Fw.elim (λe=>some (e,0)) (λe=>elim e))
end jt
def jt(B:Z4)(D:Zg)(p2 G:Int):a_ ((Zg)×Int):=(dM B (Sl.row [D]:Zb) (Sl.row [p2,G]:Zg)).bind λu=>bl (u==0) ((idx B.procs p2).bind λz=>(idx D p2).bind λC=>(gu z.events none (some C)).bind λw=>jt.W1 D G (Sl.nil:Zg) w (len w) 0 B) (some (Sl.nil,u))
open jt in
instance Xp(B:Z4)(D:Zg)(p2 G:Int):Fc Sy cL (jt B D p2 G):=Fc.N 137 [enc B,enc D,.int .i64 p2,.int .i64 G] (cu 2 4 B (yZ 9 18 ([D]:aZ Zg) (dz 3 λL _=>di 9 24 (bP 14 λO _=>bP 4 λC _=>Bq 1 false true [.int .i64 C] λw _=>bZ 0 w (fK 6 (λu=>(bL [Cv 1 D,Iv 3 G,Pv 4,Ov 11,Cv 36 w,Iv 37 u.2.1,Iv 38 u.2.2] [Xb 4 B,Lb 2011 u.1])) (λz=>(0,(bL [Ov 11] [Lb 2011 z]))) (λu=>bA 8 39 (bP 7 λI _=>oh 2 13 0 I (cg 9 5 [45] 50 (di 9 45 (bE 5) (bE 5)) λQ=>bA 2 50 bh (bF 8 λS _=>cg 13 9 [14,60] 69 (di 13 60 (bP 5 λT _=>bE 3) (bE 9)) λU=>bA 2 69 (o9 6 2011 73 74 λJ _=>bh) bh))) bh) (λz=>bh))) bh)))
def pZ(B:bS)(p1:T'):Pi:=(jt B.t B.counts p1.proc p1.peer).bind λu=>some (len u.1)
instance L4(B:bS)(p1:T'):Fc Sy cL (pZ B p1):=Fc.M 106 [enc B,enc p1] (cu 2 2 B (cu 0 3 p1 (bF 13 λu _=>bZ 10 u.1 bh)))
def b8(B:bS)(p1:T')(r:(bS×T')->Pi):Pi:=bl (p1.kind==1) (some p1.n) (bl (p1.kind==2) ((jY B p1).bind λL=>some L) (bl (p1.kind==3) ((idx B.counts p1.proc).bind λO=>some O) (bl (p1.kind==4) ((pZ B p1).bind λQ=>some Q) (bl (p1.kind==5) ((idx p1.l 0).bind λS=>(r (B,S)).bind λT=>some (wrap .i64 (0-T))) (bl (p1.kind==6) ((idx p1.l 0).bind λU=>(r (B,U)).bind λW=>(idx p1.l 1).bind λX=>(r (B,X)).bind λY=>some (wrap .i64 (W+Y))) (bl (p1.kind==7) ((idx p1.l 0).bind λu=>(r (B,u)).bind λw=>(idx p1.l 1).bind λz=>(r (B,z)).bind λC=>some (wrap .i64 (w-C))) ((idx p1.l 0).bind λD=>(r (B,D)).bind λG=>(idx p1.l 1).bind λI=>(r (B,I)).bind λJ=>some (wrap .i64 (G*J)))))))))
theorem xm(r:(bS×T')->Pi)(a:gC Sy cL 74 (λz:bS×T'=>[enc z.1,enc z.2]) (λr:Int=>[.int .i64 r]) r true)(B:bS)(p1:T'):Le ((b8 B p1 r).bind λr=>some [.int .i64 r]) (jA cL 74 [enc B,enc p1]):=(Fc.M 74 [enc B,enc p1] (cu 2 2 B (cu 0 3 p1 (bA 17 7 bh (bA 7 11 (bF 5 λT _=>bh) (bA 7 16 (bP 7 λU _=>bh) (bA 7 24 (bF 5 λW _=>bh) (bA 7 29 (jv 6 33 (Pred.lX p1.l) (bP 0 λG _=>dz (F:=Fc.of (B,G) a) 1 λX _=>bh)) (bA 7 38 (jv 6 42 (Pred.lX p1.l) (bP 0 λI _=>dz (F:=Fc.of (B,I) a) 1 λY _=>jv 3 48 (Pred.lX p1.l) (bP 0 λJ _=>dz (F:=Fc.of (B,J) a) 1 λZ _=>bh))) (bA 7 53 (jv 6 57 (Pred.lX p1.l) (bP 0 λu _=>dz (F:=Fc.of (B,u) a) 1 λL _=>jv 3 63 (Pred.lX p1.l) (bP 0 λw _=>dz (F:=Fc.of (B,w) a) 1 λO _=>bh))) (jv 9 70 (Pred.lX p1.l) (bP 0 λC _=>dz (F:=Fc.of (B,C) a) 1 λQ _=>jv 3 76 (Pred.lX p1.l) (bP 0 λD _=>dz (F:=Fc.of (B,D) a) 1 λS _=>bh)))))))))))):Fc Sy cL (b8 B p1 r)).F.h ()
def eu(B:bS)(p1:T'):Pi:=dU (λr(z:bS×T')=>b8 z.1 z.2 r) 100000 (B,p1)
instance Mc(B:bS)(p1:T'):Fc Sy cL (eu B p1):=Fc.of (B,p1) (gC.fix (A:=λz:bS×T'=>[enc z.1,enc z.2]) (E:=λr:Int=>[.int .i64 r]) (sc:=true) (b:=(λr(z:bS×T')=>b8 z.1 z.2 r)) Zae (λ_ _=>rfl) (λr a z=>xm r a z.1 z.2) 100000)
namespace cW
def J1(W:Int)(U:X')(D:bS)(B:T')(r:(bS×T')->a_ X'):a_ X':=bl U (some (B.kind==13)) (bl (W==15) ((idx B.l 0).bind λu=>(r (D,u)).bind λw=>some (!w)) (bl (W==16) ((idx B.l 0).bind λz=>(r (D,z)).bind λC=>(bl C ((idx B.l 1).bind λG=>(r (D,G)).bind λI=>some I) (some false):a_ X').bind λJ=>some J) ((idx B.l 0).bind λL=>(r (D,L)).bind λO=>(bl O (some true) ((idx B.l 1).bind λQ=>(r (D,Q)).bind λS=>some S):a_ X').bind λT=>some T)))
theorem mI(r:(bS×T')->a_ X')(a:gC Sy cL 44 (λz:bS×T'=>[enc z.1,enc z.2]) (λr:X'=>[.bool r]) r true)(U:Int)(G:X')(B:bS)(D:T'):Le ((J1 U G B D r).bind (λr=>some [.bool r])) (cn Sy cL (qj (tr Tx 44)) (sQ (tb Tx 44) [1,0,1,0,1,1,1,1,1,1,1,1,1,0] [] (bL [Pv 2,Pv 3,Iv 6 U,Bv 67 G] [Xb 2 B,Xb 3 D]))):=bA 0 67 bh (bA 7 73 (jv 6 77 (Pred.lX D.l) (bP 0 λC _=>dz (F:=Fc.of (B,C) a) 1 λQ _=>bh)) (bA 7 82 (jv 6 86 (Pred.lX D.l) (bP 0 λI _=>dz (F:=Fc.of (B,I) a) 1 λS _=>yS 1 7 [96,89] (λu=>(bL [Bv 67 false,Bv 73 false,Bv 82 true,Bv 97 u] [Xb 2 B,Xb 3 D])) (bA 1 90 (jv 3 93 (Pred.lX D.l) (bP 0 λJ _=>dz (F:=Fc.of (B,J) a) 1 λT _=>bE 1)) (bE 7)) λu=>bh)) (jv 9 100 (Pred.lX D.l) (bP 0 λL _=>dz (F:=Fc.of (B,L) a) 1 λW _=>yS 1 7 [110,103] (λw=>(bL [Bv 67 false,Bv 73 false,Bv 82 false,Bv 111 w] [Xb 2 B,Xb 3 D])) (bA 1 104 (bE 7) (jv 3 107 (Pred.lX D.l) (bP 0 λO _=>dz (F:=Fc.of (B,O) a) 1 λX _=>bE 1))) λw=>bh))))
end cW
def cm(B:bS)(p1:T')(r:(bS×T')->a_ X'):a_ X':=bl (p1.kind==9) ((idx p1.l 0).bind λJ=>(eu B J).bind λL=>(idx p1.l 1).bind λO=>(eu B O).bind λQ=>some (L==Q)) (bl (p1.kind==10) ((idx p1.l 0).bind λS=>(eu B S).bind λT=>(idx p1.l 1).bind λU=>(eu B U).bind λW=>some (!(T==W))) (bl (p1.kind==11) ((idx p1.l 0).bind λX=>(eu B X).bind λu=>(idx p1.l 1).bind λw=>(eu B w).bind λz=>some (decide (u<z))) (bl (p1.kind==12) ((idx p1.l 0).bind λC=>(eu B C).bind λD=>(idx p1.l 1).bind λG=>(eu B G).bind λI=>some (decide (D<=I))) (bl (p1.kind==13) (cW.J1 p1.kind true B p1 r) (cW.J1 p1.kind (p1.kind==14) B p1 r)))))
open cW in
theorem yB(r:(bS×T')->a_ X')(a:gC Sy cL 44 (λz:bS×T'=>[enc z.1,enc z.2]) (λr:X'=>[.bool r]) r true)(B:bS)(p1:T'):Le ((cm B p1 r).bind λr=>some [.bool r]) (jA cL 44 [enc B,enc p1]):=(Fc.M 44 [enc B,enc p1] (cu 2 2 B (cu 0 3 p1 (bA 17 7 (jv 6 11 (Pred.lX p1.l) (bP 0 λL _=>dz 1 λO _=>jv 3 17 (Pred.lX p1.l) (bP 0 λQ _=>dz 1 λS _=>bh))) (bA 7 22 (jv 6 26 (Pred.lX p1.l) (bP 0 λT _=>dz 1 λU _=>jv 3 32 (Pred.lX p1.l) (bP 0 λW _=>dz 1 λX _=>bh))) (bA 7 37 (jv 6 41 (Pred.lX p1.l) (bP 0 λY _=>dz 1 λu _=>jv 3 47 (Pred.lX p1.l) (bP 0 λw _=>dz 1 λC _=>bh))) (bA 7 52 (jv 6 56 (Pred.lX p1.l) (bP 0 λD _=>dz 1 λG _=>jv 3 62 (Pred.lX p1.l) (bP 0 λI _=>dz 1 λJ _=>bh))) (bA 8 67 (rS 4 (mI r a p1.kind true B p1)) (rS 7 (mI r a p1.kind (p1.kind==14) B p1))))))))):Fc Sy cL (cm B p1 r)).F.h ()
def cW(B:bS)(p1:T'):a_ X':=dU (λr(z:bS×T')=>cm z.1 z.2 r) 100000 (B,p1)
instance NF(B:bS)(p1:T'):Fc Sy cL (cW B p1):=Fc.of (B,p1) (gC.fix (A:=λz:bS×T'=>[enc z.1,enc z.2]) (E:=λr:X'=>[.bool r]) (sc:=true) (b:=(λr(z:bS×T')=>cm z.1 z.2 r)) Zae (λ_ _=>rfl) (λr a z=>yB r a z.1 z.2) 100000)
def eO(D:Z4)(B k2:Int)(p3:T'):a_ X':=(o_ (len D.procs) (0:Int)).bind λu=>(o_ (len D.procs) (Sl.nil:Zg)).bind λw=>(Sl.jc u B).bind λz=>(Sl.put u z (k2:Int)).bind λC=>(sM D B k2).bind λG=>(Sl.jc w B).bind λI=>(Sl.put w I (G.1:Zg)).bind λJ=>(cW (⟨D,C,J⟩:bS) p3).bind λL=>some L
instance QB(D:Z4)(B k2:Int)(p3:T'):Fc Sy cL (eO D B k2 p3):=Fc.M 22 [enc D,.int .i64 B,.int .i64 k2,enc p3] (cu 2 4 D (cu 0 7 p3 (bZ 8 D.procs (J5 0 14 λu _=>bZ 2 D.procs (J5 0 18 λw _=>Vp 0 [cv D,.own 14,.own 18] [cv D.procs,.own 14,.own 18] [.bM,.bM,.bM] [(0,1),(1,1),(2,1)] (by simp only[AK,HG,K6,Gr,Io,FH,kJ,FE,C3,Fz,EG];rfl) (abn 1 9 0 [cv D.procs,.own 14,.own 18] (by simp only[all_cons,PY,KG,Nn,Kp,nV,mg,nO,mU,Gz];rfl) (iE .i64 8 14 λz _=>BQ 0 14 (.int .i64 k2) λC _=>bF 10 λG _=>iE .i64 3 18 λI _=>xL 0 18 λJ _=>bF 8 λL _=>bh)))))))
namespace eN
def br(D J:Int)(U:Z4)(W:T')(B:Sl X')(G:Int):a_ (Fw ((Sl X')×Int) (Sl X') Empty):=bl (decide (G<J)) ((eO U D G W).bind λu=>(gm B (u:X')).bind λw=>some (.n (w,wrap .i64 (G+1)))) (some (.x B))
def W1(B:Int)(D:Sl X')(G J:Int)(U:Z4)(W:T'):a_ ((Sl X')×Int):=(bY (λq:(Sl X')×Int=>br B G U W q.1 q.2) (D,J)).bind (Fw.elim (λe=>some (e,0)) (λe=>elim e))
end eN
def eN(D:Z4)(B:Int)(p2:T'):a_ ((Sl X')×Int):=(sy D B 0 p2).bind λu=>bl (u==0) ((idx D.procs B).bind λw=>eN.W1 B (Sl.nil:Sl X') (wrap .i64 ((len w.events)+1)) 0 D p2) (some (Sl.nil,u))
open eN in
instance R5(D:Z4)(B:Int)(p2:T'):Fc Sy cL (eN D B p2):=Fc.N 7 [enc D,.int .i64 B,enc p2] (cu 2 3 D (cu 0 5 p2 (bF 10 λC _=>di 9 16 (bP 14 λw _=>bZ 2 w.events (fK 7 (λu=>(bL [Iv 1 B,Pv 3,Pv 5,Ov 9,Iv 25 (wrap .i64 ((len w.events)+1)),Iv 26 u.2] [Xb 3 D,Xb 5 p2,Lb 2009 u.1])) (λz=>(0,(bL [Ov 9] [Lb 2009 z]))) (λu=>bA 8 27 (bF 17 λG _=>o9 1 2009 35 36 λI _=>bh) bh) (λz=>bh))) bh)))
def rj(B:WF):a_ X':=some (decide ((len B.assign)>12))
instance R4(B:WF):Fc Sy cL (rj B):=Fc.M 46 [enc B] (cu 2 1 B (bZ 7 B.assign bh))
def qV(B:WF):a_ X':=some (B.kind==3)
instance RZ(B:WF):Fc Sy cL (qV B):=Fc.M 47 [enc B] (cu 2 1 B bh)
def s_(D:Zg)(p1:Int):a_ Zg:=(oV (Sl.row []:Zg) D).bind λu=>(Sl.jc u p1).bind λw=>(Sl.get u w).bind λz=>(Sl.jc u p1).bind λB=>(Sl.put u B (wrap .i64 (z+1):Int)).bind λC=>some C
instance X4(B:Zg)(p1:Int):Fc Sy cL (s_ B p1):=Fc.N 108 [enc B,.int .i64 p1] (z6 9 6 8 λw _=>iE .i64 9 8 λz _=>pg 0 8 0 1 false (λu=>.int .i64 u) λu _=>iE .i64 1 8 λC _=>BQ 0 8 (.int .i64 (wrap .i64 (u+1))) λD _=>bh)
namespace oB
def br(B:Zg)(D:Z4)(p5:Int):a_ (Fw Int Unit Unit):=bl (decide (p5<(len B))) ((idx B p5).bind λu=>(bl (decide (u<0)) (some true) ((idx B p5).bind λw=>(idx D.procs p5).bind λz=>some (decide (w>(len z.events)))):a_ X').bind λC=>bl C (some (.r ())) (some (.n (wrap .i64 (p5+1))))) (some (.x ()))
def W1(B:Zg)(p5:Int)(D:Z4):a_ X':=(bY (λq:Int=>br B D q) p5).bind (Fw.elim (λe=>some true) (λe=>some false))
end oB
def oB(D:Z4)(B:Zg):a_ X':=bl ((len B)==(len D.procs)) (oB.W1 B 0 D) (some false)
open oB in
instance YI(D:Z4)(B:Zg):Fc Sy cL (oB D B):=Fc.M 138 [enc D,enc B] (cu 2 2 D (bZ 7 B (bZ 2 D.procs (di 3 11 (eE 11 (λw=>(bL [Cv 1 B,Pv 2,Iv 5 w] [Xb 2 D])) (λu=>(0,(bL [] []))) (λu=>(bL [Bv 4 false] [])) (λw=>bZ 6 B (bA 3 15 (bP 9 λC _=>cg 3 13 [23] 36 (bA 3 23 (bE 13) (bP 2 λG _=>bP 4 λz _=>bZ 2 z.events (bE 2))) λI=>bA 2 36 bh bh) bh)) (λu=>bh) (λu=>bh)) bh))))
namespace eA
def bV(B:Zg)(p5:Int)(D:Z4)(G:Int):a_ (Fw Int Unit Unit):=(idx B p5).bind λz=>bl (decide (G<z)) ((idx D.procs p5).bind λC=>(idx C.events G).bind λu=>bl (u.kind==3) ((eB D 2 u.message).bind λw=>(idx B w.proc).bind λI=>bl (decide (w.index>I)) (some (.r ())) (some (.n (wrap .i64 (G+1))))) (some (.n (wrap .i64 (G+1))))) (some (.x ()))
def W2(B:Zg)(p5 G:Int)(D:Z4):a_ (Fw Int Unit Unit):=(bY (λq:Int=>bV B p5 D q) G).bind (Fw.elim (λe=>some (.n (wrap .i64 (p5+1)))) (λe=>some (.r ())))
def br(B:Zg)(D:Z4)(p5:Int):a_ (Fw Int Unit Unit):=bl (decide (p5<(len B))) (W2 B p5 0 D) (some (.x ()))
def W1(B:Zg)(p5:Int)(D:Z4):a_ X':=(bY (λq:Int=>br B D q) p5).bind (Fw.elim (λe=>some true) (λe=>some false))
end eA
def eA(D:Z4)(B:Zg):a_ X':=eA.W1 B 0 D
open eA in
instance PT(D:Z4)(B:Zg):Fc Sy cL (eA D B):=Fc.M 139 [enc D,enc B] (cu 2 2 D (eE 11 (λu=>(bL [Cv 1 B,Pv 2,Iv 5 u] [Xb 2 D])) (λw=>(0,(bL [] []))) (λw=>(bL [Bv 4 false] [])) (λu=>bZ 6 B (bA 3 12 (eE 12 (λC=>(bL [Cv 1 B,Pv 2,Iv 5 u,Iv 6 C] [Xb 2 D])) (λz=>(2,(bL [Cv 1 B,Pv 2,Iv 5 u] [Xb 2 D]))) (λz=>(bL [Bv 4 false] [])) (λC=>bP 7 λI _=>bA 4 20 (bP 10 λJ _=>bP 3 λG _=>oh 2 7 0 G (bA 9 34 (bF 6 λL _=>bP 11 λO _=>bA 4 46 bh bh) bh)) bh) (λz=>bh) (λz=>bh)) bh)) (λw=>bh) (λw=>bh)))
def zc(B:Z4)(D:Zg):a_ X':=(oB B D).bind λu=>(bl u ((eA B D).bind λw=>some w) (some false):a_ X').bind λz=>some z
instance ZQ(B:Z4)(D:Zg):Fc Sy cL (zc B D):=Fc.M 107 [enc B,enc D] (cu 2 2 B (bF 7 λu _=>cg 1 4 [1,2,8] 12 (bA 1 8 (bF 2 λw _=>bE 1) (bE 4)) λz=>bh))
namespace jV
def br(G:Zg)(D:Z4)(B:Zb)(p6:Int):a_ (Fw ((Zb)×Int) Zb Empty):=bl (decide (p6<(len G))) ((idx G p6).bind λu=>(idx D.procs p6).bind λw=>(bl (decide (u<(len w.events))) ((s_ G p6).bind λz=>(zc D z).bind λC=>some C) (some false):a_ X').bind λI=>bl I ((s_ G p6).bind λJ=>(gm B (J:Zg)).bind λL=>some (.n (L,wrap .i64 (p6+1)))) (some (.n (B,wrap .i64 (p6+1))))) (some (.x B))
def W1(G:Zg)(B:Zb)(p6:Int)(D:Z4):a_ Zb:=(bY (λq:(Zb)×Int=>br G D q.1 q.2) (B,p6)).bind (Fw.elim (λe=>some e) (λe=>elim e))
end jV
def jV(B:Z4)(D:Zg):a_ Zb:=jV.W1 D (Sl.nil:Zb) 0 B
open jV in
instance X8(B:Z4)(D:Zg):Fc Sy cL (jV B D):=Fc.N 76 [enc B,enc D] (cu 2 2 B (fK 17 (λu=>(bL [Cv 1 D,Pv 2,Ov 5,Iv 6 u.2] [Xb 2 B,Lb 2005 u.1])) (λw=>(0,(bL [Ov 5] [Lb 2005 w]))) (λu=>bZ 7 D (bA 3 10 (bP 9 λI _=>bP 4 λC _=>bZ 2 C.events (yS 2 6 [30,29] (λz=>(bL [Cv 1 D,Pv 2,Ov 5,Iv 6 u.2,Bv 10 true,Bv 31 z] [Xb 2 B,Lb 2005 u.1])) (bA 2 25 (bF 3 λJ _=>dz 0 λL _=>bE 1) (bE 6)) λz=>bA 2 31 (bF 5 λG _=>yZ 0 36 ([G]:aZ Zg) (o9 0 2005 36 37 λO _=>bh)) bh)) bh)) (λw=>bh)))
namespace ir
def br(B:Zg)(D i4:Int):a_ (Fw (Int×Int) Int Empty):=bl (decide (i4<(len B))) ((idx B i4).bind λu=>some (.n (wrap .i64 (D+u),wrap .i64 (i4+1)))) (some (.x D))
def W1(B:Zg)(D i4:Int):Pi:=(bY (λq:Int×Int=>br B q.1 q.2) (D,i4)).bind (Fw.elim (λe=>some e) (λe=>elim e))
end ir
def ir(B:Zg):Pi:=ir.W1 B 0 0
open ir in
instance X2(B:Zg):Fc Sy cL (ir B):=Fc.M 140 [enc B] (fK 18 (λu=>(bL [Cv 0 B,Iv 3 u.1,Iv 4 u.2] [])) (λw=>(0,(bL [Iv 3 w] []))) (λu=>bZ 6 B (bA 3 8 (bP 9 λz _=>bh) bh)) (λw=>bh))
namespace iH
def br(a0 D:Zg)(B:Int):a_ (Fw Int Unit X'):=bl (decide (B<(len a0))) ((idx a0 B).bind λu=>(idx D B).bind λw=>bl (u==w) (some (.n (wrap .i64 (B+1)))) ((idx a0 B).bind λz=>(idx D B).bind λC=>some (.r (decide (z<C))))) (some (.x ()))
def W1(a0 B:Zg)(D:Int):a_ X':=(bY (λq:Int=>br a0 B q) D).bind (Fw.elim (λe=>some false) (λe=>some e))
end iH
def iH(a0 B:Zg):a_ X':=(ir a0).bind λu=>(ir B).bind λw=>bl (u==w) (iH.W1 a0 B 0) ((ir a0).bind λz=>(ir B).bind λC=>some (decide (z<C)))
open iH in
instance Vy(a0 B:Zg):Fc Sy cL (iH a0 B):=Fc.M 109 [enc a0,enc B] (bF 9 λz _=>bF 1 λC _=>di 3 10 (eE 11 (λw=>(bL [Cv 0 a0,Cv 1 B,Iv 5 w] [])) (λu=>(0,(bL [] []))) (λu=>(bL [Bv 4 u] [])) (λw=>bZ 6 a0 (bA 3 19 (bP 9 λD _=>bP 3 λG _=>di 4 30 bh (bP 5 λI _=>bP 3 λJ _=>bh)) bh)) (λu=>bh) (λu=>bh)) (bF 4 λL _=>bF 1 λO _=>bh))
namespace fV
def br(a0 D:Zg)(B:Int):a_ (Fw Int Unit Unit):=bl (decide (B<(len a0))) ((idx a0 B).bind λu=>(idx D B).bind λw=>bl (u==w) (some (.n (wrap .i64 (B+1)))) (some (.r ()))) (some (.x ()))
def W1(a0 B:Zg)(D:Int):a_ X':=(bY (λq:Int=>br a0 B q) D).bind (Fw.elim (λe=>some true) (λe=>some false))
end fV
def fV(a0 B:Zg):a_ X':=bl ((len a0)==(len B)) (fV.W1 a0 B 0) (some false)
open fV in
instance RW(a0 B:Zg):Fc Sy cL (fV a0 B):=Fc.M 110 [enc a0,enc B] (bZ 9 a0 (bZ 1 B (di 3 10 (eE 11 (λw=>(bL [Cv 0 a0,Cv 1 B,Iv 5 w] [])) (λu=>(0,(bL [] []))) (λu=>(bL [Bv 4 false] [])) (λw=>bZ 6 a0 (bA 3 14 (bP 9 λz _=>bP 3 λC _=>di 4 25 bh bh) bh)) (λu=>bh) (λu=>bh)) bh)))
namespace iD
def br(D:Zb)(G:Zg)(B:Int):a_ (Fw Int Int Empty):=(bl (decide (B<(len D))) ((idx D B).bind λu=>(iH u G).bind λw=>some w) (some false):a_ X').bind λz=>bl z (some (.n (wrap .i64 (B+1)))) (some (.x B))
def W1(B:Zb)(G:Zg)(D:Int):a_ Zb:=(bY (λq:Int=>br B G q) D).bind (Fw.elim (λe=>(bl (decide (e<(len B))) ((idx B e).bind λz=>(fV z G).bind λC=>some C) (some false):a_ X').bind λI=>bl I (some B) ((gu B none (some e)).bind λJ=>(oV (Sl.row []:Zb) J).bind λL=>(gm L (G:Zg)).bind λO=>(gu B (some e) none).bind λu=>(oV O u).bind λw=>some w)) (λe=>elim e))
end iD
def iD(B:Zb)(D:Zg):a_ Zb:=iD.W1 B D 0
open iD in
instance Vm(B:Zb)(D:Zg):Fc Sy cL (iD B D):=Fc.N 77 [enc B,enc D] (fK 13 (λw=>(bL [Cv 0 B,Cv 1 D,Iv 5 w] [])) (λu=>(0,(bL [Cv 0 B,Cv 1 D,Iv 5 u] []))) (λw=>bZ 6 B (cg 2 7 [11] 18 (bA 2 11 (bP 2 λG _=>bF 2 λI _=>bE 1) (bE 7)) λJ=>bA 2 18 bh bh)) (λu=>bZ 7 B (cg 2 7 [25] 32 (bA 2 25 (bP 2 λL _=>bF 2 λO _=>bE 1) (bE 7)) λQ=>bA 2 32 bh (yZ 5 34 ([]:aZ Zg) (Bq 2 false true [.int .i64 u] λS _=>z6 0 34 38 λT _=>yZ 7 41 ([D]:aZ Zg) (o9 0 38 41 42 λU _=>Bq 8 true false [.int .i64 u] λz _=>z6 0 42 47 λC _=>bh))))))
namespace fm
def fA(D G:Zb)(W:Int)(J:Zb)(U:Z4)(B:Zb)(k9:Int):a_ (Fw ((Zb)×Int) Zb Empty):=bl (decide (k9<(len J))) ((idx J k9).bind λu=>(iD B u).bind λw=>some (.n (w,wrap .i64 (k9+1)))) (some (.x B))
def W3(B G D:Zb)(U:Int)(W:Zb)(k9:Int)(J:Z4):a_ (Fw ((Zb)×Int) Zb Empty):=(bY (λq:(Zb)×Int=>fA B G U W J q.1 q.2) (D,k9)).bind (Fw.elim (λe=>some (.n (e,wrap .i64 (U+1)))) (λe=>elim e))
def bV(B G:Zb)(J:Z4)(D:Zb)(U:Int):a_ (Fw ((Zb)×Int) Zb Empty):=bl (decide (U<(len B))) ((idx B U).bind λu=>(jV J u).bind λw=>W3 B G D U w 0 J) (some (.x D))
def W2(B D G:Zb)(U:Int)(J:Z4):a_ (Fw ((Zb)×(Zb)) Zb Unit):=(bY (λq:(Zb)×Int=>bV B D J q.1 q.2) (G,U)).bind (Fw.elim (λe=>some (.n (e,D))) (λe=>elim e))
def br(G:Z4)(B D:Zb):a_ (Fw ((Zb)×(Zb)) Zb Unit):=bl (decide ((len B)>0)) ((oV D B).bind λu=>bl (decide ((len u)>5000)) (some (.r ())) (W2 B u (Sl.nil:Zb) 0 G)) (some (.x D))
def W1(B D:Zb)(G:Z4):a_ ((Zb)×X'):=(bY (λq:(Zb)×(Zb)=>br G q.1 q.2) (B,D)).bind (Fw.elim (λe=>some (e,true)) (λe=>some ((Sl.nil:Zb),false)))
end fm
def fm(B:Z4):a_ ((Zb)×X'):=(o_ (len B.procs) (0:Int)).bind λu=>fm.W1 (Sl.row [u]:Zb) (Sl.nil:Zb) B
open fm in
instance XR(B:Z4):Fc Sy cL (fm B):=Fc.N 48 [enc B] (cu 2 1 B (bZ 8 B.procs (J5 0 13 λL _=>yZ 1 14 ([L]:aZ Zg) (eE 13 (λu=>(bL [Pv 1,Cv 4 u.1,Ov 5] [Xb 1 B,Lb 2005 u.2])) (λC=>(0,(bL [Ov 5] [Lb 2005 C]))) (λC=>(bL [Ov 2,Bv 3 false] [Lb 2002 (Sl.nil:Zb)])) (λu=>bZ 7 u.1 (bA 3 17 (z6 8 2005 20 λw _=>E9 7 20 w (bA 3 23 bh (fK 18 (λz=>(bL [Pv 1,Cv 4 u.1,Ov 5,Cv 6 z.1,Iv 7 z.2] [Xb 1 B,Lb 2005 w])) (λG=>(2,(bL [Pv 1,Ov 5,Cv 6 G] [Xb 1 B,Lb 2005 w]))) (λz=>bZ 8 u.1 (bA 3 27 (bP 10 λO _=>bF 1 λI _=>fK 12 (λD=>(bL [Pv 1,Cv 4 u.1,Ov 5,Cv 6 D.1,Iv 7 z.2,Cv 8 I,Iv 9 D.2] [Xb 1 B,Lb 2005 w])) (λJ=>(4,(bL [Pv 1,Cv 4 u.1,Ov 5,Cv 6 J,Iv 7 z.2] [Xb 1 B,Lb 2005 w]))) (λD=>bZ 8 I (bA 3 39 (bP 9 λQ _=>bF 1 λS _=>bh) bh)) (λJ=>bh)) bh)) (λG=>bh)))) bh)) (λC=>bh) (λC=>bh)))))
namespace fJ
def bV(G:Sl bW)(J:Int)(B D:Int):a_ (Fw (Int×Int) Int Unit):=bl (decide (D<J)) ((idx G D).bind λu=>(gN u.events (λz=>qV z)).bind λw=>bl w (some (.r ())) (some (.n (wrap .i64 (B*(wrap .i64 ((len u.events)+1))),wrap .i64 (D+1))))) (some (.x B))
def W2(B:Int)(D:Sl bW)(G J:Int):a_ X':=(bY (λq:Int×Int=>bV D G q.1 q.2) (B,J)).bind (Fw.elim (λe=>some (decide (e>5000))) (λe=>some false))
def br(D:Sl bW)(G:Int)(U:Z4)(J B:Int):a_ (Fw (Int×Int) Int Unit):=bl (decide (B<G)) ((idx D B).bind λu=>(bl (decide ((len u.vars)>12)) (some true) ((gN u.events (λz=>rj z)).bind λw=>some w):a_ X').bind λC=>bl C (some (.r ())) (some (.n (wrap .i64 (J+(len u.events)),wrap .i64 (B+1))))) (some (.x J))
def W1(U:Int)(D:Sl bW)(G J:Int)(B:Z4):a_ X':=(bY (λq:Int×Int=>br D G B q.1 q.2) (U,J)).bind (Fw.elim (λe=>bl (decide (e>60)) (some false) ((ru B).bind λw=>bl w (bl (decide (e>24)) (fJ.W2 1 B.procs (len B.procs) 0) ((fm B).bind λu=>(bl u.2 (some (decide ((len u.1)<=250))) (some true):a_ X').bind λz=>some z)) (some true))) (λe=>some false))
end fJ
def fJ(B:Z4):a_ X':=bl (decide ((len B.procs)>10)) (some false) (fJ.W1 0 B.procs (len B.procs) 0 B)
open fJ in
instance WA(B:Z4):Fc Sy cL (fJ B):=Fc.M 23 [enc B] (cu 2 1 B (bZ 8 B.procs (bA 3 14 bh (bZ 13 B.procs (eE 5 (λD=>(bL [Pv 1,Iv 3 D.1,Cv 16 B.procs,Iv 17 (len B.procs),Iv 18 D.2] [Xb 1 B])) (λu=>(0,(bL [Pv 1,Iv 3 u] [Xb 1 B]))) (λu=>(bL [Bv 2 false] [])) (λD=>bA 7 19 (bP 7 λw _=>oh 2 5 0 w (bZ 7 w.events (bZ 8 w.vars (cg 2 4 [5,31] 35 (bA 2 31 (bE 4) (bF (F:=mF 46 [] (λz=>rj z) lY.qS w.events) 2 λL _=>bE 1)) λO=>bA 2 35 bh bh)))) bh) (λu=>bA 9 38 bh (bF 7 λQ _=>di 3 41 (bA 10 43 (bZ 11 B.procs (eE 5 (λG=>(bL [Iv 6 G.1,Cv 45 B.procs,Iv 46 (len B.procs),Iv 47 G.2] [])) (λC=>(2,(bL [Iv 6 C] []))) (λC=>(bL [Bv 2 false] [])) (λG=>bA 7 48 (bP 7 λI _=>oh 2 8 0 I (bZ 7 I.events (bF (F:=mF 47 [] (λz=>qV z) lY.qS I.events) 9 λS _=>bA 2 59 bh bh))) bh) (λC=>bh) (λC=>bh))) (bF 6 λJ _=>cg 12 4 [9,70] 74 (di 12 70 (bZ 1 J.1 (bE 2)) (bE 4)) λT=>bh)) bh)) (λu=>bh))))))
namespace kj
def br(B:Int)(D:T')(G J:Int)(r:(T'×Int)->Pi):a_ (Fw (Int×Int) Int Empty):=(bl (decide (J<(len D.l))) (some (decide (G<=B))) (some false):a_ X').bind λu=>bl u ((idx D.l J).bind λw=>(r (w,wrap .i64 (B-G))).bind λz=>some (.n (wrap .i64 (G+z),wrap .i64 (J+1)))) (some (.x G))
def W1(B G J:Int)(D:T')(r:(T'×Int)->Pi):Pi:=(bY (λq:Int×Int=>br B D q.1 q.2 r) (G,J)).bind (Fw.elim (λe=>some e) (λe=>elim e))
end kj
def iO(D:T')(B:Int)(r:(T'×Int)->Pi):Pi:=kj.W1 B 1 0 D r
open kj in
theorem Dk(r:(T'×Int)->Pi)(a:gC Sy cL 24 (λz:T'×Int=>[enc z.1,.int .i64 z.2]) (λr:Int=>[.int .i64 r]) r true)(D:T')(B:Int):Le ((iO D B r).bind λr=>some [.int .i64 r]) (jA cL 24 [enc D,.int .i64 B]):=(Fc.M 24 [enc D,.int .i64 B] (cu 2 2 D (fK 16 (λu=>(bL [Iv 1 B,Pv 2,Iv 5 u.1,Iv 6 u.2] [Xb 2 D])) (λw=>(0,(bL [Iv 5 w] []))) (λu=>jv 7 9 (Pred.lX D.l) (bZ 0 D.l (cg 2 4 [12] 16 (bA 2 12 (bE 4) (bE 4)) λG=>bA 2 16 (jv 9 21 (Pred.lX D.l) (bP 1 λC _=>bF (F:=Fc.of (C,wrap .i64 (B-u.1)) a) 4 λI _=>bh)) bh))) (λw=>bh))):Fc Sy cL (iO D B r)).F.h ()
def kj(D:T')(B:Int):Pi:=dU (λr(z:T'×Int)=>iO z.1 z.2 r) 100000 (D,B)
instance V5(D:T')(B:Int):Fc Sy cL (kj D B):=Fc.of (D,B) (gC.fix (A:=λz:T'×Int=>[enc z.1,.int .i64 z.2]) (E:=λr:Int=>[.int .i64 r]) (sc:=true) (b:=(λr(z:T'×Int)=>iO z.1 z.2 r)) Zae (λ_ _=>rfl) (λr a z=>Dk r a z.1 z.2) 100000)
def nF(B:T'):Pi:=(kj B 200).bind λu=>some (if 201<u then 201 else u)
instance X1(B:T'):Fc Sy cL (nF B):=Fc.M 9 [enc B] (cu 2 1 B (bF 6 λu _=>bh))
def uO(J:Z4)(p1:T'):a_ X':=(fJ J).bind λw=>(bl w ((tc p1 300 0).bind λu=>some (u.1,u.2)) (some (false,300)):a_ (X'×Int)).bind λz=>(bl z.1 ((nF p1).bind λB=>(bl (decide (B<=100)) (some true) ((nF p1).bind λC=>some (decide (C>200))):a_ X').bind λD=>some D) (some false):a_ X').bind λG=>some G
instance Ye(B:Z4)(p1:T'):Fc Sy cL (uO B p1):=Fc.M 8 [enc B,enc p1] (cu 2 2 B (cu 0 3 p1 (bF 12 λw _=>yS 1 3 [] (λu=>(bL [Pv 3,Bv 11 u.1] [Xb 2 B,Xb 3 p1,(9002,.box [iv u.2])])) (bA 1 8 (rN 2 (Bi p1 300 0) λz _=>bE 1) (bE 4)) λu=>cg 1 9 [3,12] 21 (bA 1 12 (bF 1 λC _=>cg 2 4 [3,16] 20 (bA 2 16 (bE 4) (bF 1 λD _=>bE 2)) λG=>bE 1) (bE 9)) λI=>bh)))
namespace jl
def br(B:Int)(D:T')(G J:Int)(r:(T'×Int)->Pi):a_ (Fw (Int×Int) Int Empty):=bl (decide (J<(len D.l))) ((idx D.l J).bind λw=>(r (w,wrap .i64 (B-1))).bind λu=>some (.n ((if u>G then u else G),wrap .i64 (J+1)))) (some (.x G))
def W1(B G J:Int)(D:T')(r:(T'×Int)->Pi):Pi:=(bY (λq:Int×Int=>br B D q.1 q.2 r) (G,J)).bind (Fw.elim (λe=>some (wrap .i64 (e+1))) (λe=>elim e))
end jl
def iN(D:T')(B:Int)(r:(T'×Int)->Pi):Pi:=bl (B==0) (some 1) (jl.W1 B 0 0 D r)
open jl in
theorem Dj(r:(T'×Int)->Pi)(a:gC Sy cL 10 (λz:T'×Int=>[enc z.1,.int .i64 z.2]) (λr:Int=>[.int .i64 r]) r true)(D:T')(B:Int):Le ((iN D B r).bind λr=>some [.int .i64 r]) (jA cL 10 [enc D,.int .i64 B]):=(Fc.M 10 [enc D,.int .i64 B] (cu 2 2 D (bA 15 8 bh (fK 11 (λu=>(bL [Iv 1 B,Pv 2,Iv 5 u.1,Iv 6 u.2] [Xb 2 D])) (λw=>(0,(bL [Iv 5 w] []))) (λu=>jv 7 11 (Pred.lX D.l) (bZ 0 D.l (bA 3 13 (jv 9 18 (Pred.lX D.l) (bP 1 λC _=>bF (F:=Fc.of (C,wrap .i64 (B-1)) a) 3 λG _=>bh)) bh))) (λw=>bh)))):Fc Sy cL (iN D B r)).F.h ()
def jl(D:T')(B:Int):Pi:=dU (λr(z:T'×Int)=>iN z.1 z.2 r) 100000 (D,B)
instance Xw(D:T')(B:Int):Fc Sy cL (jl D B):=Fc.of (D,B) (gC.fix (A:=λz:T'×Int=>[enc z.1,.int .i64 z.2]) (E:=λr:Int=>[.int .i64 r]) (sc:=true) (b:=(λr(z:T'×Int)=>iN z.1 z.2 r)) Zae (λ_ _=>rfl) (λr a z=>Dj r a z.1 z.2) 100000)
def sS(B:Int):a_ X':=(bl (decide (B>=18)) (some (decide (B<=21))) (some false):a_ X').bind λu=>some u
instance PM(B:Int):Fc Sy cL (sS B):=Fc.M 142 [.int .i64 B] (cg 10 3 [0,5] 8 (bA 10 5 (bE 3) (bE 3)) λu=>bh)
def ni(B:T'):a_ X':=(sS B.kind).bind λu=>some (!u)
instance Mb(B:T'):Fc Sy cL (ni B):=Fc.M 141 [enc B] (cu 2 1 B (bF 7 λu _=>bh))
def pn(D:T'):a_ X':=(mN D).bind λu=>(bl u ((ot D (λz=>ni z)).bind λw=>some (!w)) (some false):a_ X').bind λB=>some B
instance PN(B:T'):Fc Sy cL (pn B):=Fc.M 111 [enc B] (cu 2 1 B (bF 6 λu _=>cg 1 4 [1,5] 9 (bA 1 5 (bF (F:=uQ 141 [] (λz=>ni z) lY.qS B) 1 λw _=>bE 2) (bE 4)) λC=>bh))
namespace lJ
def J3(B:Sl bf)(W:Sl bW)(Y a:Int)(b:Sl WF)(c G:Int)(J:Z4)(d U:cE)(e:bW)(D:bf):a_ (Fw ((Sl bf)×Int×Z4×cE×cE) ((Sl bf)×Z4×cE) Empty):=(gm B (D:bf)).bind λu=>some (.n (u,wrap .i64 (G+1),J,(⟨Sl.nil,Sl.nil⟩:cE),U))
def bV(Y:Sl bW)(a b:Int)(J:Sl WF)(U:Int)(c:bW)(B:Sl bf)(D:Int)(G:Z4)(d W:cE):a_ (Fw ((Sl bf)×Int×Z4×cE×cE) ((Sl bf)×Z4×cE) Empty):=bl (decide (D<U)) ((idx J D).bind λu=>bl (u.kind==3) ((rJ G u.message).bind λw=>J3 B Y a b J U D G (⟨Sl.nil,Sl.nil⟩:cE) W c w.1) (J3 B Y a b J U D G (⟨Sl.nil,Sl.nil⟩:cE) W c (⟨0,0⟩:bf))) (some (.x (B,G,W)))
def W2(B:Sl bf)(J:Sl bW)(U D:Int)(W:Sl WF)(Y a:Int)(b:Z4)(c d:cE)(G:bW):a_ (Fw (Int×Z4×cE×cE) cE Empty):=(bY (λq:(Sl bf)×Int×Z4×cE×cE=>bV J U D W Y G q.1 q.2.1 q.2.2.1 q.2.2.2.1 q.2.2.2.2) (B,a,b,c,d)).bind (Fw.elim (λe=>(gm e.2.2.lengths (len G.events:Int)).bind λu=>(gm e.2.2.need (e.1:Sl bf)).bind λw=>some (.n (wrap .i64 (D+1),e.2.1,(⟨Sl.nil,Sl.nil⟩:cE),(⟨u,w⟩:cE)))) (λe=>elim e))
def br(D:Sl bW)(G:Int)(B:Int)(U:Z4)(W J:cE):a_ (Fw (Int×Z4×cE×cE) cE Empty):=bl (decide (B<G)) ((idx D B).bind λu=>W2 (Sl.nil:Sl bf) D G B u.events (len u.events) 0 U (⟨Sl.nil,Sl.nil⟩:cE) J u) (some (.x J))
def W1(B:Sl bW)(D G:Int)(J:Z4)(U W:cE):a_ cE:=(bY (λq:Int×Z4×cE×cE=>br B D q.1 q.2.1 q.2.2.1 q.2.2.2) (G,J,U,W)).bind (Fw.elim (λe=>some e) (λe=>elim e))
end lJ
def lJ(B:Z4):a_ cE:=lJ.W1 B.procs (len B.procs) 0 B (⟨Sl.nil,Sl.nil⟩:cE) (⟨Sl.nil,Sl.nil⟩:cE)
open lJ in
instance aa9(D:Z4):Fc Sy cL (lJ D):=Fc.N 144 [enc D] (cu 2 1 D (bZ 13 D.procs (fK 7 (λu=>(bL [Pv 1,Pv 2,Pv 3,Cv 11 D.procs,Iv 12 (len D.procs),Iv 13 u.1] [Xb 1 u.2.1,Xb 2 (⟨Sl.nil,Sl.nil⟩:cE),(3,.box [.own 4060,.own 4061]),Lb 4060 u.2.2.2.lengths,Lb 4061 u.2.2.2.need])) (λC=>(0,(bL [Pv 2,Pv 3] [Xb 2 (⟨Sl.nil,Sl.nil⟩:cE),(3,.box [.own 4060,.own 4061]),Lb 4060 C.lengths,Lb 4061 C.need]))) (λu=>bA 9 14 (bP 7 λw _=>oh 2 5 0 w (bZ 12 w.events (fK 8 (λz=>(bL [Pv 1,Pv 2,Pv 3,Pv 5,Ov 6,Cv 11 D.procs,Iv 12 (len D.procs),Iv 13 u.1,Cv 18 w.events,Iv 19 (len w.events),Iv 20 z.2.1] [Xb 1 z.2.2.1,Xb 2 (⟨Sl.nil,Sl.nil⟩:cE),(3,.box [.own 4060,.own 4061]),Xb 5 w,Lb 2006 z.1,Lb 4060 z.2.2.2.2.lengths,Lb 4061 z.2.2.2.2.need])) (λB=>(2,(bL [Pv 1,Pv 2,Pv 3,Pv 5,Ov 6,Cv 11 D.procs,Iv 12 (len D.procs),Iv 13 u.1] [Xb 1 B.2.1,Xb 2 (⟨Sl.nil,Sl.nil⟩:cE),(3,.box [.own 4060,.own 4061]),Xb 5 w,Lb 2006 B.1,Lb 4060 B.2.2.lengths,Lb 4061 B.2.2.need]))) (λz=>bA 10 21 (bP 7 λG _=>oh 2 8 0 G (bA 15 26 (bF 5 λJ _=>uR 10 (o9 4 2006 36 37 λI _=>bh)) (uR 7 (o9 4 2006 36 37 λI _=>bh)))) bh) (λB=>bZ 8 w.events (o9 1 4060 44 45 λL _=>yZ 9 50 ([B.1]:aZ (Sl bf)) (o9 0 4061 50 51 λO _=>bh)))))) bh) (λC=>oh 7 2 0 C bh))))
def qt(J:cE)(B:Zg)(p2:Int):a_ X':=(idx B p2).bind λw=>(idx J.lengths p2).bind λz=>bl (w==z) (some false) ((idx J.need p2).bind λC=>(idx B p2).bind λD=>(idx C D).bind λu=>(idx B u.proc).bind λG=>some (decide (u.index<=G)))
instance Q2(B:cE)(D:Zg)(p2:Int):Fc Sy cL (qt B D p2):=Fc.M 162 [enc B,enc D,.int .i64 p2] (cu 2 3 B (bP 8 λu _=>bP 4 λw _=>bA 4 17 bh (bP 8 λz _=>bP 3 λC _=>bP 1 λG _=>bP 12 λI _=>bh)))
def tD(B:Int):a_ X':=some (!(B==B))
instance Vz(B:Int):Fc Sy cL (tD B):=Fc.M 189 [.int .i64 B] (bh)
def q9(B D:Int):Pi:=(tD B).bind λw=>(tD D).bind λu=>bl w (bl u (some 0) (some (-1))) (bl u (some 1) (bl (decide (B<D)) (some (-1)) (bl (decide (B>D)) (some 1) (some 0))))
instance R3(B D:Int):Fc Sy cL (q9 B D):=Fc.M 177 [.int .i64 B,.int .i64 D] (bF 8 λu _=>bF 6 λw _=>bA 9 11 (bA 7 12 bh bh) (bA 9 13 bh (bA 11 16 bh (bA 11 19 bh bh))))
namespace fQ
def br(J D U:Zg)(G:Int)(B:Int):a_ (Fw Int Unit Int):=bl (decide (B<G)) ((idx U B).bind λw=>bl (decide (B>=(len D))) (some (.r 1)) ((idx D B).bind λz=>(q9 w z).bind λu=>bl (u==0) (some (.n (wrap .i64 (B+1)))) (some (.r u)))) (some (.x ()))
def W1(B D U:Zg)(G J:Int):Pi:=(bY (λq:Int=>br B D U G q) J).bind (Fw.elim (λe=>bl (decide ((len B)<(len D))) (some (-1)) (some 0)) (λe=>some e))
end fQ
def fQ(B D:Zg):Pi:=fQ.W1 B D B (len B) 0
open fQ in
instance Ol(B D:Zg):Fc Sy cL (fQ B D):=Fc.M 165 [enc B,enc D] (bZ 9 B (eE 5 (λw=>(bL [Cv 0 B,Cv 1 D,Cv 9 B,Iv 10 (len B),Iv 11 w] [])) (λu=>(0,(bL [Cv 0 B,Cv 1 D] []))) (λu=>(bL [Iv 4 u] [])) (λw=>bA 7 12 (bP 8 λz _=>bZ 10 D (bA 3 19 bh (bP 7 λC _=>bF 8 λG _=>di 9 28 bh bh))) bh) (λu=>bZ 6 B (bZ 1 D (bA 3 35 bh bh))) (λu=>bh)))
def kM(a0 B:Zg):Pi:=(fQ a0 B).bind λu=>some u
instance Px(a0 B:Zg):Fc Sy cL (kM a0 B):=Fc.M 164 [enc a0,enc B] (bF 9 λu _=>bh)
namespace f_
def br(D G:Zg)(J:Int)(B:Int):a_ (Fw Int Unit Unit):=bl (decide (B<J)) ((idx D B).bind λu=>(idx G B).bind λw=>bl (u==w) (some (.n (wrap .i64 (B+1)))) (some (.r ()))) (some (.x ()))
def W1(B D:Zg)(G J:Int):a_ X':=(bY (λq:Int=>br B D G q) J).bind (Fw.elim (λe=>some true) (λe=>some false))
end f_
def f_(B D:Zg):a_ X':=bl ((len B)==(len D)) (f_.W1 B D (len B) 0) (some false)
open f_ in
instance Qn(B D:Zg):Fc Sy cL (f_ B D):=Fc.M 16 [enc B,enc D] (bZ 9 B (bZ 1 D (di 3 10 (bZ 7 B (eE 5 (λw=>(bL [Cv 0 B,Cv 1 D,Iv 12 (len B),Iv 13 w] [])) (λu=>(0,(bL [] []))) (λu=>(bL [Bv 4 false] [])) (λw=>bA 7 14 (bP 15 λz _=>bP 3 λC _=>di 4 24 bh bh) bh) (λu=>bh) (λu=>bh))) bh)))
def mC(a0 B:Zg):a_ X':=(f_ a0 B).bind λu=>some u
instance OO(a0 B:Zg):Fc Sy cL (mC a0 B):=Fc.M 167 [enc a0,enc B] (bF 9 λu _=>bh)
namespace eY
def bV(U:Zg)(W:Zb)(Y a G:Int)(J:cE)(D:Zb)(B:Int):a_ (Fw ((Zb)×Int) Zb Empty):=bl (decide (B<G)) ((qt J U B).bind λw=>bl w (((ey U).bind Sl.whole).bind λu=>(Sl.jc u B).bind λz=>(Sl.get u z).bind λC=>(Sl.jc u B).bind λI=>(Sl.put u I (wrap .i64 (C+1):Int)).bind λL=>(gm D (L:Zg)).bind λO=>some (.n (O,wrap .i64 (B+1)))) (some (.n (D,wrap .i64 (B+1))))) (some (.x D))
def W2(B:Zb)(a:Zg)(J:Zb)(D G U W:Int)(Y:cE):a_ (Fw ((Zb)×Int×Int) Zb Empty):=(bY (λq:(Zb)×Int=>bV a J D G U Y q.1 q.2) (B,W)).bind (Fw.elim (λe=>some (.n (e,D,wrap .i64 (G+1)))) (λe=>elim e))
def br(G:Zb)(U:cE)(B:Zb)(J D:Int):a_ (Fw ((Zb)×Int×Int) Zb Empty):=bl (decide (D<J)) ((idx G D).bind λu=>W2 B u G J D (len u) 0 U) (some (.x B))
def W1(B D:Zb)(G J:Int)(U:cE):a_ Zb:=(bY (λq:(Zb)×Int×Int=>br D U q.1 q.2.1 q.2.2) (B,G,J)).bind (Fw.elim (λe=>(A9 e kM).bind λw=>(zO w mC).bind λu=>some u) (λe=>elim e))
end eY
def eY(D:cE)(B:Zb):a_ Zb:=eY.W1 (Sl.nil:Zb) B (len B) 0 D
open eY in
instance R7(G:cE)(B:Zb):Fc Sy cL (eY G B):=Fc.N 145 [enc G,enc B] (cu 2 2 G (bZ 12 B (fK 6 (λu=>(bL [Pv 2,Ov 5,Cv 10 B,Iv 11 u.2.1,Iv 12 u.2.2] [Xb 2 G,Lb 2005 u.1])) (λI=>(0,(bL [Ov 5] [Lb 2005 I]))) (λu=>bA 8 13 (bP 7 λw _=>bZ 7 w (fK 6 (λC=>(bL [Pv 2,Ov 5,Cv 7 w,Cv 10 B,Iv 11 u.2.1,Iv 12 u.2.2,Iv 17 (len w),Iv 18 C.2] [Xb 2 G,Lb 2005 C.1])) (λJ=>(2,(bL [Pv 2,Ov 5,Cv 10 B,Iv 11 u.2.1,Iv 12 u.2.2] [Xb 2 G,Lb 2005 J]))) (λC=>bA 8 19 (bF 16 λQ _=>bA 2 24 (Om 4 26 g_ w λS _=>iE .i64 7 26 λT _=>pg 0 26 0 1 false (λD=>.int .i64 D) λD _=>iE .i64 1 26 λU _=>BQ 0 26 (.int .i64 (wrap .i64 (D+1))) λL _=>yZ 6 35 ([L]:aZ Zg) (o9 0 2005 35 36 λW _=>bh)) bh) bh) (λJ=>bh))) bh) (λI=>aae 5 2005 Jt CO Xu (gC.qS (λz=>inferInstanceAs (Fc Sy cL (kM z.1 z.2))) default (λ_=>rfl) (λ_=>rfl) (λ_=>rfl) (λ_=>rfl)) λX _=>aah 5 2005 42 Jt CO Xs (gC.qS (λz=>inferInstanceAs (Fc Sy cL (mC z.1 z.2))) default (λ_=>rfl) (λ_=>rfl) (λ_=>rfl) (λ_=>rfl)) λO _=>bh))))
namespace kT
def br(J:cE)(B:Zb)(G:Sl Zb)(D:Int):a_ (Fw ((Zb)×(Sl Zb)×Int) (Sl Zb) Unit):=bl (decide ((len B)>0)) (bl (decide ((wrap .i64 (D+(len B)))>5000)) (some (.r ())) ((gm G (B:Zb)).bind λu=>(eY J B).bind λw=>some (.n (w,u,wrap .i64 (D+(len B)))))) (some (.x G))
def W1(B:Zb)(G:Sl Zb)(D:Int)(J:cE):a_ ((Sl Zb)×Int):=(bY (λq:(Zb)×(Sl Zb)×Int=>br J q.1 q.2.1 q.2.2) (B,G,D)).bind (Fw.elim (λe=>some (e,0)) (λe=>some ((Sl.nil:Sl Zb),16)))
end kT
def kT(B:Z4):a_ ((Sl Zb)×Int):=(cI B).bind λu=>bl u ((lJ B).bind λw=>(o_ (len B.procs) (0:Int)).bind λz=>kT.W1 (Sl.row [z]:Zb) (Sl.nil:Sl Zb) 0 w) (some ((Sl.nil:Sl Zb),1))
open kT in
instance XX(B:Z4):Fc Sy cL (kT B):=Fc.N 113 [enc B] (cu 2 1 B (bF 8 λD _=>di 3 10 (bF 6 λz _=>oh 1 4 0 z (bZ 6 B.procs (J5 0 16 λC _=>yZ 1 17 ([C]:aZ Zg) (eE 18 (λu=>(bL [Pv 4,Cv 5 u.1,Ov 6,Iv 7 u.2.2] [Xb 4 z,Lb 2006 u.2.1])) (λw=>(0,(bL [Ov 6] [Lb 2006 w]))) (λw=>(bL [Ov 2,Iv 3 16] [Lb 2002 (Sl.nil:Sl Zb)])) (λu=>bZ 7 u.1 (bA 3 20 (bZ 10 u.1 (bA 10 29 bh (yZ 6 32 ([u.1]:aZ Zb) (o9 0 2006 32 33 λG _=>bF 7 λI _=>bh)))) bh)) (λw=>bh) (λw=>bh))))) bh))
def gI(s:Sl Zb):a_ Zb:=if s.l.length<=2147483648/\(s.l.flatMap Sl.l).length<=2147483648 then some (DW s)else none
instance N0(s:Sl Zb):Fc Sy cL (gI s):=Fc.of (A:=λz:Sl Zb=>[enc z]) (E:=λr:Zb=>[enc r]) (p:=gI) (n:=114) (z:=s) (gC.Zw Zae Zae (λz r h=>by
 unfold gI at h;split at h
 next a=>cases h;exact Cl (Wn (E:=Sy.E) (N:=λn=>n) (gid:=146) (nm:=some) (λ_ _ h=>(Option.some.inj h).symm) rfl Zae Zae (En Zae) (En Zae) rfl z a.1 a.2)
 cases h))
def uk(B:Z4):a_ ((Zb)×Int):=(kT B).bind λu=>(gI u.1).bind λw=>some (w,u.2)
instance ZL(B:Z4):Fc Sy cL (uk B):=Fc.N 79 [enc B] (cu 2 1 B (bF 7 λu _=>bF 10 λw _=>bh))
def nC(B:Z4):a_ ((Zb)×Int):=(uk B).bind λu=>some (u.1,u.2)
instance ZP(B:Z4):Fc Sy cL (nC B):=Fc.N 50 [enc B] (cu 2 1 B (bF 7 λu _=>bh))
namespace j_
def br(G:Zg)(J:Int)(B:Sl bf)(D:Int):a_ (Fw ((Sl bf)×Int) (Sl bf) Empty):=bl (decide (D<J)) ((idx G D).bind λu=>bl (decide (u>0)) ((gm B (⟨D,u⟩:bf)).bind λw=>some (.n (w,wrap .i64 (D+1)))) (some (.n (B,wrap .i64 (D+1))))) (some (.x B))
def W1(B:Sl bf)(D:Zg)(G J:Int):a_ ((Sl bf)×Int):=(bY (λq:(Sl bf)×Int=>br D G q.1 q.2) (B,J)).bind (Fw.elim (λe=>some (e,0)) (λe=>elim e))
end j_
def j_(D:Z4)(B:Zg):a_ ((Sl bf)×Int):=(dM D (Sl.row [B]:Zb) (Sl.nil:Zg)).bind λu=>bl (u==0) (j_.W1 (Sl.nil:Sl bf) B (len B) 0) (some (Sl.nil,u))
open j_ in
instance V3(D:Z4)(B:Zg):Fc Sy cL (j_ D B):=Fc.N 143 [enc D,enc B] (cu 2 2 D (yZ 9 12 ([B]:aZ Zg) (dz 0 λz _=>di 9 15 (bZ 12 B (fK 6 (λu=>(bL [Ov 7,Cv 17 B,Iv 18 (len B),Iv 19 u.2] [Lb 2007 u.1])) (λw=>(0,(bL [Ov 7] [Lb 2007 w]))) (λu=>bA 8 20 (bP 8 λC _=>bA 11 25 (o9 7 2007 30 31 λG _=>bh) bh) bh) (λw=>bh))) bh)))
namespace gq
def br(G:Zg)(J:Int)(U:Z4)(D:Zb)(B:Int):a_ (Fw ((Zb)×Int) Zb Empty):=bl (decide (B<J)) ((idx G B).bind λu=>(idx U.procs B).bind λw=>(fS w u).bind λz=>(gm D (z:Zg)).bind λC=>some (.n (C,wrap .i64 (B+1)))) (some (.x D))
def W1(B:Zb)(D:Zg)(G J:Int)(U:Z4):a_ ((Zb)×Int):=(bY (λq:(Zb)×Int=>br D G U q.1 q.2) (B,J)).bind (Fw.elim (λe=>some (e,0)) (λe=>elim e))
end gq
def gq(D:Z4)(B:Zg):a_ ((Zb)×Int):=(j_ D B).bind λu=>bl (u.2==0) (gq.W1 (Sl.nil:Zb) B (len B) 0 D) (some (Sl.nil,u.2))
open gq in
instance X3(D:Z4)(B:Zg):Fc Sy cL (gq D B):=Fc.N 112 [enc D,enc B] (cu 2 2 D (bF 9 λC _=>di 13 18 (bZ 12 B (fK 6 (λu=>(bL [Pv 2,Ov 8,Cv 20 B,Iv 21 (len B),Iv 22 u.2] [Xb 2 D,Lb 2008 u.1])) (λw=>(0,(bL [Ov 8] [Lb 2008 w]))) (λu=>bA 8 23 (bP 8 λG _=>bP 10 λI _=>bF 2 λz _=>yZ 0 35 ([z]:aZ Zg) (o9 0 2008 35 36 λJ _=>bh)) bh) (λw=>bh))) bh))
namespace gY
def br(Y J:Zb)(U:Int)(G:Z4)(W:T')(B:Sl X')(D:Int):a_ (Fw ((Sl X')×Int) (Sl X') ((Zb)×(Sl X')×Int)):=bl (decide (D<U)) ((idx J D).bind λw=>(gq G w).bind λu=>bl (u.2==0) ((cW (⟨G,w,u.1⟩:bS) W).bind λz=>(gm B (z:X')).bind λC=>some (.n (C,wrap .i64 (D+1)))) (some (.r ((Sl.nil:Zb),(Sl.nil:Sl X'),u.2)))) (some (.x B))
def W1(Y:Zb)(B:Sl X')(D:Zb)(G J:Int)(U:Z4)(W:T'):a_ ((Zb)×(Sl X')×Int):=(bY (λq:(Sl X')×Int=>br Y D G U W q.1 q.2) (B,J)).bind (Fw.elim (λe=>some (Y,e,0)) (λe=>some (e.1,e.2.1,e.2.2)))
end gY
def gY(B:Z4)(p1:T'):a_ ((Zb)×(Sl X')×Int):=(jE B p1).bind λw=>bl (w==0) ((nT p1 2).bind λz=>bl (z==0) ((pn p1).bind λC=>bl C (some (Sl.nil,(Sl.nil:Sl X'),15)) ((nC B).bind λu=>bl (u.2==0) (gY.W1 u.1 (Sl.nil:Sl X') u.1 (len u.1) 0 B p1) (some (Sl.nil,(Sl.nil:Sl X'),u.2)))) (some (Sl.nil,(Sl.nil:Sl X'),z))) (some (Sl.nil,(Sl.nil:Sl X'),w))
open gY in
instance XH(B:Z4)(p1:T'):Fc Sy cL (gY B p1):=Fc.N 78 [enc B,enc p1] (cu 2 2 B (cu 0 3 p1 (bF 10 λG _=>di 9 20 (bF 7 λI _=>di 9 25 (bF 7 λJ _=>bA 2 28 bh (bF 6 λw _=>di 14 35 (bZ 12 w.1 (eE 6 (λz=>(bL [Pv 2,Pv 3,Cv 9 w.1,Ov 11,Cv 37 w.1,Iv 38 (len w.1),Iv 39 z.2] [Xb 2 B,Xb 3 p1,Lb 2011 z.1])) (λu=>(0,(bL [Cv 9 w.1,Ov 11] [Lb 2011 u]))) (λu=>(bL [Cv 4 u.1,Ov 5,Iv 6 u.2.2] [Lb 2005 u.2.1])) (λz=>bA 8 40 (bP 7 λC _=>bF 8 λD _=>di 14 50 (Y3 8 (⟨B,C,D.1⟩:bS) [enc B,enc C,enc D.1] [.bM,.bM,.bM] [(0,1),(1,1),(2,1)] (by simp only[E7,HW,kJ,FE,C3,Fz,EG];rfl) rfl (bF 1 λL _=>o9 1 2011 59 60 λO _=>bh)) bh) bh) (λu=>bh) (λu=>bh))) bh)) bh) bh)))
def me(B:Z4)(p1:T'):a_ ((Sl X')×Int):=(gY B p1).bind λu=>some (u.2.1,u.2.2)
instance TW(B:Z4)(p1:T'):Fc Sy cL (me B p1):=Fc.N 49 [enc B,enc p1] (cu 2 2 B (cu 0 3 p1 (bF 8 λu _=>bh)))
namespace ga
def br(J:Zg)(D:Int)(G:Sl U8)(B:Int):a_ (Fw ((Sl U8)×Int) (Sl U8) Empty):=bl (decide (B<D)) ((idx J B).bind λu=>(gm G (⟨wrap .u8 u⟩:U8)).bind λw=>some (.n (w,wrap .i64 (B+1)))) (some (.x G))
def W1(G:Sl U8)(J:Zg)(B D:Int):a_ U':=(bY (λq:(Sl U8)×Int=>br J B q.1 q.2) (G,D)).bind (Fw.elim (λe=>some (LD e)) (λe=>elim e))
end ga
def ga(B:Zg):a_ U':=(s7 (len B) (⟨0⟩:U8)).bind λu=>ga.W1 u B (len B) 0
open ga in
instance Yj(B:Zg):Fc Sy cL (ga B):=Fc.M 58 [enc B] (bZ 8 B (abu (zero:=[.int .u8 0]) 0 8 λz _=>bZ 7 B (fK 6 (λu=>(bL [Ov 3,Cv 9 B,Iv 10 (len B),Iv 11 u.2] [Lb 2003 u.1])) (λw=>(0,(bL [Ov 3] [Lb 2003 w]))) (λu=>bA 8 12 (bP 7 λC _=>o9 9 2003 18 19 λD _=>bh) bh) (λw=>aag 5 2003 w bh))))
namespace kg
def br(J:Zb)(U:Int)(D:Int)(G:Mo ByteArray Int)(B:ck):a_ (Fw (Int×(Mo ByteArray Int)×ck) ((Mo ByteArray Int)×ck) Empty):=bl (decide (D<U)) ((idx J D).bind λu=>(ga u).bind λw=>some (.n (wrap .i64 (D+1),nu G w D,(⟨B.t,B.l,⟨none⟩,B.truth⟩:ck)))) (some (.x (G,(⟨B.t,B.l,⟨none⟩,B.truth⟩:ck))))
def W1(G:Zb)(J U:Int)(B:Mo ByteArray Int)(D:ck):a_ (a_ ck):=(bY (λq:Int×(Mo ByteArray Int)×ck=>br G J q.1 q.2.1 q.2.2) (U,B,D)).bind (Fw.elim (λe=>some (some (⟨e.2.t,e.2.l,⟨some e.1⟩,e.2.truth⟩:ck))) (λe=>elim e))
end kg
def kg(G:Z4)(D:Zb)(B:Sl X'):a_ (a_ ck):=kg.W1 D (len D) 0 [] (⟨G,D,⟨none⟩,B⟩:ck)
open kg in
instance XS(G:Z4)(D:Zb)(B:Sl X'):Fc Sy cL (kg G D B):=Fc.N 51 [enc G,enc D,enc B] (cu 2 3 G (Vp 9 [cv G,cv D,.mp 12,cv B] [cv G.procs,cv D,.mp 12,cv B] [.bM,.bM,.hG,.bM] [(0,1),(1,1),(2,1),(3,1)] (by simp only[AK,HG,K6,Gr,Io,FH,kJ,FE,C3,Fz,EG];rfl) (aaf 0 15 [cv G.procs,cv D,.mp 12,cv B] (by simp only[all_cons,PY,KG,Nn,Kp,nV,mg,nO,mU,Gz];rfl) (bZ 7 D (fK 5 (λu=>(bL [(7,.ptr 15 0),Cv 16 D,Iv 17 (len D),Iv 18 u.1] [(12,vM u.2.1),(15,.box [cv u.2.2.t.procs,cv u.2.2.l,.mp 12,cv u.2.2.truth])])) (λw=>(0,(bL [(7,.ptr 15 0)] [(12,vM w.1),(15,.box [cv w.2.t.procs,cv w.2.l,.mp 12,cv w.2.truth])]))) (λu=>bA 7 19 (bP 8 λC _=>dz 11 λz _=>Yf 1 12 u.2.1 z u.1 bh) bh) (λw=>bh))))))
def oL(B:Z4)(p1:T'):a_ ((a_ ck)×Int):=(me B p1).bind λu=>bl (u.2==0) ((nC B).bind λw=>bl (w.2==0) ((kg B w.1 u.1).bind λz=>some (z,0)) (some (none,w.2))) (some (none,u.2))
instance ZM(B:Z4)(p1:T'):Fc Sy cL (oL B p1):=Fc.N 25 [enc B,enc p1] (cu 2 2 B (cu 0 3 p1 (bF 8 λu _=>di 14 16 (bF 6 λw _=>di 14 24 (bF 8 λz _=>bh) bh) bh)))
namespace dJ
def br(G:ck)(i1 J U:Int)(B:Zg)(D:Int):a_ (Fw ((Zg)×Int) Zg Empty):=bl (decide (D<U)) ((idx G.l i1).bind λz=>((ey z).bind Sl.whole).bind λu=>(Sl.jc u D).bind λC=>(Sl.get u C).bind λI=>(Sl.jc u D).bind λL=>(Sl.put u L (wrap .i64 (I+J):Int)).bind λO=>(ga O).bind λw=>bl (tH (lT G.index) w) ((gm B (pe (lT G.index) w 0:Int)).bind λQ=>some (.n (Q,wrap .i64 (D+1)))) (some (.n (B,wrap .i64 (D+1))))) (some (.x B))
def W1(G:ck)(i1 B:Int)(D:Zg)(J U:Int):a_ Zg:=(bY (λq:(Zg)×Int=>br G i1 B J q.1 q.2) (D,U)).bind (Fw.elim (λe=>some e) (λe=>elim e))
end dJ
def dJ(s0:ck)(i1 B:Int):a_ Zg:=(idx s0.l i1).bind λu=>dJ.W1 s0 i1 B (Sl.nil:Zg) (len u) 0
open dJ in
instance PS(s0:ck)(i1 B:Int):Fc Sy cL (dJ s0 i1 B):=Fc.N 53 [.fptr (cells s0),.int .i64 i1,.int .i64 B] (bP 18 λz _=>bZ 1 z (fK 6 (λu=>(bL [Kv 0 s0,Iv 1 i1,Iv 2 B,Ov 7,Iv 19 (len z),Iv 20 u.2] [Lb 2007 u.1])) (λC=>(0,(bL [Ov 7] [Lb 2007 C]))) (λu=>bA 8 21 (bP 18 λD _=>Om 1 30 g_ D λI _=>iE .i64 7 30 λJ _=>pg 0 30 0 1 false (λw=>.int .i64 w) λw _=>iE .i64 2 30 λL _=>BQ 0 30 (.int .i64 (wrap .i64 (w+B))) λO _=>dz 9 λG _=>Wz 0 s0.index G 0 (bA 12 48 (o9 5 2007 51 52 λQ _=>bh) bh)) bh) (λC=>bh)))
namespace en
def bV(U:Zg)(W:Zb)(Y b G:Int)(B:Zg)(D:Int)(a:(Zg)->Pi):a_ (Fw ((Zg)×Int) Zg Empty):=bl (decide (D<G)) ((Sl.jc B D).bind λw=>(Sl.get B w).bind λz=>(idx U D).bind λC=>(a (Sl.row [z,C]:Zg)).bind λI=>(Sl.jc B D).bind λJ=>(Sl.put B J (I:Int)).bind λu=>some (.n (u,wrap .i64 (D+1)))) (some (.x B))
def W2(B Y:Zg)(G:Zb)(J D U W:Int)(a:(Zg)->Pi):a_ (Fw ((Zg)×Int) Zg Empty):=(bY (λq:(Zg)×Int=>bV Y G J D U q.1 q.2 a) (B,W)).bind (Fw.elim (λe=>some (.n (e,wrap .i64 (D+1)))) (λe=>elim e))
def br(G:Zb)(J:Int)(B:Zg)(D:Int)(U:(Zg)->Pi):a_ (Fw ((Zg)×Int) Zg Empty):=bl (decide (D<J)) ((idx G D).bind λu=>W2 B u G J D (len B) 0 U) (some (.x B))
def W1(B:Zg)(D:Zb)(G J:Int)(U:(Zg)->Pi):a_ Zg:=(bY (λq:(Zg)×Int=>br D G q.1 q.2 U) (B,J)).bind (Fw.elim (λe=>some e) (λe=>elim e))
end en
def en(B:Zb)(D:(Zg)->Pi):a_ Zg:=(idx B 0).bind λw=>((ey w).bind Sl.whole).bind λz=>(gu B (some 1) none).bind λu=>en.W1 z u (len u) 0 D
open en in
abbrev Bd(G:FuncId)(e0:aZ V)(U:(Sl Int)->a_ Int)(a:lY Sy cL G [] e0 (λz:Sl Int=>[enc z]) (λr:Int=>[.int .i64 r]) U true)(W:Sl (Sl Int)):Fc Sy cL (en W U):=Fc.N 54 [.clo G [] e0,enc W] (bP 8 λL _=>Om 1 12 g_ L λT _=>Bq 7 true false [.int .i64 1] λu _=>bZ 0 u (fK 6 (λw=>(bL [(0,.v (.clo G [] e0)),Ov 5,Cv 14 u,Iv 15 (len u),Iv 16 w.2] [Lb 2005 w.1])) (λI=>(0,(bL [Ov 5] [Lb 2005 I]))) (λw=>bA 8 17 (bP 7 λO _=>E9 7 2005 w.1 (fK 6 (λC=>(bL [(0,.v (.clo G [] e0)),Ov 5,Cv 7 O,Cv 14 u,Iv 15 (len u),Iv 16 w.2,Iv 21 (len w.1),Iv 22 C.2] [Lb 2005 C.1])) (λJ=>(2,(bL [(0,.v (.clo G [] e0)),Ov 5,Cv 14 u,Iv 15 (len u),Iv 16 w.2] [Lb 2005 J]))) (λC=>bA 8 23 (iE .i64 17 2005 λX _=>pg 0 2005 0 1 false (λB=>.int .i64 B) λB _=>bP 2 λD _=>ZB 1 ([B,D]:aZ Int) (.buildC 1 2 [.int .i64 0] [0,1]) [iv B,iv D] (yX 0 a.f (Sl.row [B,D]:Sl Int) λQ _=>iE .i64 0 2005 λY _=>BQ 0 2005 (.int .i64 Q) λS _=>bh)) bh) (λJ=>bh))) bh) (λI=>bh)))
def pM(B:Zg):Pi:=(dH B).bind λu=>some u
instance XA(B:Zg):Fc Sy cL (pM B):=Fc.M 55 [enc B] (bF 8 λu _=>bh)
namespace dS
def bV(e:ck)(i4:Int)(a:Zg)(b:Int)(B:Zb)(D:Int):a_ (Fw ((Zb)×Int) Zb Empty):=bl (decide (D<b)) ((idx a D).bind λu=>(Sl.jc B u).bind λc=>(Sl.get B c).bind λd=>(Sl.isNil d).bind λw=>bl w (some (.n (B,wrap .i64 (D+1)))) ((Sl.jc B i4).bind λC=>(Sl.get B C).bind λG=>(Sl.isNil G).bind λI=>bl I ((Sl.jc B u).bind λJ=>(Sl.get B J).bind λL=>(Sl.jc B i4).bind λO=>(Sl.put B O (L:Zg)).bind λQ=>some (.n (Q,wrap .i64 (D+1)))) ((Sl.jc B i4).bind λS=>(Sl.get B S).bind λT=>(Sl.jc B u).bind λU=>(Sl.get B U).bind λW=>(en (Sl.row [T,W]:Zb) (λz=>pM z)).bind λX=>(Sl.jc B i4).bind λY=>(Sl.put B Y (X:Zg)).bind λZ=>some (.n (Z,wrap .i64 (D+1)))))) (some (.x B))
def W2(D:ck)(B:Zb)(i4:Int)(G:Zg)(J U:Int):a_ (Fw ((Zb)×Int) Zb Empty):=(bY (λq:(Zb)×Int=>bV D i4 G J q.1 q.2) (B,U)).bind (Fw.elim (λe=>some (.n (e,wrap .i64 (i4-1)))) (λe=>elim e))
def br(D:ck)(B:Zb)(i4:Int):a_ (Fw ((Zb)×Int) Zb Empty):=bl (decide (i4>=0)) ((idx D.truth i4).bind λw=>bl w ((idx D.l i4).bind λz=>(Sl.jc B i4).bind λC=>(Sl.put B C (z:Zg)).bind λG=>some (.n (G,wrap .i64 (i4-1)))) ((dJ D i4 1).bind λu=>W2 D B i4 u (len u) 0)) (some (.x B))
def W1(D:ck)(B:Zb)(i4:Int):a_ Zb:=(bY (λq:(Zb)×Int=>br D q.1 q.2) (B,i4)).bind (Fw.elim (λe=>some e) (λe=>elim e))
end dS
def dS(s0:ck):a_ Zb:=(o_ (len s0.l) (Sl.nil:Zg)).bind λu=>dS.W1 s0 u (wrap .i64 ((len s0.l)-1))
open dS in
instance NB(s0:ck):Fc Sy cL (dS s0):=Fc.N 27 [.fptr (cells s0)] (bZ 11 s0.l (J5 0 12 λa _=>bZ 10 s0.l (fK 7 (λB=>(bL [Kv 0 s0,Ov 3,Iv 4 B.2] [Lb 2003 B.1])) (λJ=>(0,(bL [Ov 3] [Lb 2003 J]))) (λB=>bA 9 20 (bP 13 λb _=>bA 3 29 (bP 10 λc _=>iE .i64 1 2003 λd _=>xL 0 2003 λe _=>bh) (bF 7 λG _=>bZ 0 G (fK 6 (λI=>(bL [Kv 0 s0,Ov 3,Iv 4 B.2,Cv 42 G,Iv 43 (len G),Iv 44 I.2] [Lb 2003 I.1])) (λL=>(2,(bL [Kv 0 s0,Ov 3,Iv 4 B.2] [Lb 2003 L]))) (λI=>bA 8 45 (bP 7 λf _=>iE .i64 9 2003 λg _=>pg 0 2003 0 1 false (λO=>enc O) λO _=>Eb 0 λT _=>bA 3 61 bh (iE .i64 5 2003 λU _=>pg 0 2003 0 1 false (λC=>enc C) λC _=>Eb 0 λW _=>bA 3 67 (iE .i64 6 2003 λX _=>pg 0 2003 0 1 false (λD=>enc D) λD _=>iE .i64 0 2003 λY _=>xL 0 2003 λZ _=>bh) (iE .i64 6 2003 λh _=>pg 0 2003 0 1 false (λu=>enc u) λu _=>iE .i64 2 2003 λi _=>pg 0 2003 0 1 false (λw=>enc w) λw _=>yZ 0 58 ([u,w]:aZ Zg) (MN (F:=Bd 55 [] (λz=>pM z) lY.qS (Sl.row [u,w]:Zb)) 0 [58] λj _=>⟨iE .i64 0 2003 λQ _=>xL 0 2003 λS _=>bh,iE .i64 0 2003 λQ _=>xL 0 2003 λS _=>bh⟩)))) bh) (λL=>bh)))) bh) (λJ=>bh))))
def jW(G:Zg)(J:a_ ck):a_ X':=(Sl.isNil G).bind λu=>(bl u (some false) ((J).bind λw=>(J).bind λz=>(ga G).bind λB=>(idx w.truth (pe (lT z.index) B 0)).bind λC=>some (!C)):a_ X').bind λD=>some D
instance JM(B:Zg)(D:a_ ck):Fc Sy cL (jW B D):=Fc.M 81 [enc B,.fptr (cells D)] (Z5 8 λI _=>yS 1 15 [16] (λu=>(bL [Bv 21 u] [])) (di 1 6 (bE 15) (Jx 1 (λw=>(bL [Cv 0 B,Kv 1 D,Bv 6 true,Cv 7 w] [])) λz _=>Jx 4 (λw=>(bL [Cv 0 B,Bv 6 true,Cv 10 z.truth,Cv 11 w] [])) λC _=>dz 4 λG _=>Zy 0 C.index G 0 (bP 0 λJ _=>bE 3))) λu=>bh)
def od(s0:ck)(B:Zb):a_ X':=(jq B (λz=>jW z (some s0:a_ ck))).bind λu=>some (!u)
instance Ny(s0:ck)(B:Zb):Fc Sy cL (od s0 B):=Fc.M 52 [.fptr (cells s0),enc B] (dz (F:=qB 81 [.fptr (cells (some s0:a_ ck))] (λz=>jW z (some s0:a_ ck)) lY.qS B) 10 λu _=>bh)
def iU(s0:ck)(D:Zb)(B:Int):a_ ((Zg)×Int):=(od s0 D).bind λu=>bl u ((idx D B).bind λw=>(Sl.isNil w).bind λz=>bl z (some (Sl.nil,7)) ((idx D B).bind λC=>((ey C).bind Sl.whole).bind λG=>some (G,0))) (some (Sl.nil,15))
instance NQ(s0:ck)(D:Zb)(B:Int):Fc Sy cL (iU s0 D B):=Fc.N 26 [.fptr (cells s0),enc D,.int .i64 B] (bF 12 λw _=>di 4 8 (bP 5 λz _=>Eb 1 λC _=>bA 3 13 bh (bP 8 λu _=>Om 1 23 g_ u λG _=>bh)) bh)
def lq(D:Z4)(p1:T'):a_ ((Zg)×Int):=(oL D p1).bind λu=>bl (u.2==0) ((u.1).bind λw=>(dS w).bind λB=>(iU w B 0).bind λz=>some (z.1,z.2)) (some (Sl.nil,u.2))
instance XN(B:Z4)(p1:T'):Fc Sy cL (lq B p1):=Fc.N 11 [enc B,enc p1] (cu 2 2 B (cu 0 3 p1 (bF 8 λu _=>di 14 15 (Jx 7 (λw=>(bL [Iv 7 u.2,Bv 15 false,Cv 17 w,Cv 18 w] [Xb 2 B,Xb 3 p1])) λz _=>bF 0 λC _=>bF 0 λD _=>bh) bh)))
def qL(B:Zg):Pi:=(dI B).bind λu=>some u
instance XW(B:Zg):Fc Sy cL (qL B):=Fc.M 56 [enc B] (bF 8 λu _=>bh)
namespace dL
def bV(e:ck)(i4 f g:Int)(a:Zg)(b:Int)(B:Zb)(D:Int):a_ (Fw ((Zb)×Int) Zb Empty):=bl (decide (D<b)) ((idx a D).bind λu=>(Sl.jc B u).bind λc=>(Sl.get B c).bind λd=>(Sl.isNil d).bind λw=>bl w (some (.n (B,wrap .i64 (D+1)))) ((Sl.jc B i4).bind λC=>(Sl.get B C).bind λG=>(Sl.isNil G).bind λI=>bl I ((Sl.jc B u).bind λJ=>(Sl.get B J).bind λL=>(Sl.jc B i4).bind λO=>(Sl.put B O (L:Zg)).bind λQ=>some (.n (Q,wrap .i64 (D+1)))) ((Sl.jc B i4).bind λS=>(Sl.get B S).bind λT=>(Sl.jc B u).bind λU=>(Sl.get B U).bind λW=>(en (Sl.row [T,W]:Zb) (λz=>qL z)).bind λX=>(Sl.jc B i4).bind λY=>(Sl.put B Y (X:Zg)).bind λZ=>some (.n (Z,wrap .i64 (D+1)))))) (some (.x B))
def W2(G:ck)(B:Zb)(i4 J D:Int)(U:Zg)(W Y:Int):a_ (Fw ((Zb)×Int) Zb Empty):=(bY (λq:(Zb)×Int=>bV G i4 J D U W q.1 q.2) (B,Y)).bind (Fw.elim (λe=>some (.n (e,wrap .i64 (D+1)))) (λe=>elim e))
def br(G:ck)(J:Int)(D:Zb)(B:Int):a_ (Fw ((Zb)×Int) Zb Empty):=bl (decide (B<J)) ((idx G.truth B).bind λw=>bl w ((idx G.l B).bind λz=>(Sl.jc D B).bind λC=>(Sl.put D C (z:Zg)).bind λI=>some (.n (I,wrap .i64 (B+1)))) ((dJ G B (-1)).bind λu=>W2 G D B J B u (len u) 0)) (some (.x D))
def W1(D:ck)(B:Zb)(G J:Int):a_ Zb:=(bY (λq:(Zb)×Int=>br D G q.1 q.2) (B,J)).bind (Fw.elim (λe=>some e) (λe=>elim e))
end dL
def dL(s0:ck):a_ Zb:=(o_ (len s0.l) (Sl.nil:Zg)).bind λu=>dL.W1 s0 u (len s0.l) 0
open dL in
instance Mg(s0:ck):Fc Sy cL (dL s0):=Fc.N 28 [.fptr (cells s0)] (bZ 11 s0.l (J5 0 12 λa _=>bZ 10 s0.l (fK 6 (λB=>(bL [Kv 0 s0,Ov 3,Iv 17 (len s0.l),Iv 18 B.2] [Lb 2003 B.1])) (λJ=>(0,(bL [Ov 3] [Lb 2003 J]))) (λB=>bA 8 19 (bP 19 λb _=>bA 3 27 (bP 10 λc _=>iE .i64 1 2003 λd _=>xL 0 2003 λe _=>bh) (bF 7 λG _=>bZ 0 G (fK 6 (λI=>(bL [Kv 0 s0,Ov 3,Iv 4 B.2,Iv 17 (len s0.l),Iv 18 B.2,Cv 40 G,Iv 41 (len G),Iv 42 I.2] [Lb 2003 I.1])) (λL=>(2,(bL [Kv 0 s0,Ov 3,Iv 17 (len s0.l),Iv 18 B.2] [Lb 2003 L]))) (λI=>bA 8 43 (bP 7 λf _=>iE .i64 9 2003 λg _=>pg 0 2003 0 1 false (λO=>enc O) λO _=>Eb 0 λT _=>bA 3 59 bh (iE .i64 5 2003 λU _=>pg 0 2003 0 1 false (λC=>enc C) λC _=>Eb 0 λW _=>bA 3 65 (iE .i64 6 2003 λX _=>pg 0 2003 0 1 false (λD=>enc D) λD _=>iE .i64 0 2003 λY _=>xL 0 2003 λZ _=>bh) (iE .i64 6 2003 λh _=>pg 0 2003 0 1 false (λu=>enc u) λu _=>iE .i64 2 2003 λi _=>pg 0 2003 0 1 false (λw=>enc w) λw _=>yZ 0 56 ([u,w]:aZ Zg) (MN (F:=Bd 56 [] (λz=>qL z) lY.qS (Sl.row [u,w]:Zb)) 0 [56] λj _=>⟨iE .i64 0 2003 λQ _=>xL 0 2003 λS _=>bh,iE .i64 0 2003 λQ _=>xL 0 2003 λS _=>bh⟩)))) bh) (λL=>bh)))) bh) (λJ=>bh))))
def iV(D:Z4)(p1:T'):a_ ((Zg)×Int):=(oL D p1).bind λu=>bl (u.2==0) ((u.1).bind λw=>(dL w).bind λB=>(iU w B (wrap .i64 ((len w.l)-1))).bind λz=>some (z.1,z.2)) (some (Sl.nil,u.2))
instance R6(B:Z4)(p1:T'):Fc Sy cL (iV B p1):=Fc.N 12 [enc B,enc p1] (cu 2 2 B (cu 0 3 p1 (bF 8 λu _=>di 14 15 (Jx 7 (λw=>(bL [Cv 6 w,Iv 7 u.2,Bv 15 false,Cv 17 w,Cv 18 w] [Xb 2 B,Xb 3 p1])) λz _=>bF 0 λC _=>bZ 4 z.l (bF 1 λD _=>bh)) bh)))
namespace dn
def br(G:Sl T')(J:Int)(U:Z4)(B:Int)(D:T'):a_ (Fw (Int×T') Pred Unit):=bl (decide (B<J)) ((idx G B).bind λu=>(tc u 100 0).bind λw=>bl w.1 ((eN U B u).bind λz=>bl (z.2==0) (bl (decide (B>0)) (some (.n (wrap .i64 (B+1),(⟨16,0,0,0,ByteArray.empty,Sl.row [D,u]⟩:T')))) (some (.n (wrap .i64 (B+1),D)))) (some (.r ()))) (some (.r ()))) (some (.x D))
def W1(U:Sl T')(W Y:Int)(B:Z4)(a:T'):a_ X':=(bY (λq:Int×T'=>br U W B q.1 q.2) (Y,a)).bind (Fw.elim (λe=>(uO B e).bind λO=>(bl O ((nF e).bind λw=>some (decide (w>100))) (some true):a_ X').bind λz=>(bl z (some true) ((jl e 40).bind λC=>some (decide (C>20))):a_ X').bind λD=>bl D (some true) ((lq B e).bind λu=>(iV B e).bind λG=>(bl (u.2==G.2) ((bl (u.2==0) (some true) (some (u.2==7)):a_ X').bind λI=>(bl I (some true) (some (u.2==16)):a_ X').bind λJ=>some J) (some false):a_ X').bind λL=>some L)) (λe=>some true))
end dn
def dn(D:Z4)(B:Sl T'):a_ X':=(yb).bind λu=>bl u ((ru D).bind λw=>(bl w (some (decide ((len B)>(len D.procs)))) (some true):a_ X').bind λz=>(bl z (some true) (some ((len B)==0)):a_ X').bind λC=>bl C (some true) ((idx B 0).bind λG=>dn.W1 B (len B) 0 D G)) (some false)
open dn in
instance wM(D:Z4)(B:Sl T'):Fc Sy cL (dn D B):=Fc.M 3 [enc D,enc B] (cu 2 2 D (bF 6 λX _=>di 3 16 (bF 7 λY _=>cg 2 7 [20] 27 (di 2 20 (bZ 1 B (bZ 2 D.procs (bE 2))) (bE 7)) λZ=>cg 1 4 [28] 32 (bA 1 28 (bE 4) (bZ 1 B (bE 2))) λa=>bA 2 32 bh (bP 6 λG _=>oh 2 5 0 G (bZ 6 B (eE 5 (λu=>(bL [Pv 2,Pv 5,Cv 36 B,Iv 37 (len B),Iv 38 u.1] [Xb 2 D,Xb 5 u.2])) (λC=>(0,(bL [Pv 2,Pv 5] [Xb 2 D,Xb 5 C]))) (λC=>(bL [Bv 4 true] [])) (λu=>bA 7 39 (bP 8 λw _=>oh 3 7 0 w (rN 13 (Bi w 100 0) λb _=>di 3 45 (bF 9 λc _=>di 13 54 (bA 9 56 (yZ 4 59 ([u.2,w]:aZ T') (Y3 1 (⟨16,0,0,0,ByteArray.empty,Sl.row [u.2,w]⟩:T') [.int .i64 16,enc (Sl.row [u.2,w]:Sl T')] [.int .i64 0,.int .i64 0,.int .i64 0,.int .i64 0,.str ByteArray.empty,.bM] [(0,1),(5,1)] (by have e0:cells (Sl.row [u.2,w]:Sl T')=[Pred.Fp (Sl.row [u.2,w]:Sl T')]:=congrArg (λz=>[z]) (Pred.lX (Sl.row [u.2,w]:Sl T')).symm;simp only[E7,HW,kJ,FE,C3,Fz,EG,e0];rfl) rfl (oh 0 5 0 (⟨16,0,0,0,ByteArray.empty,Sl.row [u.2,w]⟩:T') bh))) bh) bh) bh)) bh) (λC=>bF 7 λd _=>cg 2 4 [66] 70 (di 2 66 (bF 1 λI _=>bE 2) (bE 4)) λJ=>cg 1 4 [71] 75 (bA 1 71 (bE 4) (bF 1 λL _=>bE 2)) λO=>bA 2 75 bh (bF 7 λQ _=>bF 11 λS _=>cg 13 11 [12,91] 102 (bA 13 91 (cg 3 3 [94] 97 (bA 3 94 (bE 3) (bE 3)) λT=>cg 1 3 [12,98] 101 (bA 1 98 (bE 3) (bE 3)) λU=>bE 1) (bE 11)) λW=>bh)) (λC=>bh))))) bh))
end
end Go.VE
