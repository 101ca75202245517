/- Functions. -/
import Derived.Test.YtjlclfccbcbibaaGreatDoorK1
import Derived.Test.YtjlclfccbcbibaaGreatDoorT1
set_option linter.all false
noncomputable section
open List(all_cons all_nil cons_append map_cons)
open Go.IntKind(signed wrap)
open Nat(beq)
open Empty(elim)
open ByteArray(toList)
namespace Go.VE
theorem Zae{p:Prop}(h:p:=by kernel_rfl):p:=h
structure Pred where
 kind:Int
 n:Int
 proc:Int
 peer:Int
 name:ByteArray
 l:Sl Pred
abbrev UV:=Pred
mutual
def Pred.Uw:UV->S'
 |⟨f0,f1,B,D,G,f5⟩=>[.int .i64 f0,.int .i64 f1,.int .i64 B,.int .i64 D,.str G,Pred.Er f5]
def Pred.Er:Sl UV->V
 |.nil=>.bG|.emp=>.dH|.row l=>.fsl 6 (Pred.DZ l)|.part l=>.fsl 6 (Pred.DZ l)
def Pred.DZ:aX UV->T2
 |[]=>[]|x::r=>Pred.Uw x::Pred.DZ r
end
instance:Inhabited UV:=⟨⟨default,default,default,default,default,Sl.nil⟩⟩
mutual
theorem Pred.Vz:∀x:UV,V.cQ x.Uw=true
 |⟨f0,f1,B,D,G,f5⟩=>by simp only[Pred.Uw,V.cQ,V.good,Pred.KP,Bool.and_self]
theorem Pred.KP:∀x:Sl UV,V.good (Pred.Er x)=true
 |.nil=>rfl|.emp=>rfl|.row l=>by simp only[Pred.Er,V.good,Pred.Dj]|.part l=>by simp only[Pred.Er,V.good,Pred.Dj]
theorem Pred.Dj:∀x:aX UV,V.nR (Pred.DZ x)=true
 |[]=>rfl|x::r=>by simp only[Pred.DZ,V.nR,Pred.Vz,Pred.Dj,Bool.and_self]
end
theorem Pred.Vk(s:Sl UV):V.one (Pred.Er s)=true:=by cases s<;>simp[Pred.Er,V.one]
instance:bt UV where
 cells x:=[.int .i64 x.kind,.int .i64 x.n,.int .i64 x.proc,.int .i64 x.peer,.str x.name,Pred.Er x.l]
 agg:=true
 size:=6
 len _:=rfl
 good x:=by simp only[V.cQ,V.good,Pred.KP,Bool.and_self]
 one x:=by simp only[all_cons,all_nil,nr,mh,nC,Pred.Vk,Bool.and_self]
 plain h:=by cases h
theorem Pred.QN(x:UV):Pred.Uw x=cells x:=by cases x;rfl
theorem Pred.C6:∀l:aX UV,Pred.DZ l=rows l
 |[]=>rfl|x::r=>by rw[Pred.DZ,Pred.C6 r,Pred.QN];rfl
theorem Pred.lE(s:Sl UV):Pred.Er s=enc s:=by cases s with|nil=>rfl|emp=>rfl|row l=>show V.fsl 6 (Pred.DZ l)=V.fsl 6 (rows l);rw[Pred.C6]|part l=>show V.fsl 6 (Pred.DZ l)=V.fsl 6 (rows l);rw[Pred.C6]
structure Var where
 name:ByteArray
 init_:Int
 deriving Inhabited
instance:bt Var where
 cells x:=[.str x.name,.int .i64 x.init_]
 agg:=true
 size:=2
 len _:=rfl
 good x:=by simp only[V.cQ,V.good,jM,Bool.and_self]
 one x:=by simp only[all_cons,all_nil,nr,mh,nC,mX,Bool.and_self]
 plain h:=by cases h
structure Assign where
 var:Int
 value:Int
 deriving Inhabited
instance:bt Assign where
 cells x:=[.int .i64 x.var,.int .i64 x.value]
 agg:=true
 size:=2
 len _:=rfl
 good x:=by simp only[V.cQ,V.good,jM,Bool.and_self]
 one x:=by simp only[all_cons,all_nil,nr,mh,nC,mX,Bool.and_self]
 plain h:=by cases h
structure Event where
 kind:Int
 peer:Int
 message:Int
 time:Int
 assign:Sl Assign
 deriving Inhabited
abbrev W5:=Event
instance:bt W5 where
 cells x:=[.int .i64 x.kind,.int .i64 x.peer,.int .i64 x.message,.int .i64 x.time,enc x.assign]
 agg:=true
 size:=5
 len _:=rfl
 good x:=by simp only[V.cQ,V.good,jM,Bool.and_self]
 one x:=by simp only[all_cons,all_nil,nr,mh,nC,mX,Bool.and_self]
 plain h:=by cases h
structure bP where
 name:ByteArray
 vars:Sl Var
 events:Sl Event
 deriving Inhabited
instance:bt bP where
 cells x:=[.str x.name,enc x.vars,enc x.events]
 agg:=true
 size:=3
 len _:=rfl
 good x:=by simp only[V.cQ,V.good,jM,Bool.and_self]
 one x:=by simp only[all_cons,all_nil,nr,mh,nC,mX,Bool.and_self]
 plain h:=by cases h
structure Trace where
 procs:Sl bP
 deriving Inhabited
abbrev Z4:=Trace
instance:bt Z4 where
 cells x:=[enc x.procs]
 agg:=true
 size:=1
 len _:=rfl
 good x:=by simp only[V.cQ,V.good,jM,Bool.and_self]
 one x:=by simp only[all_cons,all_nil,nr,mh,nC,mX,Bool.and_self]
 plain h:=by cases h
structure bq where
 from_:a_
 to_:a_
 deriving Inhabited
instance:bt bq where
 cells x:=[.int .i64 x.from_.proc,.int .i64 x.from_.index,.int .i64 x.to_.proc,.int .i64 x.to_.index]
 agg:=true
 size:=4
 len _:=rfl
 good x:=by simp only[V.cQ,V.good,jM,Bool.and_self]
 one x:=by simp only[all_cons,all_nil,nr,mh,nC,mX,Bool.and_self]
 plain h:=by cases h
structure bJ where
 low:Int
 high:Int
 deriving Inhabited
instance:bt bJ where
 cells x:=[.int .i64 x.low,.int .i64 x.high]
 agg:=true
 size:=2
 len _:=rfl
 good x:=by simp only[V.cQ,V.good,jM,Bool.and_self]
 one x:=by simp only[all_cons,all_nil,nr,mh,nC,mX,Bool.and_self]
 plain h:=by cases h
structure cu where
 lengths:Sl Int
 need:Sl (Sl a_)
 deriving Inhabited
instance:bt cu where
 cells x:=[enc x.lengths,enc x.need]
 agg:=true
 size:=2
 len _:=rfl
 good x:=by simp only[V.cQ,V.good,jM,Bool.and_self]
 one x:=by simp only[all_cons,all_nil,nr,mh,nC,mX,Bool.and_self]
 plain h:=by cases h
structure bp where
 t:Trace
 l:Sl (Sl Int)
 next:Sl (Sl Int)
 deriving Inhabited
instance:bt bp where
 cells x:=[enc x.t.procs,enc x.l,enc x.next]
 agg:=true
 size:=3
 len _:=rfl
 good x:=by simp only[V.cQ,V.good,jM,Bool.and_self]
 one x:=by simp only[all_cons,all_nil,nr,mh,nC,mX,Bool.and_self]
 plain h:=by cases h
structure bA where
 t:Trace
 counts:Sl Int
 values:Sl (Sl Int)
 deriving Inhabited
instance:bt bA where
 cells x:=[enc x.t.procs,enc x.counts,enc x.values]
 agg:=true
 size:=3
 len _:=rfl
 good x:=by simp only[V.cQ,V.good,jM,Bool.and_self]
 one x:=by simp only[all_cons,all_nil,nr,mh,nC,mX,Bool.and_self]
 plain h:=by cases h
structure cV where
 t:Trace
 needs:Sl (Sl a_)
 deriving Inhabited
instance:bt cV where
 cells x:=[enc x.t.procs,enc x.needs]
 agg:=true
 size:=2
 len _:=rfl
 good x:=by simp only[V.cQ,V.good,jM,Bool.and_self]
 one x:=by simp only[all_cons,all_nil,nr,mh,nC,mX,Bool.and_self]
 plain h:=by cases h
def lu(p:Int):Int->aX W5->aX (a_×W5)
 |_,[]=>[]|j,e::r=>(⟨p,j+1⟩,e)::lu p (j+1) r
def gT:Int->aX bP->aX (a_×W5)
 |_,[]=>[]|i,p::r=>lu i 0 p.events.l++gT (i+1) r
def pn(n:Nat):X':=decide (n<9223372036854775807)
def jA(t:Z4):aY (aX (a_×W5)):=if pn t.procs.l.length&&t.procs.l.all λp=>pn p.events.l.length then some (gT 0 t.procs.l)else none
def wY:bU 22 Int:=⟨Go.Proofs.YtjlclfccbcbibaaGreatDoor.D7,rfl⟩
end Go.VE
namespace Go.VE
def TL:Nat->Nat->Nat->So
 |0,_,_=>[]|f+1,i,m=>bif m % 2==1 then i::TL f (i+1) (m / 2)else TL f (i+1) (m / 2)
def gK(g m:Nat)(l:So:=[]):Gh:=.keep (TL 128 0 g) (TL 128 0 m++l)
def g2(n g m:Nat)(l:So:=[]):Nat×QQ×QQ:=(n,[gK g m l],[gK g m l])
def g1(n g m:Nat)(l:So:=[]):Nat×QQ×QQ:=(n,[gK g m l],[])
def G2(n:Nat)(x:QQ):Nat×QQ×QQ:=(n,x,x)
def G1(n:Nat)(x:QQ):Nat×QQ×QQ:=(n,x,[])
def cS(i n:Nat):Gh:=.canon (.s i) (2000+i) n
def cC(i j n:Nat):Gh:=.canon (.c i j) (4000+20*i+j) n
def e0(n m:Nat):Nat×GD:=(n,⟨m,[],[]⟩)
def e1(n m:Nat)(l:aX (Nat×QQ×QQ)):Nat×GD:=(n,⟨m,[],l⟩)
def NY:aX (Nat×GD):=[ e1 37 0x22226260002000201 [g2 6 387 0,g1 12 0 0,g1 22 16 0,g1 27 16 0],e0 14 0x226221,e1 38 0x22226260002000201 [g2 6 387 0,g1 12 0 0,g1 22 16 0,g1 27 16 0],e0 16 0x226221,e0 17 0x2222212,e0 15 0x264442644402222012,e1 5 0x26444264440264422022262222202000020012 [g2 8 906 2,g1 14 10 2],e1 18 0x222000ff2026020064026220000202202 [g1 10 30 16 [9001,9002],g2 13 94 16 [9001,9002],g1 19 0 0 [9001,9002]],(6,⟨0x2227222000012,[(5,[.canon (.s 3) 9001 0,.canon (.s 4) 9002 0])],[]⟩),e0 80 0x26c4426201,e0 141 0x26c4444026402201,e0 142 0x26442201,e1 114 0x22064c402644c00222600200020064440264402201 [g1 8 4 0,g2 14 786433 0,g1 20 0 0,g1 30 4 0,g1 35 4 0],e0 115 0x26222212,e0 117 0x26222212,e1 137 0x22226260002000201 [g2 6 387 0,g1 12 0 0,g1 22 16 0,g1 27 16 0],e0 116 0x226221,e1 81 0x222222022222026c0c4402222022020000020022220026c0c44422220202602012 [g1 11 16 0,g1 17 16 0,g2 23 30064771104 32,g1 29 32 32,g1 40 16 0,g1 46 16 0,g1 55 16 0,g1 59 16 0],e0 82 0x2212,e1 119 0x2644426c4402622222022202644422202020122 [g1 18 524330 40],e0 121 0x26222212,e1 143 0x22226260002000201 [g2 6 387 0,g1 12 0 0,g1 22 16 0,g1 27 16 0],e0 120 0x226221,e1 83 0x2202626220026444022622202022020000020022220026c44022220022e02222226220202200202620201222 [g1 12 440 184,g1 19 64 0,g1 25 64 0,g1 31 64 0,g2 37 31525197391593632 160,g1 43 0 0,g1 54 64 0,g1 60 64 0,g1 65 64 0],e0 144 0x26c44426c440222012,e0 122 0x2662262221222,e1 84 0x2202326222002202001ef200220022022226200223262220022022226200202022020202020200002 [(8,[gK 4158 1086],[gK 0 1086]),g1 27 0 1086,g1 39 0 1086,g1 47 0 1086,g1 53 28 1052],e1 123 0x222622262222264444c4400222020262222262622020262020222620220122 [G1 12 [cS 7 2,gK 418 32 [2007]]],e1 85 0x20222622230026000226002020000e200262220202622002202202020200022 [(6,[gK 8252 60],[gK 0 60]),G2 14 [cS 8 2,gK 8700 65660 [2008]],g1 20 8252 60,G2 29 [cS 8 2,gK 481036345852 65660 [2008]],G1 35 [cS 8 2,gK 8700 65660 [2008]],g1 46 0 60,g1 58 48 48],e1 52 0x20022222020262222222022202002202222202e2002020202222222202600200022002022220002 [g1 8 12 12,g2 14 12582926 14,g1 20 14 14,g1 32 12 12,(39,[gK 68719476750 14],[gK 0 14]),g1 51 0 14,g1 61 12 12,g1 71 12 12,g1 75 12 12],e0 27 0x2222302022212,e0 124 0x264426402201,e0 88 0x26c4444c4404440222006c4404440264402644026c444044026440222012,e0 90 0x22e222212,e0 89 0x226221,e1 125 0x22226260002000201 [G2 6 [.drop [2,3,4,5,6,9,10,11,12,13,14,15,16,17,18]],G1 12 [.drop [0,1,2,3,4,5,6,7,8,9,10,11,12,13,14,15,16,17,18]],G1 22 [.drop [0,1,2,3,5,6,7,8,9,10,11,12,13,14,15,16,17,18]],G1 27 [.drop [0,1,2,3,5,6,7,8,9,10,11,12,13,14,15,16,17,18]]],(87,⟨0x226622064402640222220122,[(20,[.closeB 5])],[]⟩),(61,⟨0x26222200012,[(5,[.canon (.s 3) 9004 0,.canon (.s 4) 9003 0])],[]⟩),e0 92 0x26c444422012,e0 126 0x2622212,e0 93 0x262226222122,e0 91 0x2644426c404026c40426200222644426440262022026001cf444042644026200202012,e0 112 0x2262212,(75,⟨0x264c4442600122,[(10,[.closeB 3])],[]⟩),e0 62 0x2622122,e0 73 0x221,e0 96 0x221,e0 95 0x2622222212,(94,⟨0x22622012,[(5,[.closeB 1])],[]⟩),e0 63 0x22212,e1 147 0x222222626002620002220012201 [g1 8 1 0,g2 14 25 0,g1 20 8 0],e1 148 0x222222626002620002220012201 [g1 8 1 0,g2 14 25 0,g1 20 8 0],e0 129 0x2622200,e1 145 0x22222226c04422202020000226222012 [g2 8 229508 0,g1 14 128 0],e0 175 0x2622212,e0 163 0x26222122,e0 158 0x220020262262220026c4400220002220112,e1 49 0x26200201 [G1 8 [.canon (.s 2) 4004 1],G1 12 [.canon (.s 2) 4004 1]],(156,⟨0x222e202202236222002020000222202000002226200222622222020000200,[(21,[.closeS (.s 25)]),(57,[.closeS (.s 54)])],[G2 6 [cS 3 1,gK 14347 0 [2003]],G1 12 [cS 3 1,gK 11 0 [2003]],g1 23 0 0,G2 28 [cS 3 1,gK 3758096393 0 [2003]],g1 34 0 0,G2 43 [cS 3 1,gK 965830770761 0 [2003]],G1 49 [cS 3 1,gK 3758096457 0 [2003]],g1 59 0 0]⟩),e0 136 0x2212,e1 159 0x22262260202220122 [(8,[cC 5 0 1,gK 552 40 [4100]],[cC 5 0 1,gK 0 40 [4100]])],e0 146 0x2222202622622220022022202e2001112,e0 127 0x26223222002e2220222e2220222222226222220222222020022,e0 128 0x26444222012,e0 149 0x262201,e0 130 0x22222622220622020260006402201,e1 97 0x22222022001ef622226202062020620202662222620202226622226202020262222202022002064422222202622202222002002202026222002222202062222201022 [g1 22 1944 664,g1 49 2064 2064],e0 98 0x2262212,(64,⟨0x226222222302026222220122,[(21,[.closeB 2])],[]⟩),e0 30 0x22622022200226000264402220122,e0 39 0x2222002220002220112,e0 19 0x644222222022222202602122,e0 20 0x26442201,e1 140 0x200226c0442602020202202022000222 [g1 8 192 192,(14,[gK 33008 240],[gK 0 240]),g1 24 0 240,g1 28 192 192],e0 111 0x2220622102,(133,⟨0x2222306222030622222022262222302622022002020000200202000020002,[(53,[.closeS (.s 49)]),(59,[.closeS (.c 3 0),.closeS (.c 3 1)])],[G2 8 [cC 3 0 1,cC 3 1 1,gK 14350 14 [4060,4061]],G1 14 [cC 3 0 1,cC 3 1 1,gK 12 12 [4060,4061]],G2 25 [cS 6 2,cC 3 0 1,cC 3 1 1,gK 1849454 46 [2006,4060,4061]],G1 31 [cS 6 2,cC 3 0 1,cC 3 1 1,gK 14446 46 [2006,4060,4061]],G1 44 [cS 6 2,cC 3 0 1,cC 3 1 1,gK 1849966 558 [2006,4060,4061]]]⟩),e0 150 0x26262222020262620260220626020260012,e0 174 0x26201,e0 162 0x62206000200222202201,e1 153 0x62222222220262222620062002220000001 [g2 6 3587 0,g1 12 3 0,g1 23 16 0,g1 34 16 0,g1 43 16 0,g1 47 16 0],e0 152 0x26221,e1 54 0x2206262026002000200620201 [g1 8 16 0,g2 14 12291 0,g1 20 0 0,g1 30 16 0,g1 35 16 0],e0 155 0x26221,(134,⟨0x222302222262223622020220e0002000202200002012,[(32,[.closeS (.s 34)])],[G2 8 [cS 5 1,gK 7204 4 [2005]],G1 14 [cS 5 1,gK 32 0 [2005]],G2 22 [cS 5 1,gK 400548 4 [2005]],G1 28 [cS 5 1,gK 7204 4 [2005]]]⟩),(106,⟨0x2226202620200202620222000222222202000220112,[(16,[.closeS (.s 16)])],[G1 8 [cS 2 1,gK 12 0 [2002]],G2 20 [.closeS (.s 5),cS 6 1,gK 240 16 [2006]],G1 26 [cS 6 1,gK 64 0 [2006]],G1 37 [cS 2 1,gK 12 0 [2002]],G1 43 [cS 2 1,gK 12 0 [2002]]]⟩),e0 67 0x222222220222112,e0 40 0x222022112,e1 41 0x2222236222022200000222201 [G2 8 [cS 3 1,gK 3592 0 [2003]],G1 14 [cS 3 1,gK 8 0 [2003]]],e0 131 0x26222221,e1 68 0x22226260002000201 [g2 6 387 0,g1 12 0 0,g1 22 16 0,g1 27 16 0],e0 103 0x226221,e0 99 0x264c4422012,e1 100 0x2206c444c440422022200000212 [g2 6 900 4,g1 12 0 0,g1 22 16 0,g1 27 16 0],e0 101 0x26c444422012,e1 132 0x2200222202262222626200203202026220220220200000622260202220000001002 [g2 6 57398 52,g1 12 48 48,g2 20 939581622 52,g1 26 57398 52,g1 44 112 48,g1 50 112 48],e0 102 0x22223300200262212,e1 65 0x2202620220000222026202200002220262022000000260012 [g1 8 64 0,g2 14 917518 8,g1 20 14 8,g1 30 64 0,g2 37 1879048202 8,g1 43 10 8,g1 53 64 0,g2 60 3848290697224 8,g1 66 0 0,g1 76 64 0,g1 81 64 0],e0 74 0x262622220320202622202202026262022602012,e0 42 0x2236220202220022e002002622260202600202202e20200112,(21,⟨0x22223226222220022262622022222202e2002000200220000222600227222022200000020202202220220112,[(79,[.closeS (.s 74)])],[g2 18 234881106 16777218,g1 24 82 16777218,G2 37 [cC 40 2 1,gK 15393162789442 1099528404994 [4802]],G1 43 [cC 40 2 1,gK 512 1099511627776 [4802]],G2 54 [cS 12 1,cC 40 2 1,gK 859818092927554 1099528404994 [2012,4802]],G1 60 [cS 12 1,cC 40 2 1,gK 15393162793538 1099528404994 [2012,4802]]]⟩),e0 77 0x26442201,e0 76 0x2222212,e0 43 0x2644422012,e0 71 0x6c44222222022212,e1 31 0x222226262222022200000202022026202112 [G2 18 [cS 7 2,gK 917632 0 [2007]],G1 24 [cS 7 2,gK 128 0 [2007]]],e1 108 0x226022222022 [(6,[gK 280 24],[gK 0 24]),g1 16 0 24,g1 20 16 16],e1 70 0x22222626226220222200000202022023202600112 [G2 18 [cS 8 1,gK 7340292 4 [2008]],G1 24 [cS 8 1,gK 256 0 [2008]]],e0 138 0x26222212,e0 109 0x226226222226022620220122,e0 157 0x2220622102,e1 139 0x22222622226c4c4404022222020262006c04022202020000626202260200202202e600200112 [G2 18 [cS 11 1,gK 481036339226 16 [2011]],G1 24 [cS 11 1,gK 2048 0 [2011]]],e0 110 0x22232202001ef22202220122,e0 72 0x266222226222002662222262220022266222226222002022622222202622202262222202622202222020122,e1 34 0x26c44444262220026c44444262220022226222222022222020266222226222002026622222622200202662222262220020266222226222002020122 [g1 36 147573952589676413004 12],e1 78 0x22222226260e22022002202220260022000000200220222022000020200220220200220260011122 [G1 10 [cS 5 1,gK 112 0 [2005]],G1 20 [cS 5 1,gK 112 0 [2005]],G1 28 [cS 5 1,gK 112 0 [2005]],G1 38 [cS 5 1,gK 112 0 [2005]],G2 46 [cS 11 1,gK 962072676876 12 [2011]],G1 52 [cS 11 1,gK 2560 0 [2011]],G1 65 [cS 5 1,gK 112 0 [2005]],G1 71 [cS 5 1,gK 112 0 [2005]]],e1 44 0x222222320026221122 [G1 6 [.canon (.s 4) 4004 1]],e1 23 0x222236222022200000222201 [G2 8 [cS 3 1,gK 3592 0 [2003]],G1 14 [cS 3 1,gK 8 0 [2003]],G1 23 [.canon (.s 2) 4004 1]],e1 113 0x22226260002000201 [g2 6 387 0,g1 12 0 0,g1 22 16 0,g1 27 16 0],e0 79 0x226221,e0 47 0x2221,e0 48 0x2644422201,e0 46 0x26c4444402262226c4444402262222264422622202644226222021,(45,⟨0x2222236e2000022262262022200002602220020222222022222201,[(46,[.closeS (.s 50)])],[G2 8 [cS 5 1,gK 99 0 [2005]],G1 14 [cS 5 1,gK 32 0 [2005]],G2 23 [cS 5 1,cS 7 1,gK 30064771299 0 [2005,2007]],G1 29 [cS 5 1,cS 7 1,gK 227 0 [2005,2007]],G1 40 [.canon (.s 4) 4004 1]]⟩),(24,⟨0x2662122,[(5,[.closeB 4,.closeB 5])],[G1 4 [.canon (.s 6) 4004 1]]⟩),(22,⟨0x2e22222222366422620003664226200022022200000622202222022220202622200223220262222222012,[(30,[.closeS (.s 33)]),(83,[.closeS (.s 78)])],[G1 10 [.canon (.s 4) 4004 1],G1 23 [.canon (.s 4) 4004 1],G1 30 [cS 7 1,gK 34359738505 8 [2007]],G2 35 [cS 7 1,cS 43 1,gK 61572651155592 8 [2007,2043]],G1 41 [cS 7 1,gK 128 0 [2007]],G1 54 [.canon (.s 4) 4004 1],G1 58 [.canon (.s 4) 4004 1]]⟩),e0 51 0x264c44221,e1 50 0x22226260002000201 [g2 6 387 0,g1 12 0 0,g1 22 16 0,g1 27 16 0],(25,⟨0x2226222602220226c4c00402022622622220260260222022260222022222222020644020012,[(18,[.closeS (.s 25)]),(70,[.closeS (.s 73)])],[G2 10 [cS 11 1,gK 3629 1056 [2011]],G1 16 [cS 11 1,gK 2048 0 [2011]]]⟩),(7,⟨0x2001ef22220022202e0200002226444222026440222026222002022022202220022202022026001122,[(56,[.closeS (.s 53)]),(76,[.closeS (.s 65),.closeS (.s 66)])],[G1 40 [cS 9 1,gK 1664 0 [2009]],G1 48 [cS 9 1,gK 3712 0 [2009]]]⟩),e0 26 0x26222022022202222022026001122,e0 8 0x222220220222026221122,e0 86 0x26c4444222012,e0 53 0x22226202226022620221022,(28,⟨0x2222322622222002226222230262022002020000220202000020222012,[(49,[.closeS (.s 46)])],[G2 8 [cC 12 1 1,gK 114698 4098 [4241]],G1 14 [cC 12 1 1,gK 8 4096 [4241]],G2 25 [cS 6 2,cC 12 1 1,gK 14794826 4098 [2006,4241]],G1 31 [cS 6 2,cC 12 1 1,gK 114762 4098 [2006,4241]],G1 44 [cS 6 2,cC 12 1 1,gK 14795338 4610 [2006,4241]]]⟩),e1 55 0x22222221 [G1 4 [.canon (.s 2) 4004 1]],e1 56 0x22223622202220000022222201 [G2 8 [cS 3 1,gK 14344 0 [2003]],G1 14 [cS 3 1,gK 8 0 [2003]]],e1 57 0x2222362002000202221 [G2 8 [cS 3 1,gK 776 0 [2003]],G1 14 [cS 3 1,gK 8 0 [2003]]],e0 59 0x26c4c44440222020262620260222206c44c044404c0026c4002201,e0 60 0x2236220202221,e0 58 0x26cc44c4442e0260021,e1 29 0x2222262220020260018f22222022002000002000064c404c4400264c4044022201122 [G1 8 [cS 4 1,gK 48 0 [2004]],G2 16 [cS 6 1,gK 240518168652 12 [2006]],G1 22 [cS 6 1,gK 64 0 [2006]],G1 35 [cS 4 1,gK 48 0 [2004]],G1 41 [cS 4 1,gK 48 0 [2004]]],e0 9 0x22232026222022012,e0 105 0x22622212,e0 104 0x226221,e0 66 0x622022012,e0 69 0x26221,e0 32 0x262220220222022220220262001122,e1 10 0x22622202202220262220220222026202022022126002022006c4404022026001122 [g1 10 298 40],e1 33 0x222e222064422026202220202220260022202006c4404022026001022 [g1 10 1370 336,g1 36 3346 272],e0 11 0x262220220220202e0221122,(3,⟨0x2622222222262222022220222222206c4022222202e02002222202e00022000000064c0022226444222222664022022644264442622202220262022202600206200222220640220020122,[(21,[.closeS (.s 35)])],[g1 8 64 0,g1 16 64 0,g1 32 64 0,g1 42 64 0,g1 50 64 0,g2 58 2166395068749415481073484456 40,g1 64 17024 0,g1 77 64 0,g1 87 64 0,g1 104 64 0,g1 110 64 0,g1 116 64 0,g1 120 64 0]⟩)]
namespace trace_events_c1
def CW:R':=[o1 20 (.s 18) [],o2 21 (ix 5) [.s 16,.s 18] [],o2 22 (lD 5) [.s 21] [21],o2 6 (.a (.alloc 5 [.int .i64 0,.int .i64 0,.int .i64 0,.int .i64 0,.bG])) [] [],o1 5 (.s 20) [20],oz (.l (.store 5)) [.s 6,.s 22] [22]]
def AO:R':=[o1 23 (.s 0) [],o1 24 (.s 3) [],o1 25 (.s 5) [5],o2 26 (bI .add) [.s 25,.k (.int .i64 1)] [25],o2 27 (.p (.build [.int .i64 0,.int .i64 0] [(0,1),(1,1)])) [.s 24,.s 26] [24,26],o2 28 (lD 5) [.s 6] [6],o2 29 .c [.s 23,.s 27,.s 28] [23,27,28],o2 30 (.p .not) [.s 29] [29]]
def yz:R':=[o2 31 (bI .add) [.s 18,.k (.int .i64 1)] [],o1 18 (.s 31) [31]]
def Gp:RC:=.hg (.seq (.ops [o2 19 (bI .lss) [.s 18,.s 17] []]) (.seq (.cond (.s 19) .skip (.exit 2)) (.seq (.block 3 (.seq (.ops CW) (.seq (.ops AO) (.cond (.s 30) .ret .skip)))) (.ops yz)))) (.keep [0,3,8,9,10,16,17,18] [])
def MB:R':=[o1 12 (.s 10) [],o2 13 (ix 3) [.s 8,.s 10] [],o2 14 (lD 3) [.s 13] [13],o2 4 (.a (.alloc 3 [.str ByteArray.empty,.bG,.bG])) [] [],o1 3 (.s 12) [12],oz (.l (.store 3)) [.s 4,.s 14] [14]]
def Jq:R':=[o2 15 (fa 2) [.s 4] [],o2 16 (ld 1) [.s 15] [15],o2 17 ln [.s 16] [],o1 18 (.k (.int .i64 0)) []]
def HG:R':=[o2 32 (bI .add) [.s 10,.k (.int .i64 1)] [],o1 10 (.s 32) [32]]
def U2:RC:=.block 2 (.gh (.keep [0,3,8,9,10,16,17,18] []) (.loop Gp))
def PR:RC:=.hg (.seq (.ops [o2 11 (bI .lss) [.s 10,.s 9] []]) (.seq (.cond (.s 11) .skip (.exit 0)) (.seq (.block 1 (.seq (.ops MB) (.seq (.ops Jq) U2))) (.ops HG)))) (.keep [0,8,9,10] [])
def Qa:R':=[o2 7 (fa 0) [.s 1] [1],o2 8 (ld 1) [.s 7] [7],o2 9 ln [.s 8] [],o1 10 (.k (.int .i64 0)) []]
def U1:RC:=.block 0 (.gh (.keep [0,8,9,10] []) (.loop PR))
def text:RF:=⟨33,[],.seq (.ops Qa) U1⟩
section
variable{S:Sys}
abbrev I1(ps:Sl bP)(i:Int)(B:aX (aX V))(more:Bool)(y:Nat):St:=⟨[(0,.yl y),Cv 8 ps,Iv 9 (len ps),Iv 10 i],[],[],B,more,y⟩
abbrev I2(ps:Sl bP)(i:Int)(es:Sl Event)(j:Int)(B:aX (aX V))(more:Bool)(y:Nat):St:=⟨[(0,.yl y),Iv 3 i,Cv 8 ps,Iv 9 (len ps),Iv 10 i,Cv 16 es,Iv 17 (len es),Iv 18 j],[],[],B,more,y⟩
abbrev S2(ps:Sl bP)(i:Int)(es:Sl Event)(j:Int)(b:Bool)(B:aX (aX V))(more:Bool)(y:Nat):St:=⟨[(0,.yl y),Iv 3 i,Cv 8 ps,Iv 9 (len ps),Iv 10 i,Cv 16 es,Iv 17 (len es),Iv 18 j,Bv 19 b],[],[],B,more,y⟩
theorem XV(ps:Sl bP)(i:Int)(es:Sl W5)(j:Int)(B:T2)(more:X')(y:Nat)(D:decide (j<len es)=false):
 rn S.bare ox some (.rc Gp) [] (I2 ps i es j B more y)=some (.exit 2,S2 ps i es j false B more y):=by
 refine Le.get ?_;refine Kf (n:=7) (fo':=.rc (.cond (.s 19) .skip (.exit 2))) (fs':=[.seq (.seq (.block 3 (.seq (.ops CW) (.seq (.ops AO) (.cond (.s 30) .ret .skip)))) (.ops yz)),.gst (.keep [0,3,8,9,10,16,17,18] [])]) (λb=>S2 ps i es j b B more y) D Zae ?_
 exact Le.of_eq Zae
theorem Zo(ps:Sl bP)(i:Int)(es:Sl W5)(j:Int)(e:W5)(B:T2)(more:X')(y:Nat)(D:decide (j<len es)=true)(G:idx es j=some e)(J:(!(more|| !B.isEmpty))=false):
 rn S.bare ox some (.rc Gp) [] (I2 ps i es j ([enc (⟨i,wrap .i64 (j+1)⟩:a_),enc e]::B) more y)=some (.norm,I2 ps i es (wrap .i64 (j+1)) B more y):=by
 refine Le.get ?_;refine Kt (n:=7) (fo':=.rc (.cond (.s 19) .skip (.exit 2))) (fs':=[.seq (.seq (.block 3 (.seq (.ops CW) (.seq (.ops AO) (.cond (.s 30) .ret .skip)))) (.ops yz)),.gst (.keep [0,3,8,9,10,16,17,18] [])]) (λb=>S2 ps i es j b ([enc (⟨i,wrap .i64 (j+1)⟩:a_),enc e]::B) more y) D Zae ?_
 refine Te G ?_;refine S8 8 false [] (CW.drop 1) [.seq (.seq (.ops AO) (.cond (.s 30) .ret .skip)),.blk 3,.seq (.ops yz),.gst (.keep [0,3,8,9,10,16,17,18] [])] ⟨[(0,.yl y),Iv 3 i,Cv 8 ps,Iv 9 (len ps),Iv 10 i,Cv 16 es,Iv 17 (len es),Iv 18 j,Bv 19 true,Iv 20 j],[],[],([enc (⟨i,wrap .i64 (j+1)⟩:a_),enc e]::B),more,y⟩ .i64 rfl Zae λx a=>?_
 obtain rfl:x=e:=Zac
 refine X1 1 false [] (CW.drop 3) [.seq (.seq (.ops AO) (.cond (.s 30) .ret .skip)),.blk 3,.seq (.ops yz),.gst (.keep [0,3,8,9,10,16,17,18] [])] ⟨[(0,.yl y),Iv 3 i,Cv 8 ps,Iv 9 (len ps),Iv 10 i,Cv 16 es,Iv 17 (len es),Iv 18 j,Bv 19 true,Iv 20 j,Cv 22 x],[],[],([enc (⟨i,wrap .i64 (j+1)⟩:a_),enc x]::B),more,y⟩ [iv 0,iv 0,iv 0,iv 0,.v .bG] rfl (by simp only[cr,zN,qY,tw,rJ,tQ,uK,tG,vk,rK,tv,zu,uT,u7,u6,vg,xk,xm,tE,vj,SV.cM];rfl) Zae ?_
 refine Ast 1 false [] (CW.drop 5) [.seq (.seq (.ops AO) (.cond (.s 30) .ret .skip)),.blk 3,.seq (.ops yz),.gst (.keep [0,3,8,9,10,16,17,18] [])] ⟨[(0,.yl y),Iv 3 i,Cv 8 ps,Iv 9 (len ps),Iv 10 i,Cv 16 es,Iv 17 (len es),Iv 18 j,Bv 19 true,Cv 22 x,Pv 6,Iv 5 j],[Xb 6 (⟨0,0,0,0,.nil⟩:W5)],[],([enc (⟨i,wrap .i64 (j+1)⟩:a_),enc x]::B),more,y⟩ 6 0 x [iv 0,iv 0,iv 0,iv 0,.v .bG] ((cells x).map .v) rfl Zae ?_
 refine Zy (n:=10) (q:=AO.drop 6) (fs':=[.seq (.cond (.s 30) .ret .skip),.blk 3,.seq (.ops yz),.gst (.keep [0,3,8,9,10,16,17,18] [])]) (st:=⟨[(0,.yl y),Iv 3 i,Cv 8 ps,Iv 9 (len ps),Iv 10 i,Cv 16 es,Iv 17 (len es),Iv 18 j,Bv 19 true,(23,.yl y),Cv 27 (⟨i,wrap .i64 (j+1)⟩:a_),Cv 28 x],[Xb 6 x],[],([enc (⟨i,wrap .i64 (j+1)⟩:a_),enc x]::B),more,y⟩) (vs:=[cv (⟨i,wrap .i64 (j+1)⟩:a_),cv x]) Zae rfl Zae Zae rfl rfl ?_
 refine Kf (n:=3) (fo':=.rc (.cond (.s 30) .ret .skip)) (fs':=[.blk 3,.seq (.ops yz),.gst (.keep [0,3,8,9,10,16,17,18] [])]) (λb=>⟨[(0,.yl y),Iv 3 i,Cv 8 ps,Iv 9 (len ps),Iv 10 i,Cv 16 es,Iv 17 (len es),Iv 18 j,Bv 19 true,Bv 30 b],[Xb 6 x],[],B,more,y⟩) J Zae ?_
 exact Le.of_eq Zae
theorem UN(ps:Sl bP)(i:Int)(es:Sl W5)(j:Int)(e:W5)(B:T2)(more:X')(y:Nat)(D:decide (j<len es)=true)(G:idx es j=some e)(J:(!(more|| !B.isEmpty))=true):
 rn S.bare ox some (.rc Gp) [] (I2 ps i es j ([enc (⟨i,wrap .i64 (j+1)⟩:a_),enc e]::B) more y)=some (.ret,⟨[(0,.yl y),Iv 3 i,Cv 8 ps,Iv 9 (len ps),Iv 10 i,Cv 16 es,Iv 17 (len es),Iv 18 j,Bv 19 true,Bv 30 true],[Xb 6 e],[],B,more,y⟩):=by
 refine Le.get ?_;refine Kt (n:=7) (fo':=.rc (.cond (.s 19) .skip (.exit 2))) (fs':=[.seq (.seq (.block 3 (.seq (.ops CW) (.seq (.ops AO) (.cond (.s 30) .ret .skip)))) (.ops yz)),.gst (.keep [0,3,8,9,10,16,17,18] [])]) (λb=>S2 ps i es j b ([enc (⟨i,wrap .i64 (j+1)⟩:a_),enc e]::B) more y) D Zae ?_
 refine Te G ?_;refine S8 8 false [] (CW.drop 1) [.seq (.seq (.ops AO) (.cond (.s 30) .ret .skip)),.blk 3,.seq (.ops yz),.gst (.keep [0,3,8,9,10,16,17,18] [])] ⟨[(0,.yl y),Iv 3 i,Cv 8 ps,Iv 9 (len ps),Iv 10 i,Cv 16 es,Iv 17 (len es),Iv 18 j,Bv 19 true,Iv 20 j],[],[],([enc (⟨i,wrap .i64 (j+1)⟩:a_),enc e]::B),more,y⟩ .i64 rfl Zae λx a=>?_
 obtain rfl:x=e:=Zac
 refine X1 1 false [] (CW.drop 3) [.seq (.seq (.ops AO) (.cond (.s 30) .ret .skip)),.blk 3,.seq (.ops yz),.gst (.keep [0,3,8,9,10,16,17,18] [])] ⟨[(0,.yl y),Iv 3 i,Cv 8 ps,Iv 9 (len ps),Iv 10 i,Cv 16 es,Iv 17 (len es),Iv 18 j,Bv 19 true,Iv 20 j,Cv 22 x],[],[],([enc (⟨i,wrap .i64 (j+1)⟩:a_),enc x]::B),more,y⟩ [iv 0,iv 0,iv 0,iv 0,.v .bG] rfl (by simp only[cr,zN,qY,tw,rJ,tQ,uK,tG,vk,rK,tv,zu,uT,u7,u6,vg,xk,xm,tE,vj,SV.cM];rfl) Zae ?_
 refine Ast 1 false [] (CW.drop 5) [.seq (.seq (.ops AO) (.cond (.s 30) .ret .skip)),.blk 3,.seq (.ops yz),.gst (.keep [0,3,8,9,10,16,17,18] [])] ⟨[(0,.yl y),Iv 3 i,Cv 8 ps,Iv 9 (len ps),Iv 10 i,Cv 16 es,Iv 17 (len es),Iv 18 j,Bv 19 true,Cv 22 x,Pv 6,Iv 5 j],[Xb 6 (⟨0,0,0,0,.nil⟩:W5)],[],([enc (⟨i,wrap .i64 (j+1)⟩:a_),enc x]::B),more,y⟩ 6 0 x [iv 0,iv 0,iv 0,iv 0,.v .bG] ((cells x).map .v) rfl Zae ?_
 refine Zy (n:=10) (q:=AO.drop 6) (fs':=[.seq (.cond (.s 30) .ret .skip),.blk 3,.seq (.ops yz),.gst (.keep [0,3,8,9,10,16,17,18] [])]) (st:=⟨[(0,.yl y),Iv 3 i,Cv 8 ps,Iv 9 (len ps),Iv 10 i,Cv 16 es,Iv 17 (len es),Iv 18 j,Bv 19 true,(23,.yl y),Cv 27 (⟨i,wrap .i64 (j+1)⟩:a_),Cv 28 x],[Xb 6 x],[],([enc (⟨i,wrap .i64 (j+1)⟩:a_),enc x]::B),more,y⟩) (vs:=[cv (⟨i,wrap .i64 (j+1)⟩:a_),cv x]) Zae rfl Zae Zae rfl rfl ?_
 refine Kt (n:=3) (fo':=.rc (.cond (.s 30) .ret .skip)) (fs':=[.blk 3,.seq (.ops yz),.gst (.keep [0,3,8,9,10,16,17,18] [])]) (λb=>⟨[(0,.yl y),Iv 3 i,Cv 8 ps,Iv 9 (len ps),Iv 10 i,Cv 16 es,Iv 17 (len es),Iv 18 j,Bv 19 true,Bv 30 b],[Xb 6 x],[],B,more,y⟩) J Zae ?_
 exact Le.of_eq Zae
abbrev S1(ps:Sl bP)(i:Int)(b:Bool)(B:aX (aX V))(more:Bool)(y:Nat):St:=⟨[(0,.yl y),Cv 8 ps,Iv 9 (len ps),Iv 10 i,Bv 11 b],[],[],B,more,y⟩
theorem XR(ps:Sl bP)(i:Int)(B:T2)(more:X')(y:Nat)(D:decide (i<len ps)=false):
 rn S.bare ox some (.rc PR) [] (I1 ps i B more y)=some (.exit 0,S1 ps i false B more y):=by
 refine Le.get ?_;refine Kf (n:=7) (fo':=.rc (.cond (.s 11) .skip (.exit 0))) (fs':=[.seq (.seq (.block 1 (.seq (.ops MB) (.seq (.ops Jq) U2))) (.ops HG)),.gst (.keep [0,8,9,10] [])]) (λb=>S1 ps i b B more y) D Zae ?_
 exact Le.of_eq Zae
def Un:R0:=[.blk 2,.blk 1,.seq (.ops HG),.gst (.keep [0,8,9,10] [])]
theorem Uo(ps:Sl bP)(i:Int)(p:bP)(B:T2)(more:X')(y:Nat)(r:Out×St)(D:decide (i<len ps)=true)(G:idx ps i=some p)
 (h:rn S.bare ox some (.rc (.loop Gp)) Un (I2 ps i p.events 0 B more y)=some r):rn S.bare ox some (.rc PR) [] (I1 ps i B more y)=some r:=by
 refine Le.get ?_;refine Kt (n:=7) (fo':=.rc (.cond (.s 11) .skip (.exit 0))) (fs':=[.seq (.seq (.block 1 (.seq (.ops MB) (.seq (.ops Jq) U2))) (.ops HG)),.gst (.keep [0,8,9,10] [])]) (λb=>S1 ps i b B more y) D Zae ?_
 refine Te G ?_;refine S8 8 false [] (MB.drop 1) [.seq (.seq (.ops Jq) U2),.blk 1,.seq (.ops HG),.gst (.keep [0,8,9,10] [])] ⟨[(0,.yl y),Cv 8 ps,Iv 9 (len ps),Iv 10 i,Bv 11 true,Iv 12 i],[],[],B,more,y⟩ .i64 rfl Zae λx a=>?_
 obtain rfl:x=p:=Zac
 refine X1 1 false [] (MB.drop 3) [.seq (.seq (.ops Jq) U2),.blk 1,.seq (.ops HG),.gst (.keep [0,8,9,10] [])] ⟨[(0,.yl y),Cv 8 ps,Iv 9 (len ps),Iv 10 i,Bv 11 true,Iv 12 i,Cv 14 x],[],[],B,more,y⟩ [.v (.str ByteArray.empty),.v .bG,.v .bG] rfl (by simp only[cr,zN,qY,tw,rJ,tQ,uK,tG,vk,rK,tv,zu,uT,u7,u6,vg,xk,xm,tE,vj,SV.cM];rfl) Zae ?_
 refine Ast 1 false [] (MB.drop 5) [.seq (.seq (.ops Jq) U2),.blk 1,.seq (.ops HG),.gst (.keep [0,8,9,10] [])] ⟨[(0,.yl y),Cv 8 ps,Iv 9 (len ps),Iv 10 i,Bv 11 true,Cv 14 x,Pv 4,Iv 3 i],[Xb 4 (⟨ByteArray.empty,.nil,.nil⟩:bP)],[],B,more,y⟩ 4 0 x [.v (.str ByteArray.empty),.v .bG,.v .bG] ((cells x).map .v) rfl Zae ?_
 refine XM 6 false [] (Jq.drop 2) [.seq U2,.blk 1,.seq (.ops HG),.gst (.keep [0,8,9,10] [])] ⟨[(0,.yl y),Cv 8 ps,Iv 9 (len ps),Iv 10 i,Bv 11 true,Pv 4,Iv 3 i,Cv 16 x.events],[Xb 4 x],[],B,more,y⟩ x.events rfl Zae ?_
 refine BM (n:=5) (fo':=.rc (.loop Gp)) (fs':=Un) (st':=I2 ps i x.events 0 B more y) Zae (Le.of_eq h)
theorem Vi(ps:Sl bP)(i:Int)(es:Sl W5)(j:Int)(B:T2)(more:X')(y:Nat):
 rn S.bare ox some (.ex 2) Un (S2 ps i es j false B more y)=some (.norm,I1 ps (wrap .i64 (i+1)) B more y):=by kernel_rfl
theorem wrap_small(n:Nat)(h:n<9223372036854775807):wrap .i64 ((n:Int)+1)=((n+1:Nat):Int):=by simp[wrap,IntKind.bits,signed];omega
abbrev eI(x:a_×Event):aX V:=[enc x.1,enc x.2]
theorem vZ.step{x:S'}{D rest:T2}{more:X'}(h:vZ D (x::rest) more):∃B,D=x::B/\((!(more|| !B.isEmpty))=false/\vZ B rest more\/(!(more|| !B.isEmpty))=true/\B=[]):=by rcases h with⟨rfl,rfl⟩|⟨rfl,u,r,a⟩;exact⟨rest,rfl,.inl ⟨rfl,.inl ⟨rfl,rfl⟩⟩⟩;cases D with|nil=>grind|cons w D=>simp only[cons_append,List.cons.injEq]at a;obtain⟨rfl,rfl⟩:=a;refine⟨D,rfl,?_⟩;cases D with|nil=>grind|cons z C=>exact .inl ⟨rfl,.inr ⟨rfl,Zab,r,rfl⟩⟩
theorem uI{α:Type}{s:Sl α}{j:Nat}{x:α}{r:aX α}(h:s.l.drop j=x::r):idx s (j:Int)=some x/\decide ((j:Int)<len s)=true/\s.l.drop (j+1)=r:=by
 have a:j<s.l.length:=by apply Classical.byContradiction;intro w;rw[List.drop_eq_nil_of_le Zaa]at h;cases h
 have u:=List.drop_eq_getElem_cons a;rw[u]at h;simp only[List.cons.injEq]at h;refine⟨?_,Zac,h.2⟩;unfold idx;simp_all
variable{Q:Out×St->aY (Out×St)}{fs:R0}
theorem inner(ps:Sl bP)(i:Int)(es:Sl W5)(J:es.l.length<9223372036854775807)(more:X')(y:Nat)(R:T2):∀(a:aX W5)(j:Nat),es.l.drop j=a->∀D,vZ D ((lu i j a).map eI++R) more->
 (∃(B:T2)(T:Int),vZ B R more/\rn S.bare ox Q (.rc (.loop Gp)) fs (I2 ps i es j D more y)=rn S.bare ox Q (.ex 2) fs (S2 ps i es T false B more y))\/
 (∃st':St,st'.want=[]/\rn S.bare ox Q (.rc (.loop Gp)) fs (I2 ps i es j D more y)=Q (.ret,st'))
 |[],j,hd,D,G=>by have b:decide ((j:Int)<len es)=false:=(by simp_all);exact .inl ⟨D,j,by simpa[lu]using G,GN (XV ps i es j D more y b)⟩|e::a,j,hd,D,G=>by have⟨b,z,C⟩:=uI hd;have U:j<es.l.length:=Zac;simp only[lu,map_cons,cons_append]at G;obtain⟨B,rfl,u⟩:=vZ.step G;have I:=wrap_small j Zaa;have w:((j:Int)+1)=wrap .i64 ((j:Int)+1):=Zac;rcases u with⟨u,L⟩|⟨u,rfl⟩;have k:=Zo (S:=S) ps i es j e B more y z b u;rw[<-w]at k;have k2:=HJ (Q:=Q) (fs:=fs) k;have O:=inner ps i es J more y R a (j+1) C B Zac;rw[show((j+1:Nat):Int)=(j:Int)+1 from rfl]at O;grind;have k:=UN (S:=S) ps i es j e [] more y z b u;rw[<-w]at k;exact .inr ⟨_,by rfl,GG k⟩
theorem outer(ps:Sl bP)(J:ps.l.length<9223372036854775807)(D:∀p∈ps.l,p.events.l.length<9223372036854775807)(more:X')(y:Nat):∀(a:aX bP)(i:Nat),ps.l.drop i=a->∀B,vZ B ((gT i a).map eI) more->
 rn S.bare ox Qi (.rc (.loop PR)) [.blk 0] (I1 ps i B more y)=some ()
 |[],i,hd,B,G=>by
  have b:decide ((i:Int)<len ps)=false:=by simp_all
  rw[GN (XR ps i B more y b)];have:B=[]:=by
   rcases G with⟨_,rfl⟩|⟨_,L,r,c⟩;rfl;have:B=[]:=by cases B with
    |nil=>rfl|cons=>simp[gT]at c
   grind
  subst this;rfl
 |p::a,i,hd,B,G=>by have⟨b,z,C⟩:=uI hd;have hi:i<ps.l.length:=Zac;have I:p∈ps.l:=List.mem_of_mem_drop (i:=i) Zac;simp only[gT,List.map_append]at G;have u:=wrap_small i Zaa;rcases inner (S:=S) (Q:=some) (fs:=Un) ps i p.events (D p I) more y _ p.events.l 0 rfl B G with⟨w,O,g1,g2⟩|⟨st',g1,g2⟩;rw[Vi,u]at g2;rw[HJ (Uo ps i p B more y _ z b g2)];exact outer ps J D more y a (i+1) C w g1;rw[GG (Uo ps i p B more y _ z b g2)];simp[Qi,g1]
theorem all(t:Z4)(B:aX (a_×W5))(h:jA t=some B)(D:T2)(more:X')(G:vZ D (B.map eI) more)(y:Nat):
 rn S.bare ox Qi (.rc text.body) [] ⟨wL 0 (([]:S').map .v++.yl y::[V.fptr (cells t)].map .v),[],[],D,more,y⟩=some ():=by
 unfold jA at h;split at h
 .rename_i hk;cases h;simp only[ζh,List.all_eq_true,pn,decide_eq_true_eq]at hk;refine Le.get ?_;refine XM 4 false [] (Qa.drop 2) [.seq U1] ⟨[(0,.yl y),Cv 8 t.procs],[],[],D,more,y⟩ t.procs rfl Zae ?_
  refine BM (n:=5) (fo':=.rc (.loop PR)) (fs':=[.blk 0]) (st':=I1 t.procs 0 D more y) Zae (Le.of_eq ?_)
  exact outer t.procs hk.1 hk.2 more y t.procs.l 0 rfl D G
 simp_all
end
theorem xz{α:Type}[bt α]{a b:Sl α}(h:cq a=cq b):rows a.l=rows b.l:=by cases a<;>cases b<;>first|rfl|(simp only[cq,Sl.k,kg,V.fsl.injEq,true_and,reduceCtorEq]at h;done)|(simp only[cq,Sl.k,kg,V.fsl.injEq,true_and,reduceCtorEq]at h;omega)
theorem xV(p:Int):∀(es B:aX W5)(j:Int),rows es=rows B->(lu p j es).map eI=(lu p j B).map eI
 |[],[],_,_=>rfl|[],_::_,_,h=>by simp[rows]at h|_::_,[],_,h=>by simp[rows]at h|e::es,D::B,j,h=>by simp only[rows,map_cons,List.cons.injEq]at h;have a:enc e=enc D:=(by show V.agg (cells e)=V.agg (cells D);rw[h.1]);simp only[lu,map_cons,eI,a,xV p es B (j+1) h.2]
theorem EY:∀(ps B:aX bP)(i:Int),rows ps=rows B->(gT i ps).map eI=(gT i B).map eI
 |[],[],_,_=>rfl|[],_::_,_,h=>by simp[rows]at h|_::_,[],_,h=>by simp[rows]at h|p::ps,p'::B,i,h=>by simp only[rows,map_cons,List.cons.injEq]at h;have a:cq p.events=cq p'.events:=(by have:=h.1;change[V.str p.name,cq p.vars,cq p.events]=[V.str p'.name,cq p'.vars,cq p'.events]at this;grind);simp only[gT,List.map_append,xV i _ _ 0 (xz a),EY ps B (i+1) h.2]
def wU(f:Y')(g:Y')(a b:S')(xs:T2):Prop:=∃(t:Z4)(u:aX (a_×W5)),g=f/\a=[]/\b=[.fptr (cells t)]/\jA t=some u/\xs=u.map eI
theorem wU.uniq{f g:Y'}{a b:S'}{xs ys:T2}(h:wU f g a b xs)(k:wU f g a b ys):xs=ys:=by
 obtain⟨t,C,rfl,rfl,rfl,c,rfl⟩:=h;obtain⟨w,z,_,_,B,u,rfl⟩:=k;simp only[List.cons.injEq,V.fptr.injEq,and_true]at B;have D:cq t.procs=cq w.procs:=by change[cq t.procs]=[cq w.procs]at B;grind
 unfold jA at c u;split at c<;>split at u<;>simp only[ζa,reduceCtorEq]at c u;subst c u;exact EY _ _ 0 (xz D)
end trace_events_c1
end Go.VE
namespace Go.VE
open Go.Proofs.YtjlclfccbcbibaaGreatDoor
noncomputable section
def H8(f:Y'):aY Hu:=bif beq f 154 then some (tR E)else bif beq f 151 then some (t_ E)else none
def Sb:Sys:=⟨E,λn=>n,λ_ _ _=>none,zj E,H8⟩
theorem Jm:∀f q,H8 f=some q->nZ E f q:=by intro f q h;unfold H8 at h;cases a:beq f 154 with|true=>rw[a]at h;cases h;have:=Nat.eq_of_beq_eq_true a;subst this;exact Rr zM Zae Zae (Dg Zae)|false=>rw[a]at h;cases a:beq f 151 with|true=>rw[a]at h;cases h;have:=Nat.eq_of_beq_eq_true a;subst this;exact Rj Zae Zae Zae Zae|false=>rw[a]at h;cases h
def Tx:qv:=Q9 E some (lk NY)
abbrev cB:bX:=dm Sb Tx
theorem Xa:sJ Sb Tx where
 fn f rf h:=let⟨u,a,w⟩:=C7 h;⟨u,some,a,zM,w⟩
 zC f z y h:=G9 h
 prm:=Jm
theorem O2:∀f a b xs,Sb.items f a b=some xs->eP Sb f a b xs:=λf a b xs h=>by cases h
end
end Go.VE
namespace Go.VE
noncomputable section
namespace IB
def dI(s0:Zg):aY Zg:=(Sl.isNil s0).bind λu=>bl u (some Sl.nil) ((xO (Sl.row []:Zg) s0).bind λw=>some w)
theorem fE:lz Sb cB 49 (λs0:Zg=>[enc s0]) (λz=>dI z):=lz.mk' (nF (Tx 49)) (λs0=>X3 9 λu _=>bE 2 4 aZ (PU 7 5 7 λw _=>aZ))
namespace cz
def kQ(k6:Int)(T:Sl W5)(U W:Int)(G:Sl Assign)(J:Int)(Y:T2)(B:Zg)(D:Int)(more:X'):aY (Fw ((Zg)×Int) Zg Empty):=bl (decide (D<J)) ((idx G D).bind λu=>(Sl.lS B u.var).bind λw=>(Sl.put B w (u.value:Int)).bind λz=>some (.n (z,wrap .i64 (D+1)))) (some (.x B))
def W3(B:Zg)(k6:Int)(J:Sl W5)(D G:Int)(T:Sl Assign)(U W:Int)(Y:T2)(more:X'):aY (Fw ((Zg)×Int×Int×(T2)) T2 T2):=(cD (λq:(Zg)×Int=>kQ k6 J D G T U Y q.1 q.2 more) (B,W)).bind (Fw.elim (λe=>((dI e).bind Sl.whole).bind λw=>(yl Y more [.int .i64 (wrap .i64 (k6+1)),enc w]).bind λu=>bl u.1 (some (.n (e,D,wrap .i64 (G+1),u.2))) (some (.r u.2))) (λe=>elim e))
def cI(D:Sl W5)(G:Zg)(J B:Int)(T:T2)(more:X'):aY (Fw ((Zg)×Int×Int×(T2)) T2 T2):=bl (decide (B<J)) ((idx D B).bind λu=>W3 G B D J B u.assign (len u.assign) 0 T more) (some (.x T))
def W2(B:Zg)(D:Sl W5)(G J:Int)(T:T2)(more:X'):aY T2:=(cD (λq:(Zg)×Int×Int×(T2)=>cI D q.1 q.2.1 q.2.2.1 q.2.2.2 more) (B,G,J,T)).bind (Fw.elim (λe=>some e) (λe=>some e))
def bz(T:bP)(G:Sl Var)(J:Int)(U:T2)(B:Zg)(D:Int)(more:X'):aY (Fw ((Zg)×Int) Zg Empty):=bl (decide (D<J)) ((idx G D).bind λu=>(fW B (u.init_:Int)).bind λw=>some (.n (w,wrap .i64 (D+1)))) (some (.x B))
def W1(B:bP)(D:Zg)(G:Sl Var)(J T:Int)(U:T2)(more:X'):aY T2:=(cD (λq:(Zg)×Int=>bz B G J U q.1 q.2 more) (D,T)).bind (Fw.elim (λe=>((dI e).bind Sl.whole).bind λw=>(yl U more [.int .i64 0,enc w]).bind λu=>bl u.1 (cz.W2 e B.events (len B.events) 0 u.2 more) (some u.2)) (λe=>elim e))
end cz
def cz(D:T2)(B:bP)(more:X'):aY T2:=cz.W1 B (Sl.nil:Zg) B.vars (len B.vars) 0 D more
open cz in
theorem zy(more:X')(y:Nat)(J:T2)(B:bP):Le ((cz J B more).bind λr=>some r) (b_ Sb cB Qw (.rc (tb Tx 156),[],⟨wL 0 (.yl y::[V.fptr (cells B)].map .v),[],[],J,more,y⟩)):=cA 10 B.vars (gJ 6 (λC=>⟨[(0,.yl y),Kv 1 B,Ov 3,Cv 11 B.vars,Iv 12 (len B.vars),Iv 13 C.2],[Lb 2003 C.1],[],J,more,y⟩) (λD=>(0,⟨[(0,.yl y),Kv 1 B,Ov 3],[Lb 2003 D],[],J,more,y⟩)) (λC=>bE 8 14 (bR 7 λT _=>nk 10 2003 20 21 λU _=>aZ) aZ) (λD=>Il 7 25 fE D λL _=>ZL 1 [.int .i64 0,enc L] λS _=>dc 3 27 (cA 7 B.events (iJ 6 (λu=>⟨[(0,.yl y),Ov 3,Cv 29 B.events,Iv 30 u.2.1,Iv 31 u.2.2.1],[Lb 2003 u.1],[],u.2.2.2,more,y⟩) (λw=>(2,⟨[],[],[],w,more,y⟩)) (λw=>⟨[],[],[],w,more,y⟩) (λu=>bE 8 32 (bR 8 λz _=>o_ 3 7 0 z (cA 7 z.assign (gJ 6 (λG=>⟨[(0,.yl y),Ov 3,Iv 6 u.2.2.1,Cv 29 B.events,Iv 30 u.2.1,Iv 31 u.2.2.1,Cv 37 z.assign,Iv 38 (len z.assign),Iv 39 G.2],[Lb 2003 G.1],[],u.2.2.2,more,y⟩) (λI=>(4,⟨[(0,.yl y),Ov 3,Iv 6 u.2.2.1,Cv 29 B.events,Iv 30 u.2.1,Iv 31 u.2.2.1],[Lb 2003 I],[],u.2.2.2,more,y⟩)) (λG=>bE 8 40 (bR 7 λO _=>n9 .i64 11 2003 λW _=>xQ 0 2003 (.int .i64 O.value) λX _=>aZ) aZ) (λI=>Il 8 54 fE I λQ _=>ZL 1 [.int .i64 (wrap .i64 (u.2.2.1+1)),enc Q] λY _=>dc 3 56 aZ aZ)))) aZ) (λw=>aZ) (λw=>aZ))) aZ))
end IB
end
end Go.VE
namespace Go.VE
open IB
def w9:aX Assign->Zg->aY Zg
 |[],s=>some s|a::r,s=>(Sl.lS s a.var).bind λj=>(Sl.put s j a.value).bind (w9 r)
def w8:aX Var->Zg->aY Zg
 |[],s=>some s|v::r,s=>(fW s v.init_).bind (w8 r)
def MU(s:Zg):aY Zg:=(dI s).bind Sl.whole
def wQ:Int->aX W5->Zg->aY (aX (Int×Zg))
 |_,[],_=>some []|k,e::r,s=>(w9 e.assign.l s).bind λn=>(MU n).bind λc=>(wQ (k+1) r n).map ((k+1,c)::·)
def jx(p:bP):aY (aX (Int×Zg)):=if pn p.vars.l.length&&(pn p.events.l.length&&p.events.l.all λe=>pn e.assign.l.length)then(w8 p.vars.l .nil).bind λs=>(MU s).bind λc=>(wQ 0 p.events.l s).map ((0,c)::·)else none
namespace IST
abbrev eI(x:Int×Sl Int):aX V:=[enc x.1,enc x.2]
theorem DA{n:Nat}(h:pn n=true):n<9223372036854775807:=by simpa[pn]using h
theorem wrap_small(n:Nat)(h:n<9223372036854775807):wrap .i64 ((n:Int)+1)=((n+1:Nat):Int):=by simp[wrap,IntKind.bits,signed];omega
theorem uI{α:Type}{s:Sl α}{j:Nat}{x:α}{r:aX α}(h:s.l.drop j=x::r):idx s (j:Int)=some x/\decide ((j:Int)<len s)=true/\s.l.drop (j+1)=r:=by
 have a:j<s.l.length:=by apply Classical.byContradiction;intro w;rw[List.drop_eq_nil_of_le Zaa]at h;cases h
 have u:=List.drop_eq_getElem_cons a;rw[u]at h;simp only[List.cons.injEq]at h;refine⟨?_,by simp[len,a],h.2⟩;unfold idx;rw[if_pos Zaa];simp[ζd a,h.1]
theorem KK{α:Type}{s:Sl α}{j:Nat}(h:s.l.drop j=[]):decide ((j:Int)<len s)=false:=by
 have:s.l.length<=j:=by simpa using h
 simp[len];omega
theorem ZS(p:bP)(v:Sl Var)(J:v.l.length<9223372036854775807)(D:T2)(more:X'):∀(a:aX Var)(j:Nat),v.l.drop j=a->∀s B,w8 a s=some B->
 cD (λq:Zg×Int=>cz.bz p v (len v) D q.1 q.2 more) (s,(j:Int))=some (.x B)
 |[],j,hd,s,B,h=>by cases h;rw[gu];simp only[cz.bz,KK hd,bl,ζb,Bool.false_eq_true,if_false]|x::a,j,hd,s,B,h=>by have⟨b,G,T⟩:=uI hd;have w:j<v.l.length:=(by simpa[len]using G);simp only[w8,ζg]at h;have⟨n,u,h⟩:=h;rw[gu];simp only[cz.bz,b,G,u,bl,ζb,if_true,wrap_small j Zaa];exact ZS p v J D more a (j+1) T n B h
theorem set(k:Int)(es:Sl W5)(a b:Int)(v:Sl Assign)(J:v.l.length<9223372036854775807)(D:T2)(more:X'):∀(c:aX Assign)(j:Nat),v.l.drop j=c->∀s B,w9 c s=some B->
 cD (λq:Zg×Int=>cz.kQ k es a b v (len v) D q.1 q.2 more) (s,(j:Int))=some (.x B)
 |[],j,hd,s,B,h=>by cases h;rw[gu];simp only[cz.kQ,KK hd,bl,ζb,Bool.false_eq_true,if_false]|x::c,j,hd,s,B,h=>by have⟨d,G,T⟩:=uI hd;have w:j<v.l.length:=(by simpa[len]using G);simp only[w9,ζg]at h;have⟨i,hi,n,u,h⟩:=h;rw[gu];simp only[cz.kQ,d,G,hi,u,bl,ζb,if_true,wrap_small j Zaa];exact set k es a b v J D more c (j+1) T n B h
theorem vZ.step{x:S'}{D rest:T2}{more:X'}(h:vZ D (x::rest) more):∃B,yl D more x=some ((more|| !B.isEmpty),B)/\((more|| !B.isEmpty)=true/\vZ B rest more\/(more|| !B.isEmpty)=false/\B=[]):=by rcases h with⟨rfl,rfl⟩|⟨rfl,u,r,a⟩;exact⟨rest,by simp[yl],.inl ⟨rfl,.inl ⟨rfl,rfl⟩⟩⟩;cases D with|nil=>exact absurd rfl u|cons w D=>simp only[cons_append,List.cons.injEq]at a;obtain⟨rfl,rfl⟩:=a;refine⟨D,by simp[yl],?_⟩;cases D with|nil=>exact .inr ⟨rfl,rfl⟩|cons z C=>exact .inl ⟨rfl,.inr ⟨rfl,Zab,r,rfl⟩⟩
theorem fC(es:Sl W5)(U:es.l.length<9223372036854775807)(G:∀e∈es.l,e.assign.l.length<9223372036854775807)(more:X'):∀(a:aX W5)(j:Nat),es.l.drop j=a->∀s B,wQ (j:Int) a s=some B->∀D,vZ D (B.map eI) more->
 ∃J:T2,J=[]/\(cD (λq:Zg×Int×Int×T2=>cz.cI es q.1 q.2.1 q.2.2.1 q.2.2.2 more) (s,len es,(j:Int),D)=some (.x J)\/cD (λq:Zg×Int×Int×T2=>cz.cI es q.1 q.2.1 q.2.2.1 q.2.2.2 more) (s,len es,(j:Int),D)=some (.r J))
 |[],j,hd,s,B,h,D,T=>by cases h;have:D=[]:=(by rcases T with⟨_,rfl⟩|⟨_,L,r,d⟩;rfl;cases D with|nil=>rfl|cons=>simp at d);subst this;refine⟨[],rfl,.inl ?_⟩;rw[gu];simp only[cz.cI,KK hd,bl,ζb,Bool.false_eq_true,if_false]
 |e::a,j,hd,s,B,h,D,T=>by have⟨f,I,O⟩:=uI hd;have Z:j<es.l.length:=(by simpa[len]using I);have Q:e∈es.l:=List.mem_of_mem_drop (i:=j) (by rw[hd];exact List.mem_cons_self ..);simp only[wQ,ζg,ζf]at h;obtain⟨n,L,c,b,r,d,rfl⟩:=h;have b:(dI n).bind Sl.whole=some c:=b;have⟨w,z,S⟩:=vZ.step T;have C:=wrap_small j Zaa;have z:yl D more [.int .i64 ((j+1:Nat):Int),enc c]=some ((more|| !w.isEmpty),w):=z;rw[gu];have u:=set j es (len es) j e.assign (G e Q) D more e.assign.l 0 rfl s n L;rw[show((0:Nat):Int)=0 from rfl]at u;rcases S with⟨g1,g2⟩|⟨g1,rfl⟩;have⟨W,X,Y⟩:=fC es U G more a (j+1) O n r d w g2;refine⟨W,X,?_⟩;rw[g1]at z;simp only[cz.cI,cz.W3,f,I,u,b,z,bl,ζb,if_true,Fw.elim,C];exact Y;refine⟨[],rfl,.inr ?_⟩;rw[g1]at z;simp only[cz.cI,cz.W3,f,I,u,b,C,z,bl,ζb,if_true,if_false,Bool.false_eq_true,Fw.elim]
theorem all(p:bP)(B:aX (Int×Zg))(h:jx p=some B)(D:T2)(more:X')(G:vZ D (B.map eI) more):cz D p more=some []:=by unfold jx at h;split at h;rename_i b;simp only[ζh,List.all_eq_true]at b;have⟨k1,k2,k3⟩:=b;simp only[ζg,ζf]at h;obtain⟨s,C,c,a,r,d,rfl⟩:=h;have a:(dI s).bind Sl.whole=some c:=a;have⟨u,w,I⟩:=vZ.step G;have hi:=ZS p p.vars (DA k1) D more p.vars.l 0 rfl .nil s C;rw[show((0:Nat):Int)=0 from rfl]at hi;have w:yl D more [.int .i64 0,enc c]=some ((more|| !u.isEmpty),u):=w;unfold cz cz.W1;simp only[hi,ζb,Fw.elim,a,w];rcases I with⟨g1,g2⟩|⟨g1,rfl⟩;obtain⟨L,rfl,z⟩:=fC p.events (DA k2) (λe J=>DA (k3 e J)) more p.events.l 0 rfl s r d u g2;rw[show((0:Nat):Int)=0 from rfl]at z;rw[g1];simp only[bl,if_true,cz.W2];rcases z with q|q<;>(rw[q];rfl);rw[g1];rfl;cases h
theorem xz{α:Type}[bt α]{a b:Sl α}(h:cq a=cq b):rows a.l=rows b.l:=by cases a<;>cases b<;>first|rfl|(simp only[cq,Sl.k,kg,V.fsl.injEq,true_and,reduceCtorEq]at h;done)|(simp only[cq,Sl.k,kg,V.fsl.injEq,true_and,reduceCtorEq]at h;exact h)
theorem Kp:∀(a b:aX Var),rows a=rows b->∀s,w8 a s=w8 b s
 |[],[],_,_=>rfl|[],_::_,h,_=>by simp[rows]at h|_::_,[],h,_=>by simp[rows]at h|x::a,y::b,h,s=>by simp only[rows,map_cons,List.cons.injEq]at h;have c:x.init_=y.init_:=(by have:=h.1;change[V.str x.name,V.int .i64 x.init_]=[V.str y.name,V.int .i64 y.init_]at this;simpa using(List.cons.inj (List.cons.inj this).2).1);simp only[w8,c,funext (Kp a b h.2)]
theorem IX:∀(a b:aX Assign),rows a=rows b->∀s,w9 a s=w9 b s
 |[],[],_,_=>rfl|[],_::_,h,_=>by simp[rows]at h|_::_,[],h,_=>by simp[rows]at h|x::a,y::b,h,s=>by simp only[rows,map_cons,List.cons.injEq]at h;have c:=h.1;change[V.int .i64 x.var,V.int .i64 x.value]=[V.int .i64 y.var,V.int .i64 y.value]at c;simp only[List.cons.injEq,V.int.injEq,true_and,and_true]at c;simp only[w9,c.1,c.2,funext (IX a b h.2)]
theorem JM{x y:W5}(h:cells x=cells y):rows x.assign.l=rows y.assign.l:=by change[V.int .i64 x.kind,V.int .i64 x.peer,V.int .i64 x.message,V.int .i64 x.time,cq x.assign]=[V.int .i64 y.kind,V.int .i64 y.peer,V.int .i64 y.message,V.int .i64 y.time,cq y.assign]at h;simp only[List.cons.injEq]at h;exact xz h.2.2.2.2.1
theorem xV:∀(a b:aX W5),rows a=rows b->∀k s,wQ k a s=wQ k b s
 |[],[],_,_,_=>rfl|[],_::_,h,_,_=>by simp[rows]at h|_::_,[],h,_,_=>by simp[rows]at h|x::a,y::b,h,k,s=>by simp only[rows,map_cons,List.cons.injEq]at h;simp only[wQ,IX _ _ (JM h.1),xV a b h.2]
theorem Da{α:Type}[bt α]{a b:aX α}(h:rows a=rows b):a.length=b.length:=by have:=congrArg List.length h;simpa[rows]using this
theorem JB:∀(a b:aX W5),rows a=rows b->(a.all λe=>pn e.assign.l.length)=b.all λe=>pn e.assign.l.length
 |[],[],_=>rfl|[],_::_,h=>by simp[rows]at h|_::_,[],h=>by simp[rows]at h|x::a,y::b,h=>by simp only[rows,map_cons,List.cons.injEq]at h;simp only[all_cons,Da (JM h.1),JB a b h.2]
def wU(f:Y')(g:Y')(a b:S')(xs:T2):Prop:=∃(p:bP)(u:aX (Int×Zg)),g=f/\a=[]/\b=[.fptr (cells p)]/\jx p=some u/\xs=u.map eI
theorem wU.uniq{f g:Y'}{a b:S'}{xs ys:T2}(h:wU f g a b xs)(k:wU f g a b ys):xs=ys:=by obtain⟨p,C,rfl,rfl,rfl,c,rfl⟩:=h;obtain⟨w,z,_,_,u,B,rfl⟩:=k;simp only[List.cons.injEq,V.fptr.injEq,and_true]at u;change[V.str p.name,cq p.vars,cq p.events]=[V.str w.name,cq w.vars,cq w.events]at u;simp only[List.cons.injEq]at u;have r1:=xz u.2.1;have r2:=xz u.2.2.1;unfold jx at c B;rw[Da r1,Da r2,JB _ _ r2,Kp _ _ r1,funext (λs=>xV _ _ r2 0 s)]at c;have e:=c.symm.trans B;cases e;rfl
end IST
end Go.VE
namespace Go.VE
open Go.Proofs.YtjlclfccbcbibaaGreatDoor
noncomputable section
def IE(f:Y')(a b:S')(xs:T2):Prop:=trace_events_c1.wU 118 f a b xs\/IST.wU 156 f a b xs
def Sy:Sys:=⟨E,λn=>n,zF IE,zj E,H8⟩
abbrev cL:bX:=dm Sy Tx
theorem UC:Sy.prm 154=some (tR Sy.E):=by kernel_rfl
theorem Wq:Sy.prm 151=some (t_ Sy.E):=by kernel_rfl
theorem Xx:∃fi,E.ft 118=some fi/\yC E some fi trace_events_c1.text:=Xw Zae
theorem MM:sJ Sy Tx where
 fn f rf h:=let⟨u,a,w⟩:=C7 h;⟨u,some,a,zM,w⟩
 zC f z y h:=G9 h
 prm:=Jm
theorem Ko(p:bP)(B:aX (Int×Zg))(a:jx p=some B):eP Sy 156 [] [.fptr (cells p)] (B.map IST.eI):=by
 have w:Tx 156=some (nF (Tx 156)):=zA Zae;have⟨G,z,C⟩:=C7 w;have e1:Nat.ble (([]:S').length+1+[V.fptr (cells p)].length) (nF (Tx 156)).na=true:=by kernel_rfl
 have e2:(nF (Tx 156)).rs=[]:=by kernel_rfl
 have e3:Sy.E=Sb.E:=rfl;exact Q5 e3 Jm (yZ Xa O2) O2 z zM C (Nat.le_of_ble_eq_true e1) e2 λu more D y=>IB.zy more y u p [] (by rw[IST.all p B a u more D];rfl)
theorem FE:∀f a b xs,Sy.items f a b=some xs->eP Sy f a b xs:=by intro f a b xs h;have h:IE f a b xs:=NQ h;rcases h with h|h;obtain⟨t,u,rfl,rfl,rfl,c,rfl⟩:=h;have⟨D,w,z⟩:=Xx;exact Tz Sy w zM z (Nat.le_of_ble_eq_true rfl) rfl λB more C y=>trace_events_c1.all t u c B more C y;obtain⟨p,u,rfl,rfl,rfl,c,rfl⟩:=h;exact Ko p u c
theorem Aa(t:Z4)(B:aX (a_×W5))(h:jA t=some B):Sy.items 118 [] [.fptr (cells t)]=some (B.map λx:a_×W5=>[enc x.1,enc x.2]):=Ed (.inl ⟨t,B,rfl,rfl,rfl,h,rfl⟩) (λu a=>by rcases a with a|a<;>first|exact a.uniq ⟨t,B,rfl,rfl,rfl,h,rfl⟩|(have⟨_,_,a,_⟩:=a;exact absurd a (by decide)))
theorem Gn(p:bP)(B:aX (Int×Zg))(h:jx p=some B):Sy.items 156 [] [.fptr (cells p)]=some (B.map λx:Int×Zg=>[enc x.1,enc x.2]):=Ed (.inr ⟨p,B,rfl,rfl,rfl,h,rfl⟩) (λu a=>by rcases a with a|a<;>first|exact a.uniq ⟨p,B,rfl,rfl,rfl,h,rfl⟩|(have⟨_,_,a,_⟩:=a;exact absurd a (by decide)))
theorem OL:Sy.zC 4 []=some (.bool true):=GM (K6 rfl ⟨1,[],by kernel_rfl⟩)
end
end Go.VE
namespace Go.VE
noncomputable section
def xH:aY X':=some true
instance Vh:Fc Sy cL xH:=⟨4,[],λr:X'=>[.bool r],true,iu.zC Zae Zae OL⟩
namespace gO
def bz(s0:Sl bP)(D:Int)(B:Int)(p1:bP->aY X'):aY (Fw Int Unit Int):=bl (decide (B<D)) ((idx s0 B).bind λu=>(p1 u).bind λw=>bl w (some (.r B)) (some (.n (wrap .i64 (B+1))))) (some (.x ()))
def W1(s0:Sl bP)(B D:Int)(p1:bP->aY X'):Pi:=(cD (λq:Int=>bz s0 B q p1) D).bind (Fw.elim (λe=>some (-1)) (λe=>some e))
end gO
def gO(s0:Sl bP)(p1:bP->aY X'):Pi:=gO.W1 s0 (len s0) 0 p1
open gO in
abbrev x8(g1:FuncId)(e1:aX V)(p1:bP->aY Bool)(a:ki Sy cL g1 [] e1 (λz:bP=>[enc z]) (λr:Bool=>[.bool r]) p1 true)(s0:Sl bP):Fc Sy cL (gO s0 p1):=Fc.M 37 [enc s0,.clo g1 [] e1] (cA 9 s0 (iJ 5 (λw=>(cr [Cv 0 s0,(1,.v (.clo g1 [] e1)),Iv 7 (len s0),Iv 8 w] [])) (λu=>(0,(cr [] []))) (λu=>(cr [Iv 4 u] [])) (λw=>bE 7 9 (bR 16 λB _=>wX 1 a.f B λC _=>bE 2 16 aZ aZ) aZ) (λu=>aZ) (λu=>aZ)))
def gL(s0:Sl bP)(p1:bP->aY X'):aY X':=(gO s0 p1).bind λu=>some (decide (u>=0))
abbrev pL(g1:FuncId)(e1:aX V)(p1:bP->aY Bool)(a:ki Sy cL g1 [] e1 (λz:bP=>[enc z]) (λr:Bool=>[.bool r]) p1 true)(s0:Sl bP):Fc Sy cL (gL s0 p1):=Fc.M 14 [enc s0,.clo g1 [] e1] (bC (F:=x8 g1 e1 p1 a s0) 9 λu _=>aZ)
namespace fh
def bz(s0:Sl W5)(D:Int)(B:Int)(p1:W5->aY X'):aY (Fw Int Unit Int):=bl (decide (B<D)) ((idx s0 B).bind λu=>(p1 u).bind λw=>bl w (some (.r B)) (some (.n (wrap .i64 (B+1))))) (some (.x ()))
def W1(s0:Sl W5)(B D:Int)(p1:W5->aY X'):Pi:=(cD (λq:Int=>bz s0 B q p1) D).bind (Fw.elim (λe=>some (-1)) (λe=>some e))
end fh
def fh(s0:Sl W5)(p1:W5->aY X'):Pi:=fh.W1 s0 (len s0) 0 p1
open fh in
abbrev qH(g1:FuncId)(e1:aX V)(p1:Event->aY Bool)(a:ki Sy cL g1 [] e1 (λz:Event=>[enc z]) (λr:Bool=>[.bool r]) p1 true)(s0:Sl Event):Fc Sy cL (fh s0 p1):=Fc.M 38 [enc s0,.clo g1 [] e1] (cA 9 s0 (iJ 5 (λw=>(cr [Cv 0 s0,(1,.v (.clo g1 [] e1)),Iv 7 (len s0),Iv 8 w] [])) (λu=>(0,(cr [] []))) (λu=>(cr [Iv 4 u] [])) (λw=>bE 7 9 (bR 16 λB _=>wX 1 a.f B λC _=>bE 2 16 aZ aZ) aZ) (λu=>aZ) (λu=>aZ)))
def iD(s0:Sl W5)(p1:W5->aY X'):aY X':=(fh s0 p1).bind λu=>some (decide (u>=0))
abbrev oZ(g1:FuncId)(e1:aX V)(p1:Event->aY Bool)(a:ki Sy cL g1 [] e1 (λz:Event=>[enc z]) (λr:Bool=>[.bool r]) p1 true)(s0:Sl Event):Fc Sy cL (iD s0 p1):=Fc.M 16 [enc s0,.clo g1 [] e1] (bC (F:=qH g1 e1 p1 a s0) 9 λu _=>aZ)
def pq(e0:W5):aY X':=some (decide ((len e0.assign)>20))
instance Qd(e0:W5):Fc Sy cL (pq e0):=Fc.M 17 [enc e0] (cg 2 1 e0 (cA 7 e0.assign aZ))
def nv(B:bP):aY X':=(bl (decide ((len B.events)>40)) (some true) (some (decide ((len B.vars)>20))):aY X').bind λu=>(bl u (some true) ((iD B.events (λz=>pq z)).bind λw=>some w):aY X').bind λC=>some C
instance TU(B:bP):Fc Sy cL (nv B):=Fc.M 15 [enc B] (cg 2 1 B (cA 7 B.events (ck 2 5 [7] 12 (bE 2 7 (bD 5) (cA 2 B.vars (bD 2))) λu=>ck 1 4 [1,13] 17 (bE 1 13 (bD 4) (bC (F:=oZ 17 [] (λz=>pq z) ki.o8 B.events) 2 λw _=>bD 1)) λC=>aZ)))
namespace jJ
def bz(G:Sl bP)(J:Int)(T:Z4)(D B:Int):aY (Fw (Int×Int) Int Empty):=bl (decide (B<J)) ((idx G B).bind λu=>some (.n (wrap .i64 (D+(len u.events)),wrap .i64 (B+1)))) (some (.x D))
def W1(G:Int)(J:Sl bP)(T U:Int)(B:Z4):aY X':=(cD (λq:Int×Int=>bz J T B q.1 q.2) (G,U)).bind (Fw.elim (λe=>(bl (decide (e>30)) (some (!(e==36))) (some false):aY X').bind λu=>(bl u (some true) (some (decide ((len B.procs)>10))):aY X').bind λw=>(bl w (some true) ((gL B.procs (λz=>nv z)).bind λC=>some C):aY X').bind λD=>some D) (λe=>elim e))
end jJ
def jJ(B:Z4):aY X':=jJ.W1 0 B.procs (len B.procs) 0 B
open jJ in
instance WT(B:Z4):Fc Sy cL (jJ B):=Fc.M 5 [enc B] (cg 2 1 B (cA 13 B.procs (gJ 5 (λu=>(cr [Pv 1,Iv 3 u.1,Cv 7 B.procs,Iv 8 (len B.procs),Iv 9 u.2] [Xb 1 B])) (λw=>(0,(cr [Pv 1,Iv 3 w] [Xb 1 B]))) (λu=>bE 7 10 (bR 7 λC _=>o_ 2 5 0 C (cA 6 C.events aZ)) aZ) (λw=>ck 7 3 [3,21] 24 (bE 7 21 (bD 3) (bD 3)) λD=>ck 1 5 [25] 30 (bE 1 25 (bD 5) (cA 2 B.procs (bD 2))) λG=>ck 1 4 [1,31] 35 (bE 1 31 (bD 4) (bC (F:=pL 15 [] (λz=>nv z) ki.o8 B.procs) 2 λI _=>bD 1)) λJ=>aZ))))
namespace eS
def cI(D:Int)(G:UV)(J B:Int)(r:(UV×Int×Int)->Pi):aY (Fw (Int×Int) Int Empty):=(bl (decide (J<(len G.l))) (some (decide (B<=300))) (some false):aY X').bind λu=>bl u ((idx G.l J).bind λw=>(r (w,wrap .i64 (D+1),B)).bind λz=>some (.n (wrap .i64 (J+1),z))) (some (.x B))
def W2(B J:Int)(G:UV)(D:Int)(r:(UV×Int×Int)->Pi):Pi:=(cD (λq:Int×Int=>cI B G q.1 q.2 r) (J,D)).bind (Fw.elim (λe=>some e) (λe=>elim e))
def J1(B:Int)(G:UV)(D:Int)(r:(UV×Int×Int)->Pi):Pi:=eS.W2 B 0 G D r
theorem kH(r:(UV×Int×Int)->Pi)(a:xG Sy cL 18 (λz:UV×Int×Int=>[cv z.1,iv z.2.1,.ptr 9001 0,.ptr 9002 0]) (λz:UV×Int×Int=>[(9001,bx (z.2.2:Int)),(9002,.box [.clo 18 [] [.ptr 9001 0,.ptr 9002 0]])]) (λr:Int=>[]) (λ(z:UV×Int×Int)(r:Int)=>[(9001,bx (r:Int)),(9002,.box [.clo 18 [] [.ptr 9001 0,.ptr 9002 0]])]) r)(B:Int)(G:UV)(D:Int):Le ((J1 B G D r).bind (λr=>some ([],[(9001,bx (r:Int)),(9002,.box [.clo 18 [] [.ptr 9001 0,.ptr 9002 0]])]))) (b_ Sy cL (Dc (tr Tx 18) [9001,9002]) (qx (tb Tx 18) [1,1,1,0] [] ⟨[Iv 1 B,(2,.ptr 9001 0),(3,.ptr 9002 0),Pv 4],[Xb 4 G,(9001,.box [iv D]),(9002,.box [.clo 18 [] [.ptr 9001 0,.ptr 9002 0]])],[9001,9002],[],true,0⟩)):=gJ 7 (λu=>⟨[Iv 1 B,(2,.ptr 9001 0),(3,.ptr 9002 0),Pv 4,Iv 6 u.1],[Xb 4 G,(9001,.box [iv u.2]),(9002,.box [.clo 18 [] [.ptr 9001 0,.ptr 9002 0]])],[9001,9002],[],true,0⟩) (λw=>(0,⟨[],[(9001,.box [iv w]),(9002,.box [.clo 18 [] [.ptr 9001 0,.ptr 9002 0]])],[9001,9002],[],true,0⟩)) (λu=>jb 7 13 (Pred.lE G.l) (cA 0 G.l (ck 2 3 [16] 19 (bE 2 16 (bD 3) (bD 3)) λI=>bE 2 19 (jb 9 24 (Pred.lE G.l) (bR 1 λC _=>U4 3 (oh.of (C,wrap .i64 (B+1),u.2) a) λJ _=>aZ)) aZ))) (λw=>aZ)
end eS
def gW(D:UV)(B G:Int)(r:(UV×Int×Int)->Pi):Pi:=bl (decide (B>40)) (eS.J1 B D 1000 r) (eS.J1 B D (wrap .i64 (G+1)) r)
open eS in
theorem AR(r:(UV×Int×Int)->Pi)(a:xG Sy cL 18 (λz:UV×Int×Int=>[cv z.1,iv z.2.1,.ptr 9001 0,.ptr 9002 0]) (λz:UV×Int×Int=>[(9001,bx (z.2.2:Int)),(9002,.box [.clo 18 [] [.ptr 9001 0,.ptr 9002 0]])]) (λr:Int=>[]) (λ(z:UV×Int×Int)(r:Int)=>[(9001,bx (r:Int)),(9002,.box [.clo 18 [] [.ptr 9001 0,.ptr 9002 0]])]) r)(D:UV)(B G:Int):∀J,gW D B G r=some J->∃m',cL 18 [cv D,iv B,.ptr 9001 0,.ptr 9002 0] [(9001,bx (G:Int)),(9002,.box [.clo 18 [] [.ptr 9001 0,.ptr 9002 0]])]=some (((λr:Int=>[]) J).map .v,m')/\∀T,jQ m' ([(9001,bx (G:Int)),(9002,.box [.clo 18 [] [.ptr 9001 0,.ptr 9002 0]])].map (·.1)) T=some (ni T ((λr:Int=>[(9001,bx (r:Int)),(9002,.box [.clo 18 [] [.ptr 9001 0,.ptr 9002 0]])]) J)):=(oh.mk' 18 [cv D,iv B,.ptr 9001 0,.ptr 9002 0] [(9001,bx (G:Int)),(9002,.box [.clo 18 [] [.ptr 9001 0,.ptr 9002 0]])] (λr:Int=>[]) (λr:Int=>[(9001,bx (r:Int)),(9002,.box [.clo 18 [] [.ptr 9001 0,.ptr 9002 0]])]) (cg 2 4 D (bE 16 10 (rV 6 (kH r a B D 1000)) (rV 4 (kH r a B D (wrap .i64 (G+1)))))):oh Sy cL (gW D B G r)).h
def eS(D:UV)(B G:Int):Pi:=dU (λr(z:UV×Int×Int)=>gW z.1 z.2.1 z.2.2 r) 100000 (D,B,G)
abbrev DG(D:Pred)(B G:Int):oh Sy cL (eS D B G):=oh.of (D,B,G) (xG.fix (A:=λz:Pred×Int×Int=>[cv z.1,iv z.2.1,.ptr 9001 0,.ptr 9002 0]) (O:=λz:Pred×Int×Int=>[(9001,bx (z.2.2:Int)),(9002,.box [.clo 18 [] [.ptr 9001 0,.ptr 9002 0]])]) (E:=λr:Int=>[]) (M:=λ(z:Pred×Int×Int)(r:Int)=>[(9001,bx (r:Int)),(9002,.box [.clo 18 [] [.ptr 9001 0,.ptr 9002 0]])]) (b:=(λr(z:Pred×Int×Int)=>gW z.1 z.2.1 z.2.2 r)) Zae Zae Zae (λr a z=>AR r a z.1 z.2.1 z.2.2) 100000)
def vI(B:UV):aY X':=(eS B 0 0).bind λu=>some (decide (u>300))
instance Wy(B:UV):Fc Sy cL (vI B):=Fc.M 6 [enc B] (cg 2 1 B (xU 26 (DG B 0 0) λu _=>aZ))
def nY(G D B:Int):aY X':=(bl (decide (G>=D)) (some (decide (G<=B))) (some false):aY X').bind λu=>some u
instance YW(G D B:Int):Fc Sy cL (nY G D B):=Fc.M 80 [.int .i64 G,.int .i64 D,.int .i64 B] (ck 11 4 [0,2,10] 14 (bE 11 10 (bD 4) (bD 4)) λu=>aZ)
def qN(B:Int):aY X':=(bl (decide (B>=97)) (some (decide (B<=122))) (some false):aY X').bind λu=>(bl u (some true) ((bl (decide (B>=65)) (some (decide (B<=90))) (some false):aY X').bind λw=>some w):aY X').bind λz=>some z
instance UW(B:Int):Fc Sy cL (qN B):=Fc.M 141 [.int .u8 B] (ck 10 3 [5] 8 (bE 10 5 (bD 3) (bD 3)) λu=>ck 1 7 [0,9] 16 (bE 1 9 (bD 7) (ck 3 3 [0,12] 15 (bE 3 12 (bD 3) (bD 3)) λw=>bD 1)) λz=>aZ)
def vJ(B:Int):aY X':=(bl (decide (B>=48)) (some (decide (B<=57))) (some false):aY X').bind λu=>some u
instance WE(B:Int):Fc Sy cL (vJ B):=Fc.M 142 [.int .u8 B] (ck 10 3 [0,5] 8 (bE 10 5 (bD 3) (bD 3)) λu=>aZ)
namespace gF
def bz(s0:V')(D:Int)(B:Int):aY (Fw Int Unit Unit):=bl (decide (B<D)) ((oU s0 B).bind λz=>(qN z).bind λC=>(bl C (some false) ((oU s0 B).bind λG=>(vJ G).bind λI=>some (!I)):aY X').bind λJ=>(bl J ((oU s0 B).bind λu=>some (!(u==95))) (some false):aY X').bind λw=>bl w (some (.r ())) (some (.n (wrap .i64 (B+1))))) (some (.x ()))
def W1(s0:V')(B D:Int):aY X':=(cD (λq:Int=>bz s0 B q) D).bind (Fw.elim (λe=>some true) (λe=>some false))
end gF
def gF(s0:V'):aY X':=(bl (toList s0==toList ByteArray.empty) (some true) (some (decide (((ByteArray.size s0:Nat):Int)>16))):aY X').bind λu=>(bl u (some true) ((oU s0 0).bind λw=>(qN w).bind λz=>some (!z)):aY X').bind λB=>bl B (some false) (gF.W1 s0 ((ByteArray.size s0:Nat):Int) 0)
open gF in
instance UE(s0:V'):Fc Sy cL (gF s0):=Fc.M 114 [.str s0] (ck 11 4 [6] 10 (bE 11 6 (bD 4) (bD 4)) λC=>ck 1 5 [11] 16 (bE 1 11 (bD 5) (NR 1 .i64 λD _=>bC 0 λG _=>bD 2)) λI=>bE 2 16 aZ (iJ 13 (λw=>(cr [(0,.v (.str s0)),Iv 18 ((ByteArray.size s0:Nat):Int),Iv 19 w] [])) (λu=>(0,(cr [] []))) (λu=>(cr [Bv 2 false] [])) (λw=>bE 7 20 (NR 15 .i64 λJ _=>bC 0 λL _=>ck 2 6 [27] 33 (dc 2 27 (bD 6) (NR 2 .i64 λO _=>bC 0 λQ _=>bD 2)) λS=>ck 1 5 [3,34] 39 (bE 1 34 (NR 2 .i64 λz _=>bD 2) (bD 5)) λB=>bE 2 39 aZ aZ) aZ) (λu=>aZ) (λu=>aZ)))
def jT(B D:bP):aY X':=some (toList B.name==toList D.name)
instance KS(B D:bP):Fc Sy cL (jT B D):=Fc.M 115 [enc B,.fptr (cells D)] (cg 2 2 B aZ)
def jU(B D:Var):aY X':=some (toList B.name==toList D.name)
instance KW(B D:Var):Fc Sy cL (jU B D):=Fc.M 117 [enc B,.fptr (cells D)] (aZ)
namespace fc
def bz(s0:Sl Var)(D:Int)(B:Int)(p1:Var->aY X'):aY (Fw Int Unit Int):=bl (decide (B<D)) ((idx s0 B).bind λu=>(p1 u).bind λw=>bl w (some (.r B)) (some (.n (wrap .i64 (B+1))))) (some (.x ()))
def W1(s0:Sl Var)(B D:Int)(p1:Var->aY X'):Pi:=(cD (λq:Int=>bz s0 B q p1) D).bind (Fw.elim (λe=>some (-1)) (λe=>some e))
end fc
def fc(s0:Sl Var)(p1:Var->aY X'):Pi:=fc.W1 s0 (len s0) 0 p1
open fc in
abbrev oc(g1:FuncId)(e1:aX V)(p1:Var->aY Bool)(a:ki Sy cL g1 [] e1 (λz:Var=>[enc z]) (λr:Bool=>[.bool r]) p1 true)(s0:Sl Var):Fc Sy cL (fc s0 p1):=Fc.M 137 [enc s0,.clo g1 [] e1] (cA 9 s0 (iJ 5 (λw=>(cr [Cv 0 s0,(1,.v (.clo g1 [] e1)),Iv 7 (len s0),Iv 8 w] [])) (λu=>(0,(cr [] []))) (λu=>(cr [Iv 4 u] [])) (λw=>bE 7 9 (bR 16 λB _=>wX 1 a.f B λC _=>bE 2 16 aZ aZ) aZ) (λu=>aZ) (λu=>aZ)))
def gV(s0:Sl Var)(p1:Var->aY X'):aY X':=(fc s0 p1).bind λu=>some (decide (u>=0))
abbrev qh(g1:FuncId)(e1:aX V)(p1:Var->aY Bool)(a:ki Sy cL g1 [] e1 (λz:Var=>[enc z]) (λr:Bool=>[.bool r]) p1 true)(s0:Sl Var):Fc Sy cL (gV s0 p1):=Fc.M 116 [enc s0,.clo g1 [] e1] (bC (F:=oc g1 e1 p1 a s0) 9 λu _=>aZ)
namespace eR
def bz(D:Sl Var)(G:Int)(J:bP)(B:Int):aY (Fw Int Unit Int):=bl (decide (B<G)) ((idx D B).bind λu=>(gF u.name).bind λI=>(bl I ((iP J.vars none (some B)).bind λL=>(gV L (λz=>jU z u)).bind λO=>some O) (some true):aY X').bind λw=>bl w (some (.r 13)) ((nY u.init_ (-1073741824) 1073741824).bind λC=>bl C (some (.n (wrap .i64 (B+1)))) (some (.r 2)))) (some (.x ()))
def W1(D:Sl Var)(G J:Int)(B:bP):Pi:=(cD (λq:Int=>bz D G B q) J).bind (Fw.elim (λe=>bl (decide ((len B.events)>64)) (some 5) (some 0)) (λe=>some e))
end eR
def eR(G:Z4)(p1:Int):Pi:=(idx G.procs p1).bind λu=>(gF u.name).bind λw=>(bl w ((iP G.procs none (some p1)).bind λB=>(gL B (λz=>jT z u)).bind λC=>some C) (some true):aY X').bind λD=>bl D (some 13) (bl (decide ((len u.vars)>8)) (some 5) (eR.W1 u.vars (len u.vars) 0 u))
open eR in
instance On(D:Z4)(p1:Int):Fc Sy cL (eR D p1):=Fc.M 81 [enc D,.int .i64 p1] (cg 2 2 D (bR 8 λu _=>o_ 2 5 0 u (bC 8 λO _=>ck 2 7 [1,2,18] 25 (dc 2 18 (FV 3 false true [.int .i64 p1] λG _=>cW (F:=pL 115 [.fptr (cells u)] (λz=>jT z u) ki.o8 G) 1 λQ _=>bD 1) (bD 7)) λS=>bE 3 13 aZ (cA 5 u.vars (bE 4 26 aZ (cA 9 u.vars (iJ 5 (λB=>(cr [Pv 5,Cv 32 u.vars,Iv 33 (len u.vars),Iv 34 B] [Xb 5 u])) (λw=>(1,(cr [Pv 5] [Xb 5 u]))) (λw=>(cr [Iv 4 w] [])) (λB=>bE 7 35 (bR 8 λC _=>bC 11 λT _=>ck 2 7 [6,44] 51 (dc 2 44 (FV 3 false true [.int .i64 B] λI _=>cW (F:=qh 117 [.fptr (cells C)] (λz=>jU z C) ki.o8 I) 1 λU _=>bD 1) (bD 7)) λJ=>bE 3 39 aZ (bC 5 λL _=>dc 4 52 aZ aZ)) aZ) (λw=>cA 7 u.events (bE 3 61 aZ aZ)) (λw=>aZ))))))))
def jy(B:Z4):aY Z4:=some B
instance Wm(B:Z4):Fc Sy cL (jy B):=Fc.NE (λr:Z4=>[(.clo 118 [] [.fptr (cells r)])]) 82 [enc B] (cg 2 1 B aZ)
namespace iW
def J1(p1:Int)(D:X')(G:Z4)(B:W5):aY X':=bl D ((nY B.peer 0 (wrap .i64 ((len G.procs)-1))).bind λu=>(bl u (some (!(B.peer==p1))) (some false):aY X').bind λw=>(bl w ((nY B.message 0 199).bind λz=>some z) (some false):aY X').bind λC=>some C) (some false)
end iW
def iW(B:Z4)(p1:Int)(e2:W5):aY X':=bl (e2.kind==1) ((bl (e2.peer==0) (some (e2.message==0)) (some false):aY X').bind λu=>some u) (bl (e2.kind==2) (iW.J1 p1 true B e2) (iW.J1 p1 (e2.kind==3) B e2))
open iW in
instance VM(B:Z4)(p1:Int)(e2:W5):Fc Sy cL (iW B p1 e2):=Fc.M 119 [enc B,.int .i64 p1,enc e2] (cg 2 3 B (cg 0 5 e2 (bE 17 9 (ck 7 4 [5,14] 18 (bE 7 14 (bD 4) (bD 4)) λD=>aZ) (bE 8 19 (qf 4 (bE 0 19 (cA 7 B.procs (bC 1 λu _=>ck 1 5 [1,29] 34 (bE 1 29 (bD 5) (bD 5)) λw=>ck 1 4 [5,35] 39 (bE 1 35 (bC 2 λz _=>bD 1) (bD 4)) λC=>aZ)) aZ)) (qf 7 (bE 0 19 (cA 7 B.procs (bC 1 λu _=>ck 1 5 [1,29] 34 (bE 1 29 (bD 5) (bD 5)) λw=>ck 1 4 [5,35] 39 (bE 1 35 (bC 2 λz _=>bD 1) (bD 4)) λC=>aZ)) aZ))))))
def kZ(B D:Assign):aY X':=some (B.var==D.var)
instance Me(B D:Assign):Fc Sy cL (kZ B D):=Fc.M 121 [enc B,.fptr (cells D)] (aZ)
namespace fL
def bz(s0:Sl Assign)(D:Int)(B:Int)(p1:Assign->aY X'):aY (Fw Int Unit Int):=bl (decide (B<D)) ((idx s0 B).bind λu=>(p1 u).bind λw=>bl w (some (.r B)) (some (.n (wrap .i64 (B+1))))) (some (.x ()))
def W1(s0:Sl Assign)(B D:Int)(p1:Assign->aY X'):Pi:=(cD (λq:Int=>bz s0 B q p1) D).bind (Fw.elim (λe=>some (-1)) (λe=>some e))
end fL
def fL(s0:Sl Assign)(p1:Assign->aY X'):Pi:=fL.W1 s0 (len s0) 0 p1
open fL in
abbrev wS(g1:FuncId)(e1:aX V)(p1:Assign->aY Bool)(a:ki Sy cL g1 [] e1 (λz:Assign=>[enc z]) (λr:Bool=>[.bool r]) p1 true)(s0:Sl Assign):Fc Sy cL (fL s0 p1):=Fc.M 143 [enc s0,.clo g1 [] e1] (cA 9 s0 (iJ 5 (λw=>(cr [Cv 0 s0,(1,.v (.clo g1 [] e1)),Iv 7 (len s0),Iv 8 w] [])) (λu=>(0,(cr [] []))) (λu=>(cr [Iv 4 u] [])) (λw=>bE 7 9 (bR 16 λB _=>wX 1 a.f B λC _=>bE 2 16 aZ aZ) aZ) (λu=>aZ) (λu=>aZ)))
def gZ(s0:Sl Assign)(p1:Assign->aY X'):aY X':=(fL s0 p1).bind λu=>some (decide (u>=0))
abbrev uN(g1:FuncId)(e1:aX V)(p1:Assign->aY Bool)(a:ki Sy cL g1 [] e1 (λz:Assign=>[enc z]) (λr:Bool=>[.bool r]) p1 true)(s0:Sl Assign):Fc Sy cL (gZ s0 p1):=Fc.M 120 [enc s0,.clo g1 [] e1] (bC (F:=wS g1 e1 p1 a s0) 9 λu _=>aZ)
namespace dQ
def cI(D:Sl Assign)(G:Int)(J:W5)(T:bP)(B:Int):aY (Fw Int Unit Int):=bl (decide (B<G)) ((idx D B).bind λu=>(nY u.var 0 (wrap .i64 ((len T.vars)-1))).bind λI=>(bl I ((nY u.value (-1073741824) 1073741824).bind λL=>some (!L)) (some true):aY X').bind λO=>bl O (some (.r 2)) ((iP J.assign none (some B)).bind λw=>(gZ w (λz=>kZ z u)).bind λC=>bl C (some (.r 8)) (some (.n (wrap .i64 (B+1)))))) (some (.x ()))
def W2(B:Sl Assign)(D G:Int)(J:W5)(T:bP):Pi:=(cD (λq:Int=>cI B D J T q) G).bind (Fw.elim (λe=>some 0) (λe=>some e))
def J1(D:Int)(J:Z4)(G:a_)(B:W5)(T:bP):Pi:=(iW J G.proc B).bind λu=>bl u ((nY B.time 0 1099511627776).bind λw=>(bl w (some (decide (B.time<D))) (some true):aY X').bind λz=>bl z (some 11) (bl (decide ((len B.assign)>8)) (some 5) (dQ.W2 B.assign (len B.assign) 0 B T))) (some 3)
theorem kH(D:Int)(T:Z4)(J:a_)(B:W5)(G:bP):Le ((J1 D T J B G).bind (λr=>some [.int .i64 r])) (b_ Sy cL (qc (tr Tx 83)) (qx (tb Tx 83) [1,1,1,1,0] [] (cr [Pv 3,Pv 4,Pv 5,Pv 7,Iv 8 D] [Xb 3 T,Xb 4 J,Xb 5 B,Xb 7 G]))):=bC 8 λO _=>dc 4 28 (bC 5 λQ _=>ck 2 5 [8,40] 45 (dc 2 40 (bD 5) (bD 5)) λS=>bE 3 35 aZ (cA 5 B.assign (bE 4 46 aZ (cA 9 B.assign (iJ 5 (λw=>(cr [Pv 5,Pv 7,Cv 52 B.assign,Iv 53 (len B.assign),Iv 54 w] [Xb 5 B,Xb 7 G])) (λu=>(1,(cr [] []))) (λu=>(cr [Iv 6 u] [])) (λw=>bE 7 55 (bR 8 λC _=>cA 13 G.vars (bC 1 λU _=>ck 2 5 [68] 73 (dc 2 68 (bC 2 λW _=>bD 2) (bD 5)) λX=>bE 3 59 aZ (FV 6 false true [.int .i64 w] λI _=>cW (F:=uN 121 [.fptr (cells C)] (λz=>kZ z C) ki.o8 I) 1 λL _=>bE 3 74 aZ aZ))) aZ) (λu=>aZ) (λu=>aZ)))))) aZ
end dQ
def dQ(D:Z4)(B:a_)(e2:W5):Pi:=(idx D.procs B.proc).bind λu=>bl (decide (B.index>1)) ((idx u.events (wrap .i64 (B.index-2))).bind λw=>dQ.J1 w.time D B e2 u) (dQ.J1 0 D B e2 u)
open dQ in
instance QH(D:Z4)(B:a_)(e2:W5):Fc Sy cL (dQ D B e2):=Fc.M 83 [enc D,enc B,enc e2] (cg 2 3 D (cg 1 5 e2 (bR 9 λu _=>o_ 2 7 0 u (bE 15 19 (bR 7 λw _=>rV 6 (kH w.time D B e2 u)) (rV 4 (kH 0 D B e2 u))))))
def rL(e0:W5)(B D:Int):aY X':=(bl (e0.kind==2) (some (e0.message==B)) (some false):aY X').bind λu=>(bl u (some (e0.peer==D)) (some false):aY X').bind λw=>some w
instance SB(e0:W5)(B D:Int):Fc Sy cL (rL e0 B D):=Fc.M 144 [enc e0,.fptr (cells B),.fptr (cells D)] (cg 2 3 e0 (ck 9 5 [1,8] 13 (bE 9 8 (bD 5) (bD 5)) λu=>ck 1 5 [2,3,14] 19 (bE 1 14 (bD 5) (bD 5)) λw=>aZ))
def vo(D:Z4)(p1 G B:Int):aY X':=(idx D.procs p1).bind λu=>(iD u.events (λz=>rL z G B)).bind λw=>some w
instance WA(G:Z4)(p1 D B:Int):Fc Sy cL (vo G p1 D B):=Fc.M 122 [enc G,.int .i64 p1,.int .i64 D,.int .i64 B] (cg 2 4 G (bR 10 λu _=>cW (F:=oZ 144 [.fptr (cells D),.fptr (cells B)] (λz=>rL z D B) ki.o8 u.events) 3 λw _=>aZ))
namespace eO
def jZ(D G:Z4)(J:aY (bU 200 bq))(T:a_)(U:Int)(x:a_×W5)(B:bU 200 bq):aY (Fw (bU 200 bq) Empty (a_×Int×(bU 200 bq))):=bl (x.2.kind==2) ((bU.at B x.2.message).bind λu=>bl (decide (u.from_.index>0)) (some (.r (x.1,8,B))) ((bU.at B x.2.message).bind λw=>some (.n (bU.set B x.2.message (⟨x.1,w.to_⟩:bq))))) (bl (x.2.kind==3) ((bU.at B x.2.message).bind λz=>bl (decide (z.to_.index>0)) (some (.r (x.1,8,B))) ((vo G x.2.peer x.2.message x.1.proc).bind λC=>bl C ((bU.at B x.2.message).bind λI=>some (.n (bU.set B x.2.message (⟨I.from_,x.1⟩:bq)))) (some (.r (x.1,7,B))))) (some (.n B)))
def E1(B G:Z4)(J:aY (bU 200 bq))(T:a_)(U:Int)(D:bU 200 bq):aY ((aY (bU 200 bq))×a_×Int):=(jA B).bind λu=>(kY (λ(x:a_×W5)(q:bU 200 bq)=>jZ B G J T U x q) u D).bind (Fw.rO (λq=>some (some q,⟨0,0⟩,0)) (λe=>elim e) (λe=>some ((none:aY (bU 200 bq)),e.1,e.2.1)))
end eO
def eO(B:Z4):aY ((aY (bU 200 bq))×a_×Int):=(jy B).bind λu=>eO.E1 u B (none:aY (bU 200 bq)) (⟨0,0⟩:a_) 0 (bU.QG 200 (⟨⟨0,0⟩,⟨0,0⟩⟩:bq))
open eO in
instance Ny(D:Z4):Fc Sy cL (eO D):=Fc.N 84 [enc D] (cg 2 1 D (cg 8 10 (bU.QG 200 (⟨⟨0,0⟩,⟨0,0⟩⟩:bq)) (Xf 0 5 (cr [Pv 1,Pv 2,Pv 3,Pv 4,Pv 10] [Xb 1 D,(2,.box [cv (none:aY (bU 200 bq))]),Xb 3 (⟨0,0⟩:a_),(4,.box [iv 0]),Xb 10 (bU.QG 200 (⟨⟨0,0⟩,⟨0,0⟩⟩:bq))]) [cv (none:aY (bU 200 bq))] (by simp only[cr,zN,qY,tw,rJ,tQ,uK,tG,vk,rK,tv,zu,uT,u7,u6,vg,xk,xm,tE,vj];rfl) (bC 7 λB _=>FL λO C=>Ca 4 [Pv 1,Pv 2,Pv 3,Pv 4,Pv 5,(12,.v (.clo 118 [] [.fptr (cells B)]))] (λw=>[Xb 1 D,(2,.box [cv (none:aY (bU 200 bq))]),Xb 3 (⟨0,0⟩:a_),(4,.box [iv 0]),(5,.box [.ptr 10 0]),Xb 10 w]) (λz=>elim z) (λz=>[Xb 1 D,(2,.box [cv (none:aY (bU 200 bq))]),Xb 3 z.1,(4,.box [iv z.2.1]),(5,.box [.ptr 10 0]),Xb 10 z.2.2]) (Aa B O C) (λu w=>Xf 2 6 ⟨[Pv 1,Pv 2,Pv 3,Pv 4,Pv 5,(12,.v (.clo 118 [] [.fptr (cells B)])),Cv 13 u.1,Cv 14 u.2],[Xb 1 D,(2,.box [cv (none:aY (bU 200 bq))]),Xb 3 (⟨0,0⟩:a_),(4,.box [iv 0]),(5,.box [.ptr 10 0]),Xb 10 w],[1,2,3,4,5],[],true,0⟩ [iv 0,iv 0] (by simp only[cr,zN,qY,tw,rJ,tQ,uK,tG,vk,rK,tv,zu,uT,u7,u6,vg,xk,xm,tE,vj];rfl) (Xf 4 7 ⟨[Pv 1,Pv 2,Pv 3,Pv 4,Pv 5,(12,.v (.clo 118 [] [.fptr (cells B)])),Cv 14 u.2,Pv 6],[Xb 1 D,(2,.box [cv (none:aY (bU 200 bq))]),Xb 3 (⟨0,0⟩:a_),(4,.box [iv 0]),(5,.box [.ptr 10 0]),Xb 10 w,Xb 6 u.1],[1,2,3,4,5],[],true,0⟩ [iv 0,iv 0,iv 0,iv 0,.v .bG] (by simp only[cr,zN,qY,tw,rJ,tQ,uK,tG,vk,rK,tv,zu,uT,u7,u6,vg,xk,xm,tE,vj];rfl) (o_ 0 7 0 u.2 (zm 1 (bE 22 19 (HZ 7 .i64 10 λG Q=>TS 2 1 false 10 w u.2.message 1 G Q (.int .i64 G.from_.index) (by rfl) (bE 3 28 aZ (HZ 8 .i64 10 λI S=>Ub 1 10 w u.2.message 0 I S (⟨u.1,I.to_⟩:bq) u.1 rfl aZ))) (bE 7 36 (HZ 7 .i64 10 λJ T=>TS 2 1 false 10 w u.2.message 3 J T (.int .i64 J.to_.index) (by rfl) (bE 3 45 aZ (bC 12 λW _=>dc 3 54 (HZ 8 .i64 10 λL U=>Ub 1 10 w u.2.message 2 L U (⟨L.from_,u.1⟩:bq) u.1 rfl aZ) aZ))) aZ)))))) (λw=>Y2 13 (cr [Pv 2,Pv 3,Pv 4] [(2,.box [.ptr 10 0]),Xb 3 (⟨0,0⟩:a_),(4,.box [iv 0]),Xb 10 w]) [.ptr 10 0,cv (⟨0,0⟩:a_),iv 0] (Uz (d:=10) (x:=w) (vs:=[enc (⟨0,0⟩:a_),.int .i64 0]) Zae) Zae) (λx=>elim x) (λz=>aZ)))))
namespace jD
def J1(D:bU 200 bq)(B:Sl a_)(J:Sl W5)(G:a_):aY (Sl a_):=(idx J (wrap .i64 (G.index-1))).bind λu=>(bl (u.kind==2) ((bU.at D u.message).bind λw=>some (decide (w.to_.index>0))) (some false):aY X').bind λz=>bl z ((bU.at D u.message).bind λC=>(fW B (C.to_:a_)).bind λI=>some I) (some B)
theorem kH(B:bU 200 bq)(D:Sl a_)(J:Sl W5)(G:a_):Le ((J1 B D J G).bind (λr=>some [enc r])) (b_ Sy cL (qc (tr Tx 123)) (qx (tb Tx 123) [1,1,1,1,0,0] [] (cr [Kv 1 B,Pv 5,Ov 7,Cv 8 J] [Xb 5 G,Lb 2007 D]))):=bR 7 λu _=>o_ 2 9 0 u (ck 8 10 [40] 50 (bE 8 40 (Nt 4 .i64 λw z=>SP 0 2 B u.message 0 w z (SP 0 1 B u.message 2 w z (Ot 0 1 false B u.message 3 w z (.int .i64 w.to_.index) (by rfl) (bD 2)))) (bD 10)) λL=>bE 2 50 (Nt 7 .i64 λC I=>SP 0 2 B u.message 0 C I (Ot 0 2 true B u.message 2 C I (enc C.to_) (by rfl) (nk 1 2007 59 60 λO _=>aZ))) aZ)
end jD
def jD(D:Z4)(B:bU 200 bq)(x2:a_):aY (Sl a_):=(idx D.procs x2.proc).bind λu=>bl (decide (x2.index<(len u.events))) (jD.J1 B (Sl.row [⟨x2.proc,wrap .i64 (x2.index+1)⟩]:Sl a_) u.events x2) (jD.J1 B (Sl.nil:Sl a_) u.events x2)
open jD in
instance Wv(D:Z4)(B:bU 200 bq)(x2:a_):Fc Sy cL (jD D B x2):=Fc.N 123 [enc D,.fptr (cells B),enc x2] (cg 2 3 D (bR 15 λu _=>cA 11 u.events (bE 3 21 (Y_ 10 29 30 .bG (⟨x2.proc,wrap .i64 (x2.index+1)⟩:a_) (rV 5 (kH B (Sl.row [⟨x2.proc,wrap .i64 (x2.index+1)⟩]:Sl a_) u.events x2))) (rV 5 (kH B (Sl.nil:Sl a_) u.events x2)))))
namespace iO
def kQ(T:Z4)(U:Sl a_)(W:Int)(Y:Z4)(a:bU 200 bq)(b:a_)(c:X')(J:a_)(B:Sl a_)(G:Int)(D:Mo a_ X'):aY (Fw ((Sl a_)×Int×(Mo a_ X')) ((Sl a_)×(Mo a_ X')) Unit):=bl (decide (G<W)) ((idx U G).bind λu=>bl (XA u J) (some (.r ())) (bl (um D u false) (some (.n (B,wrap .i64 (G+1),D))) ((fW B (u:a_)).bind λw=>some (.n (w,wrap .i64 (G+1),oK D u true))))) (some (.x (B,D)))
def W3(D:Sl a_)(B:Z4)(T:Sl a_)(U W:Int)(Y:Z4)(a:bU 200 bq)(b:a_)(c:X')(G:a_)(J:Mo a_ X'):aY (Fw ((Sl a_)×(Mo a_ X')) Unit Unit):=(cD (λq:(Sl a_)×Int×(Mo a_ X')=>kQ B T U Y a b c G q.1 q.2.1 q.2.2) (D,W,J)).bind (Fw.elim (λe=>some (.n (e.1,e.2))) (λe=>some (.r ())))
def cI(D G:Z4)(J:bU 200 bq)(W:a_)(Y:X')(T:a_)(B:Sl a_)(U:Mo a_ X'):aY (Fw ((Sl a_)×(Mo a_ X')) Unit Unit):=bl (decide ((len B)>0)) ((Sl.lS B (wrap .i64 ((len B)-1))).bind λw=>(Sl.get B w).bind λz=>(pN B none (some (wrap .i64 ((len B)-1)))).bind λC=>(jD G J z).bind λu=>W3 C D u (len u) 0 G J W Y T U) (some (.x ()))
def W2(G:Sl a_)(B T:Z4)(U:bU 200 bq)(W:a_)(Y:X')(D:a_)(J:Mo a_ X'):aY (Fw Unit Empty a_):=(cD (λq:(Sl a_)×(Mo a_ X')=>cI B T U W Y D q.1 q.2) (G,J)).bind (Fw.elim (λe=>some (.n ())) (λe=>some (.r D)))
def jZ(B D:Z4)(G:bU 200 bq)(J:a_)(T:X')(x:a_×W5):aY (Fw Unit Empty a_):=W2 (Sl.row [x.1]:Sl a_) B D G J T x.1 []
def E1(B D:Z4)(G:bU 200 bq)(J:a_)(T:X'):aY (a_×X'):=(jA B).bind λu=>(kY (λ(x:a_×W5)(q:Unit)=>jZ B D G J T x) u ()).bind (Fw.rO (λq=>some (⟨0,0⟩,false)) (λe=>elim e) (λe=>some (e,true)))
end iO
def iO(B:Z4)(D:bU 200 bq):aY (a_×X'):=(jy B).bind λu=>iO.E1 u B D (⟨0,0⟩:a_) false
open iO in
instance US(B:Z4)(G:bU 200 bq):Fc Sy cL (iO B G):=Fc.M 85 [enc B,.fptr (cells G)] (cg 2 2 B (bC 9 λw _=>FL λU Q=>Ca 4 [Pv 2,Pv 3,Pv 4,Pv 5,(13,.v (.clo 118 [] [.fptr (cells w)]))] (λS=>[Xb 2 B,(3,.box [cp G]),Xb 4 (⟨0,0⟩:a_),(5,.box [bv false])]) (λI=>elim I) (λI=>[Xb 2 B,(3,.box [cp G]),Xb 4 I,(5,.box [bv true])]) (Aa w U Q) (λC S=>zm 4 (iJ 18 (λu=>⟨[Pv 2,Pv 3,Pv 4,Pv 5,Pv 6,(7,.mp 16),Ov 8,(13,.v (.clo 118 [] [.fptr (cells w)]))],[Xb 2 B,(3,.box [cp G]),Xb 4 (⟨0,0⟩:a_),(5,.box [bv false]),Xb 6 C.1,(16,rS u.2),Lb 2008 u.1],[2,3,4,5],[],true,0⟩) (λJ=>(2,⟨[Pv 2,Pv 3,Pv 4,Pv 5,(13,.v (.clo 118 [] [.fptr (cells w)]))],[Xb 2 B,(3,.box [cp G]),Xb 4 (⟨0,0⟩:a_),(5,.box [bv false])],[2,3,4,5],[],true,0⟩)) (λJ=>⟨[],[Xb 2 B,(3,.box [cp G]),Xb 4 C.1,(5,.box [bv true])],[2,3,4,5],[],true,0⟩) (λu=>Fe 6 2008 u.1 (bE 3 21 (Fe 8 2008 u.1 (n9 .i64 1 2008 λW _=>yS 0 2008 0 2 true (λL=>.agg [.int .i64 L.proc,.int .i64 L.index]) λL _=>Fe 8 2008 u.1 (Za 1 false true 2008 32 [.int .i64 (wrap .i64 ((len u.1)-1))] λX _=>bC 8 λO _=>cA 0 O (iJ 6 (λz=>⟨[Pv 2,Pv 3,Pv 4,Pv 5,Pv 6,(7,.mp 16),Ov 8,(13,.v (.clo 118 [] [.fptr (cells w)])),Cv 36 O,Iv 37 (len O),Iv 38 z.2.1],[Xb 2 B,(3,.box [cp G]),Xb 4 (⟨0,0⟩:a_),(5,.box [bv false]),Xb 6 C.1,(16,rS z.2.2),Lb 2008 z.1],[2,3,4,5],[],true,0⟩) (λD=>(4,⟨[Pv 2,Pv 3,Pv 4,Pv 5,Pv 6,(7,.mp 16),Ov 8,(13,.v (.clo 118 [] [.fptr (cells w)]))],[Xb 2 B,(3,.box [cp G]),Xb 4 (⟨0,0⟩:a_),(5,.box [bv false]),Xb 6 C.1,(16,rS D.2),Lb 2008 D.1],[2,3,4,5],[],true,0⟩)) (λD=>⟨[],[Xb 2 B,(3,.box [cp G]),Xb 4 C.1,(5,.box [bv true])],[2,3,4,5],[],true,0⟩) (λz=>bE 8 39 (bR 7 λT _=>bE 13 44 aZ (Um 7 16 z.2.2 T false (dc 3 49 aZ (XX 5 16 z.2.2 T true (nk 6 2008 54 55 λY _=>aZ))))) aZ) (λD=>aZ) (λD=>aZ))))) aZ)) (λJ=>aZ) (λJ=>aZ))) (λS=>aZ) (λx=>elim x) (λI=>aZ)))
namespace ij
def L4(B D:Z4)(G:a_)(J:Int)(x:a_×W5):aY (Fw Unit Empty (a_×Int)):=(dQ D x.1 x.2).bind λu=>bl (u==0) (some (.n ())) (some (.r (x.1,u)))
def E2(B D:Z4)(G:a_)(J:Int):aY (a_×Int):=(jA B).bind λz=>(kY (λ(x:a_×W5)(q:Unit)=>L4 B D G J x) z ()).bind (Fw.rO (λq=>(eO D).bind λu=>bl (u.2.2==0) ((u.1).bind λC=>(iO D C).bind λw=>bl w.2 (some (w.1,10)) (some (⟨0,0⟩,0))) (some (u.2.1,u.2.2))) (λe=>elim e) (λe=>some (e.1,e.2)))
def bz(D:Int)(G:Z4)(J:a_)(T:Int)(B:Int):aY (Fw Int Unit (a_×Int)):=bl (decide (B<D)) ((eR G B).bind λu=>bl (u==0) (some (.n (wrap .i64 (B+1)))) (some (.r ((⟨B,0⟩:a_),u)))) (some (.x ()))
def W1(J T:Int)(B:Z4)(D:a_)(G:Int):aY (a_×Int):=(cD (λq:Int=>bz J B D G q) T).bind (Fw.elim (λe=>(jy B).bind λu=>ij.E2 u B D G) (λe=>some (e.1,e.2)))
end ij
def ij(B:Z4):aY (a_×Int):=(nY (len B.procs) 1 8).bind λu=>bl u (ij.W1 (len B.procs) 0 B (⟨0,0⟩:a_) 0) (some (⟨0,0⟩,1))
open ij in
instance Ww(B:Z4):Fc Sy cL (ij B):=Fc.M 52 [enc B] (cg 2 1 B (cA 9 B.procs (bC 0 λO _=>dc 3 18 (cA 8 B.procs (iJ 5 (λC=>(cr [Pv 1,Pv 2,Pv 3,Iv 22 (len B.procs),Iv 23 C] [Xb 1 B,Xb 2 (⟨0,0⟩:a_),(3,.box [iv 0])])) (λu=>(0,(cr [Pv 1,Pv 2,Pv 3] [Xb 1 B,Xb 2 (⟨0,0⟩:a_),(3,.box [iv 0])]))) (λu=>(cr [Pv 2,Pv 3] [Xb 2 u.1,(3,.box [iv u.2])])) (λC=>bE 7 24 (bC 15 λQ _=>dc 9 30 aZ aZ) aZ) (λu=>bC 6 λz _=>FL λJ D=>Ca 4 [Pv 1,Pv 2,Pv 3,(36,.v (.clo 118 [] [.fptr (cells z)]))] (λG=>[Xb 1 B,Xb 2 (⟨0,0⟩:a_),(3,.box [iv 0])]) (λw=>elim w) (λw=>[Xb 1 B,Xb 2 w.1,(3,.box [iv w.2])]) (Aa z J D) (λL G=>o_ 8 7 0 L.2 (zm 1 (bC 7 λS _=>dc 9 44 aZ aZ))) (λG=>bC 5 λI _=>dc 17 54 (JU 8 (λT=>(cr [Pv 2,Pv 3,(36,.v (.clo 118 [] [.fptr (cells z)])),Pv 10,Iv 11 I.2.2,Bv 54 false,Cv 58 B,Cv 59 T] [Xb 1 B,Xb 2 (⟨0,0⟩:a_),(3,.box [iv 0]),Xb 10 I.2.1])) λU _=>bC 0 λW _=>bE 13 63 aZ aZ) aZ) (λx=>elim x) (λw=>aZ)) (λu=>aZ))) aZ)))
def b9(B:Z4):aY X':=(ij B).bind λu=>some (u.2==0)
instance Wu(B:Z4):Fc Sy cL (b9 B):=Fc.M 27 [enc B] (cg 2 1 B (bC 6 λu _=>aZ))
def vi(B:Int):aY X':=(bl (B==2) (some true) (some (B==3)):aY X').bind λu=>(bl u (some true) (some (B==4)):aY X').bind λw=>some w
instance Sx(B:Int):Fc Sy cL (vi B):=Fc.M 124 [.int .i64 B] (ck 10 3 [5] 8 (bE 10 5 (bD 3) (bD 3)) λu=>ck 1 3 [0,9] 12 (bE 1 9 (bD 3) (bD 3)) λw=>aZ)
def kV(B:UV):aY X':=(bl (decide (B.kind<1)) (some true) (some (decide (B.kind>=22))):aY X').bind λz=>(bl z (some true) ((bU.at wY B.kind).bind λC=>some (!((len B.l)==C))):aY X').bind λD=>(bl D (some true) (some (decide (B.n<0))):aY X').bind λG=>(bl G (some true) (some (decide (B.n>1125899906842624))):aY X').bind λI=>(bl I (some true) ((bl (B.n==0) (some false) (some (!(B.kind==1))):aY X').bind λJ=>some J):aY X').bind λL=>bl L (some false) ((vi B.kind).bind λO=>(bl O (some true) ((bl (B.proc==0) (some (B.peer==0)) (some false):aY X').bind λQ=>(bl Q (some (toList B.name==toList ByteArray.empty)) (some false):aY X').bind λu=>some u):aY X').bind λw=>some w)
instance TI(B:UV):Fc Sy cL (kV B):=Fc.M 88 [enc B] (cg 2 1 B (ck 10 4 [6] 10 (bE 10 6 (bD 4) (bD 4)) λD=>ck 1 9 [11] 20 (bE 1 11 (bD 9) (jb 2 13 (Pred.lE B.l) (cA 0 B.l (Nt 2 .i64 λu w=>Ot 0 1 false wY B.kind 0 u w (.int .i64 u) (by rfl) (bD 2))))) λG=>ck 1 4 [21] 25 (bE 1 21 (bD 4) (bD 4)) λI=>ck 1 4 [26] 30 (bE 1 26 (bD 4) (bD 4)) λJ=>ck 1 9 [31] 40 (bE 1 31 (bD 9) (ck 4 4 [35] 39 (dc 4 35 (bD 4) (bD 4)) λL=>bD 1)) λO=>bE 2 40 aZ (bC 7 λQ _=>ck 1 14 [1,44] 58 (bE 1 44 (bD 14) (ck 4 4 [48] 52 (bE 4 48 (bD 4) (bD 4)) λS=>ck 1 4 [1,53] 57 (bE 1 53 (bD 4) (bD 4)) λz=>bD 1)) λC=>aZ)))
def iI(D:UV)(G B:Int)(r:(UV×Int×Int)->aY (X'×Int)):aY (X'×Int):=(r (D,wrap .i64 (G+1),B)).bind λu=>some ((!u.1),u.2)
abbrev ya(r:(Pred×Int×Int)->aY (Bool×Int))(a:xG Sy cL 87 (λz:Pred×Int×Int=>[cv z.1,iv z.2.1,.ptr 9004 0,.ptr 9003 0]) (λz:Pred×Int×Int=>[(9004,bx (z.2.2:Int)),(9003,.box [.clo 87 [] [.ptr 9004 0,.ptr 9003 0]])]) (λr:Bool×Int=>[.bool r.1]) (λ(z:Pred×Int×Int)(r:Bool×Int)=>[(9004,bx (r.2:Int)),(9003,.box [.clo 87 [] [.ptr 9004 0,.ptr 9003 0]])]) r)(D:Pred)(G B:Int):oh Sy cL (iI D G B r):=oh.mk' 90 [cv D,.ptr 9003 0,.v (.fptr (cells G))] [(9003,.box [.clo 87 [] [.ptr 9004 0,.ptr 9003 0]]),(9004,bx (B:Int))] (λr:Bool×Int=>[.bool r.1]) (λr:Bool×Int=>[(9003,.box [.clo 87 [] [.ptr 9004 0,.ptr 9003 0]]),(9004,bx (r.2:Int))]) (cg 2 3 D (xU 9 (oh.of (D,wrap .i64 (G+1),B) a) λu _=>aZ))
section
variable{σ:Type}{gf:Y'}{ex:ST}{os:σ->dB}{p:UV->σ->aY (X'×σ)}(h:zp Sy cL (.clo gf [] ex) gf ex os p)(s0:Sl UV)(x:σ)
abbrev wh:oh Sy cL (SX s0 p x):=oh.mk' 125 [cv s0,(.clo gf [] ex)] (os x) (λr=>[.int .i64 r.1]) (λr=>os r.2) (cA 9 s0 (iJ 5 (λq=>⟨[Cv 0 s0,(1,(.clo gf [] ex)),Iv 7 (len s0),Iv 8 q.1],os q.2,(os x).map (·.1),[],true,0⟩) (λe=>(0,⟨[],os e,(os x).map (·.1),[],true,0⟩)) (λe=>⟨[Iv 4 e.1],os e.2,(os x).map (·.1),[],true,0⟩) (λq=>bE 7 9 (bR 16 λy _=>OT 1 h y q.2 λr _=>bE 2 16 aZ aZ) aZ) (λe=>H7 9 h [.int .i64 (-1)] rfl) (λe=>Le.of_eq (KN h (ys:=[.int .i64 e.1]) Zae rfl)))) (hp:=λr=>h.wi x r.2)
abbrev wF:oh Sy cL (Bx s0 p x):=oh.mk' 89 [cv s0,(.clo gf [] ex)] (os x) (λr=>[.bool r.1]) (λr=>os r.2) (Mm 9 (wh h s0 x) (h.hd x (enc s0)) (λr=>h.put x r.2) λy _=>H7 5 h [.bool (decide (y.1>=0))] rfl) (hp:=λr=>h.wi x r.2)
end
section
variable{σ:Type}{gf:Y'}{ex:S'}{os:σ->dB}{p:UV->σ->aY (X'×σ)}(h:zp Sy cL (.v (.clo gf [] ex)) gf (ex.map .v) os p)(s0:Sl UV)(x:σ)
abbrev vL:oh Sy cL (SX s0 p x):=oh.mk' 125 [cv s0,(.v (.clo gf [] ex))] (os x) (λr=>[.int .i64 r.1]) (λr=>os r.2) (cA 9 s0 (iJ 5 (λq=>⟨[Cv 0 s0,(1,(.v (.clo gf [] ex))),Iv 7 (len s0),Iv 8 q.1],os q.2,(os x).map (·.1),[],true,0⟩) (λe=>(0,⟨[],os e,(os x).map (·.1),[],true,0⟩)) (λe=>⟨[Iv 4 e.1],os e.2,(os x).map (·.1),[],true,0⟩) (λq=>bE 7 9 (bR 16 λy _=>OT 1 h y q.2 λr _=>bE 2 16 aZ aZ) aZ) (λe=>H7 9 h [.int .i64 (-1)] rfl) (λe=>Le.of_eq (KN h (ys:=[.int .i64 e.1]) Zae rfl)))) (hp:=λr=>h.wi x r.2)
abbrev l9:oh Sy cL (Bx s0 p x):=oh.mk' 89 [cv s0,(.v (.clo gf [] ex))] (os x) (λr=>[.bool r.1]) (λr=>os r.2) (Mm 9 (vL h s0 x) (h.hd x (enc s0)) (λr=>h.put x r.2) λy _=>H7 5 h [.bool (decide (y.1>=0))] rfl) (hp:=λr=>h.wi x r.2)
end
def eM(G:UV)(B D:Int)(r:(UV×Int×Int)->aY (X'×Int)):aY (X'×Int):=(bl (decide ((wrap .i64 (D-1))<0)) (some true) (some (decide (B>20))):aY X').bind λw=>(bl w (some true) ((kV G).bind λz=>some (!z)):aY X').bind λC=>bl C (some (false,wrap .i64 (D-1))) ((Bx G.l (λx s=>iI x B s r) (wrap .i64 (D-1))).bind λu=>some ((!u.1),u.2))
theorem x_(r:(UV×Int×Int)->aY (X'×Int))(a:xG Sy cL 87 (λz:UV×Int×Int=>[cv z.1,iv z.2.1,.ptr 9004 0,.ptr 9003 0]) (λz:UV×Int×Int=>[(9004,bx (z.2.2:Int)),(9003,.box [.clo 87 [] [.ptr 9004 0,.ptr 9003 0]])]) (λr:X'×Int=>[.bool r.1]) (λ(z:UV×Int×Int)(r:X'×Int)=>[(9004,bx (r.2:Int)),(9003,.box [.clo 87 [] [.ptr 9004 0,.ptr 9003 0]])]) r)(D:UV)(B G:Int):∀J,eM D B G r=some J->∃m',cL 87 [cv D,iv B,.ptr 9004 0,.ptr 9003 0] [(9004,bx (G:Int)),(9003,.box [.clo 87 [] [.ptr 9004 0,.ptr 9003 0]])]=some (((λr:X'×Int=>[.bool r.1]) J).map .v,m')/\∀T,jQ m' ([(9004,bx (G:Int)),(9003,.box [.clo 87 [] [.ptr 9004 0,.ptr 9003 0]])].map (·.1)) T=some (ni T ((λr:X'×Int=>[(9004,bx (r.2:Int)),(9003,.box [.clo 87 [] [.ptr 9004 0,.ptr 9003 0]])]) J)):=(oh.mk' 87 [cv D,iv B,.ptr 9004 0,.ptr 9003 0] [(9004,bx (G:Int)),(9003,.box [.clo 87 [] [.ptr 9004 0,.ptr 9003 0]])] (λr:X'×Int=>[.bool r.1]) (λr:X'×Int=>[(9004,bx (r.2:Int)),(9003,.box [.clo 87 [] [.ptr 9004 0,.ptr 9003 0]])]) (cg 2 4 D (ck 17 3 [11] 14 (bE 17 11 (bD 3) (bD 3)) λu=>ck 1 4 [15] 19 (bE 1 15 (bD 4) (bC 1 λw _=>bD 2)) λC=>bE 2 19 aZ (jb 7 21 (Pred.lE D.l) (xU 2 (wF (zp.ofK (σ:=Int) (g:=90) (e:=[.ptr 9003 0,cp B]) (os:=λs=>[(9003,.box [.clo 87 [] [.ptr 9004 0,.ptr 9003 0]]),(9004,bx (s:Int))]) (p:=(λx s=>iI x B s r)) (λx s=>ya r a x B s)) D.l (wrap .i64 (G-1))) λI _=>aZ)))):oh Sy cL (eM D B G r)).h
def qB(D:UV)(B G:Int):aY (X'×Int):=dU (λr(z:UV×Int×Int)=>eM z.1 z.2.1 z.2.2 r) 100000 (D,B,G)
abbrev AD(D:Pred)(B G:Int):oh Sy cL (qB D B G):=oh.of (D,B,G) (xG.fix (A:=λz:Pred×Int×Int=>[cv z.1,iv z.2.1,.ptr 9004 0,.ptr 9003 0]) (O:=λz:Pred×Int×Int=>[(9004,bx (z.2.2:Int)),(9003,.box [.clo 87 [] [.ptr 9004 0,.ptr 9003 0]])]) (E:=λr:Bool×Int=>[.bool r.1]) (M:=λ(z:Pred×Int×Int)(r:Bool×Int)=>[(9004,bx (r.2:Int)),(9003,.box [.clo 87 [] [.ptr 9004 0,.ptr 9003 0]])]) (b:=(λr(z:Pred×Int×Int)=>eM z.1 z.2.1 z.2.2 r)) Zae Zae Zae (λr a z=>x_ r a z.1 z.2.1 z.2.2) 100000)
def lY(B:UV):aY X':=(qB B 1 200).bind λu=>some u.1
instance Q3(B:UV):Fc Sy cL (lY B):=Fc.M 61 [enc B] (cg 2 1 B (xU 26 (AD B 1 200) λu _=>aZ))
def kA(B:Z4)(p1:Int):aY X':=(bl (decide (p1>=0)) (some (decide (p1<(len B.procs)))) (some false):aY X').bind λu=>some u
instance QX(B:Z4)(p1:Int):Fc Sy cL (kA B p1):=Fc.M 92 [enc B,.int .i64 p1] (cg 2 2 B (ck 8 6 [1,2,7] 13 (bE 8 7 (cA 3 B.procs (bD 2)) (bD 6)) λu=>aZ))
def ov(B:Var)(D:V'):aY X':=some (toList B.name==toList D)
instance OH(B:Var)(D:V'):Fc Sy cL (ov B D):=Fc.M 126 [enc B,.fptr (cells D)] (aZ)
def rB(D:Z4)(p1:Int)(B:V'):aY X':=(idx D.procs p1).bind λu=>(gV u.vars (λz=>ov z B)).bind λw=>some w
instance RZ(D:Z4)(p1:Int)(B:V'):Fc Sy cL (rB D p1 B):=Fc.M 93 [enc D,.int .i64 p1,.str B] (cg 2 3 D (bR 9 λu _=>cW (F:=qh 126 [.fptr (cells B)] (λz=>ov z B) ki.o8 u.vars) 3 λw _=>aZ))
def kI(B:UV)(D:Z4):aY X':=bl (B.kind==2) ((kA D B.proc).bind λC=>(bl C (some (B.peer==0)) (some false):aY X').bind λG=>(bl G ((rB D B.proc B.name).bind λI=>some I) (some false):aY X').bind λJ=>some J) (bl (B.kind==3) ((kA D B.proc).bind λL=>(bl L (some (B.peer==0)) (some false):aY X').bind λO=>(bl O (some (toList B.name==toList ByteArray.empty)) (some false):aY X').bind λQ=>some Q) (bl (B.kind==4) ((kA D B.proc).bind λS=>(bl S ((kA D B.peer).bind λT=>some T) (some false):aY X').bind λu=>(bl u (some (!(B.proc==B.peer))) (some false):aY X').bind λw=>(bl w (some (toList B.name==toList ByteArray.empty)) (some false):aY X').bind λz=>some z) (some true)))
instance Ll(B:UV)(D:Z4):Fc Sy cL (kI B D):=Fc.M 91 [enc B,.fptr (cells D)] (cg 2 2 B (bE 17 6 (bC 6 λC _=>ck 1 4 [12] 16 (bE 1 12 (bD 4) (bD 4)) λG=>ck 1 7 [1,2,17] 24 (bE 1 17 (bC 5 λI _=>bD 1) (bD 7)) λJ=>aZ) (bE 7 25 (bC 6 λL _=>ck 1 4 [31] 35 (bE 1 31 (bD 4) (bD 4)) λO=>ck 1 4 [2,36] 40 (bE 1 36 (bD 4) (bD 4)) λQ=>aZ) (bE 7 41 (bC 6 λS _=>ck 1 5 [1,47] 52 (bE 1 47 (bC 3 λT _=>bD 1) (bD 5)) λu=>ck 1 6 [53] 59 (bE 1 53 (bD 6) (bD 6)) λw=>ck 1 4 [2,60] 64 (bE 1 60 (bD 4) (bD 4)) λz=>aZ) aZ))))
def s6(B:UV)(p1:UV->aY X')(r:UV->aY X'):aY X':=(r B).bind λu=>some (!u)
abbrev BI(g1:FuncId)(e1:aX V)(p1:Pred->aY Bool)(b:ki Sy cL g1 [] e1 (λz:Pred=>[enc z]) (λr:Bool=>[.bool r]) p1 true)(r:Pred->aY Bool)(a:iu Sy cL 75 (λz:Pred=>[enc z,.clo g1 [] e1]) (λr:Bool=>[.bool r]) r true)(B:Pred):Fc Sy cL (s6 B p1 r):=Fc.M 112 [enc B,.fptr [.clo g1 [] e1]] (cg 2 2 B (bC (F:=Fc.of B a) 7 λu _=>aZ))
def jm(D:UV)(p1:UV->aY X')(r:UV->aY X'):aY X':=(p1 D).bind λw=>(bl w ((Bx D.l (λx u=>((λz=>s6 z p1 r) x).map λb=>(b,u)) ()).bind λB=>some (!B.1)) (some false):aY X').bind λC=>some C
theorem BX(g1:Y')(e1:S')(p1:UV->aY X')(a:ki Sy cL g1 [] e1 (λz:UV=>[enc z]) (λr:X'=>[.bool r]) p1 true)(r:UV->aY X')(b:iu Sy cL 75 (λz:UV=>[enc z,.clo g1 [] e1]) (λr:X'=>[.bool r]) r true)(B:UV):Le ((jm B p1 r).bind λr=>some [.bool r]) (kf cL 75 [enc B,.clo g1 [] e1]):=(Fc.M 75 [enc B,.clo g1 [] e1] (cg 2 2 B (wX 8 a.f B λw _=>Cn 1 6 [] (λu=>(cr [Bv 14 u] [Xb 2 B])) (bE 1 8 (jb 2 10 (Pred.lE B.l) (xU 2 (l9 (zp.XC (g:=112) (e:=[.fptr [.clo g1 [] e1]]) (p:=(λz=>s6 z p1 r)) (ki.o8 (F:=λz=>BI g1 e1 p1 a r b z))) B.l ()) λC _=>bD 2)) (bD 7)) λu=>aZ)):Fc Sy cL (jm B p1 r)).F.h ()
def ny(B:UV)(p1:UV->aY X'):aY X':=dU (λr(z:UV)=>jm z p1 r) 100000 B
abbrev tS(g1:FuncId)(e1:aX V)(p1:Pred->aY Bool)(a:ki Sy cL g1 [] e1 (λz:Pred=>[enc z]) (λr:Bool=>[.bool r]) p1 true)(B:Pred):Fc Sy cL (ny B p1):=Fc.of B (iu.fix (A:=λz:Pred=>[enc z,.clo g1 [] e1]) (E:=λr:Bool=>[.bool r]) (sc:=true) (b:=(λr(z:Pred)=>jm z p1 r)) Zae (λ_ _=>rfl) (λr c z=>BX g1 e1 p1 a r c z) 100000)
def oq(B:Z4)(p1:UV):aY X':=(ny p1 (λz=>kI z B)).bind λu=>some u
instance OD(B:Z4)(p1:UV):Fc Sy cL (oq B p1):=Fc.M 62 [enc B,enc p1] (cg 2 2 B (cg 0 3 p1 (cW (F:=tS 91 [.fptr (cells B)] (λz=>kI z B) ki.o8 p1) 7 λu _=>aZ)))
def lV(B:Int):Pi:=bl (decide (B<=8)) (some 1) (some 2)
instance Q1(B:Int):Fc Sy cL (lV B):=Fc.M 73 [.int .i64 B] (bE 12 4 aZ aZ)
def sF(B:Int):Pi:=bl (decide (B<=12)) (some 1) (some 2)
instance Uj(B:Int):Fc Sy cL (sF B):=Fc.M 96 [.int .i64 B] (bE 12 4 aZ aZ)
def mz(B D:UV):aY X':=(lV B.kind).bind λu=>(sF D.kind).bind λw=>some (!(u==w))
instance K7(B D:UV):Fc Sy cL (mz B D):=Fc.M 95 [enc B,.fptr (cells D)] (cg 2 2 B (cW 7 λu _=>cW 2 λw _=>aZ))
def jk(B:UV):aY X':=(Bx B.l (λx u=>((λz=>mz z B) x).map λb=>(b,u)) ()).bind λw=>some (!w.1)
instance OG(B:UV):Fc Sy cL (jk B):=Fc.M 94 [enc B] (cg 2 1 B (jb 7 4 (Pred.lE B.l) (xU 2 (l9 (zp.XC (g:=95) (e:=[.fptr (cells B)]) (p:=(λz=>mz z B)) ki.o8) B.l ()) λu _=>aZ)))
def oG(B:UV):aY X':=(ny B (λz=>jk z)).bind λu=>some u
instance Rn(B:UV):Fc Sy cL (oG B):=Fc.M 63 [enc B] (cg 2 1 B (bC (F:=tS 94 [] (λz=>jk z) ki.o8 B) 6 λu _=>aZ))
namespace eT
def cI(D:Zg)(B i4:Int):aY (Fw (Int×Int) Int Empty):=bl (decide (i4<(len D))) ((idx D i4).bind λu=>some (.n ((if u<B then u else B),wrap .i64 (i4+1)))) (some (.x B))
def W2(B:Zg)(D i4:Int):Pi:=(cD (λq:Int×Int=>cI B q.1 q.2) (D,i4)).bind (Fw.elim (λe=>some e) (λe=>elim e))
def J1(B:Zg):Pi:=(idx B 0).bind λu=>eT.W2 B u 1
end eT
def eT(B:Zg):Pi:=bl (decide ((len B)<1)) (none) (eT.J1 B)
open eT in
instance To(B:Zg):Fc Sy cL (eT B):=Fc.M 147 [enc B] (cA 9 B (bE 3 7 ((Le.none _)) (qf 4 (bR 3 λz _=>gJ 12 (λu=>(cr [Cv 0 B,Iv 3 u.1,Iv 4 u.2] [])) (λw=>(0,(cr [Iv 3 w] []))) (λu=>cA 6 B (bE 3 15 (bR 9 λC _=>aZ) aZ)) (λw=>aZ)))))
namespace eV
def cI(D:Zg)(B i4:Int):aY (Fw (Int×Int) Int Empty):=bl (decide (i4<(len D))) ((idx D i4).bind λu=>some (.n ((if u>B then u else B),wrap .i64 (i4+1)))) (some (.x B))
def W2(B:Zg)(D i4:Int):Pi:=(cD (λq:Int×Int=>cI B q.1 q.2) (D,i4)).bind (Fw.elim (λe=>some e) (λe=>elim e))
def J1(B:Zg):Pi:=(idx B 0).bind λu=>eV.W2 B u 1
end eV
def eV(B:Zg):Pi:=bl (decide ((len B)<1)) (none) (eV.J1 B)
open eV in
instance Sj(B:Zg):Fc Sy cL (eV B):=Fc.M 148 [enc B] (cA 9 B (bE 3 7 ((Le.none _)) (qf 4 (bR 3 λz _=>gJ 12 (λu=>(cr [Cv 0 B,Iv 3 u.1,Iv 4 u.2] [])) (λw=>(0,(cr [Iv 3 w] []))) (λu=>cA 6 B (bE 3 15 (bR 9 λC _=>aZ) aZ)) (λw=>aZ)))))
def l8(B:Zg):aY bJ:=(eT B).bind λu=>(eV B).bind λw=>some ⟨u,w⟩
instance Ui(B:Zg):Fc Sy cL (l8 B):=Fc.M 129 [enc B] (bC 8 λu _=>bC 1 λw _=>aZ)
namespace e8
def bz(T:Int)(D:Sl W5)(G:Int)(J B:Int):aY (Fw (Int×Int) Int Empty):=bl (decide (B<G)) ((idx D B).bind λu=>(bl (u.kind==2) (some (u.peer==T)) (some false):aY X').bind λw=>bl w (some (.n (wrap .i64 (J+1),wrap .i64 (B+1)))) (some (.n (J,wrap .i64 (B+1))))) (some (.x J))
def W1(J T:Int)(B:Sl W5)(D G:Int):Pi:=(cD (λq:Int×Int=>bz J B D q.1 q.2) (T,G)).bind (Fw.elim (λe=>some e) (λe=>elim e))
end e8
def e8(B:Z4)(p1 D:Int):Pi:=(idx B.procs p1).bind λu=>e8.W1 D 0 u.events (len u.events) 0
open e8 in
instance OC(B:Z4)(p1 D:Int):Fc Sy cL (e8 B p1 D):=Fc.M 145 [enc B,.int .i64 p1,.int .i64 D] (cg 2 3 B (bR 14 λu _=>cA 2 u.events (gJ 5 (λw=>(cr [Iv 2 D,Iv 7 w.1,Cv 15 u.events,Iv 16 (len u.events),Iv 17 w.2] [])) (λz=>(0,(cr [Iv 7 z] []))) (λw=>bE 7 18 (bR 7 λC _=>o_ 2 9 0 C (ck 8 5 [9,24] 29 (bE 8 24 (bD 5) (bD 5)) λG=>bE 2 29 aZ aZ)) aZ) (λz=>aZ))))
def ou(B:Var)(D:V'):aY X':=some (toList B.name==toList D)
instance OJ(B:Var)(D:V'):Fc Sy cL (ou B D):=Fc.M 175 [enc B,.fptr (cells D)] (aZ)
def uJ(D:bP)(B:V'):Pi:=(fc D.vars (λz=>ou z B)).bind λu=>some u
instance Q6(D:bP)(B:V'):Fc Sy cL (uJ D B):=Fc.M 163 [enc D,.str B] (cg 2 2 D (cW (F:=oc 175 [.fptr (cells B)] (λz=>ou z B) ki.o8 D.vars) 9 λu _=>aZ))
def sI(D:Z4)(p1:Int)(B:V'):aY (Int×Int):=(b9 D).bind λw=>bl w ((bl (decide (p1<0)) (some true) (some (decide (p1>=(len D.procs)))):aY X').bind λz=>bl z (some (0,2)) ((idx D.procs p1).bind λC=>(uJ C B).bind λu=>bl (decide (u<0)) (some (0,13)) (some (u,0)))) (some (0,1))
instance Ug(D:Z4)(p1:Int)(B:V'):Fc Sy cL (sI D p1 B):=Fc.M 158 [enc D,.int .i64 p1,.str B] (cg 2 3 D (bC 9 λu _=>dc 4 9 (ck 6 6 [16] 22 (bE 6 16 (bD 6) (cA 3 D.procs (bD 2))) λw=>bE 3 13 aZ (bR 9 λz _=>bC 2 λC _=>bE 10 31 aZ aZ)) aZ))
def dI(s0:Zg):aY Zg:=(Sl.isNil s0).bind λu=>bl u (some Sl.nil) ((xO (Sl.row []:Zg) s0).bind λw=>some w)
theorem fE:lz Sy cL 49 (λs0:Zg=>[enc s0]) (λz=>dI z):=lz.mk' (nF (Tx 49)) (λs0=>X3 9 λu _=>bE 2 4 aZ (PU 7 5 7 λw _=>aZ))
def nT(B:bP):aY bP:=some B
instance Q2(B:bP):Fc Sy cL (nT B):=Fc.NE (λr:bP=>[(.clo 156 [] [.fptr (cells r)])]) 136 [enc B] (cg 2 1 B aZ)
namespace fS
def jZ(D:bP)(G:Int)(x:Int×(Zg))(B:Zg):aY (Fw Zg Empty Empty):=(idx x.2 G).bind λu=>(fW B (u:Int)).bind λw=>some (.n w)
def E1(B:bP)(G:Int)(D:Zg):aY Zg:=(jx B).bind λu=>(kY (λ(x:Int×(Zg))(q:Zg)=>jZ B G x q) u D).bind (Fw.rO (λq=>some q) (λe=>elim e) (λe=>elim e))
end fS
def fS(B:bP)(i1:Int):aY Zg:=(nT B).bind λu=>fS.E1 u i1 (Sl.nil:Zg)
open fS in
instance QZ(D:bP)(i1:Int):Fc Sy cL (fS D i1):=Fc.N 159 [enc D,.int .i64 i1] (cg 2 2 D (bC 13 λz _=>FL λC B=>Ca 5 [Pv 3,Pv 5,(9,.v (.clo 156 [] [.fptr (cells z)]))] (λu=>[(3,.box [iv i1]),(5,.box [.own 4100]),Lb 4100 u]) (λw=>elim w) (λw=>elim w) (Gn z C B) (λG u=>zm 3 (bR 7 λI _=>nk 2 4100 17 18 λJ _=>aZ)) (λu=>aZ) (λx=>elim x) (λx=>elim x)))
def q9(G:Z4)(p1:Int)(B:V'):aY (Int×Int×Int):=(sI G p1 B).bind λu=>bl (u.2==0) ((idx G.procs p1).bind λz=>(fS z u.1).bind λw=>(eT w).bind λC=>(eV w).bind λD=>some (C,D,0)) (some (0,0,u.2))
instance RW(D:Z4)(p1:Int)(B:V'):Fc Sy cL (q9 D p1 B):=Fc.M 146 [enc D,.int .i64 p1,.str B] (cg 2 3 D (bC 10 λu _=>dc 14 19 (bR 8 λw _=>bC 2 λz _=>bC 6 λC _=>bC 1 λG _=>aZ) aZ))
def gw(B:Z4)(p1:UV):aY bJ:=bl (p1.kind==1) ((l8 (Sl.row [p1.n]:Zg)).bind λw=>some w) (bl (p1.kind==3) ((idx B.procs p1.proc).bind λz=>some ⟨0,len z.events⟩) (bl (p1.kind==4) ((e8 B p1.proc p1.peer).bind λC=>some ⟨0,C⟩) ((q9 B p1.proc p1.name).bind λu=>some ⟨u.1,u.2.1⟩)))
instance Ux(B:Z4)(p1:UV):Fc Sy cL (gw B p1):=Fc.M 127 [enc B,enc p1] (cg 2 2 B (cg 0 3 p1 (bE 17 10 (cW 6 λw _=>aZ) (bE 7 16 (bR 7 λu _=>cA 2 u.events aZ) (bE 7 27 (bC 8 λz _=>aZ) (bC 11 λC _=>aZ))))))
def jf(B:bJ):aY X':=(bl (decide (B.low<(-1125899906842624))) (some true) (some (decide (B.high>1125899906842624))):aY X').bind λu=>some u
instance Ia(B:bJ):Fc Sy cL (jf B):=Fc.M 128 [enc B] (ck 12 4 [1,6] 10 (bE 12 6 (bD 4) (bD 4)) λu=>aZ)
def qz(a0:Int):Pi:=some (if(wrap .i64 (0-a0))>a0 then(wrap .i64 (0-a0))else a0)
instance Wi(a0:Int):Fc Sy cL (qz a0):=Fc.M 149 [.int .i64 a0] (aZ)
def gX(a0 B:Int):Pi:=(bl (a0==0) (some true) (some (B==0)):aY X').bind λu=>bl u (some 0) ((qz a0).bind λw=>(qz B).bind λz=>(zW .i64 1125899906842624 z).bind λC=>bl (decide (w>C)) (bl ((decide (a0<0))==(decide (B<0))) (some 1125899906842625) (some (wrap .i64 (0-1125899906842625)))) (some (wrap .i64 (a0*B))))
instance Pf(a0 B:Int):Fc Sy cL (gX a0 B):=Fc.M 130 [.int .i64 a0,.int .i64 B] (ck 11 3 [8] 11 (bE 11 8 (bD 3) (bD 3)) λu=>bE 2 11 aZ (bC 15 λw _=>bC 1 λz _=>Z7 0 λC _=>bE 3 20 (dc 15 25 aZ aZ) aZ))
namespace cU
def J2(D B:bJ)(r:(Z4×UV)->aY (bJ×X')):aY (bJ×X'):=(jf B).bind λu=>some (B,(!u))
def J1(U T:X')(J:UV)(G B D:bJ)(r:(Z4×UV)->aY (bJ×X')):aY (bJ×X'):=(bl U (some (!T)) (some true):aY X').bind λC=>bl C (some (⟨0,0⟩,false)) (bl (J.kind==5) (cU.J2 G (⟨wrap .i64 (0-B.high),wrap .i64 (0-B.low)⟩:bJ) r) (bl (J.kind==6) (cU.J2 G (⟨wrap .i64 (B.low+D.low),wrap .i64 (B.high+D.high)⟩:bJ) r) (bl (J.kind==7) (cU.J2 G (⟨wrap .i64 (B.low-D.high),wrap .i64 (B.high-D.low)⟩:bJ) r) ((gX B.low D.low).bind λI=>(gX B.low D.high).bind λL=>(gX B.high D.low).bind λu=>(gX B.high D.high).bind λw=>(l8 (Sl.row [I,L,u,w]:Zg)).bind λz=>cU.J2 G z r))))
theorem kH(r:(Z4×UV)->aY (bJ×X'))(a:iu Sy cL 97 (λz:Z4×UV=>[enc z.1,enc z.2]) (λr:bJ×X'=>[enc r.1,.bool r.2]) r true)(D B:X')(G:UV)(J T U:bJ):Le ((J1 D B G J T U r).bind (λr=>some [enc r.1,.bool r.2])) (b_ Sy cL (qc (tr Tx 97)) (qx (tb Tx 97) [1,1,1,1,1,0] [] (cr [Pv 3,Pv 4,Pv 7,Bv 8 D,Pv 9,Bv 10 B] [Xb 3 G,Xb 4 J,Xb 7 T,Xb 9 U]))):=ck 6 3 [10,48] 51 (dc 6 48 (bD 3) (bD 3)) λQ=>bE 2 51 aZ (bE 22 77 (qf 14 (cW 4 λu _=>aZ)) (bE 7 86 (qf 18 (cW 4 λu _=>aZ)) (bE 7 99 (qf 18 (cW 4 λu _=>aZ)) (cW 6 λI _=>cW 4 λL _=>cW 4 λw _=>cW 4 λC _=>Z9 0 ([I,L,w,C]:SW) (.buildC 1 4 [.int .i64 0] [0,1,2,3]) [iv I,iv L,iv w,iv C] (cW 0 λO _=>qf 5 (cW 4 λu _=>aZ))))))
end cU
def dx(B:Z4)(p1:UV)(r:(Z4×UV)->aY (bJ×X')):aY (bJ×X'):=bl ((len p1.l)==0) ((gw B p1).bind λw=>(jf w).bind λC=>some (w,(!C))) ((idx p1.l 0).bind λD=>(r (B,D)).bind λu=>bl ((len p1.l)==2) ((idx p1.l 1).bind λG=>(r (B,G)).bind λz=>cU.J1 u.2 z.2 p1 (⟨0,0⟩:bJ) u.1 z.1 r) (cU.J1 u.2 true p1 (⟨0,0⟩:bJ) u.1 u.1 r))
open cU in
theorem zV(r:(Z4×UV)->aY (bJ×X'))(a:iu Sy cL 97 (λz:Z4×UV=>[enc z.1,enc z.2]) (λr:bJ×X'=>[enc r.1,.bool r.2]) r true)(B:Z4)(p1:UV):Le ((dx B p1 r).bind λr=>some [enc r.1,.bool r.2]) (kf cL 97 [enc B,enc p1]):=(Fc.M 97 [enc B,enc p1] (cg 2 2 B (cg 0 3 p1 (jb 9 13 (Pred.lE p1.l) (cA 0 p1.l (bE 3 15 (bC 5 λG _=>cW 8 λI _=>aZ) (jb 8 26 (Pred.lE p1.l) (bR 0 λC _=>cW (F:=Fc.of (B,C) a) 1 λu _=>jb 21 34 (Pred.lE p1.l) (cA 0 p1.l (bE 3 36 (jb 5 40 (Pred.lE p1.l) (bR 0 λD _=>cW (F:=Fc.of (B,D) a) 1 λw _=>rV 8 (kH r a u.2 w.2 p1 (⟨0,0⟩:bJ) u.1 w.1))) (rV 4 (kH r a u.2 true p1 (⟨0,0⟩:bJ) u.1 u.1))))))))))):Fc Sy cL (dx B p1 r)).F.h ()
def cU(B:Z4)(p1:UV):aY (bJ×X'):=dU (λr(z:Z4×UV)=>dx z.1 z.2 r) 100000 (B,p1)
instance QY(B:Z4)(p1:UV):Fc Sy cL (cU B p1):=Fc.of (B,p1) (iu.fix (A:=λz:Z4×UV=>[enc z.1,enc z.2]) (E:=λr:bJ×X'=>[enc r.1,.bool r.2]) (sc:=true) (b:=(λr(z:Z4×UV)=>dx z.1 z.2 r)) Zae (λ_ _=>rfl) (λr a z=>zV r a z.1 z.2) 100000)
def kP(B:UV)(D:Z4)(r:(Z4×UV)->aY X'):aY X':=(r (D,B)).bind λu=>some (!u)
abbrev AQ(r:(Trace×Pred)->aY Bool)(a:iu Sy cL 64 (λz:Trace×Pred=>[enc z.1,enc z.2]) (λr:Bool=>[.bool r]) r true)(B:Pred)(D:Trace):Fc Sy cL (kP B D r):=Fc.M 98 [enc B,.fptr (cells D)] (cg 2 2 B (bC (F:=Fc.of (D,B) a) 7 λu _=>aZ))
def cw(D:Z4)(p1:UV)(r:(Z4×UV)->aY X'):aY X':=(lV p1.kind).bind λw=>bl (w==1) ((cU D p1).bind λB=>some B.2) ((Bx p1.l (λx u=>((λz=>kP z D r) x).map λb=>(b,u)) ()).bind λC=>some (!C.1))
theorem AS(r:(Z4×UV)->aY X')(a:iu Sy cL 64 (λz:Z4×UV=>[enc z.1,enc z.2]) (λr:X'=>[.bool r]) r true)(B:Z4)(p1:UV):Le ((cw B p1 r).bind λr=>some [.bool r]) (kf cL 64 [enc B,enc p1]):=(Fc.M 64 [enc B,enc p1] (cg 2 2 B (cg 0 3 p1 (bC 8 λu _=>bE 3 10 (bC 5 λw _=>aZ) (jb 7 19 (Pred.lE p1.l) (xU 2 (l9 (zp.XC (g:=98) (e:=[.fptr (cells B)]) (p:=(λz=>kP z B r)) (ki.o8 (F:=λz=>AQ r a z B))) p1.l ()) λC _=>aZ))))):Fc Sy cL (cw B p1 r)).F.h ()
def mO(B:Z4)(p1:UV):aY X':=dU (λr(z:Z4×UV)=>cw z.1 z.2 r) 100000 (B,p1)
instance S3(B:Z4)(p1:UV):Fc Sy cL (mO B p1):=Fc.of (B,p1) (iu.fix (A:=λz:Z4×UV=>[enc z.1,enc z.2]) (E:=λr:X'=>[.bool r]) (sc:=true) (b:=(λr(z:Z4×UV)=>cw z.1 z.2 r)) Zae (λ_ _=>rfl) (λr a z=>AS r a z.1 z.2) 100000)
def dY(B:Z4)(p1:UV):Pi:=(b9 B).bind λu=>(bl u ((lY p1).bind λw=>some (!w)) (some true):aY X').bind λz=>bl z (some 1) ((oq B p1).bind λC=>bl C ((oG p1).bind λD=>bl D ((mO B p1).bind λG=>bl G (some 0) (some 9)) (some 14)) (some 13))
instance Sr(B:Z4)(p1:UV):Fc Sy cL (dY B p1):=Fc.M 30 [enc B,enc p1] (cg 2 2 B (cg 0 3 p1 (bC 8 λu _=>ck 2 4 [9] 13 (dc 2 9 (bC 1 λw _=>bD 2) (bD 4)) λz=>bE 3 5 aZ (bC 5 λC _=>dc 4 14 (bC 4 λD _=>dc 4 19 (bC 5 λG _=>dc 4 23 aZ aZ) aZ) aZ))))
def pP(B:UV):aY (Int×Int):=(lY B).bind λu=>bl u ((oG B).bind λw=>bl w ((lV B.kind).bind λz=>some (z,0)) (some (0,14))) (some (0,1))
instance T9(B:UV):Fc Sy cL (pP B):=Fc.M 39 [enc B] (cg 2 1 B (bC 9 λu _=>dc 4 4 (bC 4 λw _=>dc 4 8 (bC 8 λz _=>aZ) aZ) aZ))
def lq(B:Z4)(p1:UV):Pi:=(dY B p1).bind λu=>bl (u==0) ((pP p1).bind λw=>(bl (w.2==0) (some (!(w.1==2))) (some true):aY X').bind λz=>bl z (some 14) (some 0)) (some u)
instance TA(B:Z4)(p1:UV):Fc Sy cL (lq B p1):=Fc.M 19 [enc B,enc p1] (cg 2 2 B (cg 0 3 p1 (bC 8 λu _=>dc 9 12 (bC 7 λw _=>ck 12 3 [6,21] 24 (dc 12 21 (bD 3) (bD 3)) λz=>bE 2 24 aZ aZ) aZ)))
def ow(B:Int):aY X':=(bl (decide (B>=18)) (some (decide (B<=21))) (some false):aY X').bind λu=>some u
instance OE(B:Int):Fc Sy cL (ow B):=Fc.M 20 [.int .i64 B] (ck 10 3 [0,5] 8 (bE 10 5 (bD 3) (bD 3)) λu=>aZ)
namespace iE
def jZ(D:Z4)(B G:Int)(J:a_)(T:X')(x:a_×W5):aY (Fw Unit Empty a_):=(bl (x.2.kind==B) (some (x.2.message==G)) (some false):aY X').bind λu=>bl u (some (.r x.1)) (some (.n ()))
def E1(B:Z4)(D G:Int)(J:a_)(T:X'):aY (a_×X'):=(jA B).bind λu=>(kY (λ(x:a_×W5)(q:Unit)=>jZ B D G J T x) u ()).bind (Fw.rO (λq=>some (⟨0,0⟩,false)) (λe=>elim e) (λe=>some (e,true)))
end iE
def iE(D:Z4)(B G:Int):aY (a_×X'):=(b9 D).bind λu=>bl u ((jy D).bind λw=>iE.E1 w B G (⟨0,0⟩:a_) false) (some (⟨0,0⟩,false))
open iE in
instance X9(G:Z4)(B D:Int):Fc Sy cL (iE G B D):=Fc.M 140 [enc G,.int .i64 B,.int .i64 D] (cg 2 3 G (bC 10 λL _=>dc 3 12 (bC 7 λw _=>FL λI z=>Ca 4 [Pv 4,Pv 5,Pv 6,Pv 7,(15,.v (.clo 118 [] [.fptr (cells w)]))] (λC=>[(4,.box [iv B]),(5,.box [iv D]),Xb 6 (⟨0,0⟩:a_),(7,.box [bv false])]) (λu=>elim u) (λu=>[(4,.box [iv B]),(5,.box [iv D]),Xb 6 u,(7,.box [bv true])]) (Aa w I z) (λJ C=>o_ 8 9 0 J.2 (zm 1 (ck 9 5 [9,22] 27 (bE 9 22 (bD 5) (bD 5)) λO=>bE 2 27 aZ aZ))) (λC=>aZ) (λx=>elim x) (λu=>aZ)) aZ))
def oJ(B:Z4)(m1:Int):aY (a_×X'):=(iE B 2 m1).bind λu=>some (u.1,u.2)
instance V4(B:Z4)(m1:Int):Fc Sy cL (oJ B m1):=Fc.M 111 [enc B,.int .i64 m1] (cg 2 2 B (bC 8 λu _=>aZ))
namespace kO
def J3(B:Sl a_)(U:Sl bP)(W Y:Int)(a:Sl W5)(b G:Int)(J:Z4)(c T:cu)(d:bP)(D:a_):aY (Fw ((Sl a_)×Int×Z4×cu×cu) ((Sl a_)×Z4×cu) Empty):=(fW B (D:a_)).bind λu=>some (.n (u,wrap .i64 (G+1),J,(⟨Sl.nil,Sl.nil⟩:cu),T))
def cI(W:Sl bP)(Y a:Int)(J:Sl W5)(T:Int)(b:bP)(B:Sl a_)(D:Int)(G:Z4)(c U:cu):aY (Fw ((Sl a_)×Int×Z4×cu×cu) ((Sl a_)×Z4×cu) Empty):=bl (decide (D<T)) ((idx J D).bind λu=>bl (u.kind==3) ((oJ G u.message).bind λw=>J3 B W Y a J T D G (⟨Sl.nil,Sl.nil⟩:cu) U b w.1) (J3 B W Y a J T D G (⟨Sl.nil,Sl.nil⟩:cu) U b (⟨0,0⟩:a_))) (some (.x (B,G,U)))
def W2(B:Sl a_)(J:Sl bP)(T D:Int)(U:Sl W5)(W Y:Int)(a:Z4)(b c:cu)(G:bP):aY (Fw (Int×Z4×cu×cu) cu Empty):=(cD (λq:(Sl a_)×Int×Z4×cu×cu=>cI J T D U W G q.1 q.2.1 q.2.2.1 q.2.2.2.1 q.2.2.2.2) (B,Y,a,b,c)).bind (Fw.elim (λe=>(fW e.2.2.lengths (len G.events:Int)).bind λu=>(fW e.2.2.need (e.1:Sl a_)).bind λw=>some (.n (wrap .i64 (D+1),e.2.1,(⟨Sl.nil,Sl.nil⟩:cu),(⟨u,w⟩:cu)))) (λe=>elim e))
def bz(D:Sl bP)(G:Int)(B:Int)(T:Z4)(U J:cu):aY (Fw (Int×Z4×cu×cu) cu Empty):=bl (decide (B<G)) ((idx D B).bind λu=>W2 (Sl.nil:Sl a_) D G B u.events (len u.events) 0 T (⟨Sl.nil,Sl.nil⟩:cu) J u) (some (.x J))
def W1(B:Sl bP)(D G:Int)(J:Z4)(T U:cu):aY cu:=(cD (λq:Int×Z4×cu×cu=>bz B D q.1 q.2.1 q.2.2.1 q.2.2.2) (G,J,T,U)).bind (Fw.elim (λe=>some e) (λe=>elim e))
end kO
def kO(B:Z4):aY cu:=kO.W1 B.procs (len B.procs) 0 B (⟨Sl.nil,Sl.nil⟩:cu) (⟨Sl.nil,Sl.nil⟩:cu)
open kO in
instance ZK(D:Z4):Fc Sy cL (kO D):=Fc.N 133 [enc D] (cg 2 1 D (cA 13 D.procs (gJ 7 (λu=>(cr [Pv 1,Pv 2,Pv 3,Cv 11 D.procs,Iv 12 (len D.procs),Iv 13 u.1] [Xb 1 u.2.1,Xb 2 (⟨Sl.nil,Sl.nil⟩:cu),(3,.box [.own 4060,.own 4061]),Lb 4060 u.2.2.2.lengths,Lb 4061 u.2.2.2.need])) (λC=>(0,(cr [Pv 2,Pv 3] [Xb 2 (⟨Sl.nil,Sl.nil⟩:cu),(3,.box [.own 4060,.own 4061]),Lb 4060 C.lengths,Lb 4061 C.need]))) (λu=>bE 9 14 (bR 7 λw _=>o_ 2 5 0 w (cA 12 w.events (gJ 8 (λz=>(cr [Pv 1,Pv 2,Pv 3,Pv 5,Ov 6,Cv 11 D.procs,Iv 12 (len D.procs),Iv 13 u.1,Cv 18 w.events,Iv 19 (len w.events),Iv 20 z.2.1] [Xb 1 z.2.2.1,Xb 2 (⟨Sl.nil,Sl.nil⟩:cu),(3,.box [.own 4060,.own 4061]),Xb 5 w,Lb 2006 z.1,Lb 4060 z.2.2.2.2.lengths,Lb 4061 z.2.2.2.2.need])) (λB=>(2,(cr [Pv 1,Pv 2,Pv 3,Pv 5,Ov 6,Cv 11 D.procs,Iv 12 (len D.procs),Iv 13 u.1] [Xb 1 B.2.1,Xb 2 (⟨Sl.nil,Sl.nil⟩:cu),(3,.box [.own 4060,.own 4061]),Xb 5 w,Lb 2006 B.1,Lb 4060 B.2.2.lengths,Lb 4061 B.2.2.need]))) (λz=>bE 10 21 (bR 7 λG _=>o_ 2 8 0 G (bE 15 26 (bC 5 λJ _=>qf 10 (nk 4 2006 36 37 λI _=>aZ)) (qf 7 (nk 4 2006 36 37 λI _=>aZ)))) aZ) (λB=>cA 8 w.events (nk 1 4060 44 45 λL _=>xZ 9 50 ([B.1]:aX (Sl a_)) (nk 0 4061 50 51 λO _=>aZ)))))) aZ) (λC=>o_ 7 2 0 C aZ))))
def pg(J:cu)(B:Zg)(p2:Int):aY X':=(idx B p2).bind λw=>(idx J.lengths p2).bind λz=>bl (w==z) (some false) ((idx J.need p2).bind λC=>(idx B p2).bind λD=>(idx C D).bind λu=>(idx B u.proc).bind λG=>some (decide (u.index<=G)))
instance ON(B:cu)(D:Zg)(p2:Int):Fc Sy cL (pg B D p2):=Fc.M 150 [enc B,enc D,.int .i64 p2] (cg 2 3 B (bR 8 λu _=>bR 4 λw _=>bE 4 17 aZ (bR 8 λz _=>bR 3 λC _=>bR 1 λG _=>bR 12 λI _=>aZ)))
def sB(B:Int):aY X':=some (!(B==B))
instance Us(B:Int):Fc Sy cL (sB B):=Fc.M 174 [.int .i64 B] (aZ)
def qm(B D:Int):Pi:=(sB B).bind λw=>(sB D).bind λu=>bl w (bl u (some 0) (some (-1))) (bl u (some 1) (bl (decide (B<D)) (some (-1)) (bl (decide (B>D)) (some 1) (some 0))))
instance Q0(B D:Int):Fc Sy cL (qm B D):=Fc.M 162 [.int .i64 B,.int .i64 D] (bC 8 λu _=>bC 6 λw _=>bE 9 11 (bE 7 12 aZ aZ) (bE 9 13 aZ (bE 11 16 aZ (bE 11 19 aZ aZ))))
namespace fe
def bz(J D T:Zg)(G:Int)(B:Int):aY (Fw Int Unit Int):=bl (decide (B<G)) ((idx T B).bind λw=>bl (decide (B>=(len D))) (some (.r 1)) ((idx D B).bind λz=>(qm w z).bind λu=>bl (u==0) (some (.n (wrap .i64 (B+1)))) (some (.r u)))) (some (.x ()))
def W1(B D T:Zg)(G J:Int):Pi:=(cD (λq:Int=>bz B D T G q) J).bind (Fw.elim (λe=>bl (decide ((len B)<(len D))) (some (-1)) (some 0)) (λe=>some e))
end fe
def fe(B D:Zg):Pi:=fe.W1 B D B (len B) 0
open fe in
instance M3(B D:Zg):Fc Sy cL (fe B D):=Fc.M 153 [enc B,enc D] (cA 9 B (iJ 5 (λw=>(cr [Cv 0 B,Cv 1 D,Cv 9 B,Iv 10 (len B),Iv 11 w] [])) (λu=>(0,(cr [Cv 0 B,Cv 1 D] []))) (λu=>(cr [Iv 4 u] [])) (λw=>bE 7 12 (bR 8 λz _=>cA 10 D (bE 3 19 aZ (bR 7 λC _=>bC 8 λG _=>dc 9 28 aZ aZ))) aZ) (λu=>cA 6 B (cA 1 D (bE 3 35 aZ aZ))) (λu=>aZ)))
def j7(a0 B:Zg):Pi:=(fe a0 B).bind λu=>some u
instance Nh(a0 B:Zg):Fc Sy cL (j7 a0 B):=Fc.M 152 [enc a0,enc B] (bC 9 λu _=>aZ)
namespace dX
def bz(D G:Zg)(J:Int)(B:Int):aY (Fw Int Unit Unit):=bl (decide (B<J)) ((idx D B).bind λu=>(idx G B).bind λw=>bl (u==w) (some (.n (wrap .i64 (B+1)))) (some (.r ()))) (some (.x ()))
def W1(B D:Zg)(G J:Int):aY X':=(cD (λq:Int=>bz B D G q) J).bind (Fw.elim (λe=>some true) (λe=>some false))
end dX
def dX(B D:Zg):aY X':=bl ((len B)==(len D)) (dX.W1 B D (len B) 0) (some false)
open dX in
instance PO(B D:Zg):Fc Sy cL (dX B D):=Fc.M 54 [enc B,enc D] (cA 9 B (cA 1 D (dc 3 10 (cA 7 B (iJ 5 (λw=>(cr [Cv 0 B,Cv 1 D,Iv 12 (len B),Iv 13 w] [])) (λu=>(0,(cr [] []))) (λu=>(cr [Bv 4 false] [])) (λw=>bE 7 14 (bR 15 λz _=>bR 3 λC _=>dc 4 24 aZ aZ) aZ) (λu=>aZ) (λu=>aZ))) aZ)))
def lJ(a0 B:Zg):aY X':=(dX a0 B).bind λu=>some u
instance NI(a0 B:Zg):Fc Sy cL (lJ a0 B):=Fc.M 155 [enc a0,enc B] (bC 9 λu _=>aZ)
namespace eC
def cI(T:Zg)(U:Zb)(W Y G:Int)(J:cu)(D:Zb)(B:Int):aY (Fw ((Zb)×Int) Zb Empty):=bl (decide (B<G)) ((pg J T B).bind λw=>bl w (((dI T).bind Sl.whole).bind λu=>(Sl.lS u B).bind λz=>(Sl.get u z).bind λC=>(Sl.lS u B).bind λI=>(Sl.put u I (wrap .i64 (C+1):Int)).bind λL=>(fW D (L:Zg)).bind λO=>some (.n (O,wrap .i64 (B+1)))) (some (.n (D,wrap .i64 (B+1))))) (some (.x D))
def W2(B:Zb)(Y:Zg)(J:Zb)(D G T U:Int)(W:cu):aY (Fw ((Zb)×Int×Int) Zb Empty):=(cD (λq:(Zb)×Int=>cI Y J D G T W q.1 q.2) (B,U)).bind (Fw.elim (λe=>some (.n (e,D,wrap .i64 (G+1)))) (λe=>elim e))
def bz(G:Zb)(T:cu)(B:Zb)(J D:Int):aY (Fw ((Zb)×Int×Int) Zb Empty):=bl (decide (D<J)) ((idx G D).bind λu=>W2 B u G J D (len u) 0 T) (some (.x B))
def W1(B D:Zb)(G J:Int)(T:cu):aY Zb:=(cD (λq:(Zb)×Int×Int=>bz D T q.1 q.2.1 q.2.2) (B,G,J)).bind (Fw.elim (λe=>(zT e j7).bind λw=>(y8 w lJ).bind λu=>some u) (λe=>elim e))
end eC
def eC(D:cu)(B:Zb):aY Zb:=eC.W1 (Sl.nil:Zb) B (len B) 0 D
open eC in
instance QW(G:cu)(B:Zb):Fc Sy cL (eC G B):=Fc.N 134 [enc G,enc B] (cg 2 2 G (cA 12 B (gJ 6 (λu=>(cr [Pv 2,Ov 5,Cv 10 B,Iv 11 u.2.1,Iv 12 u.2.2] [Xb 2 G,Lb 2005 u.1])) (λI=>(0,(cr [Ov 5] [Lb 2005 I]))) (λu=>bE 8 13 (bR 7 λw _=>cA 7 w (gJ 6 (λC=>(cr [Pv 2,Ov 5,Cv 7 w,Cv 10 B,Iv 11 u.2.1,Iv 12 u.2.2,Iv 17 (len w),Iv 18 C.2] [Xb 2 G,Lb 2005 C.1])) (λJ=>(2,(cr [Pv 2,Ov 5,Cv 10 B,Iv 11 u.2.1,Iv 12 u.2.2] [Xb 2 G,Lb 2005 J]))) (λC=>bE 8 19 (bC 16 λQ _=>bE 2 24 (ud 4 26 fE w λS _=>n9 .i64 7 26 λT _=>yS 0 26 0 1 false (λD=>.int .i64 D) λD _=>n9 .i64 1 26 λU _=>xQ 0 26 (.int .i64 (wrap .i64 (D+1))) λL _=>xZ 6 35 ([L]:aX Zg) (nk 0 2005 35 36 λW _=>aZ)) aZ) aZ) (λJ=>aZ))) aZ) (λI=>Ys 5 2005 MM FE Wq (iu.o8 (λz=>inferInstanceAs (Fc Sy cL (j7 z.1 z.2))) default (λ_=>rfl) (λ_=>rfl) (λ_=>rfl) (λ_=>rfl)) λX _=>YU 5 2005 42 MM FE UC (iu.o8 (λz=>inferInstanceAs (Fc Sy cL (lJ z.1 z.2))) default (λ_=>rfl) (λ_=>rfl) (λ_=>rfl) (λ_=>rfl)) λO _=>aZ))))
namespace ko
def bz(J:cu)(B:Zb)(G:Sl Zb)(D:Int):aY (Fw ((Zb)×(Sl Zb)×Int) (Sl Zb) Unit):=bl (decide ((len B)>0)) (bl (decide ((wrap .i64 (D+(len B)))>5000)) (some (.r ())) ((fW G (B:Zb)).bind λu=>(eC J B).bind λw=>some (.n (w,u,wrap .i64 (D+(len B)))))) (some (.x G))
def W1(B:Zb)(G:Sl Zb)(D:Int)(J:cu):aY ((Sl Zb)×Int):=(cD (λq:(Zb)×(Sl Zb)×Int=>bz J q.1 q.2.1 q.2.2) (B,G,D)).bind (Fw.elim (λe=>some (e,0)) (λe=>some ((Sl.nil:Sl Zb),16)))
end ko
def ko(B:Z4):aY ((Sl Zb)×Int):=(b9 B).bind λu=>bl u ((kO B).bind λw=>(qD (len B.procs) (0:Int)).bind λz=>ko.W1 (Sl.row [z]:Zb) (Sl.nil:Sl Zb) 0 w) (some ((Sl.nil:Sl Zb),1))
open ko in
instance Wz(B:Z4):Fc Sy cL (ko B):=Fc.N 106 [enc B] (cg 2 1 B (bC 8 λD _=>dc 3 10 (bC 6 λz _=>o_ 1 4 0 z (cA 6 B.procs (Mt 0 16 λC _=>xZ 1 17 ([C]:aX Zg) (iJ 18 (λu=>(cr [Pv 4,Cv 5 u.1,Ov 6,Iv 7 u.2.2] [Xb 4 z,Lb 2006 u.2.1])) (λw=>(0,(cr [Ov 6] [Lb 2006 w]))) (λw=>(cr [Ov 2,Iv 3 16] [Lb 2002 (Sl.nil:Sl Zb)])) (λu=>cA 7 u.1 (bE 3 20 (cA 10 u.1 (bE 10 29 aZ (xZ 6 32 ([u.1]:aX Zb) (nk 0 2006 32 33 λG _=>bC 7 λI _=>aZ)))) aZ)) (λw=>aZ) (λw=>aZ))))) aZ))
def fT(s:Sl Zb):aY Zb:=if s.l.length<=2147483648/\(s.l.flatMap Sl.l).length<=2147483648 then some (DH s)else none
instance N1(s:Sl Zb):Fc Sy cL (fT s):=Fc.of (A:=λz:Sl Zb=>[enc z]) (E:=λr:Zb=>[enc r]) (p:=fT) (n:=107) (z:=s) (iu.ZU Zae Zae (λz r h=>by
 unfold fT at h;split at h
 next a=>cases h;exact GM (UZ (E:=Sy.E) (N:=λn=>n) (gid:=135) (nm:=some) (λ_ _ h=>(Option.some.inj h).symm) rfl Zae Zae (Dg Zae) (Dg Zae) rfl z a.1 a.2)
 cases h))
def nX(B:Z4):aY ((Zb)×Int):=(ko B).bind λu=>(fT u.1).bind λw=>some (w,u.2)
instance Yj(B:Z4):Fc Sy cL (nX B):=Fc.N 67 [enc B] (cg 2 1 B (bC 7 λu _=>bC 10 λw _=>aZ))
def o7(B:Z4):aY ((Zb)×Int):=(nX B).bind λu=>some (u.1,u.2)
instance Yn(B:Z4):Fc Sy cL (o7 B):=Fc.N 40 [enc B] (cg 2 1 B (bC 7 λu _=>aZ))
namespace g_
def bz(J:Zg)(D:Int)(G:Sl U8)(B:Int):aY (Fw ((Sl U8)×Int) (Sl U8) Empty):=bl (decide (B<D)) ((idx J B).bind λu=>(Sl.lS G B).bind λw=>(Sl.put G w (⟨wrap .u8 u⟩:U8)).bind λz=>some (.n (z,wrap .i64 (B+1)))) (some (.x G))
def W1(G:Sl U8)(J:Zg)(B D:Int):aY V':=(cD (λq:(Sl U8)×Int=>bz J B q.1 q.2) (G,D)).bind (Fw.elim (λe=>some (NM e)) (λe=>elim e))
end g_
def g_(B:Zg):aY V':=(qD (len B) (⟨0⟩:U8)).bind λu=>g_.W1 u B (len B) 0
open g_ in
instance UK(B:Zg):Fc Sy cL (g_ B):=Fc.M 41 [enc B] (cA 8 B (Mt 0 8 λC _=>cA 7 B (gJ 6 (λu=>(cr [Ov 3,Cv 9 B,Iv 10 (len B),Iv 11 u.2] [Lb 2003 u.1])) (λw=>(0,(cr [Ov 3] [Lb 2003 w]))) (λu=>bE 8 12 (bR 8 λz _=>n9 .i64 10 2003 λD _=>xQ 0 2003 (.int .u8 (wrap .u8 z)) λG _=>aZ) aZ) (λw=>Zd 5 2003 w aZ))))
def kM(B:Zg)(D:Z4):aY X':=some (!((len B)==(len D.procs)))
instance Wj(B:Zg)(D:Z4):Fc Sy cL (kM B D):=Fc.M 131 [enc B,.fptr (cells D)] (cA 8 B (cA 2 D.procs aZ))
namespace eU
def bz(s0:Zb)(D:Int)(B:Int)(p1:(Zg)->aY X'):aY (Fw Int Unit Int):=bl (decide (B<D)) ((idx s0 B).bind λu=>(p1 u).bind λw=>bl w (some (.r B)) (some (.n (wrap .i64 (B+1))))) (some (.x ()))
def W1(s0:Zb)(B D:Int)(p1:(Zg)->aY X'):Pi:=(cD (λq:Int=>bz s0 B q p1) D).bind (Fw.elim (λe=>some (-1)) (λe=>some e))
end eU
def eU(s0:Zb)(p1:(Zg)->aY X'):Pi:=eU.W1 s0 (len s0) 0 p1
open eU in
abbrev rQ(g1:FuncId)(e1:aX V)(p1:(Sl Int)->aY Bool)(a:ki Sy cL g1 [] e1 (λz:Sl Int=>[enc z]) (λr:Bool=>[.bool r]) p1 true)(s0:Sl (Sl Int)):Fc Sy cL (eU s0 p1):=Fc.M 68 [enc s0,.clo g1 [] e1] (cA 9 s0 (iJ 5 (λw=>(cr [Cv 0 s0,(1,.v (.clo g1 [] e1)),Iv 7 (len s0),Iv 8 w] [])) (λu=>(0,(cr [] []))) (λu=>(cr [Iv 4 u] [])) (λw=>bE 7 9 (bR 16 λB _=>wX 1 a.f B λC _=>bE 2 16 aZ aZ) aZ) (λu=>aZ) (λu=>aZ)))
def iT(s0:Zb)(p1:(Zg)->aY X'):aY X':=(eU s0 p1).bind λu=>some (decide (u>=0))
abbrev pR(g1:FuncId)(e1:aX V)(p1:(Sl Int)->aY Bool)(a:ki Sy cL g1 [] e1 (λz:Sl Int=>[enc z]) (λr:Bool=>[.bool r]) p1 true)(s0:Sl (Sl Int)):Fc Sy cL (iT s0 p1):=Fc.M 103 [enc s0,.clo g1 [] e1] (bC (F:=rQ g1 e1 p1 a s0) 9 λu _=>aZ)
def yb(D:Z4)(G:Zb):aY X':=(b9 D).bind λu=>(bl u ((iT G (λz=>kM z D)).bind λw=>some (!w)) (some false):aY X').bind λB=>some B
instance Yl(B:Z4)(D:Zb):Fc Sy cL (yb B D):=Fc.M 99 [enc B,enc D] (cg 2 2 B (bC 6 λu _=>ck 1 5 [1,2,7] 12 (bE 1 7 (cW (F:=pR 131 [.fptr (cells B)] (λz=>kM z B) ki.o8 D) 2 λw _=>bD 2) (bD 5)) λC=>aZ))
namespace kn
def bz(G:Zg)(J:Int)(D:Z4)(B:Int):aY (Fw Int Unit Unit):=bl (decide (B<J)) ((idx G B).bind λu=>(bl (decide (u<0)) (some true) ((idx D.procs B).bind λw=>some (decide (u>(len w.events)))):aY X').bind λz=>bl z (some (.r ())) (some (.n (wrap .i64 (B+1))))) (some (.x ()))
def W1(D:Zg)(G J:Int)(B:Z4):aY X':=(cD (λq:Int=>bz D G B q) J).bind (Fw.elim (λe=>some true) (λe=>some false))
end kn
def kn(D:Z4)(B:Zg):aY X':=kn.W1 B (len B) 0 D
open kn in
instance WC(D:Z4)(B:Zg):Fc Sy cL (kn D B):=Fc.M 100 [enc D,enc B] (cg 2 2 D (cA 7 B (iJ 5 (λw=>(cr [Pv 2,Cv 7 B,Iv 8 (len B),Iv 9 w] [Xb 2 D])) (λu=>(0,(cr [] []))) (λu=>(cr [Bv 4 false] [])) (λw=>bE 7 10 (bR 8 λC _=>ck 10 10 [5,6,16] 26 (bE 10 16 (bD 10) (bR 4 λz _=>cA 2 z.events (bD 2))) λG=>bE 2 26 aZ aZ) aZ) (λu=>aZ) (λu=>aZ))))
def vz(B:Z4)(p1:Int):aY X':=(bl (decide (p1>=0)) (some (decide (p1<(len B.procs)))) (some false):aY X').bind λu=>some u
instance WB(B:Z4)(p1:Int):Fc Sy cL (vz B p1):=Fc.M 101 [enc B,.int .i64 p1] (cg 2 2 B (ck 8 6 [1,2,7] 13 (bE 8 7 (cA 3 B.procs (bD 2)) (bD 6)) λu=>aZ))
namespace ig
def cI(W:Zg)(p7:Int)(Y:Zg)(a b:Int)(J:Sl W5)(T:Int)(U:Z4)(G D:a_)(B:Int):aY (Fw Int Unit (a_×a_)):=bl (decide (B<T)) ((idx J B).bind λw=>bl (w.kind==3) ((oJ U w.message).bind λu=>(idx W u.1.proc).bind λz=>bl (decide (u.1.index>z)) (some (.r (u.1,(⟨p7,wrap .i64 (B+1)⟩:a_)))) (some (.n (wrap .i64 (B+1))))) (some (.n (wrap .i64 (B+1))))) (some (.x ()))
def W2(a:Zg)(p7:Int)(J:Zg)(T G:Int)(U:Sl W5)(W Y:Int)(b:Z4)(D B:a_):aY (Fw Int Unit (a_×a_)):=(cD (λq:Int=>cI a p7 J T G U W b D B q) Y).bind (Fw.elim (λe=>some (.n (wrap .i64 (G+1)))) (λe=>some (.r (e.1,e.2))))
def bz(W J:Zg)(T:Int)(U:Z4)(G B:a_)(D:Int):aY (Fw Int Unit (a_×a_)):=bl (decide (D<T)) ((idx J D).bind λw=>(idx U.procs D).bind λz=>(iP z.events none (some w)).bind λu=>W2 W D J T D u (len u) 0 U G B) (some (.x ()))
def W1(W G:Zg)(J T:Int)(U:Z4)(D B:a_):aY (a_×a_×X'):=(cD (λq:Int=>bz W G J U D B q) T).bind (Fw.elim (λe=>some (⟨0,0⟩,⟨0,0⟩,false)) (λe=>some (e.1,e.2,true)))
end ig
def ig(D:Z4)(B:Zg):aY (a_×a_×X'):=ig.W1 B B (len B) 0 D (⟨0,0⟩:a_) (⟨0,0⟩:a_)
open ig in
instance WI(D:Z4)(B:Zg):Fc Sy cL (ig D B):=Fc.M 132 [enc D,enc B] (cg 2 2 D (cA 9 B (iJ 5 (λu=>(cr [Cv 1 B,Pv 2,Pv 4,Pv 5,Cv 13 B,Iv 14 (len B),Iv 15 u] [Xb 2 D,Xb 4 (⟨0,0⟩:a_),Xb 5 (⟨0,0⟩:a_)])) (λw=>(0,(cr [Pv 4,Pv 5] [Xb 4 (⟨0,0⟩:a_),Xb 5 (⟨0,0⟩:a_)]))) (λw=>(cr [Pv 4,Pv 5,Bv 6 true] [Xb 4 w.1,Xb 5 w.2])) (λu=>bE 7 16 (bR 8 λI _=>bR 10 λL _=>FV 3 false true [.int .i64 I] λC _=>cA 0 C (iJ 5 (λG=>(cr [Cv 1 B,Pv 2,Pv 4,Pv 5,Iv 7 u,Cv 13 B,Iv 14 (len B),Iv 15 u,Cv 27 C,Iv 28 (len C),Iv 29 G] [Xb 2 D,Xb 4 (⟨0,0⟩:a_),Xb 5 (⟨0,0⟩:a_)])) (λz=>(2,(cr [Cv 1 B,Pv 2,Pv 4,Pv 5,Cv 13 B,Iv 14 (len B),Iv 15 u] [Xb 2 D,Xb 4 (⟨0,0⟩:a_),Xb 5 (⟨0,0⟩:a_)]))) (λz=>(cr [Pv 4,Pv 5,Bv 6 true] [Xb 4 z.1,Xb 5 z.2])) (λG=>bE 7 30 (bR 8 λJ _=>o_ 3 10 0 J (dc 10 36 (bC 8 λO _=>bR 15 λQ _=>bE 4 51 aZ aZ) aZ)) aZ) (λz=>aZ) (λz=>aZ))) aZ) (λw=>aZ) (λw=>aZ))))
def xd(B:Z4)(D:Zg):aY X':=(ig B D).bind λu=>some (!u.2.2)
instance XK(B:Z4)(D:Zg):Fc Sy cL (xd B D):=Fc.M 102 [enc B,enc D] (cg 2 2 B (bC 7 λu _=>aZ))
namespace c8
def kQ(D:Zb)(G:Int)(J:Z4)(B:Int):aY (Fw Int Unit Unit):=bl (decide (B<G)) ((idx D B).bind λu=>(xd J u).bind λw=>bl w (some (.n (wrap .i64 (B+1)))) (some (.r ()))) (some (.x ()))
def W3(B:Zb)(D G:Int)(J:Z4):Pi:=(cD (λq:Int=>kQ B D J q) G).bind (Fw.elim (λe=>some 0) (λe=>some 18))
def cI(T:Zb)(D:Zg)(G:Int)(J:Z4)(B:Int):aY (Fw Int Unit Unit):=bl (decide (B<G)) ((idx D B).bind λu=>(vz J u).bind λw=>bl w (some (.n (wrap .i64 (B+1)))) (some (.r ()))) (some (.x ()))
def W2(D:Zb)(G:Zg)(J T:Int)(B:Z4):Pi:=(cD (λq:Int=>cI D G J B q) T).bind (Fw.elim (λe=>c8.W3 D (len D) 0 B) (λe=>some 2))
def bz(U:Zb)(D:Zg)(G:Zb)(J:Int)(T:Z4)(B:Int):aY (Fw Int Unit Unit):=bl (decide (B<J)) ((idx G B).bind λu=>(kn T u).bind λw=>bl w (some (.n (wrap .i64 (B+1)))) (some (.r ()))) (some (.x ()))
def W1(U:Zb)(B:Zg)(G:Zb)(J T:Int)(D:Z4):Pi:=(cD (λq:Int=>bz U B G J D q) T).bind (Fw.elim (λe=>c8.W2 U B (len B) 0 D) (λe=>some 2))
end c8
def c8(G:Z4)(D:Zb)(B:Zg):Pi:=(yb G D).bind λu=>bl u (c8.W1 D B D (len D) 0 G) (some 1)
open c8 in
instance Yi(G:Z4)(D:Zb)(B:Zg):Fc Sy cL (c8 G D B):=Fc.M 65 [enc G,enc D,enc B] (cg 2 3 G (bC 8 λL _=>dc 3 16 (cA 7 D (iJ 5 (λC=>(cr [Cv 1 D,Cv 2 B,Pv 3,Cv 17 D,Iv 18 (len D),Iv 19 C] [Xb 3 G])) (λu=>(0,(cr [Cv 1 D,Cv 2 B,Pv 3] [Xb 3 G]))) (λu=>(cr [Iv 6 2] [])) (λC=>bE 7 20 (bR 7 λO _=>bC 8 λQ _=>dc 3 26 aZ aZ) aZ) (λu=>cA 6 B (iJ 5 (λI=>(cr [Cv 1 D,Pv 3,Cv 28 B,Iv 29 (len B),Iv 30 I] [Xb 3 G])) (λw=>(2,(cr [Cv 1 D,Pv 3] [Xb 3 G]))) (λw=>(cr [Iv 6 2] [])) (λI=>bE 7 31 (bR 7 λS _=>bC 8 λT _=>dc 3 37 aZ aZ) aZ) (λw=>cA 6 D (iJ 5 (λJ=>(cr [Pv 3,Cv 39 D,Iv 40 (len D),Iv 41 J] [Xb 3 G])) (λz=>(4,(cr [] []))) (λz=>(cr [Iv 6 18] [])) (λJ=>bE 7 42 (bR 7 λU _=>bC 8 λW _=>dc 3 48 aZ aZ) aZ) (λz=>aZ) (λz=>aZ))) (λw=>aZ))) (λu=>aZ))) aZ))
def vD(D:Z4)(G:Zg)(p2:Int):aY X':=(idx D.procs p2).bind λz=>(idx G p2).bind λB=>(idx z.events B).bind λu=>bl (u.kind==3) ((oJ D u.message).bind λw=>(idx G w.1.proc).bind λC=>some (decide (w.1.index<=C))) (some true)
instance Wt(B:Z4)(D:Zg)(p2:Int):Fc Sy cL (vD B D p2):=Fc.M 74 [enc B,enc D,.int .i64 p2] (cg 2 3 B (bR 8 λw _=>bR 4 λz _=>bR 1 λu _=>o_ 2 7 0 u (dc 10 24 (bC 8 λC _=>bR 15 λG _=>aZ) aZ)))
def vq(D:Z4)(B:Zg)(p2:Int):aY ((Zg)×Int):=(c8 D (Sl.row [B]:Zb) (Sl.row [p2]:Zg)).bind λw=>bl (w==0) ((idx B p2).bind λz=>(idx D.procs p2).bind λC=>bl (z==(len C.events)) (some (Sl.nil,4)) ((vD D B p2).bind λG=>bl G (((dI B).bind Sl.whole).bind λu=>(Sl.lS u p2).bind λI=>(Sl.get u I).bind λJ=>(Sl.lS u p2).bind λL=>(Sl.put u L (wrap .i64 (J+1):Int)).bind λO=>some (O,0)) (some (Sl.nil,11)))) (some (Sl.nil,w))
instance WH(D:Z4)(B:Zg)(p2:Int):Fc Sy cL (vq D B p2):=Fc.N 42 [enc D,enc B,.int .i64 p2] (cg 2 3 D (xZ 9 12 ([B]:aX Zg) (cW 2 λz _=>dc 9 17 (bR 9 λC _=>bR 4 λw _=>cA 2 w.events (bE 4 19 aZ (bC 6 λG _=>dc 4 32 (ud 7 39 fE B λI _=>n9 .i64 7 39 λJ _=>yS 0 39 0 1 false (λu=>.int .i64 u) λu _=>n9 .i64 1 39 λL _=>xQ 0 39 (.int .i64 (wrap .i64 (u+1))) λO _=>aZ) aZ))) aZ)))
namespace dD
def kQ(T:Zg)(Y:Zb)(a b U:Int)(W:Z4)(J:Mo ByteArray Int)(B:Zg)(G:Int)(D:bp):aY (Fw ((Zg)×Int×bp) ((Zg)×(Mo ByteArray Int)×bp) Empty):=bl (decide (G<U)) ((vq W T G).bind λu=>bl (u.2==0) ((g_ u.1).bind λw=>(fW B (um J w 0:Int)).bind λz=>some (.n (z,wrap .i64 (G+1),D))) (some (.n (B,wrap .i64 (G+1),D)))) (some (.x (B,J,D)))
def W3(T B:Zg)(U:Zb)(W D Y a:Int)(b:Z4)(G:Mo ByteArray Int)(J:bp):aY (Fw (Int×(Mo ByteArray Int)×bp) bp Empty):=(cD (λq:(Zg)×Int×bp=>kQ T U W D Y b G q.1 q.2.1 q.2.2) (B,a,J)).bind (Fw.elim (λe=>(fW e.2.2.next (e.1:Zg)).bind λu=>some (.n (wrap .i64 (D+1),e.2.1,(⟨e.2.2.t,e.2.2.l,u⟩:bp)))) (λe=>elim e))
def cI(G:Zb)(J:Int)(U:Z4)(D:Int)(T:Mo ByteArray Int)(B:bp):aY (Fw (Int×(Mo ByteArray Int)×bp) bp Empty):=bl (decide (D<J)) ((idx G D).bind λu=>W3 u (Sl.nil:Zg) G J D (len u) 0 U T B) (some (.x B))
def W2(G:Zb)(J T:Int)(U:Z4)(B:Mo ByteArray Int)(D:bp):aY ((aY bp)×Int):=(cD (λq:Int×(Mo ByteArray Int)×bp=>cI G J U q.1 q.2.1 q.2.2) (T,B,D)).bind (Fw.elim (λe=>some (some e,0)) (λe=>elim e))
def bz(U G:Zb)(J:Int)(T:Z4)(B:Int)(D:Mo ByteArray Int):aY (Fw (Int×(Mo ByteArray Int)) (Mo ByteArray Int) Empty):=bl (decide (B<J)) ((idx G B).bind λu=>(g_ u).bind λw=>some (.n (wrap .i64 (B+1),oK D w B))) (some (.x D))
def W1(G J:Zb)(T U:Int)(B:Z4)(D:Mo ByteArray Int):aY ((aY bp)×Int):=(cD (λq:Int×(Mo ByteArray Int)=>bz G J T B q.1 q.2) (U,D)).bind (Fw.elim (λe=>dD.W2 G (len G) 0 B e (⟨B,G,Sl.nil⟩:bp)) (λe=>elim e))
end dD
def dD(B:Z4):aY ((aY bp)×Int):=(o7 B).bind λu=>bl (u.2==0) (dD.W1 u.1 u.1 (len u.1) 0 B []) (some (none,u.2))
open dD in
instance TY(D:Z4):Fc Sy cL (dD D):=Fc.N 21 [enc D] (cg 2 1 D (bC 7 λu _=>dc 14 22 (cA 13 u.1 (gJ 5 (λC=>(cr [Pv 1,Cv 4 u.1,(6,.mp 24),Cv 25 u.1,Iv 26 (len u.1),Iv 27 C.1] [Xb 1 D,(24,rS C.2)])) (λJ=>(0,(cr [Pv 1,Cv 4 u.1,(6,.mp 24)] [Xb 1 D,(24,rS J)]))) (λC=>bE 7 28 (bR 8 λQ _=>bC 8 λL _=>XX 1 24 C.2 L C.1 aZ) aZ) (λJ=>A3 6 (⟨D,u.1,Sl.nil⟩:bp) [enc D,enc u.1] [.bG,.bG,.bG] [(0,1),(1,1)] (by simp only[nJ,o9,jq,we,tq,wv,v8];rfl) rfl (cg 0 40 (⟨D,u.1,Sl.nil⟩:bp) (cA 7 u.1 (gJ 6 (λw=>(cr [Pv 1,(6,.mp 24),(9,.ptr 40 0),Cv 41 u.1,Iv 42 (len u.1),Iv 43 w.1] [Xb 1 D,(24,rS w.2.1),(40,.box [cv w.2.2.t.procs,cv w.2.2.l,.own 4802]),Lb 4802 w.2.2.next])) (λG=>(2,(cr [(9,.ptr 40 0)] [(40,.box [cv G.t.procs,cv G.l,.own 4802]),Lb 4802 G.next]))) (λw=>bE 8 44 (bR 7 λI _=>cA 13 I (gJ 7 (λB=>(cr [Pv 1,(6,.mp 24),(9,.ptr 40 0),Cv 11 I,Ov 12,Cv 41 u.1,Iv 42 (len u.1),Iv 43 w.1,Iv 48 (len I),Iv 49 B.2.1] [Xb 1 D,(24,rS w.2.1),(40,.box [cv B.2.2.t.procs,cv B.2.2.l,.own 4802]),Lb 2012 B.1,Lb 4802 B.2.2.next])) (λz=>(4,(cr [Pv 1,(6,.mp 24),(9,.ptr 40 0),Ov 12,Cv 41 u.1,Iv 42 (len u.1),Iv 43 w.1] [Xb 1 D,(24,rS z.2.1),(40,.box [cv z.2.2.t.procs,cv z.2.2.l,.own 4802]),Lb 2012 z.1,Lb 4802 z.2.2.next]))) (λB=>bE 9 50 (bC 16 λS _=>bE 13 60 (bC 5 λO _=>Um 0 24 w.2.1 O 0 (nk 1 2012 66 67 λT _=>aZ)) aZ) aZ) (λz=>xZ 10 75 ([z.1]:aX Zg) (nk 0 4802 75 76 λU _=>aZ)))) aZ) (λG=>aZ))))))) aZ))
def rW(B:Int):aY X':=(bl (decide (B>=18)) (some (decide (B<=21))) (some false):aY X').bind λu=>some u
instance OF(B:Int):Fc Sy cL (rW B):=Fc.M 77 [.int .i64 B] (ck 10 3 [0,5] 8 (bE 10 5 (bD 3) (bD 3)) λu=>aZ)
def mC(B:UV):aY X':=(rW B.kind).bind λu=>some (!u)
instance Lv(B:UV):Fc Sy cL (mC B):=Fc.M 76 [enc B] (cg 2 1 B (bC 7 λu _=>aZ))
def kT(D:UV):aY X':=(lY D).bind λu=>(bl u ((ny D (λz=>mC z)).bind λw=>some (!w)) (some false):aY X').bind λB=>some B
instance OB(B:UV):Fc Sy cL (kT B):=Fc.M 43 [enc B] (cg 2 1 B (bC 6 λu _=>ck 1 4 [1,5] 9 (bE 1 5 (bC (F:=tS 76 [] (λz=>mC z) ki.o8 B) 1 λw _=>bD 2) (bD 4)) λC=>aZ))
def mS(D:UV)(B:Int):Pi:=(pP D).bind λu=>(bl (u.2==0) (some (!(u.1==B))) (some true):aY X').bind λw=>bl w (some 14) (some 0)
instance RT(D:UV)(B:Int):Fc Sy cL (mS D B):=Fc.M 71 [enc D,.int .i64 B] (cg 2 2 D (bC 7 λu _=>ck 12 4 [1,5,14] 18 (dc 12 14 (bD 4) (bD 4)) λw=>bE 2 18 aZ aZ))
namespace iM
def bz(G:Zg)(J:Int)(B:Sl a_)(D:Int):aY (Fw ((Sl a_)×Int) (Sl a_) Empty):=bl (decide (D<J)) ((idx G D).bind λu=>bl (decide (u>0)) ((fW B (⟨D,u⟩:a_)).bind λw=>some (.n (w,wrap .i64 (D+1)))) (some (.n (B,wrap .i64 (D+1))))) (some (.x B))
def W1(B:Sl a_)(D:Zg)(G J:Int):aY ((Sl a_)×Int):=(cD (λq:(Sl a_)×Int=>bz D G q.1 q.2) (B,J)).bind (Fw.elim (λe=>some (e,0)) (λe=>elim e))
end iM
def iM(D:Z4)(B:Zg):aY ((Sl a_)×Int):=(c8 D (Sl.row [B]:Zb) (Sl.nil:Zg)).bind λu=>bl (u==0) (iM.W1 (Sl.nil:Sl a_) B (len B) 0) (some (Sl.nil,u))
open iM in
instance U3(D:Z4)(B:Zg):Fc Sy cL (iM D B):=Fc.N 31 [enc D,enc B] (cg 2 2 D (xZ 9 12 ([B]:aX Zg) (cW 0 λz _=>dc 9 15 (cA 12 B (gJ 6 (λu=>(cr [Ov 7,Cv 17 B,Iv 18 (len B),Iv 19 u.2] [Lb 2007 u.1])) (λw=>(0,(cr [Ov 7] [Lb 2007 w]))) (λu=>bE 8 20 (bR 8 λC _=>bE 11 25 (nk 7 2007 30 31 λG _=>aZ) aZ) aZ) (λw=>aZ))) aZ)))
namespace fP
def jZ(B:bP)(D:Int)(x:Int×(Zg))(G:Zg):aY (Fw Zg Empty Zg):=bl (x.1==D) (some (.r x.2)) (some (.n (Sl.nil:Zg)))
def E1(B:bP)(D:Int)(G:Zg):aY Zg:=(jx B).bind λu=>(kY (λ(x:Int×(Zg))(q:Zg)=>jZ B D x q) u G).bind (Fw.rO (λq=>some Sl.nil) (λe=>elim e) (λe=>some e))
end fP
def fP(B:bP)(k1:Int):aY Zg:=(nT B).bind λu=>fP.E1 u k1 (Sl.nil:Zg)
open fP in
instance SU(D:bP)(k1:Int):Fc Sy cL (fP D k1):=Fc.N 108 [enc D,.int .i64 k1] (cg 2 2 D (bC 8 λw _=>FL λC z=>Ca 4 [Pv 3,Pv 4,(8,.v (.clo 156 [] [.fptr (cells w)]))] (λB=>[(3,.box [iv k1]),(4,.box [.v .bG])]) (λu=>elim u) (λu=>[(3,.box [iv k1]),(4,.box [cv u])]) (Gn w C z) (λG B=>zm 8 (bE 9 13 (o_ 4 4 0 G.2 aZ) aZ)) (λB=>aZ) (λx=>elim x) (λu=>aZ)))
namespace gP
def bz(G:Zg)(J:Int)(T:Z4)(D:Zb)(B:Int):aY (Fw ((Zb)×Int) Zb Empty):=bl (decide (B<J)) ((idx G B).bind λu=>(idx T.procs B).bind λw=>(fP w u).bind λz=>(fW D (z:Zg)).bind λC=>some (.n (C,wrap .i64 (B+1)))) (some (.x D))
def W1(B:Zb)(D:Zg)(G J:Int)(T:Z4):aY ((Zb)×Int):=(cD (λq:(Zb)×Int=>bz D G T q.1 q.2) (B,J)).bind (Fw.elim (λe=>some (e,0)) (λe=>elim e))
end gP
def gP(D:Z4)(B:Zg):aY ((Zb)×Int):=(iM D B).bind λu=>bl (u.2==0) (gP.W1 (Sl.nil:Zb) B (len B) 0 D) (some (Sl.nil,u.2))
open gP in
instance WG(D:Z4)(B:Zg):Fc Sy cL (gP D B):=Fc.N 70 [enc D,enc B] (cg 2 2 D (bC 9 λC _=>dc 13 18 (cA 12 B (gJ 6 (λu=>(cr [Pv 2,Ov 8,Cv 20 B,Iv 21 (len B),Iv 22 u.2] [Xb 2 D,Lb 2008 u.1])) (λw=>(0,(cr [Ov 8] [Lb 2008 w]))) (λu=>bE 8 23 (bR 8 λG _=>bR 10 λI _=>bC 2 λz _=>xZ 0 35 ([z]:aX Zg) (nk 0 2008 35 36 λJ _=>aZ)) aZ) (λw=>aZ))) aZ))
def iA(B:Var)(D:UV):aY X':=some (toList B.name==toList D.name)
instance Gr(B:Var)(D:UV):Fc Sy cL (iA B D):=Fc.M 138 [enc B,.fptr (cells D)] (aZ)
def jC(D:bA)(p1:UV):Pi:=(idx D.t.procs p1.proc).bind λu=>(fc u.vars (λz=>iA z p1)).bind λw=>(idx D.values p1.proc).bind λB=>(idx B w).bind λC=>some C
instance KQ(B:bA)(p1:UV):Fc Sy cL (jC B p1):=Fc.M 109 [enc B,enc p1] (cg 2 2 B (cg 0 3 p1 (bR 10 λu _=>cW (F:=oc 138 [.fptr (cells p1)] (λz=>iA z p1) ki.o8 u.vars) 3 λw _=>bR 9 λC _=>bR 2 λD _=>aZ)))
def uP(B:Z4)(m1:Int):aY (a_×X'):=(iE B 3 m1).bind λu=>some (u.1,u.2)
instance Tm(B:Z4)(m1:Int):Fc Sy cL (uP B m1):=Fc.M 157 [enc B,.int .i64 m1] (cg 2 2 B (bC 8 λu _=>aZ))
namespace iN
def bz(U:Zg)(W:Int)(J:Sl W5)(T:Z4)(B:Zg)(G D:Int):aY (Fw ((Zg)×Int×Int) Zg Empty):=bl (decide (D<G)) ((idx J D).bind λu=>(bl (u.kind==2) (some (!(u.peer==W))) (some true):aY X').bind λC=>bl C (some (.n (B,G,wrap .i64 (D+1)))) ((uP T u.message).bind λw=>(bl w.2 ((idx U w.1.proc).bind λI=>some (decide (w.1.index>I))) (some true):aY X').bind λL=>bl L ((fW B (u.message:Int)).bind λz=>some (.n (z,G,wrap .i64 (D+1)))) (some (.n (B,G,wrap .i64 (D+1)))))) (some (.x B))
def W1(U:Zg)(W:Int)(B:Zg)(D:Sl W5)(G J:Int)(T:Z4):aY ((Zg)×Int):=(cD (λq:(Zg)×Int×Int=>bz U W D T q.1 q.2.1 q.2.2) (B,G,J)).bind (Fw.elim (λe=>some (e,0)) (λe=>elim e))
end iN
def iN(B:Z4)(D:Zg)(p2 G:Int):aY ((Zg)×Int):=(c8 B (Sl.row [D]:Zb) (Sl.row [p2,G]:Zg)).bind λu=>bl (u==0) ((idx B.procs p2).bind λz=>(idx D p2).bind λC=>(iP z.events none (some C)).bind λw=>iN.W1 D G (Sl.nil:Zg) w (len w) 0 B) (some (Sl.nil,u))
open iN in
instance VJ(B:Z4)(D:Zg)(p2 G:Int):Fc Sy cL (iN B D p2 G):=Fc.N 139 [enc B,enc D,.int .i64 p2,.int .i64 G] (cg 2 4 B (xZ 9 18 ([D]:aX Zg) (cW 3 λL _=>dc 9 24 (bR 14 λO _=>bR 4 λC _=>FV 1 false true [.int .i64 C] λw _=>cA 0 w (gJ 6 (λu=>(cr [Cv 1 D,Iv 3 G,Pv 4,Ov 11,Cv 36 w,Iv 37 u.2.1,Iv 38 u.2.2] [Xb 4 B,Lb 2011 u.1])) (λz=>(0,(cr [Ov 11] [Lb 2011 z]))) (λu=>bE 8 39 (bR 7 λI _=>o_ 2 13 0 I (ck 9 5 [45] 50 (dc 9 45 (bD 5) (bD 5)) λQ=>bE 2 50 aZ (bC 8 λS _=>ck 13 9 [14,60] 69 (dc 13 60 (bR 5 λT _=>bD 3) (bD 9)) λU=>bE 2 69 (nk 6 2011 73 74 λJ _=>aZ) aZ))) aZ) (λz=>aZ))) aZ)))
def lZ(B:bA)(p1:UV):Pi:=(iN B.t B.counts p1.proc p1.peer).bind λu=>some (len u.1)
instance KV(B:bA)(p1:UV):Fc Sy cL (lZ B p1):=Fc.M 110 [enc B,enc p1] (cg 2 2 B (cg 0 3 p1 (bC 13 λu _=>cA 10 u.1 aZ)))
def bS(B:bA)(p1:UV)(r:(bA×UV)->Pi):Pi:=bl (p1.kind==1) (some p1.n) (bl (p1.kind==2) ((jC B p1).bind λL=>some L) (bl (p1.kind==3) ((idx B.counts p1.proc).bind λO=>some O) (bl (p1.kind==4) ((lZ B p1).bind λQ=>some Q) (bl (p1.kind==5) ((idx p1.l 0).bind λS=>(r (B,S)).bind λT=>some (wrap .i64 (0-T))) (bl (p1.kind==6) ((idx p1.l 0).bind λU=>(r (B,U)).bind λW=>(idx p1.l 1).bind λX=>(r (B,X)).bind λY=>some (wrap .i64 (W+Y))) (bl (p1.kind==7) ((idx p1.l 0).bind λu=>(r (B,u)).bind λw=>(idx p1.l 1).bind λz=>(r (B,z)).bind λC=>some (wrap .i64 (w-C))) ((idx p1.l 0).bind λD=>(r (B,D)).bind λG=>(idx p1.l 1).bind λI=>(r (B,I)).bind λJ=>some (wrap .i64 (G*J)))))))))
theorem wP(r:(bA×UV)->Pi)(a:iu Sy cL 72 (λz:bA×UV=>[enc z.1,enc z.2]) (λr:Int=>[.int .i64 r]) r true)(B:bA)(p1:UV):Le ((bS B p1 r).bind λr=>some [.int .i64 r]) (kf cL 72 [enc B,enc p1]):=(Fc.M 72 [enc B,enc p1] (cg 2 2 B (cg 0 3 p1 (bE 17 7 aZ (bE 7 11 (bC 5 λT _=>aZ) (bE 7 16 (bR 7 λU _=>aZ) (bE 7 24 (bC 5 λW _=>aZ) (bE 7 29 (jb 6 33 (Pred.lE p1.l) (bR 0 λG _=>cW (F:=Fc.of (B,G) a) 1 λX _=>aZ)) (bE 7 38 (jb 6 42 (Pred.lE p1.l) (bR 0 λI _=>cW (F:=Fc.of (B,I) a) 1 λY _=>jb 3 48 (Pred.lE p1.l) (bR 0 λJ _=>cW (F:=Fc.of (B,J) a) 1 λZ _=>aZ))) (bE 7 53 (jb 6 57 (Pred.lE p1.l) (bR 0 λu _=>cW (F:=Fc.of (B,u) a) 1 λL _=>jb 3 63 (Pred.lE p1.l) (bR 0 λw _=>cW (F:=Fc.of (B,w) a) 1 λO _=>aZ))) (jb 9 70 (Pred.lE p1.l) (bR 0 λC _=>cW (F:=Fc.of (B,C) a) 1 λQ _=>jb 3 76 (Pred.lE p1.l) (bR 0 λD _=>cW (F:=Fc.of (B,D) a) 1 λS _=>aZ)))))))))))):Fc Sy cL (bS B p1 r)).F.h ()
def dV(B:bA)(p1:UV):Pi:=dU (λr(z:bA×UV)=>bS z.1 z.2 r) 100000 (B,p1)
instance Lh(B:bA)(p1:UV):Fc Sy cL (dV B p1):=Fc.of (B,p1) (iu.fix (A:=λz:bA×UV=>[enc z.1,enc z.2]) (E:=λr:Int=>[.int .i64 r]) (sc:=true) (b:=(λr(z:bA×UV)=>bS z.1 z.2 r)) Zae (λ_ _=>rfl) (λr a z=>wP r a z.1 z.2) 100000)
namespace dK
def J1(W:Int)(U:X')(D:bA)(B:UV)(r:(bA×UV)->aY X'):aY X':=bl U (some (B.kind==13)) (bl (W==15) ((idx B.l 0).bind λu=>(r (D,u)).bind λw=>some (!w)) (bl (W==16) ((idx B.l 0).bind λz=>(r (D,z)).bind λC=>(bl C ((idx B.l 1).bind λG=>(r (D,G)).bind λI=>some I) (some false):aY X').bind λJ=>some J) ((idx B.l 0).bind λL=>(r (D,L)).bind λO=>(bl O (some true) ((idx B.l 1).bind λQ=>(r (D,Q)).bind λS=>some S):aY X').bind λT=>some T)))
theorem kH(r:(bA×UV)->aY X')(a:iu Sy cL 34 (λz:bA×UV=>[enc z.1,enc z.2]) (λr:X'=>[.bool r]) r true)(T:Int)(G:X')(B:bA)(D:UV):Le ((J1 T G B D r).bind (λr=>some [.bool r])) (b_ Sy cL (qc (tr Tx 34)) (qx (tb Tx 34) [1,0,1,0,1,1,1,1,1,1,1,1,1,0] [] (cr [Pv 2,Pv 3,Iv 6 T,Bv 67 G] [Xb 2 B,Xb 3 D]))):=bE 0 67 aZ (bE 7 73 (jb 6 77 (Pred.lE D.l) (bR 0 λC _=>cW (F:=Fc.of (B,C) a) 1 λQ _=>aZ)) (bE 7 82 (jb 6 86 (Pred.lE D.l) (bR 0 λI _=>cW (F:=Fc.of (B,I) a) 1 λS _=>Cn 1 7 [96,89] (λu=>(cr [Bv 67 false,Bv 73 false,Bv 82 true,Bv 97 u] [Xb 2 B,Xb 3 D])) (bE 1 90 (jb 3 93 (Pred.lE D.l) (bR 0 λJ _=>cW (F:=Fc.of (B,J) a) 1 λU _=>bD 1)) (bD 7)) λu=>aZ)) (jb 9 100 (Pred.lE D.l) (bR 0 λL _=>cW (F:=Fc.of (B,L) a) 1 λW _=>Cn 1 7 [110,103] (λw=>(cr [Bv 67 false,Bv 73 false,Bv 82 false,Bv 111 w] [Xb 2 B,Xb 3 D])) (bE 1 104 (bD 7) (jb 3 107 (Pred.lE D.l) (bR 0 λO _=>cW (F:=Fc.of (B,O) a) 1 λX _=>bD 1))) λw=>aZ))))
end dK
def cH(B:bA)(p1:UV)(r:(bA×UV)->aY X'):aY X':=bl (p1.kind==9) ((idx p1.l 0).bind λJ=>(dV B J).bind λL=>(idx p1.l 1).bind λO=>(dV B O).bind λQ=>some (L==Q)) (bl (p1.kind==10) ((idx p1.l 0).bind λS=>(dV B S).bind λT=>(idx p1.l 1).bind λU=>(dV B U).bind λW=>some (!(T==W))) (bl (p1.kind==11) ((idx p1.l 0).bind λX=>(dV B X).bind λu=>(idx p1.l 1).bind λw=>(dV B w).bind λz=>some (decide (u<z))) (bl (p1.kind==12) ((idx p1.l 0).bind λC=>(dV B C).bind λD=>(idx p1.l 1).bind λG=>(dV B G).bind λI=>some (decide (D<=I))) (bl (p1.kind==13) (dK.J1 p1.kind true B p1 r) (dK.J1 p1.kind (p1.kind==14) B p1 r)))))
open dK in
theorem xT(r:(bA×UV)->aY X')(a:iu Sy cL 34 (λz:bA×UV=>[enc z.1,enc z.2]) (λr:X'=>[.bool r]) r true)(B:bA)(p1:UV):Le ((cH B p1 r).bind λr=>some [.bool r]) (kf cL 34 [enc B,enc p1]):=(Fc.M 34 [enc B,enc p1] (cg 2 2 B (cg 0 3 p1 (bE 17 7 (jb 6 11 (Pred.lE p1.l) (bR 0 λL _=>cW 1 λO _=>jb 3 17 (Pred.lE p1.l) (bR 0 λQ _=>cW 1 λS _=>aZ))) (bE 7 22 (jb 6 26 (Pred.lE p1.l) (bR 0 λT _=>cW 1 λU _=>jb 3 32 (Pred.lE p1.l) (bR 0 λW _=>cW 1 λX _=>aZ))) (bE 7 37 (jb 6 41 (Pred.lE p1.l) (bR 0 λY _=>cW 1 λu _=>jb 3 47 (Pred.lE p1.l) (bR 0 λw _=>cW 1 λC _=>aZ))) (bE 7 52 (jb 6 56 (Pred.lE p1.l) (bR 0 λD _=>cW 1 λG _=>jb 3 62 (Pred.lE p1.l) (bR 0 λI _=>cW 1 λJ _=>aZ))) (bE 8 67 (rV 4 (kH r a p1.kind true B p1)) (rV 7 (kH r a p1.kind (p1.kind==14) B p1))))))))):Fc Sy cL (cH B p1 r)).F.h ()
def dK(B:bA)(p1:UV):aY X':=dU (λr(z:bA×UV)=>cH z.1 z.2 r) 100000 (B,p1)
instance LC(B:bA)(p1:UV):Fc Sy cL (dK B p1):=Fc.of (B,p1) (iu.fix (A:=λz:bA×UV=>[enc z.1,enc z.2]) (E:=λr:X'=>[.bool r]) (sc:=true) (b:=(λr(z:bA×UV)=>cH z.1 z.2 r)) Zae (λ_ _=>rfl) (λr a z=>xT r a z.1 z.2) 100000)
namespace jw
def bz(W J:Zb)(T:Int)(G:Z4)(U:UV)(B:Sl X')(D:Int):aY (Fw ((Sl X')×Int) (Sl X') ((Zb)×(Sl X')×Int)):=bl (decide (D<T)) ((idx J D).bind λw=>(gP G w).bind λu=>bl (u.2==0) ((dK (⟨G,w,u.1⟩:bA) U).bind λz=>(fW B (z:X')).bind λC=>some (.n (C,wrap .i64 (D+1)))) (some (.r ((Sl.nil:Zb),(Sl.nil:Sl X'),u.2)))) (some (.x B))
def W1(W:Zb)(B:Sl X')(D:Zb)(G J:Int)(T:Z4)(U:UV):aY ((Zb)×(Sl X')×Int):=(cD (λq:(Sl X')×Int=>bz W D G T U q.1 q.2) (B,J)).bind (Fw.elim (λe=>some (W,e,0)) (λe=>some (e.1,e.2.1,e.2.2)))
end jw
def jw(B:Z4)(p1:UV):aY ((Zb)×(Sl X')×Int):=(dY B p1).bind λw=>bl (w==0) ((mS p1 2).bind λz=>bl (z==0) ((kT p1).bind λC=>bl C (some (Sl.nil,(Sl.nil:Sl X'),15)) ((o7 B).bind λu=>bl (u.2==0) (jw.W1 u.1 (Sl.nil:Sl X') u.1 (len u.1) 0 B p1) (some (Sl.nil,(Sl.nil:Sl X'),u.2)))) (some (Sl.nil,(Sl.nil:Sl X'),z))) (some (Sl.nil,(Sl.nil:Sl X'),w))
open jw in
abbrev FW(D:Trace)(p1:Pred):P4 Sy cL (λz:(Sl (Sl Int))=>enc z) (jw D p1):=P4.mk' 78 [enc D,enc p1] (cg 2 2 D (cg 0 3 p1 (bC 10 λI _=>dc 9 20 (bC 7 λJ _=>dc 9 25 (bC 7 λL _=>bE 2 28 aZ (bC 6 λw _=>dc 14 35 (cA 12 w.1 (iJ 6 (λB=>(cr [Pv 2,Pv 3,Cv 9 w.1,Ov 11,Cv 37 w.1,Iv 38 (len w.1),Iv 39 B.2] [Xb 2 D,Xb 3 p1,Lb 2011 B.1])) (λu=>(0,(cr [Cv 9 w.1,Ov 11] [Lb 2011 u]))) (λu=>(cr [Cv 4 u.1,Ov 5,Iv 6 u.2.2] [Lb 2005 u.2.1])) (λB=>bE 8 40 (bR 7 λC _=>bC 8 λG _=>dc 14 50 (A3 8 (⟨D,C,G.1⟩:bA) [enc D,enc C,enc G.1] [.bG,.bG,.bG] [(0,1),(1,1),(2,1)] (by simp only[nJ,o9,jq,we,tq,wv,v8];rfl) rfl (bC 1 λO _=>nk 1 2011 59 60 λQ _=>aZ)) aZ) aZ) (λu=>aZ) (λu=>aZ))) aZ)) aZ) aZ)))
def oQ(B:Z4)(p1:UV):aY ((Sl X')×Int):=(jw B p1).bind λu=>some (u.2.1,u.2.2)
abbrev Di(B:Trace)(p1:Pred):OP Sy cL (oQ B p1):=OP.mk' 44 [enc B,enc p1] (cg 2 2 B (cg 0 3 p1 (XH 8 12 (FW B p1) λu _=>aZ)))
namespace en
def bz(J:Sl X')(G:Int)(B:Sl X')(D:Int):aY (Fw ((Sl X')×Int) (Sl X') Empty):=bl (decide (D<G)) ((idx J D).bind λu=>(Sl.lS B D).bind λw=>(Sl.put B w ((!u):X')).bind λz=>some (.n (z,wrap .i64 (D+1)))) (some (.x B))
def W1(B J:Sl X')(D G:Int):aY (Sl X'):=(cD (λq:(Sl X')×Int=>bz J D q.1 q.2) (B,G)).bind (Fw.elim (λe=>some e) (λe=>elim e))
end en
def en(B:Sl X'):aY (Sl X'):=(qD (len B) (false:X')).bind λu=>en.W1 u B (len B) 0
open en in
theorem tL:lz Sy cL 23 (λB:Sl X'=>[enc B]) (λz=>en z):=lz.mk' (nF (Tx 23)) (λB=>cA 8 B (Mt 0 8 λD _=>cA 7 B (gJ 6 (λu=>(cr [Ov 3,Cv 9 B,Iv 10 (len B),Iv 11 u.2] [Lb 2003 u.1])) (λw=>(0,(cr [Ov 3] [Lb 2003 w]))) (λu=>bE 8 12 (bR 8 λC _=>n9 .i64 10 2003 λG _=>xQ 0 2003 (.bool (!C)) λI _=>aZ) aZ) (λw=>aZ))))
namespace fG
def bz(s0:Sl X')(D:X')(G:Int)(B:Int):aY (Fw Int Unit Int):=bl (decide (B<G)) ((idx s0 B).bind λu=>bl (D==u) (some (.r B)) (some (.n (wrap .i64 (B+1))))) (some (.x ()))
def W1(s0:Sl X')(B:X')(D G:Int):Pi:=(cD (λq:Int=>bz s0 B D q) G).bind (Fw.elim (λe=>some (-1)) (λe=>some e))
end fG
def fG(s0:Sl X')(B:X'):Pi:=fG.W1 s0 B (len s0) 0
open fG in
instance OI(s0:Sl X')(B:X'):Fc Sy cL (fG s0 B):=Fc.M 113 [enc s0,.bool B] (cA 9 s0 (iJ 5 (λw=>(cr [Cv 0 s0,Bv 1 B,Iv 7 (len s0),Iv 8 w] [])) (λu=>(0,(cr [] []))) (λu=>(cr [Iv 4 u] [])) (λw=>bE 7 9 (bR 16 λz _=>bE 4 16 aZ aZ) aZ) (λu=>aZ) (λu=>aZ)))
def jc(s0:Sl X')(B:X'):aY X':=(fG s0 B).bind λu=>some (decide (u>=0))
instance K2(s0:Sl X')(B:X'):Fc Sy cL (jc s0 B):=Fc.M 79 [enc s0,.bool B] (bC 9 λu _=>aZ)
def pU(B:Sl X'):aY X':=(jc B true).bind λu=>some u
instance T_(B:Sl X'):Fc Sy cL (pU B):=Fc.M 47 [enc B] (bC 8 λu _=>aZ)
def qT(B:Sl X'):aY X':=(bl (decide ((len B)>0)) ((jc B false).bind λu=>some (!u)) (some false):aY X').bind λw=>some w
instance V6(B:Sl X'):Fc Sy cL (qT B):=Fc.M 48 [enc B] (cA 8 B (ck 2 4 [0,6] 10 (bE 2 6 (bC 1 λu _=>bD 2) (bD 4)) λw=>aZ))
def gI(G:Int)(B:Sl X')(T:Int)(J:Sl X'):aY X':=bl (T==18) ((idx J G).bind λI=>(bl I (some true) ((pU B).bind λL=>some L):aY X').bind λO=>some O) (bl (T==19) ((idx J G).bind λQ=>(bl Q (some true) ((qT B).bind λS=>some S):aY X').bind λU=>some U) (bl (T==20) ((idx J G).bind λW=>(bl W ((bl ((len B)==0) (some true) ((pU B).bind λX=>some X):aY X').bind λY=>some Y) (some false):aY X').bind λu=>some u) ((idx J G).bind λw=>(bl w ((bl ((len B)==0) (some true) ((qT B).bind λz=>some z):aY X').bind λC=>some C) (some false):aY X').bind λD=>some D)))
instance HM(D:Int)(B:Sl X')(G:Int)(J:Sl X'):Fc Sy cL (gI D B G J):=Fc.M 46 [.int .i64 D,enc B,.fptr (cells G),.fptr (cells J)] (bE 18 8 (bR 5 λL _=>ck 2 3 [1,14] 17 (bE 2 14 (bD 3) (bC 1 λO _=>bD 1)) λQ=>aZ) (bE 7 18 (bR 5 λS _=>ck 2 3 [1,24] 27 (bE 2 24 (bD 3) (bC 1 λT _=>bD 1)) λU=>aZ) (bE 7 28 (bR 5 λW _=>ck 2 8 [1,34] 42 (bE 2 34 (cA 1 B (ck 2 3 [1,38] 41 (bE 2 38 (bD 3) (bC 1 λX _=>bD 1)) λY=>bD 1)) (bD 8)) λu=>aZ) (bR 8 λw _=>ck 2 8 [1,47] 55 (bE 2 47 (cA 1 B (ck 2 3 [1,51] 54 (bE 2 51 (bD 3) (bC 1 λz _=>bD 1)) λC=>bD 1)) (bD 8)) λI=>aZ))))
namespace dG
def cI(U:bp)(D:Sl X')(W:Int)(J:Zg)(T:Int)(B:Sl X')(G:Int)(p1:(Int×(Sl X'))->aY X'):aY (Fw ((Sl X')×Int) (Sl X') Empty):=bl (decide (G<T)) ((idx J G).bind λu=>(Sl.lS D u).bind λw=>(Sl.get D w).bind λz=>(fW B (z:X')).bind λC=>some (.n (C,wrap .i64 (G+1)))) (some (.x B))
def W2(J:bp)(B:Sl X')(G:Int)(D:Sl X')(T:Zg)(U W:Int)(p1:(Int×(Sl X'))->aY X'):aY (Fw ((Sl X')×Int) (Sl X') Empty):=(cD (λq:(Sl X')×Int=>cI J B G T U q.1 q.2 p1) (D,W)).bind (Fw.elim (λe=>(p1 (G,e)).bind λu=>(Sl.lS B G).bind λw=>(Sl.put B w (u:X')).bind λz=>some (.n (z,wrap .i64 (G-1)))) (λe=>elim e))
def bz(D:bp)(B:Sl X')(G:Int)(p1:(Int×(Sl X'))->aY X'):aY (Fw ((Sl X')×Int) (Sl X') Empty):=bl (decide (G>=0)) ((idx D.next G).bind λu=>W2 D B G (Sl.nil:Sl X') u (len u) 0 p1) (some (.x B))
def W1(D:bp)(B:Sl X')(G:Int)(p1:(Int×(Sl X'))->aY X'):aY (Sl X'):=(cD (λq:(Sl X')×Int=>bz D q.1 q.2 p1) (B,G)).bind (Fw.elim (λe=>some e) (λe=>elim e))
end dG
def dG(B:bp)(p1:(Int×(Sl X'))->aY X'):aY (Sl X'):=(qD (len B.l) (false:X')).bind λu=>dG.W1 B u (wrap .i64 ((len B.l)-1)) p1
open dG in
theorem wA(g1:Y')(e1:S')(p1:(Int×(Sl X'))->aY X')(a:ki Sy cL g1 [] e1 (λz:Int×(Sl X')=>[.int .i64 z.1,enc z.2]) (λr:X'=>[.bool r]) p1 true)(B:bp):lz Sy cL 45 (λ_:Unit=>[.fptr (cells B),.clo g1 [] e1]) (λ_=>dG B p1):=lz.mk' (nF (Tx 45)) (λ_=>cA 11 B.l (Mt 0 15 λL _=>cA 10 B.l (gJ 7 (λu=>(cr [Kv 0 B,(1,.v (.clo g1 [] e1)),Ov 5,Iv 6 u.2] [Lb 2005 u.1])) (λG=>(0,(cr [Ov 5] [Lb 2005 G]))) (λu=>bE 9 23 (bR 18 λw _=>cA 1 w (gJ 7 (λC=>(cr [Kv 0 B,(1,.v (.clo g1 [] e1)),Ov 5,Iv 6 u.2,Ov 7,Cv 32 w,Iv 33 (len w),Iv 34 C.2] [Lb 2005 u.1,Lb 2007 C.1])) (λD=>(2,(cr [Kv 0 B,(1,.v (.clo g1 [] e1)),Ov 5,Iv 6 u.2,Ov 7] [Lb 2005 u.1,Lb 2007 D]))) (λC=>bE 9 35 (bR 7 λO _=>n9 .i64 8 2005 λQ _=>yS 0 2005 0 1 false (λI=>.bool I) λI _=>nk 1 2007 43 44 λS _=>aZ) aZ) (λD=>wX 9 a.f (u.2,D) λJ _=>n9 .i64 0 2005 λT _=>xQ 0 2005 (.bool J) λU _=>aZ))) aZ) (λG=>aZ))))
def jW(D:bp)(B:Int)(G:Sl X'):aY (Sl X'):=((dG D (λz=>gI z.1 z.2 B G)).bind Sl.whole).bind λu=>some u
theorem l_(G:bp)(B:Int)(D:Sl X'):lz Sy cL 24 (λ_:Unit=>[.fptr (cells G),.int .i64 B,enc D]) (λ_=>jW G B D):=lz.mk' (nF (Tx 24)) (λ_=>cg 3 5 D (ud 9 9 (wA 46 [.fptr (cells B),.fptr (cells D)] (λz=>gI z.1 z.2 B D) ki.o8 G) () λu _=>aZ))
namespace bV
def cI(G:Sl X')(U:Int)(W:UV)(D:Sl X')(B:Int)(r:(bp×UV)->aY (Sl X')):aY (Fw ((Sl X')×Int) (Sl X') Empty):=bl (decide (B<U)) ((Sl.lS G B).bind λX=>(Sl.get G X).bind λu=>bl (W.kind==16) ((Sl.lS D B).bind λw=>(Sl.get D w).bind λz=>(bl z (some u) (some false):aY X').bind λC=>(Sl.lS D B).bind λI=>(Sl.put D I (C:X')).bind λJ=>some (.n (J,wrap .i64 (B+1)))) ((Sl.lS D B).bind λL=>(Sl.get D L).bind λO=>(bl O (some true) (some u):aY X').bind λQ=>(Sl.lS D B).bind λS=>(Sl.put D S (Q:X')).bind λT=>some (.n (T,wrap .i64 (B+1))))) (some (.x D))
def W2(T B:Sl X')(D G:Int)(J:UV)(r:(bp×UV)->aY (Sl X')):aY (Sl X'):=(cD (λq:(Sl X')×Int=>cI B D J q.1 q.2 r) (T,G)).bind (Fw.elim (λe=>some e) (λe=>elim e))
def J1(D:bp)(J:Sl X')(G:X')(B:UV)(r:(bp×UV)->aY (Sl X')):aY (Sl X'):=bl G ((idx B.l 1).bind λw=>((r (D,w)).bind Sl.whole).bind λu=>bV.W2 J u (len u) 0 B r) (((jW D B.kind J).bind Sl.whole).bind λz=>some z)
theorem kH(r:(bp×UV)->aY (Sl X'))(a:lz Sy cL 22 (λz:bp×UV=>[.fptr (cells z.1),enc z.2]) r)(D:bp)(T:Sl X')(J:X')(B:UV):Le ((J1 D T J B r).bind (λr=>some (cF r))) (b_ Sy cL (Dx (tr Tx 22)) (qx (tb Tx 22) [1,1,1,0,1,0,1,1,1,0,0] [] (cr [Kv 0 D,Pv 3,Ov 7,Bv 35 J] [Xb 3 B,Lb 2007 T]))):=bE 0 35 (jb 7 40 (Pred.lE B.l) (bR 0 λS _=>ud 1 43 a (D,S) λG _=>Fe 0 43 G (gJ 7 (λI=>(cr [Pv 3,Ov 7,Ov 43,Iv 44 (len G),Iv 45 I.2] [Xb 3 B,Lb 2007 I.1,Lb 2043 G])) (λL=>(1,(cr [Ov 7] [Lb 2007 L]))) (λI=>bE 9 46 (n9 .i64 8 2043 λb _=>yS 0 2043 0 1 false (λu=>.bool u) λu _=>bE 11 52 (n9 .i64 6 2007 λU _=>yS 0 2007 0 1 false (λw=>.bool w) λw _=>ck 1 2 [9,59] 61 (bE 1 59 (bD 2) (bD 2)) λO=>n9 .i64 0 2007 λW _=>xQ 0 2007 (.bool O) λX _=>aZ) (n9 .i64 6 2007 λY _=>yS 0 2007 0 1 false (λC=>.bool C) λC _=>ck 1 2 [9,69] 71 (bE 1 69 (bD 2) (bD 2)) λQ=>n9 .i64 0 2007 λZ _=>xQ 0 2007 (.bool Q) λc _=>aZ)) aZ) (λL=>aZ)))) (ud 11 79 (l_ D B.kind T) () λd _=>aZ)
end bV
def bZ(B:bp)(p1:UV)(r:(bp×UV)->aY (Sl X')):aY (Sl X'):=(kT p1).bind λw=>bl w ((idx p1.l 0).bind λz=>((r (B,z)).bind Sl.whole).bind λu=>bl (p1.kind==15) (((en u).bind Sl.whole).bind λC=>some C) (bl (p1.kind==16) (bV.J1 B u true p1 r) (bV.J1 B u (p1.kind==17) p1 r))) (((oQ B.t p1).bind zz).bind λD=>some D.1)
open bV in
theorem wq(r:(bp×UV)->aY (Sl X'))(a:lz Sy cL 22 (λz:bp×UV=>[.fptr (cells z.1),enc z.2]) r)(B:bp)(p1:UV):∀s,bZ B p1 r=some s->∃e m',cL 22 ([.fptr (cells B),enc p1].map .v) []=some ([.own e],m')/\bh m' e=some (cF s):=(lz.mk' (nF (Tx 22)) (λ_=>cg 2 3 p1 (bC 7 λC _=>dc 3 12 (jb 8 25 (Pred.lE p1.l) (bR 0 λw _=>ud 1 28 a (B,w) λu _=>bE 17 31 (ud 5 34 tL u λD _=>aZ) (bE 8 35 (rV 5 (kH r a B u true p1)) (rV 8 (kH r a B u (p1.kind==17) p1))))) (Y0 (Di B.t p1) 8 19 λG _=>aZ))):lz Sy cL 22 (λ_:Unit=>[.fptr (cells B),enc p1]) (λ_=>bZ B p1 r)).h ()
def bV(B:bp)(p1:UV):aY (Sl X'):=dU (λr(z:bp×UV)=>bZ z.1 z.2 r) 100000 (B,p1)
theorem oW:lz Sy cL 22 (λz:bp×UV=>[.fptr (cells z.1),enc z.2]) (λz:bp×UV=>bV z.1 z.2):=lz.fix (A:=λz:bp×UV=>[.fptr (cells z.1),enc z.2]) (b:=(λr(z:bp×UV)=>bZ z.1 z.2 r)) Zae Zae (by intro x;rfl) (λr a z=>wq r a z.1 z.2) 100000
def iY(k0:Int)(B:X')(D:Sl X'):aY X':=(bl B (some true) ((idx D k0).bind λu=>some u):aY X').bind λw=>some w
instance HW(k0:Int)(B:X')(D:Sl X'):Fc Sy cL (iY k0 B D):=Fc.M 51 [.int .i64 k0,.fptr (cells B),.fptr (cells D)] (ck 9 5 [0,2,6] 11 (bE 9 6 (bD 5) (bR 2 λu _=>bD 2)) λw=>aZ)
namespace e_
def bz(s0:Zg)(D:Int)(B:Int)(p1:Int->aY X'):aY (Fw Int Unit Int):=bl (decide (B<D)) ((idx s0 B).bind λu=>(p1 u).bind λw=>bl w (some (.r B)) (some (.n (wrap .i64 (B+1))))) (some (.x ()))
def W1(s0:Zg)(B D:Int)(p1:Int->aY X'):Pi:=(cD (λq:Int=>bz s0 B q p1) D).bind (Fw.elim (λe=>some (-1)) (λe=>some e))
end e_
def e_(s0:Zg)(p1:Int->aY X'):Pi:=e_.W1 s0 (len s0) 0 p1
open e_ in
abbrev sq(g1:FuncId)(e1:aX V)(p1:Int->aY Bool)(a:ki Sy cL g1 [] e1 (λz:Int=>[.int .i64 z]) (λr:Bool=>[.bool r]) p1 true)(s0:Sl Int):Fc Sy cL (e_ s0 p1):=Fc.M 50 [enc s0,.clo g1 [] e1] (cA 9 s0 (iJ 5 (λw=>(cr [Cv 0 s0,(1,.v (.clo g1 [] e1)),Iv 7 (len s0),Iv 8 w] [])) (λu=>(0,(cr [] []))) (λu=>(cr [Iv 4 u] [])) (λw=>bE 7 9 (bR 16 λB _=>wX 1 a.f B λC _=>bE 2 16 aZ aZ) aZ) (λu=>aZ) (λu=>aZ)))
namespace eA
def bz(G:bp)(a:Sl X')(J:X')(T:Sl X')(U:Int)(D:Zb)(B:X'):aY (Fw (Int×(Zb)×X') Zb Empty):=(idx G.next U).bind λS=>bl (decide ((len S)>0)) ((idx G.next U).bind λW=>(e_ W (λz=>iY z B T)).bind λX=>(idx G.next U).bind λY=>(idx Y X).bind λu=>(bl B (some true) ((bl J ((idx a u).bind λw=>some w) (some false):aY X').bind λC=>some C):aY X').bind λI=>(idx G.l u).bind λL=>((dI L).bind Sl.whole).bind λO=>(fW D (O:Zg)).bind λQ=>some (.n (u,Q,I))) (some (.x D))
def W1(T:bp)(U:Sl X')(D:X')(W:Int)(G:Zb)(J:Sl X')(B:X'):aY Zb:=(cD (λq:Int×(Zb)×X'=>bz T U D J q.1 q.2.1 q.2.2) (W,G,B)).bind (Fw.elim (λe=>some e) (λe=>elim e))
end eA
def eA(G:bp)(D J:Sl X')(B:X'):aY Zb:=(bl B ((idx J 0).bind λu=>some u) (some false):aY X').bind λw=>(idx G.l 0).bind λz=>((dI z).bind Sl.whole).bind λC=>eA.W1 G J B 0 (Sl.row [C]:Zb) D w
open eA in
instance KU(J:bp)(B T:Sl X')(D:X'):Fc Sy cL (eA J B T D):=Fc.N 25 [.fptr (cells J),enc B,enc T,.bool D] (cg 2 5 B (ck 12 4 [14] 18 (bE 12 14 (bR 1 λY _=>bD 2) (bD 4)) λZ=>bR 10 λI _=>ud 1 25 fE I λL _=>xZ 1 26 ([L]:aX Zg) (gJ 7 (λu=>(cr [Kv 0 J,Cv 2 T,Bv 3 D,Pv 5,Iv 9 u.1,Pv 10,Ov 11] [(5,.box [cv B]),(10,.box [bv u.2.2]),Lb 2011 u.2.1])) (λw=>(0,(cr [Ov 11] [Lb 2011 w]))) (λu=>bR 10 λO _=>cA 1 O (bE 3 35 (bR 11 λQ _=>cW (F:=sq 51 [.fptr (cells u.2.2),.fptr (cells B)] (λz=>iY z u.2.2 B) ki.o8 Q) 2 λa _=>bR 10 λb _=>bR 2 λc _=>ck 8 8 [56] 64 (bE 8 56 (bD 8) (ck 2 5 [58] 63 (bE 2 58 (bR 2 λS _=>bD 2) (bD 5)) λU=>bD 1)) λW=>bR 10 λC _=>ud 1 73 fE C λG _=>xZ 1 74 ([G]:aX Zg) (nk 0 2011 74 75 λX _=>aZ)) aZ)) (λw=>aZ))))
namespace cE
def J2(G:bp)(J:Sl X')(B:X')(D:Int):aY ((Zb)×Int):=((jW G D J).bind Sl.whole).bind λu=>(Sl.lS u 0).bind λw=>(Sl.get u w).bind λz=>bl z ((eA G u J B).bind λC=>some (C,0)) (some (Sl.nil,7))
def J1(D:bp)(G:Sl X')(B:X'):aY ((Zb)×Int):=bl B (cE.J2 D G B 18) (cE.J2 D G B 20)
theorem kH(D:bp)(G:Sl X')(B:X'):Le ((J1 D G B).bind (λr=>some [enc r.1,.int .i64 r.2])) (b_ Sy cL (qc (tr Tx 7)) (qx (tb Tx 7) [1,1,1,1,1,1,1,1,0,0] [] (cr [Kv 7 D,Ov 9,Bv 10 B] [Lb 2009 G]))):=bE 11 55 (qf 7 (Il 5 59 (l_ D 18 G) () λw _=>n9 .i64 7 59 λz _=>yS 0 59 0 1 false (λu=>.bool u) λu _=>dc 3 63 (bC 11 λC _=>aZ) aZ)) (qf 5 (Il 5 59 (l_ D 20 G) () λw _=>n9 .i64 7 59 λz _=>yS 0 59 0 1 false (λu=>.bool u) λu _=>dc 3 63 (bC 11 λC _=>aZ) aZ))
end cE
def cE(T:Z4)(p1:UV):aY ((Zb)×Int):=(lq T p1).bind λz=>bl (z==0) ((ow p1.kind).bind λD=>bl D ((dD T).bind λu=>bl (u.2==0) ((idx p1.l 0).bind λG=>(u.1).bind λw=>((bV w G).bind Sl.whole).bind λB=>(bl (p1.kind==18) (some true) (some (p1.kind==21)):aY X').bind λC=>(bl (p1.kind==19) (some true) (some (p1.kind==21)):aY X').bind λI=>bl I (((en B).bind Sl.whole).bind λJ=>cE.J1 w J C) (cE.J1 w B C)) (some (Sl.nil,u.2))) (some (Sl.nil,15))) (some (Sl.nil,z))
open cE in
instance OQ(D:Z4)(p1:UV):Fc Sy cL (cE D p1):=Fc.N 7 [enc D,enc p1] (cg 2 2 D (cg 0 3 p1 (bC 9 λC _=>dc 9 17 (bC 8 λL _=>dc 3 22 (bC 6 λG _=>dc 14 29 (jb 8 33 (Pred.lE p1.l) (bR 0 λw _=>JU 1 (λJ=>(cr [Pv 3,Iv 6 C,Bv 17 false,Bv 22 false,Cv 7 J,Iv 8 G.2,Bv 29 false,Cv 31 J,Cv 35 w] [Xb 2 D,Xb 3 p1])) λu _=>ud 0 36 oW (u,w) λz _=>ck 9 4 [40] 44 (bE 9 40 (bD 4) (bD 4)) λB=>ck 10 4 [3,48] 52 (bE 10 48 (bD 4) (bD 4)) λO=>bE 2 52 (ud 4 54 tL z λI _=>rV 5 (kH u I B)) (rV 5 (kH u z B)))) aZ) aZ) aZ)))
def gC(D:Z4)(p1:UV):aY ((Sl X')×Int):=(lq D p1).bind λw=>bl (w==0) ((dD D).bind λu=>bl (u.2==0) ((u.1).bind λz=>((bV z p1).bind Sl.whole).bind λB=>some (B,0)) (some (Sl.nil,u.2))) (some (Sl.nil,w))
instance R2(B:Z4)(p1:UV):Fc Sy cL (gC B p1):=Fc.N 26 [enc B,enc p1] (cg 2 2 B (cg 0 3 p1 (bC 9 λu _=>dc 9 13 (bC 6 λw _=>dc 14 21 (JU 7 (λC=>(cr [Iv 6 u,Bv 13 false,Iv 8 w.2,Bv 21 false,Cv 23 C,Cv 24 p1] [Xb 2 B,Xb 3 p1])) λz _=>ud 0 25 oW (z,p1) λD _=>aZ) aZ) aZ)))
def iV(B:Z4)(p1:UV):aY (X'×Int):=(gC B p1).bind λu=>bl (u.2==0) ((idx u.1 0).bind λw=>some (w,0)) (some (false,u.2))
instance M6(B:Z4)(p1:UV):Fc Sy cL (iV B p1):=Fc.M 8 [enc B,enc p1] (cg 2 2 B (cg 0 3 p1 (bC 8 λu _=>dc 14 15 (bR 6 λw _=>aZ) aZ)))
def sM(a B:W5):aY X':=(bl (a.kind==2) (some (a.message==B.message)) (some false):aY X').bind λu=>some u
instance T0(a B:W5):Fc Sy cL (sM a B):=Fc.M 86 [enc a,.fptr (cells B)] (cg 2 2 a (ck 9 6 [1,2,7] 13 (bE 9 7 (bD 6) (bD 6)) λu=>aZ))
def xh(B:Z4)(e1:W5):aY (a_×X'):=(idx B.procs e1.peer).bind λw=>(fh w.events (λz=>sM z e1)).bind λu=>some (⟨e1.peer,wrap .i64 (u+1)⟩,decide (u>=0))
instance XB(B:Z4)(e1:W5):Fc Sy cL (xh B e1):=Fc.M 53 [enc B,enc e1] (cg 2 2 B (cg 0 3 e1 (bR 10 λu _=>cW (F:=qH 86 [.fptr (cells e1)] (λz=>sM z e1) ki.o8 u.events) 3 λw _=>aZ)))
namespace iS
def J3(T:Sl a_)(U:Sl bP)(W Y:Int)(a:Sl W5)(b G:Int)(J:Z4)(B:a_)(D:cV):aY (Fw ((Sl a_)×Int×Z4×cV) ((Sl a_)×Z4×cV) Empty):=(fW T (B:a_)).bind λu=>some (.n (u,wrap .i64 (G+1),J,D))
def cI(U:Sl bP)(W Y:Int)(J:Sl W5)(T:Int)(a:Sl a_)(D:Int)(G:Z4)(B:cV):aY (Fw ((Sl a_)×Int×Z4×cV) ((Sl a_)×Z4×cV) Empty):=bl (decide (D<T)) ((idx J D).bind λu=>bl (u.kind==3) ((xh G u).bind λw=>J3 a U W Y J T D G w.1 B) (J3 a U W Y J T D G (⟨0,0⟩:a_) B)) (some (.x (a,G,B)))
def W2(a:Sl a_)(G:Sl bP)(J B:Int)(T:Sl W5)(U W:Int)(Y:Z4)(D:cV):aY (Fw (Int×Z4×cV) cV Empty):=(cD (λq:(Sl a_)×Int×Z4×cV=>cI G J B T U q.1 q.2.1 q.2.2.1 q.2.2.2) (a,W,Y,D)).bind (Fw.elim (λe=>(fW e.2.2.needs (e.1:Sl a_)).bind λu=>some (.n (wrap .i64 (B+1),e.2.1,(⟨e.2.2.t,u⟩:cV)))) (λe=>elim e))
def bz(G:Sl bP)(J:Int)(D:Int)(T:Z4)(B:cV):aY (Fw (Int×Z4×cV) cV Empty):=bl (decide (D<J)) ((idx G D).bind λu=>W2 (Sl.nil:Sl a_) G J D u.events (len u.events) 0 T B) (some (.x B))
def W1(D:Sl bP)(G J:Int)(T:Z4)(B:cV):aY (aY cV):=(cD (λq:Int×Z4×cV=>bz D G q.1 q.2.1 q.2.2) (J,T,B)).bind (Fw.elim (λe=>some (some e)) (λe=>elim e))
end iS
def iS(B:Z4):aY (aY cV):=iS.W1 B.procs (len B.procs) 0 B (⟨B,Sl.nil⟩:cV)
open iS in
instance YE(B:Z4):Fc Sy cL (iS B):=Fc.N 28 [enc B] (cg 2 1 B (A3 6 (⟨B,Sl.nil⟩:cV) [enc B] [.bG,.bG] [(0,1)] (by simp only[nJ,o9,jq,we,tq,wv,v8];rfl) rfl (cg 0 12 (⟨B,Sl.nil⟩:cV) (cA 8 B.procs (gJ 6 (λu=>(cr [Pv 1,(3,.ptr 12 0),Cv 14 B.procs,Iv 15 (len B.procs),Iv 16 u.1] [Xb 1 u.2.1,(12,.box [cv u.2.2.t.procs,.own 4241]),Lb 4241 u.2.2.needs])) (λD=>(0,(cr [(3,.ptr 12 0)] [(12,.box [cv D.t.procs,.own 4241]),Lb 4241 D.needs]))) (λu=>bE 8 17 (bR 7 λC _=>o_ 2 5 0 C (cA 12 C.events (gJ 7 (λw=>(cr [Pv 1,(3,.ptr 12 0),Ov 6,Cv 14 B.procs,Iv 15 (len B.procs),Iv 16 u.1,Cv 21 C.events,Iv 22 (len C.events),Iv 23 w.2.1] [Xb 1 w.2.2.1,(12,.box [cv w.2.2.2.t.procs,.own 4241]),Lb 2006 w.1,Lb 4241 w.2.2.2.needs])) (λz=>(2,(cr [Pv 1,(3,.ptr 12 0),Ov 6,Cv 14 B.procs,Iv 15 (len B.procs),Iv 16 u.1] [Xb 1 z.2.1,(12,.box [cv z.2.2.t.procs,.own 4241]),Lb 2006 z.1,Lb 4241 z.2.2.needs]))) (λw=>bE 9 24 (bR 7 λG _=>o_ 2 8 0 G (bE 15 29 (bC 4 λJ _=>qf 9 (nk 4 2006 38 39 λI _=>aZ)) (qf 6 (nk 4 2006 38 39 λI _=>aZ)))) aZ) (λz=>xZ 10 47 ([z.1]:aX (Sl a_)) (nk 0 4241 47 48 λL _=>aZ))))) aZ) (λD=>aZ))))))
def oA(s0:cV):aY Zg:=(qD (len s0.needs) (0:Int)).bind λu=>some u
theorem uD:lz Sy cL 55 (λs0:cV=>[.fptr (cells s0)]) (λz=>oA z):=lz.mk' (nF (Tx 55)) (λs0=>cA 11 s0.needs (Mt 0 8 λu _=>aZ))
namespace gD
def bz(D:Sl (Sl a_))(G:Int)(J:Zg)(B:Int):aY (Fw ((Zg)×Int) Zg Empty):=bl (decide (B<G)) ((idx D B).bind λu=>(Sl.lS J B).bind λw=>(Sl.put J w (len u:Int)).bind λz=>some (.n (z,wrap .i64 (B+1)))) (some (.x J))
def W1(J:Zg)(B:Sl (Sl a_))(D G:Int):aY Zg:=(cD (λq:(Zg)×Int=>bz B D q.1 q.2) (J,G)).bind (Fw.elim (λe=>some e) (λe=>elim e))
end gD
def gD(s0:cV):aY Zg:=((oA s0).bind Sl.whole).bind λu=>gD.W1 u s0.needs (len s0.needs) 0
open gD in
instance Ts(s0:cV):Fc Sy cL (gD s0):=Fc.N 56 [.fptr (cells s0)] (ud 8 7 uD s0 λB _=>cA 10 s0.needs (gJ 6 (λu=>(cr [Ov 3,Cv 11 s0.needs,Iv 12 (len s0.needs),Iv 13 u.2] [Lb 2003 u.1])) (λw=>(0,(cr [Ov 3] [Lb 2003 w]))) (λu=>bE 8 14 (bR 8 λz _=>cA 9 z (n9 .i64 0 2003 λC _=>xQ 0 2003 (.int .i64 (len z)) λD _=>aZ)) aZ) (λw=>aZ)))
namespace jB
def bz(G:Int)(B:Zg)(D:Int):aY (Fw ((Zg)×Int) Zg Empty):=bl (decide (D<G)) ((Sl.lS B D).bind λu=>(Sl.put B u (D:Int)).bind λw=>some (.n (w,wrap .i64 (D+1)))) (some (.x B))
def W1(B:Zg)(D G:Int):aY Zg:=(cD (λq:(Zg)×Int=>bz D q.1 q.2) (B,G)).bind (Fw.elim (λe=>some e) (λe=>elim e))
end jB
def jB(B:Int):aY Zg:=(qD B (0:Int)).bind λu=>jB.W1 u (len u) 0
open jB in
instance Wx(B:Int):Fc Sy cL (jB B):=Fc.N 57 [.int .i64 B] (Mt 8 6 λw _=>Fe 7 6 w (gJ 6 (λu=>(cr [Ov 3,Iv 8 (len w),Iv 9 u.2] [Lb 2003 u.1])) (λz=>(0,(cr [Ov 3] [Lb 2003 z]))) (λu=>bE 8 10 (n9 .i64 15 2003 λC _=>xQ 0 2003 (.int .i64 u.2) λD _=>aZ) aZ) (λz=>aZ)))
def sC(s0:cV)(B:Zg)(p2:Int):aY X':=(bl (decide (p2<0)) (some true) (some (decide (p2>=(len B)))):aY X').bind λw=>(bl w (some true) ((idx B p2).bind λz=>(idx s0.needs p2).bind λC=>some (decide (z>=(len C)))):aY X').bind λD=>bl D (some false) ((idx s0.needs p2).bind λG=>(idx B p2).bind λI=>(idx G I).bind λu=>(bl (u.index==0) (some true) ((idx B u.proc).bind λJ=>some (decide (u.index<=J))):aY X').bind λL=>some L)
instance T5(s0:cV)(B:Zg)(p2:Int):Fc Sy cL (sC s0 B p2):=Fc.M 59 [.fptr (cells s0),enc B,.int .i64 p2] (ck 11 5 [10] 15 (bE 11 10 (bD 5) (cA 2 B (bD 2))) λw=>ck 1 14 [16] 30 (bE 1 16 (bD 14) (bR 2 λz _=>bR 6 λu _=>cA 1 u (bD 2))) λC=>bE 2 30 aZ (bR 10 λD _=>bR 3 λG _=>bR 1 λI _=>ck 11 9 [1,7,47] 56 (bE 11 47 (bD 9) (bR 5 λJ _=>bD 3)) λL=>aZ))
def zS(D:Zg)(p1:Int):aY Zg:=((dI D).bind Sl.whole).bind λu=>(Sl.lS u p1).bind λw=>(Sl.get u w).bind λz=>(Sl.lS u p1).bind λB=>(Sl.put u B (wrap .i64 (z+1):Int)).bind λC=>some C
instance YK(B:Zg)(p1:Int):Fc Sy cL (zS B p1):=Fc.N 60 [enc B,.int .i64 p1] (ud 8 7 fE B λw _=>n9 .i64 7 7 λz _=>yS 0 7 0 1 false (λu=>.int .i64 u) λu _=>n9 .i64 1 7 λC _=>xQ 0 7 (.int .i64 (wrap .i64 (u+1))) λD _=>aZ)
def lM(J:Int)(W:aY cV)(T:Zb)(U:Int)(Y:Zg):aY X':=(idx T U).bind λu=>(W).bind λw=>(sC w u J).bind λz=>(bl z ((idx T U).bind λB=>(zS B J).bind λC=>(dX Y C).bind λD=>some D) (some false):aY X').bind λG=>some G
instance NU(B:Int)(T:aY cV)(D:Zb)(G:Int)(J:Zg):Fc Sy cL (lM B T D G J):=Fc.M 58 [.int .i64 B,.fptr (cells T),.fptr (cells D),.fptr (cells G),.fptr (cells J)] (bR 10 λw _=>JU 2 (λz=>(cr [Iv 0 B,Kv 2 D,Kv 3 G,Kv 4 J,Cv 7 z,Cv 11 w,Iv 12 B] [])) λC _=>cW 0 λI _=>Cn 1 9 [22,21,13] (λu=>(cr [Bv 23 u] [])) (bE 1 14 (bR 3 λL _=>bC 2 λO _=>cW 0 λQ _=>bD 1) (bD 9)) λu=>aZ)
namespace fU
def bz(J:Zb)(T:Int)(G:cV)(U:Zb)(D:Zg)(B:Int):aY (Fw ((Zg)×Int) Zg Unit):=bl (decide (B<T)) ((idx J B).bind λw=>(jB (len G.needs)).bind λC=>(e_ C (λz=>lM z (some G:aY cV) U B w)).bind λu=>bl (decide (u<0)) (some (.r ())) ((fW D (u:Int)).bind λI=>some (.n (I,wrap .i64 (B+1))))) (some (.x D))
def W1(B:Zg)(D:Zb)(G J:Int)(T:cV)(U:Zb):aY ((Zg)×X'):=(cD (λq:(Zg)×Int=>bz D G T U q.1 q.2) (B,J)).bind (Fw.elim (λe=>some (e,true)) (λe=>some ((Sl.nil:Zg),false)))
end fU
def fU(s0:cV)(r1:Zb):aY ((Zg)×X'):=(bl ((len r1)==0) (some true) ((idx r1 0).bind λw=>(oA s0).bind λz=>(dX w z).bind λB=>some (!B)):aY X').bind λC=>(bl C (some true) ((idx r1 (wrap .i64 ((len r1)-1))).bind λD=>(gD s0).bind λG=>(dX D G).bind λI=>some (!I)):aY X').bind λJ=>bl J (some ((Sl.nil:Zg),false)) ((iP r1 (some 1) none).bind λu=>fU.W1 (Sl.nil:Zg) u (len u) 0 s0 r1)
open fU in
instance QV(s0:cV)(r1:Zb):Fc Sy cL (fU s0 r1):=Fc.N 29 [.fptr (cells s0),enc r1] (cg 3 3 r1 (cA 8 r1 (Cn 2 8 [19,18] (λD=>(cr [Pv 2,Pv 3,Bv 21 D] [(2,.box [cp s0]),(3,.box [cv r1])])) (bE 2 13 (bD 8) (bR 1 λO _=>Yy 2 uD s0 λQ _=>cW 0 λS _=>bD 2)) λD=>Cn 1 11 [31,30,19,18] (λG=>(cr [Pv 2,Pv 3,Bv 33 G] [(2,.box [cp s0]),(3,.box [cv r1])])) (bE 1 22 (bD 11) (cA 2 r1 (bR 1 λT _=>bC 2 λU _=>cW 0 λW _=>bD 2))) λG=>bE 2 33 aZ (FV 12 true false [.int .i64 1] λC _=>cA 0 C (iJ 6 (λu=>(cr [Pv 2,Pv 3,Ov 6,Cv 35 C,Iv 36 (len C),Iv 37 u.2] [(2,.box [cp s0]),(3,.box [cv r1]),Lb 2006 u.1])) (λB=>(0,(cr [Ov 6] [Lb 2006 B]))) (λB=>(cr [Ov 4,Bv 5 false] [Lb 2004 (Sl.nil:Zg)])) (λu=>bE 8 38 (bR 8 λw _=>o_ 4 8 0 w (cA 8 s0.needs (bC 0 λI _=>cW (F:=sq 58 [.fptr (cells (some s0:aY cV)),.fptr (cells r1),.fptr (cells u.2),.fptr (cells w)] (λz=>lM z (some s0:aY cV) r1 u.2 w) ki.o8 I) 1 λJ _=>bE 10 51 aZ (nk 7 2006 54 55 λL _=>aZ)))) aZ) (λB=>aZ) (λB=>aZ))))))
def EP(D:Z4)(r1:Zb):aY X':=(b9 D).bind λu=>bl u ((iS D).bind λw=>(w).bind λz=>(fU z r1).bind λB=>some B.2) (some false)
instance aag(B:Z4)(r1:Zb):Fc Sy cL (EP B r1):=Fc.M 9 [enc B,enc r1] (cg 2 2 B (bC 7 λu _=>dc 3 9 (bC 6 λw _=>JU 1 (λz=>(cr [Bv 9 false,Cv 12 z,Cv 13 r1] [Xb 2 B])) λC _=>bC 0 λD _=>aZ) aZ))
def rM(B:Z4)(D:Zg):aY X':=(c8 B (Sl.row [D]:Zb) (Sl.nil:Zg)).bind λu=>some (u==0)
instance Tj(B:Z4)(D:Zg):Fc Sy cL (rM B D):=Fc.M 105 [enc B,enc D] (cg 2 2 B (xZ 7 7 ([D]:aX Zg) (cW 0 λu _=>aZ)))
def qn(B:Zg)(D:Z4):aY X':=(rM D B).bind λu=>some (!u)
instance Q4(B:Zg)(D:Z4):Fc Sy cL (qn B D):=Fc.M 104 [enc B,.fptr (cells D)] (bC 9 λu _=>aZ)
def tY(B:Z4)(D:Zb):Pi:=(b9 B).bind λu=>bl u ((iT D (λz=>qn z B)).bind λw=>bl w (some 18) (some 0)) (some 1)
instance VH(B:Z4)(D:Zb):Fc Sy cL (tY B D):=Fc.M 66 [enc B,enc D] (cg 2 2 B (bC 7 λu _=>dc 3 7 (cW (F:=pR 104 [.fptr (cells B)] (λz=>qn z B) ki.o8 D) 8 λw _=>bE 2 10 aZ aZ) aZ))
def uv(B D:Zg):aY X':=(dX D B).bind λu=>some u
instance Ws(B D:Zg):Fc Sy cL (uv B D):=Fc.M 69 [enc B,.fptr (cells D)] (bC 9 λu _=>aZ)
def yu(D:Z4)(G:Zg):aY (Int×Int):=(tY D (Sl.row [G]:Zb)).bind λw=>bl (w==0) ((nX D).bind λu=>bl (u.2==0) ((eU u.1 (λz=>uv z G)).bind λB=>some (B,0)) (some (0,u.2))) (some (0,w))
instance Ym(D:Z4)(B:Zg):Fc Sy cL (yu D B):=Fc.M 32 [enc D,enc B] (cg 2 2 D (cg 0 3 B (xZ 9 11 ([B]:aX Zg) (cW 0 λw _=>dc 9 14 (bC 6 λu _=>dc 14 22 (cW (F:=rQ 69 [.fptr (cells B)] (λz=>uv z B) ki.o8 u.1) 7 λC _=>aZ) aZ) aZ))))
namespace fN
def J1(G:Zg)(J:Int)(B:Z4)(D:UV):aY (X'×Int):=bl (J==0) ((iM B G).bind λz=>bl (z.2==0) ((gC B D).bind λu=>bl (u.2==0) ((yu B G).bind λw=>bl (w.2==0) ((idx u.1 w.1).bind λC=>some (C,0)) (some (false,w.2))) (some (false,u.2))) (some (false,z.2))) (some (false,J))
end fN
def fN(B:Z4)(D:Zg)(p2:UV):aY (X'×Int):=(dY B p2).bind λu=>(bl (u==1) (some false) (some (!((len D)==(len B.procs)))):aY X').bind λw=>bl w (fN.J1 D 1 B p2) (fN.J1 D u B p2)
open fN in
instance Rz(B:Z4)(D:Zg)(p2:UV):Fc Sy cL (fN B D p2):=Fc.M 10 [enc B,enc D,enc p2] (cg 2 3 B (cg 0 5 p2 (bC 8 λG _=>ck 9 7 [16] 23 (dc 9 16 (bD 7) (cA 1 D (cA 2 B.procs (bD 2)))) λI=>bE 2 23 (qf 6 (dc 7 25 (bC 8 λu _=>dc 12 34 (bC 7 λw _=>dc 14 43 (bC 7 λz _=>dc 14 52 (bR 7 λC _=>aZ) aZ) aZ) aZ) aZ)) (qf 4 (dc 7 25 (bC 8 λu _=>dc 12 34 (bC 7 λw _=>dc 14 43 (bC 7 λz _=>dc 14 52 (bR 7 λC _=>aZ) aZ) aZ) aZ) aZ)))))
namespace ga
def J2(J:Zg)(B:Int)(D:Zb)(G:Z4)(T:bA):aY (bA×Int):=some (⟨G,J,D⟩,B)
def J1(T:Zg)(B G:Int)(D:Z4)(J:UV)(U:bA):aY (bA×Int):=bl (G==0) ((gP D T).bind λu=>bl (u.2==0) ((mS J B).bind λw=>(bl (w==0) ((kT J).bind λz=>some z) (some false):aY X').bind λC=>bl C (ga.J2 T 15 u.1 D (⟨⟨Sl.nil⟩,Sl.nil,Sl.nil⟩:bA)) (ga.J2 T w u.1 D (⟨⟨Sl.nil⟩,Sl.nil,Sl.nil⟩:bA))) (some (⟨⟨Sl.nil⟩,Sl.nil,Sl.nil⟩,u.2))) (some (⟨⟨Sl.nil⟩,Sl.nil,Sl.nil⟩,G))
theorem kH(G:Zg)(D J:Int)(B:Z4)(T:UV)(U:bA):Le ((J1 G D J B T U).bind (λr=>some [enc r.1,.int .i64 r.2])) (b_ Sy cL (qc (tr Tx 33)) (qx (tb Tx 33) [1,1,1,0] [] (cr [Cv 1 G,Iv 3 D,Pv 4,Pv 6,Pv 8,Iv 10 J] [Xb 4 B,Xb 6 T,Xb 8 (⟨⟨Sl.nil⟩,Sl.nil,Sl.nil⟩:bA)]))):=dc 7 26 (bC 7 λu _=>dc 14 36 (bC 8 λw _=>ck 8 3 [6,44] 47 (bE 8 44 (bC 1 λz _=>bD 1) (bD 3)) λC=>bE 2 47 (qf 6 (A3 5 (⟨B,G,u.1⟩:bA) [enc B,enc G,enc u.1] [.bG,.bG,.bG] [(0,1),(1,1),(2,1)] (by simp only[nJ,o9,jq,we,tq,wv,v8];rfl) rfl (o_ 1 8 0 (⟨B,G,u.1⟩:bA) aZ))) (qf 4 (A3 5 (⟨B,G,u.1⟩:bA) [enc B,enc G,enc u.1] [.bG,.bG,.bG] [(0,1),(1,1),(2,1)] (by simp only[nJ,o9,jq,we,tq,wv,v8];rfl) rfl (o_ 1 8 0 (⟨B,G,u.1⟩:bA) aZ)))) (A3 3 (⟨⟨Sl.nil⟩,Sl.nil,Sl.nil⟩:bA) [] [.bG,.bG,.bG] [] (by simp only[nJ,o9,jq,we,tq,wv,v8];rfl) rfl (o_ 1 8 0 (⟨⟨Sl.nil⟩,Sl.nil,Sl.nil⟩:bA) aZ))) (A3 3 (⟨⟨Sl.nil⟩,Sl.nil,Sl.nil⟩:bA) [] [.bG,.bG,.bG] [] (by simp only[nJ,o9,jq,we,tq,wv,v8];rfl) rfl (o_ 1 8 0 (⟨⟨Sl.nil⟩,Sl.nil,Sl.nil⟩:bA) aZ))
end ga
def ga(D:Z4)(G:Zg)(p2:UV)(B:Int):aY (bA×Int):=(dY D p2).bind λu=>(bl (u==1) (some false) (some (!((len G)==(len D.procs)))):aY X').bind λw=>bl w (ga.J1 G B 1 D p2 (⟨⟨Sl.nil⟩,Sl.nil,Sl.nil⟩:bA)) (ga.J1 G B u D p2 (⟨⟨Sl.nil⟩,Sl.nil,Sl.nil⟩:bA))
open ga in
instance WD(D:Z4)(G:Zg)(p2:UV)(B:Int):Fc Sy cL (ga D G p2 B):=Fc.N 33 [enc D,enc G,enc p2,.int .i64 B] (cg 2 4 D (cg 0 6 p2 (bC 8 λu _=>ck 9 7 [17] 24 (dc 9 17 (bD 7) (cA 1 G (cA 2 D.procs (bD 2)))) λw=>bE 2 24 (rV 6 (kH G B 1 D p2 (⟨⟨Sl.nil⟩,Sl.nil,Sl.nil⟩:bA))) (rV 4 (kH G B u D p2 (⟨⟨Sl.nil⟩,Sl.nil,Sl.nil⟩:bA))))))
def sA(B:Z4)(D:Zg)(p2:UV):aY (X'×Int):=(ga B D p2 2).bind λu=>bl (u.2==0) ((dK u.1 p2).bind λw=>some (w,0)) (some (false,u.2))
instance Ua(B:Z4)(D:Zg)(p2:UV):Fc Sy cL (sA B D p2):=Fc.M 11 [enc B,enc D,enc p2] (cg 2 3 B (cg 0 5 p2 (bC 9 λu _=>o_ 4 8 0 u.1 (dc 10 18 (bC 7 λw _=>aZ) aZ))))
namespace dW
def bz(k7:Int)(r9 T:Zb)(U:Int)(G:Z4)(J:UV)(B D:Int):aY (Fw (Int×Int) Int Unit):=bl (decide (D<U)) ((idx T D).bind λw=>(fN G w J).bind λu=>bl (u.2==0) ((sA G w J).bind λz=>(bl (z.2==0) (some (!(u.1==z.1))) (some false):aY X').bind λC=>bl C (some (.r ())) (bl u.1 (some (.n (wrap .i64 (B+1),wrap .i64 (D+1)))) (some (.n (B,wrap .i64 (D+1)))))) (some (.r ()))) (some (.x B))
def W1(k7:Int)(r9:Zb)(B:Int)(D:Zb)(G J:Int)(T:Z4)(U:UV):aY X':=(cD (λq:Int×Int=>bz k7 r9 D G T U q.1 q.2) (B,J)).bind (Fw.elim (λe=>bl (k7==18) (some (decide (e>0))) (bl (k7==20) (some (e==(len r9))) (bl (k7==19) (some (e==0)) (some (decide (e<(len r9))))))) (λe=>some false))
end dW
def dW(D:Z4)(B:Int)(p2:UV):aY X':=(xH).bind λL=>bl L ((jJ D).bind λO=>(bl O (some true) ((vI p2).bind λQ=>some Q):aY X').bind λS=>bl S (some true) ((yJ (wrap .i64 B) 4).bind λw=>(cE D (⟨wrap .i64 (18+w),0,0,0,ByteArray.empty,Sl.row [p2]⟩:UV)).bind λu=>(iV D (⟨wrap .i64 (18+w),0,0,0,ByteArray.empty,Sl.row [p2]⟩:UV)).bind λz=>bl (z.2==0) ((bl ((wrap .i64 (18+w))==18) (some true) (some ((wrap .i64 (18+w))==20)):aY X').bind λT=>bl (z.1==T) ((bl (u.2==0) ((EP D u.1).bind λU=>some (!U)) (some true):aY X').bind λC=>bl C (some false) (dW.W1 (wrap .i64 (18+w)) u.1 0 u.1 (len u.1) 0 D p2)) ((bl (u.2==7) (some ((len u.1)==0)) (some false):aY X').bind λG=>some G)) ((bl (u.2==z.2) (some ((len u.1)==0)) (some false):aY X').bind λI=>(bl I (some (!z.1)) (some false):aY X').bind λJ=>some J))) (some false)
open dW in
instance yU(G:Z4)(B:Int)(p2:UV):Fc Sy cL (dW G B p2):=Fc.M 3 [enc G,.int .u8 B,enc p2] (cg 2 3 G (cg 0 5 p2 (bC 6 λW _=>dc 3 22 (bC 7 λX _=>ck 1 3 [25] 28 (bE 1 25 (bD 3) (bC 1 λY _=>bD 1)) λZ=>bE 2 28 aZ (aad 7 .i64 λw _=>xZ 8 35 ([p2]:aX UV) (A3 1 (⟨wrap .i64 (18+w),0,0,0,ByteArray.empty,Sl.row [p2]⟩:UV) [.int .i64 (wrap .i64 (18+w)),enc (Sl.row [p2]:Sl UV)] [.int .i64 0,.int .i64 0,.int .i64 0,.int .i64 0,.str ByteArray.empty,.bG] [(0,1),(5,1)] (by have e0:cells (Sl.row [p2]:Sl UV)=[Pred.Er (Sl.row [p2]:Sl UV)]:=congrArg (λz=>[z]) (Pred.lE (Sl.row [p2]:Sl UV)).symm;simp only[nJ,o9,jq,we,tq,wv,v8,e0];rfl) rfl (o_ 1 8 0 (⟨wrap .i64 (18+w),0,0,0,ByteArray.empty,Sl.row [p2]⟩:UV) (bC 6 λu _=>bC 11 λa _=>dc 14 50 (ck 10 3 [66] 69 (bE 10 66 (bD 3) (bD 3)) λb=>dc 10 72 (ck 9 5 [82] 87 (dc 9 82 (bC 2 λc _=>bD 2) (bD 5)) λI=>bE 2 87 aZ (cA 12 u.1 (iJ 5 (λD=>(cr [Pv 3,Pv 5,Iv 7 (wrap .i64 (18+w)),Cv 9 u.1,Iv 14 D.1,Cv 88 u.1,Iv 89 (len u.1),Iv 90 D.2] [Xb 3 G,Xb 5 p2])) (λC=>(0,(cr [Iv 7 (wrap .i64 (18+w)),Cv 9 u.1,Iv 14 C] []))) (λC=>(cr [Bv 6 false] [])) (λD=>bE 7 91 (bR 7 λJ _=>bC 9 λL _=>dc 14 102 (bC 9 λO _=>ck 12 4 [19,112] 116 (bE 12 112 (bD 4) (bD 4)) λQ=>bE 2 116 aZ (bE 8 117 aZ aZ)) aZ) aZ) (λC=>bE 15 122 aZ (bE 7 126 (cA 5 u.1 aZ) (bE 7 132 aZ (cA 8 u.1 aZ)))) (λC=>aZ)))) (ck 6 4 [9,75] 79 (bE 6 75 (cA 1 u.1 (bD 2)) (bD 4)) λS=>aZ)) (ck 7 4 [9,54] 58 (bE 7 54 (cA 1 u.1 (bD 2)) (bD 4)) λT=>ck 1 3 [11,59] 62 (bE 1 59 (bD 3) (bD 3)) λU=>aZ)))))) aZ)))
end
end Go.VE
