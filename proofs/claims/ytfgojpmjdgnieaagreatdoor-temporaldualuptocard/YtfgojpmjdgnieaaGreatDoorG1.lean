/-
 Each function of the program that the law reaches: its plain form, and that it comes to that.
-/
import Derived.Test.YtfgojpmjdgnieaaGreatDoorK1
import Derived.Test.YtfgojpmjdgnieaaGreatDoorT1
set_option linter.all false
noncomputable section
open List(all_cons all_nil map_append map_cons mem_map mem_of_getElem? replicate)
open Go.IntKind(signed wrap)
open Nat(beq zero_add)
open Empty(elim)
open ByteArray(toList)
namespace Go.VE
theorem Zf{p:Prop}(h:p:=by kernel_rfl):p:=h
structure Pred where
 kind:Int
 n:Int
 proc:Int
 peer:Int
 name:ByteArray
 l:Sl Pred
mutual
def Pred.R_:Pred->Zu
 |⟨f0,f1,f2,f3,B,f5⟩=>[.int .i64 f0,.int .i64 f1,.int .i64 f2,.int .i64 f3,.str B,Pred.E3 f5]
def Pred.E3:Sl Pred->V
 |.nil=>.bL|.emp=>.dF|.row l=>.fsl 6 (Pred.KE l)|.part l=>.fsl 6 (Pred.KE l)
def Pred.KE:a_ Pred->Zt
 |[]=>[]|x::r=>Pred.R_ x::Pred.KE r
end
instance:Inhabited Pred:=⟨⟨default,default,default,default,default,Sl.nil⟩⟩
mutual
theorem Pred.PD:∀x:Pred,V.cG x.R_=true
 |⟨f0,f1,f2,f3,B,f5⟩=>by simp only[Pred.R_,V.cG,V.good,Pred.EI,Bool.and_self]
theorem Pred.EI:∀x:Sl Pred,V.good (Pred.E3 x)=true
 |.nil=>rfl|.emp=>rfl|.row l=>by simp only[Pred.E3,V.good,Pred.AV]|.part l=>by simp only[Pred.E3,V.good,Pred.AV]
theorem Pred.AV:∀x:a_ Pred,V.lT (Pred.KE x)=true
 |[]=>rfl|x::r=>by simp only[Pred.KE,V.lT,Pred.PD,Pred.AV,Bool.and_self]
end
theorem Pred.Qg(s:Sl Pred):V.one (Pred.E3 s)=true:=by cases s<;>simp[Pred.E3,V.one]
instance:bF Pred where
 cells x:=[.int .i64 x.kind,.int .i64 x.n,.int .i64 x.proc,.int .i64 x.peer,.str x.name,Pred.E3 x.l]
 agg:=true
 size:=6
 len _:=rfl
 good x:=by simp only[V.cG,V.good,Pred.EI,Bool.and_self]
 one x:=by simp only[all_cons,all_nil,pF,nM,pe,Pred.Qg,Bool.and_self]
 plain h:=by cases h
structure Var where
 name:ByteArray
 init_:Int
 deriving Inhabited
instance:bF Var where
 cells x:=[.str x.name,.int .i64 x.init_]
 agg:=true
 size:=2
 len _:=rfl
 good x:=by simp only[V.cG,V.good,jP,Bool.and_self]
 one x:=by simp only[all_cons,all_nil,pF,nM,pe,oL,Bool.and_self]
 plain h:=by cases h
structure Assign where
 var:Int
 value:Int
 deriving Inhabited
instance:bF Assign where
 cells x:=[.int .i64 x.var,.int .i64 x.value]
 agg:=true
 size:=2
 len _:=rfl
 good x:=by simp only[V.cG,V.good,jP,Bool.and_self]
 one x:=by simp only[all_cons,all_nil,pF,nM,pe,oL,Bool.and_self]
 plain h:=by cases h
structure Event where
 kind:Int
 peer:Int
 message:Int
 time:Int
 assign:Sl Assign
 deriving Inhabited
abbrev Zn:=Event
instance:bF Zn where
 cells x:=[.int .i64 x.kind,.int .i64 x.peer,.int .i64 x.message,.int .i64 x.time,enc x.assign]
 agg:=true
 size:=5
 len _:=rfl
 good x:=by simp only[V.cG,V.good,jP,Bool.and_self]
 one x:=by simp only[all_cons,all_nil,pF,nM,pe,oL,Bool.and_self]
 plain h:=by cases h
structure cz where
 name:ByteArray
 vars:Sl Var
 events:Sl Event
 deriving Inhabited
instance:bF cz where
 cells x:=[.str x.name,enc x.vars,enc x.events]
 agg:=true
 size:=3
 len _:=rfl
 good x:=by simp only[V.cG,V.good,jP,Bool.and_self]
 one x:=by simp only[all_cons,all_nil,pF,nM,pe,oL,Bool.and_self]
 plain h:=by cases h
structure Trace where
 procs:Sl cz
 deriving Inhabited
abbrev Zj:=Trace
instance:bF Zj where
 cells x:=[enc x.procs]
 agg:=true
 size:=1
 len _:=rfl
 good x:=by simp only[V.cG,V.good,jP,Bool.and_self]
 one x:=by simp only[all_cons,all_nil,pF,nM,pe,oL,Bool.and_self]
 plain h:=by cases h
structure bJ where
 from_:bu
 to_:bu
 deriving Inhabited
instance:bF bJ where
 cells x:=[.int .i64 x.from_.proc,.int .i64 x.from_.index,.int .i64 x.to_.proc,.int .i64 x.to_.index]
 agg:=true
 size:=4
 len _:=rfl
 good x:=by simp only[V.cG,V.good,jP,Bool.and_self]
 one x:=by simp only[all_cons,all_nil,pF,nM,pe,oL,Bool.and_self]
 plain h:=by cases h
structure cq where
 lengths:Sl Int
 need:Sl (Sl bu)
 deriving Inhabited
instance:bF cq where
 cells x:=[enc x.lengths,enc x.need]
 agg:=true
 size:=2
 len _:=rfl
 good x:=by simp only[V.cG,V.good,jP,Bool.and_self]
 one x:=by simp only[all_cons,all_nil,pF,nM,pe,oL,Bool.and_self]
 plain h:=by cases h
structure bW where
 t:Trace
 l:Sl (Sl Int)
 next:Sl (Sl Int)
 deriving Inhabited
instance:bF bW where
 cells x:=[enc x.t.procs,enc x.l,enc x.next]
 agg:=true
 size:=3
 len _:=rfl
 good x:=by simp only[V.cG,V.good,jP,Bool.and_self]
 one x:=by simp only[all_cons,all_nil,pF,nM,pe,oL,Bool.and_self]
 plain h:=by cases h
def hU(p:Int):Int->a_ Zn->a_ (bu×Zn)
 |_,[]=>[]|j,e::r=>(⟨p,j+1⟩,e)::hU p (j+1) r
def fe:Int->a_ cz->a_ (bu×Zn)
 |_,[]=>[]|i,p::r=>hU i 0 p.events.l++fe (i+1) r
def Ek(n:Nat):Zl:=decide (n<9223372036854775807)
def iH(t:Zj):bt (a_ (bu×Zn)):=if Ek t.procs.l.length&&t.procs.l.all λp=>Ek p.events.l.length then some (fe 0 t.procs.l)else none
end Go.VE
namespace Go.VE
def Oo:Nat->Nat->Nat->Zv
 |0,_,_=>[]|f+1,i,m=>bif m % 2==1 then i::Oo f (i+1) (m / 2)else Oo f (i+1) (m / 2)
def gK(g m:Nat)(l:Zv:=[]):Gh:=.keep (Oo 128 0 g) (Oo 128 0 m++l)
def g2(n g m:Nat)(l:Zv:=[]):Nat×Z5×Z5:=(n,[gK g m l],[gK g m l])
def g1(n g m:Nat)(l:Zv:=[]):Nat×Z5×Z5:=(n,[gK g m l],[])
def G2(n:Nat)(x:Z5):Nat×Z5×Z5:=(n,x,x)
def G1(n:Nat)(x:Z5):Nat×Z5×Z5:=(n,x,[])
def cS(i n:Nat):Gh:=.canon (.s i) (2000+i) n
def cC(i j n:Nat):Gh:=.canon (.c i j) (4000+20*i+j) n
def e0(n m:Nat):Nat×GD:=(n,⟨m,[],[]⟩)
def e1(n m:Nat)(l:a_ (Nat×Z5×Z5)):Nat×GD:=(n,⟨m,[],l⟩)
def Jw:a_ (Nat×GD):=[ e1 48 0x22226260002000201 [g2 6 387 0,g1 12 0 0,g1 22 16 0,g1 27 16 0],e0 23 0x226221,e1 49 0x22226260002000201 [g2 6 387 0,g1 12 0 0,g1 22 16 0,g1 27 16 0],e0 25 0x226221,e0 26 0x2222212,e0 24 0x264442644402222012,e1 5 0x26444264440264422022262222202000020012 [g2 8 906 2,g1 14 10 2],e0 96 0x26c4444026402201,e0 97 0x26442201,e1 70 0x222064c002644c00222600620000644402644022201 [g1 8 4 0,g2 14 9 0,g1 20 0 0,g1 28 4 0,g1 33 4 0],e0 71 0x26442201,e1 50 0x2222222022226020222062260202260206000022226020622000022202220620226020600002220202602012 [g1 10 16 0,g2 16 102 36,g1 22 32 32,g1 30 16 0,g1 39 16 0,g2 45 160 32,g1 51 32 32,g1 60 16 0,g2 66 416 32,g1 72 160 32,g1 80 16 0,g1 88 16 0,g1 97 16 0,g1 101 16 0],e1 51 0x2222220620226020600006444026c444c04040222020260206220000222006cc44c4444c04040440264402220064402644026c04026c44040264402644022200644022202202026022602012 [g1 13 64 0,g1 20 64 0,g1 22 142 136,g1 28 64 0,g1 36 64 0,g2 42 394 136,g1 48 0 0,g1 59 64 0,g2 64 1930 648,g1 70 394 136,g1 78 64 0,g1 84 64 0],e0 72 0x2262222262022022,e1 73 0x20222222262226c0442602020260226020622260200062200002 [g2 6 206 72,g1 12 64 64,g2 18 462 72,g1 24 206 72,g1 34 64 64,g1 40 64 64],e1 52 0x2222226cc40444cc4040444022202602262020622262020000220060e20200022020600122 [g2 30 236 44,g1 36 64 0],e1 53 0x22206222602026006220002222203622000622262002062202202026260022602062226020260062200002222012 [G2 6 [cS 3 1,gK 10 2 [2003]],G2 14 [cS 3 1,gK 58 2 [2003]],G1 20 [cS 3 1,gK 26 2 [2003]],G2 24 [cS 3 1,gK 58 2 [2003]],G1 30 [cS 3 1,gK 58 2 [2003]],G1 43 [cS 3 1,gK 58 2 [2003]],G1 46 [cS 3 1,gK 42 2 [2003]],G1 53 [cS 3 1,gK 10 2 [2003]],G2 59 [cS 3 1,gK 266 2 [2003]],g1 65 0 0,g1 73 4 0,g1 78 4 0],e1 74 0x22262622222202062026262202022200122 [G1 10 [cS 5 2,gK 44 12 [2005]]],e1 27 0x202222220222620260600206200622260200062200002020222222222220260020620062226020006220002222222226222202e0006222602000622000222222222026006220000206444022220102 [g1 8 12 4,g2 14 22 6,g1 20 6 6,g1 30 12 4,g2 37 70 6,g1 43 6 6,g2 49 198 6,g1 55 70 6,g1 65 12 4,g2 73 518 6,g1 79 6 6,g2 85 1542 6,g1 91 518 6,g1 103 12 4,g1 113 12 4,g2 119 8198 6,g1 125 4 4,g2 131 24582 6,g1 137 8198 6,g1 147 12 4,g1 153 12 4],e0 6 0x2222302022212,e0 78 0x26c4426201,e0 140 0x26c4444026402201,e0 141 0x26442201,e1 106 0x22064c402644c00222600200020064440264402201 [g1 8 4 0,g2 14 786433 0,g1 20 0 0,g1 30 4 0,g1 35 4 0],e0 107 0x26222212,e0 109 0x26222212,e1 142 0x22226260002000201 [g2 6 387 0,g1 12 0 0,g1 22 16 0,g1 27 16 0],e0 108 0x226221,e1 79 0x222222022222026c0c4402222022020000020022220026c0c44422220202602012 [g1 11 16 0,g1 17 16 0,g2 23 30064771104 32,g1 29 32 32,g1 40 16 0,g1 46 16 0,g1 55 16 0,g1 59 16 0],e0 80 0x2212,e1 111 0x2644426c4402622222022202644422202020122 [g1 18 524330 40],e0 113 0x26222212,e1 143 0x22226260002000201 [g2 6 387 0,g1 12 0 0,g1 22 16 0,g1 27 16 0],e0 112 0x226221,e1 81 0x2202626220026444022622202022020000020022220026c44022220022e02222226220202200202620201222 [g1 12 440 184,g1 19 64 0,g1 25 64 0,g1 31 64 0,g2 37 31525197391593632 160,g1 43 0 0,g1 54 64 0,g1 60 64 0,g1 65 64 0],e0 144 0x26c44426c440222012,e0 114 0x2662262221222,e1 82 0x2202326222002202001ef200220022022226200223262220022022226200202022020202020200002 [(8,[gK 4158 1086],[gK 0 1086]),g1 27 0 1086,g1 39 0 1086,g1 47 0 1086,g1 53 28 1052],e1 115 0x222622262222264444c4400222020262222262622020262020222620220122 [G1 12 [cS 7 2,gK 418 32 [2007]]],e1 83 0x20222622230026000226002020000e200262220202622002202202020200022 [(6,[gK 8252 60],[gK 0 60]),G2 14 [cS 8 2,gK 8700 65660 [2008]],g1 20 8252 60,G2 29 [cS 8 2,gK 481036345852 65660 [2008]],G1 35 [cS 8 2,gK 8700 65660 [2008]],g1 46 0 60,g1 58 48 48],e1 57 0x20022222020262222222022202002202222202e2002020202222222202600200022002022220002 [g1 8 12 12,g2 14 12582926 14,g1 20 14 14,g1 32 12 12,(39,[gK 68719476750 14],[gK 0 14]),g1 51 0 14,g1 61 12 12,g1 71 12 12,g1 75 12 12],e0 29 0x2222302022212,e1 136 0x200226c0442602020202202022000222 [g1 8 192 192,(14,[gK 33008 240],[gK 0 240]),g1 24 0 240,g1 28 192 192],e0 98 0x2220622102,(75,⟨0x2222306222030622222022262222302622022002020000200202000020002,[(53,[.closeS (.s 49)]),(59,[.closeS (.c 3 0),.closeS (.c 3 1)])],[G2 8 [cC 3 0 1,cC 3 1 1,gK 14350 14 [4060,4061]],G1 14 [cC 3 0 1,cC 3 1 1,gK 12 12 [4060,4061]],G2 25 [cS 6 2,cC 3 0 1,cC 3 1 1,gK 1849454 46 [2006,4060,4061]],G1 31 [cS 6 2,cC 3 0 1,cC 3 1 1,gK 14446 46 [2006,4060,4061]],G1 44 [cS 6 2,cC 3 0 1,cC 3 1 1,gK 1849966 558 [2006,4060,4061]]]⟩),e0 99 0x26262222020262620260220626020260012,e1 68 0x26200201 [G1 8 [.canon (.s 2) 4004 1],G1 12 [.canon (.s 2) 4004 1]],e0 168 0x26201,e0 139 0x62206000200222202201,e1 102 0x62222222220262222620062002220000001 [g2 6 3587 0,g1 12 3 0,g1 23 16 0,g1 34 16 0,g1 43 16 0,g1 47 16 0],e0 101 0x26221,e1 105 0x2206262026002000200620201 [g1 8 16 0,g2 14 12291 0,g1 20 0 0,g1 30 16 0,g1 35 16 0],e0 104 0x26221,(76,⟨0x222302222262223622020220e0002000202200002012,[(32,[.closeS (.s 34)])],[G2 8 [cS 5 1,gK 7204 4 [2005]],G1 14 [cS 5 1,gK 32 0 [2005]],G2 22 [cS 5 1,gK 400548 4 [2005]],G1 28 [cS 5 1,gK 7204 4 [2005]]]⟩),(55,⟨0x2226202620200202620222000222222202000220112,[(16,[.closeS (.s 16)])],[G1 8 [cS 2 1,gK 12 0 [2002]],G2 20 [.closeS (.s 5),cS 6 1,gK 240 16 [2006]],G1 26 [cS 6 1,gK 64 0 [2006]],G1 37 [cS 2 1,gK 12 0 [2002]],G1 43 [cS 2 1,gK 12 0 [2002]]]⟩),e0 28 0x222222220222112,e0 7 0x222022112,e0 30 0x26442201,e1 58 0x2222236222022200000222201 [G2 8 [cS 3 1,gK 3592 0 [2003]],G1 14 [cS 3 1,gK 8 0 [2003]]],e0 146 0x26222221,e1 169 0x22226260002000201 [g2 6 387 0,g1 12 0 0,g1 22 16 0,g1 27 16 0],e0 145 0x226221,e0 116 0x264c4422012,e1 117 0x2206c444c440422022200000212 [g2 6 900 4,g1 12 0 0,g1 22 16 0,g1 27 16 0],e0 118 0x26c444422012,e1 147 0x2200222202262222626200203202026220220220200000622260202220000001002 [g2 6 57398 52,g1 12 48 48,g2 20 939581622 52,g1 26 57398 52,g1 44 112 48,g1 50 112 48],e0 119 0x22223300200262212,e1 84 0x2202620220000222026202200002220262022000000260012 [g1 8 64 0,g2 14 917518 8,g1 20 14 8,g1 30 64 0,g2 37 1879048202 8,g1 43 10 8,g1 53 64 0,g2 60 3848290697224 8,g1 66 0 0,g1 76 64 0,g1 81 64 0],e0 85 0x262622220320202622202202026262022602012,e0 59 0x2236220202220022e002002622260202600202202e20200112,(31,⟨0x22223226222220022262622022222202e2002000200220000222600227222022200000020202202220220112,[(79,[.closeS (.s 74)])],[g2 18 234881106 16777218,g1 24 82 16777218,G2 37 [cC 40 2 1,gK 15393162789442 1099528404994 [4802]],G1 43 [cC 40 2 1,gK 512 1099511627776 [4802]],G2 54 [cS 12 1,cC 40 2 1,gK 859818092927554 1099528404994 [2012,4802]],G1 60 [cS 12 1,cC 40 2 1,gK 15393162793538 1099528404994 [2012,4802]]]⟩),e1 86 0x22226260002000201 [g2 6 387 0,g1 12 0 0,g1 22 16 0,g1 27 16 0],e0 61 0x226221,e0 36 0x2221,e0 35 0x2644422201,e0 60 0x26c4444402262226c4444402262222264422622202644226222021,(33,⟨0x2222236e2000022262262022200002602220020222222022222201,[(46,[.closeS (.s 50)])],[G2 8 [cS 5 1,gK 99 0 [2005]],G1 14 [cS 5 1,gK 32 0 [2005]],G2 23 [cS 5 1,cS 7 1,gK 30064771299 0 [2005,2007]],G1 29 [cS 5 1,cS 7 1,gK 227 0 [2005,2007]]]⟩),(32,⟨0x2662122,[(5,[.closeB 4,.closeB 5])],[]⟩),e0 9 0x2e222002622220202022202220222002220002220112,e0 8 0x2236c444026442022202e0221,e0 34 0x26c4444c442260226c4444c442260221,(10,⟨0x26e20026c4444040262222020202220222022200220112222,[(47,[.closeB 7,.closeB 6,.closeB 5])],[]⟩),e1 11 0x2206262026002000200620201 [g1 8 16 0,g2 14 12291 0,g1 20 0 0,g1 30 16 0,g1 35 16 0],e0 38 0x2236226200026201,e1 62 0x22206c444c0404c0022260062000062202012 [g1 8 16 0,g2 14 38 4,g1 20 0 0,g1 28 16 0,g1 33 16 0],e1 63 0x2222220626220202062202202026022602062600006200012 [g2 6 38 4,g1 12 0 0,g2 18 102 4,g1 24 38 4,g1 39 16 0,g1 46 16 0],e0 37 0x26c44260012,e1 12 0x2222226260026cc000262226020260062000012 [G2 8 [cS 5 1,gK 102 4 [2005]],G1 14 [cS 5 1,gK 32 0 [2005]]],e1 39 0x2220626002600620000620201 [g1 8 16 0,g2 14 35 0,g1 20 0 0,g1 28 16 0,g1 33 16 0],e1 13 0x22222602600620001 [g2 6 35 0,g1 12 0 0,g1 20 16 0,g1 25 16 0],e0 16 0x226221,e1 40 0x22226260002000201 [g2 6 387 0,g1 12 0 0,g1 22 16 0,g1 27 16 0],e0 15 0x226221,e0 14 0x262212,e0 18 0x2226221,e0 17 0x2262212,(3,⟨0x2206ccc0444c404c0026ccc0444c004c0026ccc0044c004c00266c0022600260022202226262002200002006c4c404c0026c4c004c0026c4c004c002626002600220262006c44c0044c0026c44c0044c0026c44c0044c0026c44c0044c0026c4c004c002626002600222000000064c04264c042644264422222202e02022202e00022622600222260060060060020002216362262000002000202220222006c40402222220220064402644022002012,[(66,[.closeB 2,.canon (.s 10) 9001 0]),(86,[.closeS (.s 95)]),(95,[.closeS (.s 102)])],[g1 8 16 0,g1 16 16 0,g1 26 16 0,G2 36 [cS 7 1,cS 8 1,gK 110680464442257310118 4 [2007,2008]],G1 42 [cS 7 1,cS 8 1,gK 422 4 [2007,2008]],g1 67 16 0,G2 73 [.keep [1,2,5,12,13,14,15,16,17,136,137,138] []],g1 79 0 0,g1 90 16 0,g1 104 16 0,G2 114 [cC 25 0 1,.keep [1,2,5,12,13,14,15,16,17,22,25,136,137,138,263,264,265] [25,4500]],G1 120 [cC 25 0 1,.keep [1,2,5,12,13,14,15,16,17,22,25,136,137,138] [25,4500]],g1 136 16 0,g1 141 16 0]⟩)]
namespace trace_events_c1
def Ad:Zx:=[o1 20 (.s 18) [],o2 21 (ix 5) [.s 16,.s 18] [],o2 22 (lD 5) [.s 21] [21],o2 6 (.a (.alloc 5 [.int .i64 0,.int .i64 0,.int .i64 0,.int .i64 0,.bL])) [] [],o1 5 (.s 20) [20],oz (.l (.store 5)) [.s 6,.s 22] [22]]
def xA:Zx:=[o1 23 (.s 0) [],o1 24 (.s 3) [],o1 25 (.s 5) [5],o2 26 (bI .add) [.s 25,.k (.int .i64 1)] [25],o2 27 (.p (.build [.int .i64 0,.int .i64 0] [(0,1),(1,1)])) [.s 24,.s 26] [24,26],o2 28 (lD 5) [.s 6] [6],o2 29 .c [.s 23,.s 27,.s 28] [23,27,28],o2 30 (.p .not) [.s 29] [29]]
def u6:Zx:=[o2 31 (bI .add) [.s 18,.k (.int .i64 1)] [],o1 18 (.s 31) [31]]
def Dz:RC:=.hg (.seq (.ops [o2 19 (bI .lss) [.s 18,.s 17] []]) (.seq (.cond (.s 19) .skip (.exit 2)) (.seq (.block 3 (.seq (.ops Ad) (.seq (.ops xA) (.cond (.s 30) .ret .skip)))) (.ops u6)))) (.keep [0,3,8,9,10,16,17,18] [])
def H9:Zx:=[o1 12 (.s 10) [],o2 13 (ix 3) [.s 8,.s 10] [],o2 14 (lD 3) [.s 13] [13],o2 4 (.a (.alloc 3 [.str ByteArray.empty,.bL,.bL])) [] [],o1 3 (.s 12) [12],oz (.l (.store 3)) [.s 4,.s 14] [14]]
def Ge:Zx:=[o2 15 (fa 2) [.s 4] [],o2 16 (ld 1) [.s 15] [15],o2 17 ln [.s 16] [],o1 18 (.k (.int .i64 0)) []]
def C3:Zx:=[o2 32 (bI .add) [.s 10,.k (.int .i64 1)] [],o1 10 (.s 32) [32]]
def U2:RC:=.block 2 (.gh (.keep [0,3,8,9,10,16,17,18] []) (.loop Dz))
def Kz:RC:=.hg (.seq (.ops [o2 11 (bI .lss) [.s 10,.s 9] []]) (.seq (.cond (.s 11) .skip (.exit 0)) (.seq (.block 1 (.seq (.ops H9) (.seq (.ops Ge) U2))) (.ops C3)))) (.keep [0,8,9,10] [])
def Qa:Zx:=[o2 7 (fa 0) [.s 1] [1],o2 8 (ld 1) [.s 7] [7],o2 9 ln [.s 8] [],o1 10 (.k (.int .i64 0)) []]
def U1:RC:=.block 0 (.gh (.keep [0,8,9,10] []) (.loop Kz))
def text:RF:=⟨33,[],.seq (.ops Qa) U1⟩
section
variable{S:Sys}
abbrev I1(ps:Sl cz)(i:Int)(B:a_ (a_ V))(more:Bool)(y:Nat):St:=⟨[(0,.yl y),Cv 8 ps,Iv 9 (len ps),Iv 10 i],[],[],B,more,y⟩
abbrev I2(ps:Sl cz)(i:Int)(es:Sl Event)(j:Int)(B:a_ (a_ V))(more:Bool)(y:Nat):St:=⟨[(0,.yl y),Iv 3 i,Cv 8 ps,Iv 9 (len ps),Iv 10 i,Cv 16 es,Iv 17 (len es),Iv 18 j],[],[],B,more,y⟩
abbrev S2(ps:Sl cz)(i:Int)(es:Sl Event)(j:Int)(b:Bool)(B:a_ (a_ V))(more:Bool)(y:Nat):St:=⟨[(0,.yl y),Iv 3 i,Cv 8 ps,Iv 9 (len ps),Iv 10 i,Cv 16 es,Iv 17 (len es),Iv 18 j,Bv 19 b],[],[],B,more,y⟩
theorem Sg(ps:Sl cz)(i:Int)(es:Sl Zn)(j:Int)(B:Zt)(more:Zl)(y:Nat)(D:decide (j<len es)=false):
 rn S.bare mD some (.rc Dz) [] (I2 ps i es j B more y)=some (.exit 2,S2 ps i es j false B more y):=by
 refine Le.get ?_;refine Kf (n:=7) (fo':=.rc (.cond (.s 19) .skip (.exit 2))) (fs':=[.seq (.seq (.block 3 (.seq (.ops Ad) (.seq (.ops xA) (.cond (.s 30) .ret .skip)))) (.ops u6)),.gst (.keep [0,3,8,9,10,16,17,18] [])]) (λb=>S2 ps i es j b B more y) D Zf ?_
 exact Le.of_eq Zf
theorem SK(ps:Sl cz)(i:Int)(es:Sl Zn)(j:Int)(e:Zn)(B:Zt)(more:Zl)(y:Nat)(D:decide (j<len es)=true)(G:idx es j=some e)(J:(!(more|| !B.isEmpty))=false):
 rn S.bare mD some (.rc Dz) [] (I2 ps i es j ([enc (⟨i,wrap .i64 (j+1)⟩:bu),enc e]::B) more y)=some (.norm,I2 ps i es (wrap .i64 (j+1)) B more y):=by
 refine Le.get ?_;refine Kt (n:=7) (fo':=.rc (.cond (.s 19) .skip (.exit 2))) (fs':=[.seq (.seq (.block 3 (.seq (.ops Ad) (.seq (.ops xA) (.cond (.s 30) .ret .skip)))) (.ops u6)),.gst (.keep [0,3,8,9,10,16,17,18] [])]) (λb=>S2 ps i es j b ([enc (⟨i,wrap .i64 (j+1)⟩:bu),enc e]::B) more y) D Zf ?_
 refine MB G ?_;refine Nk 8 false [] (Ad.drop 1) [.seq (.seq (.ops xA) (.cond (.s 30) .ret .skip)),.blk 3,.seq (.ops u6),.gst (.keep [0,3,8,9,10,16,17,18] [])] ⟨[(0,.yl y),Iv 3 i,Cv 8 ps,Iv 9 (len ps),Iv 10 i,Cv 16 es,Iv 17 (len es),Iv 18 j,Bv 19 true,Iv 20 j],[],[],([enc (⟨i,wrap .i64 (j+1)⟩:bu),enc e]::B),more,y⟩ .i64 rfl Zf λx a=>?_
 obtain rfl:x=e:=Zd
 refine R8 1 false [] (Ad.drop 3) [.seq (.seq (.ops xA) (.cond (.s 30) .ret .skip)),.blk 3,.seq (.ops u6),.gst (.keep [0,3,8,9,10,16,17,18] [])] ⟨[(0,.yl y),Iv 3 i,Cv 8 ps,Iv 9 (len ps),Iv 10 i,Cv 16 es,Iv 17 (len es),Iv 18 j,Bv 19 true,Iv 20 j,Cv 22 x],[],[],([enc (⟨i,wrap .i64 (j+1)⟩:bu),enc x]::B),more,y⟩ [iv 0,iv 0,iv 0,iv 0,.v .bL] rfl (by simp only[bS,v8,pJ,qP,pG,qN,sK,qZ,sG,pQ,qR,wj,r_,sL,sM,sq,uu,uv,q9,rY,SV.c6];rfl) Zf ?_
 refine Ast 1 false [] (Ad.drop 5) [.seq (.seq (.ops xA) (.cond (.s 30) .ret .skip)),.blk 3,.seq (.ops u6),.gst (.keep [0,3,8,9,10,16,17,18] [])] ⟨[(0,.yl y),Iv 3 i,Cv 8 ps,Iv 9 (len ps),Iv 10 i,Cv 16 es,Iv 17 (len es),Iv 18 j,Bv 19 true,Cv 22 x,Pv 6,Iv 5 j],[Xb 6 (⟨0,0,0,0,.nil⟩:Zn)],[],([enc (⟨i,wrap .i64 (j+1)⟩:bu),enc x]::B),more,y⟩ 6 0 x [iv 0,iv 0,iv 0,iv 0,.v .bL] ((cells x).map .v) rfl Zf ?_
 refine TH (n:=10) (q:=xA.drop 6) (fs':=[.seq (.cond (.s 30) .ret .skip),.blk 3,.seq (.ops u6),.gst (.keep [0,3,8,9,10,16,17,18] [])]) (st:=⟨[(0,.yl y),Iv 3 i,Cv 8 ps,Iv 9 (len ps),Iv 10 i,Cv 16 es,Iv 17 (len es),Iv 18 j,Bv 19 true,(23,.yl y),Cv 27 (⟨i,wrap .i64 (j+1)⟩:bu),Cv 28 x],[Xb 6 x],[],([enc (⟨i,wrap .i64 (j+1)⟩:bu),enc x]::B),more,y⟩) (vs:=[cv (⟨i,wrap .i64 (j+1)⟩:bu),cv x]) Zf rfl Zf Zf rfl rfl ?_
 refine Kf (n:=3) (fo':=.rc (.cond (.s 30) .ret .skip)) (fs':=[.blk 3,.seq (.ops u6),.gst (.keep [0,3,8,9,10,16,17,18] [])]) (λb=>⟨[(0,.yl y),Iv 3 i,Cv 8 ps,Iv 9 (len ps),Iv 10 i,Cv 16 es,Iv 17 (len es),Iv 18 j,Bv 19 true,Bv 30 b],[Xb 6 x],[],B,more,y⟩) J Zf ?_
 exact Le.of_eq Zf
theorem PS(ps:Sl cz)(i:Int)(es:Sl Zn)(j:Int)(e:Zn)(B:Zt)(more:Zl)(y:Nat)(D:decide (j<len es)=true)(G:idx es j=some e)(J:(!(more|| !B.isEmpty))=true):
 rn S.bare mD some (.rc Dz) [] (I2 ps i es j ([enc (⟨i,wrap .i64 (j+1)⟩:bu),enc e]::B) more y)=some (.ret,⟨[(0,.yl y),Iv 3 i,Cv 8 ps,Iv 9 (len ps),Iv 10 i,Cv 16 es,Iv 17 (len es),Iv 18 j,Bv 19 true,Bv 30 true],[Xb 6 e],[],B,more,y⟩):=by
 refine Le.get ?_;refine Kt (n:=7) (fo':=.rc (.cond (.s 19) .skip (.exit 2))) (fs':=[.seq (.seq (.block 3 (.seq (.ops Ad) (.seq (.ops xA) (.cond (.s 30) .ret .skip)))) (.ops u6)),.gst (.keep [0,3,8,9,10,16,17,18] [])]) (λb=>S2 ps i es j b ([enc (⟨i,wrap .i64 (j+1)⟩:bu),enc e]::B) more y) D Zf ?_
 refine MB G ?_;refine Nk 8 false [] (Ad.drop 1) [.seq (.seq (.ops xA) (.cond (.s 30) .ret .skip)),.blk 3,.seq (.ops u6),.gst (.keep [0,3,8,9,10,16,17,18] [])] ⟨[(0,.yl y),Iv 3 i,Cv 8 ps,Iv 9 (len ps),Iv 10 i,Cv 16 es,Iv 17 (len es),Iv 18 j,Bv 19 true,Iv 20 j],[],[],([enc (⟨i,wrap .i64 (j+1)⟩:bu),enc e]::B),more,y⟩ .i64 rfl Zf λx a=>?_
 obtain rfl:x=e:=Zd
 refine R8 1 false [] (Ad.drop 3) [.seq (.seq (.ops xA) (.cond (.s 30) .ret .skip)),.blk 3,.seq (.ops u6),.gst (.keep [0,3,8,9,10,16,17,18] [])] ⟨[(0,.yl y),Iv 3 i,Cv 8 ps,Iv 9 (len ps),Iv 10 i,Cv 16 es,Iv 17 (len es),Iv 18 j,Bv 19 true,Iv 20 j,Cv 22 x],[],[],([enc (⟨i,wrap .i64 (j+1)⟩:bu),enc x]::B),more,y⟩ [iv 0,iv 0,iv 0,iv 0,.v .bL] rfl (by simp only[bS,v8,pJ,qP,pG,qN,sK,qZ,sG,pQ,qR,wj,r_,sL,sM,sq,uu,uv,q9,rY,SV.c6];rfl) Zf ?_
 refine Ast 1 false [] (Ad.drop 5) [.seq (.seq (.ops xA) (.cond (.s 30) .ret .skip)),.blk 3,.seq (.ops u6),.gst (.keep [0,3,8,9,10,16,17,18] [])] ⟨[(0,.yl y),Iv 3 i,Cv 8 ps,Iv 9 (len ps),Iv 10 i,Cv 16 es,Iv 17 (len es),Iv 18 j,Bv 19 true,Cv 22 x,Pv 6,Iv 5 j],[Xb 6 (⟨0,0,0,0,.nil⟩:Zn)],[],([enc (⟨i,wrap .i64 (j+1)⟩:bu),enc x]::B),more,y⟩ 6 0 x [iv 0,iv 0,iv 0,iv 0,.v .bL] ((cells x).map .v) rfl Zf ?_
 refine TH (n:=10) (q:=xA.drop 6) (fs':=[.seq (.cond (.s 30) .ret .skip),.blk 3,.seq (.ops u6),.gst (.keep [0,3,8,9,10,16,17,18] [])]) (st:=⟨[(0,.yl y),Iv 3 i,Cv 8 ps,Iv 9 (len ps),Iv 10 i,Cv 16 es,Iv 17 (len es),Iv 18 j,Bv 19 true,(23,.yl y),Cv 27 (⟨i,wrap .i64 (j+1)⟩:bu),Cv 28 x],[Xb 6 x],[],([enc (⟨i,wrap .i64 (j+1)⟩:bu),enc x]::B),more,y⟩) (vs:=[cv (⟨i,wrap .i64 (j+1)⟩:bu),cv x]) Zf rfl Zf Zf rfl rfl ?_
 refine Kt (n:=3) (fo':=.rc (.cond (.s 30) .ret .skip)) (fs':=[.blk 3,.seq (.ops u6),.gst (.keep [0,3,8,9,10,16,17,18] [])]) (λb=>⟨[(0,.yl y),Iv 3 i,Cv 8 ps,Iv 9 (len ps),Iv 10 i,Cv 16 es,Iv 17 (len es),Iv 18 j,Bv 19 true,Bv 30 b],[Xb 6 x],[],B,more,y⟩) J Zf ?_
 exact Le.of_eq Zf
abbrev S1(ps:Sl cz)(i:Int)(b:Bool)(B:a_ (a_ V))(more:Bool)(y:Nat):St:=⟨[(0,.yl y),Cv 8 ps,Iv 9 (len ps),Iv 10 i,Bv 11 b],[],[],B,more,y⟩
theorem RY(ps:Sl cz)(i:Int)(B:Zt)(more:Zl)(y:Nat)(D:decide (i<len ps)=false):
 rn S.bare mD some (.rc Kz) [] (I1 ps i B more y)=some (.exit 0,S1 ps i false B more y):=by
 refine Le.get ?_;refine Kf (n:=7) (fo':=.rc (.cond (.s 11) .skip (.exit 0))) (fs':=[.seq (.seq (.block 1 (.seq (.ops H9) (.seq (.ops Ge) U2))) (.ops C3)),.gst (.keep [0,8,9,10] [])]) (λb=>S1 ps i b B more y) D Zf ?_
 exact Le.of_eq Zf
def Ol:Z3:=[.blk 2,.blk 1,.seq (.ops C3),.gst (.keep [0,8,9,10] [])]
theorem Ot(ps:Sl cz)(i:Int)(p:cz)(B:Zt)(more:Zl)(y:Nat)(r:Out×St)(D:decide (i<len ps)=true)(G:idx ps i=some p)
 (h:rn S.bare mD some (.rc (.loop Dz)) Ol (I2 ps i p.events 0 B more y)=some r):rn S.bare mD some (.rc Kz) [] (I1 ps i B more y)=some r:=by
 refine Le.get ?_;refine Kt (n:=7) (fo':=.rc (.cond (.s 11) .skip (.exit 0))) (fs':=[.seq (.seq (.block 1 (.seq (.ops H9) (.seq (.ops Ge) U2))) (.ops C3)),.gst (.keep [0,8,9,10] [])]) (λb=>S1 ps i b B more y) D Zf ?_
 refine MB G ?_;refine Nk 8 false [] (H9.drop 1) [.seq (.seq (.ops Ge) U2),.blk 1,.seq (.ops C3),.gst (.keep [0,8,9,10] [])] ⟨[(0,.yl y),Cv 8 ps,Iv 9 (len ps),Iv 10 i,Bv 11 true,Iv 12 i],[],[],B,more,y⟩ .i64 rfl Zf λx a=>?_
 obtain rfl:x=p:=Zd
 refine R8 1 false [] (H9.drop 3) [.seq (.seq (.ops Ge) U2),.blk 1,.seq (.ops C3),.gst (.keep [0,8,9,10] [])] ⟨[(0,.yl y),Cv 8 ps,Iv 9 (len ps),Iv 10 i,Bv 11 true,Iv 12 i,Cv 14 x],[],[],B,more,y⟩ [.v (.str ByteArray.empty),.v .bL,.v .bL] rfl (by simp only[bS,v8,pJ,qP,pG,qN,sK,qZ,sG,pQ,qR,wj,r_,sL,sM,sq,uu,uv,q9,rY,SV.c6];rfl) Zf ?_
 refine Ast 1 false [] (H9.drop 5) [.seq (.seq (.ops Ge) U2),.blk 1,.seq (.ops C3),.gst (.keep [0,8,9,10] [])] ⟨[(0,.yl y),Cv 8 ps,Iv 9 (len ps),Iv 10 i,Bv 11 true,Cv 14 x,Pv 4,Iv 3 i],[Xb 4 (⟨ByteArray.empty,.nil,.nil⟩:cz)],[],B,more,y⟩ 4 0 x [.v (.str ByteArray.empty),.v .bL,.v .bL] ((cells x).map .v) rfl Zf ?_
 refine RH 6 false [] (Ge.drop 2) [.seq U2,.blk 1,.seq (.ops C3),.gst (.keep [0,8,9,10] [])] ⟨[(0,.yl y),Cv 8 ps,Iv 9 (len ps),Iv 10 i,Bv 11 true,Pv 4,Iv 3 i,Cv 16 x.events],[Xb 4 x],[],B,more,y⟩ x.events rfl Zf ?_
 refine CL (n:=5) (fo':=.rc (.loop Dz)) (fs':=Ol) (st':=I2 ps i x.events 0 B more y) Zf (Le.of_eq h)
theorem Pg(ps:Sl cz)(i:Int)(es:Sl Zn)(j:Int)(B:Zt)(more:Zl)(y:Nat):
 rn S.bare mD some (.ex 2) Ol (S2 ps i es j false B more y)=some (.norm,I1 ps (wrap .i64 (i+1)) B more y):=by kernel_rfl
theorem wrap_small(n:Nat)(h:n<9223372036854775807):wrap .i64 ((n:Int)+1)=((n+1:Nat):Int):=by simp[wrap,IntKind.bits,signed];omega
abbrev eI(x:bu×Event):a_ V:=[enc x.1,enc x.2]
theorem BJ.step{x:Zu}{D rest:Zt}{more:Zl}(h:BJ D (x::rest) more):∃B,D=x::B/\((!(more|| !B.isEmpty))=false/\BJ B rest more\/(!(more|| !B.isEmpty))=true/\B=[]):=by rcases h with⟨rfl,rfl⟩|⟨rfl,u,r,a⟩;exact⟨rest,rfl,.inl ⟨rfl,.inl ⟨rfl,rfl⟩⟩⟩;cases D with|nil=>grind|cons w D=>simp only[List.cons_append,List.cons.injEq]at a;obtain⟨rfl,rfl⟩:=a;refine⟨D,rfl,?_⟩;cases D with|nil=>grind|cons z C=>exact .inl ⟨rfl,.inr ⟨rfl,Zc,r,rfl⟩⟩
theorem Ey{α:Type}{s:Sl α}{j:Nat}{x:α}{r:a_ α}(h:s.l.drop j=x::r):idx s (j:Int)=some x/\decide ((j:Int)<len s)=true/\s.l.drop (j+1)=r:=by
 have a:j<s.l.length:=by apply Classical.byContradiction;intro w;rw[List.drop_eq_nil_of_le Za]at h;cases h
 have u:=List.drop_eq_getElem_cons a;rw[u]at h;simp only[List.cons.injEq]at h;refine⟨?_,Zd,h.2⟩;unfold idx;simp_all
variable{Q:Out×St->bt (Out×St)}{fs:Z3}
theorem inner(ps:Sl cz)(i:Int)(es:Sl Zn)(O:es.l.length<9223372036854775807)(more:Zl)(y:Nat)(R:Zt):∀(a:a_ Zn)(j:Nat),es.l.drop j=a->∀D,BJ D ((hU i j a).map eI++R) more->
 (∃(B:Zt)(U:Int),BJ B R more/\rn S.bare mD Q (.rc (.loop Dz)) fs (I2 ps i es j D more y)=rn S.bare mD Q (.ex 2) fs (S2 ps i es U false B more y))\/
 (∃st':St,st'.want=[]/\rn S.bare mD Q (.rc (.loop Dz)) fs (I2 ps i es j D more y)=Q (.ret,st'))
 |[],j,J,D,G=>by have b:decide ((j:Int)<len es)=false:=(by simp_all);exact .inl ⟨D,j,by simpa[hU]using G,DN (Sg ps i es j D more y b)⟩|e::a,j,J,D,G=>by have⟨b,z,C⟩:=Ey J;have W:j<es.l.length:=Zd;simp only[hU,map_cons,List.cons_append]at G;obtain⟨B,rfl,u⟩:=BJ.step G;have I:=wrap_small j Za;have w:((j:Int)+1)=wrap .i64 ((j:Int)+1):=Zd;rcases u with⟨u,L⟩|⟨u,rfl⟩;have k:=SK (S:=S) ps i es j e B more y z b u;rw[<-w]at k;have k2:=Da (Q:=Q) (fs:=fs) k;have T:=inner ps i es O more y R a (j+1) C B Zd;rw[show((j+1:Nat):Int)=(j:Int)+1 from rfl]at T;grind;have k:=PS (S:=S) ps i es j e [] more y z b u;rw[<-w]at k;exact .inr ⟨_,by rfl,Di k⟩
theorem outer(ps:Sl cz)(O:ps.l.length<9223372036854775807)(D:∀p∈ps.l,p.events.l.length<9223372036854775807)(more:Zl)(y:Nat):∀(a:a_ cz)(i:Nat),ps.l.drop i=a->∀B,BJ B ((fe i a).map eI) more->
 rn S.bare mD Qi (.rc (.loop Kz)) [.blk 0] (I1 ps i B more y)=some ()
 |[],i,J,B,G=>by
  have b:decide ((i:Int)<len ps)=false:=by simp_all
  rw[DN (RY ps i B more y b)];have:B=[]:=by
   rcases G with⟨_,rfl⟩|⟨_,L,r,c⟩;rfl;have:B=[]:=by cases B with
    |nil=>rfl|cons=>simp[fe]at c
   grind
  subst this;rfl
 |p::a,i,J,B,G=>by have⟨b,z,C⟩:=Ey J;have T:i<ps.l.length:=Zd;have I:p∈ps.l:=List.mem_of_mem_drop (i:=i) Zd;simp only[fe,map_append]at G;have u:=wrap_small i Za;rcases inner (S:=S) (Q:=some) (fs:=Ol) ps i p.events (D p I) more y _ p.events.l 0 rfl B G with⟨w,U,g1,g2⟩|⟨st',g1,g2⟩;rw[Pg,u]at g2;rw[Da (Ot ps i p B more y _ z b g2)];exact outer ps O D more y a (i+1) C w g1;rw[Di (Ot ps i p B more y _ z b g2)];simp[Qi,g1]
theorem all(t:Zj)(B:a_ (bu×Zn))(h:iH t=some B)(D:Zt)(more:Zl)(G:BJ D (B.map eI) more)(y:Nat):
 rn S.bare mD Qi (.rc text.body) [] ⟨vC 0 (([]:Zu).map .v++.yl y::[V.fptr (cells t)].map .v),[],[],D,more,y⟩=some ():=by
 unfold iH at h;split at h
 .rename_i hk;cases h;simp only[ζh,List.all_eq_true,Ek,decide_eq_true_eq]at hk;refine Le.get ?_;refine RH 4 false [] (Qa.drop 2) [.seq U1] ⟨[(0,.yl y),Cv 8 t.procs],[],[],D,more,y⟩ t.procs rfl Zf ?_
  refine CL (n:=5) (fo':=.rc (.loop Kz)) (fs':=[.blk 0]) (st':=I1 t.procs 0 D more y) Zf (Le.of_eq ?_)
  exact outer t.procs hk.1 hk.2 more y t.procs.l 0 rfl D G
 simp_all
end
theorem HG{α:Type}[bF α]{a b:Sl α}(h:cr a=cr b):rows a.l=rows b.l:=by cases a<;>cases b<;>first|rfl|(simp only[cr,Sl.k,nQ,V.fsl.injEq,true_and,reduceCtorEq]at h;done)|(simp only[cr,Sl.k,nQ,V.fsl.injEq,true_and,reduceCtorEq]at h;omega)
theorem EY(p:Int):∀(es B:a_ Zn)(j:Int),rows es=rows B->(hU p j es).map eI=(hU p j B).map eI
 |[],[],_,_=>rfl|[],_::_,_,h=>by simp[rows]at h|_::_,[],_,h=>by simp[rows]at h|e::es,D::B,j,h=>by simp only[rows,map_cons,List.cons.injEq]at h;have a:enc e=enc D:=(by show V.agg (cells e)=V.agg (cells D);rw[h.1]);simp only[hU,map_cons,eI,a,EY p es B (j+1) h.2]
theorem Bm:∀(ps B:a_ cz)(i:Int),rows ps=rows B->(fe i ps).map eI=(fe i B).map eI
 |[],[],_,_=>rfl|[],_::_,_,h=>by simp[rows]at h|_::_,[],_,h=>by simp[rows]at h|p::ps,p'::B,i,h=>by simp only[rows,map_cons,List.cons.injEq]at h;have a:cr p.events=cr p'.events:=(by have:=h.1;change[V.str p.name,cr p.vars,cr p.events]=[V.str p'.name,cr p'.vars,cr p'.events]at this;grind);simp only[fe,map_append,EY i _ _ 0 (HG a),Bm ps B (i+1) h.2]
def El(f:Zk)(g:Zk)(a b:Zu)(xs:Zt):Prop:=∃(t:Zj)(u:a_ (bu×Zn)),g=f/\a=[]/\b=[.fptr (cells t)]/\iH t=some u/\xs=u.map eI
theorem El.uniq{f g:Zk}{a b:Zu}{xs ys:Zt}(h:El f g a b xs)(k:El f g a b ys):xs=ys:=by
 obtain⟨t,C,rfl,rfl,rfl,c,rfl⟩:=h;obtain⟨w,z,_,_,B,u,rfl⟩:=k;simp only[List.cons.injEq,V.fptr.injEq,and_true]at B;have D:cr t.procs=cr w.procs:=by change[cr t.procs]=[cr w.procs]at B;grind
 unfold iH at c u;split at c<;>split at u<;>simp only[ζa,reduceCtorEq]at c u;subst c u;exact Bm _ _ 0 (HG D)
end trace_events_c1
end Go.VE
namespace Go.VE
open Go.Proofs.YtfgojpmjdgnieaaGreatDoor
noncomputable section
def IB(f:Zk):bt De:=bif beq f 103 then some (rE E)else bif beq f 100 then some (rS E)else none
def Sy:Sys:=⟨E,λn=>n,vR (trace_events_c1.El 110),yw E,IB⟩
theorem Pc:Sy.prm 103=some (rE Sy.E):=by kernel_rfl
theorem Qz:Sy.prm 100=some (rS Sy.E):=by kernel_rfl
theorem Ro:∀f q,IB f=some q->nN E f q:=by intro f q h;unfold IB at h;cases a:beq f 103 with|true=>rw[a]at h;cases h;have:=Nat.eq_of_beq_eq_true a;subst this;exact Mn zm Zf Zf (A3 Zf)|false=>rw[a]at h;cases a:beq f 100 with|true=>rw[a]at h;cases h;have:=Nat.eq_of_beq_eq_true a;subst this;exact NW Zf Zf Zf Zf|false=>rw[a]at h;cases h
def Tx:oN:=Mx E some (lk Jw)
abbrev cL:cg:=dg Sy Tx
theorem Rs:∃fi,E.ft 110=some fi/\xx E some fi trace_events_c1.text:=Sh Zf
theorem Ef:qq Sy Tx where
 fn f rf h:=let⟨u,a,w⟩:=NB h;⟨u,some,a,zm,w⟩
 xC f z y h:=K0 h
 prm:=Ro
theorem zz:∀f a b xs,Sy.items f a b=some xs->fm Sy f a b xs:=by intro f a b xs h;obtain⟨t,u,rfl,rfl,rfl,c,rfl⟩:=IT h;have⟨D,w,z⟩:=Rs;exact NF Sy w zm z (Nat.le_of_ble_eq_true rfl) rfl λB more C y=>trace_events_c1.all t u c B more C y
theorem wK(t:Zj)(B:a_ (bu×Zn))(h:iH t=some B):Sy.items 110 [] [.fptr (cells t)]=some (B.map λx:bu×Zn=>[enc x.1,enc x.2]):=JD ⟨t,B,rfl,rfl,rfl,h,rfl⟩ λw u=>u.uniq ⟨t,B,rfl,rfl,rfl,h,rfl⟩
theorem K2:Sy.xC 4 []=some (.bool true):=xL (GL rfl ⟨1,[],by kernel_rfl⟩)
end
end Go.VE
namespace Go.VE
noncomputable section
def tj(D:Zj)(B:bu):bt Zn:=(idx D.procs B.proc).bind λu=>(idx u.events (wrap .i64 (B.index-1))).bind λw=>some w
instance SG(B:Zj)(D:bu):Fc Sy cL (tj B D):=Fc.N 72 [enc B,enc D] (ec 2 2 B (bU 10 λw _=>bU 5 λu _=>oW 1 4 0 u bA))
namespace dN
def ct(B G p7:Int)(D:Zj)(J:bu)(a:Int):bt (Fw Int Unit bu):=(idx D.procs p7).bind λw=>bE (decide (a<(len w.events))) ((idx D.procs p7).bind λz=>(idx z.events a).bind λu=>(bE (u.kind==B) (some (u.message==G)) (some false):bt Zl).bind λC=>bE C (some (.r (⟨p7,wrap .i64 (a+1)⟩:bu))) (some (.n (wrap .i64 (a+1))))) (some (.x ()))
def W2(B J p7 a:Int)(D:Zj)(G:bu):bt (Fw Int Unit bu):=(b8 (λq:Int=>ct B J p7 D G q) a).bind (Fw.elim (λe=>some (.n (wrap .i64 (p7+1)))) (λe=>some (.r e)))
def bG(B J:Int)(D:Zj)(G:bu)(p7:Int):bt (Fw Int Unit bu):=bE (decide (p7<(len D.procs))) (W2 B J p7 0 D G) (some (.x ()))
def W1(B J p7:Int)(D:Zj)(G:bu):bt bu:=(b8 (λq:Int=>bG B J D G q) p7).bind (Fw.elim (λe=>some ⟨0,0⟩) (λe=>some e))
end dN
def dN(D:Zj)(B G:Int):bt bu:=dN.W1 B G 0 D (⟨0,0⟩:bu)
open dN in
instance QW(D:Zj)(B G:Int):Fc Sy cL (dN D B G):=Fc.M 73 [enc D,.int .i64 B,.int .i64 G] (ec 2 3 D (ey 11 (λu=>(bS [Iv 1 B,Iv 2 G,Pv 3,Pv 6,Iv 7 u] [Xb 3 D,Xb 6 (⟨0,0⟩:bu)])) (λw=>(0,(bS [Pv 6] [Xb 6 (⟨0,0⟩:bu)]))) (λw=>(bS [Pv 6] [Xb 6 w])) (λu=>b_ 7 D.procs (bK 3 14 (ey 12 (λC=>(bS [Iv 1 B,Iv 2 G,Pv 3,Pv 6,Iv 7 u,Iv 8 C] [Xb 3 D,Xb 6 (⟨0,0⟩:bu)])) (λz=>(2,(bS [Iv 1 B,Iv 2 G,Pv 3,Pv 6,Iv 7 u] [Xb 3 D,Xb 6 (⟨0,0⟩:bu)]))) (λz=>(bS [Pv 6] [Xb 6 z])) (λC=>bU 8 λI _=>b_ 2 I.events (bK 3 25 (bU 10 λL _=>bU 3 λJ _=>oW 2 9 0 J (ck 9 5 [9,41] 46 (bK 9 41 (bH 5) (bH 5)) λO=>bK 2 46 bA bA)) bA)) (λz=>bA) (λz=>bA)) bA)) (λw=>bA) (λw=>bA)))
namespace dM
def J1(B:Sl bu)(D:Zj)(G:bu):bt (Sl bu):=(tj D G).bind λu=>bE (u.kind==3) ((dN D 2 u.message).bind λw=>(jt B (w:bu)).bind λz=>some z) (some B)
end dM
def dM(D:Zj)(B:bu):bt (Sl bu):=bE (decide (B.index>1)) (dM.J1 (Sl.row [⟨B.proc,wrap .i64 (B.index-1)⟩]:Sl bu) D B) (dM.J1 (Sl.nil:Sl bu) D B)
open dM in
theorem xG(D:Zj)(B:bu):Le ((dM D B).bind λr=>some (cU r)) (cF Sy cL (y_ (tr Tx 74)) (.rc (tb Tx 74),[],start ([enc D,enc B].map .v) [])):=ec 2 2 D (bK 17 9 (Om 10 17 18 .bL (⟨B.proc,wrap .i64 (B.index-1)⟩:bu) (yE 5 (bT 4 λu _=>oW 1 6 0 u (bK 10 24 (bT 6 λw _=>qy 1 2005 30 31 λz _=>bA) bA)))) (yE 5 (bT 4 λu _=>oW 1 6 0 u (bK 10 24 (bT 6 λw _=>qy 1 2005 30 31 λz _=>bA) bA))))
def nD(a:bu->bt (Sl bu)):a_ (a_ Zl)×a_ bu->bt (Fw (a_ (a_ Zl)×a_ bu) (a_ (a_ Zl)) Empty)
 |(out,[])=>some (.x out)|(out,y::rest)=>if 0<=y.proc/\0<=y.index then(out[y.proc.toNat]?).bind λrow=>(row[y.index.toNat]?).bind λb=>bE b (some (.n (out,rest))) ((a y).bind λmore=>if rest.length+more.l.length<=2147483648 then some (.n (out.set y.proc.toNat (row.set y.index.toNat true),rest++more.l))else none)else none
def gp(t:Zj):a_ (a_ Zl):=t.procs.l.map λP=>replicate (P.events.l.length+1) false
def yu(t:Zj):Zl:=decide (t.procs.l.length<=2147483648)&&t.procs.l.all λP=>decide (P.events.l.length+1<=2147483648)
def nested(out:a_ (a_ Zl)):Sl (Sl Zl):=if out=[]then .nil else .row (out.map .row)
def mw(t:Zj)(x:bu):bt (Sl (Sl Zl)):=if yu t then(dM t x).bind λs=>(b8 (nD (dM t)) (gp t,s.l)).bind (Fw.elim (λout=>some (nested out)) (λe=>elim e))else none
end
namespace pastX
abbrev u5:Nat->FuncId:=λn=>n
def r1:Zx:=[o2 2 (.a .box) [0] [],o2 3 (.a .box) [1] [],o1 4 (.k (.bL)) []]
def r2:Zx:=[o1 5 (.k (.bL)) []]
def r3:Zx:=[o1 6 (.k (.int .i64 0)) []]
def r4:Zx:=[o1 11 6 [],o2 12 (fa 0) [2] [],o2 13 (ld 1) [12] [],o2 14 ln [13] [],o2 15 (bI .lss) [11,14] []]
def r5:Zx:=[o1 18 5 [],o2 19 (fa 0) [2] [],o2 20 (ld 1) [19] [],o1 21 6 [],o2 22 (ix 3) [20,21] [],o2 23 (fa 2) [22] [],o2 24 (ld 1) [23] [],o2 25 ln [24] [],o2 26 (bI .add) [25,.k (.int .i64 1)] [],o2 27 (.a (.makeSl 1 [.bool false])) [26,26] [],o2 28 (.a (.buildSl 1 1 [.bL] [0])) [27] [],o2 29 (.l (.append 1)) [18,28] [],o1 5 29 []]
def r6:Zx:=[o1 16 6 [],o2 17 (bI .add) [16,.k (.int .i64 1)] [],o1 6 17 []]
def L1:RC:=.seq (.seq (.ops r4) (.cond (.s 15) (.skip) (.exit 0))) (.seq (.block 1 (.ops r5)) (.ops r6))
def r7:Zx:=[o2 30 (lD 1) [2] [],o2 31 (lD 2) [3] [],o2 32 .c [.f 74,30,31] [],o1 7 32 []]
def r8:Zx:=[o1 33 7 [],o2 34 ln [33] [],o2 35 (bI .gtr) [34,.k (.int .i64 0)] []]
def r9:Zx:=[o1 36 7 [],o2 37 (ix 2) [36,.k (.int .i64 0)] [],o2 38 (lD 2) [37] [],o2 8 (.a (.alloc 2 [.int .i64 0,.int .i64 0])) [] [],oz (su 2) [8,38] []]
def zh:Zx:=[o1 39 7 [],o2 40 (.p (.slice 2 true false)) [39,.k (.int .i64 1)] [],o1 7 40 []]
def xN:Zx:=[o1 41 5 [],o2 42 (fa 0) [8] [],o2 43 (ld 1) [42] [],o2 44 (ix 1) [41,43] [],o2 45 (ld 1) [44] [],o2 46 (fa 1) [8] [],o2 47 (ld 1) [46] [],on 48 (ix 1) [45,47] [],on 49 (ld 1) [48] []]
def yP:Zx:=[o1 50 5 [],o2 51 (fa 0) [8] [],o2 52 (ld 1) [51] [],o2 53 (ix 1) [50,52] [],o2 54 (ld 1) [53] [],o2 55 (fa 1) [8] [],o2 56 (ld 1) [55] [],on 57 (ix 1) [54,56] [],oy (su 1) [57,.k (.bool true)] []]
def zd:Zx:=[o2 58 (lD 1) [2] [],o2 59 (lD 2) [8] [],o2 60 .c [.f 74,58,59] [],o1 9 60 []]
def yX:Zx:=[o1 10 (.k (.int .i64 0)) []]
def yB:Zx:=[o1 61 10 [],o1 62 9 [],o2 63 ln [62] [],o2 64 (bI .lss) [61,63] []]
def r16:Zx:=[o1 67 7 [],o1 68 9 [],o1 69 10 [],o2 70 (ix 2) [68,69] [],o2 71 (lD 2) [70] [],o2 72 (.a (.buildSl 2 1 [.int .i64 0,.int .i64 0] [0])) [71] [],o2 73 (.l (.append 2)) [67,72] [],o1 7 73 []]
def E8:Zx:=[o1 65 10 [],o2 66 (bI .add) [65,.k (.int .i64 1)] [],o1 10 66 []]
def L3:RC:=.seq (.seq (.ops yB) (.cond (.s 64) (.skip) (.exit 4))) (.seq (.block 5 (.ops r16)) (.ops E8))
def L2:RC:=.seq (.seq (.ops r8) (.cond (.s 35) (.skip) (.exit 2))) (.block 3 (.seq (.ops r9) (.seq (.ops zh) (.seq (.seq (.oG xN) (.cond (.s 49) (.exit 3) (.skip))) (.seq (.oG yP) (.seq (.ops zd) (.seq (.ops yX) (.block 4 (.loop L3)))))))))
def TX:Zx:=[o1 74 5 [],o1 4 74 []]
def code:RC:=.seq (.ops r1) (.seq (.ops r2) (.seq (.seq (.ops r3) (.block 0 (.loop L1))) (.seq (.ops r7) (.seq (.block 2 (.loop L2)) (.seq (.ops TX) (.ret))))))
abbrev uT:=Go.Proofs.YtfgojpmjdgnieaaGreatDoor.E
def jr(out:a_ (a_ Zl)):Zt:=out.map λr=>r.map V.bool
theorem shape:∃fi,uT.ft (u5 54)=some fi/\bQ ⟨uT,some,fi.ntmps⟩ false fi.body=some code/\2<=fi.ntmps/\fi.results=[.tmp 4]:=by
 have h:((uT.ft (u5 54)).map λfi=>(bQ ⟨uT,some,fi.ntmps⟩ false fi.body,Nat.ble 2 fi.ntmps,fi.results))=some (some code,true,[.tmp 4]):=by kernel_rfl
 have⟨fi,a,u⟩:=ζf.1 h;simp only[ζc]at u;exact⟨fi,a,u.1,Nat.le_of_ble_eq_true u.2.1,u.2.2⟩
section
variable{E:Env}{N:Nat->Zk}{t:Zj}{x:bu}{k:Nat}{F:Zo}{H H1:bC}{call:dw}{b:bt Nat}
theorem zy{o:RO}{l:Zx}{v:V}{r:Zo×bC}(a:o.gd=none)(c:f_ E N call b o.now o.k (o.az.map (dS N F)) H=some (v,H1))(h:cw E N call b l (gj F o.dst v) H1=some r):cw E N call b (o::l) F H=some r:=by simp[cw,a,c];omega
theorem vp{o:RO}{l:Zx}{v:V}{r:Zo×bC}(a:o.gd=none)(c:f_ E N call b o.now o.k (o.az.map (dS N F)) H=some (v,H))(h:cw E N call b l (gj F o.dst v) H=some r):cw E N call b (o::l) F H=some r:=zy a c h
theorem qz:cw E N call b [] F H=some (F,H):=rfl
theorem yH{α:Type}[bF α](s:Sl α):lQ (cr s)=some (.int .i64 s.l.length):=Dr (N:=λn=>n) s
theorem cT(t:Zj):cells t=[cr t.procs]:=rfl
theorem cP(P:cz):cells P=[.str P.name,cr P.vars,cr P.events]:=rfl
theorem cY(y:bu):cells y=[.int .i64 y.proc,.int .i64 y.index]:=rfl
theorem Ud{s:Sl cz}{p:cz}{i:Nat}(h:s.l[i]?=some p):kE 3 (cr s) (i:Int)=some (.fptr (cells p)):=by have:=CS (N:=λn=>n) s .i64 i 3 rfl;simp[bO]at this;rw[this,show idx s i=some p from by unfold idx;grind];rfl
attribute [local simp] yH cT cP cY Ob.rows mk cw f_ dS bO gj ko kH kK ot iF eR V.cells V.one Mk.val cut dX dZ
theorem x4(a:get F 2=.hptr 0 0 0)(f6:get F 6=.int .i64 k)(b:H[0]?=some (.row 1 [cells t])):
 ∃F',cw E N call none r4 F H=some (F',H)/\get F' 15=.bool (decide (k<t.procs.l.length))/\(∀s,s<11->get F' s=get F s):=by
 refine⟨_,by simp[r4,a,f6,b];rfl,Zc,?_⟩
 simp;grind
theorem wq{n:Nat}(h:n<=2147483648):wrap .i64 ((n:Int)+1)=((n+1:Nat):Int):=by simp[wrap,IntKind.bits];omega
theorem x5{P:cz}{o:Nat}{ids:Zv}{rows:Zt}(a:get F 2=.hptr 0 0 0)(f6:get F 6=.int .i64 k)(b:H[0]?=some (.row 1 [cells t]))(B:t.procs.l[k]?=some P)(G:P.events.l.length+1<=2147483648)
 (D:lB H (get F 5) o ids rows)(c:rows.length+1<=2147483648):
 ∃F' H',cw E N call none r5 F H=some (F',H')/\lB H' (get F' 5) (H.length+2) (ids++[H.length]) (rows++[replicate (P.events.l.length+1) (.bool false)])/\H.length<=H'.length/\(∀id,id<H.length->id≠o\/rows=[]->H'[id]?=H[id]?)/\(∀s,s<11->s≠5->get F' s=get F s):=by
 have⟨H',p1,p2,p3,p4⟩:=D.push (replicate (P.events.l.length+1) (.bool false)) c;have z:=wq (n:=P.events.l.length) Za
 have u:(P.events.l.length:Int)+1<=2147483648:=Za
 have w:(0:Int)<=(P.events.l.length:Int)+1:=Za
 simp[jb]at p1;refine⟨_,H',by simp[r5,a,f6,b,Ud B,z,w,u,p1];rfl,by simpa using p2,p3,p4,λs C I=>?_⟩
 simp
 repeat (rw[if_neg Za])
theorem x6(f6:get F 6=.int .i64 k)(a:k<=2147483648):∃F',cw E N call none r6 F H=some (F',H)/\get F' 6=.int .i64 ((k+1:Nat):Int)/\(∀s,s<11->s≠6->get F' s=get F s):=by refine⟨_,by simp[r6,f6];rfl,by simp[wq a],?_⟩;simp;grind
end
structure P1(t:Trace)(x:bu)(k:Nat)(F:Frame)(H:bC):Prop where
 f2:get F 2=.hptr 0 0 0
 f3:get F 3=.hptr 1 0 0
 f6:get F 6=.int .i64 k
 h0:H[0]?=some (.row 1 [cells t])
 h1:H[1]?=some (.row 2 [cells x])
 ns:∃o ids,lB H (get F 5) o ids (jr ((gp t).take k))/\(k≠0->2<=o)/\∀id∈ids,2<=id
theorem uJ(out:a_ (a_ Zl)):(jr out).length=out.length:=by simp[jr]
theorem Jy{E:Env}{N:Nat->Zk}{t:Zj}{x:bu}(J:yu t=true):∀(m k:Nat)(F:Zo)(H:bC),k+m=t.procs.l.length->P1 t x k F H->∃F' H',kQ E N L1 F H (.exit 0) F' H'/\P1 t x t.procs.l.length F' H':=by
 have B:t.procs.l.length<=2147483648/\∀P∈t.procs.l,P.events.l.length+1<=2147483648:=by simpa[yu]using J
 intro m;induction m with|zero=>intro k F H a p;have C:k=t.procs.l.length:=Za;obtain⟨F1,e1,e2,e3⟩:=x4 (E:=E) (call:=⟨0,λ_ _ _=>none⟩) p.f2 p.f6 p.h0;refine⟨F1,H,kQ.stop (Ex.sA (Ex.seq (Ex.c_ λc=>?_) (Ex.oH ?_ Ex.exit)) Zc) Zc,?_⟩;have:cw E N c none r4 F H=cw E N ⟨0,λ_ _ _=>none⟩ none r4 F H:=rfl;exact e1;show get F1 15=_;rw[e2];simp[C];subst C;exact⟨by rw[e3 2 Za];exact p.f2,by rw[e3 3 Za];exact p.f3,by rw[e3 6 Za];exact p.f6,p.h0,p.h1,by rw[e3 5 Za];exact p.ns⟩|succ m Z=>
  intro k F H a p;have w:k<t.procs.l.length:=Za;obtain⟨o,ids,U,b,d⟩:=p.ns;obtain⟨F1,e1,e2,e3⟩:=x4 (E:=E) (N:=N) (call:=⟨0,λ_ _ _=>none⟩) p.f2 p.f6 p.h0;have W:=ζd w;have D:((gp t).take k).length=k:=by simp[gp];omega
  have I:lB H (get F1 5) o ids (jr ((gp t).take k)):=by rw[e3 5 Za];exact U
  obtain⟨g,H2,g1,g2,g3,g4,g5⟩:=x5 (E:=E) (N:=N) (call:=⟨0,λ_ _ _=>none⟩) (by rw[e3 2 Za];exact p.f2) (by rw[e3 6 Za];exact p.f6) p.h0 W (B.2 _ (List.getElem_mem w)) I (by rw[uJ,D];omega);obtain⟨X,e,f,L⟩:=x6 (E:=E) (N:=N) (call:=⟨0,λ_ _ _=>none⟩) (H:=H2) (by rw[g5 6 Za Za,e3 6 Za];exact p.f6) Za;have Y:=U.lt;have O:=(ζe.1 p.h0).1;have Q:=(ζe.1 p.h1).1;have u:∀i,i<2->i<H.length->H2[i]?=H[i]?:=λi j Y=>g4 i Y (by
   by_cases G:k=0
   .subst G;right;simp[jr]
   left;have:=b G;omega)
  have S:P1 t x (k+1) X H2:=by
   refine⟨by rw[L 2 Za Za,g5 2 Za Za,e3 2 Za];exact p.f2,by rw[L 3 Za Za,g5 3 Za Za,e3 3 Za];exact p.f3,f,
    by rw[u 0 Za O];exact p.h0,by rw[u 1 Za Q];exact p.h1,H.length+2,ids++[H.length],?_,λ_=>Za,λid T=>?_⟩
   rw[L 5 Za Za];have z:jr ((gp t).take (k+1))=jr ((gp t).take k)++[replicate (t.procs.l[k].events.l.length+1) (.bool false)]:=by rw[List.take_add_one];have:(gp t)[k]?=some (replicate (t.procs.l[k].events.l.length+1) false):=(by simp[gp,W]);rw[this];simp[jr]
   rw[z];exact g2;rcases List.mem_append.1 T with h|h;exact d id h;simp at h;omega
  obtain⟨F',H',r1,r2⟩:=Z (k+1) X H2 Za S;refine⟨F',H',kQ.step (Ex.seq (Ex.seq (Ex.c_ λc=>e1) (Ex.lW ?_ Ex.skip)) (Ex.seq (Ex.block (Ex.c_ λc=>g1)) (Ex.c_ λc=>e))) r1,r2⟩;show get F1 15=_;rw[e2];simp[w]
section
attribute [local simp] yH cT cP cY Ob.rows mk cw f_ dS bO gj ko kH kK ot iF eR V.cells V.one Mk.val cut dX dZ
variable{E:Env}{N:Nat->Zk}{t:Zj}{x y:bu}{F:Zo}{H:bC}{call:dw}
theorem x8{l:Zt}{id:Nat}(h:jH H (get F 7) l id):∃F',cw E N call none r8 F H=some (F',H)/\get F' 35=.bool (decide (0<l.length))/\(∀s,s<11->get F' s=get F s):=by refine⟨_,by simp[r8,h.len];rfl,Zc,?_⟩;simp;grind
theorem x9{l:Zt}{id:Nat}(h:jH H (get F 7) (cells y::l) id):∃F',cw E N call none r9 F H=some (F',H++[.row 2 [cells y]])/\get F' 8=.hptr H.length 0 0/\(∀s,s<11->s≠8->get F' s=get F s):=by have⟨p,p1,p2⟩:=h.get (i:=0) rfl;simp at p1 p2;refine⟨_,by simp[r9,p1,p2,eU];rfl,Zc,?_⟩;simp;grind
theorem UJ{c:Zu}{l:Zt}{id:Nat}(h:jH H (get F 7) (c::l) id):∃F',cw E N call none zh F H=some (F',H)/\jH H (get F' 7) l id/\(∃off m B,get F 7=.hsl id 2 off m/\get F' 7=.hsl id 2 B l.length)/\(∀s,s<11->s≠7->get F' s=get F s):=by have⟨w',p1,p2,off,m,B,p3,p4⟩:=h.tail;refine⟨_,by simp[zh,lp,p1];rfl,by simpa using p2,⟨off,m,B,p3,by simpa using p4⟩,?_⟩;simp;grind
theorem AB(H:bC):H.take H.length=H:=List.take_length ..
theorem TO{c:Nat}(a:H[c]?=some (.row 2 [cells y])):dZ H (.load 1 false) [.hptr c 0 0]=some (.int .i64 y.proc)/\dZ H (.load 1 false) [.hptr c 0 1]=some (.int .i64 y.index)/\dZ H (.load 2 true) [.hptr c 0 0]=some (enc y):=by refine⟨?_,?_,?_⟩<;>simp[dZ,dX,a,cut]<;>rfl
theorem Sd{c o:Nat}{ids:Zv}{rows:Zt}{p j:Nat}{r:Zu}{u:V}(B:get F 8=.hptr c 0 0)(a:H[c]?=some (.row 2 [cells y]))(D:lB H (get F 5) o ids rows)(G:y.proc=p)(J:y.index=j)(b:rows[p]?=some r)(d:r[j]?=some u):
 ∃F',cw E N call (some H.length) xN F H=some (F',H)/\get F' 49=u/\(∀s,s<11->get F' s=get F s):=by
 have⟨id,Q,w,z,C,I⟩:=D.cell b d;have⟨L,O,_⟩:=TO a;refine⟨_,by simp[-dZ,xN,B,G,J,L,O,w,z,C,I];rfl,Zc,?_⟩
 simp;grind
theorem UM{c o:Nat}{ids:Zv}{rows:Zt}{p j:Nat}{r:Zu}{u:V}(D:get F 8=.hptr c 0 0)(d:H[c]?=some (.row 2 [cells y]))(B:lB H (get F 5) o ids rows)(G:y.proc=p)(J:y.index=j)(a:rows[p]?=some r)(b:r[j]?=some u):
 ∃F' H',cw E N call (some H.length) yP F H=some (F',H')/\lB H' (get F' 5) o ids (rows.set p (r.set j (.bool true)))/\H'.length=H.length/\(∀i,i∉ids->H'[i]?=H[i]?)/\(∀s,s<11->get F' s=get F s):=by
 have⟨id,w,z,C,I,X⟩:=B.cell a b;have⟨L,O,_⟩:=TO d;have⟨H',Q,S,T,U⟩:=B.set a (ζe.1 b).1 w (u:=.bool true) rfl rfl;refine⟨_,H',by simp[-dZ,yP,D,G,J,L,O,z,C,I,Q];rfl,by simpa using S,T,λi W=>U i λe=>W (e▸mem_of_getElem? w),?_⟩
 simp;grind
def Ee(E:Env)(N:Nat->Zk)(t:Zj)(a:bu->bt (Sl bu)):Prop:=∀(y:bu)(s:Sl bu)(H:bC),a y=some s->∃w X id,(∃n,∀k,n<=k->eX E (run E k) (N 74) [enc t,enc y] H=some (w,H++X))/\jH (H++X) w (s.l.map cells) id/\(∀off m,w=.hsl id 2 off m->id=H.length)
theorem T0{a d:Nat}(B:E.keep (N 74)=true){b:bu->bt (Sl bu)}(D:Ee E N t b){s:Sl bu}(G:b y=some s)(f:get F 2=.hptr 0 0 0)(g:H[0]?=some (.row 1 [cells t])){c:Nat}(h:H[c]?=some (.row 2 [cells y])):
 ∃w X id,jH (H++X) w (s.l.map cells) id/\(∀off m,w=.hsl id 2 off m->id=H.length)/\
  (get F 8=.hptr c 0 0->∃F',(∃n,∀k,n<=k->cw E N (run E k) none zd F H=some (F',H++X))/\get F' 9=w/\(∀s,s<11->s≠9->get F' s=get F s))/\
  (get F 3=.hptr c 0 0->∃F',(∃n,∀k,n<=k->cw E N (run E k) none r7 F H=some (F',H++X))/\get F' 7=w/\(∀s,s<11->s≠7->get F' s=get F s)):=by
 have⟨w,X,id,⟨n,e1⟩,e2,e3⟩:=D y s H G;rw[show enc t=.agg (cells t)from rfl,show enc y=.agg (cells y)from rfl,cT,cY]at e1;refine⟨w,X,id,e2,e3,λu=>⟨_,⟨n,λk e=>by simp[zd,f,u,g,h,B,e1 k e];rfl⟩,Zc,?_⟩,λi=>⟨_,⟨n,λk e=>by simp[r7,f,i,g,h,B,e1 k e];rfl⟩,Zc,?_⟩⟩<;>
  (simp;grind)
end
section
attribute [local simp] yH cT cP cY Ob.rows mk cw f_ dS bO gj ko kH kK ot iF eR V.cells V.one Mk.val cut dX dZ
variable{E:Env}{N:Nat->Zk}{F:Zo}{H:bC}{call:dw}{i:Nat}
theorem OT{l:Zt}{id:Nat}(a:get F 10=.int .i64 i)(h:jH H (get F 9) l id):∃F',cw E N call none yB F H=some (F',H)/\get F' 64=.bool (decide (i<l.length))/\(∀s,s<11->get F' s=get F s):=by refine⟨_,by simp[yB,a,h.len];rfl,Zc,?_⟩;simp;grind
theorem Uw{l D:Zt}{id B:Nat}{c:Zu}(a:get F 10=.int .i64 i)(h:jH H (get F 7) l id)(G:jH H (get F 9) D B)(b:D[i]?=some c)(J:l.length+1<=2147483648):
 ∃F' H',cw E N call none r16 F H=some (F',H')/\jH H' (get F' 7) (l++[c]) (H.length+1)/\H'.length=H.length+2/\(∀i,i<H.length->(∀off m,get F 7=.hsl id 2 off m->i≠id)->H'[i]?=H[i]?)/\(∀s,s<11->s≠7->get F' s=get F s):=by
 have u:=G.c c (mem_of_getElem? b);have⟨p,p1,p2⟩:=G.get b;have⟨H',w,z,C,I⟩:=h.push u J;refine⟨_,H',by simp+contextual [-dZ,-V.one,r16,a,p1,p2,w,u.1,List.all_eq_true.1 u.2];rfl,by simpa using z,C,I,?_⟩
 simp;grind
theorem UK(a:get F 10=.int .i64 i)(b:i<=2147483648):∃F',cw E N call none E8 F H=some (F',H)/\get F' 10=.int .i64 ((i+1:Nat):Int)/\(∀s,s<11->s≠10->get F' s=get F s):=by refine⟨_,by simp[E8,a];rfl,by simp[wq b],?_⟩;simp;grind
structure P3(l l9:List (List V))(B i:Nat)(F:Frame)(H:bC):Prop where
 f10:get F 10=.int .i64 i
 t9:∃id9,jH H (get F 9) l9 id9/\∃id,jH H (get F 7) l id/\(∀off m,get F 7=.hsl id 2 off m->B<=id/\∀off' m',get F 9=.hsl id9 2 off' m'->id≠id9)
 len:B<=H.length
theorem Tv(D:Zt)(B:Nat)(Y:D.length<=2147483648):∀(m i:Nat)(l:Zt)(F:Zo)(H:bC),i+m=D.length->l.length+m<=2147483648->P3 l D B i F H->
 ∃F' H',kQ E N L3 F H (.exit 4) F' H'/\(∃id,jH H' (get F' 7) (l++D.drop i) id/\∀off m,get F' 7=.hsl id 2 off m->B<=id)/\(∀s,s<7->get F' s=get F s)/\(∀j,j<B->H'[j]?=H[j]?)/\H.length<=H'.length:=by
 intro m
 induction m with
 |zero=>
  intro i l F H Z a p;obtain⟨u,t9,id,t7,C⟩:=p.t9;obtain⟨F1,e1,e2,e3⟩:=OT (E:=E) (call:=⟨0,λ_ _ _=>none⟩) p.f10 t9
  refine⟨F1,H,kQ.stop (Ex.sA (Ex.seq (Ex.c_ λc=>e1) (Ex.oH ?_ Ex.exit)) Zc) Zc,⟨id,?_,λoff m h=>?_⟩,λs T=>e3 s Za,λ_ _=>rfl,Nat.le_refl _⟩
  .show get F1 64=_
   grind
  .grind
  grind
 |succ m ih=>
  intro i l F H Z a p;have z:i<D.length:=Za
  obtain⟨u,t9,id,t7,C⟩:=p.t9;obtain⟨F1,e1,e2,e3⟩:=OT (E:=E) (call:=⟨0,λ_ _ _=>none⟩) p.f10 t9
  have b:=ζd z;have G:jH H (get F1 7) l id:=Zd
  have I:jH H (get F1 9) D u:=Zd
  obtain⟨f,H2,g1,g2,g3,g4,g5⟩:=Uw (E:=E) (call:=⟨0,λ_ _ _=>none⟩) (by rw[e3 10 Za];exact p.f10) G I b Za
  obtain⟨U,d,e,J⟩:=UK (E:=E) (call:=⟨0,λ_ _ _=>none⟩) (by rw[g5 10 Za Za,e3 10 Za];exact p.f10) Za
  have keep:∀j,j<H.length->(∀off m,get F 7=.hsl id 2 off m->j≠id)->H2[j]?=H[j]?:=λj L h=>g4 j L Zd
  have O:P3 (l++[D[i]]) D B (i+1) U H2:=by refine⟨e,⟨u,?_,H.length+1,Zd,λoff m h=>⟨by have:=p.len;omega,λw m' W=>?_⟩⟩,by have:=p.len;omega⟩;rw[J 9 Za Za,g5 9 Za Za,e3 9 Za];exact t9.heap λoff n X=>keep u (t9.lt X) λw m' Q=>Ne.symm ((C w m' Q).2 off n X);rw[J 9 Za Za,g5 9 Za Za,e3 9 Za]at W;have:=t9.lt W;omega
  obtain⟨F',H',r1,⟨S,r2,r3⟩,r4,r5,r6⟩:=ih (i+1) (l++[D[i]]) U H2 Za (by simp;omega) O
  refine⟨F',H',kQ.step (Ex.seq (Ex.seq (Ex.c_ λc=>e1) (Ex.lW ?_ Ex.skip)) (Ex.seq (Ex.block (Ex.c_ λc=>g1)) (Ex.c_ λc=>d))) r1,⟨S,?_,r3⟩,λs T=>?_,λj L=>?_,Za⟩
  .show get F1 64=_
   grind
  .rw[List.append_assoc]at r2;rw[List.drop_eq_getElem_cons z];exact r2
  .rw[r4 s T,J s Za Za,g5 s Za Za,e3 s Za]
  have:=p.len;rw[r5 j L,keep j Za λoff m h=>by have:=(C off m h).1;omega]
end
structure P2(t:Trace)(out:List (List Bool))(l:List bu)(F:Frame)(H:bC):Prop where
 f2:get F 2=.hptr 0 0 0
 h0:H[0]?=some (.row 1 [cells t])
 ns:∃B o ids id,lB H (get F 5) o ids (jr out)/\(out≠[]->1<=o/\o<B)/\(∀id∈ids,1<=id/\id<B)/\1<=B/\B<=H.length/\jH H (get F 7) (l.map cells) id/\∀off m,get F 7=.hsl id 2 off m->B<=id
theorem Mw(out:a_ (a_ Zl))(p j:Nat)(row:a_ Zl):jr (out.set p (row.set j true))=(jr out).set p ((row.map V.bool).set j (.bool true)):=by simp[jr]
theorem Gi{out:a_ (a_ Zl)}:jr out=[]↔out=[]:=by simp[jr]
theorem NY{a:bu->bt (Sl bu)}{out:a_ (a_ Zl)}{y:bu}{rest:a_ bu}{w:Fw (a_ (a_ Zl)×a_ bu) (a_ (a_ Zl)) Empty}(h:nD a (out,y::rest)=some w):
 ∃(p j:Nat)(row:a_ Zl)(b:Zl),y.proc=p/\y.index=j/\out[p]?=some row/\row[j]?=some b/\((b=true/\w=.n (out,rest))\/(b=false/\∃more,a y=some more/\rest.length+more.l.length<=2147483648/\w=.n (out.set p (row.set j true),rest++more.l))):=by
 simp only[nD]at h;split at h
 .have⟨row,h1,h⟩:=ζg.1 h;have⟨b,u,h⟩:=ζg.1 h;refine⟨y.proc.toNat,y.index.toNat,row,b,Za,Za,h1,u,?_⟩
  cases b with
  |true=>simp[bE]at h;grind|false=>
   have⟨more,z,h⟩:=ζg.1 h
   grind
 simp_all
theorem I_{E:Env}{N:Nat->Zk}{t:Zj}{f:bu->bt (Sl bu)}(hd:E.keep (N 74)=true)(hD:Ee E N t f):∀(k:Nat)(out:a_ (a_ Zl))(l:a_ bu)(D:a_ (a_ Zl))(F:Zo)(H:bC),
 i_ (nD f) k (out,l)=some (.x D)->P2 t out l F H->∃F' H',kQ E N L2 F H (.exit 2) F' H'/\P2 t D [] F' H':=by
 intro k
 induction k with
 |zero=>intro out l D F H h;simp[i_]at h|succ k ih=>
  intro out l D F H h p;have⟨B,o,ids,id,n1,n2,Y,n4,n5,t7,t8⟩:=p.ns;have⟨F1,e1,e2,e3⟩:=x8 (E:=E) (N:=N) (call:=⟨0,λ_ _ _=>none⟩) t7
  rw[List.length_map]at e2
  cases l with
  |nil=>
   simp only[i_,nD]at h;cases h;refine⟨F1,H,kQ.stop (Ex.sA (Ex.seq (Ex.c_ λc=>e1) (Ex.oH ?_ Ex.exit)) Zc) Zc,?_⟩
   .show get F1 35=_;rw[e2];simp
   exact⟨by rw[e3 2 Za];exact p.f2,p.h0,B,o,ids,id,by rw[e3 5 Za];exact n1,n2,Y,n4,n5,by rw[e3 7 Za];exact t7,by rw[e3 7 Za];exact t8⟩
  |cons y rest=>
   simp only[i_]at h
   cases J:nD f (out,y::rest)with
   |none=>rw[J]at h;cases h|some w=>
   rw[J]at h;have⟨q,j,row,b,hq,hj,u,hb,L⟩:=NY J;have O:jH H (get F1 7) (cells y::rest.map cells) id:=by rw[e3 7 Za];exact t7
   have⟨F2,g1,g2,g3⟩:=x9 (E:=E) (N:=N) (call:=⟨0,λ_ _ _=>none⟩) O
   have aa:jH (H++[.row 2 [cells y]]) (get F2 7) (cells y::rest.map cells) id:=by rw[g3 7 Za Za];exact O.more _
   have⟨r,i1,i2,⟨G,m1,ab,i3,i4⟩,K⟩:=UJ (E:=E) (N:=N) (call:=⟨0,λ_ _ _=>none⟩) aa
   have Q:(H++[Ob.row 2 [cells y]])[H.length]?=some (.row 2 [cells y]):=Zc
   have M:get r 8=.hptr H.length 0 0:=by rw[K 8 Za Za];exact g2
   have f5:get r 5=get F 5:=by rw[K 5 Za Za,g3 5 Za Za,e3 5 Za]
   have P:get r 2=.hptr 0 0 0:=by rw[K 2 Za Za,g3 2 Za Za,e3 2 Za];exact p.f2
   have S:lB (H++[.row 2 [cells y]]) (get r 5) o ids (jr out):=by rw[f5];exact n1.more _
   have hr:(jr out)[q]?=some (row.map V.bool):=by simp[jr,u]
   have hu:(row.map V.bool)[j]?=some (.bool b):=by simp[hb]
   have T:B<=id:=by have:get F 7=.hsl id 2 G m1:=(by rw[<-i3,g3 7 Za Za,e3 7 Za]);exact t8 _ _ this
   have⟨R,j1,j2,z⟩:=Sd (E:=E) (N:=N) (call:=⟨0,λ_ _ _=>none⟩) M Q S hq hj hr hu
   have ad:dS N F1 (.s 35)=.bool true:=by show get F1 35=_;rw[e2];simp
   rcases L with⟨rfl,rfl⟩|⟨rfl,more,v,aq,rfl⟩
   .simp only at h;have U:P2 t out rest R (H++[.row 2 [cells y]]):=by
     refine⟨by rw[z 2 Za];exact P,by rw[List.getElem?_append_left (ζe.1 p.h0).1];exact p.h0,B,o,ids,id,by rw[z 5 Za];exact S,n2,Y,n4,by simp;omega,by rw[z 7 Za];exact i2,λoff m _=>T⟩
    have⟨F',H',r1,r2⟩:=ih out rest D R _ h U;exact⟨F',H',kQ.step (Ex.seq (Ex.seq (Ex.c_ λc=>e1) (Ex.lW ad Ex.skip)) (Ex.tA (Ex.seq (Ex.c_ λc=>g1) (Ex.seq (Ex.c_ λc=>i1) (Ex.sA (Ex.seq (Ex.oG rfl λc=>j1) (Ex.lW j2 Ex.exit)) Zc))))) r1,r2⟩
   simp only at h;have n6:lB (H++[.row 2 [cells y]]) (get R 5) o ids (jr out):=by rw[z 5 Za];exact S
   have⟨F5,C,k1,k2,k3,k4,k5⟩:=UM (E:=E) (N:=N) (call:=⟨0,λ_ _ _=>none⟩) (by rw[z 8 Za];exact M) Q n6 hq hj hr hu
   have I:∀i,B<=i->i∉ids:=λi hi v=>by have:=(Y i v).2;omega
   have ah:C[H.length]?=some (.row 2 [cells y]):=by rw[k4 _ (I _ n5)];exact Q
   have W:C[0]?=some (.row 1 [cells t]):=by rw[k4 0 (λv=>by have:=(Y 0 v).1;omega),List.getElem?_append_left (ζe.1 p.h0).1];exact p.h0
   have⟨w9,X,ai,aj,m2,m3,_⟩:=T0 (a:=0) (d:=0) (F:=F5) hd hD v (by rw[k5 2 Za,z 2 Za];exact P) W ah
   have⟨Z,⟨nn,ak⟩,ae,o3⟩:=m3 (by rw[k5 8 Za,z 8 Za];exact M)
   have au:C.length=H.length+1:=by rw[k3];simp
   have i7:get Z 7=.hsl id 2 ab (rest.map cells).length:=by rw[o3 7 Za Za,k5 7 Za,z 7 Za];exact i4
   have ar:id<H.length:=by have:=O.lt (off:=G) (m:=m1) (by rw[<-i3,g3 7 Za Za]);exact this
   have t6:jH (C++X) (get Z 7) (rest.map cells) id:=by have:get Z 7=get r 7:=(by rw[o3 7 Za Za,k5 7 Za,z 7 Za]);rw[this];refine(i2.heap (H':=C) λoff n _=>k4 id (I id T)).more X
   have al:∃g,(∀c,cw E N c none yX Z (C++X)=some (g,C++X))/\get g 10=.int .i64 ((0:Nat):Int)/\∀s,s<10->get g s=get Z s:=⟨set Z 10 (.int .i64 0),λc=>by simp[yX,cw,f_,dS,bO,gj],Zc,λs hs=>by rw[ko,if_neg Za]⟩
   have⟨g,u1,u2,x⟩:=al;have am:P3 (rest.map cells) (more.l.map cells) B 0 g (C++X):=by refine⟨u2,⟨ai,by rw[x 9 Za,ae];exact aj,id,by rw[x 7 Za];exact t6,λoff m hh=>⟨T,λaf m' h'=>?_⟩⟩,by simp;omega⟩;rw[x 9 Za,ae]at h';have:=m2 af m' h';omega
   have⟨A,H8,v1,⟨an,v2,v3⟩,v4,v5,v6⟩:=Tv (E:=E) (N:=N) (more.l.map cells) B (by simp;omega) (more.l.map cells).length 0 (rest.map cells) g (C++X) Za (by simp;omega) am
   have ao:lB H8 (get A 5) o ids (jr (out.set q (row.set j true))):=by have h5:get A 5=get F5 5:=(by rw[v4 5 Za,x 5 Za,o3 5 Za Za]);rw[h5,Mw];refine(k2.more X).heap (λap=>v5 o ?_) λi hi=>v5 i (Y i hi).2;have:out≠[]:=(by intro e;subst e;simp at u);exact(n2 this).2
   have U:P2 t (out.set q (row.set j true)) (rest++more.l) A H8:=by refine⟨by rw[v4 2 Za,x 2 Za,o3 2 Za Za,k5 2 Za,z 2 Za];exact P,?_,B,o,ids,an,ao,λap=>n2 (by intro e;subst e;simp at u),Y,n4,by simp at v6;omega,?_,v3⟩;rw[v5 0 Za,List.getElem?_append_left (ζe.1 W).1];exact W;rw[List.drop_zero]at v2;rw[map_append];exact v2
   have⟨F',H',w1,w2⟩:=ih _ _ D A H8 h U;exact⟨F',H',kQ.step (Ex.seq (Ex.seq (Ex.c_ λc=>e1) (Ex.lW ad Ex.skip)) (Ex.block (Ex.seq (Ex.c_ λc=>g1) (Ex.seq (Ex.c_ λc=>i1) (Ex.seq (Ex.seq (Ex.oG rfl λc=>j1) (Ex.oH j2 Ex.skip)) (Ex.seq (Ex.oG rfl λc=>k1)
    (Ex.seq (Ex.ops ⟨nn,ak⟩) (Ex.seq (Ex.c_ u1) (Ex.tA (Ex.loop v1)))))))))) w1,w2⟩
theorem OA{H:bC}{Z:Nat->Prop}{id:Nat}{r:a_ Zl}(D:Z id)(h:H[id]?=some (.row 1 (jb (r.map V.bool)))):FR H Z (enc (Sl.row r)) (.hsl id 1 0 r.length):=by
 have e:bD H id=some (1,jb (r.map V.bool)):=by simp[bD,h,Ob.rows]
 have C:enc (Sl.row r)=.fsl 1 (rows r):=rfl;have G:(rows r).length=r.length:=by simp[rows]
 have f:jb (r.map V.bool)=rows r:=by simp[jb,rows,Function.comp_def]
 rw[f]at e;rw[C,<-G];refine .fsl 1 (rows r) id 0 (rows r) D e Za (λi a b d w=>?_) (λi j a b u v d w z B=>?_);grind;rw[zero_add,d]at w;cases w;rw[z]at B;cases B;refine .same u ?_;obtain⟨c,I,rfl⟩:∃c∈r,a=[V.bool c]:=by have:=mem_of_getElem? d;simp only[rows,mem_map]at this;obtain⟨c,f,rfl⟩:=this;simp_all
 have:=mem_of_getElem? z;simp at this;subst this;rfl
theorem MW{H:bC}{w:V}{o:Nat}{ids:Zv}{out:a_ (a_ Zl)}(n:lB H w o ids (jr out)):∃Z,FR H Z (enc (nested out)) w/\(∀id,Z id->(bD H id).isSome=true)/\Deep H Z:=by
 have f:=n.v;by_cases Q:out=[];subst Q;rw[if_pos (show jr []=[]from rfl)]at f;subst f;exact⟨λ_=>False,.same _ rfl,λ_ h=>h.elim,⟨λ_ _ _ h=>h.elim⟩⟩;have I:jr out≠[]:=λh=>Q (Gi.1 h);rw[if_neg I,uJ]at f;subst f;have S:=n.ob I;have J:=n.len;rw[uJ]at J;have B:∀(i id:Nat)(r:a_ Zl),ids[i]?=some id->out[i]?=some r->H[id]?=some (.row 1 (jb (r.map V.bool))):=λi id r e D=>n.r i id _ e (by simp[jr,D]);have C:∀(i:Nat)(c:Zu),(refs ids (jr out))[i]?=some c->∃id r,ids[i]?=some id/\out[i]?=some r/\c=[.hsl id 1 0 r.length]:=λi c h=>by have G:=(ζe.1 h).1;rw[sN n.len,uJ]at G;have e:=ζd (show i<ids.length from Za);have D:=ζd G;have T:=AS (rows:=jr out) (r:=out[i].map V.bool) e (by simp[jr,D]);grind
 have L:bD H o=some (1,refs ids (jr out)):=by simp[bD,S,Ob.rows]
 have O:∀id∈ids,∃(r:a_ Zl),H[id]?=some (.row 1 (jb (r.map V.bool))):=λid z=>by have⟨i,G⟩:=List.getElem?_of_mem z;have U:=(ζe.1 G).1;exact⟨_,B i id _ G (ζd (show i<out.length from Za))⟩
 refine⟨λid=>id=o\/id∈ids,?_,λid h=>?_,⟨λid es ys h d c hc u hu=>?_⟩⟩;have g:enc (nested out)=.fsl 1 (rows (out.map Sl.row)):=by rw[nested,if_neg Q];rfl
 have U:(rows (out.map Sl.row)).length=out.length:=by simp[rows]
 rw[g,<-U];refine .fsl 1 _ o 0 (refs ids (jr out)) (.inl rfl) L (by rw[U,sN n.len,uJ];omega) (λi a b e D=>?_) (λi j a b u v e D T Y=>?_);rw[zero_add]at D;obtain⟨id,r,_,d,rfl⟩:=C i b D;simp[rows,d]at e;subst e;rfl;rw[zero_add]at D;obtain⟨id,r,z,d,rfl⟩:=C i b D;have k:a=[enc (Sl.row r)]:=by simp[rows,d]at e;exact e.symm
 subst k;cases j with|zero=>simp at T Y;subst T Y;exact OA (.inr (mem_of_getElem? z)) (B i id r z d)|succ j=>simp_all
 rcases h with rfl|h;simp_all;have⟨r,d⟩:=O id h;simp[bD,d,Ob.rows];rcases h with rfl|h;rw[L]at d;cases d;have⟨i,G⟩:=List.getElem?_of_mem hc;obtain⟨id,r,z,W,rfl⟩:=C i c G;simp at hu;subst hu;exact⟨_,OA (.inr (mem_of_getElem? z)) (B i id r z W)⟩;have⟨r,X⟩:=O id h;have:bD H id=some (1,jb (r.map V.bool)):=by simp[bD,X,Ob.rows]
 rw[this]at d;cases d;simp only[jb,mem_map]at hc;obtain⟨_,⟨c',_,rfl⟩,rfl⟩:=hc;simp at hu;subst hu;exact⟨_,.same _ rfl⟩
theorem PC{t:Zj}{x:bu}{out:a_ (a_ Zl)}{s:Sl bu}{b:bu->bt (Sl bu)}(U:uT.keep (u5 74)=true)(W:Ee uT u5 t b)(O:yu t=true)(g:b x=some s)(j:b8 (nD b) (gp t,s.l)=some (.x out)):
 yh uT (u5 54) [enc t,enc x] (enc (nested out)):=by
 have⟨fi,g1,g2,g3,g4⟩:=shape;have⟨k,l⟩:=m_.1 j;have p:∃F1,(∀c,cw uT u5 c none r1 [enc t,enc x] []=some (F1,[.row 1 [cells t],.row 2 [cells x]]))/\get F1 2=.hptr 0 0 0/\get F1 3=.hptr 1 0 0:=by refine⟨_,λc=>zy (v:=.hptr 0 0 0) (H1:=[.row 1 [cells t]]) rfl ?_<|zy (v:=.hptr 1 0 0) (H1:=[.row 1 [cells t],.row 2 [cells x]]) rfl ?_<|vp (v:=.bL) rfl ?_ qz,?_,?_⟩;show(iF .box [enc t]).map _=_;simp only[iF,lS,pH,if_true,Option.map_some,fF];rfl;simp only[f_,map_cons,List.map_nil,dS,gj,ko,Nat.reduceEqDiff,if_false];show(iF .box [enc x]).map _=_;simp only[iF,lS,pH,if_true,Option.map_some,fF];rfl;simp[f_,dS,bO];simp[gj];simp[gj]
 have⟨F1,q,r,y⟩:=p;have A:∃I,(∀c,cw uT u5 c none r2 F1 [.row 1 [cells t],.row 2 [cells x]]=some (set F1 5 .bL,[.row 1 [cells t],.row 2 [cells x]]))/\(∀c,cw uT u5 c none r3 (set F1 5 .bL) [.row 1 [cells t],.row 2 [cells x]]=some (I,[.row 1 [cells t],.row 2 [cells x]]))/\P1 t x 0 I [.row 1 [cells t],.row 2 [cells x]]:=by refine⟨set (set F1 5 .bL) 6 (.int .i64 0),λc=>by simp[r2,cw,f_,dS,bO,gj],λc=>by simp[r3,cw,f_,dS,bO,gj],by simp[r],by simp[y],Zc,rfl,rfl,0,[],?_,λh=>absurd rfl h,λid h=>by simp at h⟩;have:get (set (set F1 5 .bL) 6 (.int .i64 0)) 5=.bL:=Zc;rw[this,List.take_zero];exact lB.nil _ 0
 have⟨I,H,K,M⟩:=A;have⟨P,S,e1,e2⟩:=Jy (E:=uT) (N:=u5) O t.procs.l.length 0 I _ Za M
 have⟨o,ids,J,R,V⟩:=e2.ns;have T:(gp t).length=t.procs.l.length:=by simp[gp]
 rw[List.take_of_length_le Za]at J
 have⟨w,X,id,m1,m2,_,m4⟩:=T0 (a:=0) (d:=0) (F:=P) (E:=uT) (N:=u5) U W g e2.f2 e2.h0 (c:=1) e2.h1;have⟨Y,o1,o2,o3⟩:=m4 e2.f3;have Q:P2 t (gp t) s.l Y (S++X):=by refine⟨by rw[o3 2 Za Za];exact e2.f2,by rw[List.getElem?_append_left (ζe.1 e2.h0).1];exact e2.h0,S.length,o,ids,id,by rw[o3 5 Za Za];exact J.more X,λu=>?_,λi f=>⟨by have:=V i f;omega,J.lt.2 i f⟩,?_,Zc,by rw[o2];exact m1,λoff m h=>?_⟩;have z:jr (gp t)≠[]:=λh=>u (Gi.1 h);have:t.procs.l.length≠0:=(by intro h;apply u;exact List.eq_nil_of_length_eq_zero Za);have:=R this;exact⟨Za,J.lt.1 z⟩;have:=(ζe.1 e2.h0).1;omega;rw[o2]at h;have:=m2 off m h;omega
 have⟨C,L,p1,p2⟩:=I_ U W k _ _ out Y _ l Q;have⟨B,o',aa,ab,q1,_⟩:=p2.ns;have l1:∃D,(∀c,cw uT u5 c none TX C L=some (D,L))/\get D 4=get C 5:=by refine⟨_,λc=>vp (v:=get C 5) rfl ?_<|vp (v:=get C 5) rfl ?_ qz,?_⟩;simp[f_,dS,bO];simp[f_,dS,bO,gj];simp[gj]
 have⟨D,y1,y2⟩:=l1;have e:Ex uT u5 code [enc t,enc x] [] .ret D L:=Ex.seq (Ex.c_ q) (Ex.seq (Ex.c_ H) (Ex.seq (Ex.seq (Ex.c_ K) (Ex.tA (Ex.loop e1))) (Ex.seq (Ex.ops o1) (Ex.seq (Ex.tA (Ex.loop p1)) (Ex.seq (Ex.c_ y1) Ex.ret)))))
 have⟨n,G⟩:=e.run (nm:=some) zm g1 g2 (show[enc t,enc x].length<=fi.ntmps from g3) (vs:=[get D 4]) (by rw[g4];rfl)
 have⟨Z,z1,z2,z3⟩:=MW q1;exact⟨n,get C 5,L,Z,by rw[G,y2];rfl,z1,z2,z3⟩
theorem RI(l:a_ bu):∀c∈l.map (cells (α:=bu)),c.length=2/\c.all V.one=true/\c.all V.scalar=true:=λc a=>by obtain⟨e,_,rfl⟩:=mem_map.1 a;exact⟨rfl,rfl,rfl⟩
theorem To(t:Zj):Ee uT u5 t (dM t):=by
 intro y s H B;have d:=xG t y;have I:=d (cU s) (by rw[B];rfl);have b:V.cG [enc t,enc y]=true:=by simp only[V.cG,jP,Bool.and_self]
 have w:s.k=.row\/s.k=.nil/\rows s.l=[]:=by have D:∀o z,(∃l,o=.row l)\/o=.nil->dM.J1 o t y=some z->(∃l,z=.row l)\/z=.nil:=λo z J u=>(by unfold dM.J1 at u;have⟨e,_,u⟩:=ζg.1 u;cases G:e.kind==3 with|true=>rw[G]at u;have⟨f,_,u⟩:=ζg.1 u;have⟨q,C,u⟩:=ζg.1 u;cases u;unfold jt at C;split at C;cases C;exact .inl ⟨_,rfl⟩;cases C|false=>rw[G]at u;cases u;exact J);have:(∃l,s=.row l)\/s=.nil:=(by unfold dM at B;cases a:decide (y.index>1)with|true=>rw[a]at B;exact D _ s (.inl ⟨_,rfl⟩) B|false=>rw[a]at B;exact D _ s (.inr rfl) B);rcases this with⟨l,rfl⟩|rfl;exact .inl rfl;exact .inr ⟨rfl,rfl⟩
 have⟨n,z,H',r1,r2⟩:=RZ Ef zz (T:=Tx) (f:=u5 74) (rf:=rV (Tx 74)) Zf b (Nat.le_of_ble_eq_true Zf) (k:=s.k) (es:=2) (xs:=rows s.l) (λc a=>(RI s.l c a).2.2) w I;refine FZ (l:=s.l.map cells) (y:=z) (H1:=H') Zf b (RI s.l) ⟨n,λk g=>(mN _ g).go _ _ _ _ r1⟩ ?_ H;rcases r2 with⟨L,rfl⟩|⟨id,rfl,O⟩;left;cases s<;>simp[Sl.k]at L;exact⟨rfl,rfl⟩;right;exact⟨id,by simp[rows],O⟩
end pastX
theorem MJ(t:Zj)(x:bu)(r:Sl (Sl Zl))(h:mw t x=some r):Sy.xC 54 [enc t,enc x]=some (enc r):=by
 unfold mw at h;split at h;rename_i u;have⟨s,z,h⟩:=ζg.1 h;have⟨w,B,h⟩:=ζg.1 h;cases w with|n a=>exact elim a|r e=>exact elim e|x out=>cases h;exact xL (pastX.PC Zf (pastX.To t) u z B)
 cases h
noncomputable section
def uM:bt Zl:=some true
instance QC:Fc Sy cL uM:=⟨4,[],λr:Zl=>[.bool r],true,kz.xC Zf Zf K2⟩
namespace fS
def bG(D:Sl cz)(G:Int)(B:Int)(p1:cz->bt Zl):bt (Fw Int Unit Int):=bE (decide (B<G)) ((idx D B).bind λu=>(p1 u).bind λw=>bE w (some (.r B)) (some (.n (wrap .i64 (B+1))))) (some (.x ()))
def W1(B:Sl cz)(D G:Int)(p1:cz->bt Zl):Z6:=(b8 (λq:Int=>bG B D q p1) G).bind (Fw.elim (λe=>some (-1)) (λe=>some e))
end fS
def fS(B:Sl cz)(p1:cz->bt Zl):Z6:=fS.W1 B (len B) 0 p1
open fS in
abbrev uU(g1:FuncId)(e1:a_ V)(p1:cz->bt Bool)(a:nk Sy cL g1 [] e1 (λz:cz=>[enc z]) (λr:Bool=>[.bool r]) p1 true)(B:Sl cz):Fc Sy cL (fS B p1):=Fc.M 48 [enc B,.clo g1 [] e1] (b_ 9 B (ey 5 (λw=>(bS [Cv 0 B,(1,.v (.clo g1 [] e1)),Iv 7 (len B),Iv 8 w] [])) (λu=>(0,(bS [] []))) (λu=>(bS [Iv 4 u] [])) (λw=>bK 7 9 (bU 16 λC _=>vm 1 a.f C λD _=>bK 2 16 bA bA) bA) (λu=>bA) (λu=>bA)))
def fL(B:Sl cz)(p1:cz->bt Zl):bt Zl:=(fS B p1).bind λu=>some (decide (u>=0))
abbrev nO(g1:FuncId)(e1:a_ V)(p1:cz->bt Bool)(a:nk Sy cL g1 [] e1 (λz:cz=>[enc z]) (λr:Bool=>[.bool r]) p1 true)(B:Sl cz):Fc Sy cL (fL B p1):=Fc.M 23 [enc B,.clo g1 [] e1] (bT (F:=uU g1 e1 p1 a B) 9 λu _=>bA)
namespace fB
def bG(D:Sl Zn)(G:Int)(B:Int)(p1:Zn->bt Zl):bt (Fw Int Unit Int):=bE (decide (B<G)) ((idx D B).bind λu=>(p1 u).bind λw=>bE w (some (.r B)) (some (.n (wrap .i64 (B+1))))) (some (.x ()))
def W1(B:Sl Zn)(D G:Int)(p1:Zn->bt Zl):Z6:=(b8 (λq:Int=>bG B D q p1) G).bind (Fw.elim (λe=>some (-1)) (λe=>some e))
end fB
def fB(B:Sl Zn)(p1:Zn->bt Zl):Z6:=fB.W1 B (len B) 0 p1
open fB in
abbrev uR(g1:FuncId)(e1:a_ V)(p1:Event->bt Bool)(a:nk Sy cL g1 [] e1 (λz:Event=>[enc z]) (λr:Bool=>[.bool r]) p1 true)(B:Sl Event):Fc Sy cL (fB B p1):=Fc.M 49 [enc B,.clo g1 [] e1] (b_ 9 B (ey 5 (λw=>(bS [Cv 0 B,(1,.v (.clo g1 [] e1)),Iv 7 (len B),Iv 8 w] [])) (λu=>(0,(bS [] []))) (λu=>(bS [Iv 4 u] [])) (λw=>bK 7 9 (bU 16 λC _=>vm 1 a.f C λD _=>bK 2 16 bA bA) bA) (λu=>bA) (λu=>bA)))
def gJ(B:Sl Zn)(p1:Zn->bt Zl):bt Zl:=(fB B p1).bind λu=>some (decide (u>=0))
abbrev nj(g1:FuncId)(e1:a_ V)(p1:Event->bt Bool)(a:nk Sy cL g1 [] e1 (λz:Event=>[enc z]) (λr:Bool=>[.bool r]) p1 true)(B:Sl Event):Fc Sy cL (gJ B p1):=Fc.M 25 [enc B,.clo g1 [] e1] (bT (F:=uR g1 e1 p1 a B) 9 λu _=>bA)
def nF(e0:Zn):bt Zl:=some (decide ((len e0.assign)>20))
instance KD(e0:Zn):Fc Sy cL (nF e0):=Fc.M 26 [enc e0] (ec 2 1 e0 (b_ 7 e0.assign bA))
def lI(B:cz):bt Zl:=(bE (decide ((len B.events)>40)) (some true) (some (decide ((len B.vars)>20))):bt Zl).bind λu=>(bE u (some true) ((gJ B.events (λz=>nF z)).bind λw=>some w):bt Zl).bind λC=>some C
instance OZ(B:cz):Fc Sy cL (lI B):=Fc.M 24 [enc B] (ec 2 1 B (b_ 7 B.events (ck 2 5 [7] 12 (bK 2 7 (bH 5) (b_ 2 B.vars (bH 2))) λu=>ck 1 4 [1,13] 17 (bK 1 13 (bH 4) (bT (F:=nj 26 [] (λz=>nF z) nk.uC B.events) 2 λw _=>bH 1)) λC=>bA)))
namespace iR
def bG(G:Sl cz)(J:Int)(O:Zj)(D B:Int):bt (Fw (Int×Int) Int Empty):=bE (decide (B<J)) ((idx G B).bind λu=>some (.n (wrap .i64 (D+(len u.events)),wrap .i64 (B+1)))) (some (.x D))
def W1(G:Int)(J:Sl cz)(O U:Int)(B:Zj):bt Zl:=(b8 (λq:Int×Int=>bG J O B q.1 q.2) (G,U)).bind (Fw.elim (λe=>(bE (decide (e>30)) (some (!(e==36))) (some false):bt Zl).bind λu=>(bE u (some true) (some (decide ((len B.procs)>10))):bt Zl).bind λw=>(bE w (some true) ((fL B.procs (λz=>lI z)).bind λC=>some C):bt Zl).bind λD=>some D) (λe=>elim e))
end iR
def iR(B:Zj):bt Zl:=iR.W1 0 B.procs (len B.procs) 0 B
open iR in
instance Q8(B:Zj):Fc Sy cL (iR B):=Fc.M 5 [enc B] (ec 2 1 B (b_ 13 B.procs (jN 5 (λu=>(bS [Pv 1,Iv 3 u.1,Cv 7 B.procs,Iv 8 (len B.procs),Iv 9 u.2] [Xb 1 B])) (λw=>(0,(bS [Pv 1,Iv 3 w] [Xb 1 B]))) (λu=>bK 7 10 (bU 7 λC _=>oW 2 5 0 C (b_ 6 C.events bA)) bA) (λw=>ck 7 3 [3,21] 24 (bK 7 21 (bH 3) (bH 3)) λD=>ck 1 5 [25] 30 (bK 1 25 (bH 5) (b_ 2 B.procs (bH 2))) λG=>ck 1 4 [1,31] 35 (bK 1 31 (bH 4) (bT (F:=nO 24 [] (λz=>lI z) nk.uC B.procs) 2 λI _=>bH 1)) λJ=>bA))))
def nT(B:Int):bt Zl:=(bE (decide (B>=65)) (some (decide (B<=90))) (some false):bt Zl).bind λu=>(bE u (some true) ((bE (decide (B>=97)) (some (decide (B<=122))) (some false):bt Zl).bind λw=>some w):bt Zl).bind λz=>some z
instance N_(B:Int):Fc Sy cL (nT B):=Fc.M 96 [.int .u8 B] (ck 10 3 [5] 8 (bK 10 5 (bH 3) (bH 3)) λu=>ck 1 7 [0,9] 16 (bK 1 9 (bH 7) (ck 3 3 [0,12] 15 (bK 3 12 (bH 3) (bH 3)) λw=>bH 1)) λz=>bA)
def rL(B:Int):bt Zl:=(bE (decide (B>=48)) (some (decide (B<=57))) (some false):bt Zl).bind λu=>some u
instance O6(B:Int):Fc Sy cL (rL B):=Fc.M 97 [.int .u8 B] (ck 10 3 [0,5] 8 (bK 10 5 (bH 3) (bH 3)) λu=>bA)
namespace gA
def bG(B:Zq)(i3:Int):bt (Fw Int Unit Unit):=bE (decide (i3<((ByteArray.size B:Nat):Int))) ((kf B i3).bind λz=>(nT z).bind λC=>(bE C (some false) ((kf B i3).bind λD=>(rL D).bind λG=>some (!G)):bt Zl).bind λI=>(bE I ((kf B i3).bind λu=>some (!(u==95))) (some false):bt Zl).bind λw=>bE w (some (.r ())) (some (.n (wrap .i64 (i3+1))))) (some (.x ()))
def W1(B:Zq)(i3:Int):bt Zl:=(b8 (λq:Int=>bG B q) i3).bind (Fw.elim (λe=>some true) (λe=>some false))
end gA
def gA(B:Zq):bt Zl:=(bE (decide (((ByteArray.size B:Nat):Int)<1)) (some true) (some (decide (((ByteArray.size B:Nat):Int)>16))):bt Zl).bind λu=>(bE u (some true) ((kf B 0).bind λw=>(nT w).bind λz=>some (!z)):bt Zl).bind λC=>bE C (some false) (gA.W1 B 1)
open gA in
instance QT(B:Zq):Fc Sy cL (gA B):=Fc.M 70 [.str B] (ck 12 4 [7] 11 (bK 12 7 (bH 4) (bH 4)) λD=>ck 1 5 [12] 17 (bK 1 12 (bH 5) (zg 1 .i64 λG _=>bT 0 λI _=>bH 2)) λJ=>bK 2 17 bA (ey 11 (λw=>(bS [(0,.v (.str B)),Iv 3 w] [])) (λu=>(0,(bS [] []))) (λu=>(bS [Bv 2 false] [])) (λw=>bK 10 21 (zg 9 .i64 λL _=>bT 0 λO _=>ck 2 6 [29] 35 (ez 2 29 (bH 6) (zg 2 .i64 λQ _=>bT 0 λS _=>bH 2)) λT=>ck 1 5 [36] 41 (bK 1 36 (zg 2 .i64 λz _=>bH 2) (bH 5)) λC=>bK 2 41 bA bA) bA) (λu=>bA) (λu=>bA)))
def o5(B:Int):bt Zl:=(bE (decide (B>=(-1073741824))) (some (decide (B<=1073741824))) (some false):bt Zl).bind λu=>some u
instance QD(B:Int):Fc Sy cL (o5 B):=Fc.M 71 [.int .i64 B] (ck 10 3 [0,5] 8 (bK 10 5 (bH 3) (bH 3)) λu=>bA)
namespace eo
def eP(G:Int)(B:cz)(D:Int):bt (Fw Int Unit Unit):=bE (decide (D<G)) ((idx B.vars D).bind λu=>(idx B.vars G).bind λw=>bE (toList u.name==toList w.name) (some (.r ())) (some (.n (wrap .i64 (D+1))))) (some (.x ()))
def W3(D G:Int)(B:cz):bt (Fw Int Unit Int):=(b8 (λq:Int=>eP D B q) G).bind (Fw.elim (λe=>(idx B.vars D).bind λu=>(o5 u.init_).bind λw=>bE w (some (.n (wrap .i64 (D+1)))) (some (.r 2))) (λe=>some (.r 13)))
def ct(B:cz)(D:Int):bt (Fw Int Unit Int):=bE (decide (D<(len B.vars))) ((idx B.vars D).bind λu=>(gA u.name).bind λw=>bE w (W3 D 0 B) (some (.r 13))) (some (.x ()))
def W2(D:Int)(B:cz):Z6:=(b8 (λq:Int=>ct B q) D).bind (Fw.elim (λe=>bE (decide ((len B.events)>64)) (some 5) (some 0)) (λe=>some e))
def bG(p1:Int)(B:Zj)(D:cz)(G:Int):bt (Fw Int Unit Unit):=bE (decide (G<p1)) ((idx B.procs G).bind λu=>bE (toList u.name==toList D.name) (some (.r ())) (some (.n (wrap .i64 (G+1))))) (some (.x ()))
def W1(p1 G:Int)(D:Zj)(B:cz):Z6:=(b8 (λq:Int=>bG p1 D B q) G).bind (Fw.elim (λe=>bE (decide ((len B.vars)>8)) (some 5) (eo.W2 0 B)) (λe=>some 13))
end eo
def eo(B:Zj)(p1:Int):Z6:=(idx B.procs p1).bind λu=>(gA u.name).bind λw=>bE w (eo.W1 p1 0 B u) (some 13)
open eo in
instance Q0(J:Zj)(p1:Int):Fc Sy cL (eo J p1):=Fc.M 50 [enc J,.int .i64 p1] (ec 2 2 J (bU 8 λu _=>oW 2 5 0 u (bT 7 λI _=>ez 3 17 (ey 11 (λD=>(bS [Iv 1 p1,Pv 2,Pv 5,Iv 6 D] [Xb 2 J,Xb 5 u])) (λB=>(0,(bS [Pv 5] [Xb 5 u]))) (λB=>(bS [Iv 4 13] [])) (λD=>bK 9 20 (bU 10 λL _=>bK 7 31 bA bA) bA) (λB=>b_ 7 u.vars (bK 3 35 bA (ey 11 (λw=>(bS [Pv 5,Iv 7 w] [Xb 5 u])) (λz=>(2,(bS [Pv 5] [Xb 5 u]))) (λz=>(bS [Iv 4 z] [])) (λw=>b_ 7 u.vars (bK 3 40 (bU 11 λO _=>bT 2 λQ _=>ez 3 50 (ey 11 (λG=>(bS [Pv 5,Iv 7 w,Iv 8 G] [Xb 5 u])) (λC=>(4,(bS [Pv 5,Iv 7 w] [Xb 5 u]))) (λC=>(bS [Iv 4 13] [])) (λG=>bK 9 53 (bU 10 λS _=>bU 5 λT _=>bK 5 68 bA bA) bA) (λC=>bU 7 λU _=>bT 2 λW _=>ez 3 76 bA bA) (λC=>bA)) bA) bA)) (λz=>b_ 7 u.events (bK 3 80 bA bA)) (λz=>bA)))) (λB=>bA)) bA)))
namespace en
def eP(p1 k8:Int)(J:Zj)(D:Zn)(G:Assign)(B:Int):bt (Fw Int Unit Unit):=bE (decide (B<k8)) ((idx D.assign B).bind λu=>bE (u.var==G.var) (some (.r ())) (some (.n (wrap .i64 (B+1))))) (some (.x ()))
def W3(p1 k8 B:Int)(D:Zj)(G:Zn)(J:Assign):bt (Fw Int Unit Int):=(b8 (λq:Int=>eP p1 k8 D G J q) B).bind (Fw.elim (λe=>some (.n (wrap .i64 (k8+1)))) (λe=>some (.r 8)))
def ct(p1:Int)(D:Zj)(B:Zn)(k8:Int):bt (Fw Int Unit Int):=bE (decide (k8<(len B.assign))) ((idx B.assign k8).bind λu=>(bE (decide (u.var<0)) (some true) ((idx D.procs p1).bind λw=>some (decide (u.var>=(len w.vars)))):bt Zl).bind λz=>(bE z (some true) ((o5 u.value).bind λC=>some (!C)):bt Zl).bind λG=>bE G (some (.r 2)) (W3 p1 k8 0 D B u)) (some (.x ()))
def W2(p1 k8:Int)(B:Zj)(D:Zn):Z6:=(b8 (λq:Int=>ct p1 B D q) k8).bind (Fw.elim (λe=>some 0) (λe=>some e))
def J1(p1 i2:Int)(D:Zj)(B:Zn):Z6:=(bE (decide (B.time<0)) (some true) (some (decide (B.time>1099511627776))):bt Zl).bind λu=>(bE u (some true) ((bE (decide (i2>0)) ((idx D.procs p1).bind λw=>(idx w.events (wrap .i64 (i2-1))).bind λz=>some (decide (B.time<z.time))) (some false):bt Zl).bind λC=>some C):bt Zl).bind λG=>bE G (some 11) (bE (decide ((len B.assign)>8)) (some 5) (en.W2 p1 0 D B))
theorem vq(p1 i2:Int)(D:Zj)(B:Zn):Le ((J1 p1 i2 D B).bind (λr=>some [.int .i64 r])) (cF Sy cL (qB (tr Tx 51)) (tH (tb Tx 51) [1,1,1,0] [] (bS [Iv 1 p1,Iv 2 i2,Pv 3,Pv 7] [Xb 3 D,Xb 7 B]))):=ck 7 4 [71] 75 (bK 7 71 (bH 4) (bH 4)) λL=>ck 1 19 [2,76] 95 (bK 1 76 (bH 19) (ck 3 15 [2,79] 94 (bK 3 79 (bU 5 λO _=>bU 4 λQ _=>bH 4) (bH 15)) λS=>bH 1)) λT=>bK 2 95 bA (b_ 8 B.assign (bK 3 99 bA (ey 11 (λu=>(bS [Iv 1 p1,Pv 3,Pv 7,Iv 8 u] [Xb 3 D,Xb 7 B])) (λw=>(0,(bS [] []))) (λw=>(bS [Iv 6 w] [])) (λu=>b_ 7 B.assign (bK 3 104 (bU 10 λz _=>ck 12 11 [115] 126 (bK 12 115 (bH 11) (bU 5 λI _=>b_ 2 I.vars (bH 2))) λU=>uc 1 5 [130] (λC=>(bS [Iv 1 p1,Pv 3,Pv 7,Iv 8 u,Bv 104 true,Pv 9,Bv 132 C] [Xb 3 D,Xb 7 B,Xb 9 z])) (bK 1 127 (bH 5) (kr 2 λW _=>bH 2)) λC=>bK 2 132 bA (ey 10 (λJ=>(bS [Iv 1 p1,Pv 3,Pv 7,Iv 8 u,Pv 9,Iv 10 J] [Xb 3 D,Xb 7 B,Xb 9 z])) (λG=>(2,(bS [Iv 1 p1,Pv 3,Pv 7,Iv 8 u] [Xb 3 D,Xb 7 B]))) (λG=>(bS [Iv 6 8] [])) (λJ=>bK 9 135 (bU 10 λX _=>bK 7 146 bA bA) bA) (λG=>bA) (λG=>bA))) bA)) (λw=>bA) (λw=>bA))))
end en
def en(B:Zj)(p1 i2:Int):Z6:=(idx B.procs p1).bind λw=>(idx w.events i2).bind λu=>bE (u.kind==1) ((bE (u.peer==0) (some (!(u.message==0))) (some true):bt Zl).bind λz=>bE z (some 3) (en.J1 p1 i2 B u)) ((bE (u.kind==2) (some false) (some (!(u.kind==3))):bt Zl).bind λC=>(bE C (some true) (some (decide (u.peer<0))):bt Zl).bind λD=>(bE D (some true) (some (decide (u.peer>=(len B.procs)))):bt Zl).bind λG=>(bE G (some true) (some (u.peer==p1)):bt Zl).bind λI=>(bE I (some true) (some (decide (u.message<0))):bt Zl).bind λJ=>(bE J (some true) (some (decide (u.message>199))):bt Zl).bind λL=>bE L (some 3) (en.J1 p1 i2 B u))
open en in
instance QN(B:Zj)(p1 i2:Int):Fc Sy cL (en B p1 i2):=Fc.M 51 [enc B,.int .i64 p1,.int .i64 i2] (ec 2 3 B (bU 8 λw _=>bU 3 λu _=>oW 2 7 0 u (bK 10 22 (ck 7 4 [26] 30 (ez 7 26 (bH 4) (bH 4)) λz=>bK 2 30 bA (CB 4 (vq p1 i2 B u))) (ck 7 4 [34] 38 (ez 7 34 (bH 4) (bH 4)) λC=>ck 1 4 [39] 43 (bK 1 39 (bH 4) (bH 4)) λD=>ck 1 7 [44] 51 (bK 1 44 (bH 7) (b_ 4 B.procs (bH 2))) λG=>ck 1 5 [52] 57 (bK 1 52 (bH 5) (bH 5)) λI=>ck 1 4 [58] 62 (bK 1 58 (bH 4) (bH 4)) λJ=>ck 1 4 [63] 67 (bK 1 63 (bH 4) (bH 4)) λL=>bK 2 67 bA (CB 4 (vq p1 i2 B u))))))
namespace gZ
def bG(G:Zj)(J:bu)(D:Zn)(B:Zl)(O:Int):bt (Fw (Zl×Int) Bool Empty):=(idx G.procs D.peer).bind λw=>bE (decide (O<(len w.events))) ((idx G.procs D.peer).bind λz=>(idx z.events O).bind λu=>(bE B (some true) ((bE (u.kind==2) (some (u.message==D.message)) (some false):bt Zl).bind λC=>(bE C (some (u.peer==J.proc)) (some false):bt Zl).bind λI=>some I):bt Zl).bind λL=>some (.n (L,wrap .i64 (O+1)))) (some (.x B))
def W1(B:Zl)(O:Int)(D:Zj)(G:bu)(J:Zn):Z6:=(b8 (λq:Zl×Int=>bG D G J q.1 q.2) (B,O)).bind (Fw.elim (λe=>bE e (some 0) (some 7)) (λe=>elim e))
end gZ
def gZ(B:Zj)(D:bu):Z6:=(tj B D).bind λu=>bE (u.kind==1) (some 0) ((dN B u.kind u.message).bind λw=>bE (HE w D) (bE (u.kind==3) (gZ.W1 false 0 B D u) (some 0)) (some 8))
open gZ in
instance Oc(B:Zj)(D:bu):Fc Sy cL (gZ B D):=Fc.M 52 [enc B,enc D] (ec 2 2 B (bT 8 λw _=>oW 1 5 0 w (bK 10 14 bA (kr 11 λI _=>ez 4 22 (bK 11 25 (jN 14 (λu=>(bS [Pv 2,Pv 3,Pv 5,Bv 6 u.1,Iv 7 u.2] [Xb 2 B,Xb 3 D,Xb 5 w])) (λz=>(0,(bS [Bv 6 z] []))) (λu=>bU 9 λC _=>b_ 2 C.events (bK 3 35 (bU 11 λJ _=>bU 3 λG _=>oW 2 8 0 G (ck 5 18 [8,49] 67 (bK 5 49 (bH 18) (ck 4 6 [53] 59 (bK 4 53 (bH 6) (bH 6)) λL=>ck 1 6 [8,60] 66 (bK 1 60 (bH 6) (bH 6)) λO=>bH 1)) λQ=>bA)) bA)) (λz=>ez 8 69 bA bA)) bA) bA))))
namespace eE
def J4(B:Zg)(p5:Int)(D:Zj):bt (Fw ((Zg)×Zl) ((Zg)×Zl) Empty):=(Sl.l_ B p5).bind λu=>(Sl.get B u).bind λw=>(Sl.l_ B p5).bind λz=>(Sl.put B z (wrap .i64 (w+1):Int)).bind λC=>some (.n (C,true))
def eP(p5:Int)(G:Zj)(B:Zg)(D:Zl):bt (Fw ((Zg)×Zl) ((Zg)×Zl) Empty):=(Sl.l_ B p5).bind λI=>(Sl.get B I).bind λJ=>(idx G.procs p5).bind λL=>bE (decide (J<(len L.events))) ((idx G.procs p5).bind λO=>(Sl.l_ B p5).bind λQ=>(Sl.get B Q).bind λS=>(idx O.events S).bind λu=>bE (u.kind==3) ((dN G 2 u.message).bind λw=>(Sl.l_ B w.proc).bind λz=>(Sl.get B z).bind λC=>bE (decide (C<w.index)) (some (.x (B,D))) (J4 B p5 G)) (J4 B p5 G)) (some (.x (B,D)))
def W3(D:Zg)(B:Zl)(p5:Int)(G:Zj):bt (Fw ((Zg)×Zl×Int) ((Zg)×Zl) Empty):=(b8 (λq:(Zg)×Zl=>eP p5 G q.1 q.2) (D,B)).bind (Fw.elim (λe=>some (.n (e.1,e.2,wrap .i64 (p5+1)))) (λe=>elim e))
def ct(G:Zj)(D:Zg)(B:Zl)(p5:Int):bt (Fw ((Zg)×Zl×Int) ((Zg)×Zl) Empty):=bE (decide (p5<(len G.procs))) (W3 D B p5 G) (some (.x (D,B)))
def W2(D:Zg)(B:Zl)(p5:Int)(G:Zj):bt (Fw Zg Zg Empty):=(b8 (λq:(Zg)×Zl×Int=>ct G q.1 q.2.1 q.2.2) (D,B,p5)).bind (Fw.elim (λe=>bE e.2 (some (.n e.1)) (some (.x e.1))) (λe=>elim e))
def wh(B:Zg)(D:Zj)(G:Int):bt (Fw Int Unit Unit):=bE (decide (G<(len D.procs))) ((Sl.l_ B G).bind λu=>(Sl.get B u).bind λw=>(idx D.procs G).bind λz=>bE (decide (w<(len z.events))) (some (.r ())) (some (.n (wrap .i64 (G+1))))) (some (.x ()))
def W5(B:Zg)(G:Int)(D:Zj):bt Zl:=(b8 (λq:Int=>wh B D q) G).bind (Fw.elim (λe=>some true) (λe=>some false))
def bG(D:Zj)(B:Zg):bt (Fw Zg Zg Empty):=W2 B false 0 D
def W1(B:Zg)(D:Zj):bt Zl:=(b8 (λq:Zg=>bG D q) B).bind (Fw.elim (λe=>eE.W5 e 0 D) (λe=>elim e))
end eE
def eE(B:Zj):bt Zl:=(qw (len B.procs) (0:Int)).bind λu=>eE.W1 u B
open eE in
instance Nr(B:Zj):Fc Sy cL (eE B):=Fc.M 53 [enc B] (ec 2 1 B (b_ 7 B.procs (HO 0 12 λb _=>jN 7 (λO=>(bS [Pv 1,Ov 3] [Xb 1 B,Lb 2003 O])) (λD=>(0,(bS [Pv 1,Ov 3] [Xb 1 B,Lb 2003 D]))) (λO=>jN 17 (λw=>(bS [Pv 1,Ov 3,Bv 4 w.2.1,Iv 5 w.2.2] [Xb 1 B,Lb 2003 w.1])) (λG=>(2,(bS [Pv 1,Ov 3,Bv 4 G.2] [Xb 1 B,Lb 2003 G.1]))) (λw=>b_ 8 B.procs (bK 3 17 (jN 8 (λI=>(bS [Pv 1,Ov 3,Bv 4 I.2,Iv 5 w.2.2] [Xb 1 B,Lb 2003 I.1])) (λJ=>(4,(bS [Pv 1,Ov 3,Bv 4 J.2,Iv 5 w.2.2] [Xb 1 B,Lb 2003 J.1]))) (λI=>mR .i64 7 2003 λc _=>uy 0 2003 0 1 false (λQ=>.int .i64 Q) λQ _=>bU 3 λZ _=>b_ 2 Z.events (bK 3 31 (bU 9 λd _=>mR .i64 4 2003 λe _=>uy 0 2003 0 1 false (λS=>.int .i64 S) λS _=>bU 0 λa _=>oW 2 6 0 a (bK 10 46 (bT 6 λf _=>mR .i64 9 2003 λg _=>uy 0 2003 0 1 false (λz=>.int .i64 z) λz _=>bK 5 58 bA (yE 5 (mR .i64 4 2003 λT _=>uy 0 2003 0 1 false (λu=>.int .i64 u) λu _=>mR .i64 1 2003 λU _=>wX 0 2003 (.int .i64 (wrap .i64 (u+1))) λW _=>bA))) (yE 5 (mR .i64 4 2003 λT _=>uy 0 2003 0 1 false (λu=>.int .i64 u) λu _=>mR .i64 1 2003 λU _=>wX 0 2003 (.int .i64 (wrap .i64 (u+1))) λW _=>bA)))) bA)) (λJ=>bA)) bA)) (λG=>ez 8 66 bA bA)) (λD=>ey 11 (λX=>(bS [Pv 1,Ov 3,Iv 8 X] [Xb 1 B,Lb 2003 D])) (λL=>(6,(bS [] []))) (λL=>(bS [Bv 2 false] [])) (λX=>b_ 8 B.procs (bK 3 71 (mR .i64 9 2003 λh _=>uy 0 2003 0 1 false (λC=>.int .i64 C) λC _=>bU 3 λY _=>b_ 2 Y.events (bK 3 85 bA bA)) bA)) (λL=>bA) (λL=>bA)))))
instance QZ(t:Zj)(x:bu):Fc Sy cL (mw t x):=Fc.of (A:=λz:Zj×bu=>[enc z.1,enc z.2]) (E:=λr:Sl (Sl Zl)=>[enc r]) (p:=λz=>mw z.1 z.2) (n:=54) (z:=(t,x)) (kz.Rr Zf Zf (λz r a=>MJ z.1 z.2 r a))
namespace dc
def eP(p6:Int)(B:Zj)(G:bu)(D:Int):bt (Fw Int Unit (Int×bu)):=(idx B.procs p6).bind λw=>bE (decide (D<(len w.events))) ((en B p6 D).bind λu=>bE (u==0) (some (.n (wrap .i64 (D+1)))) (some (.r (u,(⟨p6,wrap .i64 (D+1)⟩:bu))))) (some (.x ()))
def W3(p6 G:Int)(B:Zj)(D:bu):bt (Fw Int Unit (Int×bu)):=(b8 (λq:Int=>eP p6 B D q) G).bind (Fw.elim (λe=>some (.n (wrap .i64 (p6+1)))) (λe=>some (.r (e.1,e.2))))
def wh(G:Int)(D:Zj)(J:bu)(B:Int):bt (Fw Int Unit (Int×bu)):=(idx D.procs G).bind λw=>bE (decide (B<(len w.events))) ((gZ D (⟨G,wrap .i64 (B+1)⟩:bu)).bind λu=>bE (u==0) (some (.n (wrap .i64 (B+1)))) (some (.r (u,(⟨G,wrap .i64 (B+1)⟩:bu))))) (some (.x ()))
def W5(J B:Int)(D:Zj)(G:bu):bt (Fw Int Unit (Int×bu)):=(b8 (λq:Int=>wh J D G q) B).bind (Fw.elim (λe=>some (.n (wrap .i64 (J+1)))) (λe=>some (.r (e.1,e.2))))
def Hy(D:Int)(G:Zj)(J:bu)(B:Int):bt (Fw Int Unit bu):=(idx G.procs D).bind λw=>bE (decide (B<(len w.events))) ((mw G (⟨D,wrap .i64 (B+1)⟩:bu)).bind λz=>(idx z D).bind λC=>(idx C (wrap .i64 (B+1))).bind λu=>bE u (some (.r (⟨D,wrap .i64 (B+1)⟩:bu))) (some (.n (wrap .i64 (B+1))))) (some (.x ()))
def W7(B D:Int)(G:Zj)(J:bu):bt (Fw Int Unit bu):=(b8 (λq:Int=>Hy B G J q) D).bind (Fw.elim (λe=>some (.n (wrap .i64 (B+1)))) (λe=>some (.r e)))
def H_(B:Zj)(G:bu)(D:Int):bt (Fw Int Unit bu):=bE (decide (D<(len B.procs))) (W7 D 0 B G) (some (.x ()))
def W6(B:Int)(D:Zj)(G:bu):bt (bu×Int):=(b8 (λq:Int=>H_ D G q) B).bind (Fw.elim (λe=>some (⟨0,0⟩,0)) (λe=>some (e,10)))
def Hw(B:Zj)(D:bu)(G:Int):bt (Fw Int Unit (Int×bu)):=bE (decide (G<(len B.procs))) (W5 G 0 B D) (some (.x ()))
def W4(G:Int)(B:Zj)(D:bu):bt (bu×Int):=(b8 (λq:Int=>Hw B D q) G).bind (Fw.elim (λe=>(eE B).bind λu=>bE u (some (⟨0,0⟩,0)) (dc.W6 0 B D)) (λe=>some (e.2,e.1)))
def ct(B:Zj)(D:bu)(p6:Int):bt (Fw Int Unit (Int×bu)):=bE (decide (p6<(len B.procs))) (W3 p6 0 B D) (some (.x ()))
def W2(p6:Int)(B:Zj)(D:bu):bt (bu×Int):=(b8 (λq:Int=>ct B D q) p6).bind (Fw.elim (λe=>dc.W4 0 B D) (λe=>some (e.2,e.1)))
def bG(B:Zj)(D:bu)(p4:Int):bt (Fw Int Unit (Int×bu)):=bE (decide (p4<(len B.procs))) ((eo B p4).bind λu=>bE (u==0) (some (.n (wrap .i64 (p4+1)))) (some (.r (u,(⟨p4,0⟩:bu))))) (some (.x ()))
def W1(p4:Int)(B:Zj)(D:bu):bt (bu×Int):=(b8 (λq:Int=>bG B D q) p4).bind (Fw.elim (λe=>dc.W2 0 B D) (λe=>some (e.2,e.1)))
end dc
def dc(B:Zj):bt (bu×Int):=(bE (decide ((len B.procs)<1)) (some true) (some (decide ((len B.procs)>8))):bt Zl).bind λu=>bE u (some (⟨0,0⟩,1)) (dc.W1 0 B (⟨0,0⟩:bu))
open dc in
instance PO(B:Zj):Fc Sy cL (dc B):=Fc.M 27 [enc B] (ec 2 1 B (b_ 9 B.procs (ck 2 5 [20] 25 (bK 2 20 (bH 5) (b_ 2 B.procs (bH 2))) λa=>bK 2 25 bA (ey 11 (λQ=>(bS [Pv 1,Pv 2,Iv 4 Q] [Xb 1 B,Xb 2 (⟨0,0⟩:bu)])) (λu=>(0,(bS [Pv 1,Pv 2] [Xb 1 B,Xb 2 (⟨0,0⟩:bu)]))) (λu=>(bS [Pv 2,Iv 3 u.1] [Xb 2 u.2])) (λQ=>b_ 7 B.procs (bK 3 31 (bT 9 λb _=>ez 9 38 bA bA) bA)) (λu=>ey 10 (λG=>(bS [Pv 1,Pv 2,Iv 6 G] [Xb 1 B,Xb 2 (⟨0,0⟩:bu)])) (λw=>(2,(bS [Pv 1,Pv 2] [Xb 1 B,Xb 2 (⟨0,0⟩:bu)]))) (λw=>(bS [Pv 2,Iv 3 w.1] [Xb 2 w.2])) (λG=>b_ 7 B.procs (bK 3 46 (ey 12 (λS=>(bS [Pv 1,Pv 2,Iv 6 G,Iv 7 S] [Xb 1 B,Xb 2 (⟨0,0⟩:bu)])) (λz=>(4,(bS [Pv 1,Pv 2,Iv 6 G] [Xb 1 B,Xb 2 (⟨0,0⟩:bu)]))) (λz=>(bS [Pv 2,Iv 3 z.1] [Xb 2 z.2])) (λS=>bU 8 λW _=>b_ 2 W.events (bK 3 57 (bT 10 λc _=>ez 9 65 bA bA) bA)) (λz=>bA) (λz=>bA)) bA)) (λw=>ey 10 (λI=>(bS [Pv 1,Pv 2,Iv 9 I] [Xb 1 B,Xb 2 (⟨0,0⟩:bu)])) (λC=>(6,(bS [Pv 1,Pv 2] [Xb 1 B,Xb 2 (⟨0,0⟩:bu)]))) (λC=>(bS [Pv 2,Iv 3 C.1] [Xb 2 C.2])) (λI=>b_ 7 B.procs (bK 3 75 (ey 12 (λT=>(bS [Pv 1,Pv 2,Iv 9 I,Iv 10 T] [Xb 1 B,Xb 2 (⟨0,0⟩:bu)])) (λD=>(8,(bS [Pv 1,Pv 2,Iv 9 I] [Xb 1 B,Xb 2 (⟨0,0⟩:bu)]))) (λD=>(bS [Pv 2,Iv 3 D.1] [Xb 2 D.2])) (λT=>bU 8 λX _=>b_ 2 X.events (bK 3 86 (bT 19 λd _=>ez 9 97 bA bA) bA)) (λD=>bA) (λD=>bA)) bA)) (λC=>bT 6 λZ _=>bK 2 101 bA (ey 11 (λJ=>(bS [Pv 1,Pv 2,Iv 13 J] [Xb 1 B,Xb 2 (⟨0,0⟩:bu)])) (λL=>(10,(bS [Pv 2] [Xb 2 (⟨0,0⟩:bu)]))) (λL=>(bS [Pv 2,Iv 3 10] [Xb 2 L])) (λJ=>b_ 7 B.procs (bK 3 107 (ey 12 (λU=>(bS [Pv 1,Pv 2,Iv 13 J,Iv 14 U] [Xb 1 B,Xb 2 (⟨0,0⟩:bu)])) (λO=>(12,(bS [Pv 1,Pv 2,Iv 13 J] [Xb 1 B,Xb 2 (⟨0,0⟩:bu)]))) (λO=>(bS [Pv 2,Iv 3 10] [Xb 2 O])) (λU=>bU 8 λY _=>b_ 2 Y.events (bK 3 118 (bT 19 λe _=>bU 1 λf _=>bU 3 λg _=>bK 3 134 bA bA) bA)) (λO=>bA) (λO=>bA)) bA)) (λL=>bA) (λL=>bA))) (λC=>bA)) (λw=>bA)) (λu=>bA)))))
def rT(B:Zj):bt Zl:=(dc B).bind λu=>some (u.2==0)
instance Ph(B:Zj):Fc Sy cL (rT B):=Fc.M 6 [enc B] (ec 2 1 B (bT 6 λu _=>bA))
def mm(G D B:Int):bt Zl:=(bE (decide (G>=D)) (some (decide (G<=B))) (some false):bt Zl).bind λu=>some u
instance SU(G D B:Int):Fc Sy cL (mm G D B):=Fc.M 78 [.int .i64 G,.int .i64 D,.int .i64 B] (ck 11 4 [0,2,10] 14 (bK 11 10 (bH 4) (bH 4)) λu=>bA)
def o6(B:Int):bt Zl:=(bE (decide (B>=97)) (some (decide (B<=122))) (some false):bt Zl).bind λu=>(bE u (some true) ((bE (decide (B>=65)) (some (decide (B<=90))) (some false):bt Zl).bind λw=>some w):bt Zl).bind λz=>some z
instance PT(B:Int):Fc Sy cL (o6 B):=Fc.M 140 [.int .u8 B] (ck 10 3 [5] 8 (bK 10 5 (bH 3) (bH 3)) λu=>ck 1 7 [0,9] 16 (bK 1 9 (bH 7) (ck 3 3 [0,12] 15 (bK 3 12 (bH 3) (bH 3)) λw=>bH 1)) λz=>bA)
def s9(B:Int):bt Zl:=(bE (decide (B>=48)) (some (decide (B<=57))) (some false):bt Zl).bind λu=>some u
instance Q1(B:Int):Fc Sy cL (s9 B):=Fc.M 141 [.int .u8 B] (ck 10 3 [0,5] 8 (bK 10 5 (bH 3) (bH 3)) λu=>bA)
namespace fJ
def bG(D:Zq)(G:Int)(B:Int):bt (Fw Int Unit Unit):=bE (decide (B<G)) ((kf D B).bind λz=>(o6 z).bind λC=>(bE C (some false) ((kf D B).bind λI=>(s9 I).bind λJ=>some (!J)):bt Zl).bind λL=>(bE L ((kf D B).bind λu=>some (!(u==95))) (some false):bt Zl).bind λw=>bE w (some (.r ())) (some (.n (wrap .i64 (B+1))))) (some (.x ()))
def W1(G:Zq)(B D:Int):bt Zl:=(b8 (λq:Int=>bG G B q) D).bind (Fw.elim (λe=>some true) (λe=>some false))
end fJ
def fJ(B:Zq):bt Zl:=(bE (toList B==toList ByteArray.empty) (some true) (some (decide (((ByteArray.size B:Nat):Int)>16))):bt Zl).bind λu=>(bE u (some true) ((kf B 0).bind λw=>(o6 w).bind λz=>some (!z)):bt Zl).bind λC=>bE C (some false) (fJ.W1 B ((ByteArray.size B:Nat):Int) 0)
open fJ in
instance P7(B:Zq):Fc Sy cL (fJ B):=Fc.M 106 [.str B] (ck 11 4 [6] 10 (bK 11 6 (bH 4) (bH 4)) λD=>ck 1 5 [11] 16 (bK 1 11 (bH 5) (zg 1 .i64 λG _=>bT 0 λI _=>bH 2)) λJ=>bK 2 16 bA (ey 13 (λw=>(bS [(0,.v (.str B)),Iv 18 ((ByteArray.size B:Nat):Int),Iv 19 w] [])) (λu=>(0,(bS [] []))) (λu=>(bS [Bv 2 false] [])) (λw=>bK 7 20 (zg 15 .i64 λL _=>bT 0 λO _=>ck 2 6 [27] 33 (ez 2 27 (bH 6) (zg 2 .i64 λQ _=>bT 0 λS _=>bH 2)) λT=>ck 1 5 [3,34] 39 (bK 1 34 (zg 2 .i64 λz _=>bH 2) (bH 5)) λC=>bK 2 39 bA bA) bA) (λu=>bA) (λu=>bA)))
def jc(B D:cz):bt Zl:=some (toList B.name==toList D.name)
instance GG(B D:cz):Fc Sy cL (jc B D):=Fc.M 107 [enc B,.fptr (cells D)] (ec 2 2 B bA)
def jd(B D:Var):bt Zl:=some (toList B.name==toList D.name)
instance GF(B D:Var):Fc Sy cL (jd B D):=Fc.M 109 [enc B,.fptr (cells D)] (bA)
namespace gm
def bG(D:Sl Var)(G:Int)(B:Int)(p1:Var->bt Zl):bt (Fw Int Unit Int):=bE (decide (B<G)) ((idx D B).bind λu=>(p1 u).bind λw=>bE w (some (.r B)) (some (.n (wrap .i64 (B+1))))) (some (.x ()))
def W1(B:Sl Var)(D G:Int)(p1:Var->bt Zl):Z6:=(b8 (λq:Int=>bG B D q p1) G).bind (Fw.elim (λe=>some (-1)) (λe=>some e))
end gm
def gm(B:Sl Var)(p1:Var->bt Zl):Z6:=gm.W1 B (len B) 0 p1
open gm in
abbrev vL(g1:FuncId)(e1:a_ V)(p1:Var->bt Bool)(a:nk Sy cL g1 [] e1 (λz:Var=>[enc z]) (λr:Bool=>[.bool r]) p1 true)(B:Sl Var):Fc Sy cL (gm B p1):=Fc.M 142 [enc B,.clo g1 [] e1] (b_ 9 B (ey 5 (λw=>(bS [Cv 0 B,(1,.v (.clo g1 [] e1)),Iv 7 (len B),Iv 8 w] [])) (λu=>(0,(bS [] []))) (λu=>(bS [Iv 4 u] [])) (λw=>bK 7 9 (bU 16 λC _=>vm 1 a.f C λD _=>bK 2 16 bA bA) bA) (λu=>bA) (λu=>bA)))
def ir(B:Sl Var)(p1:Var->bt Zl):bt Zl:=(gm B p1).bind λu=>some (decide (u>=0))
abbrev ug(g1:FuncId)(e1:a_ V)(p1:Var->bt Bool)(a:nk Sy cL g1 [] e1 (λz:Var=>[enc z]) (λr:Bool=>[.bool r]) p1 true)(B:Sl Var):Fc Sy cL (ir B p1):=Fc.M 108 [enc B,.clo g1 [] e1] (bT (F:=vL g1 e1 p1 a B) 9 λu _=>bA)
namespace eH
def bG(D:Sl Var)(G:Int)(J:cz)(B:Int):bt (Fw Int Unit Int):=bE (decide (B<G)) ((idx D B).bind λu=>(fJ u.name).bind λI=>(bE I ((jL J.vars none (some B)).bind λL=>(ir L (λz=>jd z u)).bind λO=>some O) (some true):bt Zl).bind λw=>bE w (some (.r 13)) ((mm u.init_ (-1073741824) 1073741824).bind λC=>bE C (some (.n (wrap .i64 (B+1)))) (some (.r 2)))) (some (.x ()))
def W1(D:Sl Var)(G J:Int)(B:cz):Z6:=(b8 (λq:Int=>bG D G B q) J).bind (Fw.elim (λe=>bE (decide ((len B.events)>64)) (some 5) (some 0)) (λe=>some e))
end eH
def eH(G:Zj)(p1:Int):Z6:=(idx G.procs p1).bind λu=>(fJ u.name).bind λw=>(bE w ((jL G.procs none (some p1)).bind λB=>(fL B (λz=>jc z u)).bind λC=>some C) (some true):bt Zl).bind λD=>bE D (some 13) (bE (decide ((len u.vars)>8)) (some 5) (eH.W1 u.vars (len u.vars) 0 u))
open eH in
instance JC(D:Zj)(p1:Int):Fc Sy cL (eH D p1):=Fc.M 79 [enc D,.int .i64 p1] (ec 2 2 D (bU 8 λu _=>oW 2 5 0 u (bT 8 λO _=>ck 2 7 [1,2,18] 25 (ez 2 18 (Iw 3 false true [.int .i64 p1] λG _=>kr (F:=nO 107 [.fptr (cells u)] (λz=>jc z u) nk.uC G) 1 λQ _=>bH 1) (bH 7)) λS=>bK 3 13 bA (b_ 5 u.vars (bK 4 26 bA (b_ 9 u.vars (ey 5 (λB=>(bS [Pv 5,Cv 32 u.vars,Iv 33 (len u.vars),Iv 34 B] [Xb 5 u])) (λw=>(1,(bS [Pv 5] [Xb 5 u]))) (λw=>(bS [Iv 4 w] [])) (λB=>bK 7 35 (bU 8 λC _=>bT 11 λT _=>ck 2 7 [6,44] 51 (ez 2 44 (Iw 3 false true [.int .i64 B] λI _=>kr (F:=ug 109 [.fptr (cells C)] (λz=>jd z C) nk.uC I) 1 λU _=>bH 1) (bH 7)) λJ=>bK 3 39 bA (bT 5 λL _=>ez 4 52 bA bA)) bA) (λw=>b_ 7 u.events (bK 3 61 bA bA)) (λw=>bA))))))))
def jy(B:Zj):bt Zj:=some B
instance P4(B:Zj):Fc Sy cL (jy B):=Fc.NE (λr:Zj=>[(.clo 110 [] [.fptr (cells r)])]) 80 [enc B] (ec 2 1 B bA)
namespace gW
def J1(p1:Int)(D:Zl)(G:Zj)(B:Zn):bt Zl:=bE D ((mm B.peer 0 (wrap .i64 ((len G.procs)-1))).bind λu=>(bE u (some (!(B.peer==p1))) (some false):bt Zl).bind λw=>(bE w ((mm B.message 0 199).bind λz=>some z) (some false):bt Zl).bind λC=>some C) (some false)
end gW
def gW(B:Zj)(p1:Int)(e2:Zn):bt Zl:=bE (e2.kind==1) ((bE (e2.peer==0) (some (e2.message==0)) (some false):bt Zl).bind λu=>some u) (bE (e2.kind==2) (gW.J1 p1 true B e2) (gW.J1 p1 (e2.kind==3) B e2))
open gW in
instance O9(B:Zj)(p1:Int)(e2:Zn):Fc Sy cL (gW B p1 e2):=Fc.M 111 [enc B,.int .i64 p1,enc e2] (ec 2 3 B (ec 0 5 e2 (bK 17 9 (ck 7 4 [5,14] 18 (bK 7 14 (bH 4) (bH 4)) λD=>bA) (bK 8 19 (yE 4 (bK 0 19 (b_ 7 B.procs (bT 1 λu _=>ck 1 5 [1,29] 34 (bK 1 29 (bH 5) (bH 5)) λw=>ck 1 4 [5,35] 39 (bK 1 35 (bT 2 λz _=>bH 1) (bH 4)) λC=>bA)) bA)) (yE 7 (bK 0 19 (b_ 7 B.procs (bT 1 λu _=>ck 1 5 [1,29] 34 (bK 1 29 (bH 5) (bH 5)) λw=>ck 1 4 [5,35] 39 (bK 1 35 (bT 2 λz _=>bH 1) (bH 4)) λC=>bA)) bA))))))
def jK(B D:Assign):bt Zl:=some (B.var==D.var)
instance Hr(B D:Assign):Fc Sy cL (jK B D):=Fc.M 113 [enc B,.fptr (cells D)] (bA)
namespace e8
def bG(D:Sl Assign)(G:Int)(B:Int)(p1:Assign->bt Zl):bt (Fw Int Unit Int):=bE (decide (B<G)) ((idx D B).bind λu=>(p1 u).bind λw=>bE w (some (.r B)) (some (.n (wrap .i64 (B+1))))) (some (.x ()))
def W1(B:Sl Assign)(D G:Int)(p1:Assign->bt Zl):Z6:=(b8 (λq:Int=>bG B D q p1) G).bind (Fw.elim (λe=>some (-1)) (λe=>some e))
end e8
def e8(B:Sl Assign)(p1:Assign->bt Zl):Z6:=e8.W1 B (len B) 0 p1
open e8 in
abbrev ud(g1:FuncId)(e1:a_ V)(p1:Assign->bt Bool)(a:nk Sy cL g1 [] e1 (λz:Assign=>[enc z]) (λr:Bool=>[.bool r]) p1 true)(B:Sl Assign):Fc Sy cL (e8 B p1):=Fc.M 143 [enc B,.clo g1 [] e1] (b_ 9 B (ey 5 (λw=>(bS [Cv 0 B,(1,.v (.clo g1 [] e1)),Iv 7 (len B),Iv 8 w] [])) (λu=>(0,(bS [] []))) (λu=>(bS [Iv 4 u] [])) (λw=>bK 7 9 (bU 16 λC _=>vm 1 a.f C λD _=>bK 2 16 bA bA) bA) (λu=>bA) (λu=>bA)))
def gy(B:Sl Assign)(p1:Assign->bt Zl):bt Zl:=(e8 B p1).bind λu=>some (decide (u>=0))
abbrev rX(g1:FuncId)(e1:a_ V)(p1:Assign->bt Bool)(a:nk Sy cL g1 [] e1 (λz:Assign=>[enc z]) (λr:Bool=>[.bool r]) p1 true)(B:Sl Assign):Fc Sy cL (gy B p1):=Fc.M 112 [enc B,.clo g1 [] e1] (bT (F:=ud g1 e1 p1 a B) 9 λu _=>bA)
namespace dI
def ct(D:Sl Assign)(G:Int)(J:Zn)(O:cz)(B:Int):bt (Fw Int Unit Int):=bE (decide (B<G)) ((idx D B).bind λu=>(mm u.var 0 (wrap .i64 ((len O.vars)-1))).bind λI=>(bE I ((mm u.value (-1073741824) 1073741824).bind λL=>some (!L)) (some true):bt Zl).bind λQ=>bE Q (some (.r 2)) ((jL J.assign none (some B)).bind λw=>(gy w (λz=>jK z u)).bind λC=>bE C (some (.r 8)) (some (.n (wrap .i64 (B+1)))))) (some (.x ()))
def W2(B:Sl Assign)(D G:Int)(J:Zn)(O:cz):Z6:=(b8 (λq:Int=>ct B D J O q) G).bind (Fw.elim (λe=>some 0) (λe=>some e))
def J1(D:Int)(J:Zj)(G:bu)(B:Zn)(O:cz):Z6:=(gW J G.proc B).bind λu=>bE u ((mm B.time 0 1099511627776).bind λw=>(bE w (some (decide (B.time<D))) (some true):bt Zl).bind λz=>bE z (some 11) (bE (decide ((len B.assign)>8)) (some 5) (dI.W2 B.assign (len B.assign) 0 B O))) (some 3)
theorem vq(D:Int)(O:Zj)(J:bu)(B:Zn)(G:cz):Le ((J1 D O J B G).bind (λr=>some [.int .i64 r])) (cF Sy cL (qB (tr Tx 81)) (tH (tb Tx 81) [1,1,1,1,0] [] (bS [Pv 3,Pv 4,Pv 5,Pv 7,Iv 8 D] [Xb 3 O,Xb 4 J,Xb 5 B,Xb 7 G]))):=bT 8 λQ _=>ez 4 28 (bT 5 λS _=>ck 2 5 [8,40] 45 (ez 2 40 (bH 5) (bH 5)) λT=>bK 3 35 bA (b_ 5 B.assign (bK 4 46 bA (b_ 9 B.assign (ey 5 (λw=>(bS [Pv 5,Pv 7,Cv 52 B.assign,Iv 53 (len B.assign),Iv 54 w] [Xb 5 B,Xb 7 G])) (λu=>(1,(bS [] []))) (λu=>(bS [Iv 6 u] [])) (λw=>bK 7 55 (bU 8 λC _=>b_ 13 G.vars (bT 1 λU _=>ck 2 5 [68] 73 (ez 2 68 (bT 2 λW _=>bH 2) (bH 5)) λX=>bK 3 59 bA (Iw 6 false true [.int .i64 w] λI _=>kr (F:=rX 113 [.fptr (cells C)] (λz=>jK z C) nk.uC I) 1 λL _=>bK 3 74 bA bA))) bA) (λu=>bA) (λu=>bA)))))) bA
end dI
def dI(D:Zj)(B:bu)(e2:Zn):Z6:=(idx D.procs B.proc).bind λu=>bE (decide (B.index>1)) ((idx u.events (wrap .i64 (B.index-2))).bind λw=>dI.J1 w.time D B e2 u) (dI.J1 0 D B e2 u)
open dI in
instance Li(D:Zj)(B:bu)(e2:Zn):Fc Sy cL (dI D B e2):=Fc.M 81 [enc D,enc B,enc e2] (ec 2 3 D (ec 1 5 e2 (bU 9 λu _=>oW 2 7 0 u (bK 15 19 (bU 7 λw _=>CB 6 (vq w.time D B e2 u)) (CB 4 (vq 0 D B e2 u))))))
def pM(e0:Zn)(B D:Int):bt Zl:=(bE (e0.kind==2) (some (e0.message==B)) (some false):bt Zl).bind λu=>(bE u (some (e0.peer==D)) (some false):bt Zl).bind λw=>some w
instance Nn(e0:Zn)(B D:Int):Fc Sy cL (pM e0 B D):=Fc.M 144 [enc e0,.fptr (cells B),.fptr (cells D)] (ec 2 3 e0 (ck 9 5 [1,8] 13 (bK 9 8 (bH 5) (bH 5)) λu=>ck 1 5 [2,3,14] 19 (bK 1 14 (bH 5) (bH 5)) λw=>bA))
def sX(D:Zj)(p1 G B:Int):bt Zl:=(idx D.procs p1).bind λu=>(gJ u.events (λz=>pM z G B)).bind λw=>some w
instance QL(G:Zj)(p1 D B:Int):Fc Sy cL (sX G p1 D B):=Fc.M 114 [enc G,.int .i64 p1,.int .i64 D,.int .i64 B] (ec 2 4 G (bU 10 λu _=>kr (F:=nj 144 [.fptr (cells D),.fptr (cells B)] (λz=>pM z D B) nk.uC u.events) 3 λw _=>bA))
namespace eM
def sx(D G:Zj)(J:bt (cB 200 bJ))(O:bu)(U:Int)(x:bu×Zn)(B:cB 200 bJ):bt (Fw (cB 200 bJ) Empty (bu×Int×(cB 200 bJ))):=bE (x.2.kind==2) ((cB.at B x.2.message).bind λu=>bE (decide (u.from_.index>0)) (some (.r (x.1,8,B))) ((cB.at B x.2.message).bind λw=>some (.n (cB.set B x.2.message (⟨x.1,w.to_⟩:bJ))))) (bE (x.2.kind==3) ((cB.at B x.2.message).bind λz=>bE (decide (z.to_.index>0)) (some (.r (x.1,8,B))) ((sX G x.2.peer x.2.message x.1.proc).bind λC=>bE C ((cB.at B x.2.message).bind λI=>some (.n (cB.set B x.2.message (⟨I.from_,x.1⟩:bJ)))) (some (.r (x.1,7,B))))) (some (.n B)))
def E1(B G:Zj)(J:bt (cB 200 bJ))(O:bu)(U:Int)(D:cB 200 bJ):bt ((bt (cB 200 bJ))×bu×Int):=(iH B).bind λu=>(nJ (λ(x:bu×Zn)(q:cB 200 bJ)=>sx B G J O U x q) u D).bind (Fw.uY (λq=>some (some q,⟨0,0⟩,0)) (λe=>elim e) (λe=>some ((none:bt (cB 200 bJ)),e.1,e.2.1)))
end eM
def eM(B:Zj):bt ((bt (cB 200 bJ))×bu×Int):=(jy B).bind λu=>eM.E1 u B (none:bt (cB 200 bJ)) (⟨0,0⟩:bu) 0 (cB.LR 200 (⟨⟨0,0⟩,⟨0,0⟩⟩:bJ))
open eM in
instance Ii(D:Zj):Fc Sy cL (eM D):=Fc.N 82 [enc D] (ec 2 1 D (ec 8 10 (cB.LR 200 (⟨⟨0,0⟩,⟨0,0⟩⟩:bJ)) (Rk 0 5 (bS [Pv 1,Pv 2,Pv 3,Pv 4,Pv 10] [Xb 1 D,(2,.box [cv (none:bt (cB 200 bJ))]),Xb 3 (⟨0,0⟩:bu),(4,.box [iv 0]),Xb 10 (cB.LR 200 (⟨⟨0,0⟩,⟨0,0⟩⟩:bJ))]) [cv (none:bt (cB 200 bJ))] (by simp only[bS,v8,pJ,qP,pG,qN,sK,qZ,sG,pQ,qR,wj,r_,sL,sM,sq,uu,uv,q9,rY];rfl) (bT 7 λB _=>I4 λO C=>Es 4 [Pv 1,Pv 2,Pv 3,Pv 4,Pv 5,(12,.v (.clo 110 [] [.fptr (cells B)]))] (λw=>[Xb 1 D,(2,.box [cv (none:bt (cB 200 bJ))]),Xb 3 (⟨0,0⟩:bu),(4,.box [iv 0]),(5,.box [.ptr 10 0]),Xb 10 w]) (λz=>elim z) (λz=>[Xb 1 D,(2,.box [cv (none:bt (cB 200 bJ))]),Xb 3 z.1,(4,.box [iv z.2.1]),(5,.box [.ptr 10 0]),Xb 10 z.2.2]) (wK B O C) (λu w=>Rk 2 6 ⟨[Pv 1,Pv 2,Pv 3,Pv 4,Pv 5,(12,.v (.clo 110 [] [.fptr (cells B)])),Cv 13 u.1,Cv 14 u.2],[Xb 1 D,(2,.box [cv (none:bt (cB 200 bJ))]),Xb 3 (⟨0,0⟩:bu),(4,.box [iv 0]),(5,.box [.ptr 10 0]),Xb 10 w],[1,2,3,4,5],[],true,0⟩ [iv 0,iv 0] (by simp only[bS,v8,pJ,qP,pG,qN,sK,qZ,sG,pQ,qR,wj,r_,sL,sM,sq,uu,uv,q9,rY];rfl) (Rk 4 7 ⟨[Pv 1,Pv 2,Pv 3,Pv 4,Pv 5,(12,.v (.clo 110 [] [.fptr (cells B)])),Cv 14 u.2,Pv 6],[Xb 1 D,(2,.box [cv (none:bt (cB 200 bJ))]),Xb 3 (⟨0,0⟩:bu),(4,.box [iv 0]),(5,.box [.ptr 10 0]),Xb 10 w,Xb 6 u.1],[1,2,3,4,5],[],true,0⟩ [iv 0,iv 0,iv 0,iv 0,.v .bL] (by simp only[bS,v8,pJ,qP,pG,qN,sK,qZ,sG,pQ,qR,wj,r_,sL,sM,sq,uu,uv,q9,rY];rfl) (oW 0 7 0 u.2 (Bf 1 (bK 22 19 (Eh 7 .i64 10 λG Q=>O2 2 1 false 10 w u.2.message 1 G Q (.int .i64 G.from_.index) (by rfl) (bK 3 28 bA (Eh 8 .i64 10 λI S=>Oa 1 10 w u.2.message 0 I S (⟨u.1,I.to_⟩:bJ) u.1 rfl bA))) (bK 7 36 (Eh 7 .i64 10 λJ T=>O2 2 1 false 10 w u.2.message 3 J T (.int .i64 J.to_.index) (by rfl) (bK 3 45 bA (bT 12 λW _=>ez 3 54 (Eh 8 .i64 10 λL U=>Oa 1 10 w u.2.message 2 L U (⟨L.from_,u.1⟩:bJ) u.1 rfl bA) bA))) bA)))))) (λw=>SX 13 (bS [Pv 2,Pv 3,Pv 4] [(2,.box [.ptr 10 0]),Xb 3 (⟨0,0⟩:bu),(4,.box [iv 0]),Xb 10 w]) [.ptr 10 0,cv (⟨0,0⟩:bu),iv 0] (Qm (d:=10) (x:=w) (vs:=[enc (⟨0,0⟩:bu),.int .i64 0]) Zf) Zf) (λx=>elim x) (λz=>bA)))))
namespace iI
def J1(D:cB 200 bJ)(B:Sl bu)(J:Sl Zn)(G:bu):bt (Sl bu):=(idx J (wrap .i64 (G.index-1))).bind λu=>(bE (u.kind==2) ((cB.at D u.message).bind λw=>some (decide (w.to_.index>0))) (some false):bt Zl).bind λz=>bE z ((cB.at D u.message).bind λC=>(jt B (C.to_:bu)).bind λI=>some I) (some B)
theorem vq(B:cB 200 bJ)(D:Sl bu)(J:Sl Zn)(G:bu):Le ((J1 B D J G).bind (λr=>some [enc r])) (cF Sy cL (qB (tr Tx 115)) (tH (tb Tx 115) [1,1,1,1,0,0] [] (bS [Kv 1 B,Pv 5,Ov 7,Cv 8 J] [Xb 5 G,Lb 2007 D]))):=bU 7 λu _=>oW 2 9 0 u (ck 8 10 [40] 50 (bK 8 40 (OW 4 .i64 λw z=>MU 0 2 B u.message 0 w z (MU 0 1 B u.message 2 w z (Oj 0 1 false B u.message 3 w z (.int .i64 w.to_.index) (by rfl) (bH 2)))) (bH 10)) λL=>bK 2 50 (OW 7 .i64 λC I=>MU 0 2 B u.message 0 C I (Oj 0 2 true B u.message 2 C I (enc C.to_) (by rfl) (qy 1 2007 59 60 λO _=>bA))) bA)
end iI
def iI(D:Zj)(B:cB 200 bJ)(x2:bu):bt (Sl bu):=(idx D.procs x2.proc).bind λu=>bE (decide (x2.index<(len u.events))) (iI.J1 B (Sl.row [⟨x2.proc,wrap .i64 (x2.index+1)⟩]:Sl bu) u.events x2) (iI.J1 B (Sl.nil:Sl bu) u.events x2)
open iI in
instance QO(D:Zj)(B:cB 200 bJ)(x2:bu):Fc Sy cL (iI D B x2):=Fc.N 115 [enc D,.fptr (cells B),enc x2] (ec 2 3 D (bU 15 λu _=>b_ 11 u.events (bK 3 21 (Om 10 29 30 .bL (⟨x2.proc,wrap .i64 (x2.index+1)⟩:bu) (CB 5 (vq B (Sl.row [⟨x2.proc,wrap .i64 (x2.index+1)⟩]:Sl bu) u.events x2))) (CB 5 (vq B (Sl.nil:Sl bu) u.events x2)))))
namespace gV
def eP(O:Zj)(U:Sl bu)(W:Int)(Y:Zj)(a:cB 200 bJ)(b:bu)(c:Zl)(J:bu)(B:Sl bu)(G:Int)(D:Mo bu Zl):bt (Fw ((Sl bu)×Int×(Mo bu Zl)) ((Sl bu)×(Mo bu Zl)) Unit):=bE (decide (G<W)) ((idx U G).bind λu=>bE (HE u J) (some (.r ())) (bE (rm D u false) (some (.n (B,wrap .i64 (G+1),D))) ((jt B (u:bu)).bind λw=>some (.n (w,wrap .i64 (G+1),mG D u true))))) (some (.x (B,D)))
def W3(D:Sl bu)(B:Zj)(O:Sl bu)(U W:Int)(Y:Zj)(a:cB 200 bJ)(b:bu)(c:Zl)(G:bu)(J:Mo bu Zl):bt (Fw ((Sl bu)×(Mo bu Zl)) Unit Unit):=(b8 (λq:(Sl bu)×Int×(Mo bu Zl)=>eP B O U Y a b c G q.1 q.2.1 q.2.2) (D,W,J)).bind (Fw.elim (λe=>some (.n (e.1,e.2))) (λe=>some (.r ())))
def ct(D G:Zj)(J:cB 200 bJ)(W:bu)(Y:Zl)(O:bu)(B:Sl bu)(U:Mo bu Zl):bt (Fw ((Sl bu)×(Mo bu Zl)) Unit Unit):=bE (decide ((len B)>0)) ((Sl.l_ B (wrap .i64 ((len B)-1))).bind λw=>(Sl.get B w).bind λz=>(nR B none (some (wrap .i64 ((len B)-1)))).bind λC=>(iI G J z).bind λu=>W3 C D u (len u) 0 G J W Y O U) (some (.x ()))
def W2(G:Sl bu)(B O:Zj)(U:cB 200 bJ)(W:bu)(Y:Zl)(D:bu)(J:Mo bu Zl):bt (Fw Unit Empty bu):=(b8 (λq:(Sl bu)×(Mo bu Zl)=>ct B O U W Y D q.1 q.2) (G,J)).bind (Fw.elim (λe=>some (.n ())) (λe=>some (.r D)))
def sx(B D:Zj)(G:cB 200 bJ)(J:bu)(O:Zl)(x:bu×Zn):bt (Fw Unit Empty bu):=W2 (Sl.row [x.1]:Sl bu) B D G J O x.1 []
def E1(B D:Zj)(G:cB 200 bJ)(J:bu)(O:Zl):bt (bu×Zl):=(iH B).bind λu=>(nJ (λ(x:bu×Zn)(q:Unit)=>sx B D G J O x) u ()).bind (Fw.uY (λq=>some (⟨0,0⟩,false)) (λe=>elim e) (λe=>some (e,true)))
end gV
def gV(B:Zj)(D:cB 200 bJ):bt (bu×Zl):=(jy B).bind λu=>gV.E1 u B D (⟨0,0⟩:bu) false
open gV in
instance O7(B:Zj)(G:cB 200 bJ):Fc Sy cL (gV B G):=Fc.M 83 [enc B,.fptr (cells G)] (ec 2 2 B (bT 9 λw _=>I4 λU Q=>Es 4 [Pv 2,Pv 3,Pv 4,Pv 5,(13,.v (.clo 110 [] [.fptr (cells w)]))] (λS=>[Xb 2 B,(3,.box [cp G]),Xb 4 (⟨0,0⟩:bu),(5,.box [bv false])]) (λI=>elim I) (λI=>[Xb 2 B,(3,.box [cp G]),Xb 4 I,(5,.box [bv true])]) (wK w U Q) (λC S=>Bf 4 (ey 18 (λu=>⟨[Pv 2,Pv 3,Pv 4,Pv 5,Pv 6,(7,.mp 16),Ov 8,(13,.v (.clo 110 [] [.fptr (cells w)]))],[Xb 2 B,(3,.box [cp G]),Xb 4 (⟨0,0⟩:bu),(5,.box [bv false]),Xb 6 C.1,(16,pW u.2),Lb 2008 u.1],[2,3,4,5],[],true,0⟩) (λJ=>(2,⟨[Pv 2,Pv 3,Pv 4,Pv 5,(13,.v (.clo 110 [] [.fptr (cells w)]))],[Xb 2 B,(3,.box [cp G]),Xb 4 (⟨0,0⟩:bu),(5,.box [bv false])],[2,3,4,5],[],true,0⟩)) (λJ=>⟨[],[Xb 2 B,(3,.box [cp G]),Xb 4 C.1,(5,.box [bv true])],[2,3,4,5],[],true,0⟩) (λu=>Ip 6 2008 u.1 (bK 3 21 (Ip 8 2008 u.1 (mR .i64 1 2008 λW _=>uy 0 2008 0 2 true (λL=>.agg [.int .i64 L.proc,.int .i64 L.index]) λL _=>Ip 8 2008 u.1 (Th 1 false true 2008 32 [.int .i64 (wrap .i64 ((len u.1)-1))] λX _=>bT 8 λO _=>b_ 0 O (ey 6 (λz=>⟨[Pv 2,Pv 3,Pv 4,Pv 5,Pv 6,(7,.mp 16),Ov 8,(13,.v (.clo 110 [] [.fptr (cells w)])),Cv 36 O,Iv 37 (len O),Iv 38 z.2.1],[Xb 2 B,(3,.box [cp G]),Xb 4 (⟨0,0⟩:bu),(5,.box [bv false]),Xb 6 C.1,(16,pW z.2.2),Lb 2008 z.1],[2,3,4,5],[],true,0⟩) (λD=>(4,⟨[Pv 2,Pv 3,Pv 4,Pv 5,Pv 6,(7,.mp 16),Ov 8,(13,.v (.clo 110 [] [.fptr (cells w)]))],[Xb 2 B,(3,.box [cp G]),Xb 4 (⟨0,0⟩:bu),(5,.box [bv false]),Xb 6 C.1,(16,pW D.2),Lb 2008 D.1],[2,3,4,5],[],true,0⟩)) (λD=>⟨[],[Xb 2 B,(3,.box [cp G]),Xb 4 C.1,(5,.box [bv true])],[2,3,4,5],[],true,0⟩) (λz=>bK 8 39 (bU 7 λT _=>bK 13 44 bA (OH 7 16 z.2.2 T false (ez 3 49 bA (RU 5 16 z.2.2 T true (qy 6 2008 54 55 λY _=>bA))))) bA) (λD=>bA) (λD=>bA))))) bA)) (λJ=>bA) (λJ=>bA))) (λS=>bA) (λx=>elim x) (λI=>bA)))
namespace gz
def Hs(B D:Zj)(G:bu)(J:Int)(x:bu×Zn):bt (Fw Unit Empty (bu×Int)):=(dI D x.1 x.2).bind λu=>bE (u==0) (some (.n ())) (some (.r (x.1,u)))
def E2(B D:Zj)(G:bu)(J:Int):bt (bu×Int):=(iH B).bind λz=>(nJ (λ(x:bu×Zn)(q:Unit)=>Hs B D G J x) z ()).bind (Fw.uY (λq=>(eM D).bind λu=>bE (u.2.2==0) ((u.1).bind λC=>(gV D C).bind λw=>bE w.2 (some (w.1,10)) (some (⟨0,0⟩,0))) (some (u.2.1,u.2.2))) (λe=>elim e) (λe=>some (e.1,e.2)))
def bG(D:Int)(G:Zj)(J:bu)(O:Int)(B:Int):bt (Fw Int Unit (bu×Int)):=bE (decide (B<D)) ((eH G B).bind λu=>bE (u==0) (some (.n (wrap .i64 (B+1)))) (some (.r ((⟨B,0⟩:bu),u)))) (some (.x ()))
def W1(J O:Int)(B:Zj)(D:bu)(G:Int):bt (bu×Int):=(b8 (λq:Int=>bG J B D G q) O).bind (Fw.elim (λe=>(jy B).bind λu=>gz.E2 u B D G) (λe=>some (e.1,e.2)))
end gz
def gz(B:Zj):bt (bu×Int):=(mm (len B.procs) 1 8).bind λu=>bE u (gz.W1 (len B.procs) 0 B (⟨0,0⟩:bu) 0) (some (⟨0,0⟩,1))
open gz in
instance QI(B:Zj):Fc Sy cL (gz B):=Fc.M 57 [enc B] (ec 2 1 B (b_ 9 B.procs (bT 0 λO _=>ez 3 18 (b_ 8 B.procs (ey 5 (λC=>(bS [Pv 1,Pv 2,Pv 3,Iv 22 (len B.procs),Iv 23 C] [Xb 1 B,Xb 2 (⟨0,0⟩:bu),(3,.box [iv 0])])) (λu=>(0,(bS [Pv 1,Pv 2,Pv 3] [Xb 1 B,Xb 2 (⟨0,0⟩:bu),(3,.box [iv 0])]))) (λu=>(bS [Pv 2,Pv 3] [Xb 2 u.1,(3,.box [iv u.2])])) (λC=>bK 7 24 (bT 15 λQ _=>ez 9 30 bA bA) bA) (λu=>bT 6 λz _=>I4 λJ D=>Es 4 [Pv 1,Pv 2,Pv 3,(36,.v (.clo 110 [] [.fptr (cells z)]))] (λG=>[Xb 1 B,Xb 2 (⟨0,0⟩:bu),(3,.box [iv 0])]) (λw=>elim w) (λw=>[Xb 1 B,Xb 2 w.1,(3,.box [iv w.2])]) (wK z J D) (λL G=>oW 8 7 0 L.2 (Bf 1 (bT 7 λS _=>ez 9 44 bA bA))) (λG=>bT 5 λI _=>ez 17 54 (Mi 8 (λT=>(bS [Pv 2,Pv 3,(36,.v (.clo 110 [] [.fptr (cells z)])),Pv 10,Iv 11 I.2.2,Bv 54 false,Cv 58 B,Cv 59 T] [Xb 1 B,Xb 2 (⟨0,0⟩:bu),(3,.box [iv 0]),Xb 10 I.2.1])) λU _=>bT 0 λW _=>bK 13 63 bA bA) bA) (λx=>elim x) (λw=>bA)) (λu=>bA))) bA)))
def eu(B:Zj):bt Zl:=(gz B).bind λu=>some (u.2==0)
instance QS(B:Zj):Fc Sy cL (eu B):=Fc.M 29 [enc B] (ec 2 1 B (bT 6 λu _=>bA))
namespace kI
def sx(D:Zj)(B G:Int)(J:bu)(O:Zl)(x:bu×Zn):bt (Fw Unit Empty bu):=(bE (x.2.kind==B) (some (x.2.message==G)) (some false):bt Zl).bind λu=>bE u (some (.r x.1)) (some (.n ()))
def E1(B:Zj)(D G:Int)(J:bu)(O:Zl):bt (bu×Zl):=(iH B).bind λu=>(nJ (λ(x:bu×Zn)(q:Unit)=>sx B D G J O x) u ()).bind (Fw.uY (λq=>some (⟨0,0⟩,false)) (λe=>elim e) (λe=>some (e,true)))
end kI
def kI(D:Zj)(B G:Int):bt (bu×Zl):=(eu D).bind λu=>bE u ((jy D).bind λw=>kI.E1 w B G (⟨0,0⟩:bu) false) (some (⟨0,0⟩,false))
open kI in
instance Ss(G:Zj)(B D:Int):Fc Sy cL (kI G B D):=Fc.M 136 [enc G,.int .i64 B,.int .i64 D] (ec 2 3 G (bT 10 λL _=>ez 3 12 (bT 7 λw _=>I4 λI z=>Es 4 [Pv 4,Pv 5,Pv 6,Pv 7,(15,.v (.clo 110 [] [.fptr (cells w)]))] (λC=>[(4,.box [iv B]),(5,.box [iv D]),Xb 6 (⟨0,0⟩:bu),(7,.box [bv false])]) (λu=>elim u) (λu=>[(4,.box [iv B]),(5,.box [iv D]),Xb 6 u,(7,.box [bv true])]) (wK w I z) (λJ C=>oW 8 9 0 J.2 (Bf 1 (ck 9 5 [9,22] 27 (bK 9 22 (bH 5) (bH 5)) λO=>bK 2 27 bA bA))) (λC=>bA) (λx=>elim x) (λu=>bA)) bA))
def mL(B:Zj)(m1:Int):bt (bu×Zl):=(kI B 2 m1).bind λu=>some (u.1,u.2)
instance Qv(B:Zj)(m1:Int):Fc Sy cL (mL B m1):=Fc.M 98 [enc B,.int .i64 m1] (ec 2 2 B (bT 8 λu _=>bA))
namespace jG
def J3(B:Sl bu)(U:Sl cz)(W Y:Int)(a:Sl Zn)(b G:Int)(J:Zj)(c O:cq)(d:cz)(D:bu):bt (Fw ((Sl bu)×Int×Zj×cq×cq) ((Sl bu)×Zj×cq) Empty):=(jt B (D:bu)).bind λu=>some (.n (u,wrap .i64 (G+1),J,(⟨Sl.nil,Sl.nil⟩:cq),O))
def ct(W:Sl cz)(Y a:Int)(J:Sl Zn)(O:Int)(b:cz)(B:Sl bu)(D:Int)(G:Zj)(c U:cq):bt (Fw ((Sl bu)×Int×Zj×cq×cq) ((Sl bu)×Zj×cq) Empty):=bE (decide (D<O)) ((idx J D).bind λu=>bE (u.kind==3) ((mL G u.message).bind λw=>J3 B W Y a J O D G (⟨Sl.nil,Sl.nil⟩:cq) U b w.1) (J3 B W Y a J O D G (⟨Sl.nil,Sl.nil⟩:cq) U b (⟨0,0⟩:bu))) (some (.x (B,G,U)))
def W2(B:Sl bu)(J:Sl cz)(O D:Int)(U:Sl Zn)(W Y:Int)(a:Zj)(b c:cq)(G:cz):bt (Fw (Int×Zj×cq×cq) cq Empty):=(b8 (λq:(Sl bu)×Int×Zj×cq×cq=>ct J O D U W G q.1 q.2.1 q.2.2.1 q.2.2.2.1 q.2.2.2.2) (B,Y,a,b,c)).bind (Fw.elim (λe=>(jt e.2.2.lengths (len G.events:Int)).bind λu=>(jt e.2.2.need (e.1:Sl bu)).bind λw=>some (.n (wrap .i64 (D+1),e.2.1,(⟨Sl.nil,Sl.nil⟩:cq),(⟨u,w⟩:cq)))) (λe=>elim e))
def bG(D:Sl cz)(G:Int)(B:Int)(O:Zj)(U J:cq):bt (Fw (Int×Zj×cq×cq) cq Empty):=bE (decide (B<G)) ((idx D B).bind λu=>W2 (Sl.nil:Sl bu) D G B u.events (len u.events) 0 O (⟨Sl.nil,Sl.nil⟩:cq) J u) (some (.x J))
def W1(B:Sl cz)(D G:Int)(J:Zj)(O U:cq):bt cq:=(b8 (λq:Int×Zj×cq×cq=>bG B D q.1 q.2.1 q.2.2.1 q.2.2.2) (G,J,O,U)).bind (Fw.elim (λe=>some e) (λe=>elim e))
end jG
def jG(B:Zj):bt cq:=jG.W1 B.procs (len B.procs) 0 B (⟨Sl.nil,Sl.nil⟩:cq) (⟨Sl.nil,Sl.nil⟩:cq)
open jG in
instance TF(D:Zj):Fc Sy cL (jG D):=Fc.N 75 [enc D] (ec 2 1 D (b_ 13 D.procs (jN 7 (λu=>(bS [Pv 1,Pv 2,Pv 3,Cv 11 D.procs,Iv 12 (len D.procs),Iv 13 u.1] [Xb 1 u.2.1,Xb 2 (⟨Sl.nil,Sl.nil⟩:cq),(3,.box [.own 4060,.own 4061]),Lb 4060 u.2.2.2.lengths,Lb 4061 u.2.2.2.need])) (λC=>(0,(bS [Pv 2,Pv 3] [Xb 2 (⟨Sl.nil,Sl.nil⟩:cq),(3,.box [.own 4060,.own 4061]),Lb 4060 C.lengths,Lb 4061 C.need]))) (λu=>bK 9 14 (bU 7 λw _=>oW 2 5 0 w (b_ 12 w.events (jN 8 (λz=>(bS [Pv 1,Pv 2,Pv 3,Pv 5,Ov 6,Cv 11 D.procs,Iv 12 (len D.procs),Iv 13 u.1,Cv 18 w.events,Iv 19 (len w.events),Iv 20 z.2.1] [Xb 1 z.2.2.1,Xb 2 (⟨Sl.nil,Sl.nil⟩:cq),(3,.box [.own 4060,.own 4061]),Xb 5 w,Lb 2006 z.1,Lb 4060 z.2.2.2.2.lengths,Lb 4061 z.2.2.2.2.need])) (λB=>(2,(bS [Pv 1,Pv 2,Pv 3,Pv 5,Ov 6,Cv 11 D.procs,Iv 12 (len D.procs),Iv 13 u.1] [Xb 1 B.2.1,Xb 2 (⟨Sl.nil,Sl.nil⟩:cq),(3,.box [.own 4060,.own 4061]),Xb 5 w,Lb 2006 B.1,Lb 4060 B.2.2.lengths,Lb 4061 B.2.2.need]))) (λz=>bK 10 21 (bU 7 λG _=>oW 2 8 0 G (bK 15 26 (bT 5 λJ _=>yE 10 (qy 4 2006 36 37 λI _=>bA)) (yE 7 (qy 4 2006 36 37 λI _=>bA)))) bA) (λB=>b_ 8 w.events (qy 1 4060 44 45 λL _=>EM 9 50 ([B.1]:a_ (Sl bu)) (qy 0 4061 50 51 λO _=>bA)))))) bA) (λC=>oW 7 2 0 C bA))))
def nC(J:cq)(B:Zg)(p2:Int):bt Zl:=(idx B p2).bind λw=>(idx J.lengths p2).bind λz=>bE (w==z) (some false) ((idx J.need p2).bind λC=>(idx B p2).bind λD=>(idx C D).bind λu=>(idx B u.proc).bind λG=>some (decide (u.index<=G)))
instance Kc(B:cq)(D:Zg)(p2:Int):Fc Sy cL (nC B D p2):=Fc.M 99 [enc B,enc D,.int .i64 p2] (ec 2 3 B (bU 8 λu _=>bU 4 λw _=>bK 4 17 bA (bU 8 λz _=>bU 3 λC _=>bU 1 λG _=>bU 12 λI _=>bA)))
def k_(B:Zg):bt Zg:=(Sl.isNil B).bind λu=>bE u (some Sl.nil) ((tG (Sl.row []:Zg) B).bind λw=>some w)
theorem qW:Fe Sy cL 68 (λB:Zg=>[enc B]) (λz=>k_ z):=Fe.mk' (rV (Tx 68)) (λB=>Uh 9 λu _=>bK 2 4 bA (J9 7 5 7 λw _=>bA))
def qg(B:Int):bt Zl:=some (!(B==B))
instance OC(B:Int):Fc Sy cL (qg B):=Fc.M 168 [.int .i64 B] (bA)
def ov(B D:Int):Z6:=(qg B).bind λw=>(qg D).bind λu=>bE w (bE u (some 0) (some (-1))) (bE u (some 1) (bE (decide (B<D)) (some (-1)) (bE (decide (B>D)) (some 1) (some 0))))
instance L7(B D:Int):Fc Sy cL (ov B D):=Fc.M 139 [.int .i64 B,.int .i64 D] (bT 8 λu _=>bT 6 λw _=>bK 9 11 (bK 7 12 bA bA) (bK 9 13 bA (bK 11 16 bA (bK 11 19 bA bA))))
namespace eS
def bG(J D O:Zg)(G:Int)(B:Int):bt (Fw Int Unit Int):=bE (decide (B<G)) ((idx O B).bind λw=>bE (decide (B>=(len D))) (some (.r 1)) ((idx D B).bind λz=>(ov w z).bind λu=>bE (u==0) (some (.n (wrap .i64 (B+1)))) (some (.r u)))) (some (.x ()))
def W1(B D O:Zg)(G J:Int):Z6:=(b8 (λq:Int=>bG B D O G q) J).bind (Fw.elim (λe=>bE (decide ((len B)<(len D))) (some (-1)) (some 0)) (λe=>some e))
end eS
def eS(B D:Zg):Z6:=eS.W1 B D B (len B) 0
open eS in
instance I9(B D:Zg):Fc Sy cL (eS B D):=Fc.M 102 [enc B,enc D] (b_ 9 B (ey 5 (λw=>(bS [Cv 0 B,Cv 1 D,Cv 9 B,Iv 10 (len B),Iv 11 w] [])) (λu=>(0,(bS [Cv 0 B,Cv 1 D] []))) (λu=>(bS [Iv 4 u] [])) (λw=>bK 7 12 (bU 8 λz _=>b_ 10 D (bK 3 19 bA (bU 7 λC _=>bT 8 λG _=>ez 9 28 bA bA))) bA) (λu=>b_ 6 B (b_ 1 D (bK 3 35 bA bA))) (λu=>bA)))
def ji(a0 B:Zg):Z6:=(eS a0 B).bind λu=>some u
instance II(a0 B:Zg):Fc Sy cL (ji a0 B):=Fc.M 101 [enc a0,enc B] (bT 9 λu _=>bA)
namespace eV
def bG(D G:Zg)(J:Int)(B:Int):bt (Fw Int Unit Unit):=bE (decide (B<J)) ((idx D B).bind λu=>(idx G B).bind λw=>bE (u==w) (some (.n (wrap .i64 (B+1)))) (some (.r ()))) (some (.x ()))
def W1(B D:Zg)(G J:Int):bt Zl:=(b8 (λq:Int=>bG B D G q) J).bind (Fw.elim (λe=>some true) (λe=>some false))
end eV
def eV(B D:Zg):bt Zl:=bE ((len B)==(len D)) (eV.W1 B D (len B) 0) (some false)
open eV in
instance LJ(B D:Zg):Fc Sy cL (eV B D):=Fc.M 105 [enc B,enc D] (b_ 9 B (b_ 1 D (ez 3 10 (b_ 7 B (ey 5 (λw=>(bS [Cv 0 B,Cv 1 D,Iv 12 (len B),Iv 13 w] [])) (λu=>(0,(bS [] []))) (λu=>(bS [Bv 4 false] [])) (λw=>bK 7 14 (bU 15 λz _=>bU 3 λC _=>ez 4 24 bA bA) bA) (λu=>bA) (λu=>bA))) bA)))
def j_(a0 B:Zg):bt Zl:=(eV a0 B).bind λu=>some u
instance I7(a0 B:Zg):Fc Sy cL (j_ a0 B):=Fc.M 104 [enc a0,enc B] (bT 9 λu _=>bA)
namespace eA
def ct(U:Zg)(W:Zb)(Y a G:Int)(J:cq)(D:Zb)(B:Int):bt (Fw ((Zb)×Int) Zb Empty):=bE (decide (B<G)) ((nC J U B).bind λw=>bE w (((k_ U).bind Sl.whole).bind λu=>(Sl.l_ u B).bind λz=>(Sl.get u z).bind λC=>(Sl.l_ u B).bind λI=>(Sl.put u I (wrap .i64 (C+1):Int)).bind λL=>(jt D (L:Zg)).bind λO=>some (.n (O,wrap .i64 (B+1)))) (some (.n (D,wrap .i64 (B+1))))) (some (.x D))
def W2(B:Zb)(Y:Zg)(J:Zb)(D G O U:Int)(W:cq):bt (Fw ((Zb)×Int×Int) Zb Empty):=(b8 (λq:(Zb)×Int=>ct Y J D G O W q.1 q.2) (B,U)).bind (Fw.elim (λe=>some (.n (e,D,wrap .i64 (G+1)))) (λe=>elim e))
def bG(G:Zb)(O:cq)(B:Zb)(J D:Int):bt (Fw ((Zb)×Int×Int) Zb Empty):=bE (decide (D<J)) ((idx G D).bind λu=>W2 B u G J D (len u) 0 O) (some (.x B))
def W1(B D:Zb)(G J:Int)(O:cq):bt Zb:=(b8 (λq:(Zb)×Int×Int=>bG D O q.1 q.2.1 q.2.2) (B,G,J)).bind (Fw.elim (λe=>(wS e ji).bind λw=>(vB w j_).bind λu=>some u) (λe=>elim e))
end eA
def eA(D:cq)(B:Zb):bt Zb:=eA.W1 (Sl.nil:Zb) B (len B) 0 D
open eA in
instance L6(G:cq)(B:Zb):Fc Sy cL (eA G B):=Fc.N 76 [enc G,enc B] (ec 2 2 G (b_ 12 B (jN 6 (λu=>(bS [Pv 2,Ov 5,Cv 10 B,Iv 11 u.2.1,Iv 12 u.2.2] [Xb 2 G,Lb 2005 u.1])) (λI=>(0,(bS [Ov 5] [Lb 2005 I]))) (λu=>bK 8 13 (bU 7 λw _=>b_ 7 w (jN 6 (λC=>(bS [Pv 2,Ov 5,Cv 7 w,Cv 10 B,Iv 11 u.2.1,Iv 12 u.2.2,Iv 17 (len w),Iv 18 C.2] [Xb 2 G,Lb 2005 C.1])) (λJ=>(2,(bS [Pv 2,Ov 5,Cv 10 B,Iv 11 u.2.1,Iv 12 u.2.2] [Xb 2 G,Lb 2005 J]))) (λC=>bK 8 19 (bT 16 λQ _=>bK 2 24 (RX 4 26 qW w λS _=>mR .i64 7 26 λT _=>uy 0 26 0 1 false (λD=>.int .i64 D) λD _=>mR .i64 1 26 λU _=>wX 0 26 (.int .i64 (wrap .i64 (D+1))) λL _=>EM 6 35 ([L]:a_ Zg) (qy 0 2005 35 36 λW _=>bA)) bA) bA) (λJ=>bA))) bA) (λI=>SP 5 2005 Ef zz Qz (kz.uC (λz=>inferInstanceAs (Fc Sy cL (ji z.1 z.2))) default (λ_=>rfl) (λ_=>rfl) (λ_=>rfl) (λ_=>rfl)) λX _=>SQ 5 2005 42 Ef zz Pc (kz.uC (λz=>inferInstanceAs (Fc Sy cL (j_ z.1 z.2))) default (λ_=>rfl) (λ_=>rfl) (λ_=>rfl) (λ_=>rfl)) λO _=>bA))))
namespace jk
def bG(J:cq)(B:Zb)(G:Sl Zb)(D:Int):bt (Fw ((Zb)×(Sl Zb)×Int) (Sl Zb) Unit):=bE (decide ((len B)>0)) (bE (decide ((wrap .i64 (D+(len B)))>5000)) (some (.r ())) ((jt G (B:Zb)).bind λu=>(eA J B).bind λw=>some (.n (w,u,wrap .i64 (D+(len B)))))) (some (.x G))
def W1(B:Zb)(G:Sl Zb)(D:Int)(J:cq):bt ((Sl Zb)×Int):=(b8 (λq:(Zb)×(Sl Zb)×Int=>bG J q.1 q.2.1 q.2.2) (B,G,D)).bind (Fw.elim (λe=>some (e,0)) (λe=>some ((Sl.nil:Sl Zb),16)))
end jk
def jk(B:Zj):bt ((Sl Zb)×Int):=(eu B).bind λu=>bE u ((jG B).bind λw=>(qw (len B.procs) (0:Int)).bind λz=>jk.W1 (Sl.row [z]:Zb) (Sl.nil:Sl Zb) 0 w) (some ((Sl.nil:Sl Zb),1))
open jk in
instance QU(B:Zj):Fc Sy cL (jk B):=Fc.N 55 [enc B] (ec 2 1 B (bT 8 λD _=>ez 3 10 (bT 6 λz _=>oW 1 4 0 z (b_ 6 B.procs (HO 0 16 λC _=>EM 1 17 ([C]:a_ Zg) (ey 18 (λu=>(bS [Pv 4,Cv 5 u.1,Ov 6,Iv 7 u.2.2] [Xb 4 z,Lb 2006 u.2.1])) (λw=>(0,(bS [Ov 6] [Lb 2006 w]))) (λw=>(bS [Ov 2,Iv 3 16] [Lb 2002 (Sl.nil:Sl Zb)])) (λu=>b_ 7 u.1 (bK 3 20 (b_ 10 u.1 (bK 10 29 bA (EM 6 32 ([u.1]:a_ Zb) (qy 0 2006 32 33 λG _=>bT 7 λI _=>bA)))) bA)) (λw=>bA) (λw=>bA))))) bA))
def fh(s:Sl Zb):bt Zb:=if s.l.length<=2147483648/\(s.l.flatMap Sl.l).length<=2147483648 then some (AH s)else none
instance Jc(s:Sl Zb):Fc Sy cL (fh s):=Fc.of (A:=λz:Sl Zb=>[enc z]) (E:=λr:Zb=>[enc r]) (p:=fh) (n:=56) (z:=s) (kz.Rr Zf Zf (λz r h=>by
 unfold fh at h;split at h
 next a=>cases h;exact xL (PW (E:=Sy.E) (N:=λn=>n) (gid:=77) (nm:=some) (λ_ _ h=>(Option.some.inj h).symm) rfl Zf Zf (A3 Zf) (A3 Zf) rfl z a.1 a.2)
 cases h))
def tv(B:Zj):bt ((Zb)×Int):=(jk B).bind λu=>(fh u.1).bind λw=>some (w,u.2)
instance SC(B:Zj):Fc Sy cL (tv B):=Fc.N 28 [enc B] (ec 2 1 B (bT 7 λu _=>bT 10 λw _=>bA))
def mZ(B:Zj):bt ((Zb)×Int):=(tv B).bind λu=>some (u.1,u.2)
instance SF(B:Zj):Fc Sy cL (mZ B):=Fc.N 7 [enc B] (ec 2 1 B (bT 7 λu _=>bA))
def pV(B:Int):bt Zl:=(bE (decide (B>=18)) (some (decide (B<=21))) (some false):bt Zl).bind λu=>some u
instance J7(B:Int):Fc Sy cL (pV B):=Fc.M 30 [.int .i64 B] (ck 10 3 [0,5] 8 (bK 10 5 (bH 3) (bH 3)) λu=>bA)
namespace gu
def bG(J:Zg)(D:Int)(G:Sl U8)(B:Int):bt (Fw ((Sl U8)×Int) (Sl U8) Empty):=bE (decide (B<D)) ((idx J B).bind λu=>(Sl.l_ G B).bind λw=>(Sl.put G w (⟨wrap .u8 u⟩:U8)).bind λz=>some (.n (z,wrap .i64 (B+1)))) (some (.x G))
def W1(G:Sl U8)(J:Zg)(B D:Int):bt Zq:=(b8 (λq:(Sl U8)×Int=>bG J B q.1 q.2) (G,D)).bind (Fw.elim (λe=>some (IS e)) (λe=>elim e))
end gu
def gu(B:Zg):bt Zq:=(qw (len B) (⟨0⟩:U8)).bind λu=>gu.W1 u B (len B) 0
open gu in
instance Ql(B:Zg):Fc Sy cL (gu B):=Fc.M 58 [enc B] (b_ 8 B (HO 0 8 λC _=>b_ 7 B (jN 6 (λu=>(bS [Ov 3,Cv 9 B,Iv 10 (len B),Iv 11 u.2] [Lb 2003 u.1])) (λw=>(0,(bS [Ov 3] [Lb 2003 w]))) (λu=>bK 8 12 (bU 8 λz _=>mR .i64 10 2003 λD _=>wX 0 2003 (.int .u8 (wrap .u8 z)) λG _=>bA) bA) (λw=>Tp 5 2003 w bA))))
def mM(B:Zg)(D:Zj):bt Zl:=some (!((len B)==(len D.procs)))
instance PJ(B:Zg)(D:Zj):Fc Sy cL (mM B D):=Fc.M 146 [enc B,.fptr (cells D)] (b_ 8 B (b_ 2 D.procs bA))
namespace fI
def bG(D:Zb)(G:Int)(B:Int)(p1:(Zg)->bt Zl):bt (Fw Int Unit Int):=bE (decide (B<G)) ((idx D B).bind λu=>(p1 u).bind λw=>bE w (some (.r B)) (some (.n (wrap .i64 (B+1))))) (some (.x ()))
def W1(B:Zb)(D G:Int)(p1:(Zg)->bt Zl):Z6:=(b8 (λq:Int=>bG B D q p1) G).bind (Fw.elim (λe=>some (-1)) (λe=>some e))
end fI
def fI(B:Zb)(p1:(Zg)->bt Zl):Z6:=fI.W1 B (len B) 0 p1
open fI in
abbrev uV(g1:FuncId)(e1:a_ V)(p1:(Sl Int)->bt Bool)(a:nk Sy cL g1 [] e1 (λz:Sl Int=>[enc z]) (λr:Bool=>[.bool r]) p1 true)(B:Sl (Sl Int)):Fc Sy cL (fI B p1):=Fc.M 169 [enc B,.clo g1 [] e1] (b_ 9 B (ey 5 (λw=>(bS [Cv 0 B,(1,.v (.clo g1 [] e1)),Iv 7 (len B),Iv 8 w] [])) (λu=>(0,(bS [] []))) (λu=>(bS [Iv 4 u] [])) (λw=>bK 7 9 (bU 16 λC _=>vm 1 a.f C λD _=>bK 2 16 bA bA) bA) (λu=>bA) (λu=>bA)))
def js(B:Zb)(p1:(Zg)->bt Zl):bt Zl:=(fI B p1).bind λu=>some (decide (u>=0))
abbrev tJ(g1:FuncId)(e1:a_ V)(p1:(Sl Int)->bt Bool)(a:nk Sy cL g1 [] e1 (λz:Sl Int=>[enc z]) (λr:Bool=>[.bool r]) p1 true)(B:Sl (Sl Int)):Fc Sy cL (js B p1):=Fc.M 145 [enc B,.clo g1 [] e1] (bT (F:=uV g1 e1 p1 a B) 9 λu _=>bA)
def xV(D:Zj)(G:Zb):bt Zl:=(eu D).bind λu=>(bE u ((js G (λz=>mM z D)).bind λw=>some (!w)) (some false):bt Zl).bind λB=>some B
instance SJ(B:Zj)(D:Zb):Fc Sy cL (xV B D):=Fc.M 116 [enc B,enc D] (ec 2 2 B (bT 6 λu _=>ck 1 5 [1,2,7] 12 (bK 1 7 (kr (F:=tJ 146 [.fptr (cells B)] (λz=>mM z B) nk.uC D) 2 λw _=>bH 2) (bH 5)) λC=>bA))
namespace jm
def bG(G:Zg)(J:Int)(D:Zj)(B:Int):bt (Fw Int Unit Unit):=bE (decide (B<J)) ((idx G B).bind λu=>(bE (decide (u<0)) (some true) ((idx D.procs B).bind λw=>some (decide (u>(len w.events)))):bt Zl).bind λz=>bE z (some (.r ())) (some (.n (wrap .i64 (B+1))))) (some (.x ()))
def W1(D:Zg)(G J:Int)(B:Zj):bt Zl:=(b8 (λq:Int=>bG D G B q) J).bind (Fw.elim (λe=>some true) (λe=>some false))
end jm
def jm(D:Zj)(B:Zg):bt Zl:=jm.W1 B (len B) 0 D
open jm in
instance QM(D:Zj)(B:Zg):Fc Sy cL (jm D B):=Fc.M 117 [enc D,enc B] (ec 2 2 D (b_ 7 B (ey 5 (λw=>(bS [Pv 2,Cv 7 B,Iv 8 (len B),Iv 9 w] [Xb 2 D])) (λu=>(0,(bS [] []))) (λu=>(bS [Bv 4 false] [])) (λw=>bK 7 10 (bU 8 λC _=>ck 10 10 [5,6,16] 26 (bK 10 16 (bH 10) (bU 4 λz _=>b_ 2 z.events (bH 2))) λG=>bK 2 26 bA bA) bA) (λu=>bA) (λu=>bA))))
def sY(B:Zj)(p1:Int):bt Zl:=(bE (decide (p1>=0)) (some (decide (p1<(len B.procs)))) (some false):bt Zl).bind λu=>some u
instance Q3(B:Zj)(p1:Int):Fc Sy cL (sY B p1):=Fc.M 118 [enc B,.int .i64 p1] (ec 2 2 B (ck 8 6 [1,2,7] 13 (bK 8 7 (b_ 3 B.procs (bH 2)) (bH 6)) λu=>bA))
namespace gD
def ct(W:Zg)(p7:Int)(Y:Zg)(a b:Int)(J:Sl Zn)(O:Int)(U:Zj)(G D:bu)(B:Int):bt (Fw Int Unit (bu×bu)):=bE (decide (B<O)) ((idx J B).bind λw=>bE (w.kind==3) ((mL U w.message).bind λu=>(idx W u.1.proc).bind λz=>bE (decide (u.1.index>z)) (some (.r (u.1,(⟨p7,wrap .i64 (B+1)⟩:bu)))) (some (.n (wrap .i64 (B+1))))) (some (.n (wrap .i64 (B+1))))) (some (.x ()))
def W2(a:Zg)(p7:Int)(J:Zg)(O G:Int)(U:Sl Zn)(W Y:Int)(b:Zj)(D B:bu):bt (Fw Int Unit (bu×bu)):=(b8 (λq:Int=>ct a p7 J O G U W b D B q) Y).bind (Fw.elim (λe=>some (.n (wrap .i64 (G+1)))) (λe=>some (.r (e.1,e.2))))
def bG(W J:Zg)(O:Int)(U:Zj)(G B:bu)(D:Int):bt (Fw Int Unit (bu×bu)):=bE (decide (D<O)) ((idx J D).bind λw=>(idx U.procs D).bind λz=>(jL z.events none (some w)).bind λu=>W2 W D J O D u (len u) 0 U G B) (some (.x ()))
def W1(W G:Zg)(J O:Int)(U:Zj)(D B:bu):bt (bu×bu×Zl):=(b8 (λq:Int=>bG W G J U D B q) O).bind (Fw.elim (λe=>some (⟨0,0⟩,⟨0,0⟩,false)) (λe=>some (e.1,e.2,true)))
end gD
def gD(D:Zj)(B:Zg):bt (bu×bu×Zl):=gD.W1 B B (len B) 0 D (⟨0,0⟩:bu) (⟨0,0⟩:bu)
open gD in
instance QK(D:Zj)(B:Zg):Fc Sy cL (gD D B):=Fc.M 147 [enc D,enc B] (ec 2 2 D (b_ 9 B (ey 5 (λu=>(bS [Cv 1 B,Pv 2,Pv 4,Pv 5,Cv 13 B,Iv 14 (len B),Iv 15 u] [Xb 2 D,Xb 4 (⟨0,0⟩:bu),Xb 5 (⟨0,0⟩:bu)])) (λw=>(0,(bS [Pv 4,Pv 5] [Xb 4 (⟨0,0⟩:bu),Xb 5 (⟨0,0⟩:bu)]))) (λw=>(bS [Pv 4,Pv 5,Bv 6 true] [Xb 4 w.1,Xb 5 w.2])) (λu=>bK 7 16 (bU 8 λI _=>bU 10 λL _=>Iw 3 false true [.int .i64 I] λC _=>b_ 0 C (ey 5 (λG=>(bS [Cv 1 B,Pv 2,Pv 4,Pv 5,Iv 7 u,Cv 13 B,Iv 14 (len B),Iv 15 u,Cv 27 C,Iv 28 (len C),Iv 29 G] [Xb 2 D,Xb 4 (⟨0,0⟩:bu),Xb 5 (⟨0,0⟩:bu)])) (λz=>(2,(bS [Cv 1 B,Pv 2,Pv 4,Pv 5,Cv 13 B,Iv 14 (len B),Iv 15 u] [Xb 2 D,Xb 4 (⟨0,0⟩:bu),Xb 5 (⟨0,0⟩:bu)]))) (λz=>(bS [Pv 4,Pv 5,Bv 6 true] [Xb 4 z.1,Xb 5 z.2])) (λG=>bK 7 30 (bU 8 λJ _=>oW 3 10 0 J (ez 10 36 (bT 8 λO _=>bU 15 λQ _=>bK 4 51 bA bA) bA)) bA) (λz=>bA) (λz=>bA))) bA) (λw=>bA) (λw=>bA))))
def xk(B:Zj)(D:Zg):bt Zl:=(gD B D).bind λu=>some (!u.2.2)
instance Ra(B:Zj)(D:Zg):Fc Sy cL (xk B D):=Fc.M 119 [enc B,enc D] (ec 2 2 B (bT 7 λu _=>bA))
namespace eN
def eP(D:Zb)(G:Int)(J:Zj)(B:Int):bt (Fw Int Unit Unit):=bE (decide (B<G)) ((idx D B).bind λu=>(xk J u).bind λw=>bE w (some (.n (wrap .i64 (B+1)))) (some (.r ()))) (some (.x ()))
def W3(B:Zb)(D G:Int)(J:Zj):Z6:=(b8 (λq:Int=>eP B D J q) G).bind (Fw.elim (λe=>some 0) (λe=>some 18))
def ct(O:Zb)(D:Zg)(G:Int)(J:Zj)(B:Int):bt (Fw Int Unit Unit):=bE (decide (B<G)) ((idx D B).bind λu=>(sY J u).bind λw=>bE w (some (.n (wrap .i64 (B+1)))) (some (.r ()))) (some (.x ()))
def W2(D:Zb)(G:Zg)(J O:Int)(B:Zj):Z6:=(b8 (λq:Int=>ct D G J B q) O).bind (Fw.elim (λe=>eN.W3 D (len D) 0 B) (λe=>some 2))
def bG(U:Zb)(D:Zg)(G:Zb)(J:Int)(O:Zj)(B:Int):bt (Fw Int Unit Unit):=bE (decide (B<J)) ((idx G B).bind λu=>(jm O u).bind λw=>bE w (some (.n (wrap .i64 (B+1)))) (some (.r ()))) (some (.x ()))
def W1(U:Zb)(B:Zg)(G:Zb)(J O:Int)(D:Zj):Z6:=(b8 (λq:Int=>bG U B G J D q) O).bind (Fw.elim (λe=>eN.W2 U B (len B) 0 D) (λe=>some 2))
end eN
def eN(G:Zj)(D:Zb)(B:Zg):Z6:=(xV G D).bind λu=>bE u (eN.W1 D B D (len D) 0 G) (some 1)
open eN in
instance SH(G:Zj)(D:Zb)(B:Zg):Fc Sy cL (eN G D B):=Fc.M 84 [enc G,enc D,enc B] (ec 2 3 G (bT 8 λL _=>ez 3 16 (b_ 7 D (ey 5 (λC=>(bS [Cv 1 D,Cv 2 B,Pv 3,Cv 17 D,Iv 18 (len D),Iv 19 C] [Xb 3 G])) (λu=>(0,(bS [Cv 1 D,Cv 2 B,Pv 3] [Xb 3 G]))) (λu=>(bS [Iv 6 2] [])) (λC=>bK 7 20 (bU 7 λO _=>bT 8 λQ _=>ez 3 26 bA bA) bA) (λu=>b_ 6 B (ey 5 (λI=>(bS [Cv 1 D,Pv 3,Cv 28 B,Iv 29 (len B),Iv 30 I] [Xb 3 G])) (λw=>(2,(bS [Cv 1 D,Pv 3] [Xb 3 G]))) (λw=>(bS [Iv 6 2] [])) (λI=>bK 7 31 (bU 7 λS _=>bT 8 λT _=>ez 3 37 bA bA) bA) (λw=>b_ 6 D (ey 5 (λJ=>(bS [Pv 3,Cv 39 D,Iv 40 (len D),Iv 41 J] [Xb 3 G])) (λz=>(4,(bS [] []))) (λz=>(bS [Iv 6 18] [])) (λJ=>bK 7 42 (bU 7 λU _=>bT 8 λW _=>ez 3 48 bA bA) bA) (λz=>bA) (λz=>bA))) (λw=>bA))) (λu=>bA))) bA))
def sW(D:Zj)(G:Zg)(p2:Int):bt Zl:=(idx D.procs p2).bind λz=>(idx G p2).bind λB=>(idx z.events B).bind λu=>bE (u.kind==3) ((mL D u.message).bind λw=>(idx G w.1.proc).bind λC=>some (decide (w.1.index<=C))) (some true)
instance Q2(B:Zj)(D:Zg)(p2:Int):Fc Sy cL (sW B D p2):=Fc.M 85 [enc B,enc D,.int .i64 p2] (ec 2 3 B (bU 8 λw _=>bU 4 λz _=>bU 1 λu _=>oW 2 7 0 u (ez 10 24 (bT 8 λC _=>bU 15 λG _=>bA) bA)))
def sR(D:Zj)(B:Zg)(p2:Int):bt ((Zg)×Int):=(eN D (Sl.row [B]:Zb) (Sl.row [p2]:Zg)).bind λw=>bE (w==0) ((idx B p2).bind λz=>(idx D.procs p2).bind λC=>bE (z==(len C.events)) (some (Sl.nil,4)) ((sW D B p2).bind λG=>bE G (((k_ B).bind Sl.whole).bind λu=>(Sl.l_ u p2).bind λI=>(Sl.get u I).bind λJ=>(Sl.l_ u p2).bind λL=>(Sl.put u L (wrap .i64 (J+1):Int)).bind λO=>some (O,0)) (some (Sl.nil,11)))) (some (Sl.nil,w))
instance QV(D:Zj)(B:Zg)(p2:Int):Fc Sy cL (sR D B p2):=Fc.N 59 [enc D,enc B,.int .i64 p2] (ec 2 3 D (EM 9 12 ([B]:a_ Zg) (kr 2 λz _=>ez 9 17 (bU 9 λC _=>bU 4 λw _=>b_ 2 w.events (bK 4 19 bA (bT 6 λG _=>ez 4 32 (RX 7 39 qW B λI _=>mR .i64 7 39 λJ _=>uy 0 39 0 1 false (λu=>.int .i64 u) λu _=>mR .i64 1 39 λL _=>wX 0 39 (.int .i64 (wrap .i64 (u+1))) λO _=>bA) bA))) bA)))
namespace dG
def eP(O:Zg)(Y:Zb)(a b U:Int)(W:Zj)(J:Mo ByteArray Int)(B:Zg)(G:Int)(D:bW):bt (Fw ((Zg)×Int×bW) ((Zg)×(Mo ByteArray Int)×bW) Empty):=bE (decide (G<U)) ((sR W O G).bind λu=>bE (u.2==0) ((gu u.1).bind λw=>(jt B (rm J w 0:Int)).bind λz=>some (.n (z,wrap .i64 (G+1),D))) (some (.n (B,wrap .i64 (G+1),D)))) (some (.x (B,J,D)))
def W3(O B:Zg)(U:Zb)(W D Y a:Int)(b:Zj)(G:Mo ByteArray Int)(J:bW):bt (Fw (Int×(Mo ByteArray Int)×bW) bW Empty):=(b8 (λq:(Zg)×Int×bW=>eP O U W D Y b G q.1 q.2.1 q.2.2) (B,a,J)).bind (Fw.elim (λe=>(jt e.2.2.next (e.1:Zg)).bind λu=>some (.n (wrap .i64 (D+1),e.2.1,(⟨e.2.2.t,e.2.2.l,u⟩:bW)))) (λe=>elim e))
def ct(G:Zb)(J:Int)(U:Zj)(D:Int)(O:Mo ByteArray Int)(B:bW):bt (Fw (Int×(Mo ByteArray Int)×bW) bW Empty):=bE (decide (D<J)) ((idx G D).bind λu=>W3 u (Sl.nil:Zg) G J D (len u) 0 U O B) (some (.x B))
def W2(G:Zb)(J O:Int)(U:Zj)(B:Mo ByteArray Int)(D:bW):bt ((bt bW)×Int):=(b8 (λq:Int×(Mo ByteArray Int)×bW=>ct G J U q.1 q.2.1 q.2.2) (O,B,D)).bind (Fw.elim (λe=>some (some e,0)) (λe=>elim e))
def bG(U G:Zb)(J:Int)(O:Zj)(B:Int)(D:Mo ByteArray Int):bt (Fw (Int×(Mo ByteArray Int)) (Mo ByteArray Int) Empty):=bE (decide (B<J)) ((idx G B).bind λu=>(gu u).bind λw=>some (.n (wrap .i64 (B+1),mG D w B))) (some (.x D))
def W1(G J:Zb)(O U:Int)(B:Zj)(D:Mo ByteArray Int):bt ((bt bW)×Int):=(b8 (λq:Int×(Mo ByteArray Int)=>bG G J O B q.1 q.2) (U,D)).bind (Fw.elim (λe=>dG.W2 G (len G) 0 B e (⟨B,G,Sl.nil⟩:bW)) (λe=>elim e))
end dG
def dG(B:Zj):bt ((bt bW)×Int):=(mZ B).bind λu=>bE (u.2==0) (dG.W1 u.1 u.1 (len u.1) 0 B []) (some (none,u.2))
open dG in
instance OJ(D:Zj):Fc Sy cL (dG D):=Fc.N 31 [enc D] (ec 2 1 D (bT 7 λu _=>ez 14 22 (b_ 13 u.1 (jN 5 (λC=>(bS [Pv 1,Cv 4 u.1,(6,.mp 24),Cv 25 u.1,Iv 26 (len u.1),Iv 27 C.1] [Xb 1 D,(24,pW C.2)])) (λJ=>(0,(bS [Pv 1,Cv 4 u.1,(6,.mp 24)] [Xb 1 D,(24,pW J)]))) (λC=>bK 7 28 (bU 8 λQ _=>bT 8 λL _=>RU 1 24 C.2 L C.1 bA) bA) (λJ=>T9 6 (⟨D,u.1,Sl.nil⟩:bW) [enc D,enc u.1] [.bL,.bL,.bL] [(0,1),(1,1)] (by simp only[IJ,Lg,lS,Rl,Pd,RE,Rj];rfl) rfl (ec 0 40 (⟨D,u.1,Sl.nil⟩:bW) (b_ 7 u.1 (jN 6 (λw=>(bS [Pv 1,(6,.mp 24),(9,.ptr 40 0),Cv 41 u.1,Iv 42 (len u.1),Iv 43 w.1] [Xb 1 D,(24,pW w.2.1),(40,.box [cv w.2.2.t.procs,cv w.2.2.l,.own 4802]),Lb 4802 w.2.2.next])) (λG=>(2,(bS [(9,.ptr 40 0)] [(40,.box [cv G.t.procs,cv G.l,.own 4802]),Lb 4802 G.next]))) (λw=>bK 8 44 (bU 7 λI _=>b_ 13 I (jN 7 (λB=>(bS [Pv 1,(6,.mp 24),(9,.ptr 40 0),Cv 11 I,Ov 12,Cv 41 u.1,Iv 42 (len u.1),Iv 43 w.1,Iv 48 (len I),Iv 49 B.2.1] [Xb 1 D,(24,pW w.2.1),(40,.box [cv B.2.2.t.procs,cv B.2.2.l,.own 4802]),Lb 2012 B.1,Lb 4802 B.2.2.next])) (λz=>(4,(bS [Pv 1,(6,.mp 24),(9,.ptr 40 0),Ov 12,Cv 41 u.1,Iv 42 (len u.1),Iv 43 w.1] [Xb 1 D,(24,pW z.2.1),(40,.box [cv z.2.2.t.procs,cv z.2.2.l,.own 4802]),Lb 2012 z.1,Lb 4802 z.2.2.next]))) (λB=>bK 9 50 (bT 16 λS _=>bK 13 60 (bT 5 λO _=>OH 0 24 w.2.1 O 0 (qy 1 2012 66 67 λT _=>bA)) bA) bA) (λz=>EM 10 75 ([z.1]:a_ Zg) (qy 0 4802 75 76 λU _=>bA)))) bA) (λG=>bA))))))) bA))
namespace eY
def bG(D:Sl Zl)(G:Zl)(J:Int)(B:Int):bt (Fw Int Unit Int):=bE (decide (B<J)) ((idx D B).bind λu=>bE (G==u) (some (.r B)) (some (.n (wrap .i64 (B+1))))) (some (.x ()))
def W1(B:Sl Zl)(D:Zl)(G J:Int):Z6:=(b8 (λq:Int=>bG B D G q) J).bind (Fw.elim (λe=>some (-1)) (λe=>some e))
end eY
def eY(B:Sl Zl)(D:Zl):Z6:=eY.W1 B D (len B) 0
open eY in
instance J2(B:Sl Zl)(D:Zl):Fc Sy cL (eY B D):=Fc.M 86 [enc B,.bool D] (b_ 9 B (ey 5 (λw=>(bS [Cv 0 B,Bv 1 D,Iv 7 (len B),Iv 8 w] [])) (λu=>(0,(bS [] []))) (λu=>(bS [Iv 4 u] [])) (λw=>bK 7 9 (bU 16 λz _=>bK 4 16 bA bA) bA) (λu=>bA) (λu=>bA)))
def ig(B:Sl Zl)(D:Zl):bt Zl:=(eY B D).bind λu=>some (decide (u>=0))
instance G7(B:Sl Zl)(D:Zl):Fc Sy cL (ig B D):=Fc.M 61 [enc B,.bool D] (bT 9 λu _=>bA)
def lK(B:Sl Zl):bt Zl:=(ig B true).bind λu=>some u
instance Oy(B:Sl Zl):Fc Sy cL (lK B):=Fc.M 36 [enc B] (bT 8 λu _=>bA)
def mH(B:Sl Zl):bt Zl:=(bE (decide ((len B)>0)) ((ig B false).bind λu=>some (!u)) (some false):bt Zl).bind λw=>some w
instance QH(B:Sl Zl):Fc Sy cL (mH B):=Fc.M 35 [enc B] (b_ 8 B (ck 2 4 [0,6] 10 (bK 2 6 (bT 1 λu _=>bH 2) (bH 4)) λw=>bA))
def fH(G:Int)(B:Sl Zl)(O:Int)(J:Sl Zl):bt Zl:=bE (O==18) ((idx J G).bind λI=>(bE I (some true) ((lK B).bind λL=>some L):bt Zl).bind λQ=>some Q) (bE (O==19) ((idx J G).bind λS=>(bE S (some true) ((mH B).bind λT=>some T):bt Zl).bind λU=>some U) (bE (O==20) ((idx J G).bind λW=>(bE W ((bE ((len B)==0) (some true) ((lK B).bind λX=>some X):bt Zl).bind λY=>some Y) (some false):bt Zl).bind λu=>some u) ((idx J G).bind λw=>(bE w ((bE ((len B)==0) (some true) ((mH B).bind λz=>some z):bt Zl).bind λC=>some C) (some false):bt Zl).bind λD=>some D)))
instance D7(D:Int)(B:Sl Zl)(G:Int)(J:Sl Zl):Fc Sy cL (fH D B G J):=Fc.M 60 [.int .i64 D,enc B,.fptr (cells G),.fptr (cells J)] (bK 18 8 (bU 5 λL _=>ck 2 3 [1,14] 17 (bK 2 14 (bH 3) (bT 1 λO _=>bH 1)) λQ=>bA) (bK 7 18 (bU 5 λS _=>ck 2 3 [1,24] 27 (bK 2 24 (bH 3) (bT 1 λT _=>bH 1)) λU=>bA) (bK 7 28 (bU 5 λW _=>ck 2 8 [1,34] 42 (bK 2 34 (b_ 1 B (ck 2 3 [1,38] 41 (bK 2 38 (bH 3) (bT 1 λX _=>bH 1)) λY=>bH 1)) (bH 8)) λu=>bA) (bU 8 λw _=>ck 2 8 [1,47] 55 (bK 2 47 (b_ 1 B (ck 2 3 [1,51] 54 (bK 2 51 (bH 3) (bT 1 λz _=>bH 1)) λC=>bH 1)) (bH 8)) λI=>bA))))
namespace dm
def ct(U:bW)(D:Sl Zl)(W:Int)(J:Zg)(O:Int)(B:Sl Zl)(G:Int)(p1:(Int×(Sl Zl))->bt Zl):bt (Fw ((Sl Zl)×Int) (Sl Zl) Empty):=bE (decide (G<O)) ((idx J G).bind λu=>(Sl.l_ D u).bind λw=>(Sl.get D w).bind λz=>(jt B (z:Zl)).bind λC=>some (.n (C,wrap .i64 (G+1)))) (some (.x B))
def W2(J:bW)(B:Sl Zl)(G:Int)(D:Sl Zl)(O:Zg)(U W:Int)(p1:(Int×(Sl Zl))->bt Zl):bt (Fw ((Sl Zl)×Int) (Sl Zl) Empty):=(b8 (λq:(Sl Zl)×Int=>ct J B G O U q.1 q.2 p1) (D,W)).bind (Fw.elim (λe=>(p1 (G,e)).bind λu=>(Sl.l_ B G).bind λw=>(Sl.put B w (u:Zl)).bind λz=>some (.n (z,wrap .i64 (G-1)))) (λe=>elim e))
def bG(D:bW)(B:Sl Zl)(G:Int)(p1:(Int×(Sl Zl))->bt Zl):bt (Fw ((Sl Zl)×Int) (Sl Zl) Empty):=bE (decide (G>=0)) ((idx D.next G).bind λu=>W2 D B G (Sl.nil:Sl Zl) u (len u) 0 p1) (some (.x B))
def W1(D:bW)(B:Sl Zl)(G:Int)(p1:(Int×(Sl Zl))->bt Zl):bt (Sl Zl):=(b8 (λq:(Sl Zl)×Int=>bG D q.1 q.2 p1) (B,G)).bind (Fw.elim (λe=>some e) (λe=>elim e))
end dm
def dm(B:bW)(p1:(Int×(Sl Zl))->bt Zl):bt (Sl Zl):=(qw (len B.l) (false:Zl)).bind λu=>dm.W1 B u (wrap .i64 ((len B.l)-1)) p1
open dm in
abbrev pR(g1:FuncId)(e1:a_ V)(p1:(Int×(Sl Bool))->bt Bool)(a:nk Sy cL g1 [] e1 (λz:Int×(Sl Bool)=>[.int .i64 z.1,enc z.2]) (λr:Bool=>[.bool r]) p1 true)(B:bW):Fc Sy cL (dm B p1):=Fc.N 33 [.fptr (cells B),.clo g1 [] e1] (b_ 11 B.l (HO 0 15 λL _=>b_ 10 B.l (jN 7 (λu=>(bS [Kv 0 B,(1,.v (.clo g1 [] e1)),Ov 5,Iv 6 u.2] [Lb 2005 u.1])) (λG=>(0,(bS [Ov 5] [Lb 2005 G]))) (λu=>bK 9 23 (bU 18 λw _=>b_ 1 w (jN 7 (λC=>(bS [Kv 0 B,(1,.v (.clo g1 [] e1)),Ov 5,Iv 6 u.2,Ov 7,Cv 32 w,Iv 33 (len w),Iv 34 C.2] [Lb 2005 u.1,Lb 2007 C.1])) (λD=>(2,(bS [Kv 0 B,(1,.v (.clo g1 [] e1)),Ov 5,Iv 6 u.2,Ov 7] [Lb 2005 u.1,Lb 2007 D]))) (λC=>bK 9 35 (bU 7 λO _=>mR .i64 8 2005 λQ _=>uy 0 2005 0 1 false (λI=>.bool I) λI _=>qy 1 2007 43 44 λS _=>bA) bA) (λD=>vm 9 a.f (u.2,D) λJ _=>mR .i64 0 2005 λT _=>wX 0 2005 (.bool J) λU _=>bA))) bA) (λG=>bA))))
def mO(D:bW)(B:Int)(G:Sl Zl):bt (Sl Zl):=(dm D (λz=>fH z.1 z.2 B G)).bind λu=>some u
instance GH(G:bW)(B:Int)(D:Sl Zl):Fc Sy cL (mO G B D):=Fc.N 32 [.fptr (cells G),.int .i64 B,enc D] (ec 3 5 D (bT (F:=pR 60 [.fptr (cells B),.fptr (cells D)] (λz=>fH z.1 z.2 B D) nk.uC G) 9 λu _=>bA))
def nV(G:Zj)(B:Int)(J:Sl Zl):bt ((Sl Zl)×Int):=(eu G).bind λz=>bE z ((pV B).bind λC=>bE C ((dG G).bind λu=>bE (u.2==0) ((u.1).bind λw=>bE ((len J)==(len w.l)) ((mO w B J).bind λD=>some (D,0)) (some (Sl.nil,3))) (some (Sl.nil,u.2))) (some (Sl.nil,2))) (some (Sl.nil,1))
instance Ou(G:Zj)(B:Int)(D:Sl Zl):Fc Sy cL (nV G B D):=Fc.N 9 [enc G,.int .i64 B,enc D] (ec 2 3 G (bT 9 λC _=>ez 4 10 (bT 4 λI _=>ez 4 14 (bT 7 λu _=>ez 16 23 (b_ 4 D (Mi 1 (λz=>(bS [Iv 1 B,Cv 2 D,Bv 10 false,Bv 14 false,Cv 8 z,Iv 9 u.2,Bv 23 false,Iv 29 (len D),Cv 30 z] [Xb 3 G])) λw _=>b_ 3 w.l (ez 4 27 (bT 9 λJ _=>bA) bA))) bA) bA) bA))
def dR(B:Int)(D:Sl Zl)(G:Zj)(J:Zl):bt ((Sl Zl)×Zl):=(nV G B D).bind λu=>(bE J (some (u.2==0)) (some false):bt Zl).bind λw=>(bE w (some ((len u.1)==(len D))) (some false):bt Zl).bind λz=>some (u.1,z)
abbrev fT(B:Int)(D:Sl Bool)(G:Trace)(J:Bool):Ez Sy cL (dR B D G J):=Ez.mk' 8 [iv B,cv D,.v (.fptr (cells G)),.ptr 9001 0] [(9001,bx (J:Bool))] (λr:(Sl Bool)×Bool=>[enc r.1]) (λr:(Sl Bool)×Bool=>[(9001,bx (r.2:Bool))]) (bT 10 λu _=>ck 11 3 [8,17] 20 (bK 11 17 (bH 3) (bH 3)) λw=>ck 1 6 [1,21] 27 (bK 1 21 (b_ 1 u.1 (b_ 1 D (bH 2))) (bH 6)) λz=>bA)
def kB(D:Int)(B:Sl Zl)(Y:Zl)(U W:Sl Zl):bt Zl:=bE Y ((idx U D).bind λw=>(bE w (some true) ((idx W D).bind λz=>(bE z ((mH B).bind λC=>some C) (some false):bt Zl).bind λG=>some G):bt Zl).bind λI=>some I) ((idx U D).bind λJ=>(bE J (some true) ((idx W D).bind λL=>(bE L ((lK B).bind λO=>some O) (some false):bt Zl).bind λQ=>some Q):bt Zl).bind λu=>some u)
instance J6(D:Int)(B:Sl Zl)(G:Zl)(J O:Sl Zl):Fc Sy cL (kB D B G J O):=Fc.M 34 [.int .i64 D,enc B,.fptr (cells G),.fptr (cells J),.fptr (cells O)] (bK 11 8 (bU 5 λw _=>ck 2 9 [0,1,4,13] 22 (bK 2 13 (bH 9) (bU 2 λz _=>ck 2 3 [1,18] 21 (bK 2 18 (bT 1 λC _=>bH 1) (bH 3)) λI=>bH 1)) λL=>bA) (bU 7 λQ _=>ck 2 9 [0,1,4,27] 36 (bK 2 27 (bH 9) (bU 2 λS _=>ck 2 3 [1,32] 35 (bK 2 32 (bT 1 λT _=>bH 1) (bH 3)) λU=>bH 1)) λu=>bA))
def mP(J:Zj)(a1 O:Sl Zl)(B:Zl):bt ((Sl Zl)×Int):=(eu J).bind λC=>bE C ((dG J).bind λu=>bE (u.2==0) ((u.1).bind λw=>(bE ((len a1)==(len w.l)) (some (!((len O)==(len w.l)))) (some true):bt Zl).bind λD=>bE D (some (Sl.nil,3)) ((dm w (λz=>kB z.1 z.2 B O a1)).bind λG=>some (G,0))) (some (Sl.nil,u.2))) (some (Sl.nil,1))
instance Mj(G:Zj)(a1 D:Sl Zl)(B:Zl):Fc Sy cL (mP G a1 D B):=Fc.N 10 [enc G,enc a1,enc D,.bool B] (ec 2 4 G (ec 0 5 a1 (ec 0 6 D (bT 9 λI _=>ez 3 14 (bT 6 λw _=>ez 16 20 (b_ 4 a1 (Mi 1 (λC=>(bS [Pv 5,Pv 6,Pv 7,Bv 14 false,Cv 10 C,Iv 11 w.2,Bv 20 false,Iv 26 (len a1),Cv 27 C] [Xb 4 G,(5,.box [cv a1]),(6,.box [cv D]),(7,.box [bv B])])) λu _=>b_ 3 u.l (ck 2 9 [33] 42 (ez 2 33 (b_ 1 D (b_ 4 u.l (bH 2))) (bH 9)) λJ=>bK 3 24 bA (bT (F:=pR 34 [.fptr (cells B),.fptr (cells D),.fptr (cells a1)] (λz=>kB z.1 z.2 B D a1) nk.uC u) 11 λL _=>bA)))) bA) bA))))
namespace eF
def bG(D G:Sl Zl)(J:Int)(B:Int):bt (Fw Int Unit Unit):=bE (decide (B<J)) ((idx D B).bind λu=>(idx G B).bind λw=>bE (u==w) (some (.n (wrap .i64 (B+1)))) (some (.r ()))) (some (.x ()))
def W1(B D:Sl Zl)(G J:Int):bt Zl:=(b8 (λq:Int=>bG B D G q) J).bind (Fw.elim (λe=>some true) (λe=>some false))
end eF
def eF(B D:Sl Zl):bt Zl:=bE ((len B)==(len D)) (eF.W1 B D (len B) 0) (some false)
open eF in
instance J8(B D:Sl Zl):Fc Sy cL (eF B D):=Fc.M 11 [enc B,enc D] (b_ 9 B (b_ 1 D (ez 3 10 (b_ 7 B (ey 5 (λw=>(bS [Cv 0 B,Cv 1 D,Iv 12 (len B),Iv 13 w] [])) (λu=>(0,(bS [] []))) (λu=>(bS [Bv 4 false] [])) (λw=>bK 7 14 (bU 15 λz _=>bU 3 λC _=>ez 4 24 bA bA) bA) (λu=>bA) (λu=>bA))) bA)))
def pZ(D:Zg)(p1:Int):bt Zg:=(tG (Sl.row []:Zg) D).bind λu=>(Sl.l_ u p1).bind λw=>(Sl.get u w).bind λz=>(Sl.l_ u p1).bind λB=>(Sl.put u B (wrap .i64 (z+1):Int)).bind λC=>some C
instance QJ(B:Zg)(p1:Int):Fc Sy cL (pZ B p1):=Fc.N 38 [enc B,.int .i64 p1] (J9 9 6 8 λw _=>mR .i64 9 8 λz _=>uy 0 8 0 1 false (λu=>.int .i64 u) λu _=>mR .i64 1 8 λC _=>wX 0 8 (.int .i64 (wrap .i64 (u+1))) λD _=>bA)
namespace mc
def bG(B:Zg)(D:Zj)(p5:Int):bt (Fw Int Unit Unit):=bE (decide (p5<(len B))) ((idx B p5).bind λu=>(bE (decide (u<0)) (some true) ((idx B p5).bind λw=>(idx D.procs p5).bind λz=>some (decide (w>(len z.events)))):bt Zl).bind λC=>bE C (some (.r ())) (some (.n (wrap .i64 (p5+1))))) (some (.x ()))
def W1(B:Zg)(p5:Int)(D:Zj):bt Zl:=(b8 (λq:Int=>bG B D q) p5).bind (Fw.elim (λe=>some true) (λe=>some false))
end mc
def mc(D:Zj)(B:Zg):bt Zl:=bE ((len B)==(len D.procs)) (mc.W1 B 0 D) (some false)
open mc in
instance Q9(D:Zj)(B:Zg):Fc Sy cL (mc D B):=Fc.M 62 [enc D,enc B] (ec 2 2 D (b_ 7 B (b_ 2 D.procs (ez 3 11 (ey 11 (λw=>(bS [Cv 1 B,Pv 2,Iv 5 w] [Xb 2 D])) (λu=>(0,(bS [] []))) (λu=>(bS [Bv 4 false] [])) (λw=>b_ 6 B (bK 3 15 (bU 9 λC _=>ck 3 13 [23] 36 (bK 3 23 (bH 13) (bU 2 λG _=>bU 4 λz _=>b_ 2 z.events (bH 2))) λI=>bK 2 36 bA bA) bA)) (λu=>bA) (λu=>bA)) bA))))
namespace dL
def ct(B:Zg)(p5:Int)(D:Zj)(G:Int):bt (Fw Int Unit Unit):=(idx B p5).bind λz=>bE (decide (G<z)) ((idx D.procs p5).bind λC=>(idx C.events G).bind λu=>bE (u.kind==3) ((dN D 2 u.message).bind λw=>(idx B w.proc).bind λI=>bE (decide (w.index>I)) (some (.r ())) (some (.n (wrap .i64 (G+1))))) (some (.n (wrap .i64 (G+1))))) (some (.x ()))
def W2(B:Zg)(p5 G:Int)(D:Zj):bt (Fw Int Unit Unit):=(b8 (λq:Int=>ct B p5 D q) G).bind (Fw.elim (λe=>some (.n (wrap .i64 (p5+1)))) (λe=>some (.r ())))
def bG(B:Zg)(D:Zj)(p5:Int):bt (Fw Int Unit Unit):=bE (decide (p5<(len B))) (W2 B p5 0 D) (some (.x ()))
def W1(B:Zg)(p5:Int)(D:Zj):bt Zl:=(b8 (λq:Int=>bG B D q) p5).bind (Fw.elim (λe=>some true) (λe=>some false))
end dL
def dL(D:Zj)(B:Zg):bt Zl:=dL.W1 B 0 D
open dL in
instance J5(D:Zj)(B:Zg):Fc Sy cL (dL D B):=Fc.M 63 [enc D,enc B] (ec 2 2 D (ey 11 (λu=>(bS [Cv 1 B,Pv 2,Iv 5 u] [Xb 2 D])) (λw=>(0,(bS [] []))) (λw=>(bS [Bv 4 false] [])) (λu=>b_ 6 B (bK 3 12 (ey 12 (λC=>(bS [Cv 1 B,Pv 2,Iv 5 u,Iv 6 C] [Xb 2 D])) (λz=>(2,(bS [Cv 1 B,Pv 2,Iv 5 u] [Xb 2 D]))) (λz=>(bS [Bv 4 false] [])) (λC=>bU 7 λI _=>bK 4 20 (bU 10 λJ _=>bU 3 λG _=>oW 2 7 0 G (bK 9 34 (bT 6 λL _=>bU 11 λO _=>bK 4 46 bA bA) bA)) bA) (λz=>bA) (λz=>bA)) bA)) (λw=>bA) (λw=>bA)))
def vf(B:Zj)(D:Zg):bt Zl:=(mc B D).bind λu=>(bE u ((dL B D).bind λw=>some w) (some false):bt Zl).bind λz=>some z
instance SE(B:Zj)(D:Zg):Fc Sy cL (vf B D):=Fc.M 37 [enc B,enc D] (ec 2 2 B (bT 7 λu _=>ck 1 4 [1,2,8] 12 (bK 1 8 (bT 2 λw _=>bH 1) (bH 4)) λz=>bA))
namespace iK
def bG(G:Zg)(D:Zj)(B:Zb)(p6:Int):bt (Fw ((Zb)×Int) Zb Empty):=bE (decide (p6<(len G))) ((idx G p6).bind λu=>(idx D.procs p6).bind λw=>(bE (decide (u<(len w.events))) ((pZ G p6).bind λz=>(vf D z).bind λC=>some C) (some false):bt Zl).bind λI=>bE I ((pZ G p6).bind λJ=>(jt B (J:Zg)).bind λL=>some (.n (L,wrap .i64 (p6+1)))) (some (.n (B,wrap .i64 (p6+1))))) (some (.x B))
def W1(G:Zg)(B:Zb)(p6:Int)(D:Zj):bt Zb:=(b8 (λq:(Zb)×Int=>bG G D q.1 q.2) (B,p6)).bind (Fw.elim (λe=>some e) (λe=>elim e))
end iK
def iK(B:Zj)(D:Zg):bt Zb:=iK.W1 D (Sl.nil:Zb) 0 B
open iK in
instance QX(B:Zj)(D:Zg):Fc Sy cL (iK B D):=Fc.N 12 [enc B,enc D] (ec 2 2 B (jN 17 (λu=>(bS [Cv 1 D,Pv 2,Ov 5,Iv 6 u.2] [Xb 2 B,Lb 2005 u.1])) (λw=>(0,(bS [Ov 5] [Lb 2005 w]))) (λu=>b_ 7 D (bK 3 10 (bU 9 λI _=>bU 4 λC _=>b_ 2 C.events (uc 2 6 [30,29] (λz=>(bS [Cv 1 D,Pv 2,Ov 5,Iv 6 u.2,Bv 10 true,Bv 31 z] [Xb 2 B,Lb 2005 u.1])) (bK 2 25 (bT 3 λJ _=>kr 0 λL _=>bH 1) (bH 6)) λz=>bK 2 31 (bT 5 λG _=>EM 0 36 ([G]:a_ Zg) (qy 0 2005 36 37 λO _=>bA)) bA)) bA)) (λw=>bA)))
namespace eT
def bG(a0 D:Zg)(B:Int):bt (Fw Int Unit Unit):=bE (decide (B<(len a0))) ((idx a0 B).bind λu=>(idx D B).bind λw=>bE (u==w) (some (.n (wrap .i64 (B+1)))) (some (.r ()))) (some (.x ()))
def W1(a0 B:Zg)(D:Int):bt Zl:=(b8 (λq:Int=>bG a0 B q) D).bind (Fw.elim (λe=>some true) (λe=>some false))
end eT
def eT(a0 B:Zg):bt Zl:=bE ((len a0)==(len B)) (eT.W1 a0 B 0) (some false)
open eT in
instance L8(a0 B:Zg):Fc Sy cL (eT a0 B):=Fc.M 39 [enc a0,enc B] (b_ 9 a0 (b_ 1 B (ez 3 10 (ey 11 (λw=>(bS [Cv 0 a0,Cv 1 B,Iv 5 w] [])) (λu=>(0,(bS [] []))) (λu=>(bS [Bv 4 false] [])) (λw=>b_ 6 a0 (bK 3 14 (bU 9 λz _=>bU 3 λC _=>ez 4 25 bA bA) bA)) (λu=>bA) (λu=>bA)) bA)))
namespace mz
def bG(D:Zb)(G:Zg)(B:Int):bt (Fw Int Unit Int):=bE (decide (B<(len D))) ((idx D B).bind λu=>(eT u G).bind λw=>bE w (some (.r B)) (some (.n (wrap .i64 (B+1))))) (some (.x ()))
def W1(B:Zb)(D:Zg)(G:Int):Z6:=(b8 (λq:Int=>bG B D q) G).bind (Fw.elim (λe=>some (-1)) (λe=>some e))
end mz
def mz(B:Zb)(D:Zg):Z6:=mz.W1 B D 0
open mz in
instance QY(B:Zb)(D:Zg):Fc Sy cL (mz B D):=Fc.M 13 [enc B,enc D] (ey 13 (λw=>(bS [Cv 0 B,Cv 1 D,Iv 5 w] [])) (λu=>(0,(bS [] []))) (λu=>(bS [Iv 4 u] [])) (λw=>b_ 6 B (bK 3 9 (bU 9 λz _=>bT 2 λC _=>bK 2 17 bA bA) bA)) (λu=>bA) (λu=>bA))
def gI(B:Int)(D:Sl Zl):bt Zl:=(idx D B).bind λu=>some u
instance DD(B:Int)(D:Sl Zl):Fc Sy cL (gI B D):=Fc.M 16 [.int .i64 B,.fptr (cells D)] (bU 9 λu _=>bA)
namespace gf
def bG(D:Zg)(G:Int)(B:Int)(p1:Int->bt Zl):bt (Fw Int Unit Int):=bE (decide (B<G)) ((idx D B).bind λu=>(p1 u).bind λw=>bE w (some (.r B)) (some (.n (wrap .i64 (B+1))))) (some (.x ()))
def W1(B:Zg)(D G:Int)(p1:Int->bt Zl):Z6:=(b8 (λq:Int=>bG B D q p1) G).bind (Fw.elim (λe=>some (-1)) (λe=>some e))
end gf
def gf(B:Zg)(p1:Int->bt Zl):Z6:=gf.W1 B (len B) 0 p1
open gf in
abbrev vG(g1:FuncId)(e1:a_ V)(p1:Int->bt Bool)(a:nk Sy cL g1 [] e1 (λz:Int=>[.int .i64 z]) (λr:Bool=>[.bool r]) p1 true)(B:Sl Int):Fc Sy cL (gf B p1):=Fc.M 40 [enc B,.clo g1 [] e1] (b_ 9 B (ey 5 (λw=>(bS [Cv 0 B,(1,.v (.clo g1 [] e1)),Iv 7 (len B),Iv 8 w] [])) (λu=>(0,(bS [] []))) (λu=>(bS [Iv 4 u] [])) (λw=>bK 7 9 (bU 16 λC _=>vm 1 a.f C λD _=>bK 2 16 bA bA) bA) (λu=>bA) (λu=>bA)))
def ij(B:Zg)(p1:Int->bt Zl):bt Zl:=(gf B p1).bind λu=>some (decide (u>=0))
abbrev ox(g1:FuncId)(e1:a_ V)(p1:Int->bt Bool)(a:nk Sy cL g1 [] e1 (λz:Int=>[.int .i64 z]) (λr:Bool=>[.bool r]) p1 true)(B:Sl Int):Fc Sy cL (ij B p1):=Fc.M 15 [enc B,.clo g1 [] e1] (bT (F:=vG g1 e1 p1 a B) 9 λu _=>bA)
def iN(B:Sl Zl)(D:Zg):bt Zl:=(ij D (λz=>gI z B)).bind λu=>some u
instance FJ(B:Sl Zl)(D:Zg):Fc Sy cL (iN B D):=Fc.M 14 [enc B,.fptr (cells D)] (ec 2 2 B (kr (F:=ox 16 [.fptr (cells B)] (λz=>gI z B) nk.uC D) 7 λu _=>bA))
def gM(B:Int)(D:Sl Zl):bt Zl:=(idx D B).bind λu=>some (!u)
instance Dv(B:Int)(D:Sl Zl):Fc Sy cL (gM B D):=Fc.M 18 [.int .i64 B,.fptr (cells D)] (bU 9 λu _=>bA)
def iL(B:Sl Zl)(D:Zg):bt Zl:=(ij D (λz=>gM z B)).bind λu=>some (!u)
instance FU(B:Sl Zl)(D:Zg):Fc Sy cL (iL B D):=Fc.M 17 [enc B,.fptr (cells D)] (ec 2 2 B (kr (F:=ox 18 [.fptr (cells B)] (λz=>gM z B) nk.uC D) 7 λu _=>bA))
namespace cQ
def eP(a:Sl Zl)(b:Zj)(G:Zb)(Y c d e J O:Sl Zl)(f:Int)(g:Zb)(h i:Int)(U:Zb)(W:Int)(B:Int)(D:Zg):bt (Fw (Int×(Zg)) Zg Empty):=bE (decide (B<W)) ((idx U B).bind λu=>(mz G u).bind λw=>(jt D (w:Int)).bind λz=>some (.n (wrap .i64 (B+1),z))) (some (.x D))
def W3(a:Sl Zl)(b:Zj)(c:Zb)(D G J O U W:Sl Zl)(B:Int)(d:Zb)(f Y:Int)(g:Zb)(h i:Int)(j:Zg):bt (Fw Int Unit Unit):=(b8 (λq:Int×(Zg)=>eP a b c D G J O U W B d f Y g h q.1 q.2) (i,j)).bind (Fw.elim (λe=>(idx D B).bind λu=>(idx a B).bind λw=>(bE w (some true) ((iN D e).bind λz=>some z):bt Zl).bind λC=>(bE (u==C) ((idx G B).bind λI=>(idx a B).bind λL=>(bE L (some true) ((iL G e).bind λQ=>some Q):bt Zl).bind λS=>some (!(I==S))) (some true):bt Zl).bind λT=>(bE T (some true) ((idx J B).bind λX=>(idx a B).bind λZ=>(bE Z ((iN J e).bind λk=>some k) (some false):bt Zl).bind λl=>some (!(X==l))):bt Zl).bind λm=>(bE m (some true) ((idx O B).bind λn=>(idx a B).bind λo=>(bE o ((iL O e).bind λp=>some p) (some false):bt Zl).bind λr=>some (!(n==r))):bt Zl).bind λs=>bE s (some (.r ())) (some (.n (wrap .i64 (Y+1))))) (λe=>elim e))
def ct(a:Sl Zl)(b:Zj)(d:Zb)(W D O U G J:Sl Zl)(Y:Zb)(c:Int)(B:Int):bt (Fw Int Unit Unit):=bE (decide (B<c)) ((idx Y B).bind λw=>(idx U B).bind λz=>(idx G B).bind λC=>(bE (z==C) (some true) ((idx D B).bind λI=>(idx J B).bind λL=>some (I==L)):bt Zl).bind λQ=>(bE Q (some true) ((idx U B).bind λS=>(bE S ((idx O B).bind λT=>some (!T)) (some false):bt Zl).bind λX=>some X):bt Zl).bind λZ=>(bE Z (some true) ((idx O B).bind λe=>(bE e ((idx a B).bind λf=>some (!f)) (some false):bt Zl).bind λg=>some g):bt Zl).bind λh=>(bE h (some true) ((idx a B).bind λi=>(bE i ((idx D B).bind λj=>some (!j)) (some false):bt Zl).bind λk=>some k):bt Zl).bind λl=>(bE l (some true) ((idx D B).bind λm=>(bE m ((idx W B).bind λn=>some (!n)) (some false):bt Zl).bind λo=>some o):bt Zl).bind λp=>bE p (some (.r ())) ((iK b w).bind λu=>bE ((len u)==0) ((idx W B).bind λq=>(idx a B).bind λr=>(bE (q==r) ((idx D B).bind λs=>(idx a B).bind λt=>some (!(s==t))) (some true):bt Zl).bind λv=>(bE v (some true) ((idx O B).bind λx=>(idx a B).bind λy=>some (!(x==y))):bt Zl).bind λA=>(bE A (some true) ((idx U B).bind λE=>(idx a B).bind λF=>some (!(E==F))):bt Zl).bind λH=>bE H (some (.r ())) (some (.n (wrap .i64 (B+1))))) (W3 a b d W D O U G J B Y c B u (len u) 0 (Sl.nil:Zg)))) (some (.x ()))
def W2(a:Sl Zl)(b:Zj)(G:Zb)(J O U W B D:Sl Zl)(Y:Zb)(c d:Int):bt Zl:=(b8 (λq:Int=>ct a b G J O U W B D Y c q) d).bind (Fw.elim (λe=>some true) (λe=>some false))
def bG(U:Sl Zl)(O:Zb)(J:Int)(W:Zj)(B D:Sl Zl)(G:Int):bt (Fw ((Sl Zl)×(Sl Zl)×Int) ((Sl Zl)×(Sl Zl)) Empty):=bE (decide (G<J)) ((idx U G).bind λu=>(Sl.l_ B G).bind λw=>(Sl.put B w ((!u):Zl)).bind λz=>(Sl.l_ D G).bind λC=>(Sl.put D C (true:Zl)).bind λI=>some (.n (z,I,wrap .i64 (G+1)))) (some (.x (B,D)))
def W1(J:Sl Zl)(D:Zb)(G U:Sl Zl)(a b:Int)(B:Zj):bt Zl:=(b8 (λq:(Sl Zl)×(Sl Zl)×Int=>bG J D a B q.1 q.2.1 q.2.2) (G,U,b)).bind (Fw.elim (λe=>(dR 18 J B true).bind λu=>(dR 19 J B u.2).bind λw=>(dR 20 J B w.2).bind λz=>(dR 21 J B z.2).bind λC=>(dR 18 e.1 B C.2).bind λI=>(dR 20 e.1 B I.2).bind λL=>(mP B e.2 J false).bind λO=>(mP B e.2 J true).bind λQ=>(bE L.2 (some (!(O.2==0))) (some true):bt Zl).bind λS=>(bE S (some true) (some (!(Q.2==0))):bt Zl).bind λT=>(bE T (some true) ((eF O.1 u.1).bind λW=>some (!W)):bt Zl).bind λX=>(bE X (some true) ((eF Q.1 w.1).bind λY=>some (!Y)):bt Zl).bind λZ=>bE Z (some false) (cQ.W2 J B D u.1 w.1 z.1 C.1 I.1 L.1 D (len D) 0)) (λe=>elim e))
end cQ
def cQ(D:Zj)(B:Sl Zl):bt Zl:=(uM).bind λw=>bE w ((iR D).bind λz=>(bE z (some true) (some (decide ((len B)>1000))):bt Zl).bind λC=>(bE C (some true) ((rT D).bind λG=>some (!G)):bt Zl).bind λI=>bE I (some true) ((mZ D).bind λu=>(bE (u.2==0) (some (!((len u.1)==(len B)))) (some true):bt Zl).bind λJ=>bE J (some true) ((qw (len B) (false:Zl)).bind λL=>(qw (len B) (false:Zl)).bind λO=>cQ.W1 B u.1 L O (len B) 0 D))) (some false)
set_option maxHeartbeats 1000000 in
open cQ in
instance v_(O:Zj)(J:Sl Zl):Fc Sy cL (cQ O J):=Fc.M 3 [enc O,enc J] (ec 2 2 O (bT 6 λj _=>ez 3 31 (bT 7 λk _=>ck 1 4 [34] 38 (bK 1 34 (bH 4) (b_ 1 J (bH 2))) λl=>ck 1 4 [39] 43 (bK 1 39 (bH 4) (bT 1 λm _=>bH 2)) λn=>bK 2 43 bA (bT 6 λu _=>ck 13 6 [51] 57 (ez 13 51 (b_ 1 u.1 (b_ 1 J (bH 2))) (bH 6)) λo=>bK 2 57 bA (b_ 6 J (HO 0 60 λp _=>b_ 6 J (HO 0 63 λq _=>b_ 7 J (jN 7 (λT=>(bS [Cv 1 J,Pv 2,Cv 5 u.1,Ov 7,Ov 8,Iv 65 (len J),Iv 66 T.2.2] [Xb 2 O,Lb 2007 T.1,Lb 2008 T.2.1])) (λS=>(0,(bS [Cv 1 J,Pv 2,Cv 5 u.1,Ov 7,Ov 8] [Xb 2 O,Lb 2007 S.1,Lb 2008 S.2]))) (λT=>bK 9 67 (bU 18 λe _=>mR .i64 2 2007 λr _=>wX 0 2007 (.bool (!e)) λs _=>mR .i64 0 2008 λt _=>wX 0 2008 (.bool true) λv _=>bA) bA) (λS=>vV 20 (fT 18 J O true) λz _=>vV 2 (fT 19 J O z.2) λB _=>vV 2 (fT 20 J O B.2) λC _=>vV 2 (fT 21 J O C.2) λD _=>vV 11 (fT 18 S.1 O D.2) λG _=>vV 2 (fT 20 S.1 O G.2) λI _=>bT 10 λx _=>bT 12 λy _=>ck 13 3 [19,116] 119 (ez 13 116 (bH 3) (bH 3)) λA=>ck 1 3 [21,120] 123 (bK 1 120 (bH 3) (bH 3)) λE=>ck 1 5 [18,124] 129 (bK 1 124 (bH 5) (bT 2 λF _=>bH 2)) λH=>ck 1 5 [20,130] 135 (bK 1 130 (bH 5) (bT 2 λK _=>bH 2)) λM=>bK 2 135 bA (b_ 7 u.1 (ey 5 (λw=>(bS [Cv 1 J,Kv 2 O,Cv 5 u.1,Cv 12 z.1,Cv 13 B.1,Cv 14 C.1,Cv 15 D.1,Cv 16 G.1,Cv 17 I.1,Cv 136 u.1,Iv 137 (len u.1),Iv 138 w] [])) (λa=>(2,(bS [] []))) (λa=>(bS [Bv 4 false] [])) (λw=>bK 7 139 (bU 8 λN _=>bU 10 λP _=>bU 3 λR _=>ck 3 10 [152] 162 (bK 3 152 (bH 10) (bU 2 λV _=>bU 3 λaE _=>bH 3)) λaF=>ck 1 12 [163] 175 (bK 1 163 (bH 12) (bU 2 λaG _=>ck 2 6 [168] 174 (bK 2 168 (bU 2 λaH _=>bH 3) (bH 6)) λaI=>bH 1)) λaJ=>ck 1 12 [176] 188 (bK 1 176 (bH 12) (bU 2 λaK _=>ck 2 6 [181] 187 (bK 2 181 (bU 2 λaL _=>bH 3) (bH 6)) λaM=>bH 1)) λaN=>ck 1 12 [189] 201 (bK 1 189 (bH 12) (bU 2 λaO _=>ck 2 6 [194] 200 (bK 2 194 (bU 2 λaP _=>bH 3) (bH 6)) λaQ=>bH 1)) λaR=>ck 1 12 [202] 214 (bK 1 202 (bH 12) (bU 2 λaS _=>ck 2 6 [207] 213 (bK 2 207 (bU 2 λaT _=>bH 3) (bH 6)) λaU=>bH 1)) λaV=>bK 2 214 bA (bT 7 λQ _=>b_ 7 Q (bK 3 220 (bU 6 λaW _=>bU 3 λaX _=>ck 3 10 [230] 240 (ez 3 230 (bU 2 λaY _=>bU 3 λaZ _=>bH 3) (bH 10)) λa3=>ck 1 10 [241] 251 (bK 1 241 (bH 10) (bU 2 λa4 _=>bU 3 λa5 _=>bH 3)) λa6=>ck 1 10 [22,252] 262 (bK 1 252 (bH 10) (bU 2 λa7 _=>bU 3 λa8 _=>bH 3)) λa9=>bK 2 262 bA bA) (b_ 12 Q (jN 6 (λb=>(bS [Cv 1 J,Kv 2 O,Cv 5 u.1,Cv 12 z.1,Cv 13 B.1,Cv 14 C.1,Cv 15 D.1,Cv 16 G.1,Cv 17 I.1,Iv 22 w,Pv 25,Cv 136 u.1,Iv 137 (len u.1),Iv 138 w,Cv 263 Q,Iv 264 (len Q),Iv 265 b.1] [(25,.box [.own 4500]),Lb 4500 b.2])) (λL=>(4,(bS [Cv 1 J,Kv 2 O,Cv 5 u.1,Cv 12 z.1,Cv 13 B.1,Cv 14 C.1,Cv 15 D.1,Cv 16 G.1,Cv 17 I.1,Iv 22 w,Pv 25,Cv 136 u.1,Iv 137 (len u.1),Iv 138 w] [(25,.box [.own 4500]),Lb 4500 L]))) (λb=>bK 8 266 (bU 7 λba _=>kr 8 λbb _=>qy 1 4500 273 274 λbc _=>bA) bA) (λL=>bU 18 λf _=>bU 3 λbd _=>uc 2 4 [289] (λU=>(bS [Cv 1 J,Kv 2 O,Cv 5 u.1,Cv 12 z.1,Cv 13 B.1,Cv 14 C.1,Cv 15 D.1,Cv 16 G.1,Cv 17 I.1,Iv 22 w,Cv 136 u.1,Iv 137 (len u.1),Iv 138 w,(28,.clo 14 [] [.ptr 25 0]),(29,.clo 17 [] [.ptr 25 0]),Bv 281 f,Bv 290 U] [(25,.box [.own 4500]),Lb 4500 L])) (bK 2 286 (bH 4) (kr 2 λbe _=>bH 1)) λU=>uc 2 15 [304,289] (λW=>(bS [Cv 1 J,Kv 2 O,Cv 5 u.1,Cv 12 z.1,Cv 13 B.1,Cv 14 C.1,Cv 15 D.1,Cv 16 G.1,Cv 17 I.1,Iv 22 w,Cv 136 u.1,Iv 137 (len u.1),Iv 138 w,(28,.clo 14 [] [.ptr 25 0]),(29,.clo 17 [] [.ptr 25 0]),Bv 307 W] [(25,.box [.own 4500]),Lb 4500 L])) (ez 2 292 (bU 2 λg _=>bU 3 λbf _=>uc 2 4 [304,289] (λX=>(bS [Cv 1 J,Kv 2 O,Cv 5 u.1,Cv 12 z.1,Cv 13 B.1,Cv 14 C.1,Cv 15 D.1,Cv 16 G.1,Cv 17 I.1,Iv 22 w,Cv 136 u.1,Iv 137 (len u.1),Iv 138 w,(28,.clo 14 [] [.ptr 25 0]),(29,.clo 17 [] [.ptr 25 0]),Bv 292 false,Bv 296 g,Bv 305 X] [(25,.box [.own 4500]),Lb 4500 L])) (bK 2 301 (bH 4) (kr 2 λbg _=>bH 1)) λX=>bH 2) (bH 15)) λW=>uc 1 15 [320,304,289] (λY=>(bS [Cv 1 J,Kv 2 O,Cv 5 u.1,Cv 12 z.1,Cv 13 B.1,Cv 14 C.1,Cv 15 D.1,Cv 16 G.1,Cv 17 I.1,Iv 22 w,Cv 136 u.1,Iv 137 (len u.1),Iv 138 w,(29,.clo 17 [] [.ptr 25 0]),Bv 323 Y] [(25,.box [.own 4500]),Lb 4500 L])) (bK 1 308 (bH 15) (bU 2 λh _=>bU 3 λbh _=>uc 2 4 [320,304,289] (λZ=>(bS [Cv 1 J,Kv 2 O,Cv 5 u.1,Cv 12 z.1,Cv 13 B.1,Cv 14 C.1,Cv 15 D.1,Cv 16 G.1,Cv 17 I.1,Iv 22 w,Cv 136 u.1,Iv 137 (len u.1),Iv 138 w,(29,.clo 17 [] [.ptr 25 0]),Bv 308 false,Bv 312 h,Bv 321 Z] [(25,.box [.own 4500]),Lb 4500 L])) (bK 2 317 (kr 2 λbi _=>bH 1) (bH 4)) λZ=>bH 2)) λY=>uc 1 15 [336,320,304,289] (λc=>(bS [Cv 1 J,Kv 2 O,Cv 5 u.1,Cv 12 z.1,Cv 13 B.1,Cv 14 C.1,Cv 15 D.1,Cv 16 G.1,Cv 17 I.1,Cv 136 u.1,Iv 137 (len u.1),Iv 138 w,Bv 339 c] [(25,.box [.own 4500]),Lb 4500 L])) (bK 1 324 (bH 15) (bU 2 λi _=>bU 3 λbj _=>uc 2 4 [336,320,304,289] (λd=>(bS [Cv 1 J,Kv 2 O,Cv 5 u.1,Cv 12 z.1,Cv 13 B.1,Cv 14 C.1,Cv 15 D.1,Cv 16 G.1,Cv 17 I.1,Cv 136 u.1,Iv 137 (len u.1),Iv 138 w,Bv 324 false,Bv 328 i,Bv 337 d] [(25,.box [.own 4500]),Lb 4500 L])) (bK 2 333 (kr 2 λbk _=>bH 1) (bH 4)) λd=>bH 2)) λc=>bK 2 339 bA bA)))))) bA) (λa=>bA) (λa=>bA)))))))))) bA))
end
end Go.VE
