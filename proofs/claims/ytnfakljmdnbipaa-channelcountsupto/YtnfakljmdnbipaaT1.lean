/-
 The law's own awakening: what its calls come to. Printed by wip/gen/awake.py.
-/
import Derived.Test.YtnfakljmdnbipaaProg
import Derived.KernelRfl
import Derived.Test.YtnfakljmdnbipaaV2
set_option linter.all false
namespace Go.Proofs.Ytnfakljmdnbipaa
open Go.VE Go.Proofs
def CE:List (Nat×TD):=[
 (1,⟨1,8,[.aO],.other⟩),
 (2,⟨1,8,[.int .i64 0],.int (.i64)⟩),
 (3,⟨1,8,[.int .i64 0],.int (.i64)⟩),
 (4,⟨1,1,[.bool false],.bool⟩),
 (5,⟨1,1,[.int .u8 0],.int (.u8)⟩),
 (6,⟨1,1,[.int .u8 0],.int (.u8)⟩),
 (7,⟨4,24,[.int .i64 0,.int .i64 0,.bool false,.int .u8 0],.struct [(0,2),(1,3),(2,4),(3,6)]⟩),
 (8,⟨4,24,[.int .i64 0,.int .i64 0,.bool false,.int .u8 0],.struct [(0,2),(1,3),(2,4),(3,6)]⟩),
 (9,⟨1,16,[.str ByteArray.empty],.str⟩),
 (10,⟨1,16,[.str ByteArray.empty],.str⟩),
 (11,⟨1,16,[.str ByteArray.empty],.str⟩),
 (12,⟨1,8,[.int .u64 0],.int (.u64)⟩),
 (13,⟨2,24,[.str ByteArray.empty,.int .u64 0],.struct [(0,9),(1,12)]⟩),
 (14,⟨2,24,[.str ByteArray.empty,.int .u64 0],.struct [(0,9),(1,12)]⟩),
 (15,⟨1,8,[.cq],.ptr 147⟩),
 (16,⟨1,8,[.cq],.ptr 150⟩),
 (17,⟨1,8,[.cq],.ptr 160⟩),
 (18,⟨1,8,[.cq],.struct [(0,17)]⟩),
 (19,⟨1,8,[.cq],.struct [(0,17)]⟩),
 (21,⟨1,4,[.int .i32 0],.int (.i32)⟩),
 (22,⟨1,24,[.ay],.slice 37⟩),
 (23,⟨1,24,[.ay],.struct [(0,22)]⟩),
 (24,⟨1,24,[.ay],.struct [(0,22)]⟩),
 (25,⟨1,24,[.ay],.slice 3⟩),
 (26,⟨1,8,[.aO],.other⟩),
 (27,⟨1,8,[.aO],.other⟩),
 (28,⟨1,8,[.aO],.other⟩),
 (29,⟨1,8,[.aO],.other⟩),
 (30,⟨1,24,[.ay],.slice 25⟩),
 (31,⟨1,8,[.int .i64 0],.int (.i64)⟩)]
def B2:List (Nat×TD):=[
 (33,⟨1,8,[.aO],.other⟩),
 (34,⟨1,24,[.ay],.slice 117⟩),
 (35,⟨1,24,[.ay],.slice 40⟩),
 (36,⟨3,64,[.str ByteArray.empty,.ay,.ay],.struct [(0,9),(1,34),(2,35)]⟩),
 (37,⟨3,64,[.str ByteArray.empty,.ay,.ay],.struct [(0,9),(1,34),(2,35)]⟩),
 (38,⟨1,24,[.ay],.slice 123⟩),
 (39,⟨5,56,[.int .i64 0,.int .i64 0,.int .i64 0,.int .i64 0,.ay],.struct [(0,3),(1,3),(2,3),(3,3),(4,38)]⟩),
 (40,⟨5,56,[.int .i64 0,.int .i64 0,.int .i64 0,.int .i64 0,.ay],.struct [(0,3),(1,3),(2,3),(3,3),(4,38)]⟩),
 (42,⟨1,8,[.aO],.other⟩),
 (43,⟨1,8,[.aO],.other⟩),
 (44,⟨1,8,[.aO],.other⟩),
 (45,⟨1,8,[.aO],.other⟩),
 (46,⟨1,8,[.aO],.other⟩),
 (47,⟨1,8,[.aO],.other⟩),
 (48,⟨1,8,[.aO],.other⟩),
 (50,⟨1,8,[.aO],.other⟩),
 (51,⟨1,24,[.ay],.slice 30⟩),
 (52,⟨4,80,[.bool false,.ay,.ay,.ay],.struct [(0,4),(1,25),(2,25),(3,51)]⟩),
 (53,⟨4,80,[.bool false,.ay,.ay,.ay],.struct [(0,4),(1,25),(2,25),(3,51)]⟩),
 (55,⟨1,8,[.aO],.other⟩),
 (56,⟨1,8,[.aO],.other⟩),
 (57,⟨1,8,[.aO],.other⟩),
 (58,⟨1,8,[.aO],.other⟩),
 (59,⟨2,16,[.int .i64 0,.int .i64 0],.struct [(0,3),(1,3)]⟩),
 (60,⟨2,16,[.int .i64 0,.int .i64 0],.struct [(0,3),(1,3)]⟩),
 (62,⟨1,8,[.aO],.other⟩),
 (63,⟨1,8,[.aO],.other⟩),
 (64,⟨1,24,[.ay],.slice 60⟩),
 (66,⟨1,8,[.aO],.other⟩),
 (67,⟨4,64,[.int .i64 0,.int .i64 0,.ay,.ay],.struct [(0,3),(1,3),(2,25),(3,25)]⟩)]
def Be:List (Nat×TD):=[
 (68,⟨4,64,[.int .i64 0,.int .i64 0,.ay,.ay],.struct [(0,3),(1,3),(2,25),(3,25)]⟩),
 (69,⟨1,8,[.aO],.other⟩),
 (70,⟨1,8,[.aO],.other⟩),
 (71,⟨1,8,[.aO],.other⟩),
 (72,⟨1,8,[.aO],.other⟩),
 (73,⟨1,8,[.aO],.other⟩),
 (75,⟨1,8,[.aO],.other⟩),
 (76,⟨1,8,[.aO],.other⟩),
 (77,⟨1,8,[.aO],.other⟩),
 (78,⟨1,8,[.cq],.ptr 109⟩),
 (80,⟨1,8,[.aO],.other⟩),
 (81,⟨4,32,[.int .i64 0,.int .i64 0,.int .i64 0,.int .i64 0],.struct [(0,60),(2,60)]⟩),
 (83,⟨1,8,[.aO],.other⟩),
 (84,⟨1,8,[.aO],.other⟩),
 (86,⟨1,8,[.aO],.other⟩),
 (87,⟨1,8,[.aO],.other⟩),
 (88,⟨1,8,[.aO],.other⟩),
 (89,⟨1,8,[.aO],.other⟩),
 (90,⟨1,8,[.aO],.other⟩),
 (91,⟨1,8,[.aO],.other⟩),
 (92,⟨1,8,[.aO],.other⟩),
 (94,⟨1,8,[.aO],.other⟩),
 (95,⟨1,8,[.aO],.other⟩),
 (96,⟨1,8,[.aO],.other⟩),
 (97,⟨1,8,[.aO],.other⟩),
 (98,⟨1,8,[.aO],.other⟩),
 (99,⟨1,8,[.aO],.other⟩),
 (100,⟨1,8,[.aO],.other⟩),
 (101,⟨1,8,[.aO],.other⟩),
 (102,⟨1,8,[.aO],.other⟩)]
def Bi:List (Nat×TD):=[
 (103,⟨1,8,[.aO],.other⟩),
 (104,⟨1,8,[.aO],.other⟩),
 (105,⟨1,24,[.ay],.slice 4⟩),
 (106,⟨1,24,[.ay],.slice 105⟩),
 (107,⟨1,8,[.aO],.other⟩),
 (108,⟨800,6400,List.replicate 800 (.int .i64 0),.array 200 81⟩),
 (109,⟨800,6400,List.replicate 800 (.int .i64 0),.array 200 81⟩),
 (110,⟨1,8,[.aO],.other⟩),
 (111,⟨1,8,[.aO],.other⟩),
 (112,⟨1,8,[.aO],.other⟩),
 (113,⟨1,8,[.aO],.other⟩),
 (114,⟨1,8,[.aO],.other⟩),
 (115,⟨1,8,[.aO],.other⟩),
 (116,⟨2,24,[.str ByteArray.empty,.int .i64 0],.struct [(0,9),(1,3)]⟩),
 (117,⟨2,24,[.str ByteArray.empty,.int .i64 0],.struct [(0,9),(1,3)]⟩),
 (118,⟨1,8,[.aO],.other⟩),
 (119,⟨1,8,[.aO],.other⟩),
 (120,⟨1,8,[.aO],.other⟩),
 (121,⟨1,8,[.aO],.other⟩),
 (122,⟨2,16,[.int .i64 0,.int .i64 0],.struct [(0,3),(1,3)]⟩),
 (123,⟨2,16,[.int .i64 0,.int .i64 0],.struct [(0,3),(1,3)]⟩),
 (124,⟨1,8,[.aO],.other⟩),
 (125,⟨1,8,[.aO],.other⟩),
 (126,⟨1,8,[.eT],.map 60 4⟩),
 (127,⟨1,8,[.aO],.other⟩),
 (129,⟨1,8,[.aO],.other⟩),
 (131,⟨1,8,[.aO],.other⟩),
 (132,⟨1,8,[.aO],.other⟩),
 (133,⟨1,8,[.aO],.other⟩),
 (134,⟨1,8,[.aO],.other⟩)]
def Cs:List (Nat×TD):=[
 (135,⟨1,8,[.aO],.other⟩),
 (136,⟨1,8,[.aO],.other⟩),
 (137,⟨1,8,[.aO],.other⟩),
 (138,⟨1,8,[.aO],.other⟩),
 (139,⟨1,8,[.aO],.other⟩),
 (140,⟨1,8,[.aO],.other⟩),
 (141,⟨1,8,[.aO],.other⟩),
 (142,⟨1,8,[.int .u64 0],.int (.u64)⟩),
 (143,⟨1,8,[.aO],.other⟩),
 (144,⟨1,8,[.aO],.other⟩),
 (145,⟨1,8,[.aO],.other⟩),
 (146,⟨4,40,[.cq,.cq,.cq,.str ByteArray.empty],.struct [(0,17),(1,17),(2,17),(3,9)]⟩),
 (147,⟨4,40,[.cq,.cq,.cq,.str ByteArray.empty],.struct [(0,17),(1,17),(2,17),(3,9)]⟩),
 (148,⟨0,0,[],.array 0 16⟩),
 (149,⟨0,0,[],.struct [(0,148)]⟩),
 (150,⟨0,0,[],.struct [(0,148)]⟩),
 (151,⟨1,8,[.aO],.other⟩),
 (152,⟨1,4,[.int .u32 0],.int (.u32)⟩),
 (153,⟨1,1,[.int .u8 0],.int (.u8)⟩),
 (154,⟨1,1,[.int .u8 0],.int (.u8)⟩),
 (155,⟨1,8,[.aO],.other⟩),
 (156,⟨1,8,[.cq],.ptr 5⟩),
 (157,⟨1,4,[.int .i32 0],.int (.i32)⟩),
 (158,⟨1,4,[.int .i32 0],.int (.i32)⟩),
 (159,⟨11,48,[.int .u64 0,.int .u64 0,.int .u32 0,.int .u8 0,.int .u8 0,.int .u8 0,.int .u8 0,.aO,.cq,.int .i32 0,.int .i32 0],.struct [(0,12),(1,12),(2,152),(3,153),(4,5),(5,5),(6,154),(7,155),(8,156),(9,157),(10,158)]⟩),
 (160,⟨11,48,[.int .u64 0,.int .u64 0,.int .u32 0,.int .u8 0,.int .u8 0,.int .u8 0,.int .u8 0,.aO,.cq,.int .i32 0,.int .i32 0],.struct [(0,12),(1,12),(2,152),(3,153),(4,5),(5,5),(6,154),(7,155),(8,156),(9,157),(10,158)]⟩),
 (161,⟨1,8,[.cq],.other⟩)]
def AV:List (Nat×TD):=CE++B2++Be++Bi++Cs
noncomputable def BH:List (Nat×FI):=[
 (2,⟨1,[],Try.f2.body.getD .skip⟩),
 (3,⟨181,[.tmp 4],Try.f3.body.getD .skip⟩),
 (4,⟨147,[.tmp 8],Try.f4.body.getD .skip⟩),
 (5,⟨52,[.tmp 2],Try.f5.body.getD .skip⟩),
 (6,⟨85,[.tmp 0],Try.f6.body.getD .skip⟩),
 (7,⟨33,[.tmp 2],Try.f7.body.getD .skip⟩),
 (8,⟨12,[.tmp 2],Try.f8.body.getD .skip⟩),
 (9,⟨10,[.tmp 4],Try.f9.body.getD .skip⟩),
 (10,⟨54,[.tmp 4,.tmp 5],Try.f10.body.getD .skip⟩),
 (11,⟨21,[.tmp 4,.tmp 5],Try.f11.body.getD .skip⟩),
 (12,⟨23,[.tmp 2],Try.f12.body.getD .skip⟩),
 (13,⟨60,[.tmp 6,.tmp 7],Try.f13.body.getD .skip⟩),
 (14,⟨12,[.tmp 2],Try.f14.body.getD .skip⟩),
 (15,⟨32,[.tmp 6],Try.f15.body.getD .skip⟩),
 (16,⟨90,[.tmp 6],Try.f16.body.getD .skip⟩),
 (17,⟨37,[.tmp 4],Try.f17.body.getD .skip⟩),
 (18,⟨22,[.tmp 4],Try.f18.body.getD .skip⟩),
 (19,⟨27,[.tmp 4],Try.f19.body.getD .skip⟩),
 (20,⟨41,[.tmp 4],Try.f20.body.getD .skip⟩),
 (21,⟨31,[.tmp 4],Try.f21.body.getD .skip⟩),
 (22,⟨74,[.tmp 2],Try.f22.body.getD .skip⟩),
 (23,⟨68,[.tmp 6,.tmp 7,.tmp 8],Try.f23.body.getD .skip⟩),
 (24,⟨116,[.cell 8 53,.tmp 9],Try.f24.body.getD .skip⟩),
 (25,⟨26,[.tmp 4],Try.f25.body.getD .skip⟩),
 (26,⟨9,[.tmp 4],Try.f26.body.getD .skip⟩),
 (27,⟨7,[.tmp 2],Try.f27.body.getD .skip⟩),
 (28,⟨66,[.cell 2 60,.cell 3 31],Try.f28.body.getD .skip⟩),
 (29,⟨50,[.tmp 6],Try.f29.body.getD .skip⟩),
 (30,⟨34,[.tmp 4,.tmp 5],Try.f30.body.getD .skip⟩),
 (31,⟨74,[.cell 6 68],Try.f31.body.getD .skip⟩)]
noncomputable def Bx:List (Nat×FI):=[
 (32,⟨22,[.tmp 4],Try.f32.body.getD .skip⟩),
 (33,⟨6,[.tmp 2],Try.f33.body.getD .skip⟩),
 (34,⟨37,[.tmp 6],Try.f34.body.getD .skip⟩),
 (35,⟨19,[.tmp 4],Try.f35.body.getD .skip⟩),
 (36,⟨14,[.tmp 3],Try.f36.body.getD .skip⟩),
 (37,⟨137,[.cell 2 60,.tmp 3],Try.f37.body.getD .skip⟩),
 (38,⟨52,[.cell 6 60],Try.f38.body.getD .skip⟩),
 (39,⟨11,[.tmp 4],Try.f39.body.getD .skip⟩),
 (40,⟨31,[.tmp 4],Try.f40.body.getD .skip⟩),
 (41,⟨27,[.tmp 4],Try.f41.body.getD .skip⟩),
 (42,⟨26,[.tmp 4],Try.f42.body.getD .skip⟩),
 (43,⟨62,[.tmp 8],Try.f43.body.getD .skip⟩),
 (44,⟨64,[.cell 2 78,.cell 3 60,.cell 4 31],Try.f44.body.getD .skip⟩),
 (45,⟨11,[.tmp 4,.tmp 5],Try.f45.body.getD .skip⟩),
 (46,⟨42,[.tmp 8],Try.f46.body.getD .skip⟩),
 (47,⟨50,[.tmp 8,.tmp 9],Try.f47.body.getD .skip⟩),
 (48,⟨15,[.tmp 6],Try.f48.body.getD .skip⟩),
 (49,⟨62,[.tmp 4],Try.f49.body.getD .skip⟩),
 (50,⟨4,[.tmp 2],Try.f50.body.getD .skip⟩),
 (51,⟨82,[.tmp 6],Try.f51.body.getD .skip⟩),
 (52,⟨58,[.cell 4 60,.cell 5 4],Try.f52.body.getD .skip⟩),
 (53,⟨13,[.tmp 4],Try.f53.body.getD .skip⟩),
 (54,⟨28,[.tmp 4],Try.f54.body.getD .skip⟩),
 (55,⟨14,[.tmp 4],Try.f55.body.getD .skip⟩),
 (56,⟨17,[.tmp 4],Try.f56.body.getD .skip⟩),
 (57,⟨17,[.tmp 4],Try.f57.body.getD .skip⟩),
 (58,⟨9,[.tmp 4],Try.f58.body.getD .skip⟩),
 (59,⟨5,[.tmp 2],Try.f59.body.getD .skip⟩),
 (60,⟨9,[.tmp 4],Try.f60.body.getD .skip⟩),
 (61,⟨5,[.tmp 2],Try.f61.body.getD .skip⟩)]
noncomputable def A_:List (Nat×FI):=[
 (62,⟨81,[.tmp 4],Try.f62.body.getD .skip⟩),
 (63,⟨147,[.tmp 6],Try.f63.body.getD .skip⟩),
 (64,⟨70,[.tmp 4],Try.f64.body.getD .skip⟩),
 (65,⟨86,[.tmp 2],Try.f65.body.getD .skip⟩),
 (66,⟨75,[.tmp 4],Try.f66.body.getD .skip⟩),
 (67,⟨35,[.tmp 8],Try.f67.body.getD .skip⟩),
 (68,⟨17,[.tmp 8],Try.f68.body.getD .skip⟩),
 (69,⟨40,[.tmp 6,.tmp 7],Try.f69.body.getD .skip⟩),
 (70,⟨12,[],Try.f70.body.getD .skip⟩),
 (71,⟨11,[.tmp 4,.tmp 5],Try.f71.body.getD .skip⟩),
 (72,⟨41,[.tmp 2],Try.f72.body.getD .skip⟩),
 (73,⟨9,[.tmp 4],Try.f73.body.getD .skip⟩),
 (74,⟨9,[.tmp 3],Try.f74.body.getD .skip⟩),
 (75,⟨9,[.tmp 4],Try.f75.body.getD .skip⟩),
 (76,⟨9,[.tmp 3],Try.f76.body.getD .skip⟩),
 (77,⟨33,[],Try.f77.body.getD .skip⟩),
 (78,⟨40,[.tmp 6],Try.f78.body.getD .skip⟩),
 (79,⟨9,[.tmp 4],Try.f79.body.getD .skip⟩),
 (80,⟨9,[.tmp 3],Try.f80.body.getD .skip⟩),
 (81,⟨62,[.tmp 6],Try.f81.body.getD .skip⟩),
 (82,⟨10,[.tmp 3],Try.f82.body.getD .skip⟩),
 (83,⟨61,[.cell 4 60,.cell 5 60,.tmp 6],Try.f83.body.getD .skip⟩),
 (84,⟨54,[.tmp 4,.tmp 5],Try.f84.body.getD .skip⟩),
 (85,⟨19,[.tmp 4],Try.f85.body.getD .skip⟩),
 (86,⟨19,[.tmp 4],Try.f86.body.getD .skip⟩),
 (87,⟨42,[.tmp 2],Try.f87.body.getD .skip⟩),
 (88,⟨9,[.tmp 2],Try.f88.body.getD .skip⟩),
 (89,⟨17,[.cell 4 40],Try.f89.body.getD .skip⟩),
 (90,⟨33,[.tmp 4],Try.f90.body.getD .skip⟩),
 (91,⟨20,[.tmp 4],Try.f91.body.getD .skip⟩)]
noncomputable def Bl:List (Nat×FI):=[
 (92,⟨8,[.tmp 2],Try.f92.body.getD .skip⟩),
 (93,⟨13,[],Try.f93.body.getD .skip⟩),
 (94,⟨17,[.tmp 2],Try.f94.body.getD .skip⟩),
 (95,⟨9,[.tmp 2],Try.f95.body.getD .skip⟩),
 (96,⟨19,[.tmp 4],Try.f96.body.getD .skip⟩),
 (97,⟨19,[.tmp 4],Try.f97.body.getD .skip⟩),
 (98,⟨19,[.tmp 4],Try.f98.body.getD .skip⟩),
 (99,⟨11,[.cell 4 60,.tmp 5],Try.f99.body.getD .skip⟩),
 (100,⟨17,[.tmp 4],Try.f100.body.getD .skip⟩),
 (101,⟨6,[.tmp 2],Try.f101.body.getD .skip⟩),
 (102,⟨17,[.tmp 2],Try.f102.body.getD .skip⟩),
 (103,⟨9,[.tmp 2],Try.f103.body.getD .skip⟩),
 (104,⟨30,[.cell 6 60,.cell 7 4],Try.f104.body.getD .skip⟩),
 (105,⟨6,[.tmp 2],Try.f105.body.getD .skip⟩)]
noncomputable def AY:List (Nat×FI):=BH++Bx++A_++Bl
noncomputable def E:Env where
 tt:=lk AV
 ft:=lk AY
 keep:=fun f=>[92,69,45,71,70,93,90].contains f
 own:=fun f=>[92,69,45,71,90].contains f
 eqN:=fun t=>if [60].contains t then some 2 else none
theorem Wj:aH Try.prog 1=some ⟨1,8,[.aO],.other⟩:=by kernel_rfl
theorem Wf:aH Try.prog 2=some ⟨1,8,[.int .i64 0],.int (.i64)⟩:=by kernel_rfl
theorem Rf:aH Try.prog 3=some ⟨1,8,[.int .i64 0],.int (.i64)⟩:=by kernel_rfl
theorem Wk:aH Try.prog 4=some ⟨1,1,[.bool false],.bool⟩:=by kernel_rfl
theorem Wg:aH Try.prog 5=some ⟨1,1,[.int .u8 0],.int (.u8)⟩:=by kernel_rfl
theorem Wd:aH Try.prog 6=some ⟨1,1,[.int .u8 0],.int (.u8)⟩:=by kernel_rfl
theorem V0:aH Try.prog 7=some ⟨4,24,[.int .i64 0,.int .i64 0,.bool false,.int .u8 0],.struct [(0,2),(1,3),(2,4),(3,6)]⟩:=by kernel_rfl
theorem Wa:aH Try.prog 8=some ⟨4,24,[.int .i64 0,.int .i64 0,.bool false,.int .u8 0],.struct [(0,2),(1,3),(2,4),(3,6)]⟩:=by kernel_rfl
theorem V5:aH Try.prog 9=some ⟨1,16,[.str ByteArray.empty],.str⟩:=by kernel_rfl
theorem UA:aH Try.prog 10=some ⟨1,16,[.str ByteArray.empty],.str⟩:=by kernel_rfl
theorem TT:aH Try.prog 11=some ⟨1,16,[.str ByteArray.empty],.str⟩:=by kernel_rfl
theorem U5:aH Try.prog 12=some ⟨1,8,[.int .u64 0],.int (.u64)⟩:=by kernel_rfl
theorem US:aH Try.prog 13=some ⟨2,24,[.str ByteArray.empty,.int .u64 0],.struct [(0,9),(1,12)]⟩:=by kernel_rfl
theorem TJ:aH Try.prog 14=some ⟨2,24,[.str ByteArray.empty,.int .u64 0],.struct [(0,9),(1,12)]⟩:=by kernel_rfl
theorem TX:aH Try.prog 15=some ⟨1,8,[.cq],.ptr 147⟩:=by kernel_rfl
theorem Ug:aH Try.prog 16=some ⟨1,8,[.cq],.ptr 150⟩:=by kernel_rfl
theorem S8:aH Try.prog 17=some ⟨1,8,[.cq],.ptr 160⟩:=by kernel_rfl
theorem Vi:aH Try.prog 18=some ⟨1,8,[.cq],.struct [(0,17)]⟩:=by kernel_rfl
theorem TL:aH Try.prog 19=some ⟨1,8,[.cq],.struct [(0,17)]⟩:=by kernel_rfl
theorem T0:aH Try.prog 21=some ⟨1,4,[.int .i32 0],.int (.i32)⟩:=by kernel_rfl
theorem Tg:aH Try.prog 22=some ⟨1,24,[.ay],.slice 37⟩:=by kernel_rfl
theorem TW:aH Try.prog 23=some ⟨1,24,[.ay],.struct [(0,22)]⟩:=by kernel_rfl
theorem Tk:aH Try.prog 24=some ⟨1,24,[.ay],.struct [(0,22)]⟩:=by kernel_rfl
theorem TZ:aH Try.prog 25=some ⟨1,24,[.ay],.slice 3⟩:=by kernel_rfl
theorem Um:aH Try.prog 26=some ⟨1,8,[.aO],.other⟩:=by kernel_rfl
theorem VU:aH Try.prog 27=some ⟨1,8,[.aO],.other⟩:=by kernel_rfl
theorem SP:aH Try.prog 28=some ⟨1,8,[.aO],.other⟩:=by kernel_rfl
theorem TC:aH Try.prog 29=some ⟨1,8,[.aO],.other⟩:=by kernel_rfl
theorem Ue:aH Try.prog 30=some ⟨1,24,[.ay],.slice 25⟩:=by kernel_rfl
theorem Va:aH Try.prog 31=some ⟨1,8,[.int .i64 0],.int (.i64)⟩:=by kernel_rfl
theorem Uo:aH Try.prog 33=some ⟨1,8,[.aO],.other⟩:=by kernel_rfl
theorem Uj:aH Try.prog 34=some ⟨1,24,[.ay],.slice 117⟩:=by kernel_rfl
theorem VA:aH Try.prog 35=some ⟨1,24,[.ay],.slice 40⟩:=by kernel_rfl
theorem Un:aH Try.prog 36=some ⟨3,64,[.str ByteArray.empty,.ay,.ay],.struct [(0,9),(1,34),(2,35)]⟩:=by kernel_rfl
theorem Tr:aH Try.prog 37=some ⟨3,64,[.str ByteArray.empty,.ay,.ay],.struct [(0,9),(1,34),(2,35)]⟩:=by kernel_rfl
theorem TI:aH Try.prog 38=some ⟨1,24,[.ay],.slice 123⟩:=by kernel_rfl
theorem Ty:aH Try.prog 39=some ⟨5,56,[.int .i64 0,.int .i64 0,.int .i64 0,.int .i64 0,.ay],.struct [(0,3),(1,3),(2,3),(3,3),(4,38)]⟩:=by kernel_rfl
theorem To:aH Try.prog 40=some ⟨5,56,[.int .i64 0,.int .i64 0,.int .i64 0,.int .i64 0,.ay],.struct [(0,3),(1,3),(2,3),(3,3),(4,38)]⟩:=by kernel_rfl
theorem VJ:aH Try.prog 42=some ⟨1,8,[.aO],.other⟩:=by kernel_rfl
theorem UR:aH Try.prog 43=some ⟨1,8,[.aO],.other⟩:=by kernel_rfl
theorem T6:aH Try.prog 44=some ⟨1,8,[.aO],.other⟩:=by kernel_rfl
theorem Vf:aH Try.prog 45=some ⟨1,8,[.aO],.other⟩:=by kernel_rfl
theorem Vk:aH Try.prog 46=some ⟨1,8,[.aO],.other⟩:=by kernel_rfl
theorem Uf:aH Try.prog 47=some ⟨1,8,[.aO],.other⟩:=by kernel_rfl
theorem SY:aH Try.prog 48=some ⟨1,8,[.aO],.other⟩:=by kernel_rfl
theorem S9:aH Try.prog 50=some ⟨1,8,[.aO],.other⟩:=by kernel_rfl
theorem VX:aH Try.prog 51=some ⟨1,24,[.ay],.slice 30⟩:=by kernel_rfl
theorem VB:aH Try.prog 52=some ⟨4,80,[.bool false,.ay,.ay,.ay],.struct [(0,4),(1,25),(2,25),(3,51)]⟩:=by kernel_rfl
theorem TM:aH Try.prog 53=some ⟨4,80,[.bool false,.ay,.ay,.ay],.struct [(0,4),(1,25),(2,25),(3,51)]⟩:=by kernel_rfl
theorem VS:aH Try.prog 55=some ⟨1,8,[.aO],.other⟩:=by kernel_rfl
theorem UU:aH Try.prog 56=some ⟨1,8,[.aO],.other⟩:=by kernel_rfl
theorem Vo:aH Try.prog 57=some ⟨1,8,[.aO],.other⟩:=by kernel_rfl
theorem UI:aH Try.prog 58=some ⟨1,8,[.aO],.other⟩:=by kernel_rfl
theorem UJ:aH Try.prog 59=some ⟨2,16,[.int .i64 0,.int .i64 0],.struct [(0,3),(1,3)]⟩:=by kernel_rfl
theorem Us:aH Try.prog 60=some ⟨2,16,[.int .i64 0,.int .i64 0],.struct [(0,3),(1,3)]⟩:=by kernel_rfl
theorem VM:aH Try.prog 62=some ⟨1,8,[.aO],.other⟩:=by kernel_rfl
theorem TN:aH Try.prog 63=some ⟨1,8,[.aO],.other⟩:=by kernel_rfl
theorem Uv:aH Try.prog 64=some ⟨1,24,[.ay],.slice 60⟩:=by kernel_rfl
theorem VR:aH Try.prog 66=some ⟨1,8,[.aO],.other⟩:=by kernel_rfl
theorem Vt:aH Try.prog 67=some ⟨4,64,[.int .i64 0,.int .i64 0,.ay,.ay],.struct [(0,3),(1,3),(2,25),(3,25)]⟩:=by kernel_rfl
theorem SC:aH Try.prog 68=some ⟨4,64,[.int .i64 0,.int .i64 0,.ay,.ay],.struct [(0,3),(1,3),(2,25),(3,25)]⟩:=by kernel_rfl
theorem SR:aH Try.prog 69=some ⟨1,8,[.aO],.other⟩:=by kernel_rfl
theorem Tm:aH Try.prog 70=some ⟨1,8,[.aO],.other⟩:=by kernel_rfl
theorem TP:aH Try.prog 71=some ⟨1,8,[.aO],.other⟩:=by kernel_rfl
theorem Vh:aH Try.prog 72=some ⟨1,8,[.aO],.other⟩:=by kernel_rfl
theorem Tf:aH Try.prog 73=some ⟨1,8,[.aO],.other⟩:=by kernel_rfl
theorem Tv:aH Try.prog 75=some ⟨1,8,[.aO],.other⟩:=by kernel_rfl
theorem Vu:aH Try.prog 76=some ⟨1,8,[.aO],.other⟩:=by kernel_rfl
theorem T_:aH Try.prog 77=some ⟨1,8,[.aO],.other⟩:=by kernel_rfl
theorem S6:aH Try.prog 78=some ⟨1,8,[.cq],.ptr 109⟩:=by kernel_rfl
theorem T8:aH Try.prog 80=some ⟨1,8,[.aO],.other⟩:=by kernel_rfl
theorem TQ:aH Try.prog 81=some ⟨4,32,[.int .i64 0,.int .i64 0,.int .i64 0,.int .i64 0],.struct [(0,60),(2,60)]⟩:=by kernel_rfl
theorem UL:aH Try.prog 83=some ⟨1,8,[.aO],.other⟩:=by kernel_rfl
theorem T9:aH Try.prog 84=some ⟨1,8,[.aO],.other⟩:=by kernel_rfl
theorem SF:aH Try.prog 86=some ⟨1,8,[.aO],.other⟩:=by kernel_rfl
theorem U0:aH Try.prog 87=some ⟨1,8,[.aO],.other⟩:=by kernel_rfl
theorem Vn:aH Try.prog 88=some ⟨1,8,[.aO],.other⟩:=by kernel_rfl
theorem Uz:aH Try.prog 89=some ⟨1,8,[.aO],.other⟩:=by kernel_rfl
theorem VD:aH Try.prog 90=some ⟨1,8,[.aO],.other⟩:=by kernel_rfl
theorem SO:aH Try.prog 91=some ⟨1,8,[.aO],.other⟩:=by kernel_rfl
theorem Ut:aH Try.prog 92=some ⟨1,8,[.aO],.other⟩:=by kernel_rfl
theorem VN:aH Try.prog 94=some ⟨1,8,[.aO],.other⟩:=by kernel_rfl
theorem Tq:aH Try.prog 95=some ⟨1,8,[.aO],.other⟩:=by kernel_rfl
theorem T7:aH Try.prog 96=some ⟨1,8,[.aO],.other⟩:=by kernel_rfl
theorem UF:aH Try.prog 97=some ⟨1,8,[.aO],.other⟩:=by kernel_rfl
theorem VC:aH Try.prog 98=some ⟨1,8,[.aO],.other⟩:=by kernel_rfl
theorem S_:aH Try.prog 99=some ⟨1,8,[.aO],.other⟩:=by kernel_rfl
theorem Nz:aH Try.prog 100=some ⟨1,8,[.aO],.other⟩:=by kernel_rfl
theorem OT:aH Try.prog 101=some ⟨1,8,[.aO],.other⟩:=by kernel_rfl
theorem N5:aH Try.prog 102=some ⟨1,8,[.aO],.other⟩:=by kernel_rfl
theorem N3:aH Try.prog 103=some ⟨1,8,[.aO],.other⟩:=by kernel_rfl
theorem NX:aH Try.prog 104=some ⟨1,8,[.aO],.other⟩:=by kernel_rfl
theorem NH:aH Try.prog 105=some ⟨1,24,[.ay],.slice 4⟩:=by kernel_rfl
theorem QJ:aH Try.prog 106=some ⟨1,24,[.ay],.slice 105⟩:=by kernel_rfl
theorem P_:aH Try.prog 107=some ⟨1,8,[.aO],.other⟩:=by kernel_rfl
theorem PA:aH Try.prog 108=some ⟨800,6400,List.replicate 800 (.int .i64 0),.array 200 81⟩:=by kernel_rfl
theorem Pg:aH Try.prog 109=some ⟨800,6400,List.replicate 800 (.int .i64 0),.array 200 81⟩:=by kernel_rfl
theorem Py:aH Try.prog 110=some ⟨1,8,[.aO],.other⟩:=by kernel_rfl
theorem Pj:aH Try.prog 111=some ⟨1,8,[.aO],.other⟩:=by kernel_rfl
theorem QV:aH Try.prog 112=some ⟨1,8,[.aO],.other⟩:=by kernel_rfl
theorem O_:aH Try.prog 113=some ⟨1,8,[.aO],.other⟩:=by kernel_rfl
theorem OE:aH Try.prog 114=some ⟨1,8,[.aO],.other⟩:=by kernel_rfl
theorem Ny:aH Try.prog 115=some ⟨1,8,[.aO],.other⟩:=by kernel_rfl
theorem NN:aH Try.prog 116=some ⟨2,24,[.str ByteArray.empty,.int .i64 0],.struct [(0,9),(1,3)]⟩:=by kernel_rfl
theorem O9:aH Try.prog 117=some ⟨2,24,[.str ByteArray.empty,.int .i64 0],.struct [(0,9),(1,3)]⟩:=by kernel_rfl
theorem Qu:aH Try.prog 118=some ⟨1,8,[.aO],.other⟩:=by kernel_rfl
theorem Pe:aH Try.prog 119=some ⟨1,8,[.aO],.other⟩:=by kernel_rfl
theorem Nq:aH Try.prog 120=some ⟨1,8,[.aO],.other⟩:=by kernel_rfl
theorem PF:aH Try.prog 121=some ⟨1,8,[.aO],.other⟩:=by kernel_rfl
theorem PI:aH Try.prog 122=some ⟨2,16,[.int .i64 0,.int .i64 0],.struct [(0,3),(1,3)]⟩:=by kernel_rfl
theorem OB:aH Try.prog 123=some ⟨2,16,[.int .i64 0,.int .i64 0],.struct [(0,3),(1,3)]⟩:=by kernel_rfl
theorem Pd:aH Try.prog 124=some ⟨1,8,[.aO],.other⟩:=by kernel_rfl
theorem ON:aH Try.prog 125=some ⟨1,8,[.aO],.other⟩:=by kernel_rfl
theorem No:aH Try.prog 126=some ⟨1,8,[.eT],.map 60 4⟩:=by kernel_rfl
theorem Ow:aH Try.prog 127=some ⟨1,8,[.aO],.other⟩:=by kernel_rfl
theorem PN:aH Try.prog 129=some ⟨1,8,[.aO],.other⟩:=by kernel_rfl
theorem Qj:aH Try.prog 131=some ⟨1,8,[.aO],.other⟩:=by kernel_rfl
theorem Po:aH Try.prog 132=some ⟨1,8,[.aO],.other⟩:=by kernel_rfl
theorem NM:aH Try.prog 133=some ⟨1,8,[.aO],.other⟩:=by kernel_rfl
theorem PE:aH Try.prog 134=some ⟨1,8,[.aO],.other⟩:=by kernel_rfl
theorem QA:aH Try.prog 135=some ⟨1,8,[.aO],.other⟩:=by kernel_rfl
theorem NB:aH Try.prog 136=some ⟨1,8,[.aO],.other⟩:=by kernel_rfl
theorem NT:aH Try.prog 137=some ⟨1,8,[.aO],.other⟩:=by kernel_rfl
theorem OV:aH Try.prog 138=some ⟨1,8,[.aO],.other⟩:=by kernel_rfl
theorem Pk:aH Try.prog 139=some ⟨1,8,[.aO],.other⟩:=by kernel_rfl
theorem O1:aH Try.prog 140=some ⟨1,8,[.aO],.other⟩:=by kernel_rfl
theorem Pp:aH Try.prog 141=some ⟨1,8,[.aO],.other⟩:=by kernel_rfl
theorem Ph:aH Try.prog 142=some ⟨1,8,[.int .u64 0],.int (.u64)⟩:=by kernel_rfl
theorem OR:aH Try.prog 143=some ⟨1,8,[.aO],.other⟩:=by kernel_rfl
theorem Ot:aH Try.prog 144=some ⟨1,8,[.aO],.other⟩:=by kernel_rfl
theorem QF:aH Try.prog 145=some ⟨1,8,[.aO],.other⟩:=by kernel_rfl
theorem On:aH Try.prog 146=some ⟨4,40,[.cq,.cq,.cq,.str ByteArray.empty],.struct [(0,17),(1,17),(2,17),(3,9)]⟩:=by kernel_rfl
theorem O5:aH Try.prog 147=some ⟨4,40,[.cq,.cq,.cq,.str ByteArray.empty],.struct [(0,17),(1,17),(2,17),(3,9)]⟩:=by kernel_rfl
theorem Nn:aH Try.prog 148=some ⟨0,0,[],.array 0 16⟩:=by kernel_rfl
theorem QU:aH Try.prog 149=some ⟨0,0,[],.struct [(0,148)]⟩:=by kernel_rfl
theorem PX:aH Try.prog 150=some ⟨0,0,[],.struct [(0,148)]⟩:=by kernel_rfl
theorem Nf:aH Try.prog 151=some ⟨1,8,[.aO],.other⟩:=by kernel_rfl
theorem Nt:aH Try.prog 152=some ⟨1,4,[.int .u32 0],.int (.u32)⟩:=by kernel_rfl
theorem Oz:aH Try.prog 153=some ⟨1,1,[.int .u8 0],.int (.u8)⟩:=by kernel_rfl
theorem Np:aH Try.prog 154=some ⟨1,1,[.int .u8 0],.int (.u8)⟩:=by kernel_rfl
theorem N9:aH Try.prog 155=some ⟨1,8,[.aO],.other⟩:=by kernel_rfl
theorem Ni:aH Try.prog 156=some ⟨1,8,[.cq],.ptr 5⟩:=by kernel_rfl
theorem Oe:aH Try.prog 157=some ⟨1,4,[.int .i32 0],.int (.i32)⟩:=by kernel_rfl
theorem PU:aH Try.prog 158=some ⟨1,4,[.int .i32 0],.int (.i32)⟩:=by kernel_rfl
theorem Pr:aH Try.prog 159=some ⟨11,48,[.int .u64 0,.int .u64 0,.int .u32 0,.int .u8 0,.int .u8 0,.int .u8 0,.int .u8 0,.aO,.cq,.int .i32 0,.int .i32 0],.struct [(0,12),(1,12),(2,152),(3,153),(4,5),(5,5),(6,154),(7,155),(8,156),(9,157),(10,158)]⟩:=by kernel_rfl
theorem Pz:aH Try.prog 160=some ⟨11,48,[.int .u64 0,.int .u64 0,.int .u32 0,.int .u8 0,.int .u8 0,.int .u8 0,.int .u8 0,.aO,.cq,.int .i32 0,.int .i32 0],.struct [(0,12),(1,12),(2,152),(3,153),(4,5),(5,5),(6,154),(7,155),(8,156),(9,157),(10,158)]⟩:=by kernel_rfl
theorem OK:aH Try.prog 161=some ⟨1,8,[.cq],.other⟩:=by kernel_rfl
theorem NQ:∀p∈CE,aH Try.prog p.1=some p.2:=by
 unfold CE;simp only[List.forall_mem_cons];exact⟨Wj,Wf,Rf,Wk,Wg,Wd,V0,Wa,V5,UA,TT,U5,US,TJ,TX,Ug,S8,Vi,TL,T0,Tg,TW,Tk,TZ,Um,VU,SP,TC,Ue,Va,by simp⟩
theorem PS:∀p∈B2,aH Try.prog p.1=some p.2:=by
 unfold B2;simp only[List.forall_mem_cons];exact⟨Uo,Uj,VA,Un,Tr,TI,Ty,To,VJ,UR,T6,Vf,Vk,Uf,SY,S9,VX,VB,TM,VS,UU,Vo,UI,UJ,Us,VM,TN,Uv,VR,Vt,by simp⟩
theorem NI:∀p∈Be,aH Try.prog p.1=some p.2:=by
 unfold Be;simp only[List.forall_mem_cons];exact⟨SC,SR,Tm,TP,Vh,Tf,Tv,Vu,T_,S6,T8,TQ,UL,T9,SF,U0,Vn,Uz,VD,SO,Ut,VN,Tq,T7,UF,VC,S_,Nz,OT,N5,by simp⟩
theorem N6:∀p∈Bi,aH Try.prog p.1=some p.2:=by
 unfold Bi;simp only[List.forall_mem_cons];exact⟨N3,NX,NH,QJ,P_,PA,Pg,Py,Pj,QV,O_,OE,Ny,NN,O9,Qu,Pe,Nq,PF,PI,OB,Pd,ON,No,Ow,PN,Qj,Po,NM,PE,by simp⟩
theorem OA:∀p∈Cs,aH Try.prog p.1=some p.2:=by
 unfold Cs;simp only[List.forall_mem_cons];exact⟨QA,NB,NT,OV,Pk,O1,Pp,Ph,OR,Ot,QF,On,O5,Nn,QU,PX,Nf,Nt,Oz,Np,N9,Ni,Oe,PU,Pr,Pz,OK,by simp⟩
theorem UG:∀p∈AV,aH Try.prog p.1=some p.2:=by
 unfold AV;simp only[List.forall_mem_append];exact⟨⟨⟨⟨NQ,PS⟩,NI⟩,N6⟩,OA⟩
theorem V3:aQ Try.prog 2 ⟨1,[],Try.f2.body.getD .skip⟩:=⟨Try.f2,Try.func2,rfl,rfl,rfl,rfl⟩
theorem Wb:aQ Try.prog 3 ⟨181,[.tmp 4],Try.f3.body.getD .skip⟩:=⟨Try.f3,Try.func3,rfl,rfl,rfl,rfl⟩
theorem V7:aQ Try.prog 4 ⟨147,[.tmp 8],Try.f4.body.getD .skip⟩:=⟨Try.f4,Try.func4,rfl,rfl,rfl,rfl⟩
theorem V9:aQ Try.prog 5 ⟨52,[.tmp 2],Try.f5.body.getD .skip⟩:=⟨Try.f5,Try.func5,rfl,rfl,rfl,rfl⟩
theorem Wm:aQ Try.prog 6 ⟨85,[.tmp 0],Try.f6.body.getD .skip⟩:=⟨Try.f6,Try.func6,rfl,rfl,rfl,rfl⟩
theorem V1:aQ Try.prog 7 ⟨33,[.tmp 2],Try.f7.body.getD .skip⟩:=⟨Try.f7,Try.func7,rfl,rfl,rfl,rfl⟩
theorem Wc:aQ Try.prog 8 ⟨12,[.tmp 2],Try.f8.body.getD .skip⟩:=⟨Try.f8,Try.func8,rfl,rfl,rfl,rfl⟩
theorem V2:aQ Try.prog 9 ⟨10,[.tmp 4],Try.f9.body.getD .skip⟩:=⟨Try.f9,Try.func9,rfl,rfl,rfl,rfl⟩
theorem TA:aQ Try.prog 10 ⟨54,[.tmp 4,.tmp 5],Try.f10.body.getD .skip⟩:=⟨Try.f10,Try.func10,rfl,rfl,rfl,rfl⟩
theorem VI:aQ Try.prog 11 ⟨21,[.tmp 4,.tmp 5],Try.f11.body.getD .skip⟩:=⟨Try.f11,Try.func11,rfl,rfl,rfl,rfl⟩
theorem Vp:aQ Try.prog 12 ⟨23,[.tmp 2],Try.f12.body.getD .skip⟩:=⟨Try.f12,Try.func12,rfl,rfl,rfl,rfl⟩
theorem T5:aQ Try.prog 13 ⟨60,[.tmp 6,.tmp 7],Try.f13.body.getD .skip⟩:=⟨Try.f13,Try.func13,rfl,rfl,rfl,rfl⟩
theorem UO:aQ Try.prog 14 ⟨12,[.tmp 2],Try.f14.body.getD .skip⟩:=⟨Try.f14,Try.func14,rfl,rfl,rfl,rfl⟩
theorem UX:aQ Try.prog 15 ⟨32,[.tmp 6],Try.f15.body.getD .skip⟩:=⟨Try.f15,Try.func15,rfl,rfl,rfl,rfl⟩
theorem Vj:aQ Try.prog 16 ⟨90,[.tmp 6],Try.f16.body.getD .skip⟩:=⟨Try.f16,Try.func16,rfl,rfl,rfl,rfl⟩
theorem Vq:aQ Try.prog 17 ⟨37,[.tmp 4],Try.f17.body.getD .skip⟩:=⟨Try.f17,Try.func17,rfl,rfl,rfl,rfl⟩
theorem TV:aQ Try.prog 18 ⟨22,[.tmp 4],Try.f18.body.getD .skip⟩:=⟨Try.f18,Try.func18,rfl,rfl,rfl,rfl⟩
theorem Uh:aQ Try.prog 19 ⟨27,[.tmp 4],Try.f19.body.getD .skip⟩:=⟨Try.f19,Try.func19,rfl,rfl,rfl,rfl⟩
theorem Ux:aQ Try.prog 20 ⟨41,[.tmp 4],Try.f20.body.getD .skip⟩:=⟨Try.f20,Try.func20,rfl,rfl,rfl,rfl⟩
theorem Tl:aQ Try.prog 21 ⟨31,[.tmp 4],Try.f21.body.getD .skip⟩:=⟨Try.f21,Try.func21,rfl,rfl,rfl,rfl⟩
theorem SD:aQ Try.prog 22 ⟨74,[.tmp 2],Try.f22.body.getD .skip⟩:=⟨Try.f22,Try.func22,rfl,rfl,rfl,rfl⟩
theorem UN:aQ Try.prog 23 ⟨68,[.tmp 6,.tmp 7,.tmp 8],Try.f23.body.getD .skip⟩:=⟨Try.f23,Try.func23,rfl,rfl,rfl,rfl⟩
theorem SK:aQ Try.prog 24 ⟨116,[.cell 8 53,.tmp 9],Try.f24.body.getD .skip⟩:=⟨Try.f24,Try.func24,rfl,rfl,rfl,rfl⟩
theorem UQ:aQ Try.prog 25 ⟨26,[.tmp 4],Try.f25.body.getD .skip⟩:=⟨Try.f25,Try.func25,rfl,rfl,rfl,rfl⟩
theorem UP:aQ Try.prog 26 ⟨9,[.tmp 4],Try.f26.body.getD .skip⟩:=⟨Try.f26,Try.func26,rfl,rfl,rfl,rfl⟩
theorem SE:aQ Try.prog 27 ⟨7,[.tmp 2],Try.f27.body.getD .skip⟩:=⟨Try.f27,Try.func27,rfl,rfl,rfl,rfl⟩
theorem U_:aQ Try.prog 28 ⟨66,[.cell 2 60,.cell 3 31],Try.f28.body.getD .skip⟩:=⟨Try.f28,Try.func28,rfl,rfl,rfl,rfl⟩
theorem Vv:aQ Try.prog 29 ⟨50,[.tmp 6],Try.f29.body.getD .skip⟩:=⟨Try.f29,Try.func29,rfl,rfl,rfl,rfl⟩
theorem TE:aQ Try.prog 30 ⟨34,[.tmp 4,.tmp 5],Try.f30.body.getD .skip⟩:=⟨Try.f30,Try.func30,rfl,rfl,rfl,rfl⟩
theorem UC:aQ Try.prog 31 ⟨74,[.cell 6 68],Try.f31.body.getD .skip⟩:=⟨Try.f31,Try.func31,rfl,rfl,rfl,rfl⟩
theorem SM:aQ Try.prog 32 ⟨22,[.tmp 4],Try.f32.body.getD .skip⟩:=⟨Try.f32,Try.func32,rfl,rfl,rfl,rfl⟩
theorem S0:aQ Try.prog 33 ⟨6,[.tmp 2],Try.f33.body.getD .skip⟩:=⟨Try.f33,Try.func33,rfl,rfl,rfl,rfl⟩
theorem UW:aQ Try.prog 34 ⟨37,[.tmp 6],Try.f34.body.getD .skip⟩:=⟨Try.f34,Try.func34,rfl,rfl,rfl,rfl⟩
theorem VQ:aQ Try.prog 35 ⟨19,[.tmp 4],Try.f35.body.getD .skip⟩:=⟨Try.f35,Try.func35,rfl,rfl,rfl,rfl⟩
theorem UH:aQ Try.prog 36 ⟨14,[.tmp 3],Try.f36.body.getD .skip⟩:=⟨Try.f36,Try.func36,rfl,rfl,rfl,rfl⟩
theorem SW:aQ Try.prog 37 ⟨137,[.cell 2 60,.tmp 3],Try.f37.body.getD .skip⟩:=⟨Try.f37,Try.func37,rfl,rfl,rfl,rfl⟩
theorem TS:aQ Try.prog 38 ⟨52,[.cell 6 60],Try.f38.body.getD .skip⟩:=⟨Try.f38,Try.func38,rfl,rfl,rfl,rfl⟩
theorem TF:aQ Try.prog 39 ⟨11,[.tmp 4],Try.f39.body.getD .skip⟩:=⟨Try.f39,Try.func39,rfl,rfl,rfl,rfl⟩
theorem TB:aQ Try.prog 40 ⟨31,[.tmp 4],Try.f40.body.getD .skip⟩:=⟨Try.f40,Try.func40,rfl,rfl,rfl,rfl⟩
theorem TO:aQ Try.prog 41 ⟨27,[.tmp 4],Try.f41.body.getD .skip⟩:=⟨Try.f41,Try.func41,rfl,rfl,rfl,rfl⟩
theorem Vc:aQ Try.prog 42 ⟨26,[.tmp 4],Try.f42.body.getD .skip⟩:=⟨Try.f42,Try.func42,rfl,rfl,rfl,rfl⟩
theorem Vg:aQ Try.prog 43 ⟨62,[.tmp 8],Try.f43.body.getD .skip⟩:=⟨Try.f43,Try.func43,rfl,rfl,rfl,rfl⟩
theorem Tc:aQ Try.prog 44 ⟨64,[.cell 2 78,.cell 3 60,.cell 4 31],Try.f44.body.getD .skip⟩:=⟨Try.f44,Try.func44,rfl,rfl,rfl,rfl⟩
theorem Ti:aQ Try.prog 45 ⟨11,[.tmp 4,.tmp 5],Try.f45.body.getD .skip⟩:=⟨Try.f45,Try.func45,rfl,rfl,rfl,rfl⟩
theorem Vy:aQ Try.prog 46 ⟨42,[.tmp 8],Try.f46.body.getD .skip⟩:=⟨Try.f46,Try.func46,rfl,rfl,rfl,rfl⟩
theorem TU:aQ Try.prog 47 ⟨50,[.tmp 8,.tmp 9],Try.f47.body.getD .skip⟩:=⟨Try.f47,Try.func47,rfl,rfl,rfl,rfl⟩
theorem VF:aQ Try.prog 48 ⟨15,[.tmp 6],Try.f48.body.getD .skip⟩:=⟨Try.f48,Try.func48,rfl,rfl,rfl,rfl⟩
theorem U6:aQ Try.prog 49 ⟨62,[.tmp 4],Try.f49.body.getD .skip⟩:=⟨Try.f49,Try.func49,rfl,rfl,rfl,rfl⟩
theorem VW:aQ Try.prog 50 ⟨4,[.tmp 2],Try.f50.body.getD .skip⟩:=⟨Try.f50,Try.func50,rfl,rfl,rfl,rfl⟩
theorem Tz:aQ Try.prog 51 ⟨82,[.tmp 6],Try.f51.body.getD .skip⟩:=⟨Try.f51,Try.func51,rfl,rfl,rfl,rfl⟩
theorem Vz:aQ Try.prog 52 ⟨58,[.cell 4 60,.cell 5 4],Try.f52.body.getD .skip⟩:=⟨Try.f52,Try.func52,rfl,rfl,rfl,rfl⟩
theorem UY:aQ Try.prog 53 ⟨13,[.tmp 4],Try.f53.body.getD .skip⟩:=⟨Try.f53,Try.func53,rfl,rfl,rfl,rfl⟩
theorem Ub:aQ Try.prog 54 ⟨28,[.tmp 4],Try.f54.body.getD .skip⟩:=⟨Try.f54,Try.func54,rfl,rfl,rfl,rfl⟩
theorem Tn:aQ Try.prog 55 ⟨14,[.tmp 4],Try.f55.body.getD .skip⟩:=⟨Try.f55,Try.func55,rfl,rfl,rfl,rfl⟩
theorem Vr:aQ Try.prog 56 ⟨17,[.tmp 4],Try.f56.body.getD .skip⟩:=⟨Try.f56,Try.func56,rfl,rfl,rfl,rfl⟩
theorem Ur:aQ Try.prog 57 ⟨17,[.tmp 4],Try.f57.body.getD .skip⟩:=⟨Try.f57,Try.func57,rfl,rfl,rfl,rfl⟩
theorem SQ:aQ Try.prog 58 ⟨9,[.tmp 4],Try.f58.body.getD .skip⟩:=⟨Try.f58,Try.func58,rfl,rfl,rfl,rfl⟩
theorem SS:aQ Try.prog 59 ⟨5,[.tmp 2],Try.f59.body.getD .skip⟩:=⟨Try.f59,Try.func59,rfl,rfl,rfl,rfl⟩
theorem Ts:aQ Try.prog 60 ⟨9,[.tmp 4],Try.f60.body.getD .skip⟩:=⟨Try.f60,Try.func60,rfl,rfl,rfl,rfl⟩
theorem Uy:aQ Try.prog 61 ⟨5,[.tmp 2],Try.f61.body.getD .skip⟩:=⟨Try.f61,Try.func61,rfl,rfl,rfl,rfl⟩
theorem U9:aQ Try.prog 62 ⟨81,[.tmp 4],Try.f62.body.getD .skip⟩:=⟨Try.f62,Try.func62,rfl,rfl,rfl,rfl⟩
theorem VK:aQ Try.prog 63 ⟨147,[.tmp 6],Try.f63.body.getD .skip⟩:=⟨Try.f63,Try.func63,rfl,rfl,rfl,rfl⟩
theorem Ta:aQ Try.prog 64 ⟨70,[.tmp 4],Try.f64.body.getD .skip⟩:=⟨Try.f64,Try.func64,rfl,rfl,rfl,rfl⟩
theorem Th:aQ Try.prog 65 ⟨86,[.tmp 2],Try.f65.body.getD .skip⟩:=⟨Try.f65,Try.func65,rfl,rfl,rfl,rfl⟩
theorem UB:aQ Try.prog 66 ⟨75,[.tmp 4],Try.f66.body.getD .skip⟩:=⟨Try.f66,Try.func66,rfl,rfl,rfl,rfl⟩
theorem U4:aQ Try.prog 67 ⟨35,[.tmp 8],Try.f67.body.getD .skip⟩:=⟨Try.f67,Try.func67,rfl,rfl,rfl,rfl⟩
theorem S7:aQ Try.prog 68 ⟨17,[.tmp 8],Try.f68.body.getD .skip⟩:=⟨Try.f68,Try.func68,rfl,rfl,rfl,rfl⟩
theorem VO:aQ Try.prog 69 ⟨40,[.tmp 6,.tmp 7],Try.f69.body.getD .skip⟩:=⟨Try.f69,Try.func69,rfl,rfl,rfl,rfl⟩
theorem UD:aQ Try.prog 70 ⟨12,[],Try.f70.body.getD .skip⟩:=⟨Try.f70,Try.func70,rfl,rfl,rfl,rfl⟩
theorem SH:aQ Try.prog 71 ⟨11,[.tmp 4,.tmp 5],Try.f71.body.getD .skip⟩:=⟨Try.f71,Try.func71,rfl,rfl,rfl,rfl⟩
theorem T4:aQ Try.prog 72 ⟨41,[.tmp 2],Try.f72.body.getD .skip⟩:=⟨Try.f72,Try.func72,rfl,rfl,rfl,rfl⟩
theorem SU:aQ Try.prog 73 ⟨9,[.tmp 4],Try.f73.body.getD .skip⟩:=⟨Try.f73,Try.func73,rfl,rfl,rfl,rfl⟩
theorem UZ:aQ Try.prog 74 ⟨9,[.tmp 3],Try.f74.body.getD .skip⟩:=⟨Try.f74,Try.func74,rfl,rfl,rfl,rfl⟩
theorem UK:aQ Try.prog 75 ⟨9,[.tmp 4],Try.f75.body.getD .skip⟩:=⟨Try.f75,Try.func75,rfl,rfl,rfl,rfl⟩
theorem Vs:aQ Try.prog 76 ⟨9,[.tmp 3],Try.f76.body.getD .skip⟩:=⟨Try.f76,Try.func76,rfl,rfl,rfl,rfl⟩
theorem Te:aQ Try.prog 77 ⟨33,[],Try.f77.body.getD .skip⟩:=⟨Try.f77,Try.func77,rfl,rfl,rfl,rfl⟩
theorem VG:aQ Try.prog 78 ⟨40,[.tmp 6],Try.f78.body.getD .skip⟩:=⟨Try.f78,Try.func78,rfl,rfl,rfl,rfl⟩
theorem Uu:aQ Try.prog 79 ⟨9,[.tmp 4],Try.f79.body.getD .skip⟩:=⟨Try.f79,Try.func79,rfl,rfl,rfl,rfl⟩
theorem SJ:aQ Try.prog 80 ⟨9,[.tmp 3],Try.f80.body.getD .skip⟩:=⟨Try.f80,Try.func80,rfl,rfl,rfl,rfl⟩
theorem Uq:aQ Try.prog 81 ⟨62,[.tmp 6],Try.f81.body.getD .skip⟩:=⟨Try.f81,Try.func81,rfl,rfl,rfl,rfl⟩
theorem Ua:aQ Try.prog 82 ⟨10,[.tmp 3],Try.f82.body.getD .skip⟩:=⟨Try.f82,Try.func82,rfl,rfl,rfl,rfl⟩
theorem Uk:aQ Try.prog 83 ⟨61,[.cell 4 60,.cell 5 60,.tmp 6],Try.f83.body.getD .skip⟩:=⟨Try.f83,Try.func83,rfl,rfl,rfl,rfl⟩
theorem VL:aQ Try.prog 84 ⟨54,[.tmp 4,.tmp 5],Try.f84.body.getD .skip⟩:=⟨Try.f84,Try.func84,rfl,rfl,rfl,rfl⟩
theorem U3:aQ Try.prog 85 ⟨19,[.tmp 4],Try.f85.body.getD .skip⟩:=⟨Try.f85,Try.func85,rfl,rfl,rfl,rfl⟩
theorem SL:aQ Try.prog 86 ⟨19,[.tmp 4],Try.f86.body.getD .skip⟩:=⟨Try.f86,Try.func86,rfl,rfl,rfl,rfl⟩
theorem S3:aQ Try.prog 87 ⟨42,[.tmp 2],Try.f87.body.getD .skip⟩:=⟨Try.f87,Try.func87,rfl,rfl,rfl,rfl⟩
theorem S5:aQ Try.prog 88 ⟨9,[.tmp 2],Try.f88.body.getD .skip⟩:=⟨Try.f88,Try.func88,rfl,rfl,rfl,rfl⟩
theorem U7:aQ Try.prog 89 ⟨17,[.cell 4 40],Try.f89.body.getD .skip⟩:=⟨Try.f89,Try.func89,rfl,rfl,rfl,rfl⟩
theorem TH:aQ Try.prog 90 ⟨33,[.tmp 4],Try.f90.body.getD .skip⟩:=⟨Try.f90,Try.func90,rfl,rfl,rfl,rfl⟩
theorem Uc:aQ Try.prog 91 ⟨20,[.tmp 4],Try.f91.body.getD .skip⟩:=⟨Try.f91,Try.func91,rfl,rfl,rfl,rfl⟩
theorem TR:aQ Try.prog 92 ⟨8,[.tmp 2],Try.f92.body.getD .skip⟩:=⟨Try.f92,Try.func92,rfl,rfl,rfl,rfl⟩
theorem SZ:aQ Try.prog 93 ⟨13,[],Try.f93.body.getD .skip⟩:=⟨Try.f93,Try.func93,rfl,rfl,rfl,rfl⟩
theorem Tu:aQ Try.prog 94 ⟨17,[.tmp 2],Try.f94.body.getD .skip⟩:=⟨Try.f94,Try.func94,rfl,rfl,rfl,rfl⟩
theorem Tj:aQ Try.prog 95 ⟨9,[.tmp 2],Try.f95.body.getD .skip⟩:=⟨Try.f95,Try.func95,rfl,rfl,rfl,rfl⟩
theorem Ui:aQ Try.prog 96 ⟨19,[.tmp 4],Try.f96.body.getD .skip⟩:=⟨Try.f96,Try.func96,rfl,rfl,rfl,rfl⟩
theorem Tt:aQ Try.prog 97 ⟨19,[.tmp 4],Try.f97.body.getD .skip⟩:=⟨Try.f97,Try.func97,rfl,rfl,rfl,rfl⟩
theorem Vb:aQ Try.prog 98 ⟨19,[.tmp 4],Try.f98.body.getD .skip⟩:=⟨Try.f98,Try.func98,rfl,rfl,rfl,rfl⟩
theorem SX:aQ Try.prog 99 ⟨11,[.cell 4 60,.tmp 5],Try.f99.body.getD .skip⟩:=⟨Try.f99,Try.func99,rfl,rfl,rfl,rfl⟩
theorem NR:aQ Try.prog 100 ⟨17,[.tmp 4],Try.f100.body.getD .skip⟩:=⟨Try.f100,Try.func100,rfl,rfl,rfl,rfl⟩
theorem P8:aQ Try.prog 101 ⟨6,[.tmp 2],Try.f101.body.getD .skip⟩:=⟨Try.f101,Try.func101,rfl,rfl,rfl,rfl⟩
theorem OI:aQ Try.prog 102 ⟨17,[.tmp 2],Try.f102.body.getD .skip⟩:=⟨Try.f102,Try.func102,rfl,rfl,rfl,rfl⟩
theorem OZ:aQ Try.prog 103 ⟨9,[.tmp 2],Try.f103.body.getD .skip⟩:=⟨Try.f103,Try.func103,rfl,rfl,rfl,rfl⟩
theorem QN:aQ Try.prog 104 ⟨30,[.cell 6 60,.cell 7 4],Try.f104.body.getD .skip⟩:=⟨Try.f104,Try.func104,rfl,rfl,rfl,rfl⟩
theorem P6:aQ Try.prog 105 ⟨6,[.tmp 2],Try.f105.body.getD .skip⟩:=⟨Try.f105,Try.func105,rfl,rfl,rfl,rfl⟩
theorem Qp:∀p∈BH,aQ Try.prog p.1 p.2:=by
 unfold BH;simp only[List.forall_mem_cons];exact⟨V3,Wb,V7,V9,Wm,V1,Wc,V2,TA,VI,Vp,T5,UO,UX,Vj,Vq,TV,Uh,Ux,Tl,SD,UN,SK,UQ,UP,SE,U_,Vv,TE,UC,by simp⟩
theorem PB:∀p∈Bx,aQ Try.prog p.1 p.2:=by
 unfold Bx;simp only[List.forall_mem_cons];exact⟨SM,S0,UW,VQ,UH,SW,TS,TF,TB,TO,Vc,Vg,Tc,Ti,Vy,TU,VF,U6,VW,Tz,Vz,UY,Ub,Tn,Vr,Ur,SQ,SS,Ts,Uy,by simp⟩
theorem OQ:∀p∈A_,aQ Try.prog p.1 p.2:=by
 unfold A_;simp only[List.forall_mem_cons];exact⟨U9,VK,Ta,Th,UB,U4,S7,VO,UD,SH,T4,SU,UZ,UK,Vs,Te,VG,Uu,SJ,Uq,Ua,Uk,VL,U3,SL,S3,S5,U7,TH,Uc,by simp⟩
theorem OL:∀p∈Bl,aQ Try.prog p.1 p.2:=by
 unfold Bl;simp only[List.forall_mem_cons];exact⟨TR,SZ,Tu,Tj,Ui,Tt,Vb,SX,NR,P8,OI,OZ,QN,P6,by simp⟩
theorem Uw:∀p∈AY,aQ Try.prog p.1 p.2:=by
 unfold AY;simp only[List.forall_mem_append];exact⟨⟨⟨Qp,PB⟩,OQ⟩,OL⟩
theorem Td:xj Try.prog 60 2:=xj.two (i:=3) Try.underlying60 rfl rfl rfl rfl (by decide) (by decide) Rf Try.underlying3 (by kernel_rfl) (by kernel_rfl)
theorem Qy:eF Try.prog E where
 tt:=fun t d h=>UG (t,d) (yK (l:=AV) h)
 ft:=fun f fi h=>Uw (f,fi) (yK (l:=AY) h)
 eqN:=by
  intro t n h;change (if [60].contains t then some 2 else none)=some n at h;split at h
  ·rename_i hc;simp only[Za]at h;subst h;simp only[List.contains_cons,List.contains_nil,Bool.or_false,Bool.or_eq_true,beq_iff_eq]at hc;subst hc;exact Td
  ·simp at h
theorem mixed:Try.prog.follows .mixedOrders=true:=by kernel_rfl
theorem calls (n:Nat):jw Try.prog (run E n):=GJ Qy mixed n
end Go.Proofs.Ytnfakljmdnbipaa
namespace Go.Proofs.Ytnfakljmdnbipaa
open Go.VE Go.Proofs
def a0:V:=.clo 74 [] [.fptr [.str (ByteArray.mk #[97]),.ay,.fsl 5 [[.int .i64 2,.int .i64 1,.int .i64 1,.int .i64 0,.ay],[.int .i64 2,.int .i64 1,.int .i64 2,.int .i64 0,.ay]]]]
def a1:V:=.agg [.fsl 3 [[.str (ByteArray.mk #[97]),.ay,.fsl 5 [[.int .i64 2,.int .i64 1,.int .i64 1,.int .i64 0,.ay],[.int .i64 2,.int .i64 1,.int .i64 2,.int .i64 0,.ay]]],[.str (ByteArray.mk #[98]),.ay,.fsl 5 [[.int .i64 3,.int .i64 0,.int .i64 1,.int .i64 0,.ay]]]]]
def a2:V:=.fsl 3 [[.str (ByteArray.mk #[97]),.ay,.fsl 5 [[.int .i64 2,.int .i64 1,.int .i64 1,.int .i64 0,.ay],[.int .i64 2,.int .i64 1,.int .i64 2,.int .i64 0,.ay]]]]
def a3:V:=.clo 74 [] [.fptr [.str (ByteArray.mk #[98]),.ay,.fsl 5 [[.int .i64 3,.int .i64 0,.int .i64 1,.int .i64 0,.ay]]]]
def a4:V:=.agg [.int .i64 2,.int .i64 1,.int .i64 1,.int .i64 0,.ay]
def a5:V:=.agg [.int .i64 0,.int .i64 1]
def a6:V:=.agg [.int .i64 2,.int .i64 1,.int .i64 2,.int .i64 0,.ay]
def a7:V:=.agg [.int .i64 0,.int .i64 2]
def a8:V:=.agg [.int .i64 3,.int .i64 0,.int .i64 1,.int .i64 0,.ay]
def a9:V:=.agg [.int .i64 1,.int .i64 1]
def Rz:V:=.fsl 5 [[.int .i64 2,.int .i64 1,.int .i64 1,.int .i64 0,.ay],[.int .i64 2,.int .i64 1,.int .i64 2,.int .i64 0,.ay]]
def Rl:V:=.clo 91 [] [.fptr [.int .i64 1],.fptr [.int .i64 1]]
def I6:V:=.fptr [.int .i64 0,.int .i64 0,.int .i64 0,.int .i64 0,.int .i64 0,.int .i64 1,.int .i64 1,.int .i64 1,.int .i64 0,.int .i64 2,.int .i64 0,.int .i64 0,.int .i64 0,.int .i64 0,.int .i64 0,.int .i64 0,.int .i64 0,.int .i64 0,.int .i64 0,.int .i64 0,.int .i64 0,.int .i64 0,.int .i64 0,.int .i64 0,.int .i64 0,.int .i64 0,.int .i64 0,.int .i64 0,.int .i64 0,.int .i64 0,.int .i64 0,.int .i64 0,.int .i64 0,.int .i64 0,.int .i64 0,.int .i64 0,.int .i64 0,.int .i64 0,.int .i64 0,.int .i64 0,.int .i64 0,.int .i64 0,.int .i64 0,.int .i64 0,.int .i64 0,.int .i64 0,.int .i64 0,.int .i64 0,.int .i64 0,.int .i64 0,.int .i64 0,.int .i64 0,.int .i64 0,.int .i64 0,.int .i64 0,.int .i64 0,.int .i64 0,.int .i64 0,.int .i64 0,.int .i64 0,.int .i64 0,.int .i64 0,.int .i64 0,.int .i64 0,.int .i64 0,.int .i64 0,.int .i64 0,.int .i64 0,.int .i64 0,.int .i64 0,.int .i64 0,.int .i64 0,.int .i64 0,.int .i64 0,.int .i64 0,.int .i64 0,.int .i64 0,.int .i64 0,.int .i64 0,.int .i64 0,.int .i64 0,.int .i64 0,.int .i64 0,.int .i64 0,.int .i64 0,.int .i64 0,.int .i64 0,.int .i64 0,.int .i64 0,.int .i64 0,.int .i64 0,.int .i64 0,.int .i64 0,.int .i64 0,.int .i64 0,.int .i64 0,.int .i64 0,.int .i64 0,.int .i64 0,.int .i64 0,.int .i64 0,.int .i64 0,.int .i64 0,.int .i64 0,.int .i64 0,.int .i64 0,.int .i64 0,.int .i64 0,.int .i64 0,.int .i64 0,.int .i64 0,.int .i64 0,.int .i64 0,.int .i64 0,.int .i64 0,.int .i64 0,.int .i64 0,.int .i64 0,.int .i64 0,.int .i64 0,.int .i64 0,.int .i64 0,.int .i64 0,.int .i64 0,.int .i64 0,.int .i64 0,.int .i64 0,.int .i64 0,.int .i64 0,.int .i64 0,.int .i64 0,.int .i64 0,.int .i64 0,.int .i64 0,.int .i64 0,.int .i64 0,.int .i64 0,.int .i64 0,.int .i64 0,.int .i64 0,.int .i64 0,.int .i64 0,.int .i64 0,.int .i64 0,.int .i64 0,.int .i64 0,.int .i64 0,.int .i64 0,.int .i64 0,.int .i64 0,.int .i64 0,.int .i64 0,.int .i64 0,.int .i64 0,.int .i64 0,.int .i64 0,.int .i64 0,.int .i64 0,.int .i64 0,.int .i64 0,.int .i64 0,.int .i64 0,.int .i64 0,.int .i64 0,.int .i64 0,.int .i64 0,.int .i64 0,.int .i64 0,.int .i64 0,.int .i64 0,.int .i64 0,.int .i64 0,.int .i64 0,.int .i64 0,.int .i64 0,.int .i64 0,.int .i64 0,.int .i64 0,.int .i64 0,.int .i64 0,.int .i64 0,.int .i64 0,.int .i64 0,.int .i64 0,.int .i64 0,.int .i64 0,.int .i64 0,.int .i64 0,.int .i64 0,.int .i64 0,.int .i64 0,.int .i64 0,.int .i64 0,.int .i64 0,.int .i64 0,.int .i64 0,.int .i64 0,.int .i64 0,.int .i64 0,.int .i64 0,.int .i64 0,.int .i64 0,.int .i64 0,.int .i64 0,.int .i64 0,.int .i64 0,.int .i64 0,.int .i64 0,.int .i64 0,.int .i64 0,.int .i64 0,.int .i64 0,.int .i64 0,.int .i64 0,.int .i64 0,.int .i64 0,.int .i64 0,.int .i64 0,.int .i64 0,.int .i64 0,.int .i64 0,.int .i64 0,.int .i64 0,.int .i64 0,.int .i64 0,.int .i64 0,.int .i64 0,.int .i64 0,.int .i64 0,.int .i64 0,.int .i64 0,.int .i64 0,.int .i64 0,.int .i64 0,.int .i64 0,.int .i64 0,.int .i64 0,.int .i64 0,.int .i64 0,.int .i64 0,.int .i64 0,.int .i64 0,.int .i64 0,.int .i64 0,.int .i64 0,.int .i64 0,.int .i64 0,.int .i64 0,.int .i64 0,.int .i64 0,.int .i64 0,.int .i64 0,.int .i64 0,.int .i64 0,.int .i64 0,.int .i64 0,.int .i64 0,.int .i64 0,.int .i64 0,.int .i64 0,.int .i64 0,.int .i64 0,.int .i64 0,.int .i64 0,.int .i64 0,.int .i64 0,.int .i64 0,.int .i64 0,.int .i64 0,.int .i64 0,.int .i64 0,.int .i64 0,.int .i64 0,.int .i64 0,.int .i64 0,.int .i64 0,.int .i64 0,.int .i64 0,.int .i64 0,.int .i64 0,.int .i64 0,.int .i64 0,.int .i64 0,.int .i64 0,.int .i64 0,.int .i64 0,.int .i64 0,.int .i64 0,.int .i64 0,.int .i64 0,.int .i64 0,.int .i64 0,.int .i64 0,.int .i64 0,.int .i64 0,.int .i64 0,.int .i64 0,.int .i64 0,.int .i64 0,.int .i64 0,.int .i64 0,.int .i64 0,.int .i64 0,.int .i64 0,.int .i64 0,.int .i64 0,.int .i64 0,.int .i64 0,.int .i64 0,.int .i64 0,.int .i64 0,.int .i64 0,.int .i64 0,.int .i64 0,.int .i64 0,.int .i64 0,.int .i64 0,.int .i64 0,.int .i64 0,.int .i64 0,.int .i64 0,.int .i64 0,.int .i64 0,.int .i64 0,.int .i64 0,.int .i64 0,.int .i64 0,.int .i64 0,.int .i64 0,.int .i64 0,.int .i64 0,.int .i64 0,.int .i64 0,.int .i64 0,.int .i64 0,.int .i64 0,.int .i64 0,.int .i64 0,.int .i64 0,.int .i64 0,.int .i64 0,.int .i64 0,.int .i64 0,.int .i64 0,.int .i64 0,.int .i64 0,.int .i64 0,.int .i64 0,.int .i64 0,.int .i64 0,.int .i64 0,.int .i64 0,.int .i64 0,.int .i64 0,.int .i64 0,.int .i64 0,.int .i64 0,.int .i64 0,.int .i64 0,.int .i64 0,.int .i64 0,.int .i64 0,.int .i64 0,.int .i64 0,.int .i64 0,.int .i64 0,.int .i64 0,.int .i64 0,.int .i64 0,.int .i64 0,.int .i64 0,.int .i64 0,.int .i64 0,.int .i64 0,.int .i64 0,.int .i64 0,.int .i64 0,.int .i64 0,.int .i64 0,.int .i64 0,.int .i64 0,.int .i64 0,.int .i64 0,.int .i64 0,.int .i64 0,.int .i64 0,.int .i64 0,.int .i64 0,.int .i64 0,.int .i64 0,.int .i64 0,.int .i64 0,.int .i64 0,.int .i64 0,.int .i64 0,.int .i64 0,.int .i64 0,.int .i64 0,.int .i64 0,.int .i64 0,.int .i64 0,.int .i64 0,.int .i64 0,.int .i64 0,.int .i64 0,.int .i64 0,.int .i64 0,.int .i64 0,.int .i64 0,.int .i64 0,.int .i64 0,.int .i64 0,.int .i64 0,.int .i64 0,.int .i64 0,.int .i64 0,.int .i64 0,.int .i64 0,.int .i64 0,.int .i64 0,.int .i64 0,.int .i64 0,.int .i64 0,.int .i64 0,.int .i64 0,.int .i64 0,.int .i64 0,.int .i64 0,.int .i64 0,.int .i64 0,.int .i64 0,.int .i64 0,.int .i64 0,.int .i64 0,.int .i64 0,.int .i64 0,.int .i64 0,.int .i64 0,.int .i64 0,.int .i64 0,.int .i64 0,.int .i64 0,.int .i64 0,.int .i64 0,.int .i64 0,.int .i64 0,.int .i64 0,.int .i64 0,.int .i64 0,.int .i64 0,.int .i64 0,.int .i64 0,.int .i64 0,.int .i64 0,.int .i64 0,.int .i64 0,.int .i64 0,.int .i64 0,.int .i64 0,.int .i64 0,.int .i64 0,.int .i64 0,.int .i64 0,.int .i64 0,.int .i64 0,.int .i64 0,.int .i64 0,.int .i64 0,.int .i64 0,.int .i64 0,.int .i64 0,.int .i64 0,.int .i64 0,.int .i64 0,.int .i64 0,.int .i64 0,.int .i64 0,.int .i64 0,.int .i64 0,.int .i64 0,.int .i64 0,.int .i64 0,.int .i64 0,.int .i64 0,.int .i64 0,.int .i64 0,.int .i64 0,.int .i64 0,.int .i64 0,.int .i64 0,.int .i64 0,.int .i64 0,.int .i64 0,.int .i64 0,.int .i64 0,.int .i64 0,.int .i64 0,.int .i64 0,.int .i64 0,.int .i64 0,.int .i64 0,.int .i64 0,.int .i64 0,.int .i64 0,.int .i64 0,.int .i64 0,.int .i64 0,.int .i64 0,.int .i64 0,.int .i64 0,.int .i64 0,.int .i64 0,.int .i64 0,.int .i64 0,.int .i64 0,.int .i64 0,.int .i64 0,.int .i64 0,.int .i64 0,.int .i64 0,.int .i64 0,.int .i64 0,.int .i64 0,.int .i64 0,.int .i64 0,.int .i64 0,.int .i64 0,.int .i64 0,.int .i64 0,.int .i64 0,.int .i64 0,.int .i64 0,.int .i64 0,.int .i64 0,.int .i64 0,.int .i64 0,.int .i64 0,.int .i64 0,.int .i64 0,.int .i64 0,.int .i64 0,.int .i64 0,.int .i64 0,.int .i64 0,.int .i64 0,.int .i64 0,.int .i64 0,.int .i64 0,.int .i64 0,.int .i64 0,.int .i64 0,.int .i64 0,.int .i64 0,.int .i64 0,.int .i64 0,.int .i64 0,.int .i64 0,.int .i64 0,.int .i64 0,.int .i64 0,.int .i64 0,.int .i64 0,.int .i64 0,.int .i64 0,.int .i64 0,.int .i64 0,.int .i64 0,.int .i64 0,.int .i64 0,.int .i64 0,.int .i64 0,.int .i64 0,.int .i64 0,.int .i64 0,.int .i64 0,.int .i64 0,.int .i64 0,.int .i64 0,.int .i64 0,.int .i64 0,.int .i64 0,.int .i64 0,.int .i64 0,.int .i64 0,.int .i64 0,.int .i64 0,.int .i64 0,.int .i64 0,.int .i64 0,.int .i64 0,.int .i64 0,.int .i64 0,.int .i64 0,.int .i64 0,.int .i64 0,.int .i64 0,.int .i64 0,.int .i64 0,.int .i64 0,.int .i64 0,.int .i64 0,.int .i64 0,.int .i64 0,.int .i64 0,.int .i64 0,.int .i64 0,.int .i64 0,.int .i64 0,.int .i64 0,.int .i64 0,.int .i64 0,.int .i64 0,.int .i64 0,.int .i64 0,.int .i64 0,.int .i64 0,.int .i64 0,.int .i64 0,.int .i64 0,.int .i64 0,.int .i64 0,.int .i64 0,.int .i64 0,.int .i64 0,.int .i64 0,.int .i64 0,.int .i64 0,.int .i64 0,.int .i64 0,.int .i64 0,.int .i64 0,.int .i64 0,.int .i64 0,.int .i64 0,.int .i64 0,.int .i64 0,.int .i64 0,.int .i64 0,.int .i64 0,.int .i64 0,.int .i64 0,.int .i64 0,.int .i64 0,.int .i64 0,.int .i64 0,.int .i64 0,.int .i64 0,.int .i64 0,.int .i64 0,.int .i64 0,.int .i64 0,.int .i64 0,.int .i64 0,.int .i64 0,.int .i64 0,.int .i64 0,.int .i64 0,.int .i64 0,.int .i64 0,.int .i64 0,.int .i64 0,.int .i64 0,.int .i64 0,.int .i64 0,.int .i64 0,.int .i64 0,.int .i64 0,.int .i64 0,.int .i64 0,.int .i64 0,.int .i64 0,.int .i64 0,.int .i64 0,.int .i64 0,.int .i64 0,.int .i64 0,.int .i64 0,.int .i64 0,.int .i64 0,.int .i64 0,.int .i64 0,.int .i64 0,.int .i64 0,.int .i64 0,.int .i64 0,.int .i64 0,.int .i64 0,.int .i64 0,.int .i64 0,.int .i64 0,.int .i64 0,.int .i64 0,.int .i64 0,.int .i64 0,.int .i64 0,.int .i64 0,.int .i64 0,.int .i64 0,.int .i64 0,.int .i64 0,.int .i64 0,.int .i64 0,.int .i64 0,.int .i64 0,.int .i64 0,.int .i64 0,.int .i64 0,.int .i64 0,.int .i64 0,.int .i64 0,.int .i64 0,.int .i64 0,.int .i64 0,.int .i64 0,.int .i64 0,.int .i64 0,.int .i64 0,.int .i64 0,.int .i64 0,.int .i64 0,.int .i64 0,.int .i64 0,.int .i64 0,.int .i64 0,.int .i64 0,.int .i64 0,.int .i64 0,.int .i64 0,.int .i64 0,.int .i64 0,.int .i64 0,.int .i64 0,.int .i64 0,.int .i64 0,.int .i64 0,.int .i64 0,.int .i64 0,.int .i64 0,.int .i64 0,.int .i64 0,.int .i64 0,.int .i64 0,.int .i64 0,.int .i64 0,.int .i64 0,.int .i64 0,.int .i64 0,.int .i64 0,.int .i64 0,.int .i64 0,.int .i64 0,.int .i64 0,.int .i64 0,.int .i64 0,.int .i64 0,.int .i64 0,.int .i64 0,.int .i64 0,.int .i64 0,.int .i64 0,.int .i64 0,.int .i64 0,.int .i64 0,.int .i64 0,.int .i64 0,.int .i64 0,.int .i64 0,.int .i64 0,.int .i64 0,.int .i64 0,.int .i64 0,.int .i64 0,.int .i64 0,.int .i64 0,.int .i64 0,.int .i64 0,.int .i64 0,.int .i64 0,.int .i64 0,.int .i64 0,.int .i64 0,.int .i64 0,.int .i64 0,.int .i64 0,.int .i64 0,.int .i64 0,.int .i64 0,.int .i64 0,.int .i64 0,.int .i64 0,.int .i64 0,.int .i64 0,.int .i64 0,.int .i64 0,.int .i64 0,.int .i64 0,.int .i64 0,.int .i64 0,.int .i64 0,.int .i64 0]
def ye:V:=.agg [.int .i64 0,.int .i64 1,.fsl 1 [[.int .i64 1],[.int .i64 2]],.fsl 1 [[.int .i64 1]]]
def FH:V:=.fsl 1 [[.int .i64 1],[.int .i64 0]]
def I9:V:=.fptr [.fsl 3 [[.str (ByteArray.mk #[97]),.ay,.fsl 5 [[.int .i64 2,.int .i64 1,.int .i64 1,.int .i64 0,.ay],[.int .i64 2,.int .i64 1,.int .i64 2,.int .i64 0,.ay]]],[.str (ByteArray.mk #[98]),.ay,.fsl 5 [[.int .i64 3,.int .i64 0,.int .i64 1,.int .i64 0,.ay]]]]]
def KL:V:=.fsl 1 [[.fsl 1 [[.int .i64 1],[.int .i64 0]]]]
def zU:V:=.clo 82 [] [.fptr [.fsl 3 [[.str (ByteArray.mk #[97]),.ay,.fsl 5 [[.int .i64 2,.int .i64 1,.int .i64 1,.int .i64 0,.ay],[.int .i64 2,.int .i64 1,.int .i64 2,.int .i64 0,.ay]]],[.str (ByteArray.mk #[98]),.ay,.fsl 5 [[.int .i64 3,.int .i64 0,.int .i64 1,.int .i64 0,.ay]]]]]]
def IT:V:=.tup [.agg [.int .i64 0,.int .i64 0],.agg [.int .i64 0,.int .i64 0],.bool false]
def Jc:V:=.fsl 1 [[.int .i64 1],[.int .i64 2]]
def Sw:V:=.tup [.int .i64 0,.bool true]
def KF:V:=.tup [.int .i64 0,.bool false]
def BW:V:=.fsl 1 [[.int .i64 2],[.int .i64 0]]
def Ku:V:=.fsl 1 [[.fsl 1 [[.int .i64 2],[.int .i64 0]]]]
def tD:V:=.fsl 1 [[.int .i64 2],[.int .i64 1]]
def IL:V:=.fsl 1 [[.fsl 1 [[.int .i64 2],[.int .i64 1]]]]
def R3:V:=.tup [.agg [.int .i64 0,.int .i64 1],.bool true]
def C9:V:=.fsl 1 [[.int .i64 0],[.int .i64 1]]
def MK:V:=.fsl 1 [[.fsl 1 [[.int .i64 0],[.int .i64 1]]]]
def Sv:V:=.fsl 1 [[.int .i64 1],[.int .i64 1]]
def SB:V:=.agg [.int .i64 1,.int .i64 0,.ay,.ay]
def Sj:V:=.fsl 1 [[.int .i64 0],[.int .i64 0]]
def a32:V:=.fsl 1 [[.fsl 1 [[.int .i64 0],[.int .i64 1]]],[.fsl 1 [[.int .i64 0],[.int .i64 0]]]]
def k0:aJ:=⟨48,[.int .i64 2,.int .i64 1,.int .i64 8],.bool true⟩
theorem QI:aB E k0:=ax (n:=100) (l:=[]) (by simp) (by kernel_rfl)
def k1:aJ:=⟨94,[.int .u8 97],.bool true⟩
theorem Nj:aB E k1:=ax (n:=100) (l:=[]) (by simp) (by kernel_rfl)
def k2:aJ:=⟨72,[.str (ByteArray.mk #[97])],.bool true⟩
theorem PT:aB E k2:=ax (n:=100) (l:=[k1]) (by simp only[List.forall_mem_cons];exact⟨Nj,by simp⟩) (by kernel_rfl)
def k3:aJ:=⟨96,[.fsl 3 [],a0],.int .i64 (-1)⟩
theorem Ou:aB E k3:=ax (n:=100) (l:=[]) (by simp) (by kernel_rfl)
def k4:aJ:=⟨73,[.fsl 3 [],a0],.bool false⟩
theorem QG:aB E k4:=ax (n:=100) (l:=[k3]) (by simp only[List.forall_mem_cons];exact⟨Ou,by simp⟩) (by kernel_rfl)
def k5:aJ:=⟨49,[a1,.int .i64 0],.int .i64 0⟩
theorem Nw:aB E k5:=ax (n:=100) (l:=[k2,k4]) (by simp only[List.forall_mem_cons];exact⟨PT,QG,by simp⟩) (by kernel_rfl)
def k6:aJ:=⟨94,[.int .u8 98],.bool true⟩
theorem QD:aB E k6:=ax (n:=100) (l:=[]) (by simp) (by kernel_rfl)
def k7:aJ:=⟨72,[.str (ByteArray.mk #[98])],.bool true⟩
theorem QO:aB E k7:=ax (n:=100) (l:=[k6]) (by simp only[List.forall_mem_cons];exact⟨QD,by simp⟩) (by kernel_rfl)
def k8:aJ:=⟨74,[.agg [.str (ByteArray.mk #[97]),.ay,.fsl 5 [[.int .i64 2,.int .i64 1,.int .i64 1,.int .i64 0,.ay],[.int .i64 2,.int .i64 1,.int .i64 2,.int .i64 0,.ay]]],.fptr [.str (ByteArray.mk #[98]),.ay,.fsl 5 [[.int .i64 3,.int .i64 0,.int .i64 1,.int .i64 0,.ay]]]],.bool false⟩
theorem Qn:aB E k8:=ax (n:=100) (l:=[]) (by simp) (by kernel_rfl)
def k9:aJ:=⟨96,[a2,a3],.int .i64 (-1)⟩
theorem O3:aB E k9:=ax (n:=100) (l:=[k8]) (by simp only[List.forall_mem_cons];exact⟨Qn,by simp⟩) (by kernel_rfl)
def R2:aJ:=⟨73,[a2,a3],.bool false⟩
theorem MJ:aB E R2:=ax (n:=100) (l:=[k9]) (by simp only[List.forall_mem_cons];exact⟨O3,by simp⟩) (by kernel_rfl)
def Ry:aJ:=⟨49,[a1,.int .i64 1],.int .i64 0⟩
theorem LC:aB E Ry:=ax (n:=100) (l:=[k7,R2]) (by simp only[List.forall_mem_cons];exact⟨QO,MJ,by simp⟩) (by kernel_rfl)
def F9:aJ:=⟨50,[a1],.clo 77 [] [.fptr [.fsl 3 [[.str (ByteArray.mk #[97]),.ay,.fsl 5 [[.int .i64 2,.int .i64 1,.int .i64 1,.int .i64 0,.ay],[.int .i64 2,.int .i64 1,.int .i64 2,.int .i64 0,.ay]]],[.str (ByteArray.mk #[98]),.ay,.fsl 5 [[.int .i64 3,.int .i64 0,.int .i64 1,.int .i64 0,.ay]]]]]]⟩
theorem ym:aB E F9:=ax (n:=100) (l:=[]) (by simp) (by kernel_rfl)
def Md:aJ:=⟨48,[.int .i64 1,.int .i64 0,.int .i64 1],.bool true⟩
theorem Ft:aB E Md:=ax (n:=100) (l:=[]) (by simp) (by kernel_rfl)
def Kx:aJ:=⟨48,[.int .i64 1,.int .i64 0,.int .i64 199],.bool true⟩
theorem GL:aB E Kx:=ax (n:=100) (l:=[]) (by simp) (by kernel_rfl)
def RU:aJ:=⟨78,[a1,.int .i64 0,a4],.bool true⟩
theorem LH:aB E RU:=ax (n:=100) (l:=[Md,Kx]) (by simp only[List.forall_mem_cons];exact⟨Ft,GL,by simp⟩) (by kernel_rfl)
def Ja:aJ:=⟨48,[.int .i64 0,.int .i64 0,.int .i64 1099511627776],.bool true⟩
theorem B8:aB E Ja:=ax (n:=100) (l:=[]) (by simp) (by kernel_rfl)
def Ri:aJ:=⟨51,[a1,a5,a4],.int .i64 0⟩
theorem Mc:aB E Ri:=ax (n:=100) (l:=[RU,Ja]) (by simp only[List.forall_mem_cons];exact⟨LH,B8,by simp⟩) (by kernel_rfl)
def RR:aJ:=⟨48,[.int .i64 2,.int .i64 0,.int .i64 199],.bool true⟩
theorem KJ:aB E RR:=ax (n:=100) (l:=[]) (by simp) (by kernel_rfl)
def R9:aJ:=⟨78,[a1,.int .i64 0,a6],.bool true⟩
theorem Nb:aB E R9:=ax (n:=100) (l:=[Md,RR]) (by simp only[List.forall_mem_cons];exact⟨Ft,KJ,by simp⟩) (by kernel_rfl)
def R_:aJ:=⟨51,[a1,a7,a6],.int .i64 0⟩
theorem LZ:aB E R_:=ax (n:=100) (l:=[R9,Ja]) (by simp only[List.forall_mem_cons];exact⟨Nb,B8,by simp⟩) (by kernel_rfl)
def Rt:aJ:=⟨48,[.int .i64 0,.int .i64 0,.int .i64 1],.bool true⟩
theorem KY:aB E Rt:=ax (n:=100) (l:=[]) (by simp) (by kernel_rfl)
def Rc:aJ:=⟨78,[a1,.int .i64 1,a8],.bool true⟩
theorem LG:aB E Rc:=ax (n:=100) (l:=[Rt,Kx]) (by simp only[List.forall_mem_cons];exact⟨KY,GL,by simp⟩) (by kernel_rfl)
def Sc:aJ:=⟨51,[a1,a9,a8],.int .i64 0⟩
theorem K6:aB E Sc:=ax (n:=100) (l:=[Rc,Ja]) (by simp only[List.forall_mem_cons];exact⟨LG,B8,by simp⟩) (by kernel_rfl)
def R0:aJ:=⟨91,[a4,.fptr [.int .i64 1],.fptr [.int .i64 1]],.bool true⟩
theorem M3:aB E R0:=ax (n:=100) (l:=[]) (by simp) (by kernel_rfl)
def RK:aJ:=⟨35,[Rz,Rl],.int .i64 0⟩
theorem MG:aB E RK:=ax (n:=100) (l:=[R0]) (by simp only[List.forall_mem_cons];exact⟨M3,by simp⟩) (by kernel_rfl)
def Ru:aJ:=⟨26,[Rz,Rl],.bool true⟩
theorem Mh:aB E Ru:=ax (n:=100) (l:=[RK]) (by simp only[List.forall_mem_cons];exact⟨MG,by simp⟩) (by kernel_rfl)
def Rw:aJ:=⟨68,[a1,.int .i64 0,.int .i64 1,.int .i64 1],.bool true⟩
theorem Lm:aB E Rw:=ax (n:=100) (l:=[Ru]) (by simp only[List.forall_mem_cons];exact⟨Mh,by simp⟩) (by kernel_rfl)
def Sd:aJ:=⟨44,[a1],.tup [.fptr [.int .i64 0,.int .i64 0,.int .i64 0,.int .i64 0,.int .i64 0,.int .i64 1,.int .i64 1,.int .i64 1,.int .i64 0,.int .i64 2,.int .i64 0,.int .i64 0,.int .i64 0,.int .i64 0,.int .i64 0,.int .i64 0,.int .i64 0,.int .i64 0,.int .i64 0,.int .i64 0,.int .i64 0,.int .i64 0,.int .i64 0,.int .i64 0,.int .i64 0,.int .i64 0,.int .i64 0,.int .i64 0,.int .i64 0,.int .i64 0,.int .i64 0,.int .i64 0,.int .i64 0,.int .i64 0,.int .i64 0,.int .i64 0,.int .i64 0,.int .i64 0,.int .i64 0,.int .i64 0,.int .i64 0,.int .i64 0,.int .i64 0,.int .i64 0,.int .i64 0,.int .i64 0,.int .i64 0,.int .i64 0,.int .i64 0,.int .i64 0,.int .i64 0,.int .i64 0,.int .i64 0,.int .i64 0,.int .i64 0,.int .i64 0,.int .i64 0,.int .i64 0,.int .i64 0,.int .i64 0,.int .i64 0,.int .i64 0,.int .i64 0,.int .i64 0,.int .i64 0,.int .i64 0,.int .i64 0,.int .i64 0,.int .i64 0,.int .i64 0,.int .i64 0,.int .i64 0,.int .i64 0,.int .i64 0,.int .i64 0,.int .i64 0,.int .i64 0,.int .i64 0,.int .i64 0,.int .i64 0,.int .i64 0,.int .i64 0,.int .i64 0,.int .i64 0,.int .i64 0,.int .i64 0,.int .i64 0,.int .i64 0,.int .i64 0,.int .i64 0,.int .i64 0,.int .i64 0,.int .i64 0,.int .i64 0,.int .i64 0,.int .i64 0,.int .i64 0,.int .i64 0,.int .i64 0,.int .i64 0,.int .i64 0,.int .i64 0,.int .i64 0,.int .i64 0,.int .i64 0,.int .i64 0,.int .i64 0,.int .i64 0,.int .i64 0,.int .i64 0,.int .i64 0,.int .i64 0,.int .i64 0,.int .i64 0,.int .i64 0,.int .i64 0,.int .i64 0,.int .i64 0,.int .i64 0,.int .i64 0,.int .i64 0,.int .i64 0,.int .i64 0,.int .i64 0,.int .i64 0,.int .i64 0,.int .i64 0,.int .i64 0,.int .i64 0,.int .i64 0,.int .i64 0,.int .i64 0,.int .i64 0,.int .i64 0,.int .i64 0,.int .i64 0,.int .i64 0,.int .i64 0,.int .i64 0,.int .i64 0,.int .i64 0,.int .i64 0,.int .i64 0,.int .i64 0,.int .i64 0,.int .i64 0,.int .i64 0,.int .i64 0,.int .i64 0,.int .i64 0,.int .i64 0,.int .i64 0,.int .i64 0,.int .i64 0,.int .i64 0,.int .i64 0,.int .i64 0,.int .i64 0,.int .i64 0,.int .i64 0,.int .i64 0,.int .i64 0,.int .i64 0,.int .i64 0,.int .i64 0,.int .i64 0,.int .i64 0,.int .i64 0,.int .i64 0,.int .i64 0,.int .i64 0,.int .i64 0,.int .i64 0,.int .i64 0,.int .i64 0,.int .i64 0,.int .i64 0,.int .i64 0,.int .i64 0,.int .i64 0,.int .i64 0,.int .i64 0,.int .i64 0,.int .i64 0,.int .i64 0,.int .i64 0,.int .i64 0,.int .i64 0,.int .i64 0,.int .i64 0,.int .i64 0,.int .i64 0,.int .i64 0,.int .i64 0,.int .i64 0,.int .i64 0,.int .i64 0,.int .i64 0,.int .i64 0,.int .i64 0,.int .i64 0,.int .i64 0,.int .i64 0,.int .i64 0,.int .i64 0,.int .i64 0,.int .i64 0,.int .i64 0,.int .i64 0,.int .i64 0,.int .i64 0,.int .i64 0,.int .i64 0,.int .i64 0,.int .i64 0,.int .i64 0,.int .i64 0,.int .i64 0,.int .i64 0,.int .i64 0,.int .i64 0,.int .i64 0,.int .i64 0,.int .i64 0,.int .i64 0,.int .i64 0,.int .i64 0,.int .i64 0,.int .i64 0,.int .i64 0,.int .i64 0,.int .i64 0,.int .i64 0,.int .i64 0,.int .i64 0,.int .i64 0,.int .i64 0,.int .i64 0,.int .i64 0,.int .i64 0,.int .i64 0,.int .i64 0,.int .i64 0,.int .i64 0,.int .i64 0,.int .i64 0,.int .i64 0,.int .i64 0,.int .i64 0,.int .i64 0,.int .i64 0,.int .i64 0,.int .i64 0,.int .i64 0,.int .i64 0,.int .i64 0,.int .i64 0,.int .i64 0,.int .i64 0,.int .i64 0,.int .i64 0,.int .i64 0,.int .i64 0,.int .i64 0,.int .i64 0,.int .i64 0,.int .i64 0,.int .i64 0,.int .i64 0,.int .i64 0,.int .i64 0,.int .i64 0,.int .i64 0,.int .i64 0,.int .i64 0,.int .i64 0,.int .i64 0,.int .i64 0,.int .i64 0,.int .i64 0,.int .i64 0,.int .i64 0,.int .i64 0,.int .i64 0,.int .i64 0,.int .i64 0,.int .i64 0,.int .i64 0,.int .i64 0,.int .i64 0,.int .i64 0,.int .i64 0,.int .i64 0,.int .i64 0,.int .i64 0,.int .i64 0,.int .i64 0,.int .i64 0,.int .i64 0,.int .i64 0,.int .i64 0,.int .i64 0,.int .i64 0,.int .i64 0,.int .i64 0,.int .i64 0,.int .i64 0,.int .i64 0,.int .i64 0,.int .i64 0,.int .i64 0,.int .i64 0,.int .i64 0,.int .i64 0,.int .i64 0,.int .i64 0,.int .i64 0,.int .i64 0,.int .i64 0,.int .i64 0,.int .i64 0,.int .i64 0,.int .i64 0,.int .i64 0,.int .i64 0,.int .i64 0,.int .i64 0,.int .i64 0,.int .i64 0,.int .i64 0,.int .i64 0,.int .i64 0,.int .i64 0,.int .i64 0,.int .i64 0,.int .i64 0,.int .i64 0,.int .i64 0,.int .i64 0,.int .i64 0,.int .i64 0,.int .i64 0,.int .i64 0,.int .i64 0,.int .i64 0,.int .i64 0,.int .i64 0,.int .i64 0,.int .i64 0,.int .i64 0,.int .i64 0,.int .i64 0,.int .i64 0,.int .i64 0,.int .i64 0,.int .i64 0,.int .i64 0,.int .i64 0,.int .i64 0,.int .i64 0,.int .i64 0,.int .i64 0,.int .i64 0,.int .i64 0,.int .i64 0,.int .i64 0,.int .i64 0,.int .i64 0,.int .i64 0,.int .i64 0,.int .i64 0,.int .i64 0,.int .i64 0,.int .i64 0,.int .i64 0,.int .i64 0,.int .i64 0,.int .i64 0,.int .i64 0,.int .i64 0,.int .i64 0,.int .i64 0,.int .i64 0,.int .i64 0,.int .i64 0,.int .i64 0,.int .i64 0,.int .i64 0,.int .i64 0,.int .i64 0,.int .i64 0,.int .i64 0,.int .i64 0,.int .i64 0,.int .i64 0,.int .i64 0,.int .i64 0,.int .i64 0,.int .i64 0,.int .i64 0,.int .i64 0,.int .i64 0,.int .i64 0,.int .i64 0,.int .i64 0,.int .i64 0,.int .i64 0,.int .i64 0,.int .i64 0,.int .i64 0,.int .i64 0,.int .i64 0,.int .i64 0,.int .i64 0,.int .i64 0,.int .i64 0,.int .i64 0,.int .i64 0,.int .i64 0,.int .i64 0,.int .i64 0,.int .i64 0,.int .i64 0,.int .i64 0,.int .i64 0,.int .i64 0,.int .i64 0,.int .i64 0,.int .i64 0,.int .i64 0,.int .i64 0,.int .i64 0,.int .i64 0,.int .i64 0,.int .i64 0,.int .i64 0,.int .i64 0,.int .i64 0,.int .i64 0,.int .i64 0,.int .i64 0,.int .i64 0,.int .i64 0,.int .i64 0,.int .i64 0,.int .i64 0,.int .i64 0,.int .i64 0,.int .i64 0,.int .i64 0,.int .i64 0,.int .i64 0,.int .i64 0,.int .i64 0,.int .i64 0,.int .i64 0,.int .i64 0,.int .i64 0,.int .i64 0,.int .i64 0,.int .i64 0,.int .i64 0,.int .i64 0,.int .i64 0,.int .i64 0,.int .i64 0,.int .i64 0,.int .i64 0,.int .i64 0,.int .i64 0,.int .i64 0,.int .i64 0,.int .i64 0,.int .i64 0,.int .i64 0,.int .i64 0,.int .i64 0,.int .i64 0,.int .i64 0,.int .i64 0,.int .i64 0,.int .i64 0,.int .i64 0,.int .i64 0,.int .i64 0,.int .i64 0,.int .i64 0,.int .i64 0,.int .i64 0,.int .i64 0,.int .i64 0,.int .i64 0,.int .i64 0,.int .i64 0,.int .i64 0,.int .i64 0,.int .i64 0,.int .i64 0,.int .i64 0,.int .i64 0,.int .i64 0,.int .i64 0,.int .i64 0,.int .i64 0,.int .i64 0,.int .i64 0,.int .i64 0,.int .i64 0,.int .i64 0,.int .i64 0,.int .i64 0,.int .i64 0,.int .i64 0,.int .i64 0,.int .i64 0,.int .i64 0,.int .i64 0,.int .i64 0,.int .i64 0,.int .i64 0,.int .i64 0,.int .i64 0,.int .i64 0,.int .i64 0,.int .i64 0,.int .i64 0,.int .i64 0,.int .i64 0,.int .i64 0,.int .i64 0,.int .i64 0,.int .i64 0,.int .i64 0,.int .i64 0,.int .i64 0,.int .i64 0,.int .i64 0,.int .i64 0,.int .i64 0,.int .i64 0,.int .i64 0,.int .i64 0,.int .i64 0,.int .i64 0,.int .i64 0,.int .i64 0,.int .i64 0,.int .i64 0,.int .i64 0,.int .i64 0,.int .i64 0,.int .i64 0,.int .i64 0,.int .i64 0,.int .i64 0,.int .i64 0,.int .i64 0,.int .i64 0,.int .i64 0,.int .i64 0,.int .i64 0,.int .i64 0,.int .i64 0,.int .i64 0,.int .i64 0,.int .i64 0,.int .i64 0,.int .i64 0,.int .i64 0,.int .i64 0,.int .i64 0,.int .i64 0,.int .i64 0,.int .i64 0,.int .i64 0,.int .i64 0,.int .i64 0,.int .i64 0,.int .i64 0,.int .i64 0,.int .i64 0,.int .i64 0,.int .i64 0,.int .i64 0,.int .i64 0,.int .i64 0,.int .i64 0,.int .i64 0,.int .i64 0,.int .i64 0,.int .i64 0,.int .i64 0,.int .i64 0,.int .i64 0,.int .i64 0,.int .i64 0,.int .i64 0,.int .i64 0,.int .i64 0,.int .i64 0,.int .i64 0,.int .i64 0,.int .i64 0,.int .i64 0,.int .i64 0,.int .i64 0,.int .i64 0,.int .i64 0,.int .i64 0,.int .i64 0,.int .i64 0,.int .i64 0,.int .i64 0,.int .i64 0,.int .i64 0,.int .i64 0,.int .i64 0,.int .i64 0,.int .i64 0,.int .i64 0,.int .i64 0,.int .i64 0,.int .i64 0,.int .i64 0,.int .i64 0,.int .i64 0,.int .i64 0,.int .i64 0,.int .i64 0,.int .i64 0,.int .i64 0,.int .i64 0,.int .i64 0,.int .i64 0,.int .i64 0,.int .i64 0,.int .i64 0,.int .i64 0,.int .i64 0,.int .i64 0,.int .i64 0,.int .i64 0,.int .i64 0,.int .i64 0,.int .i64 0,.int .i64 0,.int .i64 0,.int .i64 0,.int .i64 0,.int .i64 0,.int .i64 0,.int .i64 0,.int .i64 0,.int .i64 0,.int .i64 0,.int .i64 0,.int .i64 0,.int .i64 0,.int .i64 0,.int .i64 0,.int .i64 0,.int .i64 0,.int .i64 0,.int .i64 0,.int .i64 0,.int .i64 0,.int .i64 0,.int .i64 0,.int .i64 0,.int .i64 0,.int .i64 0,.int .i64 0,.int .i64 0,.int .i64 0,.int .i64 0,.int .i64 0,.int .i64 0,.int .i64 0,.int .i64 0,.int .i64 0,.int .i64 0,.int .i64 0,.int .i64 0,.int .i64 0,.int .i64 0,.int .i64 0,.int .i64 0,.int .i64 0,.int .i64 0,.int .i64 0,.int .i64 0,.int .i64 0,.int .i64 0,.int .i64 0,.int .i64 0,.int .i64 0,.int .i64 0,.int .i64 0,.int .i64 0,.int .i64 0,.int .i64 0,.int .i64 0,.int .i64 0,.int .i64 0,.int .i64 0,.int .i64 0,.int .i64 0,.int .i64 0,.int .i64 0,.int .i64 0,.int .i64 0,.int .i64 0,.int .i64 0,.int .i64 0,.int .i64 0,.int .i64 0,.int .i64 0,.int .i64 0,.int .i64 0,.int .i64 0,.int .i64 0,.int .i64 0,.int .i64 0,.int .i64 0,.int .i64 0,.int .i64 0,.int .i64 0,.int .i64 0,.int .i64 0,.int .i64 0,.int .i64 0,.int .i64 0,.int .i64 0,.int .i64 0,.int .i64 0,.int .i64 0,.int .i64 0,.int .i64 0,.int .i64 0,.int .i64 0,.int .i64 0,.int .i64 0,.int .i64 0,.int .i64 0,.int .i64 0,.int .i64 0,.int .i64 0,.int .i64 0,.int .i64 0,.int .i64 0,.int .i64 0,.int .i64 0,.int .i64 0,.int .i64 0,.int .i64 0,.int .i64 0,.int .i64 0,.int .i64 0,.int .i64 0,.int .i64 0,.int .i64 0,.int .i64 0,.int .i64 0,.int .i64 0,.int .i64 0,.int .i64 0,.int .i64 0,.int .i64 0,.int .i64 0,.int .i64 0,.int .i64 0,.int .i64 0,.int .i64 0,.int .i64 0,.int .i64 0,.int .i64 0,.int .i64 0,.int .i64 0,.int .i64 0,.int .i64 0,.int .i64 0,.int .i64 0,.int .i64 0,.int .i64 0,.int .i64 0,.int .i64 0,.int .i64 0,.int .i64 0,.int .i64 0,.int .i64 0,.int .i64 0,.int .i64 0,.int .i64 0,.int .i64 0,.int .i64 0,.int .i64 0,.int .i64 0,.int .i64 0,.int .i64 0,.int .i64 0],.agg [.int .i64 0,.int .i64 0],.int .i64 0]⟩
theorem MX:aB E Sd:=ax (n:=100) (l:=[F9,Rw]) (by simp only[List.forall_mem_cons];exact⟨ym,Lm,by simp⟩) (by kernel_rfl)
def Rr:aJ:=⟨81,[a1,I6,a5],.fsl 2 [[.int .i64 0,.int .i64 2],[.int .i64 1,.int .i64 1]]⟩
theorem Lp:aB E Rr:=ax (n:=100) (l:=[]) (by simp) (by kernel_rfl)
def R4:aJ:=⟨81,[a1,I6,a9],.ay⟩
theorem MH:aB E R4:=ax (n:=100) (l:=[]) (by simp) (by kernel_rfl)
def R1:aJ:=⟨81,[a1,I6,a7],.ay⟩
theorem MW:aB E R1:=ax (n:=100) (l:=[]) (by simp) (by kernel_rfl)
def Rm:aJ:=⟨52,[a1,I6],.tup [.agg [.int .i64 0,.int .i64 0],.bool false]⟩
theorem K2:aB E Rm:=ax (n:=100) (l:=[F9,Rr,R4,R1]) (by simp only[List.forall_mem_cons];exact⟨ym,Lp,MH,MW,by simp⟩) (by kernel_rfl)
def RJ:aJ:=⟨28,[a1],.tup [.agg [.int .i64 0,.int .i64 0],.int .i64 0]⟩
theorem Mw:aB E RJ:=ax (n:=100) (l:=[k0,k5,Ry,F9,Ri,R_,Sc,Sd,Rm]) (by simp only[List.forall_mem_cons];exact⟨QI,Nw,LC,ym,Mc,LZ,K6,MX,K2,by simp⟩) (by kernel_rfl)
def Ck:aJ:=⟨8,[a1],.bool true⟩
theorem rR:aB E Ck:=ax (n:=100) (l:=[RJ]) (by simp only[List.forall_mem_cons];exact⟨Mw,by simp⟩) (by kernel_rfl)
def LA:aJ:=⟨34,[a1,.int .i64 0,.int .i64 1],.int .i64 0⟩
theorem Gc:aB E LA:=ax (n:=100) (l:=[Ck]) (by simp only[List.forall_mem_cons];exact⟨rR,by simp⟩) (by kernel_rfl)
def Ji:aJ:=⟨31,[a1,.int .i64 0,.int .i64 1],ye⟩
theorem Ci:aB E Ji:=ax (n:=100) (l:=[]) (by simp) (by kernel_rfl)
def RG:aJ:=⟨82,[FH,I9],.bool false⟩
theorem KR:aB E RG:=ax (n:=100) (l:=[]) (by simp) (by kernel_rfl)
def Q2:aJ:=⟨85,[KL,zU],.int .i64 (-1)⟩
theorem Lh:aB E Q2:=ax (n:=100) (l:=[RG]) (by simp only[List.forall_mem_cons];exact⟨KR,by simp⟩) (by kernel_rfl)
def QZ:aJ:=⟨58,[KL,zU],.bool false⟩
theorem My:aB E QZ:=ax (n:=100) (l:=[Q2]) (by simp only[List.forall_mem_cons];exact⟨Lh,by simp⟩) (by kernel_rfl)
def MT:aJ:=⟨53,[a1,KL],.bool true⟩
theorem F_:aB E MT:=ax (n:=100) (l:=[Ck,QZ]) (by simp only[List.forall_mem_cons];exact⟨rR,My,by simp⟩) (by kernel_rfl)
def K7:aJ:=⟨54,[a1,FH],.bool true⟩
theorem Gt:aB E K7:=ax (n:=100) (l:=[]) (by simp) (by kernel_rfl)
def K9:aJ:=⟨83,[a1,FH],IT⟩
theorem FA:aB E K9:=ax (n:=100) (l:=[]) (by simp) (by kernel_rfl)
def Mt:aJ:=⟨105,[.int .i64 2],.bool false⟩
theorem F0:aB E Mt:=ax (n:=100) (l:=[]) (by simp) (by kernel_rfl)
def RY:aJ:=⟨100,[.int .i64 2,.int .i64 1],.bool false⟩
theorem Ln:aB E RY:=ax (n:=100) (l:=[Mt]) (by simp only[List.forall_mem_cons];exact⟨F0,by simp⟩) (by kernel_rfl)
def Jk:aJ:=⟨105,[.int .i64 1],.bool false⟩
theorem Bn:aB E Jk:=ax (n:=100) (l:=[]) (by simp) (by kernel_rfl)
def ML:aJ:=⟨100,[.int .i64 1,.int .i64 1],.bool false⟩
theorem Gf:aB E ML:=ax (n:=100) (l:=[Jk]) (by simp only[List.forall_mem_cons];exact⟨Bn,by simp⟩) (by kernel_rfl)
def RW:aJ:=⟨84,[Jc,.int .i64 1],Sw⟩
theorem LJ:aB E RW:=ax (n:=100) (l:=[RY,ML]) (by simp only[List.forall_mem_cons];exact⟨Ln,Gf,by simp⟩) (by kernel_rfl)
def M7:aJ:=⟨57,[Jc,.int .i64 1],.int .i64 1⟩
theorem Gw:aB E M7:=ax (n:=100) (l:=[RW]) (by simp only[List.forall_mem_cons];exact⟨LJ,by simp⟩) (by kernel_rfl)
def RX:aJ:=⟨100,[.int .i64 1,.int .i64 0],.bool false⟩
theorem MM:aB E RX:=ax (n:=100) (l:=[Jk]) (by simp only[List.forall_mem_cons];exact⟨Bn,by simp⟩) (by kernel_rfl)
def Sq:aJ:=⟨101,[.int .i64 1],.bool false⟩
theorem KA:aB E Sq:=ax (n:=100) (l:=[]) (by simp) (by kernel_rfl)
def Sm:aJ:=⟨84,[.fsl 1 [[.int .i64 1]],.int .i64 0],KF⟩
theorem L8:aB E Sm:=ax (n:=100) (l:=[RX,Sq]) (by simp only[List.forall_mem_cons];exact⟨MM,KA,by simp⟩) (by kernel_rfl)
def MC:aJ:=⟨57,[.fsl 1 [[.int .i64 1]],.int .i64 0],.int .i64 0⟩
theorem Gv:aB E MC:=ax (n:=100) (l:=[Sm]) (by simp only[List.forall_mem_cons];exact⟨L8,by simp⟩) (by kernel_rfl)
def Mb:aJ:=⟨32,[ye,FH],.int .i64 1⟩
theorem FM:aB E Mb:=ax (n:=100) (l:=[M7,MC]) (by simp only[List.forall_mem_cons];exact⟨Gw,Gv,by simp⟩) (by kernel_rfl)
def RB:aJ:=⟨82,[BW,I9],.bool false⟩
theorem Mz:aB E RB:=ax (n:=100) (l:=[]) (by simp) (by kernel_rfl)
def Sh:aJ:=⟨85,[Ku,zU],.int .i64 (-1)⟩
theorem KK:aB E Sh:=ax (n:=100) (l:=[RB]) (by simp only[List.forall_mem_cons];exact⟨Mz,by simp⟩) (by kernel_rfl)
def Sf:aJ:=⟨58,[Ku,zU],.bool false⟩
theorem Ky:aB E Sf:=ax (n:=100) (l:=[Sh]) (by simp only[List.forall_mem_cons];exact⟨KK,by simp⟩) (by kernel_rfl)
def L9:aJ:=⟨53,[a1,Ku],.bool true⟩
theorem GG:aB E L9:=ax (n:=100) (l:=[Ck,Sf]) (by simp only[List.forall_mem_cons];exact⟨rR,Ky,by simp⟩) (by kernel_rfl)
def KZ:aJ:=⟨54,[a1,BW],.bool true⟩
theorem Fz:aB E KZ:=ax (n:=100) (l:=[]) (by simp) (by kernel_rfl)
def KU:aJ:=⟨83,[a1,BW],IT⟩
theorem Fy:aB E KU:=ax (n:=100) (l:=[]) (by simp) (by kernel_rfl)
def RM:aJ:=⟨100,[.int .i64 2,.int .i64 2],.bool false⟩
theorem K_:aB E RM:=ax (n:=100) (l:=[Mt]) (by simp only[List.forall_mem_cons];exact⟨F0,by simp⟩) (by kernel_rfl)
def R5:aJ:=⟨100,[.int .i64 1,.int .i64 2],.bool true⟩
theorem Ma:aB E R5:=ax (n:=100) (l:=[Jk]) (by simp only[List.forall_mem_cons];exact⟨Bn,by simp⟩) (by kernel_rfl)
def Su:aJ:=⟨84,[Jc,.int .i64 2],.tup [.int .i64 1,.bool true]⟩
theorem KW:aB E Su:=ax (n:=100) (l:=[RM,R5]) (by simp only[List.forall_mem_cons];exact⟨K_,Ma,by simp⟩) (by kernel_rfl)
def IZ:aJ:=⟨57,[Jc,.int .i64 2],.int .i64 2⟩
theorem BX:aB E IZ:=ax (n:=100) (l:=[Su]) (by simp only[List.forall_mem_cons];exact⟨KW,by simp⟩) (by kernel_rfl)
def ME:aJ:=⟨32,[ye,BW],.int .i64 2⟩
theorem Fh:aB E ME:=ax (n:=100) (l:=[IZ,MC]) (by simp only[List.forall_mem_cons];exact⟨BX,Gv,by simp⟩) (by kernel_rfl)
def Se:aJ:=⟨23,[a1,.int .i64 0,.int .i64 1],.tup [.int .i64 2,.fsl 1 [[.int .i64 2],[.int .i64 0]],.int .i64 0]⟩
theorem MQ:aB E Se:=ax (n:=100) (l:=[LA,Ji,MT,K7,K9,Mb,L9,KZ,KU,ME]) (by simp only[List.forall_mem_cons];exact⟨Gc,Ci,F_,Gt,FA,FM,GG,Fz,Fy,Fh,by simp⟩) (by kernel_rfl)
def Rk:aJ:=⟨82,[tD,I9],.bool false⟩
theorem K4:aB E Rk:=ax (n:=100) (l:=[]) (by simp) (by kernel_rfl)
def RP:aJ:=⟨85,[IL,zU],.int .i64 (-1)⟩
theorem MB:aB E RP:=ax (n:=100) (l:=[Rk]) (by simp only[List.forall_mem_cons];exact⟨K4,by simp⟩) (by kernel_rfl)
def Rn:aJ:=⟨58,[IL,zU],.bool false⟩
theorem L4:aB E Rn:=ax (n:=100) (l:=[RP]) (by simp only[List.forall_mem_cons];exact⟨MB,by simp⟩) (by kernel_rfl)
def IS:aJ:=⟨53,[a1,IL],.bool true⟩
theorem B9:aB E IS:=ax (n:=100) (l:=[Ck,Rn]) (by simp only[List.forall_mem_cons];exact⟨rR,L4,by simp⟩) (by kernel_rfl)
def IN:aJ:=⟨54,[a1,tD],.bool true⟩
theorem B_:aB E IN:=ax (n:=100) (l:=[]) (by simp) (by kernel_rfl)
def Si:aJ:=⟨104,[a1,.int .i64 2,.int .i64 1],R3⟩
theorem LK:aB E Si:=ax (n:=100) (l:=[Ck,F9]) (by simp only[List.forall_mem_cons];exact⟨rR,ym,by simp⟩) (by kernel_rfl)
def Jg:aJ:=⟨99,[a1,.int .i64 1],R3⟩
theorem CA:aB E Jg:=ax (n:=100) (l:=[Si]) (by simp only[List.forall_mem_cons];exact⟨LK,by simp⟩) (by kernel_rfl)
def IY:aJ:=⟨83,[a1,tD],IT⟩
theorem BV:aB E IY:=ax (n:=100) (l:=[Jg]) (by simp only[List.forall_mem_cons];exact⟨CA,by simp⟩) (by kernel_rfl)
def Re:aJ:=⟨84,[.fsl 1 [[.int .i64 1]],.int .i64 1],Sw⟩
theorem K3:aB E Re:=ax (n:=100) (l:=[ML]) (by simp only[List.forall_mem_cons];exact⟨Gf,by simp⟩) (by kernel_rfl)
def Mg:aJ:=⟨57,[.fsl 1 [[.int .i64 1]],.int .i64 1],.int .i64 1⟩
theorem FJ:aB E Mg:=ax (n:=100) (l:=[Re]) (by simp only[List.forall_mem_cons];exact⟨K3,by simp⟩) (by kernel_rfl)
def I4:aJ:=⟨32,[ye,tD],.int .i64 1⟩
theorem Ct:aB E I4:=ax (n:=100) (l:=[IZ,Mg]) (by simp only[List.forall_mem_cons];exact⟨BX,FJ,by simp⟩) (by kernel_rfl)
def Ra:aJ:=⟨46,[ye,a1,tD,.int .i64 1],tD⟩
theorem KN:aB E Ra:=ax (n:=100) (l:=[IS,IN,IY,I4]) (by simp only[List.forall_mem_cons];exact⟨B9,B_,BV,Ct,by simp⟩) (by kernel_rfl)
def Rb:aJ:=⟨47,[ye,a1,FH,.int .i64 1],.tup [.fsl 1 [[.int .i64 1],[.int .i64 0]],.bool true]⟩
theorem K0:aB E Rb:=ax (n:=100) (l:=[MT,K7,K9,Mb]) (by simp only[List.forall_mem_cons];exact⟨F_,Gt,FA,FM,by simp⟩) (by kernel_rfl)
def Q_:aJ:=⟨47,[ye,a1,BW,.int .i64 1],.tup [.fsl 1 [[.int .i64 2],[.int .i64 1]],.bool true]⟩
theorem LF:aB E Q_:=ax (n:=100) (l:=[L9,KZ,KU,ME,IZ,IS,IN,IY,I4]) (by simp only[List.forall_mem_cons];exact⟨GG,Fz,Fy,Fh,BX,B9,B_,BV,Ct,by simp⟩) (by kernel_rfl)
def R7:aJ:=⟨82,[C9,I9],.bool false⟩
theorem MI:aB E R7:=ax (n:=100) (l:=[]) (by simp) (by kernel_rfl)
def Q6:aJ:=⟨85,[MK,zU],.int .i64 (-1)⟩
theorem K8:aB E Q6:=ax (n:=100) (l:=[R7]) (by simp only[List.forall_mem_cons];exact⟨MI,by simp⟩) (by kernel_rfl)
def RZ:aJ:=⟨58,[MK,zU],.bool false⟩
theorem L5:aB E RZ:=ax (n:=100) (l:=[Q6]) (by simp only[List.forall_mem_cons];exact⟨K8,by simp⟩) (by kernel_rfl)
def Q7:aJ:=⟨53,[a1,MK],.bool true⟩
theorem LY:aB E Q7:=ax (n:=100) (l:=[Ck,RZ]) (by simp only[List.forall_mem_cons];exact⟨rR,L5,by simp⟩) (by kernel_rfl)
def Rs:aJ:=⟨54,[a1,C9],.bool true⟩
theorem Ly:aB E Rs:=ax (n:=100) (l:=[]) (by simp) (by kernel_rfl)
def Q3:aJ:=⟨83,[a1,C9],.tup [.agg [.int .i64 0,.int .i64 1],.agg [.int .i64 1,.int .i64 1],.bool true]⟩
theorem Lx:aB E Q3:=ax (n:=100) (l:=[Jg]) (by simp only[List.forall_mem_cons];exact⟨CA,by simp⟩) (by kernel_rfl)
def Q8:aJ:=⟨83,[a1,Sv],IT⟩
theorem M0:aB E Q8:=ax (n:=100) (l:=[Jg]) (by simp only[List.forall_mem_cons];exact⟨CA,by simp⟩) (by kernel_rfl)
def Rj:aJ:=⟨32,[ye,Sv],.int .i64 0⟩
theorem MP:aB E Rj:=ax (n:=100) (l:=[M7,Mg]) (by simp only[List.forall_mem_cons];exact⟨Gw,FJ,by simp⟩) (by kernel_rfl)
def Sk:aJ:=⟨47,[ye,a1,C9,.int .i64 1],.tup [.fsl 1 [[.int .i64 1],[.int .i64 1]],.bool true]⟩
theorem Lt:aB E Sk:=ax (n:=100) (l:=[Q7,Rs,Q3,Q8,Rj]) (by simp only[List.forall_mem_cons];exact⟨LY,Ly,Lx,M0,MP,by simp⟩) (by kernel_rfl)
def Rd:aJ:=⟨24,[a1,.int .i64 0,.int .i64 1,.int .i64 1],.tup [.agg [.bool false,.fsl 1 [[.int .i64 0],[.int .i64 0]],.fsl 1 [[.int .i64 2],[.int .i64 1]],.fsl 1 [[.fsl 1 [[.fsl 1 [[.int .i64 1],[.int .i64 0]]],[.fsl 1 [[.int .i64 2],[.int .i64 1]]]]],[.fsl 1 [[.fsl 1 [[.int .i64 1],[.int .i64 1]]]]]]],.int .i64 0]⟩
theorem M6:aB E Rd:=ax (n:=100) (l:=[LA,Ji,Ra,Rb,Q_,Sk]) (by simp only[List.forall_mem_cons];exact⟨Gc,Ci,KN,K0,LF,Lt,by simp⟩) (by kernel_rfl)
def Q5:aJ:=⟨56,[a1,tD],.bool true⟩
theorem KH:aB E Q5:=ax (n:=100) (l:=[IY]) (by simp only[List.forall_mem_cons];exact⟨BV,by simp⟩) (by kernel_rfl)
def RH:aJ:=⟨29,[a1,IL,.ay],.int .i64 0⟩
theorem Mr:aB E RH:=ax (n:=100) (l:=[IS,IN,Q5]) (by simp only[List.forall_mem_cons];exact⟨B9,B_,KH,by simp⟩) (by kernel_rfl)
def RI:aJ:=⟨30,[a1,tD],.tup [.fsl 2 [[.int .i64 0,.int .i64 2],[.int .i64 1,.int .i64 1]],.int .i64 0]⟩
theorem Lu:aB E RI:=ax (n:=100) (l:=[RH]) (by simp only[List.forall_mem_cons];exact⟨Mr,by simp⟩) (by kernel_rfl)
def Sx:aJ:=⟨31,[a1,.int .i64 1,.int .i64 0],SB⟩
theorem Kz:aB E Sx:=ax (n:=100) (l:=[]) (by simp) (by kernel_rfl)
def RA:aJ:=⟨84,[.ay,.int .i64 1],KF⟩
theorem K5:aB E RA:=ax (n:=100) (l:=[]) (by simp) (by kernel_rfl)
def Rh:aJ:=⟨57,[.ay,.int .i64 1],.int .i64 0⟩
theorem LN:aB E Rh:=ax (n:=100) (l:=[RA]) (by simp only[List.forall_mem_cons];exact⟨K5,by simp⟩) (by kernel_rfl)
def Rg:aJ:=⟨84,[.ay,.int .i64 2],KF⟩
theorem Lc:aB E Rg:=ax (n:=100) (l:=[]) (by simp) (by kernel_rfl)
def Q1:aJ:=⟨57,[.ay,.int .i64 2],.int .i64 0⟩
theorem KS:aB E Q1:=ax (n:=100) (l:=[Rg]) (by simp only[List.forall_mem_cons];exact⟨Lc,by simp⟩) (by kernel_rfl)
def RE:aJ:=⟨32,[SB,tD],.int .i64 0⟩
theorem MD:aB E RE:=ax (n:=100) (l:=[Rh,Q1]) (by simp only[List.forall_mem_cons];exact⟨LN,KS,by simp⟩) (by kernel_rfl)
def RQ:aJ:=⟨10,[a1,tD],.tup [.fsl 1 [[.fsl 1 [[.int .i64 0],[.int .i64 1]]],[.fsl 1 [[.int .i64 0],[.int .i64 0]]]],.int .i64 0]⟩
theorem Lq:aB E RQ:=ax (n:=100) (l:=[RI,Ji,I4,Sx,RE]) (by simp only[List.forall_mem_cons];exact⟨Lu,Ci,Ct,Kz,MD,by simp⟩) (by kernel_rfl)
def KV:aJ:=⟨25,[BW,BW],.bool true⟩
theorem J6:aB E KV:=ax (n:=100) (l:=[]) (by simp) (by kernel_rfl)
def LP:aJ:=⟨25,[tD,tD],.bool true⟩
theorem Kl:aB E LP:=ax (n:=100) (l:=[]) (by simp) (by kernel_rfl)
def K1:aJ:=⟨42,[C9,C9],.bool true⟩
theorem Jt:aB E K1:=ax (n:=100) (l:=[]) (by simp) (by kernel_rfl)
def MF:aJ:=⟨42,[Sj,Sj],.bool true⟩
theorem Ki:aB E MF:=ax (n:=100) (l:=[]) (by simp) (by kernel_rfl)
def MS:aJ:=⟨19,[a32,a32],.bool true⟩
theorem Jn:aB E MS:=ax (n:=100) (l:=[K1,MF]) (by simp only[List.forall_mem_cons];exact⟨Jt,Ki,by simp⟩) (by kernel_rfl)
theorem D4:∃n H1,run E n (.fn 6) [] []=some (.bool true,H1):=Em (n:=100) (l:=[Se,Rd,RQ,KV,LP,MS]) (by simp only[List.forall_mem_cons];exact⟨MQ,M6,Lq,J6,Kl,Jn,by simp⟩) (by kernel_rfl)
end Go.Proofs.Ytnfakljmdnbipaa
