/-
 The law's own awakening: what its calls come to. Printed by wip/gen/awake.py.
-/
import Derived.Test.YtnfakljmdnbipaaProg
import Derived.KernelRfl
import Derived.Test.YtnfakljmdnbipaaV2
set_option linter.all false
namespace Go.Proofs.Ytnfakljmdnbipaa
open Go.VE Go.Proofs
def Ap : List (Nat × TD) := [
 (1, ⟨1, 8, [.aH], .other⟩),
 (2, ⟨1, 8, [.int .i64 0], .int (.i64)⟩),
 (3, ⟨1, 8, [.int .i64 0], .int (.i64)⟩),
 (4, ⟨1, 1, [.bool false], .bool⟩),
 (5, ⟨1, 1, [.int .u8 0], .int (.u8)⟩),
 (6, ⟨1, 1, [.int .u8 0], .int (.u8)⟩),
 (7, ⟨4, 24, [.int .i64 0, .int .i64 0, .bool false, .int .u8 0], .struct [(0, 2), (1, 3), (2, 4), (3, 6)]⟩),
 (8, ⟨4, 24, [.int .i64 0, .int .i64 0, .bool false, .int .u8 0], .struct [(0, 2), (1, 3), (2, 4), (3, 6)]⟩),
 (9, ⟨1, 16, [.str ByteArray.empty], .str⟩),
 (10, ⟨1, 16, [.str ByteArray.empty], .str⟩),
 (11, ⟨1, 16, [.str ByteArray.empty], .str⟩),
 (12, ⟨1, 8, [.int .u64 0], .int (.u64)⟩),
 (13, ⟨2, 24, [.str ByteArray.empty, .int .u64 0], .struct [(0, 9), (1, 12)]⟩),
 (14, ⟨2, 24, [.str ByteArray.empty, .int .u64 0], .struct [(0, 9), (1, 12)]⟩),
 (15, ⟨1, 8, [.bX], .ptr 147⟩),
 (16, ⟨1, 8, [.bX], .ptr 150⟩),
 (17, ⟨1, 8, [.bX], .ptr 160⟩),
 (18, ⟨1, 8, [.bX], .struct [(0, 17)]⟩),
 (19, ⟨1, 8, [.bX], .struct [(0, 17)]⟩),
 (21, ⟨1, 4, [.int .i32 0], .int (.i32)⟩),
 (22, ⟨1, 24, [.au], .slice 37⟩),
 (23, ⟨1, 24, [.au], .struct [(0, 22)]⟩),
 (24, ⟨1, 24, [.au], .struct [(0, 22)]⟩),
 (25, ⟨1, 24, [.au], .slice 3⟩),
 (26, ⟨1, 8, [.aH], .other⟩),
 (27, ⟨1, 8, [.aH], .other⟩),
 (28, ⟨1, 8, [.aH], .other⟩),
 (29, ⟨1, 8, [.aH], .other⟩),
 (30, ⟨1, 24, [.au], .slice 25⟩),
 (31, ⟨1, 8, [.int .i64 0], .int (.i64)⟩)]
def A5 : List (Nat × TD) := [
 (33, ⟨1, 8, [.aH], .other⟩),
 (34, ⟨1, 24, [.au], .slice 117⟩),
 (35, ⟨1, 24, [.au], .slice 40⟩),
 (36, ⟨3, 64, [.str ByteArray.empty, .au, .au], .struct [(0, 9), (1, 34), (2, 35)]⟩),
 (37, ⟨3, 64, [.str ByteArray.empty, .au, .au], .struct [(0, 9), (1, 34), (2, 35)]⟩),
 (38, ⟨1, 24, [.au], .slice 123⟩),
 (39, ⟨5, 56, [.int .i64 0, .int .i64 0, .int .i64 0, .int .i64 0, .au], .struct [(0, 3), (1, 3), (2, 3), (3, 3), (4, 38)]⟩),
 (40, ⟨5, 56, [.int .i64 0, .int .i64 0, .int .i64 0, .int .i64 0, .au], .struct [(0, 3), (1, 3), (2, 3), (3, 3), (4, 38)]⟩),
 (42, ⟨1, 8, [.aH], .other⟩),
 (43, ⟨1, 8, [.aH], .other⟩),
 (44, ⟨1, 8, [.aH], .other⟩),
 (45, ⟨1, 8, [.aH], .other⟩),
 (46, ⟨1, 8, [.aH], .other⟩),
 (47, ⟨1, 8, [.aH], .other⟩),
 (48, ⟨1, 8, [.aH], .other⟩),
 (50, ⟨1, 8, [.aH], .other⟩),
 (51, ⟨1, 24, [.au], .slice 30⟩),
 (52, ⟨4, 80, [.bool false, .au, .au, .au], .struct [(0, 4), (1, 25), (2, 25), (3, 51)]⟩),
 (53, ⟨4, 80, [.bool false, .au, .au, .au], .struct [(0, 4), (1, 25), (2, 25), (3, 51)]⟩),
 (55, ⟨1, 8, [.aH], .other⟩),
 (56, ⟨1, 8, [.aH], .other⟩),
 (57, ⟨1, 8, [.aH], .other⟩),
 (58, ⟨1, 8, [.aH], .other⟩),
 (59, ⟨2, 16, [.int .i64 0, .int .i64 0], .struct [(0, 3), (1, 3)]⟩),
 (60, ⟨2, 16, [.int .i64 0, .int .i64 0], .struct [(0, 3), (1, 3)]⟩),
 (62, ⟨1, 8, [.aH], .other⟩),
 (63, ⟨1, 8, [.aH], .other⟩),
 (64, ⟨1, 24, [.au], .slice 60⟩),
 (66, ⟨1, 8, [.aH], .other⟩),
 (67, ⟨4, 64, [.int .i64 0, .int .i64 0, .au, .au], .struct [(0, 3), (1, 3), (2, 25), (3, 25)]⟩)]
def AV : List (Nat × TD) := [
 (68, ⟨4, 64, [.int .i64 0, .int .i64 0, .au, .au], .struct [(0, 3), (1, 3), (2, 25), (3, 25)]⟩),
 (69, ⟨1, 8, [.aH], .other⟩),
 (70, ⟨1, 8, [.aH], .other⟩),
 (71, ⟨1, 8, [.aH], .other⟩),
 (72, ⟨1, 8, [.aH], .other⟩),
 (73, ⟨1, 8, [.aH], .other⟩),
 (75, ⟨1, 8, [.aH], .other⟩),
 (76, ⟨1, 8, [.aH], .other⟩),
 (77, ⟨1, 8, [.aH], .other⟩),
 (78, ⟨1, 8, [.bX], .ptr 109⟩),
 (80, ⟨1, 8, [.aH], .other⟩),
 (81, ⟨4, 32, [.int .i64 0, .int .i64 0, .int .i64 0, .int .i64 0], .struct [(0, 60), (2, 60)]⟩),
 (83, ⟨1, 8, [.aH], .other⟩),
 (84, ⟨1, 8, [.aH], .other⟩),
 (86, ⟨1, 8, [.aH], .other⟩),
 (87, ⟨1, 8, [.aH], .other⟩),
 (88, ⟨1, 8, [.aH], .other⟩),
 (89, ⟨1, 8, [.aH], .other⟩),
 (90, ⟨1, 8, [.aH], .other⟩),
 (91, ⟨1, 8, [.aH], .other⟩),
 (92, ⟨1, 8, [.aH], .other⟩),
 (94, ⟨1, 8, [.aH], .other⟩),
 (95, ⟨1, 8, [.aH], .other⟩),
 (96, ⟨1, 8, [.aH], .other⟩),
 (97, ⟨1, 8, [.aH], .other⟩),
 (98, ⟨1, 8, [.aH], .other⟩),
 (99, ⟨1, 8, [.aH], .other⟩),
 (100, ⟨1, 8, [.aH], .other⟩),
 (101, ⟨1, 8, [.aH], .other⟩),
 (102, ⟨1, 8, [.aH], .other⟩)]
def A1 : List (Nat × TD) := [
 (103, ⟨1, 8, [.aH], .other⟩),
 (104, ⟨1, 8, [.aH], .other⟩),
 (105, ⟨1, 24, [.au], .slice 4⟩),
 (106, ⟨1, 24, [.au], .slice 105⟩),
 (107, ⟨1, 8, [.aH], .other⟩),
 (108, ⟨800, 6400, List.replicate 800 (.int .i64 0), .array 200 81⟩),
 (109, ⟨800, 6400, List.replicate 800 (.int .i64 0), .array 200 81⟩),
 (110, ⟨1, 8, [.aH], .other⟩),
 (111, ⟨1, 8, [.aH], .other⟩),
 (112, ⟨1, 8, [.aH], .other⟩),
 (113, ⟨1, 8, [.aH], .other⟩),
 (114, ⟨1, 8, [.aH], .other⟩),
 (115, ⟨1, 8, [.aH], .other⟩),
 (116, ⟨2, 24, [.str ByteArray.empty, .int .i64 0], .struct [(0, 9), (1, 3)]⟩),
 (117, ⟨2, 24, [.str ByteArray.empty, .int .i64 0], .struct [(0, 9), (1, 3)]⟩),
 (118, ⟨1, 8, [.aH], .other⟩),
 (119, ⟨1, 8, [.aH], .other⟩),
 (120, ⟨1, 8, [.aH], .other⟩),
 (121, ⟨1, 8, [.aH], .other⟩),
 (122, ⟨2, 16, [.int .i64 0, .int .i64 0], .struct [(0, 3), (1, 3)]⟩),
 (123, ⟨2, 16, [.int .i64 0, .int .i64 0], .struct [(0, 3), (1, 3)]⟩),
 (124, ⟨1, 8, [.aH], .other⟩),
 (125, ⟨1, 8, [.aH], .other⟩),
 (126, ⟨1, 8, [.fh], .map 60 4⟩),
 (127, ⟨1, 8, [.aH], .other⟩),
 (129, ⟨1, 8, [.aH], .other⟩),
 (131, ⟨1, 8, [.aH], .other⟩),
 (132, ⟨1, 8, [.aH], .other⟩),
 (133, ⟨1, 8, [.aH], .other⟩),
 (134, ⟨1, 8, [.aH], .other⟩)]
def Aj : List (Nat × TD) := [
 (135, ⟨1, 8, [.aH], .other⟩),
 (136, ⟨1, 8, [.aH], .other⟩),
 (137, ⟨1, 8, [.aH], .other⟩),
 (138, ⟨1, 8, [.aH], .other⟩),
 (139, ⟨1, 8, [.aH], .other⟩),
 (140, ⟨1, 8, [.aH], .other⟩),
 (141, ⟨1, 8, [.aH], .other⟩),
 (142, ⟨1, 8, [.int .u64 0], .int (.u64)⟩),
 (143, ⟨1, 8, [.aH], .other⟩),
 (144, ⟨1, 8, [.aH], .other⟩),
 (145, ⟨1, 8, [.aH], .other⟩),
 (146, ⟨4, 40, [.bX, .bX, .bX, .str ByteArray.empty], .struct [(0, 17), (1, 17), (2, 17), (3, 9)]⟩),
 (147, ⟨4, 40, [.bX, .bX, .bX, .str ByteArray.empty], .struct [(0, 17), (1, 17), (2, 17), (3, 9)]⟩),
 (148, ⟨0, 0, [], .array 0 16⟩),
 (149, ⟨0, 0, [], .struct [(0, 148)]⟩),
 (150, ⟨0, 0, [], .struct [(0, 148)]⟩),
 (151, ⟨1, 8, [.aH], .other⟩),
 (152, ⟨1, 4, [.int .u32 0], .int (.u32)⟩),
 (153, ⟨1, 1, [.int .u8 0], .int (.u8)⟩),
 (154, ⟨1, 1, [.int .u8 0], .int (.u8)⟩),
 (155, ⟨1, 8, [.aH], .other⟩),
 (156, ⟨1, 8, [.bX], .ptr 5⟩),
 (157, ⟨1, 4, [.int .i32 0], .int (.i32)⟩),
 (158, ⟨1, 4, [.int .i32 0], .int (.i32)⟩),
 (159, ⟨11, 48, [.int .u64 0, .int .u64 0, .int .u32 0, .int .u8 0, .int .u8 0, .int .u8 0, .int .u8 0, .aH, .bX, .int .i32 0, .int .i32 0], .struct [(0, 12), (1, 12), (2, 152), (3, 153), (4, 5), (5, 5), (6, 154), (7, 155), (8, 156), (9, 157), (10, 158)]⟩),
 (160, ⟨11, 48, [.int .u64 0, .int .u64 0, .int .u32 0, .int .u8 0, .int .u8 0, .int .u8 0, .int .u8 0, .aH, .bX, .int .i32 0, .int .i32 0], .struct [(0, 12), (1, 12), (2, 152), (3, 153), (4, 5), (5, 5), (6, 154), (7, 155), (8, 156), (9, 157), (10, 158)]⟩),
 (161, ⟨1, 8, [.bX], .other⟩)]
def zY : List (Nat × TD) := Ap ++ A5 ++ AV ++ A1 ++ Aj
noncomputable def Ad : List (Nat × FI) := [
 (2, ⟨1, [], Try.f2.body.getD .skip⟩),
 (3, ⟨181, [.tmp 4], Try.f3.body.getD .skip⟩),
 (4, ⟨147, [.tmp 8], Try.f4.body.getD .skip⟩),
 (5, ⟨52, [.tmp 2], Try.f5.body.getD .skip⟩),
 (6, ⟨85, [.tmp 0], Try.f6.body.getD .skip⟩),
 (7, ⟨33, [.tmp 2], Try.f7.body.getD .skip⟩),
 (8, ⟨12, [.tmp 2], Try.f8.body.getD .skip⟩),
 (9, ⟨10, [.tmp 4], Try.f9.body.getD .skip⟩),
 (10, ⟨54, [.tmp 4, .tmp 5], Try.f10.body.getD .skip⟩),
 (11, ⟨21, [.tmp 4, .tmp 5], Try.f11.body.getD .skip⟩),
 (12, ⟨23, [.tmp 2], Try.f12.body.getD .skip⟩),
 (13, ⟨60, [.tmp 6, .tmp 7], Try.f13.body.getD .skip⟩),
 (14, ⟨12, [.tmp 2], Try.f14.body.getD .skip⟩),
 (15, ⟨32, [.tmp 6], Try.f15.body.getD .skip⟩),
 (16, ⟨90, [.tmp 6], Try.f16.body.getD .skip⟩),
 (17, ⟨37, [.tmp 4], Try.f17.body.getD .skip⟩),
 (18, ⟨22, [.tmp 4], Try.f18.body.getD .skip⟩),
 (19, ⟨27, [.tmp 4], Try.f19.body.getD .skip⟩),
 (20, ⟨41, [.tmp 4], Try.f20.body.getD .skip⟩),
 (21, ⟨31, [.tmp 4], Try.f21.body.getD .skip⟩),
 (22, ⟨74, [.tmp 2], Try.f22.body.getD .skip⟩),
 (23, ⟨68, [.tmp 6, .tmp 7, .tmp 8], Try.f23.body.getD .skip⟩),
 (24, ⟨116, [.cell 8 53, .tmp 9], Try.f24.body.getD .skip⟩),
 (25, ⟨26, [.tmp 4], Try.f25.body.getD .skip⟩),
 (26, ⟨9, [.tmp 4], Try.f26.body.getD .skip⟩),
 (27, ⟨7, [.tmp 2], Try.f27.body.getD .skip⟩),
 (28, ⟨66, [.cell 2 60, .cell 3 31], Try.f28.body.getD .skip⟩),
 (29, ⟨50, [.tmp 6], Try.f29.body.getD .skip⟩),
 (30, ⟨34, [.tmp 4, .tmp 5], Try.f30.body.getD .skip⟩),
 (31, ⟨74, [.cell 6 68], Try.f31.body.getD .skip⟩)]
noncomputable def A7 : List (Nat × FI) := [
 (32, ⟨22, [.tmp 4], Try.f32.body.getD .skip⟩),
 (33, ⟨6, [.tmp 2], Try.f33.body.getD .skip⟩),
 (34, ⟨37, [.tmp 6], Try.f34.body.getD .skip⟩),
 (35, ⟨19, [.tmp 4], Try.f35.body.getD .skip⟩),
 (36, ⟨14, [.tmp 3], Try.f36.body.getD .skip⟩),
 (37, ⟨137, [.cell 2 60, .tmp 3], Try.f37.body.getD .skip⟩),
 (38, ⟨52, [.cell 6 60], Try.f38.body.getD .skip⟩),
 (39, ⟨11, [.tmp 4], Try.f39.body.getD .skip⟩),
 (40, ⟨31, [.tmp 4], Try.f40.body.getD .skip⟩),
 (41, ⟨27, [.tmp 4], Try.f41.body.getD .skip⟩),
 (42, ⟨26, [.tmp 4], Try.f42.body.getD .skip⟩),
 (43, ⟨62, [.tmp 8], Try.f43.body.getD .skip⟩),
 (44, ⟨64, [.cell 2 78, .cell 3 60, .cell 4 31], Try.f44.body.getD .skip⟩),
 (45, ⟨11, [.tmp 4, .tmp 5], Try.f45.body.getD .skip⟩),
 (46, ⟨42, [.tmp 8], Try.f46.body.getD .skip⟩),
 (47, ⟨50, [.tmp 8, .tmp 9], Try.f47.body.getD .skip⟩),
 (48, ⟨15, [.tmp 6], Try.f48.body.getD .skip⟩),
 (49, ⟨62, [.tmp 4], Try.f49.body.getD .skip⟩),
 (50, ⟨4, [.tmp 2], Try.f50.body.getD .skip⟩),
 (51, ⟨82, [.tmp 6], Try.f51.body.getD .skip⟩),
 (52, ⟨58, [.cell 4 60, .cell 5 4], Try.f52.body.getD .skip⟩),
 (53, ⟨13, [.tmp 4], Try.f53.body.getD .skip⟩),
 (54, ⟨28, [.tmp 4], Try.f54.body.getD .skip⟩),
 (55, ⟨14, [.tmp 4], Try.f55.body.getD .skip⟩),
 (56, ⟨17, [.tmp 4], Try.f56.body.getD .skip⟩),
 (57, ⟨17, [.tmp 4], Try.f57.body.getD .skip⟩),
 (58, ⟨9, [.tmp 4], Try.f58.body.getD .skip⟩),
 (59, ⟨5, [.tmp 2], Try.f59.body.getD .skip⟩),
 (60, ⟨9, [.tmp 4], Try.f60.body.getD .skip⟩),
 (61, ⟨5, [.tmp 2], Try.f61.body.getD .skip⟩)]
noncomputable def AU : List (Nat × FI) := [
 (62, ⟨81, [.tmp 4], Try.f62.body.getD .skip⟩),
 (63, ⟨147, [.tmp 6], Try.f63.body.getD .skip⟩),
 (64, ⟨70, [.tmp 4], Try.f64.body.getD .skip⟩),
 (65, ⟨86, [.tmp 2], Try.f65.body.getD .skip⟩),
 (66, ⟨75, [.tmp 4], Try.f66.body.getD .skip⟩),
 (67, ⟨35, [.tmp 8], Try.f67.body.getD .skip⟩),
 (68, ⟨17, [.tmp 8], Try.f68.body.getD .skip⟩),
 (69, ⟨40, [.tmp 6, .tmp 7], Try.f69.body.getD .skip⟩),
 (70, ⟨12, [], Try.f70.body.getD .skip⟩),
 (71, ⟨11, [.tmp 4, .tmp 5], Try.f71.body.getD .skip⟩),
 (72, ⟨41, [.tmp 2], Try.f72.body.getD .skip⟩),
 (73, ⟨9, [.tmp 4], Try.f73.body.getD .skip⟩),
 (74, ⟨9, [.tmp 3], Try.f74.body.getD .skip⟩),
 (75, ⟨9, [.tmp 4], Try.f75.body.getD .skip⟩),
 (76, ⟨9, [.tmp 3], Try.f76.body.getD .skip⟩),
 (77, ⟨33, [], Try.f77.body.getD .skip⟩),
 (78, ⟨40, [.tmp 6], Try.f78.body.getD .skip⟩),
 (79, ⟨9, [.tmp 4], Try.f79.body.getD .skip⟩),
 (80, ⟨9, [.tmp 3], Try.f80.body.getD .skip⟩),
 (81, ⟨62, [.tmp 6], Try.f81.body.getD .skip⟩),
 (82, ⟨10, [.tmp 3], Try.f82.body.getD .skip⟩),
 (83, ⟨61, [.cell 4 60, .cell 5 60, .tmp 6], Try.f83.body.getD .skip⟩),
 (84, ⟨54, [.tmp 4, .tmp 5], Try.f84.body.getD .skip⟩),
 (85, ⟨19, [.tmp 4], Try.f85.body.getD .skip⟩),
 (86, ⟨19, [.tmp 4], Try.f86.body.getD .skip⟩),
 (87, ⟨42, [.tmp 2], Try.f87.body.getD .skip⟩),
 (88, ⟨9, [.tmp 2], Try.f88.body.getD .skip⟩),
 (89, ⟨17, [.cell 4 40], Try.f89.body.getD .skip⟩),
 (90, ⟨33, [.tmp 4], Try.f90.body.getD .skip⟩),
 (91, ⟨20, [.tmp 4], Try.f91.body.getD .skip⟩)]
noncomputable def Bp : List (Nat × FI) := [
 (92, ⟨8, [.tmp 2], Try.f92.body.getD .skip⟩),
 (93, ⟨13, [], Try.f93.body.getD .skip⟩),
 (94, ⟨17, [.tmp 2], Try.f94.body.getD .skip⟩),
 (95, ⟨9, [.tmp 2], Try.f95.body.getD .skip⟩),
 (96, ⟨19, [.tmp 4], Try.f96.body.getD .skip⟩),
 (97, ⟨19, [.tmp 4], Try.f97.body.getD .skip⟩),
 (98, ⟨19, [.tmp 4], Try.f98.body.getD .skip⟩),
 (99, ⟨11, [.cell 4 60, .tmp 5], Try.f99.body.getD .skip⟩),
 (100, ⟨17, [.tmp 4], Try.f100.body.getD .skip⟩),
 (101, ⟨6, [.tmp 2], Try.f101.body.getD .skip⟩),
 (102, ⟨17, [.tmp 2], Try.f102.body.getD .skip⟩),
 (103, ⟨9, [.tmp 2], Try.f103.body.getD .skip⟩),
 (104, ⟨30, [.cell 6 60, .cell 7 4], Try.f104.body.getD .skip⟩),
 (105, ⟨6, [.tmp 2], Try.f105.body.getD .skip⟩)]
noncomputable def zZ : List (Nat × FI) := Ad ++ A7 ++ AU ++ Bp
noncomputable def E : Env where
 tt := lk zY
 ft := lk zZ
 keep := fun f => [92, 69, 45, 71, 70, 93].contains f
 own := fun f => [92, 69, 45, 71].contains f
 eqN := fun t => if [60].contains t then some 2 else none
theorem UD : aA Try.prog 1 = some ⟨1, 8, [.aH], .other⟩ := by kernel_rfl
theorem Uv : aA Try.prog 2 = some ⟨1, 8, [.int .i64 0], .int (.i64)⟩ := by kernel_rfl
theorem NY : aA Try.prog 3 = some ⟨1, 8, [.int .i64 0], .int (.i64)⟩ := by kernel_rfl
theorem Uo : aA Try.prog 4 = some ⟨1, 1, [.bool false], .bool⟩ := by kernel_rfl
theorem Uj : aA Try.prog 5 = some ⟨1, 1, [.int .u8 0], .int (.u8)⟩ := by kernel_rfl
theorem Ue : aA Try.prog 6 = some ⟨1, 1, [.int .u8 0], .int (.u8)⟩ := by kernel_rfl
theorem Un : aA Try.prog 7 = some ⟨4, 24, [.int .i64 0, .int .i64 0, .bool false, .int .u8 0], .struct [(0, 2), (1, 3), (2, 4), (3, 6)]⟩ := by kernel_rfl
theorem Uy : aA Try.prog 8 = some ⟨4, 24, [.int .i64 0, .int .i64 0, .bool false, .int .u8 0], .struct [(0, 2), (1, 3), (2, 4), (3, 6)]⟩ := by kernel_rfl
theorem UA : aA Try.prog 9 = some ⟨1, 16, [.str ByteArray.empty], .str⟩ := by kernel_rfl
theorem QJ : aA Try.prog 10 = some ⟨1, 16, [.str ByteArray.empty], .str⟩ := by kernel_rfl
theorem Sx : aA Try.prog 11 = some ⟨1, 16, [.str ByteArray.empty], .str⟩ := by kernel_rfl
theorem Tw : aA Try.prog 12 = some ⟨1, 8, [.int .u64 0], .int (.u64)⟩ := by kernel_rfl
theorem P7 : aA Try.prog 13 = some ⟨2, 24, [.str ByteArray.empty, .int .u64 0], .struct [(0, 9), (1, 12)]⟩ := by kernel_rfl
theorem TM : aA Try.prog 14 = some ⟨2, 24, [.str ByteArray.empty, .int .u64 0], .struct [(0, 9), (1, 12)]⟩ := by kernel_rfl
theorem Sc : aA Try.prog 15 = some ⟨1, 8, [.bX], .ptr 147⟩ := by kernel_rfl
theorem Tq : aA Try.prog 16 = some ⟨1, 8, [.bX], .ptr 150⟩ := by kernel_rfl
theorem SW : aA Try.prog 17 = some ⟨1, 8, [.bX], .ptr 160⟩ := by kernel_rfl
theorem TG : aA Try.prog 18 = some ⟨1, 8, [.bX], .struct [(0, 17)]⟩ := by kernel_rfl
theorem RU : aA Try.prog 19 = some ⟨1, 8, [.bX], .struct [(0, 17)]⟩ := by kernel_rfl
theorem Qe : aA Try.prog 21 = some ⟨1, 4, [.int .i32 0], .int (.i32)⟩ := by kernel_rfl
theorem Su : aA Try.prog 22 = some ⟨1, 24, [.au], .slice 37⟩ := by kernel_rfl
theorem Qr : aA Try.prog 23 = some ⟨1, 24, [.au], .struct [(0, 22)]⟩ := by kernel_rfl
theorem TB : aA Try.prog 24 = some ⟨1, 24, [.au], .struct [(0, 22)]⟩ := by kernel_rfl
theorem Td : aA Try.prog 25 = some ⟨1, 24, [.au], .slice 3⟩ := by kernel_rfl
theorem Tk : aA Try.prog 26 = some ⟨1, 8, [.aH], .other⟩ := by kernel_rfl
theorem T6 : aA Try.prog 27 = some ⟨1, 8, [.aH], .other⟩ := by kernel_rfl
theorem Tf : aA Try.prog 28 = some ⟨1, 8, [.aH], .other⟩ := by kernel_rfl
theorem Rr : aA Try.prog 29 = some ⟨1, 8, [.aH], .other⟩ := by kernel_rfl
theorem QK : aA Try.prog 30 = some ⟨1, 24, [.au], .slice 25⟩ := by kernel_rfl
theorem TX : aA Try.prog 31 = some ⟨1, 8, [.int .i64 0], .int (.i64)⟩ := by kernel_rfl
theorem SR : aA Try.prog 33 = some ⟨1, 8, [.aH], .other⟩ := by kernel_rfl
theorem Qk : aA Try.prog 34 = some ⟨1, 24, [.au], .slice 117⟩ := by kernel_rfl
theorem Ta : aA Try.prog 35 = some ⟨1, 24, [.au], .slice 40⟩ := by kernel_rfl
theorem T7 : aA Try.prog 36 = some ⟨3, 64, [.str ByteArray.empty, .au, .au], .struct [(0, 9), (1, 34), (2, 35)]⟩ := by kernel_rfl
theorem Rt : aA Try.prog 37 = some ⟨3, 64, [.str ByteArray.empty, .au, .au], .struct [(0, 9), (1, 34), (2, 35)]⟩ := by kernel_rfl
theorem Qd : aA Try.prog 38 = some ⟨1, 24, [.au], .slice 123⟩ := by kernel_rfl
theorem SG : aA Try.prog 39 = some ⟨5, 56, [.int .i64 0, .int .i64 0, .int .i64 0, .int .i64 0, .au], .struct [(0, 3), (1, 3), (2, 3), (3, 3), (4, 38)]⟩ := by kernel_rfl
theorem Qw : aA Try.prog 40 = some ⟨5, 56, [.int .i64 0, .int .i64 0, .int .i64 0, .int .i64 0, .au], .struct [(0, 3), (1, 3), (2, 3), (3, 3), (4, 38)]⟩ := by kernel_rfl
theorem QX : aA Try.prog 42 = some ⟨1, 8, [.aH], .other⟩ := by kernel_rfl
theorem Qu : aA Try.prog 43 = some ⟨1, 8, [.aH], .other⟩ := by kernel_rfl
theorem QG : aA Try.prog 44 = some ⟨1, 8, [.aH], .other⟩ := by kernel_rfl
theorem SQ : aA Try.prog 45 = some ⟨1, 8, [.aH], .other⟩ := by kernel_rfl
theorem RE : aA Try.prog 46 = some ⟨1, 8, [.aH], .other⟩ := by kernel_rfl
theorem Sn : aA Try.prog 47 = some ⟨1, 8, [.aH], .other⟩ := by kernel_rfl
theorem SZ : aA Try.prog 48 = some ⟨1, 8, [.aH], .other⟩ := by kernel_rfl
theorem Qt : aA Try.prog 50 = some ⟨1, 8, [.aH], .other⟩ := by kernel_rfl
theorem Sw : aA Try.prog 51 = some ⟨1, 24, [.au], .slice 30⟩ := by kernel_rfl
theorem RZ : aA Try.prog 52 = some ⟨4, 80, [.bool false, .au, .au, .au], .struct [(0, 4), (1, 25), (2, 25), (3, 51)]⟩ := by kernel_rfl
theorem SJ : aA Try.prog 53 = some ⟨4, 80, [.bool false, .au, .au, .au], .struct [(0, 4), (1, 25), (2, 25), (3, 51)]⟩ := by kernel_rfl
theorem Ra : aA Try.prog 55 = some ⟨1, 8, [.aH], .other⟩ := by kernel_rfl
theorem TC : aA Try.prog 56 = some ⟨1, 8, [.aH], .other⟩ := by kernel_rfl
theorem TJ : aA Try.prog 57 = some ⟨1, 8, [.aH], .other⟩ := by kernel_rfl
theorem QW : aA Try.prog 58 = some ⟨1, 8, [.aH], .other⟩ := by kernel_rfl
theorem Rg : aA Try.prog 59 = some ⟨2, 16, [.int .i64 0, .int .i64 0], .struct [(0, 3), (1, 3)]⟩ := by kernel_rfl
theorem Qb : aA Try.prog 60 = some ⟨2, 16, [.int .i64 0, .int .i64 0], .struct [(0, 3), (1, 3)]⟩ := by kernel_rfl
theorem Si : aA Try.prog 62 = some ⟨1, 8, [.aH], .other⟩ := by kernel_rfl
theorem R5 : aA Try.prog 63 = some ⟨1, 8, [.aH], .other⟩ := by kernel_rfl
theorem S_ : aA Try.prog 64 = some ⟨1, 24, [.au], .slice 60⟩ := by kernel_rfl
theorem Qg : aA Try.prog 66 = some ⟨1, 8, [.aH], .other⟩ := by kernel_rfl
theorem R8 : aA Try.prog 67 = some ⟨4, 64, [.int .i64 0, .int .i64 0, .au, .au], .struct [(0, 3), (1, 3), (2, 25), (3, 25)]⟩ := by kernel_rfl
theorem SI : aA Try.prog 68 = some ⟨4, 64, [.int .i64 0, .int .i64 0, .au, .au], .struct [(0, 3), (1, 3), (2, 25), (3, 25)]⟩ := by kernel_rfl
theorem QE : aA Try.prog 69 = some ⟨1, 8, [.aH], .other⟩ := by kernel_rfl
theorem TO : aA Try.prog 70 = some ⟨1, 8, [.aH], .other⟩ := by kernel_rfl
theorem Tu : aA Try.prog 71 = some ⟨1, 8, [.aH], .other⟩ := by kernel_rfl
theorem Ru : aA Try.prog 72 = some ⟨1, 8, [.aH], .other⟩ := by kernel_rfl
theorem QL : aA Try.prog 73 = some ⟨1, 8, [.aH], .other⟩ := by kernel_rfl
theorem Q0 : aA Try.prog 75 = some ⟨1, 8, [.aH], .other⟩ := by kernel_rfl
theorem P4 : aA Try.prog 76 = some ⟨1, 8, [.aH], .other⟩ := by kernel_rfl
theorem QA : aA Try.prog 77 = some ⟨1, 8, [.aH], .other⟩ := by kernel_rfl
theorem TW : aA Try.prog 78 = some ⟨1, 8, [.bX], .ptr 109⟩ := by kernel_rfl
theorem Ry : aA Try.prog 80 = some ⟨1, 8, [.aH], .other⟩ := by kernel_rfl
theorem Rh : aA Try.prog 81 = some ⟨4, 32, [.int .i64 0, .int .i64 0, .int .i64 0, .int .i64 0], .struct [(0, 60), (2, 60)]⟩ := by kernel_rfl
theorem RP : aA Try.prog 83 = some ⟨1, 8, [.aH], .other⟩ := by kernel_rfl
theorem TR : aA Try.prog 84 = some ⟨1, 8, [.aH], .other⟩ := by kernel_rfl
theorem SD : aA Try.prog 86 = some ⟨1, 8, [.aH], .other⟩ := by kernel_rfl
theorem Qj : aA Try.prog 87 = some ⟨1, 8, [.aH], .other⟩ := by kernel_rfl
theorem Ty : aA Try.prog 88 = some ⟨1, 8, [.aH], .other⟩ := by kernel_rfl
theorem Rp : aA Try.prog 89 = some ⟨1, 8, [.aH], .other⟩ := by kernel_rfl
theorem RS : aA Try.prog 90 = some ⟨1, 8, [.aH], .other⟩ := by kernel_rfl
theorem Sd : aA Try.prog 91 = some ⟨1, 8, [.aH], .other⟩ := by kernel_rfl
theorem Qn : aA Try.prog 92 = some ⟨1, 8, [.aH], .other⟩ := by kernel_rfl
theorem Tj : aA Try.prog 94 = some ⟨1, 8, [.aH], .other⟩ := by kernel_rfl
theorem RW : aA Try.prog 95 = some ⟨1, 8, [.aH], .other⟩ := by kernel_rfl
theorem Sb : aA Try.prog 96 = some ⟨1, 8, [.aH], .other⟩ := by kernel_rfl
theorem Rd : aA Try.prog 97 = some ⟨1, 8, [.aH], .other⟩ := by kernel_rfl
theorem QB : aA Try.prog 98 = some ⟨1, 8, [.aH], .other⟩ := by kernel_rfl
theorem P8 : aA Try.prog 99 = some ⟨1, 8, [.aH], .other⟩ := by kernel_rfl
theorem MD : aA Try.prog 100 = some ⟨1, 8, [.aH], .other⟩ := by kernel_rfl
theorem Nj : aA Try.prog 101 = some ⟨1, 8, [.aH], .other⟩ := by kernel_rfl
theorem My : aA Try.prog 102 = some ⟨1, 8, [.aH], .other⟩ := by kernel_rfl
theorem MI : aA Try.prog 103 = some ⟨1, 8, [.aH], .other⟩ := by kernel_rfl
theorem Mv : aA Try.prog 104 = some ⟨1, 8, [.aH], .other⟩ := by kernel_rfl
theorem K1 : aA Try.prog 105 = some ⟨1, 24, [.au], .slice 4⟩ := by kernel_rfl
theorem MO : aA Try.prog 106 = some ⟨1, 24, [.au], .slice 105⟩ := by kernel_rfl
theorem Mm : aA Try.prog 107 = some ⟨1, 8, [.aH], .other⟩ := by kernel_rfl
theorem Lp : aA Try.prog 108 = some ⟨800, 6400, List.replicate 800 (.int .i64 0), .array 200 81⟩ := by kernel_rfl
theorem M1 : aA Try.prog 109 = some ⟨800, 6400, List.replicate 800 (.int .i64 0), .array 200 81⟩ := by kernel_rfl
theorem Lr : aA Try.prog 110 = some ⟨1, 8, [.aH], .other⟩ := by kernel_rfl
theorem L8 : aA Try.prog 111 = some ⟨1, 8, [.aH], .other⟩ := by kernel_rfl
theorem NB : aA Try.prog 112 = some ⟨1, 8, [.aH], .other⟩ := by kernel_rfl
theorem Lw : aA Try.prog 113 = some ⟨1, 8, [.aH], .other⟩ := by kernel_rfl
theorem MN : aA Try.prog 114 = some ⟨1, 8, [.aH], .other⟩ := by kernel_rfl
theorem Mx : aA Try.prog 115 = some ⟨1, 8, [.aH], .other⟩ := by kernel_rfl
theorem Ml : aA Try.prog 116 = some ⟨2, 24, [.str ByteArray.empty, .int .i64 0], .struct [(0, 9), (1, 3)]⟩ := by kernel_rfl
theorem K9 : aA Try.prog 117 = some ⟨2, 24, [.str ByteArray.empty, .int .i64 0], .struct [(0, 9), (1, 3)]⟩ := by kernel_rfl
theorem Nh : aA Try.prog 118 = some ⟨1, 8, [.aH], .other⟩ := by kernel_rfl
theorem Mw : aA Try.prog 119 = some ⟨1, 8, [.aH], .other⟩ := by kernel_rfl
theorem LR : aA Try.prog 120 = some ⟨1, 8, [.aH], .other⟩ := by kernel_rfl
theorem Mb : aA Try.prog 121 = some ⟨1, 8, [.aH], .other⟩ := by kernel_rfl
theorem MM : aA Try.prog 122 = some ⟨2, 16, [.int .i64 0, .int .i64 0], .struct [(0, 3), (1, 3)]⟩ := by kernel_rfl
theorem NC : aA Try.prog 123 = some ⟨2, 16, [.int .i64 0, .int .i64 0], .struct [(0, 3), (1, 3)]⟩ := by kernel_rfl
theorem Ls : aA Try.prog 124 = some ⟨1, 8, [.aH], .other⟩ := by kernel_rfl
theorem LD : aA Try.prog 125 = some ⟨1, 8, [.aH], .other⟩ := by kernel_rfl
theorem No : aA Try.prog 126 = some ⟨1, 8, [.fh], .map 60 4⟩ := by kernel_rfl
theorem K2 : aA Try.prog 127 = some ⟨1, 8, [.aH], .other⟩ := by kernel_rfl
theorem Mh : aA Try.prog 129 = some ⟨1, 8, [.aH], .other⟩ := by kernel_rfl
theorem Na : aA Try.prog 131 = some ⟨1, 8, [.aH], .other⟩ := by kernel_rfl
theorem KX : aA Try.prog 132 = some ⟨1, 8, [.aH], .other⟩ := by kernel_rfl
theorem M9 : aA Try.prog 133 = some ⟨1, 8, [.aH], .other⟩ := by kernel_rfl
theorem LJ : aA Try.prog 134 = some ⟨1, 8, [.aH], .other⟩ := by kernel_rfl
theorem Nz : aA Try.prog 135 = some ⟨1, 8, [.aH], .other⟩ := by kernel_rfl
theorem Nt : aA Try.prog 136 = some ⟨1, 8, [.aH], .other⟩ := by kernel_rfl
theorem Ng : aA Try.prog 137 = some ⟨1, 8, [.aH], .other⟩ := by kernel_rfl
theorem K0 : aA Try.prog 138 = some ⟨1, 8, [.aH], .other⟩ := by kernel_rfl
theorem LF : aA Try.prog 139 = some ⟨1, 8, [.aH], .other⟩ := by kernel_rfl
theorem Mp : aA Try.prog 140 = some ⟨1, 8, [.aH], .other⟩ := by kernel_rfl
theorem LX : aA Try.prog 141 = some ⟨1, 8, [.aH], .other⟩ := by kernel_rfl
theorem MP : aA Try.prog 142 = some ⟨1, 8, [.int .u64 0], .int (.u64)⟩ := by kernel_rfl
theorem MK : aA Try.prog 143 = some ⟨1, 8, [.aH], .other⟩ := by kernel_rfl
theorem M0 : aA Try.prog 144 = some ⟨1, 8, [.aH], .other⟩ := by kernel_rfl
theorem LO : aA Try.prog 145 = some ⟨1, 8, [.aH], .other⟩ := by kernel_rfl
theorem Mc : aA Try.prog 146 = some ⟨4, 40, [.bX, .bX, .bX, .str ByteArray.empty], .struct [(0, 17), (1, 17), (2, 17), (3, 9)]⟩ := by kernel_rfl
theorem L9 : aA Try.prog 147 = some ⟨4, 40, [.bX, .bX, .bX, .str ByteArray.empty], .struct [(0, 17), (1, 17), (2, 17), (3, 9)]⟩ := by kernel_rfl
theorem Mz : aA Try.prog 148 = some ⟨0, 0, [], .array 0 16⟩ := by kernel_rfl
theorem LL : aA Try.prog 149 = some ⟨0, 0, [], .struct [(0, 148)]⟩ := by kernel_rfl
theorem LN : aA Try.prog 150 = some ⟨0, 0, [], .struct [(0, 148)]⟩ := by kernel_rfl
theorem Nn : aA Try.prog 151 = some ⟨1, 8, [.aH], .other⟩ := by kernel_rfl
theorem LS : aA Try.prog 152 = some ⟨1, 4, [.int .u32 0], .int (.u32)⟩ := by kernel_rfl
theorem ML : aA Try.prog 153 = some ⟨1, 1, [.int .u8 0], .int (.u8)⟩ := by kernel_rfl
theorem LA : aA Try.prog 154 = some ⟨1, 1, [.int .u8 0], .int (.u8)⟩ := by kernel_rfl
theorem LW : aA Try.prog 155 = some ⟨1, 8, [.aH], .other⟩ := by kernel_rfl
theorem Lx : aA Try.prog 156 = some ⟨1, 8, [.bX], .ptr 5⟩ := by kernel_rfl
theorem LG : aA Try.prog 157 = some ⟨1, 4, [.int .i32 0], .int (.i32)⟩ := by kernel_rfl
theorem Ns : aA Try.prog 158 = some ⟨1, 4, [.int .i32 0], .int (.i32)⟩ := by kernel_rfl
theorem MG : aA Try.prog 159 = some ⟨11, 48, [.int .u64 0, .int .u64 0, .int .u32 0, .int .u8 0, .int .u8 0, .int .u8 0, .int .u8 0, .aH, .bX, .int .i32 0, .int .i32 0], .struct [(0, 12), (1, 12), (2, 152), (3, 153), (4, 5), (5, 5), (6, 154), (7, 155), (8, 156), (9, 157), (10, 158)]⟩ := by kernel_rfl
theorem LU : aA Try.prog 160 = some ⟨11, 48, [.int .u64 0, .int .u64 0, .int .u32 0, .int .u8 0, .int .u8 0, .int .u8 0, .int .u8 0, .aH, .bX, .int .i32 0, .int .i32 0], .struct [(0, 12), (1, 12), (2, 152), (3, 153), (4, 5), (5, 5), (6, 154), (7, 155), (8, 156), (9, 157), (10, 158)]⟩ := by kernel_rfl
theorem L7 : aA Try.prog 161 = some ⟨1, 8, [.bX], .other⟩ := by kernel_rfl
theorem Nx : ∀ p ∈ Ap, aA Try.prog p.1 = some p.2 := by
 unfold Ap
 simp only [List.forall_mem_cons]
 exact ⟨UD, Uv, NY, Uo, Uj, Ue, Un, Uy, UA, QJ, Sx, Tw, P7, TM, Sc, Tq, SW, TG, RU, Qe, Su, Qr, TB, Td, Tk, T6, Tf, Rr, QK, TX, by simp⟩
theorem Lj : ∀ p ∈ A5, aA Try.prog p.1 = some p.2 := by
 unfold A5
 simp only [List.forall_mem_cons]
 exact ⟨SR, Qk, Ta, T7, Rt, Qd, SG, Qw, QX, Qu, QG, SQ, RE, Sn, SZ, Qt, Sw, RZ, SJ, Ra, TC, TJ, QW, Rg, Qb, Si, R5, S_, Qg, R8, by simp⟩
theorem Nf : ∀ p ∈ AV, aA Try.prog p.1 = some p.2 := by
 unfold AV
 simp only [List.forall_mem_cons]
 exact ⟨SI, QE, TO, Tu, Ru, QL, Q0, P4, QA, TW, Ry, Rh, RP, TR, SD, Qj, Ty, Rp, RS, Sd, Qn, Tj, RW, Sb, Rd, QB, P8, MD, Nj, My, by simp⟩
theorem K3 : ∀ p ∈ A1, aA Try.prog p.1 = some p.2 := by
 unfold A1
 simp only [List.forall_mem_cons]
 exact ⟨MI, Mv, K1, MO, Mm, Lp, M1, Lr, L8, NB, Lw, MN, Mx, Ml, K9, Nh, Mw, LR, Mb, MM, NC, Ls, LD, No, K2, Mh, Na, KX, M9, LJ, by simp⟩
theorem KY : ∀ p ∈ Aj, aA Try.prog p.1 = some p.2 := by
 unfold Aj
 simp only [List.forall_mem_cons]
 exact ⟨Nz, Nt, Ng, K0, LF, Mp, LX, MP, MK, M0, LO, Mc, L9, Mz, LL, LN, Nn, LS, ML, LA, LW, Lx, LG, Ns, MG, LU, L7, by simp⟩
theorem Rs : ∀ p ∈ zY, aA Try.prog p.1 = some p.2 := by
 unfold zY
 simp only [List.forall_mem_append]
 exact ⟨⟨⟨⟨Nx, Lj⟩, Nf⟩, K3⟩, KY⟩
theorem Uu : aI Try.prog 2 ⟨1, [], Try.f2.body.getD .skip⟩ := ⟨Try.f2, Try.func2, rfl, rfl, rfl, rfl⟩
theorem Um : aI Try.prog 3 ⟨181, [.tmp 4], Try.f3.body.getD .skip⟩ := ⟨Try.f3, Try.func3, rfl, rfl, rfl, rfl⟩
theorem Uq : aI Try.prog 4 ⟨147, [.tmp 8], Try.f4.body.getD .skip⟩ := ⟨Try.f4, Try.func4, rfl, rfl, rfl, rfl⟩
theorem UB : aI Try.prog 5 ⟨52, [.tmp 2], Try.f5.body.getD .skip⟩ := ⟨Try.f5, Try.func5, rfl, rfl, rfl, rfl⟩
theorem Uw : aI Try.prog 6 ⟨85, [.tmp 0], Try.f6.body.getD .skip⟩ := ⟨Try.f6, Try.func6, rfl, rfl, rfl, rfl⟩
theorem Ui : aI Try.prog 7 ⟨33, [.tmp 2], Try.f7.body.getD .skip⟩ := ⟨Try.f7, Try.func7, rfl, rfl, rfl, rfl⟩
theorem UE : aI Try.prog 8 ⟨12, [.tmp 2], Try.f8.body.getD .skip⟩ := ⟨Try.f8, Try.func8, rfl, rfl, rfl, rfl⟩
theorem Uh : aI Try.prog 9 ⟨10, [.tmp 4], Try.f9.body.getD .skip⟩ := ⟨Try.f9, Try.func9, rfl, rfl, rfl, rfl⟩
theorem Ss : aI Try.prog 10 ⟨54, [.tmp 4, .tmp 5], Try.f10.body.getD .skip⟩ := ⟨Try.f10, Try.func10, rfl, rfl, rfl, rfl⟩
theorem TH : aI Try.prog 11 ⟨21, [.tmp 4, .tmp 5], Try.f11.body.getD .skip⟩ := ⟨Try.f11, Try.func11, rfl, rfl, rfl, rfl⟩
theorem RK : aI Try.prog 12 ⟨23, [.tmp 2], Try.f12.body.getD .skip⟩ := ⟨Try.f12, Try.func12, rfl, rfl, rfl, rfl⟩
theorem QZ : aI Try.prog 13 ⟨60, [.tmp 6, .tmp 7], Try.f13.body.getD .skip⟩ := ⟨Try.f13, Try.func13, rfl, rfl, rfl, rfl⟩
theorem Tt : aI Try.prog 14 ⟨12, [.tmp 2], Try.f14.body.getD .skip⟩ := ⟨Try.f14, Try.func14, rfl, rfl, rfl, rfl⟩
theorem Qx : aI Try.prog 15 ⟨32, [.tmp 6], Try.f15.body.getD .skip⟩ := ⟨Try.f15, Try.func15, rfl, rfl, rfl, rfl⟩
theorem RM : aI Try.prog 16 ⟨90, [.tmp 6], Try.f16.body.getD .skip⟩ := ⟨Try.f16, Try.func16, rfl, rfl, rfl, rfl⟩
theorem T4 : aI Try.prog 17 ⟨37, [.tmp 4], Try.f17.body.getD .skip⟩ := ⟨Try.f17, Try.func17, rfl, rfl, rfl, rfl⟩
theorem S6 : aI Try.prog 18 ⟨22, [.tmp 4], Try.f18.body.getD .skip⟩ := ⟨Try.f18, Try.func18, rfl, rfl, rfl, rfl⟩
theorem QN : aI Try.prog 19 ⟨27, [.tmp 4], Try.f19.body.getD .skip⟩ := ⟨Try.f19, Try.func19, rfl, rfl, rfl, rfl⟩
theorem TZ : aI Try.prog 20 ⟨41, [.tmp 4], Try.f20.body.getD .skip⟩ := ⟨Try.f20, Try.func20, rfl, rfl, rfl, rfl⟩
theorem SO : aI Try.prog 21 ⟨31, [.tmp 4], Try.f21.body.getD .skip⟩ := ⟨Try.f21, Try.func21, rfl, rfl, rfl, rfl⟩
theorem Tn : aI Try.prog 22 ⟨74, [.tmp 2], Try.f22.body.getD .skip⟩ := ⟨Try.f22, Try.func22, rfl, rfl, rfl, rfl⟩
theorem QI : aI Try.prog 23 ⟨68, [.tmp 6, .tmp 7, .tmp 8], Try.f23.body.getD .skip⟩ := ⟨Try.f23, Try.func23, rfl, rfl, rfl, rfl⟩
theorem QH : aI Try.prog 24 ⟨116, [.cell 8 53, .tmp 9], Try.f24.body.getD .skip⟩ := ⟨Try.f24, Try.func24, rfl, rfl, rfl, rfl⟩
theorem Ts : aI Try.prog 25 ⟨26, [.tmp 4], Try.f25.body.getD .skip⟩ := ⟨Try.f25, Try.func25, rfl, rfl, rfl, rfl⟩
theorem Ql : aI Try.prog 26 ⟨9, [.tmp 4], Try.f26.body.getD .skip⟩ := ⟨Try.f26, Try.func26, rfl, rfl, rfl, rfl⟩
theorem TQ : aI Try.prog 27 ⟨7, [.tmp 2], Try.f27.body.getD .skip⟩ := ⟨Try.f27, Try.func27, rfl, rfl, rfl, rfl⟩
theorem Se : aI Try.prog 28 ⟨66, [.cell 2 60, .cell 3 31], Try.f28.body.getD .skip⟩ := ⟨Try.f28, Try.func28, rfl, rfl, rfl, rfl⟩
theorem RH : aI Try.prog 29 ⟨50, [.tmp 6], Try.f29.body.getD .skip⟩ := ⟨Try.f29, Try.func29, rfl, rfl, rfl, rfl⟩
theorem Qz : aI Try.prog 30 ⟨34, [.tmp 4, .tmp 5], Try.f30.body.getD .skip⟩ := ⟨Try.f30, Try.func30, rfl, rfl, rfl, rfl⟩
theorem T0 : aI Try.prog 31 ⟨74, [.cell 6 68], Try.f31.body.getD .skip⟩ := ⟨Try.f31, Try.func31, rfl, rfl, rfl, rfl⟩
theorem Ti : aI Try.prog 32 ⟨22, [.tmp 4], Try.f32.body.getD .skip⟩ := ⟨Try.f32, Try.func32, rfl, rfl, rfl, rfl⟩
theorem TL : aI Try.prog 33 ⟨6, [.tmp 2], Try.f33.body.getD .skip⟩ := ⟨Try.f33, Try.func33, rfl, rfl, rfl, rfl⟩
theorem To : aI Try.prog 34 ⟨37, [.tmp 6], Try.f34.body.getD .skip⟩ := ⟨Try.f34, Try.func34, rfl, rfl, rfl, rfl⟩
theorem T8 : aI Try.prog 35 ⟨19, [.tmp 4], Try.f35.body.getD .skip⟩ := ⟨Try.f35, Try.func35, rfl, rfl, rfl, rfl⟩
theorem SA : aI Try.prog 36 ⟨14, [.tmp 3], Try.f36.body.getD .skip⟩ := ⟨Try.f36, Try.func36, rfl, rfl, rfl, rfl⟩
theorem Qf : aI Try.prog 37 ⟨137, [.cell 2 60, .tmp 3], Try.f37.body.getD .skip⟩ := ⟨Try.f37, Try.func37, rfl, rfl, rfl, rfl⟩
theorem Sk : aI Try.prog 38 ⟨52, [.cell 6 60], Try.f38.body.getD .skip⟩ := ⟨Try.f38, Try.func38, rfl, rfl, rfl, rfl⟩
theorem Th : aI Try.prog 39 ⟨11, [.tmp 4], Try.f39.body.getD .skip⟩ := ⟨Try.f39, Try.func39, rfl, rfl, rfl, rfl⟩
theorem Qq : aI Try.prog 40 ⟨31, [.tmp 4], Try.f40.body.getD .skip⟩ := ⟨Try.f40, Try.func40, rfl, rfl, rfl, rfl⟩
theorem Sm : aI Try.prog 41 ⟨27, [.tmp 4], Try.f41.body.getD .skip⟩ := ⟨Try.f41, Try.func41, rfl, rfl, rfl, rfl⟩
theorem TN : aI Try.prog 42 ⟨26, [.tmp 4], Try.f42.body.getD .skip⟩ := ⟨Try.f42, Try.func42, rfl, rfl, rfl, rfl⟩
theorem QC : aI Try.prog 43 ⟨62, [.tmp 8], Try.f43.body.getD .skip⟩ := ⟨Try.f43, Try.func43, rfl, rfl, rfl, rfl⟩
theorem QO : aI Try.prog 44 ⟨64, [.cell 2 78, .cell 3 60, .cell 4 31], Try.f44.body.getD .skip⟩ := ⟨Try.f44, Try.func44, rfl, rfl, rfl, rfl⟩
theorem R_ : aI Try.prog 45 ⟨11, [.tmp 4, .tmp 5], Try.f45.body.getD .skip⟩ := ⟨Try.f45, Try.func45, rfl, rfl, rfl, rfl⟩
theorem Rx : aI Try.prog 46 ⟨42, [.tmp 8], Try.f46.body.getD .skip⟩ := ⟨Try.f46, Try.func46, rfl, rfl, rfl, rfl⟩
theorem QY : aI Try.prog 47 ⟨50, [.tmp 8, .tmp 9], Try.f47.body.getD .skip⟩ := ⟨Try.f47, Try.func47, rfl, rfl, rfl, rfl⟩
theorem TF : aI Try.prog 48 ⟨15, [.tmp 6], Try.f48.body.getD .skip⟩ := ⟨Try.f48, Try.func48, rfl, rfl, rfl, rfl⟩
theorem RB : aI Try.prog 49 ⟨62, [.tmp 4], Try.f49.body.getD .skip⟩ := ⟨Try.f49, Try.func49, rfl, rfl, rfl, rfl⟩
theorem Sp : aI Try.prog 50 ⟨4, [.tmp 2], Try.f50.body.getD .skip⟩ := ⟨Try.f50, Try.func50, rfl, rfl, rfl, rfl⟩
theorem R9 : aI Try.prog 51 ⟨82, [.tmp 6], Try.f51.body.getD .skip⟩ := ⟨Try.f51, Try.func51, rfl, rfl, rfl, rfl⟩
theorem Re : aI Try.prog 52 ⟨58, [.cell 4 60, .cell 5 4], Try.f52.body.getD .skip⟩ := ⟨Try.f52, Try.func52, rfl, rfl, rfl, rfl⟩
theorem S0 : aI Try.prog 53 ⟨13, [.tmp 4], Try.f53.body.getD .skip⟩ := ⟨Try.f53, Try.func53, rfl, rfl, rfl, rfl⟩
theorem R3 : aI Try.prog 54 ⟨28, [.tmp 4], Try.f54.body.getD .skip⟩ := ⟨Try.f54, Try.func54, rfl, rfl, rfl, rfl⟩
theorem TT : aI Try.prog 55 ⟨14, [.tmp 4], Try.f55.body.getD .skip⟩ := ⟨Try.f55, Try.func55, rfl, rfl, rfl, rfl⟩
theorem Qm : aI Try.prog 56 ⟨17, [.tmp 4], Try.f56.body.getD .skip⟩ := ⟨Try.f56, Try.func56, rfl, rfl, rfl, rfl⟩
theorem S9 : aI Try.prog 57 ⟨17, [.tmp 4], Try.f57.body.getD .skip⟩ := ⟨Try.f57, Try.func57, rfl, rfl, rfl, rfl⟩
theorem Sh : aI Try.prog 58 ⟨9, [.tmp 4], Try.f58.body.getD .skip⟩ := ⟨Try.f58, Try.func58, rfl, rfl, rfl, rfl⟩
theorem TE : aI Try.prog 59 ⟨5, [.tmp 2], Try.f59.body.getD .skip⟩ := ⟨Try.f59, Try.func59, rfl, rfl, rfl, rfl⟩
theorem SY : aI Try.prog 60 ⟨9, [.tmp 4], Try.f60.body.getD .skip⟩ := ⟨Try.f60, Try.func60, rfl, rfl, rfl, rfl⟩
theorem RJ : aI Try.prog 61 ⟨5, [.tmp 2], Try.f61.body.getD .skip⟩ := ⟨Try.f61, Try.func61, rfl, rfl, rfl, rfl⟩
theorem SN : aI Try.prog 62 ⟨81, [.tmp 4], Try.f62.body.getD .skip⟩ := ⟨Try.f62, Try.func62, rfl, rfl, rfl, rfl⟩
theorem Qp : aI Try.prog 63 ⟨147, [.tmp 6], Try.f63.body.getD .skip⟩ := ⟨Try.f63, Try.func63, rfl, rfl, rfl, rfl⟩
theorem SB : aI Try.prog 64 ⟨70, [.tmp 4], Try.f64.body.getD .skip⟩ := ⟨Try.f64, Try.func64, rfl, rfl, rfl, rfl⟩
theorem Tp : aI Try.prog 65 ⟨86, [.tmp 2], Try.f65.body.getD .skip⟩ := ⟨Try.f65, Try.func65, rfl, rfl, rfl, rfl⟩
theorem QD : aI Try.prog 66 ⟨75, [.tmp 4], Try.f66.body.getD .skip⟩ := ⟨Try.f66, Try.func66, rfl, rfl, rfl, rfl⟩
theorem T3 : aI Try.prog 67 ⟨35, [.tmp 8], Try.f67.body.getD .skip⟩ := ⟨Try.f67, Try.func67, rfl, rfl, rfl, rfl⟩
theorem TU : aI Try.prog 68 ⟨17, [.tmp 8], Try.f68.body.getD .skip⟩ := ⟨Try.f68, Try.func68, rfl, rfl, rfl, rfl⟩
theorem P6 : aI Try.prog 69 ⟨40, [.tmp 6, .tmp 7], Try.f69.body.getD .skip⟩ := ⟨Try.f69, Try.func69, rfl, rfl, rfl, rfl⟩
theorem So : aI Try.prog 70 ⟨12, [], Try.f70.body.getD .skip⟩ := ⟨Try.f70, Try.func70, rfl, rfl, rfl, rfl⟩
theorem Qh : aI Try.prog 71 ⟨11, [.tmp 4, .tmp 5], Try.f71.body.getD .skip⟩ := ⟨Try.f71, Try.func71, rfl, rfl, rfl, rfl⟩
theorem Rq : aI Try.prog 72 ⟨41, [.tmp 2], Try.f72.body.getD .skip⟩ := ⟨Try.f72, Try.func72, rfl, rfl, rfl, rfl⟩
theorem Rl : aI Try.prog 73 ⟨9, [.tmp 4], Try.f73.body.getD .skip⟩ := ⟨Try.f73, Try.func73, rfl, rfl, rfl, rfl⟩
theorem SU : aI Try.prog 74 ⟨9, [.tmp 3], Try.f74.body.getD .skip⟩ := ⟨Try.f74, Try.func74, rfl, rfl, rfl, rfl⟩
theorem TS : aI Try.prog 75 ⟨9, [.tmp 4], Try.f75.body.getD .skip⟩ := ⟨Try.f75, Try.func75, rfl, rfl, rfl, rfl⟩
theorem Q_ : aI Try.prog 76 ⟨9, [.tmp 3], Try.f76.body.getD .skip⟩ := ⟨Try.f76, Try.func76, rfl, rfl, rfl, rfl⟩
theorem Qy : aI Try.prog 77 ⟨33, [], Try.f77.body.getD .skip⟩ := ⟨Try.f77, Try.func77, rfl, rfl, rfl, rfl⟩
theorem Rm : aI Try.prog 78 ⟨40, [.tmp 6], Try.f78.body.getD .skip⟩ := ⟨Try.f78, Try.func78, rfl, rfl, rfl, rfl⟩
theorem RG : aI Try.prog 79 ⟨9, [.tmp 4], Try.f79.body.getD .skip⟩ := ⟨Try.f79, Try.func79, rfl, rfl, rfl, rfl⟩
theorem T5 : aI Try.prog 80 ⟨9, [.tmp 3], Try.f80.body.getD .skip⟩ := ⟨Try.f80, Try.func80, rfl, rfl, rfl, rfl⟩
theorem Sa : aI Try.prog 81 ⟨62, [.tmp 6], Try.f81.body.getD .skip⟩ := ⟨Try.f81, Try.func81, rfl, rfl, rfl, rfl⟩
theorem Tl : aI Try.prog 82 ⟨10, [.tmp 3], Try.f82.body.getD .skip⟩ := ⟨Try.f82, Try.func82, rfl, rfl, rfl, rfl⟩
theorem SP : aI Try.prog 83 ⟨61, [.cell 4 60, .cell 5 60, .tmp 6], Try.f83.body.getD .skip⟩ := ⟨Try.f83, Try.func83, rfl, rfl, rfl, rfl⟩
theorem QT : aI Try.prog 84 ⟨54, [.tmp 4, .tmp 5], Try.f84.body.getD .skip⟩ := ⟨Try.f84, Try.func84, rfl, rfl, rfl, rfl⟩
theorem TA : aI Try.prog 85 ⟨19, [.tmp 4], Try.f85.body.getD .skip⟩ := ⟨Try.f85, Try.func85, rfl, rfl, rfl, rfl⟩
theorem Tg : aI Try.prog 86 ⟨19, [.tmp 4], Try.f86.body.getD .skip⟩ := ⟨Try.f86, Try.func86, rfl, rfl, rfl, rfl⟩
theorem SS : aI Try.prog 87 ⟨42, [.tmp 2], Try.f87.body.getD .skip⟩ := ⟨Try.f87, Try.func87, rfl, rfl, rfl, rfl⟩
theorem R4 : aI Try.prog 88 ⟨9, [.tmp 2], Try.f88.body.getD .skip⟩ := ⟨Try.f88, Try.func88, rfl, rfl, rfl, rfl⟩
theorem S3 : aI Try.prog 89 ⟨17, [.cell 4 40], Try.f89.body.getD .skip⟩ := ⟨Try.f89, Try.func89, rfl, rfl, rfl, rfl⟩
theorem SH : aI Try.prog 90 ⟨33, [.tmp 4], Try.f90.body.getD .skip⟩ := ⟨Try.f90, Try.func90, rfl, rfl, rfl, rfl⟩
theorem T_ : aI Try.prog 91 ⟨20, [.tmp 4], Try.f91.body.getD .skip⟩ := ⟨Try.f91, Try.func91, rfl, rfl, rfl, rfl⟩
theorem RT : aI Try.prog 92 ⟨8, [.tmp 2], Try.f92.body.getD .skip⟩ := ⟨Try.f92, Try.func92, rfl, rfl, rfl, rfl⟩
theorem Rj : aI Try.prog 93 ⟨13, [], Try.f93.body.getD .skip⟩ := ⟨Try.f93, Try.func93, rfl, rfl, rfl, rfl⟩
theorem TP : aI Try.prog 94 ⟨17, [.tmp 2], Try.f94.body.getD .skip⟩ := ⟨Try.f94, Try.func94, rfl, rfl, rfl, rfl⟩
theorem Qs : aI Try.prog 95 ⟨9, [.tmp 2], Try.f95.body.getD .skip⟩ := ⟨Try.f95, Try.func95, rfl, rfl, rfl, rfl⟩
theorem Sj : aI Try.prog 96 ⟨19, [.tmp 4], Try.f96.body.getD .skip⟩ := ⟨Try.f96, Try.func96, rfl, rfl, rfl, rfl⟩
theorem Rc : aI Try.prog 97 ⟨19, [.tmp 4], Try.f97.body.getD .skip⟩ := ⟨Try.f97, Try.func97, rfl, rfl, rfl, rfl⟩
theorem Sq : aI Try.prog 98 ⟨19, [.tmp 4], Try.f98.body.getD .skip⟩ := ⟨Try.f98, Try.func98, rfl, rfl, rfl, rfl⟩
theorem TV : aI Try.prog 99 ⟨11, [.cell 4 60, .tmp 5], Try.f99.body.getD .skip⟩ := ⟨Try.f99, Try.func99, rfl, rfl, rfl, rfl⟩
theorem MS : aI Try.prog 100 ⟨17, [.tmp 4], Try.f100.body.getD .skip⟩ := ⟨Try.f100, Try.func100, rfl, rfl, rfl, rfl⟩
theorem M4 : aI Try.prog 101 ⟨6, [.tmp 2], Try.f101.body.getD .skip⟩ := ⟨Try.f101, Try.func101, rfl, rfl, rfl, rfl⟩
theorem NG : aI Try.prog 102 ⟨17, [.tmp 2], Try.f102.body.getD .skip⟩ := ⟨Try.f102, Try.func102, rfl, rfl, rfl, rfl⟩
theorem Mi : aI Try.prog 103 ⟨9, [.tmp 2], Try.f103.body.getD .skip⟩ := ⟨Try.f103, Try.func103, rfl, rfl, rfl, rfl⟩
theorem LP : aI Try.prog 104 ⟨30, [.cell 6 60, .cell 7 4], Try.f104.body.getD .skip⟩ := ⟨Try.f104, Try.func104, rfl, rfl, rfl, rfl⟩
theorem Md : aI Try.prog 105 ⟨6, [.tmp 2], Try.f105.body.getD .skip⟩ := ⟨Try.f105, Try.func105, rfl, rfl, rfl, rfl⟩
theorem NI : ∀ p ∈ Ad, aI Try.prog p.1 p.2 := by
 unfold Ad
 simp only [List.forall_mem_cons]
 exact ⟨Uu, Um, Uq, UB, Uw, Ui, UE, Uh, Ss, TH, RK, QZ, Tt, Qx, RM, T4, S6, QN, TZ, SO, Tn, QI, QH, Ts, Ql, TQ, Se, RH, Qz, T0, by simp⟩
theorem Lu : ∀ p ∈ A7, aI Try.prog p.1 p.2 := by
 unfold A7
 simp only [List.forall_mem_cons]
 exact ⟨Ti, TL, To, T8, SA, Qf, Sk, Th, Qq, Sm, TN, QC, QO, R_, Rx, QY, TF, RB, Sp, R9, Re, S0, R3, TT, Qm, S9, Sh, TE, SY, RJ, by simp⟩
theorem NA : ∀ p ∈ AU, aI Try.prog p.1 p.2 := by
 unfold AU
 simp only [List.forall_mem_cons]
 exact ⟨SN, Qp, SB, Tp, QD, T3, TU, P6, So, Qh, Rq, Rl, SU, TS, Q_, Qy, Rm, RG, T5, Sa, Tl, SP, QT, TA, Tg, SS, R4, S3, SH, T_, by simp⟩
theorem MR : ∀ p ∈ Bp, aI Try.prog p.1 p.2 := by
 unfold Bp
 simp only [List.forall_mem_cons]
 exact ⟨RT, Rj, TP, Qs, Sj, Rc, Sq, TV, MS, M4, NG, Mi, LP, Md, by simp⟩
theorem Ro : ∀ p ∈ zZ, aI Try.prog p.1 p.2 := by
 unfold zZ
 simp only [List.forall_mem_append]
 exact ⟨⟨⟨NI, Lu⟩, NA⟩, MR⟩
theorem Rn : vA Try.prog 60 2 := vA.two (i := 3) Try.underlying60 rfl rfl rfl rfl (by decide) (by decide) NY Try.underlying3 (by kernel_rfl) (by kernel_rfl)
theorem Ly : eA Try.prog E where
 tt := fun t d h => Rs (t, d) (xw (l := zY) h)
 ft := fun f fi h => Ro (f, fi) (xw (l := zZ) h)
 eqN := by
  intro t n h
  change (if [60].contains t then some 2 else none) = some n at h
  split at h
  ·rename_i hc
   simp only [Option.some.injEq] at h; subst h
   simp only [List.contains_cons, List.contains_nil, Bool.or_false, Bool.or_eq_true, beq_iff_eq] at hc
   subst hc; exact Rn
  ·simp at h
theorem mixed : Try.prog.follows .mixedOrders = true := by kernel_rfl
theorem calls (n : Nat) : jq Try.prog (run E n) := E7 Ly mixed n
end Go.Proofs.Ytnfakljmdnbipaa
namespace Go.Proofs.Ytnfakljmdnbipaa
open Go.VE Go.Proofs
def a0 : V := .clo 74 [] [.fptr [.str (ByteArray.mk #[97]), .au, .fsl 5 [[.int .i64 2, .int .i64 1, .int .i64 1, .int .i64 0, .au], [.int .i64 2, .int .i64 1, .int .i64 2, .int .i64 0, .au]]]]
def a1 : V := .agg [.fsl 3 [[.str (ByteArray.mk #[97]), .au, .fsl 5 [[.int .i64 2, .int .i64 1, .int .i64 1, .int .i64 0, .au], [.int .i64 2, .int .i64 1, .int .i64 2, .int .i64 0, .au]]], [.str (ByteArray.mk #[98]), .au, .fsl 5 [[.int .i64 3, .int .i64 0, .int .i64 1, .int .i64 0, .au]]]]]
def a2 : V := .fsl 3 [[.str (ByteArray.mk #[97]), .au, .fsl 5 [[.int .i64 2, .int .i64 1, .int .i64 1, .int .i64 0, .au], [.int .i64 2, .int .i64 1, .int .i64 2, .int .i64 0, .au]]]]
def a3 : V := .clo 74 [] [.fptr [.str (ByteArray.mk #[98]), .au, .fsl 5 [[.int .i64 3, .int .i64 0, .int .i64 1, .int .i64 0, .au]]]]
def a4 : V := .agg [.int .i64 2, .int .i64 1, .int .i64 1, .int .i64 0, .au]
def a5 : V := .agg [.int .i64 0, .int .i64 1]
def a6 : V := .agg [.int .i64 2, .int .i64 1, .int .i64 2, .int .i64 0, .au]
def a7 : V := .agg [.int .i64 0, .int .i64 2]
def a8 : V := .agg [.int .i64 3, .int .i64 0, .int .i64 1, .int .i64 0, .au]
def a9 : V := .agg [.int .i64 1, .int .i64 1]
def Po : V := .fsl 5 [[.int .i64 2, .int .i64 1, .int .i64 1, .int .i64 0, .au], [.int .i64 2, .int .i64 1, .int .i64 2, .int .i64 0, .au]]
def ON : V := .clo 91 [] [.fptr [.int .i64 1], .fptr [.int .i64 1]]
def GW : V := .fptr [.int .i64 0, .int .i64 0, .int .i64 0, .int .i64 0, .int .i64 0, .int .i64 1, .int .i64 1, .int .i64 1, .int .i64 0, .int .i64 2, .int .i64 0, .int .i64 0, .int .i64 0, .int .i64 0, .int .i64 0, .int .i64 0, .int .i64 0, .int .i64 0, .int .i64 0, .int .i64 0, .int .i64 0, .int .i64 0, .int .i64 0, .int .i64 0, .int .i64 0, .int .i64 0, .int .i64 0, .int .i64 0, .int .i64 0, .int .i64 0, .int .i64 0, .int .i64 0, .int .i64 0, .int .i64 0, .int .i64 0, .int .i64 0, .int .i64 0, .int .i64 0, .int .i64 0, .int .i64 0, .int .i64 0, .int .i64 0, .int .i64 0, .int .i64 0, .int .i64 0, .int .i64 0, .int .i64 0, .int .i64 0, .int .i64 0, .int .i64 0, .int .i64 0, .int .i64 0, .int .i64 0, .int .i64 0, .int .i64 0, .int .i64 0, .int .i64 0, .int .i64 0, .int .i64 0, .int .i64 0, .int .i64 0, .int .i64 0, .int .i64 0, .int .i64 0, .int .i64 0, .int .i64 0, .int .i64 0, .int .i64 0, .int .i64 0, .int .i64 0, .int .i64 0, .int .i64 0, .int .i64 0, .int .i64 0, .int .i64 0, .int .i64 0, .int .i64 0, .int .i64 0, .int .i64 0, .int .i64 0, .int .i64 0, .int .i64 0, .int .i64 0, .int .i64 0, .int .i64 0, .int .i64 0, .int .i64 0, .int .i64 0, .int .i64 0, .int .i64 0, .int .i64 0, .int .i64 0, .int .i64 0, .int .i64 0, .int .i64 0, .int .i64 0, .int .i64 0, .int .i64 0, .int .i64 0, .int .i64 0, .int .i64 0, .int .i64 0, .int .i64 0, .int .i64 0, .int .i64 0, .int .i64 0, .int .i64 0, .int .i64 0, .int .i64 0, .int .i64 0, .int .i64 0, .int .i64 0, .int .i64 0, .int .i64 0, .int .i64 0, .int .i64 0, .int .i64 0, .int .i64 0, .int .i64 0, .int .i64 0, .int .i64 0, .int .i64 0, .int .i64 0, .int .i64 0, .int .i64 0, .int .i64 0, .int .i64 0, .int .i64 0, .int .i64 0, .int .i64 0, .int .i64 0, .int .i64 0, .int .i64 0, .int .i64 0, .int .i64 0, .int .i64 0, .int .i64 0, .int .i64 0, .int .i64 0, .int .i64 0, .int .i64 0, .int .i64 0, .int .i64 0, .int .i64 0, .int .i64 0, .int .i64 0, .int .i64 0, .int .i64 0, .int .i64 0, .int .i64 0, .int .i64 0, .int .i64 0, .int .i64 0, .int .i64 0, .int .i64 0, .int .i64 0, .int .i64 0, .int .i64 0, .int .i64 0, .int .i64 0, .int .i64 0, .int .i64 0, .int .i64 0, .int .i64 0, .int .i64 0, .int .i64 0, .int .i64 0, .int .i64 0, .int .i64 0, .int .i64 0, .int .i64 0, .int .i64 0, .int .i64 0, .int .i64 0, .int .i64 0, .int .i64 0, .int .i64 0, .int .i64 0, .int .i64 0, .int .i64 0, .int .i64 0, .int .i64 0, .int .i64 0, .int .i64 0, .int .i64 0, .int .i64 0, .int .i64 0, .int .i64 0, .int .i64 0, .int .i64 0, .int .i64 0, .int .i64 0, .int .i64 0, .int .i64 0, .int .i64 0, .int .i64 0, .int .i64 0, .int .i64 0, .int .i64 0, .int .i64 0, .int .i64 0, .int .i64 0, .int .i64 0, .int .i64 0, .int .i64 0, .int .i64 0, .int .i64 0, .int .i64 0, .int .i64 0, .int .i64 0, .int .i64 0, .int .i64 0, .int .i64 0, .int .i64 0, .int .i64 0, .int .i64 0, .int .i64 0, .int .i64 0, .int .i64 0, .int .i64 0, .int .i64 0, .int .i64 0, .int .i64 0, .int .i64 0, .int .i64 0, .int .i64 0, .int .i64 0, .int .i64 0, .int .i64 0, .int .i64 0, .int .i64 0, .int .i64 0, .int .i64 0, .int .i64 0, .int .i64 0, .int .i64 0, .int .i64 0, .int .i64 0, .int .i64 0, .int .i64 0, .int .i64 0, .int .i64 0, .int .i64 0, .int .i64 0, .int .i64 0, .int .i64 0, .int .i64 0, .int .i64 0, .int .i64 0, .int .i64 0, .int .i64 0, .int .i64 0, .int .i64 0, .int .i64 0, .int .i64 0, .int .i64 0, .int .i64 0, .int .i64 0, .int .i64 0, .int .i64 0, .int .i64 0, .int .i64 0, .int .i64 0, .int .i64 0, .int .i64 0, .int .i64 0, .int .i64 0, .int .i64 0, .int .i64 0, .int .i64 0, .int .i64 0, .int .i64 0, .int .i64 0, .int .i64 0, .int .i64 0, .int .i64 0, .int .i64 0, .int .i64 0, .int .i64 0, .int .i64 0, .int .i64 0, .int .i64 0, .int .i64 0, .int .i64 0, .int .i64 0, .int .i64 0, .int .i64 0, .int .i64 0, .int .i64 0, .int .i64 0, .int .i64 0, .int .i64 0, .int .i64 0, .int .i64 0, .int .i64 0, .int .i64 0, .int .i64 0, .int .i64 0, .int .i64 0, .int .i64 0, .int .i64 0, .int .i64 0, .int .i64 0, .int .i64 0, .int .i64 0, .int .i64 0, .int .i64 0, .int .i64 0, .int .i64 0, .int .i64 0, .int .i64 0, .int .i64 0, .int .i64 0, .int .i64 0, .int .i64 0, .int .i64 0, .int .i64 0, .int .i64 0, .int .i64 0, .int .i64 0, .int .i64 0, .int .i64 0, .int .i64 0, .int .i64 0, .int .i64 0, .int .i64 0, .int .i64 0, .int .i64 0, .int .i64 0, .int .i64 0, .int .i64 0, .int .i64 0, .int .i64 0, .int .i64 0, .int .i64 0, .int .i64 0, .int .i64 0, .int .i64 0, .int .i64 0, .int .i64 0, .int .i64 0, .int .i64 0, .int .i64 0, .int .i64 0, .int .i64 0, .int .i64 0, .int .i64 0, .int .i64 0, .int .i64 0, .int .i64 0, .int .i64 0, .int .i64 0, .int .i64 0, .int .i64 0, .int .i64 0, .int .i64 0, .int .i64 0, .int .i64 0, .int .i64 0, .int .i64 0, .int .i64 0, .int .i64 0, .int .i64 0, .int .i64 0, .int .i64 0, .int .i64 0, .int .i64 0, .int .i64 0, .int .i64 0, .int .i64 0, .int .i64 0, .int .i64 0, .int .i64 0, .int .i64 0, .int .i64 0, .int .i64 0, .int .i64 0, .int .i64 0, .int .i64 0, .int .i64 0, .int .i64 0, .int .i64 0, .int .i64 0, .int .i64 0, .int .i64 0, .int .i64 0, .int .i64 0, .int .i64 0, .int .i64 0, .int .i64 0, .int .i64 0, .int .i64 0, .int .i64 0, .int .i64 0, .int .i64 0, .int .i64 0, .int .i64 0, .int .i64 0, .int .i64 0, .int .i64 0, .int .i64 0, .int .i64 0, .int .i64 0, .int .i64 0, .int .i64 0, .int .i64 0, .int .i64 0, .int .i64 0, .int .i64 0, .int .i64 0, .int .i64 0, .int .i64 0, .int .i64 0, .int .i64 0, .int .i64 0, .int .i64 0, .int .i64 0, .int .i64 0, .int .i64 0, .int .i64 0, .int .i64 0, .int .i64 0, .int .i64 0, .int .i64 0, .int .i64 0, .int .i64 0, .int .i64 0, .int .i64 0, .int .i64 0, .int .i64 0, .int .i64 0, .int .i64 0, .int .i64 0, .int .i64 0, .int .i64 0, .int .i64 0, .int .i64 0, .int .i64 0, .int .i64 0, .int .i64 0, .int .i64 0, .int .i64 0, .int .i64 0, .int .i64 0, .int .i64 0, .int .i64 0, .int .i64 0, .int .i64 0, .int .i64 0, .int .i64 0, .int .i64 0, .int .i64 0, .int .i64 0, .int .i64 0, .int .i64 0, .int .i64 0, .int .i64 0, .int .i64 0, .int .i64 0, .int .i64 0, .int .i64 0, .int .i64 0, .int .i64 0, .int .i64 0, .int .i64 0, .int .i64 0, .int .i64 0, .int .i64 0, .int .i64 0, .int .i64 0, .int .i64 0, .int .i64 0, .int .i64 0, .int .i64 0, .int .i64 0, .int .i64 0, .int .i64 0, .int .i64 0, .int .i64 0, .int .i64 0, .int .i64 0, .int .i64 0, .int .i64 0, .int .i64 0, .int .i64 0, .int .i64 0, .int .i64 0, .int .i64 0, .int .i64 0, .int .i64 0, .int .i64 0, .int .i64 0, .int .i64 0, .int .i64 0, .int .i64 0, .int .i64 0, .int .i64 0, .int .i64 0, .int .i64 0, .int .i64 0, .int .i64 0, .int .i64 0, .int .i64 0, .int .i64 0, .int .i64 0, .int .i64 0, .int .i64 0, .int .i64 0, .int .i64 0, .int .i64 0, .int .i64 0, .int .i64 0, .int .i64 0, .int .i64 0, .int .i64 0, .int .i64 0, .int .i64 0, .int .i64 0, .int .i64 0, .int .i64 0, .int .i64 0, .int .i64 0, .int .i64 0, .int .i64 0, .int .i64 0, .int .i64 0, .int .i64 0, .int .i64 0, .int .i64 0, .int .i64 0, .int .i64 0, .int .i64 0, .int .i64 0, .int .i64 0, .int .i64 0, .int .i64 0, .int .i64 0, .int .i64 0, .int .i64 0, .int .i64 0, .int .i64 0, .int .i64 0, .int .i64 0, .int .i64 0, .int .i64 0, .int .i64 0, .int .i64 0, .int .i64 0, .int .i64 0, .int .i64 0, .int .i64 0, .int .i64 0, .int .i64 0, .int .i64 0, .int .i64 0, .int .i64 0, .int .i64 0, .int .i64 0, .int .i64 0, .int .i64 0, .int .i64 0, .int .i64 0, .int .i64 0, .int .i64 0, .int .i64 0, .int .i64 0, .int .i64 0, .int .i64 0, .int .i64 0, .int .i64 0, .int .i64 0, .int .i64 0, .int .i64 0, .int .i64 0, .int .i64 0, .int .i64 0, .int .i64 0, .int .i64 0, .int .i64 0, .int .i64 0, .int .i64 0, .int .i64 0, .int .i64 0, .int .i64 0, .int .i64 0, .int .i64 0, .int .i64 0, .int .i64 0, .int .i64 0, .int .i64 0, .int .i64 0, .int .i64 0, .int .i64 0, .int .i64 0, .int .i64 0, .int .i64 0, .int .i64 0, .int .i64 0, .int .i64 0, .int .i64 0, .int .i64 0, .int .i64 0, .int .i64 0, .int .i64 0, .int .i64 0, .int .i64 0, .int .i64 0, .int .i64 0, .int .i64 0, .int .i64 0, .int .i64 0, .int .i64 0, .int .i64 0, .int .i64 0, .int .i64 0, .int .i64 0, .int .i64 0, .int .i64 0, .int .i64 0, .int .i64 0, .int .i64 0, .int .i64 0, .int .i64 0, .int .i64 0, .int .i64 0, .int .i64 0, .int .i64 0, .int .i64 0, .int .i64 0, .int .i64 0, .int .i64 0, .int .i64 0, .int .i64 0, .int .i64 0, .int .i64 0, .int .i64 0, .int .i64 0, .int .i64 0, .int .i64 0, .int .i64 0, .int .i64 0, .int .i64 0, .int .i64 0, .int .i64 0, .int .i64 0, .int .i64 0, .int .i64 0, .int .i64 0, .int .i64 0, .int .i64 0, .int .i64 0, .int .i64 0, .int .i64 0, .int .i64 0, .int .i64 0, .int .i64 0, .int .i64 0, .int .i64 0, .int .i64 0, .int .i64 0, .int .i64 0, .int .i64 0, .int .i64 0, .int .i64 0, .int .i64 0, .int .i64 0, .int .i64 0, .int .i64 0, .int .i64 0, .int .i64 0, .int .i64 0, .int .i64 0, .int .i64 0, .int .i64 0, .int .i64 0, .int .i64 0, .int .i64 0, .int .i64 0, .int .i64 0, .int .i64 0, .int .i64 0, .int .i64 0, .int .i64 0, .int .i64 0, .int .i64 0, .int .i64 0, .int .i64 0, .int .i64 0, .int .i64 0, .int .i64 0, .int .i64 0, .int .i64 0, .int .i64 0, .int .i64 0, .int .i64 0, .int .i64 0, .int .i64 0, .int .i64 0, .int .i64 0, .int .i64 0, .int .i64 0, .int .i64 0, .int .i64 0, .int .i64 0, .int .i64 0, .int .i64 0, .int .i64 0, .int .i64 0, .int .i64 0, .int .i64 0, .int .i64 0, .int .i64 0, .int .i64 0, .int .i64 0, .int .i64 0, .int .i64 0, .int .i64 0, .int .i64 0, .int .i64 0, .int .i64 0, .int .i64 0, .int .i64 0, .int .i64 0, .int .i64 0, .int .i64 0, .int .i64 0, .int .i64 0, .int .i64 0, .int .i64 0, .int .i64 0, .int .i64 0, .int .i64 0, .int .i64 0, .int .i64 0, .int .i64 0, .int .i64 0, .int .i64 0, .int .i64 0, .int .i64 0, .int .i64 0, .int .i64 0, .int .i64 0, .int .i64 0, .int .i64 0, .int .i64 0, .int .i64 0, .int .i64 0, .int .i64 0, .int .i64 0, .int .i64 0, .int .i64 0, .int .i64 0, .int .i64 0, .int .i64 0, .int .i64 0, .int .i64 0, .int .i64 0, .int .i64 0, .int .i64 0, .int .i64 0, .int .i64 0, .int .i64 0, .int .i64 0, .int .i64 0, .int .i64 0, .int .i64 0, .int .i64 0, .int .i64 0, .int .i64 0, .int .i64 0, .int .i64 0, .int .i64 0, .int .i64 0, .int .i64 0, .int .i64 0, .int .i64 0, .int .i64 0, .int .i64 0, .int .i64 0, .int .i64 0, .int .i64 0, .int .i64 0, .int .i64 0, .int .i64 0, .int .i64 0, .int .i64 0, .int .i64 0, .int .i64 0, .int .i64 0, .int .i64 0, .int .i64 0, .int .i64 0, .int .i64 0, .int .i64 0, .int .i64 0, .int .i64 0, .int .i64 0, .int .i64 0, .int .i64 0, .int .i64 0]
def xE : V := .agg [.int .i64 0, .int .i64 1, .fsl 1 [[.int .i64 1], [.int .i64 2]], .fsl 1 [[.int .i64 1]]]
def DR : V := .fsl 1 [[.int .i64 1], [.int .i64 0]]
def Hf : V := .fptr [.fsl 3 [[.str (ByteArray.mk #[97]), .au, .fsl 5 [[.int .i64 2, .int .i64 1, .int .i64 1, .int .i64 0, .au], [.int .i64 2, .int .i64 1, .int .i64 2, .int .i64 0, .au]]], [.str (ByteArray.mk #[98]), .au, .fsl 5 [[.int .i64 3, .int .i64 0, .int .i64 1, .int .i64 0, .au]]]]]
def Ki : V := .fsl 1 [[.fsl 1 [[.int .i64 1], [.int .i64 0]]]]
def zq : V := .clo 82 [] [.fptr [.fsl 3 [[.str (ByteArray.mk #[97]), .au, .fsl 5 [[.int .i64 2, .int .i64 1, .int .i64 1, .int .i64 0, .au], [.int .i64 2, .int .i64 1, .int .i64 2, .int .i64 0, .au]]], [.str (ByteArray.mk #[98]), .au, .fsl 5 [[.int .i64 3, .int .i64 0, .int .i64 1, .int .i64 0, .au]]]]]]
def GM : V := .tup [.agg [.int .i64 0, .int .i64 0], .agg [.int .i64 0, .int .i64 0], .bool false]
def G6 : V := .fsl 1 [[.int .i64 1], [.int .i64 2]]
def PK : V := .tup [.int .i64 0, .bool true]
def KL : V := .tup [.int .i64 0, .bool false]
def Aw : V := .fsl 1 [[.int .i64 2], [.int .i64 0]]
def IG : V := .fsl 1 [[.fsl 1 [[.int .i64 2], [.int .i64 0]]]]
def s6 : V := .fsl 1 [[.int .i64 2], [.int .i64 1]]
def GQ : V := .fsl 1 [[.fsl 1 [[.int .i64 2], [.int .i64 1]]]]
def Oo : V := .tup [.agg [.int .i64 0, .int .i64 1], .bool true]
def B0 : V := .fsl 1 [[.int .i64 0], [.int .i64 1]]
def Je : V := .fsl 1 [[.fsl 1 [[.int .i64 0], [.int .i64 1]]]]
def O7 : V := .fsl 1 [[.int .i64 1], [.int .i64 1]]
def N3 : V := .agg [.int .i64 1, .int .i64 0, .au, .au]
def Pr : V := .fsl 1 [[.int .i64 0], [.int .i64 0]]
def a32 : V := .fsl 1 [[.fsl 1 [[.int .i64 0], [.int .i64 1]]], [.fsl 1 [[.int .i64 0], [.int .i64 0]]]]
def k0 : aC := ⟨48, [.int .i64 2, .int .i64 1, .int .i64 8], .bool true⟩
theorem NK : ax E k0 := aq (n := 100) (l := []) (by simp) (by kernel_rfl)
def k1 : aC := ⟨94, [.int .u8 97], .bool true⟩
theorem Nb : ax E k1 := aq (n := 100) (l := []) (by simp) (by kernel_rfl)
def k2 : aC := ⟨72, [.str (ByteArray.mk #[97])], .bool true⟩
theorem MF : ax E k2 := aq (n := 100) (l := [k1]) (by simp only [List.forall_mem_cons]; exact ⟨Nb, by simp⟩) (by kernel_rfl)
def k3 : aC := ⟨96, [.fsl 3 [], a0], .int .i64 (-1)⟩
theorem KZ : ax E k3 := aq (n := 100) (l := []) (by simp) (by kernel_rfl)
def k4 : aC := ⟨73, [.fsl 3 [], a0], .bool false⟩
theorem Lg : ax E k4 := aq (n := 100) (l := [k3]) (by simp only [List.forall_mem_cons]; exact ⟨KZ, by simp⟩) (by kernel_rfl)
def k5 : aC := ⟨49, [a1, .int .i64 0], .int .i64 0⟩
theorem MB : ax E k5 := aq (n := 100) (l := [k2, k4]) (by simp only [List.forall_mem_cons]; exact ⟨MF, Lg, by simp⟩) (by kernel_rfl)
def k6 : aC := ⟨94, [.int .u8 98], .bool true⟩
theorem Mq : ax E k6 := aq (n := 100) (l := []) (by simp) (by kernel_rfl)
def k7 : aC := ⟨72, [.str (ByteArray.mk #[98])], .bool true⟩
theorem NO : ax E k7 := aq (n := 100) (l := [k6]) (by simp only [List.forall_mem_cons]; exact ⟨Mq, by simp⟩) (by kernel_rfl)
def k8 : aC := ⟨74, [.agg [.str (ByteArray.mk #[97]), .au, .fsl 5 [[.int .i64 2, .int .i64 1, .int .i64 1, .int .i64 0, .au], [.int .i64 2, .int .i64 1, .int .i64 2, .int .i64 0, .au]]], .fptr [.str (ByteArray.mk #[98]), .au, .fsl 5 [[.int .i64 3, .int .i64 0, .int .i64 1, .int .i64 0, .au]]]], .bool false⟩
theorem Nd : ax E k8 := aq (n := 100) (l := []) (by simp) (by kernel_rfl)
def k9 : aC := ⟨96, [a2, a3], .int .i64 (-1)⟩
theorem L4 : ax E k9 := aq (n := 100) (l := [k8]) (by simp only [List.forall_mem_cons]; exact ⟨Nd, by simp⟩) (by kernel_rfl)
def OY : aC := ⟨73, [a2, a3], .bool false⟩
theorem IE : ax E OY := aq (n := 100) (l := [k9]) (by simp only [List.forall_mem_cons]; exact ⟨L4, by simp⟩) (by kernel_rfl)
def NT : aC := ⟨49, [a1, .int .i64 1], .int .i64 0⟩
theorem J8 : ax E NT := aq (n := 100) (l := [k7, OY]) (by simp only [List.forall_mem_cons]; exact ⟨NO, IE, by simp⟩) (by kernel_rfl)
def EJ : aC := ⟨50, [a1], .clo 77 [] [.fptr [.fsl 3 [[.str (ByteArray.mk #[97]), .au, .fsl 5 [[.int .i64 2, .int .i64 1, .int .i64 1, .int .i64 0, .au], [.int .i64 2, .int .i64 1, .int .i64 2, .int .i64 0, .au]]], [.str (ByteArray.mk #[98]), .au, .fsl 5 [[.int .i64 3, .int .i64 0, .int .i64 1, .int .i64 0, .au]]]]]]⟩
theorem wY : ax E EJ := aq (n := 100) (l := []) (by simp) (by kernel_rfl)
def It : aC := ⟨48, [.int .i64 1, .int .i64 0, .int .i64 1], .bool true⟩
theorem EE : ax E It := aq (n := 100) (l := []) (by simp) (by kernel_rfl)
def KH : aC := ⟨48, [.int .i64 1, .int .i64 0, .int .i64 199], .bool true⟩
theorem DX : ax E KH := aq (n := 100) (l := []) (by simp) (by kernel_rfl)
def Od : aC := ⟨78, [a1, .int .i64 0, a4], .bool true⟩
theorem Kn : ax E Od := aq (n := 100) (l := [It, KH]) (by simp only [List.forall_mem_cons]; exact ⟨EE, DX, by simp⟩) (by kernel_rfl)
def G0 : aC := ⟨48, [.int .i64 0, .int .i64 0, .int .i64 1099511627776], .bool true⟩
theorem Ba : ax E G0 := aq (n := 100) (l := []) (by simp) (by kernel_rfl)
def Ow : aC := ⟨51, [a1, a5, a4], .int .i64 0⟩
theorem JZ : ax E Ow := aq (n := 100) (l := [Od, G0]) (by simp only [List.forall_mem_cons]; exact ⟨Kn, Ba, by simp⟩) (by kernel_rfl)
def OM : aC := ⟨48, [.int .i64 2, .int .i64 0, .int .i64 199], .bool true⟩
theorem JB : ax E OM := aq (n := 100) (l := []) (by simp) (by kernel_rfl)
def O_ : aC := ⟨78, [a1, .int .i64 0, a6], .bool true⟩
theorem I9 : ax E O_ := aq (n := 100) (l := [It, OM]) (by simp only [List.forall_mem_cons]; exact ⟨EE, JB, by simp⟩) (by kernel_rfl)
def N0 : aC := ⟨51, [a1, a7, a6], .int .i64 0⟩
theorem IK : ax E N0 := aq (n := 100) (l := [O_, G0]) (by simp only [List.forall_mem_cons]; exact ⟨I9, Ba, by simp⟩) (by kernel_rfl)
def OA : aC := ⟨48, [.int .i64 0, .int .i64 0, .int .i64 1], .bool true⟩
theorem Kz : ax E OA := aq (n := 100) (l := []) (by simp) (by kernel_rfl)
def Oy : aC := ⟨78, [a1, .int .i64 1, a8], .bool true⟩
theorem Ja : ax E Oy := aq (n := 100) (l := [OA, KH]) (by simp only [List.forall_mem_cons]; exact ⟨Kz, DX, by simp⟩) (by kernel_rfl)
def OH : aC := ⟨51, [a1, a9, a8], .int .i64 0⟩
theorem IL : ax E OH := aq (n := 100) (l := [Oy, G0]) (by simp only [List.forall_mem_cons]; exact ⟨Ja, Ba, by simp⟩) (by kernel_rfl)
def OZ : aC := ⟨91, [a4, .fptr [.int .i64 1], .fptr [.int .i64 1]], .bool true⟩
theorem JU : ax E OZ := aq (n := 100) (l := []) (by simp) (by kernel_rfl)
def Pq : aC := ⟨35, [Po, ON], .int .i64 0⟩
theorem JW : ax E Pq := aq (n := 100) (l := [OZ]) (by simp only [List.forall_mem_cons]; exact ⟨JU, by simp⟩) (by kernel_rfl)
def OE : aC := ⟨26, [Po, ON], .bool true⟩
theorem Ka : ax E OE := aq (n := 100) (l := [Pq]) (by simp only [List.forall_mem_cons]; exact ⟨JW, by simp⟩) (by kernel_rfl)
def Ou : aC := ⟨68, [a1, .int .i64 0, .int .i64 1, .int .i64 1], .bool true⟩
theorem Jm : ax E Ou := aq (n := 100) (l := [OE]) (by simp only [List.forall_mem_cons]; exact ⟨Ka, by simp⟩) (by kernel_rfl)
def Ot : aC := ⟨44, [a1], .tup [.fptr [.int .i64 0, .int .i64 0, .int .i64 0, .int .i64 0, .int .i64 0, .int .i64 1, .int .i64 1, .int .i64 1, .int .i64 0, .int .i64 2, .int .i64 0, .int .i64 0, .int .i64 0, .int .i64 0, .int .i64 0, .int .i64 0, .int .i64 0, .int .i64 0, .int .i64 0, .int .i64 0, .int .i64 0, .int .i64 0, .int .i64 0, .int .i64 0, .int .i64 0, .int .i64 0, .int .i64 0, .int .i64 0, .int .i64 0, .int .i64 0, .int .i64 0, .int .i64 0, .int .i64 0, .int .i64 0, .int .i64 0, .int .i64 0, .int .i64 0, .int .i64 0, .int .i64 0, .int .i64 0, .int .i64 0, .int .i64 0, .int .i64 0, .int .i64 0, .int .i64 0, .int .i64 0, .int .i64 0, .int .i64 0, .int .i64 0, .int .i64 0, .int .i64 0, .int .i64 0, .int .i64 0, .int .i64 0, .int .i64 0, .int .i64 0, .int .i64 0, .int .i64 0, .int .i64 0, .int .i64 0, .int .i64 0, .int .i64 0, .int .i64 0, .int .i64 0, .int .i64 0, .int .i64 0, .int .i64 0, .int .i64 0, .int .i64 0, .int .i64 0, .int .i64 0, .int .i64 0, .int .i64 0, .int .i64 0, .int .i64 0, .int .i64 0, .int .i64 0, .int .i64 0, .int .i64 0, .int .i64 0, .int .i64 0, .int .i64 0, .int .i64 0, .int .i64 0, .int .i64 0, .int .i64 0, .int .i64 0, .int .i64 0, .int .i64 0, .int .i64 0, .int .i64 0, .int .i64 0, .int .i64 0, .int .i64 0, .int .i64 0, .int .i64 0, .int .i64 0, .int .i64 0, .int .i64 0, .int .i64 0, .int .i64 0, .int .i64 0, .int .i64 0, .int .i64 0, .int .i64 0, .int .i64 0, .int .i64 0, .int .i64 0, .int .i64 0, .int .i64 0, .int .i64 0, .int .i64 0, .int .i64 0, .int .i64 0, .int .i64 0, .int .i64 0, .int .i64 0, .int .i64 0, .int .i64 0, .int .i64 0, .int .i64 0, .int .i64 0, .int .i64 0, .int .i64 0, .int .i64 0, .int .i64 0, .int .i64 0, .int .i64 0, .int .i64 0, .int .i64 0, .int .i64 0, .int .i64 0, .int .i64 0, .int .i64 0, .int .i64 0, .int .i64 0, .int .i64 0, .int .i64 0, .int .i64 0, .int .i64 0, .int .i64 0, .int .i64 0, .int .i64 0, .int .i64 0, .int .i64 0, .int .i64 0, .int .i64 0, .int .i64 0, .int .i64 0, .int .i64 0, .int .i64 0, .int .i64 0, .int .i64 0, .int .i64 0, .int .i64 0, .int .i64 0, .int .i64 0, .int .i64 0, .int .i64 0, .int .i64 0, .int .i64 0, .int .i64 0, .int .i64 0, .int .i64 0, .int .i64 0, .int .i64 0, .int .i64 0, .int .i64 0, .int .i64 0, .int .i64 0, .int .i64 0, .int .i64 0, .int .i64 0, .int .i64 0, .int .i64 0, .int .i64 0, .int .i64 0, .int .i64 0, .int .i64 0, .int .i64 0, .int .i64 0, .int .i64 0, .int .i64 0, .int .i64 0, .int .i64 0, .int .i64 0, .int .i64 0, .int .i64 0, .int .i64 0, .int .i64 0, .int .i64 0, .int .i64 0, .int .i64 0, .int .i64 0, .int .i64 0, .int .i64 0, .int .i64 0, .int .i64 0, .int .i64 0, .int .i64 0, .int .i64 0, .int .i64 0, .int .i64 0, .int .i64 0, .int .i64 0, .int .i64 0, .int .i64 0, .int .i64 0, .int .i64 0, .int .i64 0, .int .i64 0, .int .i64 0, .int .i64 0, .int .i64 0, .int .i64 0, .int .i64 0, .int .i64 0, .int .i64 0, .int .i64 0, .int .i64 0, .int .i64 0, .int .i64 0, .int .i64 0, .int .i64 0, .int .i64 0, .int .i64 0, .int .i64 0, .int .i64 0, .int .i64 0, .int .i64 0, .int .i64 0, .int .i64 0, .int .i64 0, .int .i64 0, .int .i64 0, .int .i64 0, .int .i64 0, .int .i64 0, .int .i64 0, .int .i64 0, .int .i64 0, .int .i64 0, .int .i64 0, .int .i64 0, .int .i64 0, .int .i64 0, .int .i64 0, .int .i64 0, .int .i64 0, .int .i64 0, .int .i64 0, .int .i64 0, .int .i64 0, .int .i64 0, .int .i64 0, .int .i64 0, .int .i64 0, .int .i64 0, .int .i64 0, .int .i64 0, .int .i64 0, .int .i64 0, .int .i64 0, .int .i64 0, .int .i64 0, .int .i64 0, .int .i64 0, .int .i64 0, .int .i64 0, .int .i64 0, .int .i64 0, .int .i64 0, .int .i64 0, .int .i64 0, .int .i64 0, .int .i64 0, .int .i64 0, .int .i64 0, .int .i64 0, .int .i64 0, .int .i64 0, .int .i64 0, .int .i64 0, .int .i64 0, .int .i64 0, .int .i64 0, .int .i64 0, .int .i64 0, .int .i64 0, .int .i64 0, .int .i64 0, .int .i64 0, .int .i64 0, .int .i64 0, .int .i64 0, .int .i64 0, .int .i64 0, .int .i64 0, .int .i64 0, .int .i64 0, .int .i64 0, .int .i64 0, .int .i64 0, .int .i64 0, .int .i64 0, .int .i64 0, .int .i64 0, .int .i64 0, .int .i64 0, .int .i64 0, .int .i64 0, .int .i64 0, .int .i64 0, .int .i64 0, .int .i64 0, .int .i64 0, .int .i64 0, .int .i64 0, .int .i64 0, .int .i64 0, .int .i64 0, .int .i64 0, .int .i64 0, .int .i64 0, .int .i64 0, .int .i64 0, .int .i64 0, .int .i64 0, .int .i64 0, .int .i64 0, .int .i64 0, .int .i64 0, .int .i64 0, .int .i64 0, .int .i64 0, .int .i64 0, .int .i64 0, .int .i64 0, .int .i64 0, .int .i64 0, .int .i64 0, .int .i64 0, .int .i64 0, .int .i64 0, .int .i64 0, .int .i64 0, .int .i64 0, .int .i64 0, .int .i64 0, .int .i64 0, .int .i64 0, .int .i64 0, .int .i64 0, .int .i64 0, .int .i64 0, .int .i64 0, .int .i64 0, .int .i64 0, .int .i64 0, .int .i64 0, .int .i64 0, .int .i64 0, .int .i64 0, .int .i64 0, .int .i64 0, .int .i64 0, .int .i64 0, .int .i64 0, .int .i64 0, .int .i64 0, .int .i64 0, .int .i64 0, .int .i64 0, .int .i64 0, .int .i64 0, .int .i64 0, .int .i64 0, .int .i64 0, .int .i64 0, .int .i64 0, .int .i64 0, .int .i64 0, .int .i64 0, .int .i64 0, .int .i64 0, .int .i64 0, .int .i64 0, .int .i64 0, .int .i64 0, .int .i64 0, .int .i64 0, .int .i64 0, .int .i64 0, .int .i64 0, .int .i64 0, .int .i64 0, .int .i64 0, .int .i64 0, .int .i64 0, .int .i64 0, .int .i64 0, .int .i64 0, .int .i64 0, .int .i64 0, .int .i64 0, .int .i64 0, .int .i64 0, .int .i64 0, .int .i64 0, .int .i64 0, .int .i64 0, .int .i64 0, .int .i64 0, .int .i64 0, .int .i64 0, .int .i64 0, .int .i64 0, .int .i64 0, .int .i64 0, .int .i64 0, .int .i64 0, .int .i64 0, .int .i64 0, .int .i64 0, .int .i64 0, .int .i64 0, .int .i64 0, .int .i64 0, .int .i64 0, .int .i64 0, .int .i64 0, .int .i64 0, .int .i64 0, .int .i64 0, .int .i64 0, .int .i64 0, .int .i64 0, .int .i64 0, .int .i64 0, .int .i64 0, .int .i64 0, .int .i64 0, .int .i64 0, .int .i64 0, .int .i64 0, .int .i64 0, .int .i64 0, .int .i64 0, .int .i64 0, .int .i64 0, .int .i64 0, .int .i64 0, .int .i64 0, .int .i64 0, .int .i64 0, .int .i64 0, .int .i64 0, .int .i64 0, .int .i64 0, .int .i64 0, .int .i64 0, .int .i64 0, .int .i64 0, .int .i64 0, .int .i64 0, .int .i64 0, .int .i64 0, .int .i64 0, .int .i64 0, .int .i64 0, .int .i64 0, .int .i64 0, .int .i64 0, .int .i64 0, .int .i64 0, .int .i64 0, .int .i64 0, .int .i64 0, .int .i64 0, .int .i64 0, .int .i64 0, .int .i64 0, .int .i64 0, .int .i64 0, .int .i64 0, .int .i64 0, .int .i64 0, .int .i64 0, .int .i64 0, .int .i64 0, .int .i64 0, .int .i64 0, .int .i64 0, .int .i64 0, .int .i64 0, .int .i64 0, .int .i64 0, .int .i64 0, .int .i64 0, .int .i64 0, .int .i64 0, .int .i64 0, .int .i64 0, .int .i64 0, .int .i64 0, .int .i64 0, .int .i64 0, .int .i64 0, .int .i64 0, .int .i64 0, .int .i64 0, .int .i64 0, .int .i64 0, .int .i64 0, .int .i64 0, .int .i64 0, .int .i64 0, .int .i64 0, .int .i64 0, .int .i64 0, .int .i64 0, .int .i64 0, .int .i64 0, .int .i64 0, .int .i64 0, .int .i64 0, .int .i64 0, .int .i64 0, .int .i64 0, .int .i64 0, .int .i64 0, .int .i64 0, .int .i64 0, .int .i64 0, .int .i64 0, .int .i64 0, .int .i64 0, .int .i64 0, .int .i64 0, .int .i64 0, .int .i64 0, .int .i64 0, .int .i64 0, .int .i64 0, .int .i64 0, .int .i64 0, .int .i64 0, .int .i64 0, .int .i64 0, .int .i64 0, .int .i64 0, .int .i64 0, .int .i64 0, .int .i64 0, .int .i64 0, .int .i64 0, .int .i64 0, .int .i64 0, .int .i64 0, .int .i64 0, .int .i64 0, .int .i64 0, .int .i64 0, .int .i64 0, .int .i64 0, .int .i64 0, .int .i64 0, .int .i64 0, .int .i64 0, .int .i64 0, .int .i64 0, .int .i64 0, .int .i64 0, .int .i64 0, .int .i64 0, .int .i64 0, .int .i64 0, .int .i64 0, .int .i64 0, .int .i64 0, .int .i64 0, .int .i64 0, .int .i64 0, .int .i64 0, .int .i64 0, .int .i64 0, .int .i64 0, .int .i64 0, .int .i64 0, .int .i64 0, .int .i64 0, .int .i64 0, .int .i64 0, .int .i64 0, .int .i64 0, .int .i64 0, .int .i64 0, .int .i64 0, .int .i64 0, .int .i64 0, .int .i64 0, .int .i64 0, .int .i64 0, .int .i64 0, .int .i64 0, .int .i64 0, .int .i64 0, .int .i64 0, .int .i64 0, .int .i64 0, .int .i64 0, .int .i64 0, .int .i64 0, .int .i64 0, .int .i64 0, .int .i64 0, .int .i64 0, .int .i64 0, .int .i64 0, .int .i64 0, .int .i64 0, .int .i64 0, .int .i64 0, .int .i64 0, .int .i64 0, .int .i64 0, .int .i64 0, .int .i64 0, .int .i64 0, .int .i64 0, .int .i64 0, .int .i64 0, .int .i64 0, .int .i64 0, .int .i64 0, .int .i64 0, .int .i64 0, .int .i64 0, .int .i64 0, .int .i64 0, .int .i64 0, .int .i64 0, .int .i64 0, .int .i64 0, .int .i64 0, .int .i64 0, .int .i64 0, .int .i64 0, .int .i64 0, .int .i64 0, .int .i64 0, .int .i64 0, .int .i64 0, .int .i64 0, .int .i64 0, .int .i64 0, .int .i64 0, .int .i64 0, .int .i64 0, .int .i64 0, .int .i64 0, .int .i64 0, .int .i64 0, .int .i64 0, .int .i64 0, .int .i64 0, .int .i64 0, .int .i64 0, .int .i64 0, .int .i64 0, .int .i64 0, .int .i64 0, .int .i64 0, .int .i64 0, .int .i64 0, .int .i64 0, .int .i64 0, .int .i64 0, .int .i64 0, .int .i64 0, .int .i64 0, .int .i64 0, .int .i64 0, .int .i64 0, .int .i64 0, .int .i64 0, .int .i64 0, .int .i64 0, .int .i64 0, .int .i64 0, .int .i64 0, .int .i64 0, .int .i64 0, .int .i64 0, .int .i64 0, .int .i64 0, .int .i64 0, .int .i64 0, .int .i64 0, .int .i64 0, .int .i64 0, .int .i64 0, .int .i64 0, .int .i64 0, .int .i64 0, .int .i64 0, .int .i64 0, .int .i64 0, .int .i64 0, .int .i64 0, .int .i64 0, .int .i64 0, .int .i64 0, .int .i64 0, .int .i64 0, .int .i64 0, .int .i64 0, .int .i64 0, .int .i64 0, .int .i64 0, .int .i64 0, .int .i64 0, .int .i64 0, .int .i64 0, .int .i64 0, .int .i64 0, .int .i64 0, .int .i64 0, .int .i64 0, .int .i64 0, .int .i64 0, .int .i64 0, .int .i64 0, .int .i64 0, .int .i64 0, .int .i64 0, .int .i64 0, .int .i64 0, .int .i64 0, .int .i64 0, .int .i64 0, .int .i64 0, .int .i64 0, .int .i64 0, .int .i64 0, .int .i64 0, .int .i64 0, .int .i64 0, .int .i64 0, .int .i64 0, .int .i64 0, .int .i64 0, .int .i64 0, .int .i64 0, .int .i64 0, .int .i64 0, .int .i64 0, .int .i64 0, .int .i64 0, .int .i64 0, .int .i64 0, .int .i64 0, .int .i64 0, .int .i64 0, .int .i64 0, .int .i64 0, .int .i64 0, .int .i64 0, .int .i64 0, .int .i64 0, .int .i64 0, .int .i64 0, .int .i64 0, .int .i64 0, .int .i64 0, .int .i64 0, .int .i64 0, .int .i64 0, .int .i64 0, .int .i64 0, .int .i64 0, .int .i64 0, .int .i64 0, .int .i64 0, .int .i64 0, .int .i64 0, .int .i64 0, .int .i64 0, .int .i64 0, .int .i64 0, .int .i64 0, .int .i64 0, .int .i64 0, .int .i64 0, .int .i64 0, .int .i64 0, .int .i64 0, .int .i64 0, .int .i64 0, .int .i64 0], .agg [.int .i64 0, .int .i64 0], .int .i64 0]⟩
theorem IB : ax E Ot := aq (n := 100) (l := [EJ, Ou]) (by simp only [List.forall_mem_cons]; exact ⟨wY, Jm, by simp⟩) (by kernel_rfl)
def Pf : aC := ⟨81, [a1, GW, a5], .fsl 2 [[.int .i64 0, .int .i64 2], [.int .i64 1, .int .i64 1]]⟩
theorem J4 : ax E Pf := aq (n := 100) (l := []) (by simp) (by kernel_rfl)
def PC : aC := ⟨81, [a1, GW, a9], .au⟩
theorem Js : ax E PC := aq (n := 100) (l := []) (by simp) (by kernel_rfl)
def PJ : aC := ⟨81, [a1, GW, a7], .au⟩
theorem J3 : ax E PJ := aq (n := 100) (l := []) (by simp) (by kernel_rfl)
def Pn : aC := ⟨52, [a1, GW], .tup [.agg [.int .i64 0, .int .i64 0], .bool false]⟩
theorem I7 : ax E Pn := aq (n := 100) (l := [EJ, Pf, PC, PJ]) (by simp only [List.forall_mem_cons]; exact ⟨wY, J4, Js, J3, by simp⟩) (by kernel_rfl)
def Pk : aC := ⟨28, [a1], .tup [.agg [.int .i64 0, .int .i64 0], .int .i64 0]⟩
theorem Jy : ax E Pk := aq (n := 100) (l := [k0, k5, NT, EJ, Ow, N0, OH, Ot, Pn]) (by simp only [List.forall_mem_cons]; exact ⟨NK, MB, J8, wY, JZ, IK, IL, IB, I7, by simp⟩) (by kernel_rfl)
def AJ : aC := ⟨8, [a1], .bool true⟩
theorem rC : ax E AJ := aq (n := 100) (l := [Pk]) (by simp only [List.forall_mem_cons]; exact ⟨Jy, by simp⟩) (by kernel_rfl)
def Km : aC := ⟨34, [a1, .int .i64 0, .int .i64 1], .int .i64 0⟩
theorem EY : ax E Km := aq (n := 100) (l := [AJ]) (by simp only [List.forall_mem_cons]; exact ⟨rC, by simp⟩) (by kernel_rfl)
def GP : aC := ⟨31, [a1, .int .i64 0, .int .i64 1], xE⟩
theorem Bj : ax E GP := aq (n := 100) (l := []) (by simp) (by kernel_rfl)
def Pu : aC := ⟨82, [DR, Hf], .bool false⟩
theorem IP : ax E Pu := aq (n := 100) (l := []) (by simp) (by kernel_rfl)
def PX : aC := ⟨85, [Ki, zq], .int .i64 (-1)⟩
theorem J5 : ax E PX := aq (n := 100) (l := [Pu]) (by simp only [List.forall_mem_cons]; exact ⟨IP, by simp⟩) (by kernel_rfl)
def N6 : aC := ⟨58, [Ki, zq], .bool false⟩
theorem Jx : ax E N6 := aq (n := 100) (l := [PX]) (by simp only [List.forall_mem_cons]; exact ⟨J5, by simp⟩) (by kernel_rfl)
def IN : aC := ⟨53, [a1, Ki], .bool true⟩
theorem DZ : ax E IN := aq (n := 100) (l := [AJ, N6]) (by simp only [List.forall_mem_cons]; exact ⟨rC, Jx, by simp⟩) (by kernel_rfl)
def J7 : aC := ⟨54, [a1, DR], .bool true⟩
theorem D0 : ax E J7 := aq (n := 100) (l := []) (by simp) (by kernel_rfl)
def J6 : aC := ⟨83, [a1, DR], GM⟩
theorem EB : ax E J6 := aq (n := 100) (l := []) (by simp) (by kernel_rfl)
def Ix : aC := ⟨105, [.int .i64 2], .bool false⟩
theorem DW : ax E Ix := aq (n := 100) (l := []) (by simp) (by kernel_rfl)
def NR : aC := ⟨100, [.int .i64 2, .int .i64 1], .bool false⟩
theorem Ks : ax E NR := aq (n := 100) (l := [Ix]) (by simp only [List.forall_mem_cons]; exact ⟨DW, by simp⟩) (by kernel_rfl)
def GI : aC := ⟨105, [.int .i64 1], .bool false⟩
theorem A9 : ax E GI := aq (n := 100) (l := []) (by simp) (by kernel_rfl)
def KI : aC := ⟨100, [.int .i64 1, .int .i64 1], .bool false⟩
theorem EW : ax E KI := aq (n := 100) (l := [GI]) (by simp only [List.forall_mem_cons]; exact ⟨A9, by simp⟩) (by kernel_rfl)
def OS : aC := ⟨84, [G6, .int .i64 1], PK⟩
theorem JJ : ax E OS := aq (n := 100) (l := [NR, KI]) (by simp only [List.forall_mem_cons]; exact ⟨Ks, EW, by simp⟩) (by kernel_rfl)
def Kr : aC := ⟨57, [G6, .int .i64 1], .int .i64 1⟩
theorem Ek : ax E Kr := aq (n := 100) (l := [OS]) (by simp only [List.forall_mem_cons]; exact ⟨JJ, by simp⟩) (by kernel_rfl)
def Ol : aC := ⟨100, [.int .i64 1, .int .i64 0], .bool false⟩
theorem IY : ax E Ol := aq (n := 100) (l := [GI]) (by simp only [List.forall_mem_cons]; exact ⟨A9, by simp⟩) (by kernel_rfl)
def OC : aC := ⟨101, [.int .i64 1], .bool false⟩
theorem KQ : ax E OC := aq (n := 100) (l := []) (by simp) (by kernel_rfl)
def PD : aC := ⟨84, [.fsl 1 [[.int .i64 1]], .int .i64 0], KL⟩
theorem IQ : ax E PD := aq (n := 100) (l := [Ol, OC]) (by simp only [List.forall_mem_cons]; exact ⟨IY, KQ, by simp⟩) (by kernel_rfl)
def Iy : aC := ⟨57, [.fsl 1 [[.int .i64 1]], .int .i64 0], .int .i64 0⟩
theorem Eo : ax E Iy := aq (n := 100) (l := [PD]) (by simp only [List.forall_mem_cons]; exact ⟨IQ, by simp⟩) (by kernel_rfl)
def Jq : aC := ⟨32, [xE, DR], .int .i64 1⟩
theorem ET : ax E Jq := aq (n := 100) (l := [Kr, Iy]) (by simp only [List.forall_mem_cons]; exact ⟨Ek, Eo, by simp⟩) (by kernel_rfl)
def Om : aC := ⟨82, [Aw, Hf], .bool false⟩
theorem JQ : ax E Om := aq (n := 100) (l := []) (by simp) (by kernel_rfl)
def PF : aC := ⟨85, [IG, zq], .int .i64 (-1)⟩
theorem Ju : ax E PF := aq (n := 100) (l := [Om]) (by simp only [List.forall_mem_cons]; exact ⟨JQ, by simp⟩) (by kernel_rfl)
def OG : aC := ⟨58, [IG, zq], .bool false⟩
theorem Jj : ax E OG := aq (n := 100) (l := [PF]) (by simp only [List.forall_mem_cons]; exact ⟨Ju, by simp⟩) (by kernel_rfl)
def JN : aC := ⟨53, [a1, IG], .bool true⟩
theorem Ez : ax E JN := aq (n := 100) (l := [AJ, OG]) (by simp only [List.forall_mem_cons]; exact ⟨rC, Jj, by simp⟩) (by kernel_rfl)
def JM : aC := ⟨54, [a1, Aw], .bool true⟩
theorem EN : ax E JM := aq (n := 100) (l := []) (by simp) (by kernel_rfl)
def J0 : aC := ⟨83, [a1, Aw], GM⟩
theorem Ex : ax E J0 := aq (n := 100) (l := []) (by simp) (by kernel_rfl)
def OQ : aC := ⟨100, [.int .i64 2, .int .i64 2], .bool false⟩
theorem J9 : ax E OQ := aq (n := 100) (l := [Ix]) (by simp only [List.forall_mem_cons]; exact ⟨DW, by simp⟩) (by kernel_rfl)
def NQ : aC := ⟨100, [.int .i64 1, .int .i64 2], .bool true⟩
theorem Iw : ax E NQ := aq (n := 100) (l := [GI]) (by simp only [List.forall_mem_cons]; exact ⟨A9, by simp⟩) (by kernel_rfl)
def Oj : aC := ⟨84, [G6, .int .i64 2], .tup [.int .i64 1, .bool true]⟩
theorem I8 : ax E Oj := aq (n := 100) (l := [OQ, NQ]) (by simp only [List.forall_mem_cons]; exact ⟨J9, Iw, by simp⟩) (by kernel_rfl)
def GY : aC := ⟨57, [G6, .int .i64 2], .int .i64 2⟩
theorem Ag : ax E GY := aq (n := 100) (l := [Oj]) (by simp only [List.forall_mem_cons]; exact ⟨I8, by simp⟩) (by kernel_rfl)
def II : aC := ⟨32, [xE, Aw], .int .i64 2⟩
theorem DQ : ax E II := aq (n := 100) (l := [GY, Iy]) (by simp only [List.forall_mem_cons]; exact ⟨Ag, Eo, by simp⟩) (by kernel_rfl)
def Pg : aC := ⟨23, [a1, .int .i64 0, .int .i64 1], .tup [.int .i64 2, .fsl 1 [[.int .i64 2], [.int .i64 0]], .int .i64 0]⟩
theorem Jl : ax E Pg := aq (n := 100) (l := [Km, GP, IN, J7, J6, Jq, JN, JM, J0, II]) (by simp only [List.forall_mem_cons]; exact ⟨EY, Bj, DZ, D0, EB, ET, Ez, EN, Ex, DQ, by simp⟩) (by kernel_rfl)
def Pp : aC := ⟨82, [s6, Hf], .bool false⟩
theorem J2 : ax E Pp := aq (n := 100) (l := []) (by simp) (by kernel_rfl)
def PV : aC := ⟨85, [GQ, zq], .int .i64 (-1)⟩
theorem JY : ax E PV := aq (n := 100) (l := [Pp]) (by simp only [List.forall_mem_cons]; exact ⟨J2, by simp⟩) (by kernel_rfl)
def O4 : aC := ⟨58, [GQ, zq], .bool false⟩
theorem Jp : ax E O4 := aq (n := 100) (l := [PV]) (by simp only [List.forall_mem_cons]; exact ⟨JY, by simp⟩) (by kernel_rfl)
def G1 : aC := ⟨53, [a1, GQ], .bool true⟩
theorem Ar : ax E G1 := aq (n := 100) (l := [AJ, O4]) (by simp only [List.forall_mem_cons]; exact ⟨rC, Jp, by simp⟩) (by kernel_rfl)
def He : aC := ⟨54, [a1, s6], .bool true⟩
theorem A8 : ax E He := aq (n := 100) (l := []) (by simp) (by kernel_rfl)
def N8 : aC := ⟨104, [a1, .int .i64 2, .int .i64 1], Oo⟩
theorem JR : ax E N8 := aq (n := 100) (l := [AJ, EJ]) (by simp only [List.forall_mem_cons]; exact ⟨rC, wY, by simp⟩) (by kernel_rfl)
def G4 : aC := ⟨99, [a1, .int .i64 1], Oo⟩
theorem Bw : ax E G4 := aq (n := 100) (l := [N8]) (by simp only [List.forall_mem_cons]; exact ⟨JR, by simp⟩) (by kernel_rfl)
def Ho : aC := ⟨83, [a1, s6], GM⟩
theorem Ai : ax E Ho := aq (n := 100) (l := [G4]) (by simp only [List.forall_mem_cons]; exact ⟨Bw, by simp⟩) (by kernel_rfl)
def Pa : aC := ⟨84, [.fsl 1 [[.int .i64 1]], .int .i64 1], PK⟩
theorem Jo : ax E Pa := aq (n := 100) (l := [KI]) (by simp only [List.forall_mem_cons]; exact ⟨EW, by simp⟩) (by kernel_rfl)
def Ir : aC := ⟨57, [.fsl 1 [[.int .i64 1]], .int .i64 1], .int .i64 1⟩
theorem E5 : ax E Ir := aq (n := 100) (l := [Pa]) (by simp only [List.forall_mem_cons]; exact ⟨Jo, by simp⟩) (by kernel_rfl)
def Hl : aC := ⟨32, [xE, s6], .int .i64 1⟩
theorem Ay : ax E Hl := aq (n := 100) (l := [GY, Ir]) (by simp only [List.forall_mem_cons]; exact ⟨Ag, E5, by simp⟩) (by kernel_rfl)
def NU : aC := ⟨46, [xE, a1, s6, .int .i64 1], s6⟩
theorem KC : ax E NU := aq (n := 100) (l := [G1, He, Ho, Hl]) (by simp only [List.forall_mem_cons]; exact ⟨Ar, A8, Ai, Ay, by simp⟩) (by kernel_rfl)
def Py : aC := ⟨47, [xE, a1, DR, .int .i64 1], .tup [.fsl 1 [[.int .i64 1], [.int .i64 0]], .bool true]⟩
theorem Jc : ax E Py := aq (n := 100) (l := [IN, J7, J6, Jq]) (by simp only [List.forall_mem_cons]; exact ⟨DZ, D0, EB, ET, by simp⟩) (by kernel_rfl)
def Oz : aC := ⟨47, [xE, a1, Aw, .int .i64 1], .tup [.fsl 1 [[.int .i64 2], [.int .i64 1]], .bool true]⟩
theorem IU : ax E Oz := aq (n := 100) (l := [JN, JM, J0, II, GY, G1, He, Ho, Hl]) (by simp only [List.forall_mem_cons]; exact ⟨Ez, EN, Ex, DQ, Ag, Ar, A8, Ai, Ay, by simp⟩) (by kernel_rfl)
def PU : aC := ⟨82, [B0, Hf], .bool false⟩
theorem JG : ax E PU := aq (n := 100) (l := []) (by simp) (by kernel_rfl)
def O1 : aC := ⟨85, [Je, zq], .int .i64 (-1)⟩
theorem Kw : ax E O1 := aq (n := 100) (l := [PU]) (by simp only [List.forall_mem_cons]; exact ⟨JG, by simp⟩) (by kernel_rfl)
def PZ : aC := ⟨58, [Je, zq], .bool false⟩
theorem Kj : ax E PZ := aq (n := 100) (l := [O1]) (by simp only [List.forall_mem_cons]; exact ⟨Kw, by simp⟩) (by kernel_rfl)
def N1 : aC := ⟨53, [a1, Je], .bool true⟩
theorem KF : ax E N1 := aq (n := 100) (l := [AJ, PZ]) (by simp only [List.forall_mem_cons]; exact ⟨rC, Kj, by simp⟩) (by kernel_rfl)
def OU : aC := ⟨54, [a1, B0], .bool true⟩
theorem Jn : ax E OU := aq (n := 100) (l := []) (by simp) (by kernel_rfl)
def PW : aC := ⟨83, [a1, B0], .tup [.agg [.int .i64 0, .int .i64 1], .agg [.int .i64 1, .int .i64 1], .bool true]⟩
theorem JE : ax E PW := aq (n := 100) (l := [G4]) (by simp only [List.forall_mem_cons]; exact ⟨Bw, by simp⟩) (by kernel_rfl)
def NZ : aC := ⟨83, [a1, O7], GM⟩
theorem JP : ax E NZ := aq (n := 100) (l := [G4]) (by simp only [List.forall_mem_cons]; exact ⟨Bw, by simp⟩) (by kernel_rfl)
def OP : aC := ⟨32, [xE, O7], .int .i64 0⟩
theorem Ji : ax E OP := aq (n := 100) (l := [Kr, Ir]) (by simp only [List.forall_mem_cons]; exact ⟨Ek, E5, by simp⟩) (by kernel_rfl)
def PT : aC := ⟨47, [xE, a1, B0, .int .i64 1], .tup [.fsl 1 [[.int .i64 1], [.int .i64 1]], .bool true]⟩
theorem IW : ax E PT := aq (n := 100) (l := [N1, OU, PW, NZ, OP]) (by simp only [List.forall_mem_cons]; exact ⟨KF, Jn, JE, JP, Ji, by simp⟩) (by kernel_rfl)
def Ox : aC := ⟨24, [a1, .int .i64 0, .int .i64 1, .int .i64 1], .tup [.agg [.bool false, .fsl 1 [[.int .i64 0], [.int .i64 0]], .fsl 1 [[.int .i64 2], [.int .i64 1]], .fsl 1 [[.fsl 1 [[.fsl 1 [[.int .i64 1], [.int .i64 0]]], [.fsl 1 [[.int .i64 2], [.int .i64 1]]]]], [.fsl 1 [[.fsl 1 [[.int .i64 1], [.int .i64 1]]]]]]], .int .i64 0]⟩
theorem Ko : ax E Ox := aq (n := 100) (l := [Km, GP, NU, Py, Oz, PT]) (by simp only [List.forall_mem_cons]; exact ⟨EY, Bj, KC, Jc, IU, IW, by simp⟩) (by kernel_rfl)
def PL : aC := ⟨56, [a1, s6], .bool true⟩
theorem KK : ax E PL := aq (n := 100) (l := [Ho]) (by simp only [List.forall_mem_cons]; exact ⟨Ai, by simp⟩) (by kernel_rfl)
def Oa : aC := ⟨29, [a1, GQ, .au], .int .i64 0⟩
theorem Jf : ax E Oa := aq (n := 100) (l := [G1, He, PL]) (by simp only [List.forall_mem_cons]; exact ⟨Ar, A8, KK, by simp⟩) (by kernel_rfl)
def Pb : aC := ⟨30, [a1, s6], .tup [.fsl 2 [[.int .i64 0, .int .i64 2], [.int .i64 1, .int .i64 1]], .int .i64 0]⟩
theorem I6 : ax E Pb := aq (n := 100) (l := [Oa]) (by simp only [List.forall_mem_cons]; exact ⟨Jf, by simp⟩) (by kernel_rfl)
def N4 : aC := ⟨31, [a1, .int .i64 1, .int .i64 0], N3⟩
theorem KM : ax E N4 := aq (n := 100) (l := []) (by simp) (by kernel_rfl)
def NX : aC := ⟨84, [.au, .int .i64 1], KL⟩
theorem Kb : ax E NX := aq (n := 100) (l := []) (by simp) (by kernel_rfl)
def O9 : aC := ⟨57, [.au, .int .i64 1], .int .i64 0⟩
theorem Jt : ax E O9 := aq (n := 100) (l := [NX]) (by simp only [List.forall_mem_cons]; exact ⟨Kb, by simp⟩) (by kernel_rfl)
def Ph : aC := ⟨84, [.au, .int .i64 2], KL⟩
theorem Kx : ax E Ph := aq (n := 100) (l := []) (by simp) (by kernel_rfl)
def Px : aC := ⟨57, [.au, .int .i64 2], .int .i64 0⟩
theorem JF : ax E Px := aq (n := 100) (l := [Ph]) (by simp only [List.forall_mem_cons]; exact ⟨Kx, by simp⟩) (by kernel_rfl)
def PS : aC := ⟨32, [N3, s6], .int .i64 0⟩
theorem Jk : ax E PS := aq (n := 100) (l := [O9, Px]) (by simp only [List.forall_mem_cons]; exact ⟨Jt, JF, by simp⟩) (by kernel_rfl)
def On : aC := ⟨10, [a1, s6], .tup [.fsl 1 [[.fsl 1 [[.int .i64 0], [.int .i64 1]]], [.fsl 1 [[.int .i64 0], [.int .i64 0]]]], .int .i64 0]⟩
theorem KD : ax E On := aq (n := 100) (l := [Pb, GP, Hl, N4, PS]) (by simp only [List.forall_mem_cons]; exact ⟨I6, Bj, Ay, KM, Jk, by simp⟩) (by kernel_rfl)
def Jh : aC := ⟨25, [Aw, Aw], .bool true⟩
theorem HT : ax E Jh := aq (n := 100) (l := []) (by simp) (by kernel_rfl)
def KJ : aC := ⟨25, [s6, s6], .bool true⟩
theorem Ik : ax E KJ := aq (n := 100) (l := []) (by simp) (by kernel_rfl)
def KR : aC := ⟨42, [B0, B0], .bool true⟩
theorem HZ : ax E KR := aq (n := 100) (l := []) (by simp) (by kernel_rfl)
def Ky : aC := ⟨42, [Pr, Pr], .bool true⟩
theorem HF : ax E Ky := aq (n := 100) (l := []) (by simp) (by kernel_rfl)
def KO : aC := ⟨19, [a32, a32], .bool true⟩
theorem HM : ax E KO := aq (n := 100) (l := [KR, Ky]) (by simp only [List.forall_mem_cons]; exact ⟨HZ, HF, by simp⟩) (by kernel_rfl)
theorem CA : ∃ n H1, run E n (.fn 6) [] [] = some (.bool true, H1) := DC (n := 100) (l := [Pg, Ox, On, Jh, KJ, KO]) (by simp only [List.forall_mem_cons]; exact ⟨Jl, Ko, KD, HT, Ik, HM, by simp⟩) (by kernel_rfl)
end Go.Proofs.Ytnfakljmdnbipaa
